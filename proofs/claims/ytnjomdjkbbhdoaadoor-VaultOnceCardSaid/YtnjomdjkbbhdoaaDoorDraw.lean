/-
  A region that draws its order: each operation is met once, out of what the operations that it waits for yield; whatever order is drawn, the end is one.
  No condition; nothing of the seat's program stands here.
-/
import Derived.Test.YtnjomdjkbbhdoaaDoorOps
namespace Go.Proofs.YtnjomdjkbbhdoaaDoor
open Go.RowKit
set_option linter.unusedVariables false

/-- What is known of what an operation yields: the value; or a law that holds on, whatever is laid beside. -/
inductive VP where
  | is (v : Value)
  | sat (q : World → Value → Prop)
def VP.holds : VP → World → Value → Prop
  | .is v, _, u => u = v
  | .sat q, w, u => q w u
def VP.pers : VP → Prop
  | .is _ => True
  | .sat q => ∀ w w' v, q w v → Below w.heap.size w w' → q w' v
theorem VP.pers_keep {p : VP} (h : p.pers) {w w' : World} {v : Value} (hq : p.holds w v) (hb : Below w.heap.size w w') : p.holds w' v := by
  cases p with
  | is u => exact hq
  | sat q => exact h w w' v hq hb

structure KE where
  j : Nat
  d : Nat
  p : VP

def edge (af : List Edge) (j : Nat) : Bool := match af with
  | [] => false
  | e :: r => match Nat.beq e.on j with
    | true => match Region.binds .any e with
      | true => true
      | false => edge r j
    | false => edge r j
def tlK (af : List Edge) (L0 : TL) : List KE → TL
  | [] => L0
  | e :: r => match edge af e.j with
    | true => match e.p with
      | .is v => (e.d, v) :: tlK af L0 r
      | .sat _ => tlK af L0 r
    | false => tlK af L0 r
def satK (af : List Edge) : List KE → Nat → Option (World → Value → Prop)
  | [], _ => none
  | e :: r, t => match Nat.beq e.d t with
    | true => match edge af e.j with
      | true => match e.p with
        | .is _ => none
        | .sat q => some q
      | false => none
    | false => satK af r t

theorem edge_mem {af : List Edge} {j : Nat} (h : edge af j = true) : ∃ e ∈ af, e.on = j ∧ Region.binds .any e = true := by
  induction af with
  | nil => cases h
  | cons e r ih =>
    simp only [edge] at h
    cases hb : Nat.beq e.on j with
    | true =>
      rw [hb] at h
      cases hg : Region.binds .any e with
      | true => exact ⟨e, List.mem_cons_self, Nat.eq_of_beq_eq_true hb, hg⟩
      | false => rw [hg] at h; obtain ⟨x, hx, hj⟩ := ih h; exact ⟨x, List.mem_cons_of_mem _ hx, hj⟩
    | false => rw [hb] at h; obtain ⟨x, hx, hj⟩ := ih h; exact ⟨x, List.mem_cons_of_mem _ hx, hj⟩

/-- One operation at one place: it yields what p says, and lays its memory beside. -/
def stepOK (P : Program) (l0 : List Oper) (o : Oper) (a : Act) (w : World) (p : VP) : Prop :=
  if Region.wanted o (yielded l0.toArray a.tmps) then o.wp P a w (fun a' w' => ∃ v, a' = a.put o.dst v ∧ Below w.heap.size w w' ∧ p.holds w' v) (fun _ _ _ => False)
  else p.holds w undef
def Ob (P : Program) (l0 : List Oper) (o : Oper) (N : Nat) (L : TL) (S : World → Prop) (p : VP) : Prop := ∀ a w, Fr N L a → S w → stepOK P l0 o a w p
def SatK (K : List KE) (af : List Edge) (a : Act) (w : World) : Prop := ∀ e ∈ K, edge af e.j = true → ∃ v, a.tmps[e.d]? = some v ∧ e.p.holds w v
def ObK (P : Program) (l0 : List Oper) (o : Oper) (N : Nat) (L0 : TL) (K : List KE) (S : World → Prop) (p : VP) : Prop :=
  ∀ a w, Fr N L0 a → SatK K o.after.toList a w → S w → stepOK P l0 o a w p

theorem fr_tlK {N : Nat} {L0 : TL} {a : Act} {w : World} {af : List Edge} (hf : Fr N L0 a) : ∀ {K : List KE}, SatK K af a w → Fr N (tlK af L0 K) a
  | [], _ => hf
  | e :: r, h => by
    have ih : Fr N (tlK af L0 r) a := fr_tlK hf (fun x hx => h x (List.mem_cons_of_mem _ hx))
    simp only [tlK]
    cases he : edge af e.j with
    | false => exact ih
    | true =>
      obtain ⟨v, hv, hp⟩ := h e List.mem_cons_self he
      cases hep : e.p with
      | sat q => exact ih
      | is u =>
        rw [hep] at hp
        have : v = u := hp
        subst this
        refine ⟨ih.df, ih.sz, fun i x hx => ?_⟩
        rw [lk_cons] at hx
        split at hx
        · rename_i hi; subst hi; cases hx; exact hv
        · exact ih.get i x hx

section
variable {P : Program} {l0 : List Oper} {o : Oper} {N : Nat} {L0 : TL} {K : List KE} {S : World → Prop} {p : VP}
theorem obk (h : Ob P l0 o N (tlK o.after.toList L0 K) S p) : ObK P l0 o N L0 K S p := fun a w hf hk hs => h a w (fr_tlK hf hk) hs
theorem satK_get {af : List Edge} {a : Act} {w : World} {t : Nat} {q : World → Value → Prop} : ∀ {K : List KE}, satK af K t = some q → SatK K af a w → ∃ v, a.tmps[t]? = some v ∧ q w v
  | [], h, _ => by cases h
  | e :: r, h, hk => by
    simp only [satK] at h
    cases hb : Nat.beq e.d t with
    | false => rw [hb] at h; exact satK_get h (fun x hx => hk x (List.mem_cons_of_mem _ hx))
    | true =>
      rw [hb] at h
      cases he : edge af e.j with
      | false => simp [he] at h
      | true =>
        obtain ⟨v, hv, hp⟩ := hk e List.mem_cons_self he
        rw [Nat.eq_of_beq_eq_true hb] at hv
        cases hep : e.p with
        | is u => simp [he, hep] at h
        | sat q' =>
          simp [he, hep] at h
          rw [hep] at hp
          subst h
          exact ⟨v, hv, hp⟩
theorem obk_sat (t : Nat) {q : World → Value → Prop} (hq : satK o.after.toList K t = some q) (h : ∀ v, Ob P l0 o N ((t, v) :: tlK o.after.toList L0 K) (fun w => S w ∧ q w v) p) :
    ObK P l0 o N L0 K S p := fun a w hf hk hs => by
  obtain ⟨v, hv, hqv⟩ := satK_get hq hk
  have hf' := fr_tlK hf hk
  refine h v a w ⟨hf'.df, hf'.sz, fun i x hx => ?_⟩ ⟨hs, hqv⟩
  rw [lk_cons] at hx
  split at hx
  · rename_i hi; subst hi; cases hx; exact hv
  · exact hf'.get i x hx
theorem obk_sat2 (t u : Nat) {q r : World → Value → Prop} (hq : satK o.after.toList K t = some q) (hr : satK o.after.toList K u = some r)
    (h : ∀ v x, Ob P l0 o N ((t, v) :: (u, x) :: tlK o.after.toList L0 K) (fun w => S w ∧ q w v ∧ r w x) p) : ObK P l0 o N L0 K S p := fun a w hf hk hs => by
  obtain ⟨v, hv, hqv⟩ := satK_get hq hk
  obtain ⟨x, hx, hrx⟩ := satK_get hr hk
  have hf' := fr_tlK hf hk
  refine h v x a w ⟨hf'.df, hf'.sz, fun i y hy => ?_⟩ ⟨hs, hqv, hrx⟩
  rw [lk_cons] at hy
  split at hy
  · rename_i hi; subst hi; cases hy; exact hv
  · rw [lk_cons] at hy
    split at hy
    · rename_i hi; subst hi; cases hy; exact hx
    · exact hf'.get i y hy
end

section
variable {P : Program} {l0 : List Oper} {N : Nat} {L : TL} {S : World → Prop} {p : VP} {d : Nat} {ty : TypeId} {pos : String} {af : Array Edge} {g : Option (Nat × Bool)} {op : Op}
theorem ob_step {o : Oper} (hg : gd l0 L o.guard = some true) (h : ∀ a w, Fr N L a → S w → o.wp P a w (fun a' w' => ∃ v, a' = a.put o.dst v ∧ Below w.heap.size w w' ∧ p.holds w' v) (fun _ _ _ => False)) :
    Ob P l0 o N L S p := fun a w hf hs => by
  unfold stepOK
  rw [if_pos (wanted_of hf hg)]
  exact h a w hf hs
theorem ob_skip (hg : gd l0 L g = some false) : Ob P l0 ⟨some d, op, ty, pos, af, g⟩ N L S (.is undef) := fun a w hf hs => by
  unfold stepOK
  rw [if_neg (by rw [wanted_of hf hg]; simp)]
  exact rfl
theorem ob_val {v : Value} (hg : gd l0 L g = some true) (h : Ex P op N L S v) : Ob P l0 ⟨some d, op, ty, pos, af, g⟩ N L S (.is v) := ob_step hg fun a w hf hs => by
  unfold Oper.wp
  rw [h a w hf hs]
  exact ⟨v, rfl, Below.refl _ _, rfl⟩
theorem ob_valS {v : Value} {q : World → Value → Prop} (hg : gd l0 L g = some true) (h : Ex P op N L S v) (hq : ∀ w, S w → q w v) : Ob P l0 ⟨some d, op, ty, pos, af, g⟩ N L S (.sat q) := ob_step hg fun a w hf hs => by
  unfold Oper.wp
  rw [h a w hf hs]
  exact ⟨v, rfl, Below.refl _ _, hq w hs⟩
theorem ob_w {q : World → Value → Prop} (hg : gd l0 L g = some true) (h : ∀ a w, Fr N L a → S w → ∀ d ty pos af g, ∃ v w', (execOp a.eval ⟨d, op, ty, pos, af, g⟩).run P w = .ok (.value v) w' ∧ Below w.heap.size w w' ∧ q w' v) :
    Ob P l0 ⟨some d, op, ty, pos, af, g⟩ N L S (.sat q) := ob_step hg fun a w hf hs => by
  unfold Oper.wp
  obtain ⟨v, w', h1, h2, h3⟩ := h a w hf hs (some d) ty pos af g
  rw [h1]
  exact ⟨v, rfl, h2, h3⟩
theorem ob_c {T : World → Value → World → Prop} (hg : gd l0 L g = some true) (h : ExC P op N L S T) (hT : ∀ w v w', S w → T w v w' → Below w.heap.size w w' ∧ p.holds w' v) :
    Ob P l0 ⟨some d, op, ty, pos, af, g⟩ N L S p := ob_step hg fun a w hf hs => by
  unfold Oper.wp
  obtain ⟨f, args, h1, h2⟩ := h a w hf hs (some d) ty pos af g
  rw [h1]
  refine Calls.mono h2 ?_
  rintro e w' ⟨v, rfl, hv⟩
  exact ⟨v, rfl, hT w v w' hs hv⟩
theorem ob_cv {v : Value} (hg : gd l0 L g = some true) (h : ExC P op N L S (fun w u w' => u = v ∧ Below w.heap.size w w')) : Ob P l0 ⟨some d, op, ty, pos, af, g⟩ N L S (.is v) :=
  ob_c hg h fun _ _ _ _ ⟨hu, hb⟩ => ⟨hb, hu⟩
end

/-- The operations one by one, in the text's order; 'fin' is what is asked when they are through. -/
def Flow (P : Program) (l0 : List Oper) (L0 : TL) (S : World → Prop) (N : Nat) (fin : List KE → Prop) : List Oper → Nat → List KE → Prop
  | [], _, K => fin K
  | o :: r, i, K => ∃ d p, o.dst = some d ∧ p.pers ∧ ObK P l0 o N L0 K S p ∧ Flow P l0 L0 S N fin r (i + 1) (⟨i, d, p⟩ :: K)

section
variable {P : Program} {l0 : List Oper} {L0 : TL} {S : World → Prop} {N : Nat} {fin : List KE → Prop} {r : List Oper} {i d : Nat} {K : List KE}
  {ty : TypeId} {pos : String} {af : Array Edge} {g : Option (Nat × Bool)} {op : Op}
theorem flow_is {v : Value} (h : ObK P l0 ⟨some d, op, ty, pos, af, g⟩ N L0 K S (.is v)) (k : Flow P l0 L0 S N fin r (i + 1) (⟨i, d, .is v⟩ :: K)) :
    Flow P l0 L0 S N fin (⟨some d, op, ty, pos, af, g⟩ :: r) i K := ⟨d, .is v, rfl, trivial, h, k⟩
theorem flow_sat {q : World → Value → Prop} (hq : ∀ w w' v, q w v → Below w.heap.size w w' → q w' v) (h : ObK P l0 ⟨some d, op, ty, pos, af, g⟩ N L0 K S (.sat q))
    (k : Flow P l0 L0 S N fin r (i + 1) (⟨i, d, .sat q⟩ :: K)) : Flow P l0 L0 S N fin (⟨some d, op, ty, pos, af, g⟩ :: r) i K := ⟨d, .sat q, rfl, hq, h, k⟩
theorem flow_val {v : Value} (hg : gd l0 (tlK af.toList L0 K) g = some true) (h : Ex P op N (tlK af.toList L0 K) S v) (k : Flow P l0 L0 S N fin r (i + 1) (⟨i, d, .is v⟩ :: K)) :
    Flow P l0 L0 S N fin (⟨some d, op, ty, pos, af, g⟩ :: r) i K := flow_is (obk (ob_val hg h)) k
theorem flow_skip (hg : gd l0 (tlK af.toList L0 K) g = some false) (k : Flow P l0 L0 S N fin r (i + 1) (⟨i, d, .is undef⟩ :: K)) :
    Flow P l0 L0 S N fin (⟨some d, op, ty, pos, af, g⟩ :: r) i K := flow_is (obk (ob_skip hg)) k
theorem flow_cv {v : Value} (hg : gd l0 (tlK af.toList L0 K) g = some true) (h : ExC P op N (tlK af.toList L0 K) S (fun w u w' => u = v ∧ Below w.heap.size w w'))
    (k : Flow P l0 L0 S N fin r (i + 1) (⟨i, d, .is v⟩ :: K)) : Flow P l0 L0 S N fin (⟨some d, op, ty, pos, af, g⟩ :: r) i K := flow_is (obk (ob_cv hg h)) k
end

/-! ### Soundness -/
def dstIs (o : Oper) (i : Nat) : Bool := match o.dst with
  | some d => Nat.beq d i
  | none => false
def anyDst : List Oper → Nat → Bool
  | [], _ => false
  | o :: r, i => match dstIs o i with
    | true => true
    | false => anyDst r i
/-- What is known of temporaries that none of these writes. -/
def cut (l : List Oper) : TL → TL
  | [] => []
  | p :: r => match anyDst l p.1 with
    | true => cut l r
    | false => p :: cut l r
/-- Each writes a temporary of its own, below N. -/
def ownDst (N : Nat) : List Oper → Bool
  | [] => true
  | o :: r => (match o.dst with
    | some d => Nat.blt d N && !anyDst r d
    | none => false) && ownDst N r

theorem anyDst_of {l : List Oper} {o : Oper} {d : Nat} (hm : o ∈ l) (hd : o.dst = some d) : anyDst l d = true := by
  induction l with
  | nil => cases hm
  | cons x r ih =>
    simp only [anyDst]
    cases hx : dstIs x d with
    | true => rfl
    | false =>
      rcases List.mem_cons.1 hm with rfl | hm
      · simp [dstIs, hd] at hx
      · exact ih hm
theorem lk_cut {l : List Oper} : ∀ {L : TL} {i : Nat} {v : Value}, lk (cut l L) i = some v → anyDst l i = false ∧ True
  | [], i, v, h => by cases h
  | p :: r, i, v, h => by
    simp only [cut] at h
    cases hp : anyDst l p.1 with
    | true => rw [hp] at h; exact lk_cut h
    | false =>
      rw [hp] at h
      obtain ⟨k, u⟩ := p
      simp only at h
      rw [lk_cons] at h
      split at h
      · rename_i hi; subst hi; exact ⟨hp, trivial⟩
      · exact lk_cut h
theorem fr_cut {l : List Oper} {N : Nat} {a : Act} : ∀ {L : TL}, Fr N L a → (∀ i v, lk (cut l L) i = some v → lk L i = some v) → Fr N (cut l L) a
  | L, h, hs => ⟨h.df, h.sz, fun i v hv => h.get i v (hs i v hv)⟩
theorem lk_cut_sub {l : List Oper} : ∀ (L : TL) (i : Nat) (v : Value), lk (cut l L) i = some v → lk L i = some v
  | [], i, v, h => h
  | p :: r, i, v, h => by
    obtain ⟨k, u⟩ := p
    rw [lk_cons]
    have hd : anyDst l i = false := (lk_cut h).1
    simp only [cut] at h
    cases hp : anyDst l k with
    | true =>
      rw [hp] at h
      have : ¬ k = i := by rintro rfl; rw [hp] at hd; cases hd
      rw [if_neg this]
      exact lk_cut_sub r i v h
    | false =>
      rw [hp] at h
      simp only at h
      rw [lk_cons] at h
      split at h
      · rename_i hi; rw [if_pos hi]; exact h
      · rename_i hi; rw [if_neg hi]; exact lk_cut_sub r i v h
theorem ownDst_get {N : Nat} : ∀ {l : List Oper}, ownDst N l = true → ∀ (i : Nat) (o : Oper), l[i]? = some o → ∃ d, o.dst = some d ∧ d < N
  | [], _, i, o, h => by simp at h
  | x :: r, h, i, o, ho => by
    simp only [ownDst, Bool.and_eq_true] at h
    cases i with
    | zero =>
      simp at ho; subst ho
      cases hd : x.dst with
      | none => rw [hd] at h; simp at h
      | some d =>
        rw [hd] at h
        simp only [Bool.and_eq_true] at h
        exact ⟨d, rfl, Nat.le_of_ble_eq_true h.1.1⟩
    | succ n => exact ownDst_get h.2 n o (by simpa using ho)
theorem ownDst_ne {N : Nat} : ∀ {l : List Oper}, ownDst N l = true → ∀ (i j : Nat) (oi oj : Oper) (d : Nat), l[i]? = some oi → l[j]? = some oj → oi.dst = some d → oj.dst = some d → i = j
  | [], _, i, j, oi, oj, d, h, _, _, _ => by simp at h
  | x :: r, h, i, j, oi, oj, d, hi, hj, hdi, hdj => by
    simp only [ownDst, Bool.and_eq_true] at h
    cases i with
    | zero =>
      cases j with
      | zero => rfl
      | succ m =>
        simp at hi hj; subst hi
        rw [hdi] at h
        simp only [Bool.and_eq_true, Bool.not_eq_true'] at h
        have := anyDst_of (List.mem_of_getElem? hj) hdj
        rw [h.1.2] at this; cases this
    | succ n =>
      cases j with
      | zero =>
        simp at hi hj; subst hj
        rw [hdj] at h
        simp only [Bool.and_eq_true, Bool.not_eq_true'] at h
        have := anyDst_of (List.mem_of_getElem? hi) hdi
        rw [h.1.2] at this; cases this
      | succ m => rw [ownDst_ne h.2 n m oi oj d (by simpa using hi) (by simpa using hj) hdi hdj]

theorem wp_false {P : Program} {o : Oper} {a : Act} {w : World} {K K' : Act → World → Prop} {Q : Exit → Act → World → Prop} (h : o.wp P a w K (fun _ _ _ => False)) (hk : ∀ a w, K a w → K' a w) : o.wp P a w K' Q := by
  unfold Oper.wp at *
  generalize (execOp a.eval o).run P w = r at *
  cases r with
  | ok n w' =>
    cases n <;> simp only [Oper.upon] at h ⊢ <;>
      first
        | exact hk _ _ h
        | exact Calls.mono h (fun e w'' he => by
            cases e with
            | returned v => exact hk _ _ he
            | panicked c => exact he.elim
            | outgrown => obtain ⟨_, _, hf⟩ := he; exact hf.elim)
        | exact Rows.mono h (fun _ _ he => hk _ _ he)
  | halt x w' => cases x <;> simp only [Oper.upon] at h ⊢

/-- The facts of all the operations, at hand at once. -/
theorem flow_all {P : Program} {l0 : List Oper} {L0 : TL} {S : World → Prop} {N : Nat} {fin : List KE → Prop} : ∀ (l : List Oper) (i : Nat) (K : List KE), (∀ j, j < l.length → l[j]? = l0[i + j]?) →
    (∀ e ∈ K, e.j < i) → Flow P l0 L0 S N fin l i K →
    ∃ Kf : List KE, fin Kf ∧ (∀ e ∈ K, e ∈ Kf) ∧
      (∀ e ∈ Kf, e ∈ K ∨ (i ≤ e.j ∧ e.j < i + l.length ∧ ∃ o, l0[e.j]? = some o ∧ o.dst = some e.d ∧ e.p.pers ∧ ∀ a w, Fr N L0 a → S w →
        (∀ e' ∈ Kf, edge o.after.toList e'.j = true → ∃ v, a.tmps[e'.d]? = some v ∧ e'.p.holds w v) → stepOK P l0 o a w e.p)) ∧
      (∀ k, k < l.length → ∃ e ∈ Kf, e.j = i + k) ∧ (∀ e ∈ Kf, ∀ e' ∈ Kf, i ≤ e.j → e.j = e'.j → e = e')
  | [], i, K, hl, hK, h => ⟨K, h, fun _ he => he, fun e he => .inl he, fun k hk => absurd hk (Nat.not_lt_zero _), fun e he e' he' hi _ => absurd (hK e he) (Nat.not_lt.2 hi)⟩
  | o :: r, i, K, hl, hK, h => by
    obtain ⟨d, p, hd, hp, hob, hr⟩ := h
    obtain ⟨Kf, h1, h2, h3, h4, h5⟩ := flow_all r (i + 1) (⟨i, d, p⟩ :: K)
      (fun j hj => by have := hl (j + 1) (by simp; omega); simpa [Nat.add_assoc, Nat.add_comm 1 j] using this)
      (fun e he => by rcases List.mem_cons.1 he with rfl | he; exact Nat.lt_succ_self _; exact Nat.lt_succ_of_lt (hK e he)) hr
    have h0 : l0[i]? = some o := by have := hl 0 (by simp); simpa using this.symm
    have hhead : ∀ e ∈ Kf, e.j ≤ i → e = ⟨i, d, p⟩ ∨ e ∈ K := fun e he hle => by
      rcases h3 e he with he' | ⟨hlt, _⟩
      · exact List.mem_cons.1 he'
      · omega
    refine ⟨Kf, h1, fun e he => h2 e (List.mem_cons_of_mem _ he), fun e he => ?_, fun k hk => ?_, fun e he e' he' hi hj => ?_⟩
    · rcases h3 e he with he' | ⟨a1, a2, a3⟩
      · rcases List.mem_cons.1 he' with rfl | he'
        · refine .inr ⟨Nat.le_refl _, by simp, o, h0, hd, hp, fun a w hf hs hk => hob a w hf (fun x hx hxe => hk x (h2 x (List.mem_cons_of_mem _ hx)) hxe) hs⟩
        · exact .inl he'
      · exact .inr ⟨by omega, by simp only [List.length_cons]; omega, a3⟩
    · cases k with
      | zero => exact ⟨⟨i, d, p⟩, h2 _ List.mem_cons_self, rfl⟩
      | succ k =>
        obtain ⟨e, he, hej⟩ := h4 k (by simp only [List.length_cons] at hk; omega)
        exact ⟨e, he, by omega⟩
    · by_cases hlt : i + 1 ≤ e.j
      · exact h5 e he e' he' hlt hj
      · have e1 : e = ⟨i, d, p⟩ := by
          rcases hhead e he (by omega) with h | h
          · exact h
          · have := hK e h; omega
        have e2 : e' = ⟨i, d, p⟩ := by
          rcases hhead e' he' (by omega) with h | h
          · exact h
          · have := hK e' h; omega
        rw [e1, e2]

/-- How many below n are not listed yet. -/
def cnt (listed : Array Bool) : Nat → Nat
  | 0 => 0
  | n + 1 => cnt listed n + (if listed.getD n true = false then 1 else 0)
theorem cnt_set {listed : Array Bool} {i : Nat} (hi : listed.getD i true = false) : ∀ n, i < n → cnt (listed.setIfInBounds i true) n + 1 = cnt listed n
  | 0, h => absurd h (Nat.not_lt_zero _)
  | n + 1, h => by
    simp only [cnt]
    by_cases e : i = n
    · subst e
      have h1 : ∀ m, m ≤ i → cnt (listed.setIfInBounds i true) m = cnt listed m := by
        intro m
        induction m with
        | zero => intro _; rfl
        | succ m ih => intro hm; simp only [cnt]; rw [ih (by omega), getD_set_ne true (by omega)]
      have h2 : (listed.setIfInBounds i true).getD i true = true := by
        rcases Nat.lt_or_ge i listed.size with hlt | hge
        · simp [hlt]
        · simp [hge]
      rw [h1 i (Nat.le_refl _), h2, if_pos hi]
      simp
    · have ih := cnt_set hi n (by omega)
      rw [getD_set_ne true (by omega)]
      omega
theorem cnt_zero {listed : Array Bool} : ∀ {n : Nat}, cnt listed n = 0 → ∀ i, i < n → listed.getD i true = true
  | 0, _, i, h => absurd h (Nat.not_lt_zero _)
  | n + 1, h, i, hi => by
    simp only [cnt] at h
    by_cases e : i = n
    · subst e
      cases hb : listed.getD i true with
      | true => rfl
      | false => rw [if_pos hb] at h; omega
    · exact cnt_zero (n := n) (by omega) i (by omega)
theorem cnt_pos {listed : Array Bool} : ∀ {n : Nat}, 0 < cnt listed n → ∃ i, i < n ∧ listed.getD i true = false ∧ ∀ j, j < i → listed.getD j true = true
  | 0, h => absurd h (Nat.lt_irrefl _)
  | n + 1, h => by
    by_cases h0 : 0 < cnt listed n
    · obtain ⟨i, h1, h2, h3⟩ := cnt_pos (n := n) h0; exact ⟨i, Nat.lt_succ_of_lt h1, h2, h3⟩
    · have hz : cnt listed n = 0 := by omega
      simp only [cnt, hz] at h
      refine ⟨n, Nat.lt_succ_self _, ?_, fun j hj => cnt_zero hz j hj⟩
      by_cases hb : listed.getD n true = false
      · exact hb
      · rw [if_neg hb] at h; omega
theorem cnt_fresh (m : Nat) : ∀ n, n ≤ m → cnt (Array.replicate m false) n = n
  | 0, _ => rfl
  | n + 1, h => by simp only [cnt]; rw [cnt_fresh m n (by omega), if_pos (by simp [show n < m by omega])]

/-- Each waits for what stands ahead of it in the text alone. -/
def aheadB : Nat → List Oper → Bool
  | _, [] => true
  | i, o :: r => o.after.toList.all (fun e => !Region.binds .any e || Nat.blt e.on i) && aheadB (i + 1) r
theorem ahead_get : ∀ {l : List Oper} {i : Nat}, aheadB i l = true → ∀ k o, l[k]? = some o → ∀ e ∈ o.after, Region.binds .any e = true → e.on < i + k
  | [], i, _, k, o, h, _, _, _ => by simp at h
  | x :: r, i, h, k, o, hk, e, he, hb => by
    simp only [aheadB, Bool.and_eq_true] at h
    cases k with
    | zero =>
      simp at hk; subst hk
      have := (List.all_eq_true.1 h.1) e (by simpa using he)
      simp [Nat.blt, hb] at this; omega
    | succ k =>
      have := ahead_get h.2 k o (by simpa using hk) e he hb
      omega

/-- The first n are through. -/
def firsts (n m : Nat) : Array Bool := (List.replicate n true ++ List.replicate (m - n) false).toArray
/-- n operations in whatever order; the others wait for all of them and go one by one. -/
def drawB (N : Nat) (l : List Oper) (n : Nat) : Bool :=
  Nat.ble n l.length && ownDst N (l.take n) && aheadB 0 l && (Nat.beq n l.length || (Region.sinkB .any l.toArray n && Region.chainB .any l.toArray n)) &&
    Region.seqB .any l.toArray (l.length - n) n (firsts n l.length)

theorem flow_sound {P : Program} {l : List Oper} {L : TL} {S : World → Prop} [hSta : Sta S] {N : Nat} {Q : Exit → Act → World → Prop} {id : Nat} [hm : MixT P] (n : Nat) (hB : drawB N l n = true)
    (h : Flow P l (Go.Proofs.YtnjomdjkbbhdoaaDoor.cut (l.take n) L) S N (fun K => ∀ a w, Fr N (Go.Proofs.YtnjomdjkbbhdoaaDoor.cut (l.take n) L) a → S w → (∀ e ∈ K, ∃ v, a.tmps[e.d]? = some v ∧ e.p.holds w v) → wpList P l.toArray Q (l.drop n) a w) (l.take n) 0 []) :
    CW P (.region id l.toArray true) Q N L S := by
  simp only [drawB, Bool.and_eq_true, Bool.or_eq_true] at hB
  obtain ⟨⟨⟨⟨hn, hown⟩, hahead⟩, hsc⟩, hseq⟩ := hB
  have hn' : n ≤ l.length := by have := hn; simp at this; omega
  obtain ⟨Kf, hfin, -, hK, hcov, huni⟩ := flow_all (l.take n) 0 [] (fun j hj => by
    rw [List.length_take] at hj
    rw [List.getElem?_take_of_lt (by omega)]; simp) (fun _ he => absurd he List.not_mem_nil) h
  have hK' : ∀ e ∈ Kf, e.j < n ∧ ∃ o, l[e.j]? = some o ∧ o.dst = some e.d ∧ e.p.pers ∧ ∀ a w, Fr N (Go.Proofs.YtnjomdjkbbhdoaaDoor.cut (l.take n) L) a → S w →
      (∀ e' ∈ Kf, edge o.after.toList e'.j = true → ∃ v, a.tmps[e'.d]? = some v ∧ e'.p.holds w v) → stepOK P l o a w e.p := fun e he => by
    rcases hK e he with h0 | ⟨_, h1, h2⟩
    · cases h0
    · exact ⟨by rw [List.length_take] at h1; omega, h2⟩
  have hsz : l.toArray.size = l.length := by simp
  have key : ∀ (g : Nat) (listed : Array Bool) (a : Act) (w : World), HeadInv .any l.toArray n listed → cnt listed n = g → Fr N (Go.Proofs.YtnjomdjkbbhdoaaDoor.cut (l.take n) L) a → S w →
      (∀ e ∈ Kf, listed.getD e.j true = true → ∃ v, a.tmps[e.d]? = some v ∧ e.p.holds w v) → wpAny P .any l.toArray Q (g + (l.length - n)) listed a w := by
    intro g
    induction g with
    | zero =>
      intro listed a w inv hc hf hs hk
      have hall := cnt_zero hc
      have hlist : listed = firsts n l.length := by
        apply Array.ext_getElem?
        intro i
        have hs1 : listed.size = l.length := by rw [inv.size, hsz]
        unfold firsts
        rcases Nat.lt_or_ge i n with h1 | h1
        · have := hall i h1
          have hi : i < listed.size := by omega
          simp [hi] at this
          simp [hi, this, List.getElem?_append, h1]
        · rcases Nat.lt_or_ge i l.length with h2 | h2
          · have := inv.tail i h1 (by rw [hsz]; exact h2)
            have hi : i < listed.size := by omega
            simp [hi] at this
            simp [hi, this, List.getElem?_append, show ¬ i < n by omega, show i - n < l.length - n by omega]
          · rw [Array.getElem?_eq_none (by omega)]
            simp [List.getElem?_append, show ¬ i < n by omega, show ¬ i - n < l.length - n by omega]
      have hw := hfin a w hf hs (fun e he => hk e he (hall e.j (hK' e he).1))
      have := wpAny_of_seq (P := P) (md := .any) (ops := l.toArray) (l.drop n) n listed a w (fun j => by simp) (by rw [List.length_drop, hlist]; exact hseq) hw
      rwa [List.length_drop, ← Nat.zero_add (l.length - n)] at this
    | succ g ih =>
      intro listed a w inv hc hf hs hk
      rw [show g + 1 + (l.length - n) = (g + (l.length - n)) + 1 by omega]
      obtain ⟨i0, hi0, hun0, hbelow⟩ := cnt_pos (show 0 < cnt listed n by omega)
      have hs1 : listed.size = l.length := by rw [inv.size, hsz]
      have hready : i0 ∈ Region.ready .any l.toArray listed := by
        have hlt : i0 < l.length := by omega
        refine mem_ready.2 ⟨hun0, l[i0], by simp [hlt], fun e he hb => ?_⟩
        have h1 := ahead_get hahead i0 l[i0] (by simp [hlt]) e he hb
        have h2 := hbelow e.on (by omega)
        have hlt2 : e.on < listed.size := by omega
        simp [hlt2] at h2 ⊢
        exact h2
      refine ⟨fun hnil => (by rw [hnil] at hready; cases hready), fun i hi => ?_⟩
      have hin : i < n := by
        rcases Nat.lt_or_ge i n with h1 | h1
        · exact h1
        · have hil := (mem_ready.1 hi).2
          obtain ⟨oi, hoi, _⟩ := hil
          have hlt : i < l.length := by have := (Array.getElem?_eq_some_iff.1 hoi).1; simpa using this
          rcases hsc with hsc | hsc
          · have := Nat.eq_of_beq_eq_true hsc; omega
          · exact absurd hi (tail_waits hsc.1 hsc.2 (by rw [hsz]; omega) inv (n - i0) i0 rfl hi0 hun0 i h1)
      obtain ⟨huni1, oi, hoi, hdeps⟩ := mem_ready.1 hi
      have hoi' : l[i]? = some oi := by simpa using hoi
      obtain ⟨e, heK, hej⟩ := hcov i (by rw [List.length_take]; omega)
      have hej' : e.j = i := by omega
      obtain ⟨_, o, ho, hod, hpers, hstep⟩ := hK' e heK
      rw [hej'] at ho
      have : o = oi := Option.some.inj (ho.symm.trans hoi')
      subst this
      have hdn : e.d < N := by
        obtain ⟨d, hd1, hd2⟩ := ownDst_get hown i o (by rw [List.getElem?_take_of_lt hin]; exact ho)
        rw [hod] at hd1; cases hd1; exact hd2
      have hcutd : ∀ v, lk (Go.Proofs.YtnjomdjkbbhdoaaDoor.cut (l.take n) L) e.d = some v → False := fun v hv => by
        have h1 := (lk_cut hv).1
        rw [anyDst_of (List.mem_of_getElem? (l := l.take n) (i := i) (by rw [List.getElem?_take_of_lt hin]; exact ho)) hod] at h1
        cases h1
      have hso := hstep a w hf hs (fun e' he' hed => by
        obtain ⟨x, hx, hxj, hxb⟩ := edge_mem hed
        have h1 := hdeps x (by simpa using hx) hxb
        rw [hxj] at h1
        have h2 : e'.j < n := (hK' e' he').1
        refine hk e' he' ?_
        have hlt2 : e'.j < listed.size := by omega
        simp [hlt2] at h1 ⊢
        exact h1)
      have next : ∀ v w', Below w.heap.size w w' → e.p.holds w' v → wpAny P .any l.toArray Q (g + (l.length - n)) (listed.setIfInBounds i true) (a.put o.dst v) w' := by
        intro v w' hb hv
        rw [hod]
        refine ih _ _ _ (inv.set hi hin) (by have := cnt_set huni1 n hin; omega) ?_ (hSta.keep w w' hs hb) ?_
        · have hp := hf.put v (d := e.d) (by simp [Nat.blt]; omega)
          exact ⟨hp.df, hp.sz, fun k u hu => hp.get k u (by
            rw [lk_cons]
            split
            · rename_i hk2; subst hk2; exact (hcutd u hu).elim
            · exact hu)⟩
        · intro x hx hxl
          by_cases hxi : x.j = i
          · have : x = e := huni x hx e heK (Nat.zero_le _) (by omega)
            subst this
            exact ⟨v, by simp [Act.put, hf.sz, hdn], hv⟩
          · rw [getD_set_ne true (fun h => hxi h.symm)] at hxl
            obtain ⟨u, hu, hxu⟩ := hk x hx hxl
            obtain ⟨hxn, ox, hox, hxd, hxp, _⟩ := hK' x hx
            have hne : e.d ≠ x.d := fun hee => by
              have := ownDst_ne hown i x.j o ox e.d (by rw [List.getElem?_take_of_lt hin]; exact ho) (by rw [List.getElem?_take_of_lt hxn]; exact hox) hod (by rw [hee]; exact hxd)
              omega
            refine ⟨u, ?_, VP.pers_keep hxp hxu hb⟩
            simp only [Act.put]
            rw [Array.getElem?_setIfInBounds_ne hne]
            exact hu
      unfold wpOp
      simp only [hoi]
      unfold stepOK at hso
      split
      · rename_i hw
        rw [if_pos hw] at hso
        exact .inl (wp_false hso (fun a' w' ⟨v, ha, hb, hv⟩ => by rw [ha]; exact next v w' hb hv))
      · rename_i hw
        rw [if_neg hw] at hso
        exact next undef w (Below.refl _ _) hso
  intro a w hf hs
  refine wp_region_any hm.ok ?_
  have hrep : ∀ j, (Array.replicate l.toArray.size false).getD j false = false := fun j => getD_replicate_false _ _
  have := key n (Array.replicate l.toArray.size false) a w.drew
    ⟨by simp, fun j oj hj hl => (by rw [hrep] at hl; cases hl), fun t ht ht' => by simp at ht'; simp [ht']⟩
    (by rw [hsz]; exact cnt_fresh _ _ hn') (fr_cut hf (lk_cut_sub L)) (hSta.keep _ _ hs (Below.drewB w)) (fun e he hl => by
      have h1 := (hK' e he).1
      simp [show e.j < l.length by omega] at hl)
  rw [show n + (l.length - n) = l.toArray.size by rw [hsz]; omega] at this
  exact this

/-! ### The end of the free part -/
section
variable {P : Program} {l0 : List Oper} {Q : Exit → Act → World → Prop} {tail : List Oper} {N : Nat} {S : World → Prop} {d j : Nat}
/-- What is asked when the operations of the free part are through: L and S now, K still to be laid open. -/
def Fin (P : Program) (l0 : List Oper) (Q : Exit → Act → World → Prop) (tail : List Oper) (N : Nat) (L : TL) (S : World → Prop) (K : List KE) : Prop :=
  ∀ a w, Fr N L a → S w → (∀ e ∈ K, ∃ v, a.tmps[e.d]? = some v ∧ e.p.holds w v) → wpList P l0.toArray Q tail a w
theorem fin_nil {L : TL} (h : OW P l0 Q tail N L S) : Fin P l0 Q tail N L S [] := fun a w hf hs _ => h a w hf hs
theorem fr_add {L : TL} {a : Act} {v : Value} (hf : Fr N L a) (hv : a.tmps[d]? = some v) : Fr N ((d, v) :: L) a := ⟨hf.df, hf.sz, fun i u hu => by
  rw [lk_cons] at hu
  split at hu
  · rename_i hi; subst hi; cases hu; exact hv
  · exact hf.get i u hu⟩
theorem fin_is {L : TL} {v : Value} {K : List KE} (h : Fin P l0 Q tail N ((d, v) :: L) S K) : Fin P l0 Q tail N L S (⟨j, d, .is v⟩ :: K) := fun a w hf hs hk => by
  obtain ⟨u, hu, hp⟩ := hk _ List.mem_cons_self
  have : u = v := hp
  subst this
  exact h a w (fr_add hf hu) hs (fun e he => hk e (List.mem_cons_of_mem _ he))
theorem fin_sat {L : TL} {q : World → Value → Prop} {K : List KE} (h : ∀ v, Fin P l0 Q tail N ((d, v) :: L) (fun w => S w ∧ q w v) K) : Fin P l0 Q tail N L S (⟨j, d, .sat q⟩ :: K) := fun a w hf hs hk => by
  obtain ⟨u, hu, hp⟩ := hk _ List.mem_cons_self
  exact h u a w (fr_add hf hu) ⟨hs, hp⟩ (fun e he => hk e (List.mem_cons_of_mem _ he))
theorem fin_drop {L : TL} {e : KE} {K : List KE} (h : Fin P l0 Q tail N L S K) : Fin P l0 Q tail N L S (e :: K) := fun a w hf hs hk =>
  h a w hf hs (fun x hx => hk x (List.mem_cons_of_mem _ hx))
theorem flow_nil {L0 : TL} {i : Nat} {K : List KE} (h : Fin P l0 Q tail N L0 S K) :
    Flow P l0 L0 S N (fun K => ∀ a w, Fr N L0 a → S w → (∀ e ∈ K, ∃ v, a.tmps[e.d]? = some v ∧ e.p.holds w v) → wpList P l0.toArray Q tail a w) [] i K := h
end
end Go.Proofs.YtnjomdjkbbhdoaaDoor
