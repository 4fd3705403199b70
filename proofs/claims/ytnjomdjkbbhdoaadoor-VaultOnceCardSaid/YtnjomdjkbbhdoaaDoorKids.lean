/-
  Slices of terms as rows of cells; contracts that hand back what is laid in new memory.
  No condition; nothing of the seat's program stands here.
-/
import Derived.Test.YtnjomdjkbbhdoaaDoorRow
namespace Go.Proofs.YtnjomdjkbbhdoaaDoor
open Go.RowKit
set_option linter.unusedVariables false

/-- What τ has beyond σ was laid behind w. -/
def Fresh (σ τ : Hp) (w : World) : Prop := ∀ b o, τ b = some o → σ b = some o ∨ w.heap.size ≤ b
theorem Fresh.refl (σ : Hp) (w : World) : Fresh σ σ w := fun _ _ h => .inl h
theorem Fresh.trans {a b c : Hp} {w : World} (h : Fresh a b w) (k : Fresh b c w) : Fresh a c w := fun x o e => by
  rcases k x o e with e' | e'
  · exact h x o e'
  · exact .inr e'
theorem Fresh.mono {a b : Hp} {w w' : World} (h : Fresh a b w') (hs : w.heap.size ≤ w'.heap.size) : Fresh a b w := fun x o e => (h x o e).imp id (fun h => Nat.le_trans hs h)

/-- It hands back v, by Rep, in memory laid beside what was there. -/
def GiveR (Rep : Hp → Value → Prop) (σ : Hp) (w : World) (e : Ending) (w' : World) : Prop :=
  ∃ v σ', e = .returned v ∧ Le σ σ' ∧ Fresh σ σ' w ∧ Imm σ' w' ∧ Rep σ' v ∧ Below w.heap.size w w'
def RepT (t : T) (σ : Hp) (v : Value) : Prop := ∃ cs, v = .agg cs.toArray ∧ TermC σ cs t
def RepTB (t : T) (b : Bool) (σ : Hp) (v : Value) : Prop := ∃ cs, v = .tuple #[.agg cs.toArray, .bool b] ∧ TermC σ cs t
def RepK (ks : List T) (σ : Hp) (v : Value) : Prop := KidsV σ v ks

theorem St.after {w0 w w' : World} {M : Nat → Prop} {σ σ' : Hp} {H G : List (Nat × Obj)} (h : St w0 M σ H G w) (hf : Fresh σ σ' w) (hi : Imm σ' w') (hb : Below w.heap.size w w') : St w0 M σ' H G w' := by
  refine St.le (h.keep hb) hi fun p hp => ?_
  cases e : σ' p.1 with
  | none => rfl
  | some o =>
    rcases hf p.1 o e with h1 | h1
    · rw [h.fresh hp] at h1; cases h1
    · exact absurd (h.lt hp) (Nat.not_lt.2 h1)
theorem St.gives {w0 w : World} {σ σ' : Hp} {H G : List (Nat × Obj)} {Rep : Hp → Value → Prop} {v : Value} (h : St w0 (fun _ => False) σ' H G w) (hl : Le σ σ') (hf : Fresh σ σ' w0) (hr : Rep σ' v) :
    GiveR Rep σ w0 (.returned v) w := ⟨v, σ', rfl, hl, hf, h.im, hr, h.ag.below⟩

section
variable {P : Program} {l0 : List Oper} {Q : Exit → Act → World → Prop} {rest : List Oper} {N : Nat} {L : TL} {d : Nat} {ty : TypeId} {pos : String}
  {af : Array Edge} {g : Option (Nat × Bool)} {op : Op} {w0 : World} {M : Nat → Prop} {σ : Hp} {H G : List (Nat × Obj)} {Rep : Hp → Value → Prop}
def TR (Rep : Hp → Value → Prop) (σ : Hp) (w : World) (u : Value) (w' : World) : Prop := ∃ σ', Le σ σ' ∧ Fresh σ σ' w ∧ Imm σ' w' ∧ Rep σ' u ∧ Below w.heap.size w w'
theorem callR {f : FuncId} {args : Array Value} {w : World} (h : Calls P f args w (GiveR Rep σ w)) : Calls P f args w fun e w' => ∃ u, e = .returned u ∧ TR Rep σ w u w' :=
  h.mono fun e w' ⟨v, σ', he, h1, h2, h3, h4, h5⟩ => ⟨v, he, σ', h1, h2, h3, h4, h5⟩
theorem ow_cr (hN : Nat.blt d N = true) (hg : gd l0 L g = some true) (h : ExC P op N L (St w0 M σ H G) (TR Rep σ))
    (k : ∀ u σ', Le σ σ' → Fresh σ σ' w0 → Rep σ' u → OW P l0 Q rest N ((d, u) :: L) (St w0 M σ' H G)) : OW P l0 Q (⟨some d, op, ty, pos, af, g⟩ :: rest) N L (St w0 M σ H G) :=
  ow_c hN hg h fun u a w' hf ⟨w, hs, σ', h1, h2, h3, h4, h5⟩ => k u σ' h1 (h2.mono hs.ag.size) h4 a w' hf (hs.after h2 h3 h5)
end

/-! ### In a drawn region -/
class MonoR (Rep : Hp → Value → Prop) : Prop where
  mono : ∀ {σ τ : Hp} {v : Value}, Le σ τ → Rep σ v → Rep τ v
instance (t : T) : MonoR (RepT t) := ⟨fun hl ⟨cs, e, h⟩ => ⟨cs, e, h.le hl⟩⟩
instance (t : T) (b : Bool) : MonoR (RepTB t b) := ⟨fun hl ⟨cs, e, h⟩ => ⟨cs, e, h.le hl⟩⟩
instance (ks : List T) : MonoR (RepK ks) := ⟨fun hl h => KidsV.le hl h⟩
/-- A slice of one term. -/
def RepOne (t : T) (σ : Hp) (v : Value) : Prop := ∃ b cs, v = .slice (some ⟨b, 0, none⟩) 1 1 ∧ CellsAt σ b 0 cs ∧ TermC σ cs t
instance (t : T) : MonoR (RepOne t) := ⟨fun hl ⟨b, cs, e, h, k⟩ => ⟨b, cs, e, h.le hl, k.le hl⟩⟩
def QR (Rep : Hp → Value → Prop) (σ : Hp) (w0 : World) (K : List (Nat × Obj)) (w : World) (u : Value) : Prop := ∃ σ', Le σ σ' ∧ Fresh σ σ' w0 ∧ Imm σ' w ∧ Rep σ' u ∧ ∀ p ∈ K, σ' p.1 = none
section
variable {P : Program} {l0 : List Oper} {Q : Exit → Act → World → Prop} {tail r : List Oper} {N : Nat} {L L0 : TL} {d i j : Nat} {ty : TypeId} {pos : String} {fin : List KE → Prop} {K : List KE}
  {af : Array Edge} {g : Option (Nat × Bool)} {op : Op} {w0 : World} {M : Nat → Prop} {σ τ : Hp} {H G : List (Nat × Obj)} {Rep RepA RepB : Hp → Value → Prop} {S : World → Prop}
theorem QR.pers {X : List (Nat × Obj)} : ∀ (w w' : World) (u : Value), QR Rep σ w0 X w u → Below w.heap.size w w' → QR Rep σ w0 X w' u := fun w w' u ⟨σ', h1, h2, h3, h4, h5⟩ hb => ⟨σ', h1, h2, h3.below hb, h4, h5⟩
theorem QR.up {X : List (Nat × Obj)} {w : World} {u : Value} (hl : Le σ τ) (hf : Fresh σ τ w0) (h : QR Rep τ w0 X w u) : QR Rep σ w0 X w u := by
  obtain ⟨σ', h1, h2, h3, h4, h5⟩ := h; exact ⟨σ', hl.trans h1, hf.trans h2, h3, h4, h5⟩
theorem QR.open' {w : World} {u : Value} (hs : St w0 M σ H G w) (h : QR Rep σ w0 (H ++ G) w u) : ∃ σ', Le σ σ' ∧ Fresh σ σ' w0 ∧ Rep σ' u ∧ St w0 M σ' H G w := by
  obtain ⟨σ', h1, h2, h3, h4, h5⟩ := h; exact ⟨σ', h1, h2, h4, hs.le h3 h5⟩
theorem St.qr {w w' : World} {u : Value} (hs : St w0 M σ H G w) (h : TR Rep σ w u w') : Below w.heap.size w w' ∧ QR Rep σ w0 (H ++ G) w' u := by
  obtain ⟨σ', h1, h2, h3, h4, h5⟩ := h
  exact ⟨h5, σ', h1, h2.mono hs.ag.size, h3, h4, fun p hp => St0.dj (hs.after h2 h3 h5) p hp⟩
theorem ob_cr (hg : gd l0 L g = some true) (h : ExC P op N L (St w0 M σ H G) (TR Rep σ)) : Ob P l0 ⟨some d, op, ty, pos, af, g⟩ N L (St w0 M σ H G) (.sat (QR Rep σ w0 (H ++ G))) :=
  ob_c hg h fun w v w' hs ht => hs.qr ht
theorem flow_cr (hg : gd l0 (tlK af.toList L0 K) g = some true) (h : ExC P op N (tlK af.toList L0 K) (St w0 M σ H G) (TR Rep σ))
    (k : Flow P l0 L0 (St w0 M σ H G) N fin r (i + 1) (⟨i, d, .sat (QR Rep σ w0 (H ++ G))⟩ :: K)) : Flow P l0 L0 (St w0 M σ H G) N fin (⟨some d, op, ty, pos, af, g⟩ :: r) i K :=
  flow_sat QR.pers (obk (ob_cr hg h)) k
/-- What an operand that is known by a law alone gives. -/
theorem ob_open {o : Oper} {v : Value} {p : VP} (h : ∀ τ, Le σ τ → Fresh σ τ w0 → RepA τ v → Ob P l0 o N L (St w0 M τ H G) p) :
    Ob P l0 o N L (fun w => St w0 M σ H G w ∧ QR RepA σ w0 (H ++ G) w v) p := fun a w hf ⟨hs, hq⟩ => by
  obtain ⟨τ, h1, h2, h3, h4⟩ := hq.open' hs
  exact h τ h1 h2 h3 a w hf h4
theorem ob_open2 [MonoR RepA] [MonoR RepB] {o : Oper} {v x : Value} {p : VP} (h : ∀ τ, Le σ τ → Fresh σ τ w0 → RepA τ v → RepB τ x → Ob P l0 o N L (St w0 M τ H G) p) :
    Ob P l0 o N L (fun w => St w0 M σ H G w ∧ QR RepA σ w0 (H ++ G) w v ∧ QR RepB σ w0 (H ++ G) w x) p := fun a w hf ⟨hs, hq, hr⟩ => by
  obtain ⟨τ, h1, h2, h3, h4, h5⟩ := hq
  obtain ⟨τ', k1, k2, k3, k4, k5⟩ := hr
  refine h (join τ τ') (h1.trans (le_join _ _)) (fun b o e => ?_) (MonoR.mono (le_join _ _) h4) (MonoR.mono (le_join' h3 k3) k4) a w hf (hs.le (h3.join k3) fun p hp => ?_)
  · unfold join at e
    cases he : τ b with
    | none => rw [he] at e; exact k2 b o (by simpa using e)
    | some o' => exact (h2 b o' he).imp (fun h => by have := h1 b _ (h); rw [he] at this; rw [he] at e; simp at e; subst e; exact h) id
  · unfold join; rw [h5 p hp, k5 p hp]; rfl
theorem ob_up {o : Oper} {X : List (Nat × Obj)} (hl : Le σ τ) (hf : Fresh σ τ w0) (h : Ob P l0 o N L S (.sat (QR Rep τ w0 X))) : Ob P l0 o N L S (.sat (QR Rep σ w0 X)) := fun a w hfr hs => by
  have := h a w hfr hs
  unfold stepOK at this ⊢
  split
  · rename_i hw
    rw [if_pos hw] at this
    exact wp_false this (fun a' w' ⟨v, h1, h2, h3⟩ => ⟨v, h1, h2, h3.up hl hf⟩)
  · rename_i hw
    rw [if_neg hw] at this
    exact QR.up hl hf this
theorem fin_satR [MonoR Rep] {σ1 : Hp} (hle : Le σ σ1) (h : ∀ v σ', Le σ1 σ' → Fresh σ1 σ' w0 → Rep σ' v → Fin P l0 Q tail N ((d, v) :: L) (St w0 M σ' H G) K) :
    Fin P l0 Q tail N L (St w0 M σ1 H G) (⟨j, d, .sat (QR Rep σ w0 (H ++ G))⟩ :: K) := fun a w hf hs hk => by
  obtain ⟨u, hu, hp⟩ := hk _ List.mem_cons_self
  obtain ⟨τ, h1, h2, h3, h4, h5⟩ := hp
  refine h u (join σ1 τ) (le_join _ _) (fun b o e => ?_) (MonoR.mono (le_join' hs.im h3) h4) a w (fr_add hf hu) (hs.le (hs.im.join h3) fun p hp => ?_) (fun e he => hk e (List.mem_cons_of_mem _ he))
  · unfold join at e
    cases he : σ1 b with
    | none =>
      rw [he] at e
      rcases h2 b o (by simpa using e) with h6 | h6
      · rw [hle b o h6] at he; cases he
      · exact .inr h6
    | some o' => rw [he] at e; simp at e; subst e; exact .inl rfl
  · unfold join; rw [hs.fresh hp, h5 p hp]; rfl
/-- A slice literal of one term. -/
theorem ob_one {t e bytes : Nat} [h : AppT P t e 4 bytes] {x : Operand} {u : T} {cs : List Value} (hg : gd l0 L g = some true) (hx : ev L x = some (.agg cs.toArray)) (hc : TermC σ cs u) :
    Ob P l0 ⟨some d, .buildSlice t 1 #[(0, x)], ty, pos, af, g⟩ N L (St w0 M σ H G) (.sat (QR (RepOne u) σ w0 (H ++ G))) := ob_w hg fun a w hf hs d ty pos af g => by
  have hrun := run_slit1 (P := P) (t := t) (w := w) hf hx (v := .agg cs.toArray) (by simp [Value.cells, hc.len]) d ty pos af g
  have hs' : St w0 M σ ((w.heap.size, .cells cs.toArray e (0, 0)) :: H) G (w.alloc (.cells cs.toArray e)) := hs.alloc _
  have hle : Le σ (ext σ w.heap.size (.cells cs.toArray e)) := le_ext (hs'.fresh (p := (w.heap.size, .cells cs.toArray e)) (by simp))
  refine ⟨_, _, hrun, below_alloc1 _ _, ext σ w.heap.size (.cells cs.toArray e), hle, fun k o hk => ?_, hs'.freeze.im, ⟨w.heap.size, cs, rfl, ⟨cs.toArray, e, (0, 0), ext_self _ _ _, fun j v hj => by simpa using hj⟩, hc.le hle⟩, fun p hp => hs'.freeze.fresh hp⟩
  unfold ext at hk
  split at hk
  · rename_i hkb; subst hkb; exact .inr hs.ag.size
  · exact .inl hk
end

/-! ### Loops whose memory turns -/
section
variable {P : Program} {Q : Exit → Act → World → Prop} {N : Nat} {L : TL} {w0 : World} {M : Nat → Prop} {σ : Hp} {H G : List (Nat × Obj)}
def Rnd1 {A0 : Type} (N : Nat) (I : A0 → TL) (p : A0 → Prop) (σf : A0 → Hp) (Gf : A0 → List (Nat × Obj)) (μ : A0 → Nat) (w0 : World) (M : Nat → Prop) (H : List (Nat × Obj)) (m : Nat) (a : Act) (w : World) : Prop :=
  ∃ y0, μ y0 < m ∧ p y0 ∧ Fr N (I y0) a ∧ St w0 M (σf y0) H (Gf y0) w
theorem cw_loop1 {A0 : Type} {c : Code} (I : A0 → TL) (p : A0 → Prop) (σf : A0 → Hp) (Gf : A0 → List (Nat × Obj)) (μ : A0 → Nat) (x0 : A0) (hL : subL L (I x0)) (hp : p x0)
    (hS : ∀ w, St w0 M σ H G w → St w0 M (σf x0) H (Gf x0) w)
    (round : ∀ x0, p x0 → CW P c (Exit.then (Rnd1 N I p σf Gf μ w0 M H (μ x0)) Q) N (I x0) (St w0 M (σf x0) H (Gf x0))) : CW P (.loop c) Q N L (St w0 M σ H G) :=
  cw_loop (α := A0) (fun x => I x) (fun x w => p x ∧ St w0 M (σf x) H (Gf x) w) (fun x => μ x) x0 hL (fun w hs => ⟨hp, hS w hs⟩)
    (fun x0 => cw_and fun hx a w hf hs => wp_mono (round x0 hx a w hf hs) (fun e a' w' h => by
      cases e with
      | normal => obtain ⟨y0, h1, h2, h3, h4⟩ := h; exact ⟨y0, h1, h3, h2, h4⟩
      | _ => exact h))
theorem qw_round1 {A0 : Type} {I : A0 → TL} {p : A0 → Prop} {σf : A0 → Hp} {Gf : A0 → List (Nat × Obj)} {μ : A0 → Nat} {H' : List (Nat × Obj)} {m : Nat} (x0 : A0) (hmu : μ x0 < m) (hL : subL L (I x0)) (hp : p x0)
    (hS : ∀ w, St w0 M σ H' G w → St w0 M (σf x0) H (Gf x0) w) : QW (Exit.then (Rnd1 N I p σf Gf μ w0 M H m) Q) .normal N L (St w0 M σ H' G) :=
  fun a w hf hs => ⟨x0, hmu, hp, hf.sub hL, hS w hs⟩
def RndH1 {A0 : Type} (N : Nat) (I : A0 → TL) (p : A0 → Prop) (σf : A0 → Hp) (Gf : A0 → List (Nat × Obj)) (μ : A0 → Nat) (w0 : World) (M : Nat → Prop) (Hf : A0 → List (Nat × Obj)) (m : Nat) (a : Act) (w : World) : Prop :=
  ∃ y0, μ y0 < m ∧ p y0 ∧ Fr N (I y0) a ∧ St w0 M (σf y0) (Hf y0) (Gf y0) w
theorem cw_loopH1 {A0 : Type} {c : Code} (I : A0 → TL) (p : A0 → Prop) (σf : A0 → Hp) (Hf : A0 → List (Nat × Obj)) (Gf : A0 → List (Nat × Obj)) (μ : A0 → Nat) (x0 : A0) (hL : subL L (I x0)) (hp : p x0)
    (hS : ∀ w, St w0 M σ H G w → St w0 M (σf x0) (Hf x0) (Gf x0) w)
    (round : ∀ x0, p x0 → CW P c (Exit.then (RndH1 N I p σf Gf μ w0 M Hf (μ x0)) Q) N (I x0) (St w0 M (σf x0) (Hf x0) (Gf x0))) : CW P (.loop c) Q N L (St w0 M σ H G) :=
  cw_loop (α := A0) (fun x => I x) (fun x w => p x ∧ St w0 M (σf x) (Hf x) (Gf x) w) (fun x => μ x) x0 hL (fun w hs => ⟨hp, hS w hs⟩)
    (fun x0 => cw_and fun hx a w hf hs => wp_mono (round x0 hx a w hf hs) (fun e a' w' h => by
      cases e with
      | normal => obtain ⟨y0, h1, h2, h3, h4⟩ := h; exact ⟨y0, h1, h3, h2, h4⟩
      | _ => exact h))
theorem qw_roundH1 {A0 : Type} {I : A0 → TL} {p : A0 → Prop} {σf : A0 → Hp} {Gf : A0 → List (Nat × Obj)} {μ : A0 → Nat} {Hf : A0 → List (Nat × Obj)} {H' : List (Nat × Obj)} {m : Nat} (x0 : A0) (hmu : μ x0 < m) (hL : subL L (I x0)) (hp : p x0)
    (hS : ∀ w, St w0 M σ H' G w → St w0 M (σf x0) (Hf x0) (Gf x0) w) : QW (Exit.then (RndH1 N I p σf Gf μ w0 M Hf m) Q) .normal N L (St w0 M σ H' G) :=
  fun a w hf hs => ⟨x0, hmu, hp, hf.sub hL, hS w hs⟩
def Rnd2 {A0 A1 : Type} (N : Nat) (I : A0 → A1 → TL) (p : A0 → A1 → Prop) (σf : A0 → A1 → Hp) (Gf : A0 → A1 → List (Nat × Obj)) (μ : A0 → A1 → Nat) (w0 : World) (M : Nat → Prop) (H : List (Nat × Obj)) (m : Nat) (a : Act) (w : World) : Prop :=
  ∃ y0 y1, μ y0 y1 < m ∧ p y0 y1 ∧ Fr N (I y0 y1) a ∧ St w0 M (σf y0 y1) H (Gf y0 y1) w
theorem cw_loop2 {A0 A1 : Type} {c : Code} (I : A0 → A1 → TL) (p : A0 → A1 → Prop) (σf : A0 → A1 → Hp) (Gf : A0 → A1 → List (Nat × Obj)) (μ : A0 → A1 → Nat) (x0 : A0) (x1 : A1) (hL : subL L (I x0 x1)) (hp : p x0 x1)
    (hS : ∀ w, St w0 M σ H G w → St w0 M (σf x0 x1) H (Gf x0 x1) w)
    (round : ∀ x0 x1, p x0 x1 → CW P c (Exit.then (Rnd2 N I p σf Gf μ w0 M H (μ x0 x1)) Q) N (I x0 x1) (St w0 M (σf x0 x1) H (Gf x0 x1))) : CW P (.loop c) Q N L (St w0 M σ H G) :=
  cw_loop (α := A0 × A1) (fun x => I (x.1) (x.2)) (fun x w => p (x.1) (x.2) ∧ St w0 M (σf (x.1) (x.2)) H (Gf (x.1) (x.2)) w) (fun x => μ (x.1) (x.2)) (x0, x1) hL (fun w hs => ⟨hp, hS w hs⟩)
    (fun ⟨x0, x1⟩ => cw_and fun hx a w hf hs => wp_mono (round x0 x1 hx a w hf hs) (fun e a' w' h => by
      cases e with
      | normal => obtain ⟨y0, y1, h1, h2, h3, h4⟩ := h; exact ⟨⟨y0, y1⟩, h1, h3, h2, h4⟩
      | _ => exact h))
theorem qw_round2 {A0 A1 : Type} {I : A0 → A1 → TL} {p : A0 → A1 → Prop} {σf : A0 → A1 → Hp} {Gf : A0 → A1 → List (Nat × Obj)} {μ : A0 → A1 → Nat} {H' : List (Nat × Obj)} {m : Nat} (x0 : A0) (x1 : A1) (hmu : μ x0 x1 < m) (hL : subL L (I x0 x1)) (hp : p x0 x1)
    (hS : ∀ w, St w0 M σ H' G w → St w0 M (σf x0 x1) H (Gf x0 x1) w) : QW (Exit.then (Rnd2 N I p σf Gf μ w0 M H m) Q) .normal N L (St w0 M σ H' G) :=
  fun a w hf hs => ⟨x0, x1, hmu, hp, hf.sub hL, hS w hs⟩
def RndH2 {A0 A1 : Type} (N : Nat) (I : A0 → A1 → TL) (p : A0 → A1 → Prop) (σf : A0 → A1 → Hp) (Gf : A0 → A1 → List (Nat × Obj)) (μ : A0 → A1 → Nat) (w0 : World) (M : Nat → Prop) (Hf : A0 → A1 → List (Nat × Obj)) (m : Nat) (a : Act) (w : World) : Prop :=
  ∃ y0 y1, μ y0 y1 < m ∧ p y0 y1 ∧ Fr N (I y0 y1) a ∧ St w0 M (σf y0 y1) (Hf y0 y1) (Gf y0 y1) w
theorem cw_loopH2 {A0 A1 : Type} {c : Code} (I : A0 → A1 → TL) (p : A0 → A1 → Prop) (σf : A0 → A1 → Hp) (Hf : A0 → A1 → List (Nat × Obj)) (Gf : A0 → A1 → List (Nat × Obj)) (μ : A0 → A1 → Nat) (x0 : A0) (x1 : A1) (hL : subL L (I x0 x1)) (hp : p x0 x1)
    (hS : ∀ w, St w0 M σ H G w → St w0 M (σf x0 x1) (Hf x0 x1) (Gf x0 x1) w)
    (round : ∀ x0 x1, p x0 x1 → CW P c (Exit.then (RndH2 N I p σf Gf μ w0 M Hf (μ x0 x1)) Q) N (I x0 x1) (St w0 M (σf x0 x1) (Hf x0 x1) (Gf x0 x1))) : CW P (.loop c) Q N L (St w0 M σ H G) :=
  cw_loop (α := A0 × A1) (fun x => I (x.1) (x.2)) (fun x w => p (x.1) (x.2) ∧ St w0 M (σf (x.1) (x.2)) (Hf (x.1) (x.2)) (Gf (x.1) (x.2)) w) (fun x => μ (x.1) (x.2)) (x0, x1) hL (fun w hs => ⟨hp, hS w hs⟩)
    (fun ⟨x0, x1⟩ => cw_and fun hx a w hf hs => wp_mono (round x0 x1 hx a w hf hs) (fun e a' w' h => by
      cases e with
      | normal => obtain ⟨y0, y1, h1, h2, h3, h4⟩ := h; exact ⟨⟨y0, y1⟩, h1, h3, h2, h4⟩
      | _ => exact h))
theorem qw_roundH2 {A0 A1 : Type} {I : A0 → A1 → TL} {p : A0 → A1 → Prop} {σf : A0 → A1 → Hp} {Gf : A0 → A1 → List (Nat × Obj)} {μ : A0 → A1 → Nat} {Hf : A0 → A1 → List (Nat × Obj)} {H' : List (Nat × Obj)} {m : Nat} (x0 : A0) (x1 : A1) (hmu : μ x0 x1 < m) (hL : subL L (I x0 x1)) (hp : p x0 x1)
    (hS : ∀ w, St w0 M σ H' G w → St w0 M (σf x0 x1) (Hf x0 x1) (Gf x0 x1) w) : QW (Exit.then (RndH2 N I p σf Gf μ w0 M Hf m) Q) .normal N L (St w0 M σ H' G) :=
  fun a w hf hs => ⟨x0, x1, hmu, hp, hf.sub hL, hS w hs⟩
def Rnd3 {A0 A1 A2 : Type} (N : Nat) (I : A0 → A1 → A2 → TL) (p : A0 → A1 → A2 → Prop) (σf : A0 → A1 → A2 → Hp) (Gf : A0 → A1 → A2 → List (Nat × Obj)) (μ : A0 → A1 → A2 → Nat) (w0 : World) (M : Nat → Prop) (H : List (Nat × Obj)) (m : Nat) (a : Act) (w : World) : Prop :=
  ∃ y0 y1 y2, μ y0 y1 y2 < m ∧ p y0 y1 y2 ∧ Fr N (I y0 y1 y2) a ∧ St w0 M (σf y0 y1 y2) H (Gf y0 y1 y2) w
theorem cw_loop3 {A0 A1 A2 : Type} {c : Code} (I : A0 → A1 → A2 → TL) (p : A0 → A1 → A2 → Prop) (σf : A0 → A1 → A2 → Hp) (Gf : A0 → A1 → A2 → List (Nat × Obj)) (μ : A0 → A1 → A2 → Nat) (x0 : A0) (x1 : A1) (x2 : A2) (hL : subL L (I x0 x1 x2)) (hp : p x0 x1 x2)
    (hS : ∀ w, St w0 M σ H G w → St w0 M (σf x0 x1 x2) H (Gf x0 x1 x2) w)
    (round : ∀ x0 x1 x2, p x0 x1 x2 → CW P c (Exit.then (Rnd3 N I p σf Gf μ w0 M H (μ x0 x1 x2)) Q) N (I x0 x1 x2) (St w0 M (σf x0 x1 x2) H (Gf x0 x1 x2))) : CW P (.loop c) Q N L (St w0 M σ H G) :=
  cw_loop (α := A0 × A1 × A2) (fun x => I (x.1) (x.2.1) (x.2.2)) (fun x w => p (x.1) (x.2.1) (x.2.2) ∧ St w0 M (σf (x.1) (x.2.1) (x.2.2)) H (Gf (x.1) (x.2.1) (x.2.2)) w) (fun x => μ (x.1) (x.2.1) (x.2.2)) (x0, x1, x2) hL (fun w hs => ⟨hp, hS w hs⟩)
    (fun ⟨x0, x1, x2⟩ => cw_and fun hx a w hf hs => wp_mono (round x0 x1 x2 hx a w hf hs) (fun e a' w' h => by
      cases e with
      | normal => obtain ⟨y0, y1, y2, h1, h2, h3, h4⟩ := h; exact ⟨⟨y0, y1, y2⟩, h1, h3, h2, h4⟩
      | _ => exact h))
theorem qw_round3 {A0 A1 A2 : Type} {I : A0 → A1 → A2 → TL} {p : A0 → A1 → A2 → Prop} {σf : A0 → A1 → A2 → Hp} {Gf : A0 → A1 → A2 → List (Nat × Obj)} {μ : A0 → A1 → A2 → Nat} {H' : List (Nat × Obj)} {m : Nat} (x0 : A0) (x1 : A1) (x2 : A2) (hmu : μ x0 x1 x2 < m) (hL : subL L (I x0 x1 x2)) (hp : p x0 x1 x2)
    (hS : ∀ w, St w0 M σ H' G w → St w0 M (σf x0 x1 x2) H (Gf x0 x1 x2) w) : QW (Exit.then (Rnd3 N I p σf Gf μ w0 M H m) Q) .normal N L (St w0 M σ H' G) :=
  fun a w hf hs => ⟨x0, x1, x2, hmu, hp, hf.sub hL, hS w hs⟩
def RndH3 {A0 A1 A2 : Type} (N : Nat) (I : A0 → A1 → A2 → TL) (p : A0 → A1 → A2 → Prop) (σf : A0 → A1 → A2 → Hp) (Gf : A0 → A1 → A2 → List (Nat × Obj)) (μ : A0 → A1 → A2 → Nat) (w0 : World) (M : Nat → Prop) (Hf : A0 → A1 → A2 → List (Nat × Obj)) (m : Nat) (a : Act) (w : World) : Prop :=
  ∃ y0 y1 y2, μ y0 y1 y2 < m ∧ p y0 y1 y2 ∧ Fr N (I y0 y1 y2) a ∧ St w0 M (σf y0 y1 y2) (Hf y0 y1 y2) (Gf y0 y1 y2) w
theorem cw_loopH3 {A0 A1 A2 : Type} {c : Code} (I : A0 → A1 → A2 → TL) (p : A0 → A1 → A2 → Prop) (σf : A0 → A1 → A2 → Hp) (Hf : A0 → A1 → A2 → List (Nat × Obj)) (Gf : A0 → A1 → A2 → List (Nat × Obj)) (μ : A0 → A1 → A2 → Nat) (x0 : A0) (x1 : A1) (x2 : A2) (hL : subL L (I x0 x1 x2)) (hp : p x0 x1 x2)
    (hS : ∀ w, St w0 M σ H G w → St w0 M (σf x0 x1 x2) (Hf x0 x1 x2) (Gf x0 x1 x2) w)
    (round : ∀ x0 x1 x2, p x0 x1 x2 → CW P c (Exit.then (RndH3 N I p σf Gf μ w0 M Hf (μ x0 x1 x2)) Q) N (I x0 x1 x2) (St w0 M (σf x0 x1 x2) (Hf x0 x1 x2) (Gf x0 x1 x2))) : CW P (.loop c) Q N L (St w0 M σ H G) :=
  cw_loop (α := A0 × A1 × A2) (fun x => I (x.1) (x.2.1) (x.2.2)) (fun x w => p (x.1) (x.2.1) (x.2.2) ∧ St w0 M (σf (x.1) (x.2.1) (x.2.2)) (Hf (x.1) (x.2.1) (x.2.2)) (Gf (x.1) (x.2.1) (x.2.2)) w) (fun x => μ (x.1) (x.2.1) (x.2.2)) (x0, x1, x2) hL (fun w hs => ⟨hp, hS w hs⟩)
    (fun ⟨x0, x1, x2⟩ => cw_and fun hx a w hf hs => wp_mono (round x0 x1 x2 hx a w hf hs) (fun e a' w' h => by
      cases e with
      | normal => obtain ⟨y0, y1, y2, h1, h2, h3, h4⟩ := h; exact ⟨⟨y0, y1, y2⟩, h1, h3, h2, h4⟩
      | _ => exact h))
theorem qw_roundH3 {A0 A1 A2 : Type} {I : A0 → A1 → A2 → TL} {p : A0 → A1 → A2 → Prop} {σf : A0 → A1 → A2 → Hp} {Gf : A0 → A1 → A2 → List (Nat × Obj)} {μ : A0 → A1 → A2 → Nat} {Hf : A0 → A1 → A2 → List (Nat × Obj)} {H' : List (Nat × Obj)} {m : Nat} (x0 : A0) (x1 : A1) (x2 : A2) (hmu : μ x0 x1 x2 < m) (hL : subL L (I x0 x1 x2)) (hp : p x0 x1 x2)
    (hS : ∀ w, St w0 M σ H' G w → St w0 M (σf x0 x1 x2) (Hf x0 x1 x2) (Gf x0 x1 x2) w) : QW (Exit.then (RndH3 N I p σf Gf μ w0 M Hf m) Q) .normal N L (St w0 M σ H' G) :=
  fun a w hf hs => ⟨x0, x1, x2, hmu, hp, hf.sub hL, hS w hs⟩
def Rnd4 {A0 A1 A2 A3 : Type} (N : Nat) (I : A0 → A1 → A2 → A3 → TL) (p : A0 → A1 → A2 → A3 → Prop) (σf : A0 → A1 → A2 → A3 → Hp) (Gf : A0 → A1 → A2 → A3 → List (Nat × Obj)) (μ : A0 → A1 → A2 → A3 → Nat) (w0 : World) (M : Nat → Prop) (H : List (Nat × Obj)) (m : Nat) (a : Act) (w : World) : Prop :=
  ∃ y0 y1 y2 y3, μ y0 y1 y2 y3 < m ∧ p y0 y1 y2 y3 ∧ Fr N (I y0 y1 y2 y3) a ∧ St w0 M (σf y0 y1 y2 y3) H (Gf y0 y1 y2 y3) w
theorem cw_loop4 {A0 A1 A2 A3 : Type} {c : Code} (I : A0 → A1 → A2 → A3 → TL) (p : A0 → A1 → A2 → A3 → Prop) (σf : A0 → A1 → A2 → A3 → Hp) (Gf : A0 → A1 → A2 → A3 → List (Nat × Obj)) (μ : A0 → A1 → A2 → A3 → Nat) (x0 : A0) (x1 : A1) (x2 : A2) (x3 : A3) (hL : subL L (I x0 x1 x2 x3)) (hp : p x0 x1 x2 x3)
    (hS : ∀ w, St w0 M σ H G w → St w0 M (σf x0 x1 x2 x3) H (Gf x0 x1 x2 x3) w)
    (round : ∀ x0 x1 x2 x3, p x0 x1 x2 x3 → CW P c (Exit.then (Rnd4 N I p σf Gf μ w0 M H (μ x0 x1 x2 x3)) Q) N (I x0 x1 x2 x3) (St w0 M (σf x0 x1 x2 x3) H (Gf x0 x1 x2 x3))) : CW P (.loop c) Q N L (St w0 M σ H G) :=
  cw_loop (α := A0 × A1 × A2 × A3) (fun x => I (x.1) (x.2.1) (x.2.2.1) (x.2.2.2)) (fun x w => p (x.1) (x.2.1) (x.2.2.1) (x.2.2.2) ∧ St w0 M (σf (x.1) (x.2.1) (x.2.2.1) (x.2.2.2)) H (Gf (x.1) (x.2.1) (x.2.2.1) (x.2.2.2)) w) (fun x => μ (x.1) (x.2.1) (x.2.2.1) (x.2.2.2)) (x0, x1, x2, x3) hL (fun w hs => ⟨hp, hS w hs⟩)
    (fun ⟨x0, x1, x2, x3⟩ => cw_and fun hx a w hf hs => wp_mono (round x0 x1 x2 x3 hx a w hf hs) (fun e a' w' h => by
      cases e with
      | normal => obtain ⟨y0, y1, y2, y3, h1, h2, h3, h4⟩ := h; exact ⟨⟨y0, y1, y2, y3⟩, h1, h3, h2, h4⟩
      | _ => exact h))
theorem qw_round4 {A0 A1 A2 A3 : Type} {I : A0 → A1 → A2 → A3 → TL} {p : A0 → A1 → A2 → A3 → Prop} {σf : A0 → A1 → A2 → A3 → Hp} {Gf : A0 → A1 → A2 → A3 → List (Nat × Obj)} {μ : A0 → A1 → A2 → A3 → Nat} {H' : List (Nat × Obj)} {m : Nat} (x0 : A0) (x1 : A1) (x2 : A2) (x3 : A3) (hmu : μ x0 x1 x2 x3 < m) (hL : subL L (I x0 x1 x2 x3)) (hp : p x0 x1 x2 x3)
    (hS : ∀ w, St w0 M σ H' G w → St w0 M (σf x0 x1 x2 x3) H (Gf x0 x1 x2 x3) w) : QW (Exit.then (Rnd4 N I p σf Gf μ w0 M H m) Q) .normal N L (St w0 M σ H' G) :=
  fun a w hf hs => ⟨x0, x1, x2, x3, hmu, hp, hf.sub hL, hS w hs⟩
def RndH4 {A0 A1 A2 A3 : Type} (N : Nat) (I : A0 → A1 → A2 → A3 → TL) (p : A0 → A1 → A2 → A3 → Prop) (σf : A0 → A1 → A2 → A3 → Hp) (Gf : A0 → A1 → A2 → A3 → List (Nat × Obj)) (μ : A0 → A1 → A2 → A3 → Nat) (w0 : World) (M : Nat → Prop) (Hf : A0 → A1 → A2 → A3 → List (Nat × Obj)) (m : Nat) (a : Act) (w : World) : Prop :=
  ∃ y0 y1 y2 y3, μ y0 y1 y2 y3 < m ∧ p y0 y1 y2 y3 ∧ Fr N (I y0 y1 y2 y3) a ∧ St w0 M (σf y0 y1 y2 y3) (Hf y0 y1 y2 y3) (Gf y0 y1 y2 y3) w
theorem cw_loopH4 {A0 A1 A2 A3 : Type} {c : Code} (I : A0 → A1 → A2 → A3 → TL) (p : A0 → A1 → A2 → A3 → Prop) (σf : A0 → A1 → A2 → A3 → Hp) (Hf : A0 → A1 → A2 → A3 → List (Nat × Obj)) (Gf : A0 → A1 → A2 → A3 → List (Nat × Obj)) (μ : A0 → A1 → A2 → A3 → Nat) (x0 : A0) (x1 : A1) (x2 : A2) (x3 : A3) (hL : subL L (I x0 x1 x2 x3)) (hp : p x0 x1 x2 x3)
    (hS : ∀ w, St w0 M σ H G w → St w0 M (σf x0 x1 x2 x3) (Hf x0 x1 x2 x3) (Gf x0 x1 x2 x3) w)
    (round : ∀ x0 x1 x2 x3, p x0 x1 x2 x3 → CW P c (Exit.then (RndH4 N I p σf Gf μ w0 M Hf (μ x0 x1 x2 x3)) Q) N (I x0 x1 x2 x3) (St w0 M (σf x0 x1 x2 x3) (Hf x0 x1 x2 x3) (Gf x0 x1 x2 x3))) : CW P (.loop c) Q N L (St w0 M σ H G) :=
  cw_loop (α := A0 × A1 × A2 × A3) (fun x => I (x.1) (x.2.1) (x.2.2.1) (x.2.2.2)) (fun x w => p (x.1) (x.2.1) (x.2.2.1) (x.2.2.2) ∧ St w0 M (σf (x.1) (x.2.1) (x.2.2.1) (x.2.2.2)) (Hf (x.1) (x.2.1) (x.2.2.1) (x.2.2.2)) (Gf (x.1) (x.2.1) (x.2.2.1) (x.2.2.2)) w) (fun x => μ (x.1) (x.2.1) (x.2.2.1) (x.2.2.2)) (x0, x1, x2, x3) hL (fun w hs => ⟨hp, hS w hs⟩)
    (fun ⟨x0, x1, x2, x3⟩ => cw_and fun hx a w hf hs => wp_mono (round x0 x1 x2 x3 hx a w hf hs) (fun e a' w' h => by
      cases e with
      | normal => obtain ⟨y0, y1, y2, y3, h1, h2, h3, h4⟩ := h; exact ⟨⟨y0, y1, y2, y3⟩, h1, h3, h2, h4⟩
      | _ => exact h))
theorem qw_roundH4 {A0 A1 A2 A3 : Type} {I : A0 → A1 → A2 → A3 → TL} {p : A0 → A1 → A2 → A3 → Prop} {σf : A0 → A1 → A2 → A3 → Hp} {Gf : A0 → A1 → A2 → A3 → List (Nat × Obj)} {μ : A0 → A1 → A2 → A3 → Nat} {Hf : A0 → A1 → A2 → A3 → List (Nat × Obj)} {H' : List (Nat × Obj)} {m : Nat} (x0 : A0) (x1 : A1) (x2 : A2) (x3 : A3) (hmu : μ x0 x1 x2 x3 < m) (hL : subL L (I x0 x1 x2 x3)) (hp : p x0 x1 x2 x3)
    (hS : ∀ w, St w0 M σ H' G w → St w0 M (σf x0 x1 x2 x3) (Hf x0 x1 x2 x3) (Gf x0 x1 x2 x3) w) : QW (Exit.then (RndH4 N I p σf Gf μ w0 M Hf m) Q) .normal N L (St w0 M σ H' G) :=
  fun a w hf hs => ⟨x0, x1, x2, x3, hmu, hp, hf.sub hL, hS w hs⟩
def Rnd5 {A0 A1 A2 A3 A4 : Type} (N : Nat) (I : A0 → A1 → A2 → A3 → A4 → TL) (p : A0 → A1 → A2 → A3 → A4 → Prop) (σf : A0 → A1 → A2 → A3 → A4 → Hp) (Gf : A0 → A1 → A2 → A3 → A4 → List (Nat × Obj)) (μ : A0 → A1 → A2 → A3 → A4 → Nat) (w0 : World) (M : Nat → Prop) (H : List (Nat × Obj)) (m : Nat) (a : Act) (w : World) : Prop :=
  ∃ y0 y1 y2 y3 y4, μ y0 y1 y2 y3 y4 < m ∧ p y0 y1 y2 y3 y4 ∧ Fr N (I y0 y1 y2 y3 y4) a ∧ St w0 M (σf y0 y1 y2 y3 y4) H (Gf y0 y1 y2 y3 y4) w
theorem cw_loop5 {A0 A1 A2 A3 A4 : Type} {c : Code} (I : A0 → A1 → A2 → A3 → A4 → TL) (p : A0 → A1 → A2 → A3 → A4 → Prop) (σf : A0 → A1 → A2 → A3 → A4 → Hp) (Gf : A0 → A1 → A2 → A3 → A4 → List (Nat × Obj)) (μ : A0 → A1 → A2 → A3 → A4 → Nat) (x0 : A0) (x1 : A1) (x2 : A2) (x3 : A3) (x4 : A4) (hL : subL L (I x0 x1 x2 x3 x4)) (hp : p x0 x1 x2 x3 x4)
    (hS : ∀ w, St w0 M σ H G w → St w0 M (σf x0 x1 x2 x3 x4) H (Gf x0 x1 x2 x3 x4) w)
    (round : ∀ x0 x1 x2 x3 x4, p x0 x1 x2 x3 x4 → CW P c (Exit.then (Rnd5 N I p σf Gf μ w0 M H (μ x0 x1 x2 x3 x4)) Q) N (I x0 x1 x2 x3 x4) (St w0 M (σf x0 x1 x2 x3 x4) H (Gf x0 x1 x2 x3 x4))) : CW P (.loop c) Q N L (St w0 M σ H G) :=
  cw_loop (α := A0 × A1 × A2 × A3 × A4) (fun x => I (x.1) (x.2.1) (x.2.2.1) (x.2.2.2.1) (x.2.2.2.2)) (fun x w => p (x.1) (x.2.1) (x.2.2.1) (x.2.2.2.1) (x.2.2.2.2) ∧ St w0 M (σf (x.1) (x.2.1) (x.2.2.1) (x.2.2.2.1) (x.2.2.2.2)) H (Gf (x.1) (x.2.1) (x.2.2.1) (x.2.2.2.1) (x.2.2.2.2)) w) (fun x => μ (x.1) (x.2.1) (x.2.2.1) (x.2.2.2.1) (x.2.2.2.2)) (x0, x1, x2, x3, x4) hL (fun w hs => ⟨hp, hS w hs⟩)
    (fun ⟨x0, x1, x2, x3, x4⟩ => cw_and fun hx a w hf hs => wp_mono (round x0 x1 x2 x3 x4 hx a w hf hs) (fun e a' w' h => by
      cases e with
      | normal => obtain ⟨y0, y1, y2, y3, y4, h1, h2, h3, h4⟩ := h; exact ⟨⟨y0, y1, y2, y3, y4⟩, h1, h3, h2, h4⟩
      | _ => exact h))
theorem qw_round5 {A0 A1 A2 A3 A4 : Type} {I : A0 → A1 → A2 → A3 → A4 → TL} {p : A0 → A1 → A2 → A3 → A4 → Prop} {σf : A0 → A1 → A2 → A3 → A4 → Hp} {Gf : A0 → A1 → A2 → A3 → A4 → List (Nat × Obj)} {μ : A0 → A1 → A2 → A3 → A4 → Nat} {H' : List (Nat × Obj)} {m : Nat} (x0 : A0) (x1 : A1) (x2 : A2) (x3 : A3) (x4 : A4) (hmu : μ x0 x1 x2 x3 x4 < m) (hL : subL L (I x0 x1 x2 x3 x4)) (hp : p x0 x1 x2 x3 x4)
    (hS : ∀ w, St w0 M σ H' G w → St w0 M (σf x0 x1 x2 x3 x4) H (Gf x0 x1 x2 x3 x4) w) : QW (Exit.then (Rnd5 N I p σf Gf μ w0 M H m) Q) .normal N L (St w0 M σ H' G) :=
  fun a w hf hs => ⟨x0, x1, x2, x3, x4, hmu, hp, hf.sub hL, hS w hs⟩
def RndH5 {A0 A1 A2 A3 A4 : Type} (N : Nat) (I : A0 → A1 → A2 → A3 → A4 → TL) (p : A0 → A1 → A2 → A3 → A4 → Prop) (σf : A0 → A1 → A2 → A3 → A4 → Hp) (Gf : A0 → A1 → A2 → A3 → A4 → List (Nat × Obj)) (μ : A0 → A1 → A2 → A3 → A4 → Nat) (w0 : World) (M : Nat → Prop) (Hf : A0 → A1 → A2 → A3 → A4 → List (Nat × Obj)) (m : Nat) (a : Act) (w : World) : Prop :=
  ∃ y0 y1 y2 y3 y4, μ y0 y1 y2 y3 y4 < m ∧ p y0 y1 y2 y3 y4 ∧ Fr N (I y0 y1 y2 y3 y4) a ∧ St w0 M (σf y0 y1 y2 y3 y4) (Hf y0 y1 y2 y3 y4) (Gf y0 y1 y2 y3 y4) w
theorem cw_loopH5 {A0 A1 A2 A3 A4 : Type} {c : Code} (I : A0 → A1 → A2 → A3 → A4 → TL) (p : A0 → A1 → A2 → A3 → A4 → Prop) (σf : A0 → A1 → A2 → A3 → A4 → Hp) (Hf : A0 → A1 → A2 → A3 → A4 → List (Nat × Obj)) (Gf : A0 → A1 → A2 → A3 → A4 → List (Nat × Obj)) (μ : A0 → A1 → A2 → A3 → A4 → Nat) (x0 : A0) (x1 : A1) (x2 : A2) (x3 : A3) (x4 : A4) (hL : subL L (I x0 x1 x2 x3 x4)) (hp : p x0 x1 x2 x3 x4)
    (hS : ∀ w, St w0 M σ H G w → St w0 M (σf x0 x1 x2 x3 x4) (Hf x0 x1 x2 x3 x4) (Gf x0 x1 x2 x3 x4) w)
    (round : ∀ x0 x1 x2 x3 x4, p x0 x1 x2 x3 x4 → CW P c (Exit.then (RndH5 N I p σf Gf μ w0 M Hf (μ x0 x1 x2 x3 x4)) Q) N (I x0 x1 x2 x3 x4) (St w0 M (σf x0 x1 x2 x3 x4) (Hf x0 x1 x2 x3 x4) (Gf x0 x1 x2 x3 x4))) : CW P (.loop c) Q N L (St w0 M σ H G) :=
  cw_loop (α := A0 × A1 × A2 × A3 × A4) (fun x => I (x.1) (x.2.1) (x.2.2.1) (x.2.2.2.1) (x.2.2.2.2)) (fun x w => p (x.1) (x.2.1) (x.2.2.1) (x.2.2.2.1) (x.2.2.2.2) ∧ St w0 M (σf (x.1) (x.2.1) (x.2.2.1) (x.2.2.2.1) (x.2.2.2.2)) (Hf (x.1) (x.2.1) (x.2.2.1) (x.2.2.2.1) (x.2.2.2.2)) (Gf (x.1) (x.2.1) (x.2.2.1) (x.2.2.2.1) (x.2.2.2.2)) w) (fun x => μ (x.1) (x.2.1) (x.2.2.1) (x.2.2.2.1) (x.2.2.2.2)) (x0, x1, x2, x3, x4) hL (fun w hs => ⟨hp, hS w hs⟩)
    (fun ⟨x0, x1, x2, x3, x4⟩ => cw_and fun hx a w hf hs => wp_mono (round x0 x1 x2 x3 x4 hx a w hf hs) (fun e a' w' h => by
      cases e with
      | normal => obtain ⟨y0, y1, y2, y3, y4, h1, h2, h3, h4⟩ := h; exact ⟨⟨y0, y1, y2, y3, y4⟩, h1, h3, h2, h4⟩
      | _ => exact h))
theorem qw_roundH5 {A0 A1 A2 A3 A4 : Type} {I : A0 → A1 → A2 → A3 → A4 → TL} {p : A0 → A1 → A2 → A3 → A4 → Prop} {σf : A0 → A1 → A2 → A3 → A4 → Hp} {Gf : A0 → A1 → A2 → A3 → A4 → List (Nat × Obj)} {μ : A0 → A1 → A2 → A3 → A4 → Nat} {Hf : A0 → A1 → A2 → A3 → A4 → List (Nat × Obj)} {H' : List (Nat × Obj)} {m : Nat} (x0 : A0) (x1 : A1) (x2 : A2) (x3 : A3) (x4 : A4) (hmu : μ x0 x1 x2 x3 x4 < m) (hL : subL L (I x0 x1 x2 x3 x4)) (hp : p x0 x1 x2 x3 x4)
    (hS : ∀ w, St w0 M σ H' G w → St w0 M (σf x0 x1 x2 x3 x4) (Hf x0 x1 x2 x3 x4) (Gf x0 x1 x2 x3 x4) w) : QW (Exit.then (RndH5 N I p σf Gf μ w0 M Hf m) Q) .normal N L (St w0 M σ H' G) :=
  fun a w hf hs => ⟨x0, x1, x2, x3, x4, hmu, hp, hf.sub hL, hS w hs⟩
def Rnd6 {A0 A1 A2 A3 A4 A5 : Type} (N : Nat) (I : A0 → A1 → A2 → A3 → A4 → A5 → TL) (p : A0 → A1 → A2 → A3 → A4 → A5 → Prop) (σf : A0 → A1 → A2 → A3 → A4 → A5 → Hp) (Gf : A0 → A1 → A2 → A3 → A4 → A5 → List (Nat × Obj)) (μ : A0 → A1 → A2 → A3 → A4 → A5 → Nat) (w0 : World) (M : Nat → Prop) (H : List (Nat × Obj)) (m : Nat) (a : Act) (w : World) : Prop :=
  ∃ y0 y1 y2 y3 y4 y5, μ y0 y1 y2 y3 y4 y5 < m ∧ p y0 y1 y2 y3 y4 y5 ∧ Fr N (I y0 y1 y2 y3 y4 y5) a ∧ St w0 M (σf y0 y1 y2 y3 y4 y5) H (Gf y0 y1 y2 y3 y4 y5) w
theorem cw_loop6 {A0 A1 A2 A3 A4 A5 : Type} {c : Code} (I : A0 → A1 → A2 → A3 → A4 → A5 → TL) (p : A0 → A1 → A2 → A3 → A4 → A5 → Prop) (σf : A0 → A1 → A2 → A3 → A4 → A5 → Hp) (Gf : A0 → A1 → A2 → A3 → A4 → A5 → List (Nat × Obj)) (μ : A0 → A1 → A2 → A3 → A4 → A5 → Nat) (x0 : A0) (x1 : A1) (x2 : A2) (x3 : A3) (x4 : A4) (x5 : A5) (hL : subL L (I x0 x1 x2 x3 x4 x5)) (hp : p x0 x1 x2 x3 x4 x5)
    (hS : ∀ w, St w0 M σ H G w → St w0 M (σf x0 x1 x2 x3 x4 x5) H (Gf x0 x1 x2 x3 x4 x5) w)
    (round : ∀ x0 x1 x2 x3 x4 x5, p x0 x1 x2 x3 x4 x5 → CW P c (Exit.then (Rnd6 N I p σf Gf μ w0 M H (μ x0 x1 x2 x3 x4 x5)) Q) N (I x0 x1 x2 x3 x4 x5) (St w0 M (σf x0 x1 x2 x3 x4 x5) H (Gf x0 x1 x2 x3 x4 x5))) : CW P (.loop c) Q N L (St w0 M σ H G) :=
  cw_loop (α := A0 × A1 × A2 × A3 × A4 × A5) (fun x => I (x.1) (x.2.1) (x.2.2.1) (x.2.2.2.1) (x.2.2.2.2.1) (x.2.2.2.2.2)) (fun x w => p (x.1) (x.2.1) (x.2.2.1) (x.2.2.2.1) (x.2.2.2.2.1) (x.2.2.2.2.2) ∧ St w0 M (σf (x.1) (x.2.1) (x.2.2.1) (x.2.2.2.1) (x.2.2.2.2.1) (x.2.2.2.2.2)) H (Gf (x.1) (x.2.1) (x.2.2.1) (x.2.2.2.1) (x.2.2.2.2.1) (x.2.2.2.2.2)) w) (fun x => μ (x.1) (x.2.1) (x.2.2.1) (x.2.2.2.1) (x.2.2.2.2.1) (x.2.2.2.2.2)) (x0, x1, x2, x3, x4, x5) hL (fun w hs => ⟨hp, hS w hs⟩)
    (fun ⟨x0, x1, x2, x3, x4, x5⟩ => cw_and fun hx a w hf hs => wp_mono (round x0 x1 x2 x3 x4 x5 hx a w hf hs) (fun e a' w' h => by
      cases e with
      | normal => obtain ⟨y0, y1, y2, y3, y4, y5, h1, h2, h3, h4⟩ := h; exact ⟨⟨y0, y1, y2, y3, y4, y5⟩, h1, h3, h2, h4⟩
      | _ => exact h))
theorem qw_round6 {A0 A1 A2 A3 A4 A5 : Type} {I : A0 → A1 → A2 → A3 → A4 → A5 → TL} {p : A0 → A1 → A2 → A3 → A4 → A5 → Prop} {σf : A0 → A1 → A2 → A3 → A4 → A5 → Hp} {Gf : A0 → A1 → A2 → A3 → A4 → A5 → List (Nat × Obj)} {μ : A0 → A1 → A2 → A3 → A4 → A5 → Nat} {H' : List (Nat × Obj)} {m : Nat} (x0 : A0) (x1 : A1) (x2 : A2) (x3 : A3) (x4 : A4) (x5 : A5) (hmu : μ x0 x1 x2 x3 x4 x5 < m) (hL : subL L (I x0 x1 x2 x3 x4 x5)) (hp : p x0 x1 x2 x3 x4 x5)
    (hS : ∀ w, St w0 M σ H' G w → St w0 M (σf x0 x1 x2 x3 x4 x5) H (Gf x0 x1 x2 x3 x4 x5) w) : QW (Exit.then (Rnd6 N I p σf Gf μ w0 M H m) Q) .normal N L (St w0 M σ H' G) :=
  fun a w hf hs => ⟨x0, x1, x2, x3, x4, x5, hmu, hp, hf.sub hL, hS w hs⟩
def RndH6 {A0 A1 A2 A3 A4 A5 : Type} (N : Nat) (I : A0 → A1 → A2 → A3 → A4 → A5 → TL) (p : A0 → A1 → A2 → A3 → A4 → A5 → Prop) (σf : A0 → A1 → A2 → A3 → A4 → A5 → Hp) (Gf : A0 → A1 → A2 → A3 → A4 → A5 → List (Nat × Obj)) (μ : A0 → A1 → A2 → A3 → A4 → A5 → Nat) (w0 : World) (M : Nat → Prop) (Hf : A0 → A1 → A2 → A3 → A4 → A5 → List (Nat × Obj)) (m : Nat) (a : Act) (w : World) : Prop :=
  ∃ y0 y1 y2 y3 y4 y5, μ y0 y1 y2 y3 y4 y5 < m ∧ p y0 y1 y2 y3 y4 y5 ∧ Fr N (I y0 y1 y2 y3 y4 y5) a ∧ St w0 M (σf y0 y1 y2 y3 y4 y5) (Hf y0 y1 y2 y3 y4 y5) (Gf y0 y1 y2 y3 y4 y5) w
theorem cw_loopH6 {A0 A1 A2 A3 A4 A5 : Type} {c : Code} (I : A0 → A1 → A2 → A3 → A4 → A5 → TL) (p : A0 → A1 → A2 → A3 → A4 → A5 → Prop) (σf : A0 → A1 → A2 → A3 → A4 → A5 → Hp) (Hf : A0 → A1 → A2 → A3 → A4 → A5 → List (Nat × Obj)) (Gf : A0 → A1 → A2 → A3 → A4 → A5 → List (Nat × Obj)) (μ : A0 → A1 → A2 → A3 → A4 → A5 → Nat) (x0 : A0) (x1 : A1) (x2 : A2) (x3 : A3) (x4 : A4) (x5 : A5) (hL : subL L (I x0 x1 x2 x3 x4 x5)) (hp : p x0 x1 x2 x3 x4 x5)
    (hS : ∀ w, St w0 M σ H G w → St w0 M (σf x0 x1 x2 x3 x4 x5) (Hf x0 x1 x2 x3 x4 x5) (Gf x0 x1 x2 x3 x4 x5) w)
    (round : ∀ x0 x1 x2 x3 x4 x5, p x0 x1 x2 x3 x4 x5 → CW P c (Exit.then (RndH6 N I p σf Gf μ w0 M Hf (μ x0 x1 x2 x3 x4 x5)) Q) N (I x0 x1 x2 x3 x4 x5) (St w0 M (σf x0 x1 x2 x3 x4 x5) (Hf x0 x1 x2 x3 x4 x5) (Gf x0 x1 x2 x3 x4 x5))) : CW P (.loop c) Q N L (St w0 M σ H G) :=
  cw_loop (α := A0 × A1 × A2 × A3 × A4 × A5) (fun x => I (x.1) (x.2.1) (x.2.2.1) (x.2.2.2.1) (x.2.2.2.2.1) (x.2.2.2.2.2)) (fun x w => p (x.1) (x.2.1) (x.2.2.1) (x.2.2.2.1) (x.2.2.2.2.1) (x.2.2.2.2.2) ∧ St w0 M (σf (x.1) (x.2.1) (x.2.2.1) (x.2.2.2.1) (x.2.2.2.2.1) (x.2.2.2.2.2)) (Hf (x.1) (x.2.1) (x.2.2.1) (x.2.2.2.1) (x.2.2.2.2.1) (x.2.2.2.2.2)) (Gf (x.1) (x.2.1) (x.2.2.1) (x.2.2.2.1) (x.2.2.2.2.1) (x.2.2.2.2.2)) w) (fun x => μ (x.1) (x.2.1) (x.2.2.1) (x.2.2.2.1) (x.2.2.2.2.1) (x.2.2.2.2.2)) (x0, x1, x2, x3, x4, x5) hL (fun w hs => ⟨hp, hS w hs⟩)
    (fun ⟨x0, x1, x2, x3, x4, x5⟩ => cw_and fun hx a w hf hs => wp_mono (round x0 x1 x2 x3 x4 x5 hx a w hf hs) (fun e a' w' h => by
      cases e with
      | normal => obtain ⟨y0, y1, y2, y3, y4, y5, h1, h2, h3, h4⟩ := h; exact ⟨⟨y0, y1, y2, y3, y4, y5⟩, h1, h3, h2, h4⟩
      | _ => exact h))
theorem qw_roundH6 {A0 A1 A2 A3 A4 A5 : Type} {I : A0 → A1 → A2 → A3 → A4 → A5 → TL} {p : A0 → A1 → A2 → A3 → A4 → A5 → Prop} {σf : A0 → A1 → A2 → A3 → A4 → A5 → Hp} {Gf : A0 → A1 → A2 → A3 → A4 → A5 → List (Nat × Obj)} {μ : A0 → A1 → A2 → A3 → A4 → A5 → Nat} {Hf : A0 → A1 → A2 → A3 → A4 → A5 → List (Nat × Obj)} {H' : List (Nat × Obj)} {m : Nat} (x0 : A0) (x1 : A1) (x2 : A2) (x3 : A3) (x4 : A4) (x5 : A5) (hmu : μ x0 x1 x2 x3 x4 x5 < m) (hL : subL L (I x0 x1 x2 x3 x4 x5)) (hp : p x0 x1 x2 x3 x4 x5)
    (hS : ∀ w, St w0 M σ H' G w → St w0 M (σf x0 x1 x2 x3 x4 x5) (Hf x0 x1 x2 x3 x4 x5) (Gf x0 x1 x2 x3 x4 x5) w) : QW (Exit.then (RndH6 N I p σf Gf μ w0 M Hf m) Q) .normal N L (St w0 M σ H' G) :=
  fun a w hf hs => ⟨x0, x1, x2, x3, x4, x5, hmu, hp, hf.sub hL, hS w hs⟩
def Rnd7 {A0 A1 A2 A3 A4 A5 A6 : Type} (N : Nat) (I : A0 → A1 → A2 → A3 → A4 → A5 → A6 → TL) (p : A0 → A1 → A2 → A3 → A4 → A5 → A6 → Prop) (σf : A0 → A1 → A2 → A3 → A4 → A5 → A6 → Hp) (Gf : A0 → A1 → A2 → A3 → A4 → A5 → A6 → List (Nat × Obj)) (μ : A0 → A1 → A2 → A3 → A4 → A5 → A6 → Nat) (w0 : World) (M : Nat → Prop) (H : List (Nat × Obj)) (m : Nat) (a : Act) (w : World) : Prop :=
  ∃ y0 y1 y2 y3 y4 y5 y6, μ y0 y1 y2 y3 y4 y5 y6 < m ∧ p y0 y1 y2 y3 y4 y5 y6 ∧ Fr N (I y0 y1 y2 y3 y4 y5 y6) a ∧ St w0 M (σf y0 y1 y2 y3 y4 y5 y6) H (Gf y0 y1 y2 y3 y4 y5 y6) w
theorem cw_loop7 {A0 A1 A2 A3 A4 A5 A6 : Type} {c : Code} (I : A0 → A1 → A2 → A3 → A4 → A5 → A6 → TL) (p : A0 → A1 → A2 → A3 → A4 → A5 → A6 → Prop) (σf : A0 → A1 → A2 → A3 → A4 → A5 → A6 → Hp) (Gf : A0 → A1 → A2 → A3 → A4 → A5 → A6 → List (Nat × Obj)) (μ : A0 → A1 → A2 → A3 → A4 → A5 → A6 → Nat) (x0 : A0) (x1 : A1) (x2 : A2) (x3 : A3) (x4 : A4) (x5 : A5) (x6 : A6) (hL : subL L (I x0 x1 x2 x3 x4 x5 x6)) (hp : p x0 x1 x2 x3 x4 x5 x6)
    (hS : ∀ w, St w0 M σ H G w → St w0 M (σf x0 x1 x2 x3 x4 x5 x6) H (Gf x0 x1 x2 x3 x4 x5 x6) w)
    (round : ∀ x0 x1 x2 x3 x4 x5 x6, p x0 x1 x2 x3 x4 x5 x6 → CW P c (Exit.then (Rnd7 N I p σf Gf μ w0 M H (μ x0 x1 x2 x3 x4 x5 x6)) Q) N (I x0 x1 x2 x3 x4 x5 x6) (St w0 M (σf x0 x1 x2 x3 x4 x5 x6) H (Gf x0 x1 x2 x3 x4 x5 x6))) : CW P (.loop c) Q N L (St w0 M σ H G) :=
  cw_loop (α := A0 × A1 × A2 × A3 × A4 × A5 × A6) (fun x => I (x.1) (x.2.1) (x.2.2.1) (x.2.2.2.1) (x.2.2.2.2.1) (x.2.2.2.2.2.1) (x.2.2.2.2.2.2)) (fun x w => p (x.1) (x.2.1) (x.2.2.1) (x.2.2.2.1) (x.2.2.2.2.1) (x.2.2.2.2.2.1) (x.2.2.2.2.2.2) ∧ St w0 M (σf (x.1) (x.2.1) (x.2.2.1) (x.2.2.2.1) (x.2.2.2.2.1) (x.2.2.2.2.2.1) (x.2.2.2.2.2.2)) H (Gf (x.1) (x.2.1) (x.2.2.1) (x.2.2.2.1) (x.2.2.2.2.1) (x.2.2.2.2.2.1) (x.2.2.2.2.2.2)) w) (fun x => μ (x.1) (x.2.1) (x.2.2.1) (x.2.2.2.1) (x.2.2.2.2.1) (x.2.2.2.2.2.1) (x.2.2.2.2.2.2)) (x0, x1, x2, x3, x4, x5, x6) hL (fun w hs => ⟨hp, hS w hs⟩)
    (fun ⟨x0, x1, x2, x3, x4, x5, x6⟩ => cw_and fun hx a w hf hs => wp_mono (round x0 x1 x2 x3 x4 x5 x6 hx a w hf hs) (fun e a' w' h => by
      cases e with
      | normal => obtain ⟨y0, y1, y2, y3, y4, y5, y6, h1, h2, h3, h4⟩ := h; exact ⟨⟨y0, y1, y2, y3, y4, y5, y6⟩, h1, h3, h2, h4⟩
      | _ => exact h))
theorem qw_round7 {A0 A1 A2 A3 A4 A5 A6 : Type} {I : A0 → A1 → A2 → A3 → A4 → A5 → A6 → TL} {p : A0 → A1 → A2 → A3 → A4 → A5 → A6 → Prop} {σf : A0 → A1 → A2 → A3 → A4 → A5 → A6 → Hp} {Gf : A0 → A1 → A2 → A3 → A4 → A5 → A6 → List (Nat × Obj)} {μ : A0 → A1 → A2 → A3 → A4 → A5 → A6 → Nat} {H' : List (Nat × Obj)} {m : Nat} (x0 : A0) (x1 : A1) (x2 : A2) (x3 : A3) (x4 : A4) (x5 : A5) (x6 : A6) (hmu : μ x0 x1 x2 x3 x4 x5 x6 < m) (hL : subL L (I x0 x1 x2 x3 x4 x5 x6)) (hp : p x0 x1 x2 x3 x4 x5 x6)
    (hS : ∀ w, St w0 M σ H' G w → St w0 M (σf x0 x1 x2 x3 x4 x5 x6) H (Gf x0 x1 x2 x3 x4 x5 x6) w) : QW (Exit.then (Rnd7 N I p σf Gf μ w0 M H m) Q) .normal N L (St w0 M σ H' G) :=
  fun a w hf hs => ⟨x0, x1, x2, x3, x4, x5, x6, hmu, hp, hf.sub hL, hS w hs⟩
def RndH7 {A0 A1 A2 A3 A4 A5 A6 : Type} (N : Nat) (I : A0 → A1 → A2 → A3 → A4 → A5 → A6 → TL) (p : A0 → A1 → A2 → A3 → A4 → A5 → A6 → Prop) (σf : A0 → A1 → A2 → A3 → A4 → A5 → A6 → Hp) (Gf : A0 → A1 → A2 → A3 → A4 → A5 → A6 → List (Nat × Obj)) (μ : A0 → A1 → A2 → A3 → A4 → A5 → A6 → Nat) (w0 : World) (M : Nat → Prop) (Hf : A0 → A1 → A2 → A3 → A4 → A5 → A6 → List (Nat × Obj)) (m : Nat) (a : Act) (w : World) : Prop :=
  ∃ y0 y1 y2 y3 y4 y5 y6, μ y0 y1 y2 y3 y4 y5 y6 < m ∧ p y0 y1 y2 y3 y4 y5 y6 ∧ Fr N (I y0 y1 y2 y3 y4 y5 y6) a ∧ St w0 M (σf y0 y1 y2 y3 y4 y5 y6) (Hf y0 y1 y2 y3 y4 y5 y6) (Gf y0 y1 y2 y3 y4 y5 y6) w
theorem cw_loopH7 {A0 A1 A2 A3 A4 A5 A6 : Type} {c : Code} (I : A0 → A1 → A2 → A3 → A4 → A5 → A6 → TL) (p : A0 → A1 → A2 → A3 → A4 → A5 → A6 → Prop) (σf : A0 → A1 → A2 → A3 → A4 → A5 → A6 → Hp) (Hf : A0 → A1 → A2 → A3 → A4 → A5 → A6 → List (Nat × Obj)) (Gf : A0 → A1 → A2 → A3 → A4 → A5 → A6 → List (Nat × Obj)) (μ : A0 → A1 → A2 → A3 → A4 → A5 → A6 → Nat) (x0 : A0) (x1 : A1) (x2 : A2) (x3 : A3) (x4 : A4) (x5 : A5) (x6 : A6) (hL : subL L (I x0 x1 x2 x3 x4 x5 x6)) (hp : p x0 x1 x2 x3 x4 x5 x6)
    (hS : ∀ w, St w0 M σ H G w → St w0 M (σf x0 x1 x2 x3 x4 x5 x6) (Hf x0 x1 x2 x3 x4 x5 x6) (Gf x0 x1 x2 x3 x4 x5 x6) w)
    (round : ∀ x0 x1 x2 x3 x4 x5 x6, p x0 x1 x2 x3 x4 x5 x6 → CW P c (Exit.then (RndH7 N I p σf Gf μ w0 M Hf (μ x0 x1 x2 x3 x4 x5 x6)) Q) N (I x0 x1 x2 x3 x4 x5 x6) (St w0 M (σf x0 x1 x2 x3 x4 x5 x6) (Hf x0 x1 x2 x3 x4 x5 x6) (Gf x0 x1 x2 x3 x4 x5 x6))) : CW P (.loop c) Q N L (St w0 M σ H G) :=
  cw_loop (α := A0 × A1 × A2 × A3 × A4 × A5 × A6) (fun x => I (x.1) (x.2.1) (x.2.2.1) (x.2.2.2.1) (x.2.2.2.2.1) (x.2.2.2.2.2.1) (x.2.2.2.2.2.2)) (fun x w => p (x.1) (x.2.1) (x.2.2.1) (x.2.2.2.1) (x.2.2.2.2.1) (x.2.2.2.2.2.1) (x.2.2.2.2.2.2) ∧ St w0 M (σf (x.1) (x.2.1) (x.2.2.1) (x.2.2.2.1) (x.2.2.2.2.1) (x.2.2.2.2.2.1) (x.2.2.2.2.2.2)) (Hf (x.1) (x.2.1) (x.2.2.1) (x.2.2.2.1) (x.2.2.2.2.1) (x.2.2.2.2.2.1) (x.2.2.2.2.2.2)) (Gf (x.1) (x.2.1) (x.2.2.1) (x.2.2.2.1) (x.2.2.2.2.1) (x.2.2.2.2.2.1) (x.2.2.2.2.2.2)) w) (fun x => μ (x.1) (x.2.1) (x.2.2.1) (x.2.2.2.1) (x.2.2.2.2.1) (x.2.2.2.2.2.1) (x.2.2.2.2.2.2)) (x0, x1, x2, x3, x4, x5, x6) hL (fun w hs => ⟨hp, hS w hs⟩)
    (fun ⟨x0, x1, x2, x3, x4, x5, x6⟩ => cw_and fun hx a w hf hs => wp_mono (round x0 x1 x2 x3 x4 x5 x6 hx a w hf hs) (fun e a' w' h => by
      cases e with
      | normal => obtain ⟨y0, y1, y2, y3, y4, y5, y6, h1, h2, h3, h4⟩ := h; exact ⟨⟨y0, y1, y2, y3, y4, y5, y6⟩, h1, h3, h2, h4⟩
      | _ => exact h))
theorem qw_roundH7 {A0 A1 A2 A3 A4 A5 A6 : Type} {I : A0 → A1 → A2 → A3 → A4 → A5 → A6 → TL} {p : A0 → A1 → A2 → A3 → A4 → A5 → A6 → Prop} {σf : A0 → A1 → A2 → A3 → A4 → A5 → A6 → Hp} {Gf : A0 → A1 → A2 → A3 → A4 → A5 → A6 → List (Nat × Obj)} {μ : A0 → A1 → A2 → A3 → A4 → A5 → A6 → Nat} {Hf : A0 → A1 → A2 → A3 → A4 → A5 → A6 → List (Nat × Obj)} {H' : List (Nat × Obj)} {m : Nat} (x0 : A0) (x1 : A1) (x2 : A2) (x3 : A3) (x4 : A4) (x5 : A5) (x6 : A6) (hmu : μ x0 x1 x2 x3 x4 x5 x6 < m) (hL : subL L (I x0 x1 x2 x3 x4 x5 x6)) (hp : p x0 x1 x2 x3 x4 x5 x6)
    (hS : ∀ w, St w0 M σ H' G w → St w0 M (σf x0 x1 x2 x3 x4 x5 x6) (Hf x0 x1 x2 x3 x4 x5 x6) (Gf x0 x1 x2 x3 x4 x5 x6) w) : QW (Exit.then (RndH7 N I p σf Gf μ w0 M Hf m) Q) .normal N L (St w0 M σ H' G) :=
  fun a w hf hs => ⟨x0, x1, x2, x3, x4, x5, x6, hmu, hp, hf.sub hL, hS w hs⟩
end

/-! ## Rows of terms -/
def RowC (σ : Hp) : List Value → List T → Prop
  | xs, [] => xs = []
  | xs, t :: r => ∃ c rest, xs = c ++ rest ∧ TermC σ c t ∧ RowC σ rest r
theorem RowC.len {σ : Hp} : ∀ {ts : List T} {xs : List Value}, RowC σ xs ts → xs.length = ts.length * 4
  | [], xs, h => by simp only [RowC] at h; simp [h]
  | t :: r, xs, h => by
    simp only [RowC] at h
    obtain ⟨c, rest, rfl, h1, h2⟩ := h
    simp [h1.len, h2.len, Nat.add_mul]; omega
theorem RowC.le {σ τ : Hp} (hl : Le σ τ) : ∀ {ts : List T} {xs : List Value}, RowC σ xs ts → RowC τ xs ts
  | [], xs, h => h
  | t :: r, xs, h => by
    simp only [RowC] at h ⊢
    obtain ⟨c, rest, h0, h1, h2⟩ := h
    exact ⟨c, rest, h0, h1.le hl, h2.le hl⟩
theorem RowC.append {σ : Hp} : ∀ {ts us : List T} {xs ys : List Value}, RowC σ xs ts → RowC σ ys us → RowC σ (xs ++ ys) (ts ++ us)
  | [], us, xs, ys, h, k => by simp only [RowC] at h; subst h; simpa using k
  | t :: r, us, xs, ys, h, k => by
    simp only [RowC] at h
    obtain ⟨c, rest, rfl, h1, h2⟩ := h
    simp only [List.cons_append, RowC]
    exact ⟨c, rest ++ ys, by simp, h1, h2.append k⟩
theorem RowC.one {σ : Hp} {c : List Value} {t : T} (h : TermC σ c t) : RowC σ c [t] := ⟨c, [], by simp, h, rfl⟩
theorem RowC.oneCell {σ : Hp} : ∀ {ts : List T} {xs : List Value}, RowC σ xs ts → ∀ v ∈ xs, v.oneCell' = true
  | [], xs, h, v, hv => by simp only [RowC] at h; subst h; cases hv
  | t :: r, xs, h, v, hv => by
    simp only [RowC] at h
    obtain ⟨c, rest, rfl, h1, h2⟩ := h
    rcases List.mem_append.1 hv with hv | hv
    · exact h1.one v hv
    · exact h2.oneCell v hv
theorem RowC.take {σ : Hp} : ∀ {ts : List T} {xs : List Value} (i : Nat), RowC σ xs ts → RowC σ (xs.take (i * 4)) (ts.take i)
  | [], xs, i, h => by simp only [RowC] at h; subst h; simp [RowC]
  | t :: r, xs, 0, h => by simp [RowC]
  | t :: r, xs, i + 1, h => by
    simp only [RowC] at h
    obtain ⟨c, rest, rfl, h1, h2⟩ := h
    rw [List.take_succ_cons]
    simp only [RowC]
    refine ⟨c, rest.take (i * 4), ?_, h1, h2.take i⟩
    rw [List.take_append, List.take_of_length_le (by rw [h1.len]; omega), h1.len, show (i + 1) * 4 - 4 = i * 4 by omega]
theorem RowC.drop {σ : Hp} : ∀ {ts : List T} {xs : List Value} (i : Nat), RowC σ xs ts → RowC σ (xs.drop (i * 4)) (ts.drop i)
  | [], xs, i, h => by simp only [RowC] at h; subst h; simp [RowC]
  | t :: r, xs, 0, h => by simpa using h
  | t :: r, xs, i + 1, h => by
    simp only [RowC] at h
    obtain ⟨c, rest, rfl, h1, h2⟩ := h
    rw [List.drop_succ_cons, List.drop_append, List.drop_eq_nil_of_le (by rw [h1.len]; omega), h1.len, show (i + 1) * 4 - 4 = i * 4 by omega, List.nil_append]
    exact h2.drop i
theorem ElemsC.row {σ : Hp} {b : Nat} : ∀ {ts : List T} {f : Nat}, ts ≠ [] → ElemsC σ b f ts → ∃ xs, RowC σ xs ts ∧ CellsAt σ b f xs
  | [], f, hn, _ => absurd rfl hn
  | [t], f, _, h => by
    simp only [ElemsC] at h
    obtain ⟨⟨cs, h1, h2⟩, _⟩ := h
    exact ⟨cs, RowC.one h2, h1⟩
  | t :: u :: r, f, _, h => by
    rw [ElemsC] at h
    obtain ⟨⟨cs, h1, h2⟩, h3⟩ := h
    obtain ⟨ys, h4, h5⟩ := ElemsC.row (by simp) h3
    refine ⟨cs ++ ys, ⟨cs, ys, rfl, h2, h4⟩, ?_⟩
    obtain ⟨arr, ty, fz, e1, e2⟩ := h1
    obtain ⟨arr', ty', fz', e3, e4⟩ := h5
    rw [e1] at e3
    cases e3
    refine ⟨arr, ty, fz, e1, fun j v hj => ?_⟩
    rw [List.getElem?_append] at hj
    split at hj
    · exact e2 j v hj
    · rename_i hge
      have := e4 (j - cs.length) v hj
      rw [h2.len] at this hge
      rw [show f + 4 + (j - 4) = f + j by omega] at this
      exact this
theorem RowC.elems {σ : Hp} {b : Nat} : ∀ {ts : List T} {xs : List Value} {f : Nat}, RowC σ xs ts → CellsAt σ b f xs → ElemsC σ b f ts
  | [], xs, f, _, _ => by simp only [ElemsC]
  | t :: r, xs, f, h, hc => by
    simp only [RowC] at h
    obtain ⟨c, rest, rfl, h1, h2⟩ := h
    obtain ⟨arr, ty, fz, e1, e2⟩ := hc
    simp only [ElemsC]
    refine ⟨⟨c, ⟨arr, ty, fz, e1, fun j v hj => e2 j v (by rw [List.getElem?_append_left (List.getElem?_eq_some_iff.1 hj).1]; exact hj)⟩, h1⟩, h2.elems ⟨arr, ty, fz, e1, fun j v hj => ?_⟩⟩
    have := e2 (4 + j) v (by rw [List.getElem?_append_right (by rw [h1.len]; omega), h1.len]; simpa using hj)
    rw [show f + 4 + j = f + (4 + j) by omega]
    exact this
/-- The cells of a slice of terms. -/
theorem KidsV.row {σ : Hp} {v : Value} {ks : List T} (h : KidsV σ v ks) : ∃ p c xs, v = .slice p ks.length c ∧ ks.length ≤ c ∧ ks.length ≤ maxKids ∧ RowC σ xs ks ∧ (ks = [] ∨ ∃ b f, p = some ⟨b, f, none⟩ ∧ CellsAt σ b f xs) := by
  obtain ⟨p, c, h1, h2, h3, h4⟩ := h
  by_cases hk : ks = []
  · subst hk; exact ⟨p, c, [], h1, h2, h3, rfl, .inl rfl⟩
  · obtain ⟨b, f, h5, h6⟩ := h4.resolve_left hk
    obtain ⟨xs, h7, h8⟩ := h6.row hk
    exact ⟨p, c, xs, h1, h2, h3, h7, .inr ⟨b, f, h5, h8⟩⟩
theorem CellsAt.take {σ : Hp} {b f : Nat} {xs : List Value} (h : CellsAt σ b f xs) (i : Nat) : CellsAt σ b f (xs.take i) := by
  obtain ⟨arr, ty, fz, e1, e2⟩ := h
  refine ⟨arr, ty, fz, e1, fun j v hj => e2 j v ?_⟩
  rw [List.getElem?_take] at hj
  split at hj
  · exact hj
  · cases hj
theorem CellsAt.drop {σ : Hp} {b f : Nat} {xs : List Value} (h : CellsAt σ b f xs) (i : Nat) : CellsAt σ b (f + i) (xs.drop i) := by
  obtain ⟨arr, ty, fz, e1, e2⟩ := h
  refine ⟨arr, ty, fz, e1, fun j v hj => ?_⟩
  rw [List.getElem?_drop] at hj
  have := e2 (i + j) v hj
  rwa [show f + i + j = f + (i + j) by omega]
/-- An owned row of terms is laid among what never turns. -/
theorem freezeG {w0 w : World} {M : Nat → Prop} {σ : Hp} {H Gs Gr : List (Nat × Obj)} {e : Nat} {v : Value} {n : Nat} {xs : List Value} {ts : List T} (hs : St w0 M σ H (Gs ++ Gr) w) (hM : ∀ b, M b → False)
    (hO : OwnSl e 4 v n xs Gs) (hr : RowC σ xs ts) (hlen : ts.length ≤ maxKids) : ∃ σ', Le σ σ' ∧ St w0 M σ' H Gr w ∧ KidsV σ' v ts ∧ Fresh σ σ' w0 := by
  have hn : n = ts.length := by have h1 := hO.1; have h2 := hr.len; omega
  subst hn
  rcases hO.2 with ⟨rfl, h0, rfl⟩ | ⟨g, c, cur, rfl, rfl, h2, h3, h4, h5⟩
  · have : ts = [] := List.eq_nil_of_length_eq_zero h0
    subst this
    exact ⟨σ, Le.refl _, hs, KidsV.nil σ, Fresh.refl _ _⟩
  · have hs1 : St w0 M σ ((g, .cells cur e (0, 0)) :: H) Gr w := hs.ofG
    have hle : Le σ (ext σ g (.cells cur e (0, 0))) := le_ext (hs.fresh (p := (g, .cells cur e (0, 0))) (by simp))
    refine ⟨ext σ g (.cells cur e (0, 0)), hle, hs1.freeze, ⟨_, c, rfl, h2, hlen, .inr ⟨g, 0, rfl, (hr.le hle).elems ⟨cur, e, (0, 0), ext_self _ _ _, fun j u hj => ?_⟩⟩⟩, fun b o hb => ?_⟩
    · rw [← h5, List.getElem?_take] at hj
      split at hj
      · simpa using hj
      · cases hj
    · unfold ext at hb
      split at hb
      · rename_i hbg; subst hbg; exact .inr ((St0.mo hs (b, .cells cur e (0, 0)) (by simp)).resolve_left (hM _))
      · exact .inl hb
/-- An owned row of bytes is laid among what never turns. -/
theorem freezeB {w0 w : World} {M : Nat → Prop} {σ : Hp} {H Gs Gr : List (Nat × Obj)} {e : Nat} {v : Value} {n : Nat} {xs : List Value} {d : List UInt8} (hs : St w0 M σ H (Gs ++ Gr) w) (hM : ∀ b, M b → False)
    (hO : OwnSl e 1 v n xs Gs) (hx : xs = d.map byteV) (hlen : d.length ≤ maxData) : ∃ σ', Le σ σ' ∧ St w0 M σ' H Gr w ∧ BytesV σ' v d ∧ Fresh σ σ' w0 := by
  subst hx
  have hn : n = d.length := by have h1 := hO.1; simp at h1; omega
  subst hn
  rcases hO.2 with ⟨rfl, h0, rfl⟩ | ⟨g, c, cur, rfl, rfl, h2, h3, h4, h5⟩
  · have : d = [] := List.eq_nil_of_length_eq_zero h0
    subst this
    exact ⟨σ, Le.refl _, hs, BytesV.nil σ, Fresh.refl _ _⟩
  · have hs1 : St w0 M σ ((g, .cells cur e (0, 0)) :: H) Gr w := hs.ofG
    have hle : Le σ (ext σ g (.cells cur e (0, 0))) := le_ext (hs.fresh (p := (g, .cells cur e (0, 0))) (by simp))
    refine ⟨ext σ g (.cells cur e (0, 0)), hle, hs1.freeze, ⟨_, c, rfl, h2, hlen, .inr ⟨g, 0, rfl, ⟨cur, e, (0, 0), ext_self _ _ _, fun j u hj => ?_⟩⟩⟩, fun b o hb => ?_⟩
    · rw [← h5, List.getElem?_take] at hj
      split at hj
      · simpa using hj
      · cases hj
    · unfold ext at hb
      split at hb
      · rename_i hbg; subst hbg; exact .inr ((St0.mo hs (b, .cells cur e (0, 0)) (by simp)).resolve_left (hM _))
      · exact .inl hb
section
variable {P : Program} {l0 : List Oper} {Q : Exit → Act → World → Prop} {l : List Oper} {N : Nat} {L : TL} {w0 : World} {M : Nat → Prop} {σ : Hp} {H Gs : List (Nat × Obj)} {e : Nat} {v : Value} {n : Nat} {xs : List Value}
theorem ow_frzB {d : List UInt8} (hM : ∀ b, M b → False) (hO : OwnSl e 1 v n xs Gs) (hx : xs = d.map byteV) (hlen : d.length ≤ maxData)
    (k : ∀ σ', Le σ σ' → Fresh σ σ' w0 → BytesV σ' v d → OW P l0 Q l N L (St w0 M σ' H [])) : OW P l0 Q l N L (St w0 M σ H Gs) := fun a w hf hs => by
  obtain ⟨σ', h1, h2, h3, h4⟩ := freezeB (Gr := []) (by simpa using hs) hM hO hx hlen
  exact k σ' h1 h4 h3 a w hf h2
theorem ow_frzG {ts : List T} (hM : ∀ b, M b → False) (hO : OwnSl e 4 v n xs Gs) (hr : RowC σ xs ts) (hlen : ts.length ≤ maxKids)
    (k : ∀ σ', Le σ σ' → Fresh σ σ' w0 → KidsV σ' v ts → OW P l0 Q l N L (St w0 M σ' H [])) : OW P l0 Q l N L (St w0 M σ H Gs) := fun a w hf hs => by
  obtain ⟨σ', h1, h2, h3, h4⟩ := freezeG (Gr := []) (by simpa using hs) hM hO hr hlen
  exact k σ' h1 h4 h3 a w hf h2
end
theorem BytesV.row {σ : Hp} {v : Value} {d : List UInt8} (h : BytesV σ v d) : ∃ p c, v = .slice p d.length c ∧ d.length ≤ c ∧ d.length ≤ maxData ∧ (d.length = 0 ∨ ∃ b o, p = some ⟨b, o, none⟩ ∧ CellsAt σ b o (d.map byteV)) := by
  obtain ⟨p, c, h1, h2, h3, h4⟩ := h
  exact ⟨p, c, h1, h2, h3, h4.imp (fun h => by simp [h]) id⟩
theorem bytes_one (d : List UInt8) : ∀ u ∈ d.map byteV, u.oneCell' = true := fun u hu => by
  obtain ⟨b, _, rfl⟩ := List.mem_map.1 hu; rfl
theorem OwnSl.cell {e size n : Nat} {v : Value} {xs : List Value} {Gs : List (Nat × Obj)} (h : OwnSl e size v n xs Gs) : v.cells = #[v] ∧ v.oneCell' = true := by
  rcases h.2 with ⟨rfl, _⟩ | ⟨g, c, cur, rfl, _⟩ <;> exact ⟨rfl, rfl⟩
theorem BytesV.cell {σ : Hp} {v : Value} {d : List UInt8} (h : BytesV σ v d) : v.cells = #[v] ∧ v.oneCell' = true := by
  obtain ⟨p, c, rfl, _⟩ := h.slice; exact ⟨rfl, rfl⟩
theorem KidsV.cell {σ : Hp} {v : Value} {ks : List T} (h : KidsV σ v ks) : v.cells = #[v] ∧ v.oneCell' = true := by
  obtain ⟨p, c, rfl, _⟩ := h.slice; exact ⟨rfl, rfl⟩
/-- Four cells of a term, each one. -/
theorem four_one {o n : Int} {a b : Value} (ha : a.oneCell' = true) (hb : b.oneCell' = true) : ∀ u ∈ [Value.int .i64 o, .int .i64 n, a, b], u.oneCell' = true := by
  intro u hu
  simp at hu
  rcases hu with rfl | rfl | rfl | rfl
  · rfl
  · rfl
  · exact ha
  · exact hb
end Go.Proofs.YtnjomdjkbbhdoaaDoor
