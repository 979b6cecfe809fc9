/- PU9, PLAIN: the reference's store: terms without rings at any time. -/
import Derived.Test.YtfkmlcgccffmnaaPu8
namespace Go.Proofs.Ytfkmlcgccffmnaa
open Go
section
variable {S S' S1 S2 : Sto} {ρ d ρ' d' ρ1 d1 : Nat → Nat} {a b c i j k x y : Nat} {t : RT}
def Acy (S : Sto) (ρ : Nat → Nat) : Prop := ∀ b ∈ S.ids, ∃ t, Res S ρ b t
/-- k is within b -/
inductive Rch (S : Sto) (ρ : Nat → Nat) (k : Nat) : Nat → Prop where
  | here {b : Nat} : ρ b = k → Rch S ρ k b
  | l {b x : Nat} : (S.tm (ρ b)).kind = 54 → (S.tm (ρ b)).l = some x → Rch S ρ k x → Rch S ρ k b
  | r {b x : Nat} : (S.tm (ρ b)).kind = 54 → (S.tm (ρ b)).r = some x → Rch S ρ k x → Rch S ρ k b
theorem Rch.eqr (h : Rch S ρ k b) (e : ρ c = ρ b) : Rch S ρ k c := by
  cases h with
  | here h => exact .here (e.trans h)
  | l h1 h2 h3 => exact .l (by rw [e]; exact h1) (by rw [e]; exact h2) h3
  | r h1 h2 h3 => exact .r (by rw [e]; exact h1) (by rw [e]; exact h2) h3
theorem Res.eqr (h : Res S ρ b t) (e : ρ c = ρ b) : Res S ρ c t := by
  cases h with
  | var h => rw [← e]; exact .var (by rw [e]; exact h)
  | con h => rw [← e]; exact .con (by rw [e]; exact h)
  | app h1 h2 h3 h4 h5 => exact .app (by rw [e]; exact h1) (by rw [e]; exact h2) (by rw [e]; exact h3) h4 h5
theorem rch_app (hW : WfS S ρ d) (hb : b ∈ S.ids) (hk : (S.tm (ρ b)).kind = 54) (hx : (S.tm (ρ b)).l = some x) (hy : (S.tm (ρ b)).r = some y) : Rch S ρ k b ↔ ρ b = k ∨ Rch S ρ k x ∨ Rch S ρ k y := by
  constructor
  · intro h
    cases h with
    | here h => exact .inl h
    | l _ h2 h3 => rw [hx] at h2; cases h2; exact .inr (.inl h3)
    | r _ h2 h3 => rw [hy] at h2; cases h2; exact .inr (.inr h3)
  · rintro (h | h | h)
    · exact .here h
    · exact .l hk hx h
    · exact .r hk hy h
theorem rch_leaf (hk : ¬ (S.tm (ρ b)).kind = 54) : Rch S ρ k b ↔ ρ b = k :=
  ⟨fun h => by cases h with | here h => exact h | l h1 => exact absurd h1 hk | r h1 => exact absurd h1 hk, .here⟩
/-- what is within something is equal to it or less -/
theorem Rch.le (hW : WfS S ρ d) {τ : Nat → RT} (hs : Sol rtG S τ) : ∀ {b : Nat}, Rch S ρ k b → b ∈ S.ids → (ρ b = k ∧ τ b = τ k) ∨ (τ k).nodes < (τ b).nodes := fun {b} h => by
  induction h with
  | @here b h => intro hb; exact .inl ⟨h, by rw [← h]; exact hW.sol hs hb⟩
  | @l b x hk hx _ ih =>
    intro hb
    obtain ⟨h1, h2⟩ := hW.rep b hb
    obtain ⟨_, x', y, hx2, hy2, hx3, hy3⟩ := hW.app _ h1 hk
    rw [hx] at hx3; cases hx3
    have h3 := (cond_app h2 hk hx hy3).1 (hs _ h1)
    have h4 : (τ (ρ b)).nodes = 1 + (τ x).nodes + (τ y).nodes := by rw [h3]; rfl
    rw [hW.sol hs hb]
    rcases ih hx2 with ⟨_, e⟩ | h
    · rw [← e]; exact .inr (by omega)
    · exact .inr (by omega)
  | @r b x hk hx _ ih =>
    intro hb
    obtain ⟨h1, h2⟩ := hW.rep b hb
    obtain ⟨_, y, x', hy2, hx2, hy3, hx3⟩ := hW.app _ h1 hk
    rw [hx] at hx3; cases hx3
    have h3 := (cond_app h2 hk hy3 hx).1 (hs _ h1)
    have h4 : (τ (ρ b)).nodes = 1 + (τ y).nodes + (τ x).nodes := by rw [h3]; rfl
    rw [hW.sol hs hb]
    rcases ih hx2 with ⟨_, e⟩ | h
    · rw [← e]; exact .inr (by omega)
    · exact .inr (by omega)
/-- a solution: each variable itself -/
theorem acy_sol (hW : WfS S ρ d) (h : Acy S ρ) : ∃ τ : Nat → RT, Sol rtG S τ ∧ ∀ b ∈ S.ids, Res S ρ b (τ b) := by
  have key : ∀ b, ∃ t, b ∈ S.ids → Res S ρ b t := fun b => by
    by_cases hb : b ∈ S.ids
    · exact (h b hb).imp fun t ht _ => ht
    · exact ⟨.var [], fun h => absurd h hb⟩
  have hr : ∀ b ∈ S.ids, Res S ρ b (Classical.choose (key b)) := fun b hb => Classical.choose_spec (key b) hb
  refine ⟨fun b => Classical.choose (key b), fun b hb => ?_, hr⟩
  refine ⟨fun j hj => ?_, fun hj => ⟨fun hk => ?_, fun x y hk hx hy => ?_⟩⟩
  · obtain ⟨h1, h2, _⟩ := hW.link b hb j hj
    exact (hr b hb).uniq ((hr j h1).eqr h2)
  · have e := hW.root b hb hj
    refine (hr b hb).uniq ?_
    have := Res.con (S := S) (ρ := ρ) (b := b) (by rw [e]; exact hk)
    rw [e] at this; exact this
  · have e := hW.root b hb hj
    obtain ⟨_, x', y', hx2, hy2, hx3, hy3⟩ := hW.app b hb hk
    rw [hx] at hx3; rw [hy] at hy3; cases hx3; cases hy3
    exact (hr b hb).uniq (.app (by rw [e]; exact hk) (by rw [e]; exact hx) (by rw [e]; exact hy) (hr x hx2) (hr y hy2))
/-- variables that stand for themselves -/
def uvN (S : Sto) : Nat := (S.ids.filter fun b => decide ((S.tm b).kind = 52 ∧ (S.tm b).same = none)).length
structure SmOk (S : Sto) (ρ : Nat → Nat) (i j : Nat) (S' : Sto) (ρ' d' : Nat → Nat) : Prop where
  wf : WfS S' ρ' d'
  acy : Acy S' ρ'
  iff : ∀ (A : Type) (G : Alg A) (τ : Nat → A), Sol G S' τ ↔ Sol G S τ ∧ τ i = τ j
  frame : ∀ c ∈ S.ids, (S.tm c).kind = 54 → (S.tm c).same = none → ¬ (S'.tm c).same = none → ∀ τ, Sol rtG S' τ → (τ c).nodes ≤ (τ i).nodes
  less : uvN S' < uvN S ∨ (uvN S' = uvN S ∧ ∀ b t, Res S ρ b t → Res S' ρ' b t)
def SmPost (S : Sto) (ρ : Nat → Nat) (i j : Nat) (S' : Sto) (ok : Bool) : Prop := Shp S S' ∧
  (ok = true → ∃ ρ' d', SmOk S ρ i j S' ρ' d') ∧ (ok = false → ∀ τ : Nat → RT, Sol rtG S τ → ¬ τ i = τ j)
theorem SmPost.symm_var {ok : Bool} (h : SmPost S ρ j i S' ok) (hv : ∀ c ∈ S.ids, (S.tm c).kind = 54 → (S.tm c).same = none → (S'.tm c).same = none) : SmPost S ρ i j S' ok := by
  obtain ⟨h1, h2, h3⟩ := h
  refine ⟨h1, fun e => ?_, fun e τ hs e2 => h3 e τ hs e2.symm⟩
  obtain ⟨ρ', d', g⟩ := h2 e
  exact ⟨ρ', d', g.wf, g.acy, fun A G τ => by rw [g.iff A G τ, eq_comm (a := τ j)], fun c hc hk hn hn' => absurd (hv c hc hk hn) hn', g.less⟩
theorem sm_rep {ok : Bool} (h : WfS S ρ d) (hi : i ∈ S.ids) (hj : j ∈ S.ids) (hp : SmPost S ρ (ρ j) (ρ i) S' ok) (hv : ∀ c ∈ S.ids, (S.tm c).kind = 54 → (S.tm c).same = none → (S'.tm c).same = none) : SmPost S ρ i j S' ok := by
  obtain ⟨h1, h2, h3⟩ := hp
  refine ⟨h1, fun e => ?_, fun e τ hs e2 => h3 e τ hs ((h.pair hi hj).1 ⟨hs, e2⟩).2.symm⟩
  obtain ⟨ρ', d', g⟩ := h2 e
  exact ⟨ρ', d', g.wf, g.acy, fun A G τ => by rw [g.iff A G τ, h.pair hi hj, eq_comm (a := τ (ρ j))], fun c hc hk hn hn' => absurd (hv c hc hk hn) hn', g.less⟩
theorem sm_same (h : WfS S ρ d) (hA : Acy S ρ) (hi : i ∈ S.ids) (hj : j ∈ S.ids) (e : ρ i = ρ j) : SmPost S ρ i j S true :=
  ⟨Shp.refl S, fun _ => ⟨_, _, h, hA, fun A G τ => ⟨fun hs => ⟨hs, by rw [h.sol hs hi, h.sol hs hj, e]⟩, fun h => h.1⟩, fun c _ _ hn hn' => absurd hn hn', .inr ⟨rfl, fun _ _ h => h⟩⟩, fun h => by cases h⟩
theorem uv_set (ha : a ∈ S.ids) (h : (S.tm a).same = none) (hk : (S.tm a).kind = 52) (b : Nat) : uvN (setSame S a b) < uvN S := by
  have hs := shp_set S a b
  refine filter_lt (a := a) (fun x hx => ?_) (by simp [h, hk]) ?_ S.ids ha
  · have hx := of_decide_eq_true hx
    refine decide_eq_true ⟨(hs.kind x).symm.trans hx.1, ?_⟩
    by_cases e : x = a
    · subst e; exact h
    · rw [set_same_ne S b e] at hx; exact hx.2
  · rw [set_same_eq]; simp
theorem uv_app (ha : a ∈ S.ids) (hk : ¬ (S.tm a).kind = 52) (b : Nat) : uvN (setSame S a b) = uvN S := by
  have hs := shp_set S a b
  unfold uvN
  refine congrArg List.length (List.filter_congr fun x _ => ?_)
  by_cases e : x = a
  · subst e
    rw [decide_eq_false (p := (((setSame S x b).tm x).kind = 52 ∧ _)) fun h => hk ((hs.kind x).symm.trans h.1), decide_eq_false fun h => hk h.1]
  · rw [set_same_ne S b e]
theorem res_far (hW : WfS S ρ d) (ha : a ∈ S.ids) : ∀ {c : Nat} {t : RT}, Res S ρ c t → ¬ Rch S ρ a c → Res (setSame S a b) (fun c => if ρ c = a then b else ρ c) c t := fun {c t} h => by
  have hs := shp_set S a b
  induction h with
  | @var c hk =>
    intro hn
    have e : ¬ ρ c = a := fun e => hn (.here e)
    have := Res.var (S := setSame S a b) (ρ := fun c => if ρ c = a then b else ρ c) (b := c) (by rw [if_neg e, hs.kind]; exact hk)
    rw [if_neg e, hs.name] at this; exact this
  | @con c hk =>
    intro hn
    have e : ¬ ρ c = a := fun e => hn (.here e)
    have := Res.con (S := setSame S a b) (ρ := fun c => if ρ c = a then b else ρ c) (b := c) (by rw [if_neg e, hs.kind]; exact hk)
    rw [if_neg e, hs.name] at this; exact this
  | @app c x y s t hk hx hy _ _ ih1 ih2 =>
    intro hn
    have e : ¬ ρ c = a := fun e => hn (.here e)
    exact .app (by rw [if_neg e, hs.kind]; exact hk) (by rw [if_neg e, hs.l]; exact hx) (by rw [if_neg e, hs.r]; exact hy) (ih1 fun h => hn (.l hk hx h)) (ih2 fun h => hn (.r hk hy h))
/-- a variable is put -/
theorem sm_var (h : WfS S ρ d) (hA : Acy S ρ) (hi : i ∈ S.ids) (hj : j ∈ S.ids) (e : ¬ ρ i = ρ j) (hk : (S.tm (ρ i)).kind = 52) (hk2 : (S.tm (ρ j)).kind = 52 → (S.tm (ρ j)).name ≤ (S.tm (ρ i)).name) (hn : ¬ Rch S ρ (ρ i) (ρ j)) : SmPost S ρ i j (setSame S (ρ i) (ρ j)) true := by
  obtain ⟨ha, ha1⟩ := h.rep i hi
  obtain ⟨hb, hb1⟩ := h.rep j hj
  have hs := shp_set S (ρ i) (ρ j)
  have hE := eq_var h hi hj e hk hk2
  refine ⟨hE.1, fun _ => ⟨_, _, h.linked ha hb ha1 hb1 e fun hk3 => ⟨hk, hk2 hk3⟩, ?_, (hE.2.1 rfl).2.2, fun c hc hk3 hn1 hn2 => ?_, .inl (uv_set ha ha1 hk _)⟩, fun h => by cases h⟩
  · obtain ⟨tb, htb⟩ := hA _ hb
    have htb' := res_far (b := ρ j) h ha htb hn
    have hrb : (if ρ (ρ j) = ρ i then ρ j else ρ (ρ j)) = ρ j := by rw [h.repr hj, if_neg fun e2 => e e2.symm]
    have key : ∀ {c : Nat} {t : RT}, Res S ρ c t → ∃ t', Res (setSame S (ρ i) (ρ j)) (fun c => if ρ c = ρ i then ρ j else ρ c) c t' := fun {c t} hc => by
      induction hc with
      | @var c hk3 =>
        by_cases e3 : ρ c = ρ i
        · exact ⟨tb, htb'.eqr (by rw [if_pos e3, hrb])⟩
        · exact ⟨_, .var (by rw [if_neg e3, hs.kind]; exact hk3)⟩
      | @con c hk3 =>
        by_cases e3 : ρ c = ρ i
        · exact ⟨tb, htb'.eqr (by rw [if_pos e3, hrb])⟩
        · exact ⟨_, .con (by rw [if_neg e3, hs.kind]; exact hk3)⟩
      | @app c x y s t hk3 hx hy _ _ ih1 ih2 =>
        have e3 : ¬ ρ c = ρ i := fun e3 => by rw [e3, hk] at hk3; cases hk3
        obtain ⟨s', hs'⟩ := ih1
        obtain ⟨t', ht'⟩ := ih2
        exact ⟨_, .app (by rw [if_neg e3, hs.kind]; exact hk3) (by rw [if_neg e3, hs.l]; exact hx) (by rw [if_neg e3, hs.r]; exact hy) hs' ht'⟩
    exact fun c hc => (hA c hc).elim fun t ht => key ht
  · have e3 : ¬ c = ρ i := fun e3 => by rw [e3, hk] at hk3; cases hk3
    rw [set_same_ne S _ e3] at hn2
    exact absurd hn1 hn2
/-- .. and it stands within what it would be -/
theorem sm_ring (h : WfS S ρ d) (hi : i ∈ S.ids) (hj : j ∈ S.ids) (e : ¬ ρ i = ρ j) (hn : Rch S ρ (ρ i) (ρ j)) : SmPost S ρ i j S false :=
  ⟨Shp.refl S, fun h => (by cases h), fun _ τ hs e2 => by
    have e3 := ((h.pair hi hj).1 ⟨hs, e2⟩).2
    rcases hn.le h hs (h.rep j hj).1 with ⟨h1, _⟩ | h1
    · rw [h.repr hj] at h1; exact e h1.symm
    · rw [e3] at h1; exact Nat.lt_irrefl _ h1⟩
theorem sm_no (h : WfS S ρ d) (hi : i ∈ S.ids) (hj : j ∈ S.ids) (hk : ¬ (S.tm (ρ i)).kind = 52) (hk2 : ¬ (S.tm (ρ j)).kind = 52)
    (hn : ¬ (S.tm (ρ i)).kind = (S.tm (ρ j)).kind ∨ ¬ (S.tm (ρ i)).name = (S.tm (ρ j)).name) : SmPost S ρ i j S false :=
  ⟨Shp.refl S, fun h => (by cases h), fun _ τ hs e2 => (eq_no h hi hj hk hk2 hn).2.2 rfl RT rtG τ hs e2⟩
theorem sm_con (h : WfS S ρ d) (hA : Acy S ρ) (hi : i ∈ S.ids) (hj : j ∈ S.ids) (hk : (S.tm (ρ i)).kind = 53) (hk2 : (S.tm (ρ j)).kind = 53) (hn : (S.tm (ρ i)).name = (S.tm (ρ j)).name) : SmPost S ρ i j S true := by
  obtain ⟨ha, ha1⟩ := h.rep i hi
  obtain ⟨hb, hb1⟩ := h.rep j hj
  exact ⟨Shp.refl S, fun _ => ⟨_, _, h, hA, fun A G τ => ⟨fun hs => ⟨hs, by rw [h.sol hs hi, h.sol hs hj, (cond_con ha1 hk).1 (hs _ ha), (cond_con hb1 hk2).1 (hs _ hb), hn]⟩, fun h => h.1⟩, fun c _ _ hn hn' => absurd hn hn', .inr ⟨rfl, fun _ _ h => h⟩⟩, fun h => by cases h⟩
theorem res_link (hW : WfS S ρ d) (ha : a ∈ S.ids) (hb : b ∈ S.ids) (hra : ρ a = a) (hrb : ρ b = b) (hne : ¬ a = b) (hab : ∀ t, Res S ρ a t → Res S ρ b t) : ∀ (t : RT) (c : Nat), Res S ρ c t → Res (setSame S a b) (fun c => if ρ c = a then b else ρ c) c t := fun t => by
  have hs := shp_set S a b
  induction t with
  | var n =>
    intro c hc
    by_cases e : ρ c = a
    · have h1 : Res S ρ b (.var n) := hab _ (hc.eqr (by rw [e, hra]))
      generalize hv : RT.var n = t at h1
      cases h1 with
      | var hk =>
        rw [hrb] at hk
        have := Res.var (S := setSame S a b) (ρ := fun c => if ρ c = a then b else ρ c) (b := c) (by rw [if_pos e, hs.kind]; exact hk)
        rw [if_pos e, hs.name] at this; rw [hrb]; exact this
      | con _ => cases hv
      | app _ _ _ _ _ => cases hv
    · generalize hv : RT.var n = t at hc
      cases hc with
      | var hk =>
        have := Res.var (S := setSame S a b) (ρ := fun c => if ρ c = a then b else ρ c) (b := c) (by rw [if_neg e, hs.kind]; exact hk)
        rw [if_neg e, hs.name] at this; exact this
      | con _ => cases hv
      | app _ _ _ _ _ => cases hv
  | con n =>
    intro c hc
    by_cases e : ρ c = a
    · have h1 : Res S ρ b (.con n) := hab _ (hc.eqr (by rw [e, hra]))
      generalize hv : RT.con n = t at h1
      cases h1 with
      | con hk =>
        rw [hrb] at hk
        have := Res.con (S := setSame S a b) (ρ := fun c => if ρ c = a then b else ρ c) (b := c) (by rw [if_pos e, hs.kind]; exact hk)
        rw [if_pos e, hs.name] at this; rw [hrb]; exact this
      | var _ => cases hv
      | app _ _ _ _ _ => cases hv
    · generalize hv : RT.con n = t at hc
      cases hc with
      | con hk =>
        have := Res.con (S := setSame S a b) (ρ := fun c => if ρ c = a then b else ρ c) (b := c) (by rw [if_neg e, hs.kind]; exact hk)
        rw [if_neg e, hs.name] at this; exact this
      | var _ => cases hv
      | app _ _ _ _ _ => cases hv
  | app s u ih1 ih2 =>
    intro c hc
    by_cases e : ρ c = a
    · have h1 : Res S ρ b (.app s u) := hab _ (hc.eqr (by rw [e, hra]))
      generalize hv : RT.app s u = t at h1
      cases h1 with
      | app hk hx hy h2 h3 =>
        cases hv
        rw [hrb] at hk hx hy
        exact .app (by rw [if_pos e, hs.kind]; exact hk) (by rw [if_pos e, hs.l]; exact hx) (by rw [if_pos e, hs.r]; exact hy) (ih1 _ h2) (ih2 _ h3)
      | var _ => cases hv
      | con _ => cases hv
    · generalize hv : RT.app s u = t at hc
      cases hc with
      | app hk hx hy h2 h3 =>
        cases hv
        exact .app (by rw [if_neg e, hs.kind]; exact hk) (by rw [if_neg e, hs.l]; exact hx) (by rw [if_neg e, hs.r]; exact hy) (ih1 _ h2) (ih2 _ h3)
      | var _ => cases hv
      | con _ => cases hv
/-- parts that cannot be the same -/
theorem sm_part1 {x' y' : Nat} (h : WfS S ρ d) (hi : i ∈ S.ids) (hj : j ∈ S.ids) (hk : (S.tm (ρ i)).kind = 54) (hk2 : (S.tm (ρ j)).kind = 54)
    (hx : (S.tm (ρ i)).l = some x) (hy : (S.tm (ρ i)).r = some y) (hx' : (S.tm (ρ j)).l = some x') (hy' : (S.tm (ρ j)).r = some y') (A : Type) (G : Alg A) (τ : Nat → A) : (Sol G S τ ∧ τ i = τ j) ↔ (Sol G S τ ∧ τ x = τ x') ∧ τ y = τ y' := by
  obtain ⟨ha, ha1⟩ := h.rep i hi
  obtain ⟨hb, hb1⟩ := h.rep j hj
  rw [h.pair hi hj]
  constructor
  · rintro ⟨hs, e⟩
    rw [(cond_app ha1 hk hx hy).1 (hs _ ha), (cond_app hb1 hk2 hx' hy').1 (hs _ hb)] at e
    obtain ⟨e1, e2⟩ := G.app_inj e
    exact ⟨⟨hs, e1⟩, e2⟩
  · rintro ⟨⟨hs, e1⟩, e2⟩
    refine ⟨hs, ?_⟩
    rw [(cond_app ha1 hk hx hy).1 (hs _ ha), (cond_app hb1 hk2 hx' hy').1 (hs _ hb), e1, e2]
theorem sm_fail1 {x' y' : Nat} (h : WfS S ρ d) (hi : i ∈ S.ids) (hj : j ∈ S.ids) (hk : (S.tm (ρ i)).kind = 54) (hk2 : (S.tm (ρ j)).kind = 54)
    (hx : (S.tm (ρ i)).l = some x) (hy : (S.tm (ρ i)).r = some y) (hx' : (S.tm (ρ j)).l = some x') (hy' : (S.tm (ρ j)).r = some y') (h1 : SmPost S ρ x x' S1 false) : SmPost S ρ i j S1 false :=
  ⟨h1.1, fun h => (by cases h), fun _ τ hs e => by
    have := (sm_part1 h hi hj hk hk2 hx hy hx' hy' RT rtG τ).1 ⟨hs, e⟩
    exact h1.2.2 rfl τ hs this.1.2⟩
theorem sm_fail2 {x' y' : Nat} (h : WfS S ρ d) (hi : i ∈ S.ids) (hj : j ∈ S.ids) (hk : (S.tm (ρ i)).kind = 54) (hk2 : (S.tm (ρ j)).kind = 54)
    (hx : (S.tm (ρ i)).l = some x) (hy : (S.tm (ρ i)).r = some y) (hx' : (S.tm (ρ j)).l = some x') (hy' : (S.tm (ρ j)).r = some y') (sh1 : Shp S S1) (h1 : SmOk S ρ x x' S1 ρ1 d1) (h2 : SmPost S1 ρ1 y y' S2 false) : SmPost S ρ i j S2 false :=
  ⟨sh1.trans h2.1, fun h => (by cases h), fun _ τ hs e => by
    have := (sm_part1 h hi hj hk hk2 hx hy hx' hy' RT rtG τ).1 ⟨hs, e⟩
    exact h2.2.2 rfl τ ((h1.iff RT rtG τ).2 this.1) this.2⟩
section
variable {A : Type} {G : Alg A} {vm : Nam → Option Nat}
theorem part_rep (h : WfS S ρ d) {τ : Nat → A} (hs : ∀ b ∈ S.ids, ∀ j, (S.tm b).same = some j → τ b = τ j) : ∀ (n b : Nat), d b ≤ n → b ∈ S.ids → τ b = τ (ρ b) := fun n => by
  induction n with
  | zero =>
    intro b hn hb
    cases hj : (S.tm b).same with
    | none => rw [h.root b hb hj]
    | some j => have := (h.link b hb j hj).2.2; omega
  | succ n ih =>
    intro b hn hb
    cases hj : (S.tm b).same with
    | none => rw [h.root b hb hj]
    | some j =>
      obtain ⟨h1, h2, h3⟩ := h.link b hb j hj
      rw [hs b hb j hj, h2]
      exact ih j (by omega) h1
/-- what does not hold a, by the rows of the others -/
theorem res_ev (hW : WfS S ρ d) (hv : VmOk S vm) {τ : Nat → A} (ha1 : (S.tm a).same = none) (hs : ∀ c ∈ S.ids, ¬ c = a → Cond G (S.tm c) τ c) {θ : Nam → A} (hp : Put vm τ θ) : ∀ {c : Nat} {t : RT}, Res S ρ c t → c ∈ S.ids → ¬ Rch S ρ a c → τ c = t.ev G θ := fun {c t} h => by
  have hrep : ∀ b ∈ S.ids, τ b = τ (ρ b) := fun b hb => part_rep hW (fun b hb j hj => (hs b hb fun e => by rw [e, ha1] at hj; cases hj).1 j hj) _ b (Nat.le_refl _) hb
  induction h with
  | @var c hk =>
    intro hc hn
    rw [hrep c hc]
    exact hp _ _ (hv.back _ (hW.rep c hc).1 hk)
  | @con c hk =>
    intro hc hn
    obtain ⟨h1, h2⟩ := hW.rep c hc
    rw [hrep c hc]
    exact (cond_con h2 hk).1 (hs _ h1 fun e => hn (.here e))
  | @app c x y s t hk hx hy _ _ ih1 ih2 =>
    intro hc hn
    obtain ⟨h1, h2⟩ := hW.rep c hc
    obtain ⟨_, x', y', hx2, hy2, hx3, hy3⟩ := hW.app _ h1 hk
    rw [hx] at hx3; rw [hy] at hy3; cases hx3; cases hy3
    rw [hrep c hc, (cond_app h2 hk hx hy).1 (hs _ h1 fun e => hn (.here e)), ih1 hx2 fun h => hn (.l hk hx h), ih2 hy2 fun h => hn (.r hk hy h)]; rfl
end
theorem sm_app {x' y' : Nat} {ρ2 d2 : Nat → Nat} {vm : Nam → Option Nat} (hv : VmOk S vm) (h : WfS S ρ d) (hi : i ∈ S.ids) (hj : j ∈ S.ids) (e : ¬ ρ i = ρ j) (hk : (S.tm (ρ i)).kind = 54) (hk2 : (S.tm (ρ j)).kind = 54)
    (hx : (S.tm (ρ i)).l = some x) (hy : (S.tm (ρ i)).r = some y) (hx' : (S.tm (ρ j)).l = some x') (hy' : (S.tm (ρ j)).r = some y') (sh1 : Shp S S1) (h1 : SmOk S ρ x x' S1 ρ1 d1) (sh2 : Shp S1 S2) (h2 : SmOk S1 ρ1 y y' S2 ρ2 d2) : SmPost S ρ i j (setSame S2 (ρ i) (ρ j)) true := by
  obtain ⟨ha, ha1⟩ := h.rep i hi
  obtain ⟨hb, hb1⟩ := h.rep j hj
  have sh := sh1.trans sh2
  have ha2 : ρ i ∈ S2.ids := by rw [sh.ids]; exact ha
  have hb2 : ρ j ∈ S2.ids := by rw [sh.ids]; exact hb
  obtain ⟨τ, hτ, hres⟩ := acy_sol h2.wf h2.acy
  -- what the last store's solution is worth in the first
  have big : ∀ τ : Nat → RT, Sol rtG S2 τ → (τ (ρ i)).nodes = 1 + (τ x).nodes + (τ y).nodes ∧ (τ (ρ j)).nodes = 1 + (τ x').nodes + (τ y').nodes ∧ τ x = τ x' ∧ τ y = τ y' ∧ Sol rtG S1 τ ∧ Sol rtG S τ := fun τ hτ => by
    obtain ⟨s1, e2⟩ := (h2.iff RT rtG τ).1 hτ
    obtain ⟨s0, e1⟩ := (h1.iff RT rtG τ).1 s1
    exact ⟨by rw [(cond_app ha1 hk hx hy).1 (s0 _ ha)]; rfl, by rw [(cond_app hb1 hk2 hx' hy').1 (s0 _ hb)]; rfl, e1, e2, s1, s0⟩
  obtain ⟨n1, n2, e1, e2, s1, s0⟩ := big τ hτ
  -- neither of the two has been linked meanwhile
  have na1 : (S1.tm (ρ i)).same = none := Classical.byContradiction fun hn => by
    have := h1.frame _ ha hk ha1 hn τ s1
    omega
  have na2 : (S2.tm (ρ i)).same = none := Classical.byContradiction fun hn => by
    have := h2.frame _ (by rw [sh1.ids]; exact ha) (by rw [sh1.kind]; exact hk) na1 hn τ hτ
    omega
  have nb1 : (S1.tm (ρ j)).same = none := Classical.byContradiction fun hn => by
    have := h1.frame _ hb hk2 hb1 hn τ s1
    rw [e1] at this; omega
  have nb2 : (S2.tm (ρ j)).same = none := Classical.byContradiction fun hn => by
    have := h2.frame _ (by rw [sh1.ids]; exact hb) (by rw [sh1.kind]; exact hk2) nb1 hn τ hτ
    rw [e2] at this; omega
  have ra := h2.wf.root _ ha2 na2
  have rb := h2.wf.root _ hb2 nb2
  have hlink := h2.wf.linked ha2 hb2 na2 nb2 e fun hk3 => by rw [sh.kind, hk2] at hk3; cases hk3
  have hab : ∀ t, Res S2 ρ2 (ρ i) t → Res S2 ρ2 (ρ j) t := fun t ht => by
    have : τ (ρ i) = τ (ρ j) := by
      rw [(cond_app ha1 hk hx hy).1 (s0 _ ha), (cond_app hb1 hk2 hx' hy').1 (s0 _ hb), e1, e2]
    rw [(ht.uniq (hres _ ha2)), this]; exact hres _ hb2
  have hpres := res_link h2.wf ha2 hb2 ra rb e hab
  have huv : uvN (setSame S2 (ρ i) (ρ j)) = uvN S2 := uv_app ha2 (by rw [sh.kind, hk]; decide) _
  have hxm : x ∈ S.ids ∧ y ∈ S.ids := by
    obtain ⟨_, p, q, h3, h4, h5, h6⟩ := h.app _ ha hk
    rw [hx] at h5; rw [hy] at h6; cases h5; cases h6; exact ⟨h3, h4⟩
  have hxm' : x' ∈ S.ids ∧ y' ∈ S.ids := by
    obtain ⟨_, p, q, h3, h4, h5, h6⟩ := h.app _ hb hk2
    rw [hx'] at h5; rw [hy'] at h6; cases h5; cases h6; exact ⟨h3, h4⟩
  have far : ∀ c ∈ S.ids, (τ c).nodes < (τ (ρ i)).nodes → ¬ Rch S2 ρ2 (ρ i) c := fun c hc hlt hr => by
    rcases hr.le h2.wf hτ (by rw [sh.ids]; exact hc) with ⟨_, e⟩ | h
    · rw [e] at hlt; exact Nat.lt_irrefl _ hlt
    · omega
  have hiff : ∀ (A : Type) (G : Alg A) (τ : Nat → A), Sol G (setSame S2 (ρ i) (ρ j)) τ ↔ Sol G S τ ∧ τ i = τ j := fun A G τ' => by
    rw [sol_set ha2, sm_part1 h hi hj hk hk2 hx hy hx' hy', ← h1.iff A G τ', ← h2.iff A G τ']
    constructor
    · rintro ⟨h3, h4⟩
      have hv2 : VmOk S2 vm := hv.shp sh
      have hp : Put vm τ' (fun n => match vm n with | some c => τ' c | none => τ' 0) := fun n c hc => by simp only [hc]
      have ev : ∀ c ∈ S.ids, (τ c).nodes < (τ (ρ i)).nodes → τ' c = (τ c).ev G _ := fun c hc hlt => res_ev h2.wf hv2 na2 h3 hp (hres c (by rw [sh.ids]; exact hc)) (by rw [sh.ids]; exact hc) (far c hc hlt)
      refine (sol_split ha2).2 ⟨h3, (cond_app na2 (by rw [sh.kind]; exact hk) (by rw [sh.l]; exact hx) (by rw [sh.r]; exact hy)).2 ?_⟩
      rw [h4, (cond_app nb2 (by rw [sh.kind]; exact hk2) (by rw [sh.l]; exact hx') (by rw [sh.r]; exact hy')).1 (h3 _ hb2 fun e2 => e e2.symm)]
      rw [ev x hxm.1 (by omega), ev y hxm.2 (by omega), ev x' hxm'.1 (by rw [← e1]; omega), ev y' hxm'.2 (by rw [← e2]; omega), e1, e2]
    · intro h3
      refine ⟨fun c hc _ => h3 c hc, ?_⟩
      obtain ⟨s1, e2⟩ := (h2.iff A G τ').1 h3
      obtain ⟨s0, e1⟩ := (h1.iff A G τ').1 s1
      rw [(cond_app ha1 hk hx hy).1 (s0 _ ha), (cond_app hb1 hk2 hx' hy').1 (s0 _ hb), e1, e2]
  refine ⟨sh.trans (shp_set _ _ _), fun _ => ⟨_, _, hlink, fun c hc => (h2.acy c hc).elim fun t ht => ⟨t, hpres t c ht⟩, hiff, fun c hc hk3 hn1 hn2 τ hτ => ?_, ?_⟩, fun h => by cases h⟩
  · have h3 := (hiff RT rtG τ).1 hτ
    have h4 := (sm_part1 h hi hj hk hk2 hx hy hx' hy' RT rtG τ).1 h3
    have s1 := (h1.iff RT rtG τ).2 h4.1
    have s2 := (h2.iff RT rtG τ).2 ⟨s1, h4.2⟩
    have hbig := (big τ s2).1
    rw [h.sol h3.1 hi]
    by_cases e3 : c = ρ i
    · rw [e3]; exact Nat.le_refl _
    · rw [set_same_ne S2 _ e3] at hn2
      by_cases e4 : (S1.tm c).same = none
      · have := h2.frame c (by rw [sh1.ids]; exact hc) (by rw [sh1.kind]; exact hk3) e4 hn2 τ s2; omega
      · have := h1.frame c hc hk3 hn1 e4 τ s1; omega
  · rw [huv]
    rcases h1.less with l1 | ⟨q1, p1⟩
    · rcases h2.less with l2 | ⟨q2, _⟩
      · exact .inl (by omega)
      · exact .inl (by omega)
    · rcases h2.less with l2 | ⟨q2, p2⟩
      · exact .inl (by omega)
      · exact .inr ⟨by omega, fun b t hb => hpres t b (p2 b t (p1 b t hb))⟩
/-- no rings, whatever leads where -/
def AcyE (S : Sto) : Prop := ∃ ρ d, WfS S ρ d ∧ Acy S ρ
theorem res_new (hW : WfS S ρ d) (hb : b ∉ S.ids) {tm : Tm} : ∀ {c : Nat} {t : RT}, Res S ρ c t → c ∈ S.ids → Res (newT S b tm) (updT ρ b b) c t := fun {c t} h => by
  have hsub := sub_new hb tm
  induction h with
  | @var c hk =>
    intro hc
    have h1 : updT ρ b b c = ρ c := updT_ne _ _ (nin hb hc)
    have h2 := hsub.tm _ (hW.rep c hc).1
    have := Res.var (S := newT S b tm) (ρ := updT ρ b b) (b := c) (by rw [h1, h2]; exact hk)
    rw [h1, h2] at this; exact this
  | @con c hk =>
    intro hc
    have h1 : updT ρ b b c = ρ c := updT_ne _ _ (nin hb hc)
    have h2 := hsub.tm _ (hW.rep c hc).1
    have := Res.con (S := newT S b tm) (ρ := updT ρ b b) (b := c) (by rw [h1, h2]; exact hk)
    rw [h1, h2] at this; exact this
  | @app c x y s t hk hx hy _ _ ih1 ih2 =>
    intro hc
    have h1 : updT ρ b b c = ρ c := updT_ne _ _ (nin hb hc)
    have h2 := hsub.tm _ (hW.rep c hc).1
    obtain ⟨_, x', y', hx2, hy2, hx3, hy3⟩ := hW.app _ (hW.rep c hc).1 hk
    rw [hx] at hx3; rw [hy] at hy3; cases hx3; cases hy3
    exact .app (by rw [h1, h2]; exact hk) (by rw [h1, h2]; exact hx) (by rw [h1, h2]; exact hy) (ih1 hx2) (ih2 hy2)
theorem acy_new (h : AcyE S) (hb : b ∉ S.ids) {tm : Tm} (hs : tm.same = none) (hk : tm.kind = 52 ∨ tm.kind = 53 ∨ tm.kind = 54) (ha : tm.kind = 54 → tm.name = [] ∧ ∃ x y, x ∈ S.ids ∧ y ∈ S.ids ∧ tm.l = some x ∧ tm.r = some y) : AcyE (newT S b tm) := by
  obtain ⟨ρ, d, hW, hA⟩ := h
  refine ⟨_, _, hW.new hb hs hk ha, fun c hc => ?_⟩
  rcases List.mem_append.1 hc with hc | hc
  · exact (hA c hc).imp fun t ht => res_new hW hb ht hc
  · obtain rfl := List.mem_singleton.1 hc
    have h1 : updT ρ c c c = c := updT_eq _ _ _
    have h2 : (newT S c tm).tm c = tm := new_at _ _ _
    rcases hk with k | k | k
    · exact ⟨_, .var (by rw [h1, h2]; exact k)⟩
    · exact ⟨_, .con (by rw [h1, h2]; exact k)⟩
    · obtain ⟨_, x, y, hx, hy, hx2, hy2⟩ := ha k
      obtain ⟨s, hs⟩ := hA x hx
      obtain ⟨u, hu⟩ := hA y hy
      exact ⟨_, .app (by rw [h1, h2]; exact k) (by rw [h1, h2]; exact hx2) (by rw [h1, h2]; exact hy2) (res_new hW hb hs hx) (res_new hW hb hu hy)⟩
end
end Go.Proofs.Ytfkmlcgccffmnaa
namespace Go.Proofs.Ytfkmlcgccffmnaa
open Go
def onI (o : Option Nat) : Int := match o with | none => 0 | some k => k
def thE : Enc Tm where
  size := 5
  cells t := [i64 (onI t.same), i64 t.kind, str t.name, i64 (onI t.l), i64 (onI t.r)]
  len _ := rfl
  one t u hu := by
    simp only [List.mem_cons, List.not_mem_nil, or_false] at hu
    rcases hu with rfl | rfl | rfl | rfl | rfl <;> rfl
def tm0 : Tm := ⟨0, [], none, none, none, 0⟩
def stoL (T : List Tm) : Sto := ⟨List.range' 1 T.length, fun k => if k = 0 then tm0 else T.getD (k - 1) tm0⟩
section
variable {T : List Tm} {a b k : Nat} {t : Tm} {S : Sto}
theorem mem_sto : b ∈ (stoL T).ids ↔ 1 ≤ b ∧ b ≤ T.length := by
  show b ∈ List.range' 1 T.length ↔ _
  rw [List.mem_range'_1]; omega
theorem sto_at (h : b ∈ (stoL T).ids) : T[b - 1]? = some ((stoL T).tm b) := by
  obtain ⟨h1, h2⟩ := mem_sto.1 h
  show _ = some (if b = 0 then tm0 else T.getD (b - 1) tm0)
  rw [if_neg (by omega)]
  exact get_D (by omega)
theorem sto_new (T : List Tm) (t : Tm) : stoL (T ++ [t]) = newT (stoL T) (T.length + 1) t := by
  unfold stoL newT
  congr 1
  · rw [List.length_append, List.length_singleton, List.range'_concat, Nat.one_mul, Nat.add_comm 1]
  · funext c
    unfold updT
    dsimp only
    by_cases h0 : c = 0
    · rw [if_pos h0, if_neg (by omega), if_pos h0]
    · rw [if_neg h0, if_neg h0]
      by_cases h1 : c = T.length + 1
      · rw [if_pos h1, h1]
        simp
      · rw [if_neg h1]
        by_cases h2 : c ≤ T.length
        · rw [List.getD_eq_getElem?_getD, List.getD_eq_getElem?_getD, List.getElem?_append_left (by omega)]
        · rw [List.getD_eq_getElem?_getD, List.getD_eq_getElem?_getD, List.getElem?_eq_none (by rw [List.length_append, List.length_singleton]; omega), List.getElem?_eq_none (by omega)]
theorem sto_fresh (T : List Tm) : T.length + 1 ∉ (stoL T).ids := fun h => by
  have := (mem_sto.1 h).2; omega
theorem sto_set (h : a ∈ (stoL T).ids) (b : Nat) : stoL (T.set (a - 1) { (stoL T).tm a with same := some b }) = setSame (stoL T) a b := by
  obtain ⟨h1, h2⟩ := mem_sto.1 h
  unfold setSame
  show (⟨_, _⟩ : Sto) = ⟨_, _⟩
  congr 1
  · rw [List.length_set]; rfl
  · funext c
    unfold updT
    by_cases h0 : c = 0
    · rw [if_pos h0, if_neg (by omega)]; show tm0 = if c = 0 then tm0 else _; rw [if_pos h0]
    · rw [if_neg h0]
      by_cases e : c = a
      · rw [if_pos e, e, List.getD_eq_getElem?_getD, List.getElem?_set_self (by omega)]; rfl
      · rw [if_neg e, List.getD_eq_getElem?_getD, List.getElem?_set_ne (by omega), ← List.getD_eq_getElem?_getD]
        show _ = if c = 0 then tm0 else _
        rw [if_neg h0]
theorem set_frame (hk : ¬ (S.tm a).kind = 54) (b : Nat) : ∀ c ∈ S.ids, (S.tm c).kind = 54 → (S.tm c).same = none → ((setSame S a b).tm c).same = none := fun c _ h1 h2 => by
  rw [set_same_ne S b fun (e : c = a) => hk (e ▸ h1)]; exact h2
theorem onI_some (h : t.same = some k) : onI t.same = k := by rw [h]; rfl
theorem onI_none (h : t.same = none) : onI t.same = 0 := by rw [h]; rfl
end
section
variable {w : World} {M : List Nat} {v : Value} {l : List Tm} {i x : Nat} {t : Tm}
theorem elem_s (h : RdT w M v thE l) (hi : l[i]? = some t) (hx : t.same = some x) : w.cell? (((sa v).add (i * thE.size)).add 0) = some (i64 x) := RdT.cells h hi 0 _ (by show some (i64 (onI t.same)) = _; rw [hx]; rfl)
theorem elem_l (h : RdT w M v thE l) (hi : l[i]? = some t) (hx : t.l = some x) : w.cell? (((sa v).add (i * thE.size)).add 3) = some (i64 x) := RdT.cells h hi 3 _ (by show some (i64 (onI t.l)) = _; rw [hx]; rfl)
theorem elem_r (h : RdT w M v thE l) (hi : l[i]? = some t) (hx : t.r = some x) : w.cell? (((sa v).add (i * thE.size)).add 4) = some (i64 x) := RdT.cells h hi 4 _ (by show some (i64 (onI t.r)) = _; rw [hx]; rfl)
end
section
variable {P : Program} {o : Oper} {a : Act} {w : World} {b x ty : Nat} {t : Tm} {p z : Operand} {T1 T2 : TypeId}
theorem own_l (h : (Ent.ob b ty (thE.cells t)).ok w) (hx : t.l = some x) : w.cell? ((adr b).add 3) = some (i64 x) := (cell_ob h 3).trans (by show some (i64 (onI t.l)) = _; rw [hx]; rfl)
theorem own_r (h : (Ent.ob b ty (thE.cells t)).ok w) (hx : t.r = some x) : w.cell? ((adr b).add 4) = some (i64 x) := (cell_ob h 4).trans (by show some (i64 (onI t.r)) = _; rw [hx]; rfl)
theorem q_slt {m n : List UInt8} (ho : o.op = .binOp .lss T1 p z T2) (hu : P.underlying T1 = some .string) (hx : a.eval p = str m) (hy : a.eval z = str n) : QV P o a w (.bool (decide (m < n))) := by
  have e2 : Op.bytesLess m n = decide (m < n) := bl_eq m n
  rw [← e2]
  simp [QV, execOp, ho, hx, hy, str, binOp, Op.stringOp, eqGuard]
theorem q_notB {c d : Bool} (hx : a.eval p = .bool c) (ho : o.op = .unOp .not T1 p) (hd : (!c) = d) : QV P o a w (.bool d) := by
  subst hd
  simp [QV, execOp, ho, hx, Op.unary]
end
theorem onI_zero {o : Option Nat} (h : ∀ b, o = some b → 1 ≤ b) (h0 : onI o = 0) : o = none := by
  cases o with
  | none => rfl
  | some b =>
    have h1 := h b rfl
    have h0 : (b : Int) = 0 := h0
    omega
/-! counting, up to a number -/
def cntF : RT → Int → Int
  | .var _, _ => 1
  | .con _, _ => 1
  | .app a b, u => if u < 2 then 1 else
    let n := 1 + cntF a (u - 1)
    if u ≤ n then n else n + cntF b (u - n)
theorem cnt_pos : ∀ (t : RT) (u : Int), 1 ≤ cntF t u
  | .var _, _ => Int.le_refl _
  | .con _, _ => Int.le_refl _
  | .app a b, u => by
    have h1 := cnt_pos a (u - 1)
    have h2 := cnt_pos b (u - (1 + cntF a (u - 1)))
    unfold cntF
    dsimp only
    split
    · omega
    · split <;> omega
theorem cnt_le : ∀ (t : RT) {u : Int}, 1 ≤ u → cntF t u ≤ u
  | .var _, u, h => h
  | .con _, u, h => h
  | .app a b, u, h => by
    unfold cntF
    dsimp only
    split
    · omega
    · have h1 := cnt_le a (u := u - 1) (by omega)
      split
      · omega
      · have h2 := cnt_le b (u := u - (1 + cntF a (u - 1))) (by omega)
        omega
theorem cnt_eq : ∀ (t : RT) {u : Int}, 1 ≤ u → (cntF t u < u → cntF t u = t.nodes) ∧ ((t.nodes : Int) ≤ u → cntF t u = t.nodes)
  | .var _, u, h => ⟨fun _ => rfl, fun _ => rfl⟩
  | .con _, u, h => ⟨fun _ => rfl, fun _ => rfl⟩
  | .app a b, u, h => by
    have hp := a.pos
    have hq := b.pos
    show _ ∧ (((1 + a.nodes + b.nodes : Nat) : Int) ≤ u → _ = ((1 + a.nodes + b.nodes : Nat) : Int))
    have hn : (RT.app a b).nodes = 1 + a.nodes + b.nodes := rfl
    rw [hn]
    unfold cntF
    dsimp only
    split
    · rename_i h2
      exact ⟨fun h3 => by omega, fun h3 => by omega⟩
    · rename_i h2
      obtain ⟨e1, e2⟩ := cnt_eq a (u := u - 1) (by omega)
      split
      · rename_i h3
        exact ⟨fun h4 => by omega, fun h4 => by have := e2 (by omega); omega⟩
      · rename_i h3
        have e3 := e1 (by omega)
        obtain ⟨f1, f2⟩ := cnt_eq b (u := u - (1 + cntF a (u - 1))) (by omega)
        exact ⟨fun h4 => by have := f1 (by omega); omega, fun h4 => by have := f2 (by omega); omega⟩
theorem cnt_iff (t : RT) : 1000 < cntF t 1001 ↔ 1000 < t.nodes := by
  obtain ⟨h1, h2⟩ := cnt_eq t (u := 1001) (by decide)
  have h3 := cnt_le t (u := 1001) (by decide)
  constructor
  · intro h
    refine Classical.byContradiction fun hn => ?_
    have := h2 (by omega); omega
  · intro h
    refine Classical.byContradiction fun hn => ?_
    have := h1 (by omega); omega
/-! names and what they are -/
def vmL (vl : List (Nam × Nat)) (n : Nam) : Option Nat := (vl.find? fun p => decide (p.1 = n)).map (·.2)
theorem vmL_none {vl : List (Nam × Nat)} {n : Nam} : vmL vl n = none ↔ n ∉ vl.map (·.1) := by
  unfold vmL
  rw [Option.map_eq_none_iff, List.find?_eq_none, List.mem_map]
  constructor
  · rintro h ⟨p, hp, e⟩
    exact h p hp (decide_eq_true e)
  · intro h p hp e
    exact h ⟨p, hp, of_decide_eq_true e⟩
theorem vmL_new {vl : List (Nam × Nat)} {n : Nam} (h : vmL vl n = none) (k : Nat) : vmL (vl ++ [(n, k)]) = fun m => if m = n then some k else vmL vl m := funext fun m => by
  show ((vl ++ [(n, k)]).find? _).map _ = _
  rw [List.find?_append]
  by_cases e : m = n
  · rw [if_pos e, e]
    have : vl.find? (fun p => decide (p.1 = n)) = none := Option.map_eq_none_iff.1 h
    rw [this]; simp
  · rw [if_neg e]
    have : ([(n, k)] : List (Nam × Nat)).find? (fun p => decide (p.1 = m)) = none := by simp; exact fun h => e h.symm
    rw [this, Option.or_none]; rfl
theorem vmL_at {vl : List (Nam × Nat)} {n : Nam} {i : Nat} {p : Nam × Nat} (h0 : ∀ q ∈ vl.take i, ¬ q.1 = n) (h : vl[i]? = some p) (hp : p.1 = n) : vmL vl n = some p.2 := by
  unfold vmL
  have e : vl = vl.take i ++ p :: vl.drop (i + 1) := by
    obtain ⟨h1, h2⟩ := List.getElem?_eq_some_iff.1 h
    rw [← h2, ← List.drop_eq_getElem_cons h1, List.take_append_drop]
  rw [e, List.find?_append, List.find?_eq_none.2 fun q hq => by simpa using h0 q hq, List.find?_cons_of_pos (by simpa using hp)]; rfl
/-! lists put in order -/
theorem asc_ins {l r : List Nam} {x : Nam} (h : Asc (l ++ r)) (hl : ∀ y ∈ l, y < x) (hr : ∀ y ∈ r, x < y) : Asc (l ++ [x] ++ r) := by
  induction l with
  | nil => exact ⟨hr, h⟩
  | cons z l ih =>
    refine ⟨fun y hy => ?_, ih h.2 fun y hy => hl y (List.mem_cons_of_mem _ hy)⟩
    rcases List.mem_append.1 hy with hy | hy
    · rcases List.mem_append.1 hy with hy | hy
      · exact h.1 y (List.mem_append_left _ hy)
      · rw [List.mem_singleton.1 hy]; exact hl z (by simp)
    · exact h.1 y (List.mem_append_right _ hy)
theorem asc_last {l r : List Nam} {z : Nam} (h : Asc (l ++ [z] ++ r)) : ∀ y ∈ l, y < z := by
  induction l with
  | nil => exact fun y hy => by cases hy
  | cons w l ih =>
    intro y hy
    rcases List.mem_cons.1 hy with rfl | hy
    · exact h.1 z (by simp)
    · exact ih h.2 y hy
theorem mem_ins {out : List Nam} {x n : Nam} (k : Nat) : n ∈ [] ++ out.take k ++ [x] ++ out.drop k ↔ n ∈ out ∨ n = x := by
  have h : n ∈ out ↔ n ∈ out.take k ∨ n ∈ out.drop k := by rw [← List.mem_append, List.take_append_drop]
  rw [h, List.mem_append, List.mem_append, List.mem_append, List.mem_singleton]
  simp only [List.not_mem_nil, false_or]
  constructor
  · rintro ((h | h) | h)
    · exact .inl (.inl h)
    · exact .inr h
    · exact .inl (.inr h)
  · rintro ((h | h) | h)
    · exact .inl (.inl h)
    · exact .inr h
    · exact .inl (.inr h)
/-- a name's place -/
theorem ins_ok {out : List Nam} {x : Nam} {k : Nat} (hA : Asc out) (hx : x ∉ out) (hk : k ≤ out.length) (hr : ∀ y ∈ out.drop k, x < y) (hs : ¬ (0 < (k : Int) ∧ x < out.getD (k - 1) [])) : Asc (out.take k ++ [x] ++ out.drop k) := by
  refine asc_ins (by rw [List.take_append_drop]; exact hA) (fun y hy => ?_) hr
  by_cases h0 : k = 0
  · rw [h0] at hy; simp at hy
  · have hz : out[k - 1]? = some (out.getD (k - 1) []) := get_D (by omega)
    have hlt : out.getD (k - 1) [] < x := by
      have h1 : ¬ x < out.getD (k - 1) [] := fun h => hs ⟨by omega, h⟩
      exact (List.le_iff_lt_or_eq.1 (List.not_lt.1 h1)).resolve_right fun e => hx (e ▸ List.mem_of_getElem? hz)
    have e : out.take k = out.take (k - 1) ++ [out.getD (k - 1) []] := by
      have := takeAt hz
      rwa [show k - 1 + 1 = k by omega] at this
    have hA2 : Asc (out.take (k - 1) ++ [out.getD (k - 1) []] ++ out.drop k) := by rw [← e, List.take_append_drop]; exact hA
    rw [e] at hy
    rcases List.mem_append.1 hy with hy | hy
    · exact List.lt_trans (asc_last hA2 y hy) hlt
    · rw [List.mem_singleton.1 hy]; exact hlt
theorem allF_arg : ∀ {l : List Ty} {e : Int} {t : Ty}, t ∈ l → rightF t = false → allF l e = 1
  | [], _, _, h, _ => by cases h
  | x :: l, e, t, h, hr => by
    unfold allF
    by_cases hx : rightF x = false
    · rw [if_pos hx]
    · rw [if_neg hx]
      rcases List.mem_cons.1 h with rfl | h
      · exact absurd hr hx
      · exact allF_arg h hr
theorem allF_big : ∀ {l : List Ty} {e : Int}, (∀ t ∈ l, rightF t = true) → allF l e = if ∃ t ∈ l, 1000 < (nodesF t : Int) then 3 else e
  | [], e, _ => by simp [allF]
  | x :: l, e, h => by
    unfold allF
    rw [if_neg (by rw [h x (by simp)]; decide), allF_big fun t ht => h t (List.mem_cons_of_mem _ ht)]
    by_cases hx : 1000 < (nodesF x : Int)
    · rw [if_pos hx, if_pos (⟨x, by simp, hx⟩ : ∃ t ∈ x :: l, 1000 < (nodesF t : Int))]
      split <;> rfl
    · rw [if_neg hx]
      by_cases hl : ∃ t ∈ l, 1000 < (nodesF t : Int)
      · rw [if_pos hl, if_pos (hl.imp fun t ⟨h1, h2⟩ => ⟨List.mem_cons_of_mem _ h1, h2⟩)]
      · rw [if_neg hl, if_neg]
        rintro ⟨t, ht, hb⟩
        rcases List.mem_cons.1 ht with rfl | ht
        · exact hx hb
        · exact hl ⟨t, ht, hb⟩
section
variable {w : World} {M : List Nat} {v : Value} {α : Type} {E : Enc α} {l : List α} {j : Nat}
theorem RdT.dropV (h : RdT w M v E l) (hj : j ≤ l.length) : RdT w M (dropV v j E.size) E (l.drop j) := by
  have h1 := RdT.cut2 h hj (Nat.le_refl _)
  obtain ⟨A, c, e, _⟩ := h.is
  have e2 : cutV v j l.length E.size = Go.Proofs.Ytfkmlcgccffmnaa.dropV v j E.size := by rw [e]; rfl
  rw [e2, List.take_of_length_le (by rw [List.length_drop]; exact Nat.le_refl _)] at h1
  exact h1
end
section
variable {w w0 : World} {M : List Nat} {A B : List Ent} {b t : Nat} {cs : List Value}
/-- an own block for reading, apart from other entries -/
theorem St.rdObB (hO : St w0 M w (A ++ B)) (i : Nat) (hi : B[i]? = some (.ob b t cs)) : Rd w (blks A) (gl1 b) cs.length 1 cs := by
  have hm := List.mem_of_getElem? hi
  have h := hO.back.rdOb i hi
  have hd : b ∉ blks A := fun hb => by
    have hn := hO.nodup
    rw [show blks (A ++ B) = blks A ++ blks B by simp [blks], List.nodup_append] at hn
    exact hn.2.2 b hb b (mem_blk.2 ⟨_, hm, List.mem_singleton.2 rfl⟩) rfl
  obtain ⟨hl, Ad, cap, e, hc, hx, hn⟩ := h
  refine ⟨hl, Ad, cap, e, hc, hx, fun h0 => ?_⟩
  obtain ⟨ad, h1, h2, h3, h4⟩ := hn h0
  refine ⟨ad, h1, ?_, h3, h4⟩
  unfold gl1 at e
  injection e with e1
  rw [h1] at e1
  injection e1 with e1
  rw [← e1]; exact hd
end
end Go.Proofs.Ytfkmlcgccffmnaa
