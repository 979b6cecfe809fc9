/- PU12, PLAIN: a type made another one. -/
import Derived.Test.YtfkmlcgccffmnaaVb
namespace Go.Proofs.Ytfkmlcgccffmnaa
open Go
abbrev Sg := Nam → Option RT
def putG (g : Sg) (n : Nam) (u : RT) : Sg := fun m => if m = n then some u else g m
def matchF : RT → RT → Sg → Option Sg
  | .var n, u, g => match g n with
    | none => some (putG g n u)
    | some w => if sameF w.ty u.ty = true then some g else none
  | .con n, .con m, g => if n = m then some g else none
  | .app a b, .app c d, g => match matchF a c g with
    | none => none
    | some g1 => matchF b d g1
  | .con _, .var _, _ => none
  | .con _, .app _ _, _ => none
  | .app _ _, .var _, _ => none
  | .app _ _, .con _, _ => none
def matchL : List RT → List RT → Sg → Option Sg
  | [], [], g => some g
  | a :: l, b :: r, g => match matchF a b g with
    | none => none
    | some g1 => matchL l r g1
  | [], _ :: _, _ => none
  | _ :: _, [], _ => none
theorem matchL_snoc : ∀ {l r : List RT} {g : Sg} (a b : RT), l.length = r.length → matchL (l ++ [a]) (r ++ [b]) g = match matchL l r g with | none => none | some g1 => matchF a b g1
  | [], [], g, a, b, _ => by
    show (match matchF a b g with | none => none | some g1 => some g1) = matchF a b g
    cases matchF a b g <;> rfl
  | x :: l, y :: r, g, a, b, h => by
    show (match matchF x y g with | none => none | some g1 => matchL (l ++ [a]) (r ++ [b]) g1) = match (match matchF x y g with | none => none | some g1 => matchL l r g1) with | none => none | some g1 => matchF a b g1
    cases matchF x y g with
    | none => rfl
    | some g1 => exact matchL_snoc (l := l) (r := r) a b (by simpa using h)
  | [], _ :: _, _, _, _, h => by simp at h
  | _ :: _, [], _, _, _, h => by simp at h
/-- some of two lists already do not match -/
theorem matchL_none {l r : List RT} {g : Sg} (h : l.length = r.length) {l2 r2 : List RT} (hn : matchL l r g = none) : matchL (l ++ l2) (r ++ r2) g = none := by
  induction l generalizing r g with
  | nil => cases r with
    | nil => cases hn
    | cons y r => simp at h
  | cons x l ih => cases r with
    | nil => simp at h
    | cons y r =>
      show (match matchF x y g with | none => none | some g1 => matchL (l ++ l2) (r ++ r2) g1) = none
      have hn : (match matchF x y g with | none => none | some g1 => matchL l r g1) = none := hn
      cases hm : matchF x y g with
      | none => rfl
      | some g1 => rw [hm] at hn; exact ih (by simpa using h) hn
theorem matchF_kids {a b c d : RT} {g : Sg} : matchF (.app a b) (.app c d) g = matchL [a, b] [c, d] g := by
  show (match matchF a c g with | none => none | some g1 => matchF b d g1) = match matchF a c g with | none => none | some g1 => (match matchF b d g1 with | none => none | some g2 => some g2)
  cases matchF a c g with
  | none => rfl
  | some g1 => dsimp only; cases matchF b d g1 <;> rfl
/-- parts of a type that is right, by its kind -/
def RT.kids : RT → List RT
  | .app a b => [a, b]
  | _ => []
theorem RT.kids_er {k : Int} {n : Nam} {hd : Hdr} {l : List TN} {r : RT} (h : (TN.mk k n hd l).er = r.ty) : l.map TN.er = r.kids.map RT.ty := by
  rw [er_mk] at h
  cases r with
  | var m => injection h with _ _ h
  | con m => injection h with _ _ h
  | app a b => injection h with _ _ h
theorem RT.kids_lt {r s : RT} (h : s ∈ r.kids) : s.nodes < r.nodes := by
  cases r with
  | var m => cases h
  | con m => cases h
  | app a b =>
    have := a.pos; have := b.pos
    show s.nodes < 1 + a.nodes + b.nodes
    rcases List.mem_cons.1 h with rfl | h
    · omega
    · rw [List.mem_singleton.1 h]; omega
/-- what is no variable matches just what has its kind, its name, and parts that match -/
theorem matchF_case {k k' : Int} {n n' : Nam} {hd hd' : Hdr} {l l' : List TN} {r s : RT} (h : (TN.mk k n hd l).er = r.ty) (h' : (TN.mk k' n' hd' l').er = s.ty) (hk : ¬ k = 52) (g : Sg) :
    matchF r s g = if k = k' ∧ n = n' then matchL r.kids s.kids g else none := by
  rw [er_mk] at h h'
  cases r with
  | var m => injection h with h1; exact absurd h1 hk
  | con m =>
    injection h with h1 h2
    subst h1 h2
    cases s with
    | con q => injection h' with h3 h4; subst h3 h4; show (if n = n' then some g else none) = if (53 : Int) = 53 ∧ n = n' then some g else none; simp
    | var q => injection h' with h3; subst h3; rw [if_neg (by simp)]; rfl
    | app c d => injection h' with h3; subst h3; rw [if_neg (by simp)]; rfl
  | app a b =>
    injection h with h1 h2
    subst h1 h2
    cases s with
    | con q => injection h' with h3; subst h3; rw [if_neg (by simp)]; rfl
    | var q => injection h' with h3; subst h3; rw [if_neg (by simp)]; rfl
    | app c d => injection h' with h3 h4; subst h3 h4; rw [if_pos ⟨rfl, rfl⟩]; exact matchF_kids
/-- types in memory that stand for names -/
def RelG (gT : Nam → Option TN) (g : Sg) : Prop := ∀ n, (gT n).map TN.er = (g n).map RT.ty
theorem RelG.put {gT : Nam → Option TN} {g : Sg} (h : RelG gT g) (n : Nam) {t : TN} {u : RT} (e : t.er = u.ty) : RelG (fun m => if m = n then some t else gT m) (putG g n u) := fun m => by
  unfold putG
  by_cases hm : m = n
  · simp [hm, e]
  · simp only [hm, if_false]; exact h m
theorem RelG.none_ {gT : Nam → Option TN} {g : Sg} (h : RelG gT g) {n : Nam} (hn : gT n = none) : g n = none := by
  have := h n
  rw [hn] at this
  exact Option.map_eq_none_iff.1 this.symm
theorem RelG.some_ {gT : Nam → Option TN} {g : Sg} (h : RelG gT g) {n : Nam} {t : TN} (hn : gT n = some t) : ∃ w, g n = some w ∧ t.er = w.ty := by
  have := h n
  rw [hn] at this
  obtain ⟨w, hw, e⟩ := Option.map_eq_some_iff.1 this.symm
  exact ⟨w, hw, e.symm⟩
theorem relG_none : RelG (fun _ => none) (fun _ => none) := fun _ => rfl
/-! what a match gives -/
theorem match_sub : ∀ {r s : RT} {g g' : Sg}, matchF r s g = some g' → (∀ n u, g n = some u → g' n = some u) ∧ ∀ σ : Nam → RT, (∀ n u, g' n = some u → σ n = u) → r.sub σ = s
  | .var n, s, g, g', h => by
    have h : (match g n with | none => some (putG g n s) | some w => if sameF w.ty s.ty = true then some g else none) = some g' := h
    cases hn : g n with
    | none =>
      rw [hn] at h
      cases h
      refine ⟨fun m u hm => ?_, fun σ hσ => hσ n s (if_pos rfl)⟩
      show (if m = n then some s else g m) = some u
      rw [if_neg (fun e => by rw [e, hn] at hm; cases hm)]; exact hm
    | some w =>
      rw [hn] at h
      by_cases e : sameF w.ty s.ty = true
      · simp only [e, if_true] at h
        cases h
        exact ⟨fun _ _ h => h, fun σ hσ => (hσ n w hn).trans (RT.ty_inj (same_iff.1 e))⟩
      · simp only [e] at h; cases h
  | .con n, .con m, g, g', h => by
    have h : (if n = m then some g else none) = some g' := h
    by_cases e : n = m
    · rw [if_pos e] at h; cases h; exact ⟨fun _ _ h => h, fun _ _ => by rw [e]; rfl⟩
    · rw [if_neg e] at h; cases h
  | .app a b, .app c d, g, g', h => by
    have h : (match matchF a c g with | none => none | some g1 => matchF b d g1) = some g' := h
    cases h1 : matchF a c g with
    | none => rw [h1] at h; cases h
    | some g1 =>
      rw [h1] at h
      obtain ⟨e1, s1⟩ := match_sub h1
      obtain ⟨e2, s2⟩ := match_sub (r := b) (s := d) h
      exact ⟨fun n u hn => e2 n u (e1 n u hn), fun σ hσ => by show RT.app _ _ = _; rw [s1 σ fun n u hn => hσ n u (e2 n u hn), s2 σ hσ]⟩
  | .con _, .var _, _, _, h => by cases h
  | .con _, .app _ _, _, _, h => by cases h
  | .app _ _, .var _, _, _, h => by cases h
  | .app _ _, .con _, _, _, h => by cases h
theorem St.intoT {w0 w : World} {M : List Nat} {L : List Ent} {T : Nat} {l : List TN} {s : TN} (hO : St w0 M w (tE T s :: L)) (i : Nat) (hi : L[i]? = some (Ent.grp (l.map (tE T)))) : St w0 M w (L.set i (Ent.grp ((l ++ [s]).map (tE T)))) := by
  have h := hO.into i hi
  rw [List.map_append]; exact h
/-- within a type -/
inductive Sbt : TN → TN → Prop where
  | refl (t : TN) : Sbt t t
  | sub {k : Int} {n : Nam} {h : Hdr} {l : List TN} {t z : TN} : t ∈ l → Sbt t z → Sbt (.mk k n h l) z
theorem Sbt.rd {w : World} {M : List Nat} {u z : TN} (h : Sbt u z) : RdN w M u → RdN w M z := by
  induction h with
  | refl t => exact id
  | sub hm _ ih => exact fun hR => ih (hR.sub _ hm)
theorem wt_in {k : Int} {n : Nam} {hd : Hdr} {l : List TN} {t : TN} (h : t ∈ l) : wtF t.er ≤ wtF (TN.mk k n hd l).er := by
  rw [er_mk]
  show _ ≤ 1 + n.length + wtL (l.map TN.er)
  have := wtL_mem (List.mem_map_of_mem (f := TN.er) h)
  omega
theorem Sbt.wt {u z : TN} (h : Sbt u z) : wtF z.er ≤ wtF u.er := by
  induction h with
  | refl t => exact Nat.le_refl _
  | sub hm _ ih => exact Nat.le_trans ih (wt_in hm)
theorem Sbt.nodes {u z : TN} (h : Sbt u z) : nodesF z.er ≤ nodesF u.er := by
  induction h with
  | refl t => exact Nat.le_refl _
  | @sub k n hd l t z hm _ ih =>
    have := nodes_in (k := k) (n := n) (hd := hd) hm
    omega
theorem subOf_at {ss : List SbN} {n : Nam} {i : Nat} {p : SbN} (h0 : ∀ q ∈ ss.take i, ¬ q.name = n) (h : ss[i]? = some p) (hp : p.name = n) : subOf ss n = some p.t := by
  unfold subOf
  have e : ss = ss.take i ++ p :: ss.drop (i + 1) := by
    obtain ⟨h1, h2⟩ := List.getElem?_eq_some_iff.1 h
    rw [← h2, ← List.drop_eq_getElem_cons h1, List.take_append_drop]
  rw [e, List.find?_append, List.find?_eq_none.2 fun q hq => by simpa using h0 q hq, List.find?_cons_of_pos (by simpa using hp)]; rfl
theorem subOf_no {ss : List SbN} {n : Nam} (h : ∀ q ∈ ss, ¬ q.name = n) : subOf ss n = none := by
  unfold subOf
  rw [List.find?_eq_none.2 fun q hq => by simpa using h q hq]; rfl
def ansM (ns : List Nam) (g : Sg) : List (Nam × Ty) := ns.map fun n => (n, match g n with | some u => u.ty | none => varT n)
def MatSpec (t u : Ty) (l : List (Nam × Ty)) (e : Int) : Prop :=
  (¬ allF [t, u] 0 = 0 ∧ l = [] ∧ e = allF [t, u] 0) ∨
  (allF [t, u] 0 = 0 ∧ ∃ r s : RT, t = r.ty ∧ u = s.ty ∧
    ((matchF r s (fun _ => none) = none ∧ l = [] ∧ e = 70) ∨ ∃ g ns, matchF r s (fun _ => none) = some g ∧ Asc ns ∧ (∀ n, n ∈ ns ↔ ¬ g n = none) ∧ l = ansM ns g ∧ e = 0))
theorem MatSpec.uniq {t u : Ty} {l l' : List (Nam × Ty)} {e e' : Int} (h : MatSpec t u l e) (h' : MatSpec t u l' e') : l = l' ∧ e = e' := by
  rcases h with ⟨h1, rfl, rfl⟩ | ⟨h1, r, s, hr, hs, h⟩
  · rcases h' with ⟨_, rfl, rfl⟩ | ⟨h2, _⟩
    · exact ⟨rfl, rfl⟩
    · exact absurd h2 h1
  · rcases h' with ⟨h2, _⟩ | ⟨_, r', s', hr', hs', h'⟩
    · exact absurd h1 h2
    · obtain rfl := RT.ty_inj (hr.symm.trans hr')
      obtain rfl := RT.ty_inj (hs.symm.trans hs')
      rcases h with ⟨h2, rfl, rfl⟩ | ⟨g, ns, hg, ha, hn, rfl, rfl⟩
      · rcases h' with ⟨_, rfl, rfl⟩ | ⟨g', ns', hg', _⟩
        · exact ⟨rfl, rfl⟩
        · rw [h2] at hg'; cases hg'
      · rcases h' with ⟨h3, _⟩ | ⟨g', ns', hg', ha', hn', rfl, rfl⟩
        · rw [h3] at hg; cases hg
        · rw [hg] at hg'
          cases hg'
          rw [asc_uniq ha ha' fun n => (hn n).trans (hn' n).symm]
          exact ⟨rfl, rfl⟩
end Go.Proofs.Ytfkmlcgccffmnaa
