/- PU19, PLAIN: what stands in the best unifier; how big it is. -/
import Derived.Test.YtfkmlcgccffmnaaXe
namespace Go.Proofs.Ytfkmlcgccffmnaa
open Go
def RT.cs : RT → List Nam
  | .var _ => []
  | .con n => [n]
  | .app a b => a.cs ++ b.cs
/-- a constructor renamed -/
def RT.ren (c d : Nam) : RT → RT
  | .var n => .var n
  | .con n => if n = c then .con d else .con n
  | .app a b => .app (a.ren c d) (b.ren c d)
theorem ren_not {c d : Nam} (h : ¬ c = d) : ∀ t : RT, c ∉ (t.ren c d).cs
  | .var n => by simp [RT.ren, RT.cs]
  | .con n => by
    unfold RT.ren
    by_cases e : n = c
    · rw [if_pos e]; simp [RT.cs, h]
    · rw [if_neg e]; simp [RT.cs]; exact fun e2 => e e2.symm
  | .app a b => by
    show c ∉ (a.ren c d).cs ++ (b.ren c d).cs
    rw [List.mem_append]; exact fun h' => h'.elim (ren_not h a) (ren_not h b)
theorem ren_id {c d : Nam} : ∀ t : RT, c ∉ t.cs → t.ren c d = t
  | .var n, _ => rfl
  | .con n, h => if_neg fun e => h (by rw [e]; exact List.mem_singleton.2 rfl)
  | .app a b, h => by
    show RT.app _ _ = _
    rw [ren_id a fun h' => h (List.mem_append_left _ h'), ren_id b fun h' => h (List.mem_append_right _ h')]
theorem ren_sub {c d : Nam} (σ : Nam → RT) : ∀ t : RT, (t.sub σ).ren c d = (t.ren c d).sub fun n => (σ n).ren c d
  | .var n => rfl
  | .con n => by
    show (RT.con n).ren c d = ((RT.con n).ren c d).sub _
    unfold RT.ren
    by_cases e : n = c
    · rw [if_pos e]; rfl
    · rw [if_neg e]; rfl
  | .app a b => by
    show RT.app _ _ = RT.app _ _
    rw [ren_sub σ a, ren_sub σ b]
theorem cs_sub {c : Nam} (σ : Nam → RT) : ∀ t : RT, c ∈ t.cs → c ∈ (t.sub σ).cs
  | .con n, h => h
  | .app a b, h => (List.mem_append.1 h).elim (fun h => List.mem_append_left _ (cs_sub σ a h)) fun h => List.mem_append_right _ (cs_sub σ b h)
  | .var n, h => by cases h
/-- constructors of the best unifier stand in the pairs -/
theorem canon_cs {ps : RPs} {σ : Nam → RT} (h : Canon ps σ) {n c : Nam} (hc : c ∈ (σ n).cs) : ∃ p ∈ ps, c ∈ p.1.cs ∨ c ∈ p.2.cs := by
  refine Classical.byContradiction fun hno => ?_
  have hd : ¬ c = 0 :: c := fun e => by
    have := congrArg List.length e
    simp at this
  have hu : Unif rtG (fun m => (σ m).ren c (0 :: c)) ps := fun p hp => by
    have h1 := h.uni p hp
    rw [ev_rt, ev_rt] at h1 ⊢
    have e1 := ren_sub (c := c) (d := 0 :: c) σ p.1
    have e2 := ren_sub (c := c) (d := 0 :: c) σ p.2
    rw [ren_id p.1 fun h => hno ⟨p, hp, .inl h⟩] at e1
    rw [ren_id p.2 fun h => hno ⟨p, hp, .inr h⟩] at e2
    rw [← e1, ← e2, h1]
  have h2 := h.most _ hu n
  exact ren_not hd (σ n) (by rw [h2]; exact cs_sub _ _ hc)
theorem vs_sub {m : Nam} (τ : Nam → RT) (h : τ m = .var m) : ∀ t : RT, m ∈ t.vs → m ∈ (t.sub τ).vs
  | .var n, hm => by
    obtain rfl := List.mem_singleton.1 hm
    show m ∈ (τ m).vs
    rw [h]; exact List.mem_singleton.2 rfl
  | .con n, hm => by cases hm
  | .app a b, hm => (List.mem_append.1 hm).elim (fun h' => List.mem_append_left _ (vs_sub τ h a h')) fun h' => List.mem_append_right _ (vs_sub τ h b h')
theorem vs_gone {m : Nam} : ∀ t : RT, m ∉ (t.sub fun x => if x = m then .con [] else .var x).vs
  | .var n => by
    show m ∉ (if n = m then RT.con [] else .var n).vs
    by_cases e : n = m
    · rw [if_pos e]; simp [RT.vs]
    · rw [if_neg e]; simp [RT.vs]; exact fun e2 => e e2.symm
  | .con n => by simp [RT.sub, RT.vs]
  | .app a b => by
    show m ∉ _ ++ _
    rw [List.mem_append]; exact fun h => h.elim (vs_gone a) (vs_gone b)
/-- variables of the best unifier, too -/
theorem canon_vs {ps : RPs} {σ : Nam → RT} (h : Canon ps σ) {n m : Nam} (hn : n ∈ psVs ps) (hm : m ∈ (σ n).vs) : m ∈ psVs ps := by
  refine Classical.byContradiction fun hno => ?_
  let τ : Nam → RT := fun x => if x = m then .con [] else .var x
  let θ : Nam → RT := fun x => if x ∈ psVs ps then (σ x).sub τ else .var x
  have hts : ∀ t : RT, (∀ x ∈ t.vs, x ∈ psVs ps) → t.sub θ = (t.sub σ).sub τ := fun t ht => by
    rw [RT.sub_sub]
    exact RT.sub_congr fun x hx => if_pos (ht x hx)
  have hu : Unif rtG θ ps := fun p hp => by
    have h1 := h.uni p hp
    rw [ev_rt, ev_rt] at h1 ⊢
    rw [hts p.1 fun x hx => mem_psVs.2 ⟨p, hp, .inl hx⟩, hts p.2 fun x hx => mem_psVs.2 ⟨p, hp, .inr hx⟩, h1]
  have h2 := h.most θ hu n
  have h3 : m ∈ ((σ n).sub θ).vs := vs_sub θ (if_neg hno) (σ n) hm
  rw [← h2] at h3
  have h4 : θ n = (σ n).sub τ := if_pos hn
  rw [h4] at h3
  exact vs_gone (σ n) h3
/-! how big -/
theorem wt_names {B : Nat} : ∀ t : RT, (∀ n ∈ t.cs, n.length ≤ B) → (∀ n ∈ t.vs, n.length ≤ B) → wtR t ≤ t.nodes * (1 + B)
  | .var n, _, h => by
    have := h n (List.mem_singleton.2 rfl)
    show 1 + n.length + 0 ≤ 1 * (1 + B); omega
  | .con n, h, _ => by
    have := h n (List.mem_singleton.2 rfl)
    show 1 + n.length + 0 ≤ 1 * (1 + B); omega
  | .app a b, hc, hv => by
    have h1 := wt_names a (fun n hn => hc n (List.mem_append_left _ hn)) fun n hn => hv n (List.mem_append_left _ hn)
    have h2 := wt_names b (fun n hn => hc n (List.mem_append_right _ hn)) fun n hn => hv n (List.mem_append_right _ hn)
    rw [wtR_app]
    show 1 + wtR a + wtR b ≤ (1 + a.nodes + b.nodes) * (1 + B)
    rw [Nat.add_mul, Nat.add_mul]; omega
theorem cs_wt : ∀ {t : RT} {n : Nam}, n ∈ t.cs → n.length ≤ wtR t
  | .con m, n, h => by
    obtain rfl := List.mem_singleton.1 h
    show n.length ≤ 1 + n.length + 0; omega
  | .app a b, n, h => by
    rw [wtR_app]
    rcases List.mem_append.1 h with h | h
    · have := cs_wt h; omega
    · have := cs_wt h; omega
  | .var m, n, h => by cases h
theorem vs_wt : ∀ {t : RT} {n : Nam}, n ∈ t.vs → n.length ≤ wtR t
  | .var m, n, h => by
    obtain rfl := List.mem_singleton.1 h
    show n.length ≤ 1 + n.length + 0; omega
  | .app a b, n, h => by
    rw [wtR_app]
    rcases List.mem_append.1 h with h | h
    · have := vs_wt h; omega
    · have := vs_wt h; omega
  | .con m, n, h => by cases h
end Go.Proofs.Ytfkmlcgccffmnaa
namespace Go.Proofs.Ytfkmlcgccffmnaa
open Go
theorem ok_right : ∀ {t : RT}, t.ok → rightF t.ty = true
  | .var n, h => by
    have h : ¬ n = [] := h
    show (_ : Bool) = true
    unfold RT.ty rightF
    simp [h]
  | .con n, h => by
    have h : ¬ n = [] := h
    unfold RT.ty rightF
    simp [h]
  | .app a b, h => by
    have h1 := ok_right h.1
    have h2 := ok_right h.2
    show (decide ((54 : Int) = 54) && decide (([] : Nam) = []) && rightF a.ty && rightF b.ty) = true
    rw [h1, h2]; rfl
theorem ok_iff : ∀ {t : RT}, t.ok ↔ ([] ∉ t.cs ∧ [] ∉ t.vs)
  | .var n => by
    show ¬ n = [] ↔ _
    simp [RT.cs, RT.vs, eq_comm]
  | .con n => by
    show ¬ n = [] ↔ _
    simp [RT.cs, RT.vs, eq_comm]
  | .app a b => by
    show a.ok ∧ b.ok ↔ ([] ∉ a.cs ++ b.cs ∧ [] ∉ a.vs ++ b.vs)
    rw [ok_iff (t := a), ok_iff (t := b), List.mem_append, List.mem_append]
    exact ⟨fun ⟨⟨h1, h2⟩, h3, h4⟩ => ⟨fun h => h.elim h1 h3, fun h => h.elim h2 h4⟩, fun ⟨h1, h2⟩ => ⟨⟨fun h => h1 (.inl h), fun h => h2 (.inl h)⟩, fun h => h1 (.inr h), fun h => h2 (.inr h)⟩⟩
theorem right_ok {t : RT} (h : rightF t.ty = true) : t.ok := by
  obtain ⟨r, h1, h2⟩ := right_ex _ h
  obtain rfl := RT.ty_inj h2
  exact h1
theorem sig_ansL (ns : List Nam) (σ : Nam → RT) (n : Nam) : sigF (ansL ns σ) n = if n ∈ ns then (σ n).ty else varT n := by
  induction ns with
  | nil => rfl
  | cons m ns ih =>
    by_cases hv : isV (σ m) m = true
    · have e : ansL (m :: ns) σ = ansL ns σ := by unfold ansL; rw [List.filter_cons_of_neg (by simp [hv])]
      rw [e, ih]
      by_cases h : n ∈ ns
      · rw [if_pos h, if_pos (List.mem_cons_of_mem _ h)]
      · rw [if_neg h]
        by_cases hm : n = m
        · rw [if_pos (by rw [hm]; exact List.mem_cons_self ..), hm, isV_iff.1 hv]; rfl
        · rw [if_neg fun h2 => (List.mem_cons.1 h2).elim hm h]
    · have e : ansL (m :: ns) σ = (m, (σ m).ty) :: ansL ns σ := by unfold ansL; rw [List.filter_cons_of_pos (by simpa using hv), List.map_cons]
      by_cases hm : m = n
      · rw [e, if_pos (by rw [hm]; exact List.mem_cons_self ..), ← hm]
        unfold sigF
        rw [List.find?_cons_of_pos (by simp)]
      · have h1 : sigF ((m, (σ m).ty) :: ansL ns σ) n = sigF (ansL ns σ) n := by
          unfold sigF
          rw [List.find?_cons_of_neg (by simpa using hm)]
        rw [e, h1, ih]
        by_cases h : n ∈ ns
        · rw [if_pos h, if_pos (List.mem_cons_of_mem _ h)]
        · rw [if_neg h, if_neg fun h2 => h ((List.mem_cons.1 h2).resolve_left fun e2 => hm e2.symm)]
theorem psVs_len : ∀ ps : RPs, (∀ p ∈ ps, p.1.nodes ≤ 1000 ∧ p.2.nodes ≤ 1000) → (psVs ps).length ≤ 2000 * ps.length
  | [], _ => Nat.zero_le _
  | p :: r, h => by
    have h1 := psVs_len r fun q hq => h q (List.mem_cons_of_mem _ hq)
    obtain ⟨h2, h3⟩ := h p (List.mem_cons_self ..)
    have h4 := vs_len p.1
    have h5 := vs_len p.2
    show (p.1.vs ++ p.2.vs ++ psVs r).length ≤ 2000 * (r.length + 1)
    rw [List.length_append, List.length_append]; omega
/-- what is known of an answer without an error -/
structure Solved (rs : RPs) (σ : Nam → RT) (ns : List Nam) (l : List (Nam × Ty)) (N : Nat) : Prop where
  can : Canon rs σ
  rt : ∀ r ∈ rs, (r.1.ok ∧ r.1.nodes ≤ 1000) ∧ r.2.ok ∧ r.2.nodes ≤ 1000
  sig : sigF l = fun n => (σ n).ty
  mem : ∀ q ∈ l, ∃ n ∈ psVs rs, q = (n, (σ n).ty)
  ok : ∀ n ∈ psVs rs, (σ n).ok ∧ (σ n).nodes ≤ 1000 ∧ wtF (σ n).ty ≤ 1000 * (1 + N)
  len : l.length ≤ 2000 * rs.length
theorem UniSpec.yes {ps : TPs} {l : List (Nam × Ty)} {N : Nat} (h : UniSpec ps l 0) (hw : ∀ p ∈ ps, wtF p.1 ≤ N ∧ wtF p.2 ≤ N) : ∃ rs σ ns, ps = tyPs rs ∧ Solved rs σ ns l N := by
  rcases h with ⟨h1, _, h2⟩ | ⟨hal, rs, rfl, ⟨_, _, h⟩ | ⟨σ, ns, hc, hasc, hns, ⟨_, _, h⟩ | ⟨hsm, rfl, _⟩⟩⟩
  · exact absurd h2.symm h1
  · cases h
  · cases h
  · obtain ⟨rs', e, hok⟩ := right_pairs (allF_zero hal).2
    obtain rfl := tyPs_inj e
    have hwr : ∀ p ∈ rs, wtR p.1 ≤ N ∧ wtR p.2 ≤ N := fun p hp => hw (p.1.ty, p.2.ty) (List.mem_map.2 ⟨p, hp, rfl⟩)
    have hcs : ∀ n, ∀ c ∈ (σ n).cs, c.length ≤ N ∧ ¬ c = [] := fun n c hcc => by
      obtain ⟨p, hp, h⟩ := canon_cs hc hcc
      obtain ⟨⟨o1, _⟩, o2, _⟩ := hok p hp
      rcases h with h | h
      · exact ⟨Nat.le_trans (cs_wt h) (hwr p hp).1, fun e => (ok_iff.1 o1).1 (e ▸ h)⟩
      · exact ⟨Nat.le_trans (cs_wt h) (hwr p hp).2, fun e => (ok_iff.1 o2).1 (e ▸ h)⟩
    have hps : ∀ n ∈ psVs rs, n.length ≤ N ∧ ¬ n = [] := fun n hn => by
      obtain ⟨p, hp, h⟩ := mem_psVs.1 hn
      obtain ⟨⟨o1, _⟩, o2, _⟩ := hok p hp
      rcases h with h | h
      · exact ⟨Nat.le_trans (vs_wt h) (hwr p hp).1, fun e => (ok_iff.1 o1).2 (e ▸ h)⟩
      · exact ⟨Nat.le_trans (vs_wt h) (hwr p hp).2, fun e => (ok_iff.1 o2).2 (e ▸ h)⟩
    refine ⟨rs, σ, ns, rfl, hc, hok, funext fun n => ?_, fun q hq => ?_, fun n hn => ⟨ok_iff.2 ⟨fun h => (hcs n _ h).2 rfl, fun h => (hps _ (canon_vs hc hn h)).2 rfl⟩, hsm n ((hns n).2 hn), ?_⟩, ?_⟩
    · rw [sig_ansL]
      by_cases h : n ∈ ns
      · rw [if_pos h]
      · rw [if_neg h, canon_out hc fun h2 => h ((hns n).2 h2)]; rfl
    · unfold ansL at hq
      obtain ⟨n, hn, rfl⟩ := List.mem_map.1 hq
      exact ⟨n, (hns n).1 (List.mem_filter.1 hn).1, rfl⟩
    · exact Nat.le_trans (wt_names (σ n) (fun c h => (hcs n c h).1) fun m h => (hps m (canon_vs hc hn h)).1) (Nat.mul_le_mul_right _ (hsm n ((hns n).2 hn)))
    · unfold ansL
      rw [List.length_map]
      refine Nat.le_trans (List.length_filter_le _ _) (Nat.le_trans (nodup_sub (asc_nodup hasc) (r := psVs rs) fun n hn => (hns n).1 hn) (psVs_len rs fun p hp => ⟨(hok p hp).1.2, (hok p hp).2.2⟩))
end Go.Proofs.Ytfkmlcgccffmnaa
namespace Go.Proofs.Ytfkmlcgccffmnaa
open Go
theorem Solved.okAll {rs : RPs} {σ : Nam → RT} {ns : List Nam} {l : List (Nam × Ty)} {N : Nat} (h : Solved rs σ ns l N) (n : Nam) (hn : ¬ n = []) : (σ n).ok := by
  by_cases hv : n ∈ psVs rs
  · exact (h.ok n hv).1
  · rw [canon_out h.can hv]; exact hn
theorem Solved.right {rs : RPs} {σ : Nam → RT} {ns : List Nam} {l : List (Nam × Ty)} {N : Nat} (h : Solved rs σ ns l N) : ∀ q ∈ l, rightF q.2 = true := fun q hq => by
  obtain ⟨n, hn, rfl⟩ := h.mem q hq
  exact ok_right (h.ok n hn).1
theorem Solved.app {rs : RPs} {σ : Nam → RT} {ns : List Nam} {l : List (Nam × Ty)} {N : Nat} (h : Solved rs σ ns l N) {t : RT} (ht : t.ok) : applyF t.ty l = (t.sub σ).ty := by
  unfold applyF
  rw [if_pos ⟨ok_right ht, h.right⟩, h.sig, RT.sub_ty]
theorem Solved.sub_ok {rs : RPs} {σ : Nam → RT} {ns : List Nam} {l : List (Nam × Ty)} {N : Nat} (h : Solved rs σ ns l N) {t : RT} (ht : t.ok) : (t.sub σ).ok := RT.sub_ok ht h.okAll
theorem Solved.idem {rs : RPs} {σ : Nam → RT} {ns : List Nam} {l : List (Nam × Ty)} {N : Nat} (h : Solved rs σ ns l N) (t : RT) : (t.sub σ).sub σ = t.sub σ := by
  rw [RT.sub_sub]
  exact RT.sub_congr fun n _ => (h.can.idem n).symm
theorem Solved.eqs {rs : RPs} {σ : Nam → RT} {ns : List Nam} {l : List (Nam × Ty)} {N : Nat} (h : Solved rs σ ns l N) {r : RT × RT} (hr : r ∈ rs) : r.1.sub σ = r.2.sub σ := by
  have := h.can.uni r hr
  rwa [ev_rt, ev_rt] at this
theorem UniSpec.equals {ps : TPs} {l : List (Nam × Ty)} {e : Int} (h : UniSpec ps l e) (he : ∀ p ∈ ps, p.1 = p.2) (hc : ∀ p ∈ ps, checkF p.1 = 0) : l = [] ∧ e = 0 := by
  have hr : ∀ p ∈ ps, rightF p.1 = true ∧ ¬ 1000 < (nodesF p.1 : Int) := fun p hp => by
    have := hc p hp
    unfold checkF at this
    split at this
    · cases this
    · rename_i h1
      split at this
      · cases this
      · rename_i h2; exact ⟨by simpa using h1, h2⟩
  have hm : ∀ t ∈ tysOf ps, rightF t = true ∧ ¬ 1000 < (nodesF t : Int) := fun t ht => by
    obtain ⟨p, hp, h | h⟩ := mem_tys.1 ht
    · rw [h]; exact hr p hp
    · rw [h, ← he p hp]; exact hr p hp
  have hal : allF (tysOf ps) 0 = 0 := by
    rw [allF_big fun t ht => (hm t ht).1, if_neg]
    rintro ⟨t, ht, hb⟩; exact (hm t ht).2 hb
  rcases h with ⟨h1, _⟩ | ⟨_, rs, rfl, h⟩
  · exact absurd hal h1
  · have hu : ∀ θ : Nam → RT, Unif rtG θ rs := fun θ p hp => by
      have := he (p.1.ty, p.2.ty) (List.mem_map.2 ⟨p, hp, rfl⟩)
      rw [RT.ty_inj this]
    have hcv : Canon rs RT.var := ⟨hu _, fun θ _ n => rfl, fun m n h => by injection h with h; rw [h]; exact List.le_refl _⟩
    rcases h with ⟨h1, _⟩ | ⟨σ, ns, h1, _, _, h2⟩
    · exact absurd (hu _) (h1 .var)
    · obtain rfl : σ = RT.var := canon_uniq h1 hcv fun _ => Iff.rfl
      rcases h2 with ⟨⟨n, _, h3⟩, _⟩ | ⟨_, rfl, rfl⟩
      · exact absurd h3 (by show ¬ 1000 < 1; decide)
      · refine ⟨?_, rfl⟩
        unfold ansL
        rw [List.filter_eq_nil_iff.2 fun n _ => by rw [isV_iff.2 rfl]; decide]; rfl
end Go.Proofs.Ytfkmlcgccffmnaa
namespace Go.Proofs.Ytfkmlcgccffmnaa
open Go
set_option maxRecDepth 100000
set_option linter.unusedVariables false

theorem UniSpec.err {ps : TPs} {l : List (Nam × Ty)} {e : Int} (h : UniSpec ps l e) (he : ¬ e = 0) : l = [] := by
  rcases h with ⟨_, h, _⟩ | ⟨_, _, _, ⟨_, h, _⟩ | ⟨_, _, _, _, _, ⟨_, h, _⟩ | ⟨_, _, h⟩⟩⟩
  · exact h
  · exact h
  · exact h
  · exact absurd h he
theorem nil_er {l : List SbN} (h : l.map SbN.er = []) : (l.length : Int) = 0 := by
  have := congrArg List.length h
  rw [List.length_map] at this
  rw [this]; rfl

theorem Solved.name {rs : RPs} {σ : Nam → RT} {ns : List Nam} {l : List (Nam × Ty)} {N : Nat} (h : Solved rs σ ns l N) (hw : ∀ p ∈ tyPs rs, wtF p.1 ≤ N ∧ wtF p.2 ≤ N) : ∀ q ∈ l, q.1.length ≤ N := fun q hq => by
  obtain ⟨n, hn, rfl⟩ := h.mem q hq
  obtain ⟨p, hp, h | h⟩ := mem_psVs.1 hn
  · exact Nat.le_trans (vs_wt h) (hw (p.1.ty, p.2.ty) (List.mem_map.2 ⟨p, hp, rfl⟩)).1
  · exact Nat.le_trans (vs_wt h) (hw (p.1.ty, p.2.ty) (List.mem_map.2 ⟨p, hp, rfl⟩)).2
theorem Solved.fit {rs : RPs} {σ : Nam → RT} {ns : List Nam} {l : List (Nam × Ty)} (h : Solved rs σ ns l 1048576) (hw : ∀ p ∈ tyPs rs, wtF p.1 ≤ 1048576 ∧ wtF p.2 ≤ 1048576) : ∀ q ∈ l, (Fit q.2 ∧ q.1.length ≤ 4611686018427387904) ∧ wtF q.2 ≤ 1048577000 := fun q hq => by
  have h2 := h.name hw q hq
  obtain ⟨n, hn, rfl⟩ := h.mem q hq
  have h1 := (h.ok n hn).2.2
  exact ⟨⟨Nat.le_trans h1 (by decide), Nat.le_trans h2 (by decide)⟩, h1⟩
set_option maxHeartbeats 4000000 in
theorem once_r (w0 : World) (vp : Value) (ps : List TN2) (hR : RdT w0 [] vp prE ps) (hRd : ∀ p ∈ ps, RdN w0 [] p.1 ∧ RdN w0 [] p.2) (hw : ∀ p ∈ ps, wtF p.1.er ≤ 1048576 ∧ wtF p.2.er ≤ 1048576) (hlen : ps.length ≤ 1048576) : Ret Try.prog 8 #[vp] w0 (fun v w' => v = .bool true ∧ St w0 [] w' []) := by
  have hO := St.init0 w0
  have hFt : ∀ p ∈ ps, Fit p.1.er ∧ Fit p.2.er := fun p hp => ⟨Nat.le_trans (hw p hp).1 (by decide), Nat.le_trans (hw p hp).2 (by decide)⟩
  refine ret_of (m := 80) Try.func8 rfl Try.ntmps8 [(0, vp)] rfl ⟨rfl, trivial⟩ fun a hF => ?_
  refine wp_seq ?_
  refine wp_region_lit ?_
  refine wl_v hF rfl rfl rfl (q_assign rfl (hF.eval rfl)) fun a hF => ?_
  refine wl_nil ?_
  refine k_n ?_
  refine wp_seq ?_
  refine wp_region_lit ?_
  refine wl_v hF rfl rfl rfl (q_move rfl (hF.eval rfl)) fun a hF => ?_
  refine wl_e hF rfl rfl rfl (c_call hF rfl rfl Try.call9 (unify_r _ _ ps (hR.at0 hO) (fun p hp => ⟨(hRd p hp).1.at0 hO, (hRd p hp).2.at0 hO⟩) hFt (by omega))) ?_
  rintro a _ w ⟨q1, l1, e1, rfl, hU1, hS⟩ hF
  have hO := hO.call0 hS
  have hO : St _ _ _ [_, _] := hO
  refine wl_v hF rfl rfl rfl (q_move rfl (hF.eval rfl)) fun a hF => ?_
  refine wl_v hF rfl rfl rfl (q_extract rfl (hF.eval rfl) rfl) fun a hF => ?_
  refine wl_v hF rfl rfl rfl (q_extract rfl (hF.eval rfl) rfl) fun a hF => ?_
  refine wl_v hF rfl rfl rfl (q_assign rfl (hF.eval rfl)) fun a hF => ?_
  refine wl_v hF rfl rfl rfl (q_assign rfl (hF.eval rfl)) fun a hF => ?_
  refine wl_nil ?_
  refine k_n ?_
  refine wp_seq ?_
  refine wp_seq ?_
  refine wp_region_lit ?_
  refine wl_v hF rfl rfl rfl (q_move rfl (hF.eval rfl)) fun a hF => ?_
  refine wl_v hF rfl rfl rfl (q_ne rfl (hF.eval rfl) (hF.eval rfl)) fun a hF => ?_
  refine wl_nil ?_
  refine k_n ?_
  refine wp_ifD hF rfl rfl (fun hc1 => ?_) (fun hc1 => ?_)
  · skip
    have hl0 := nil_er (hU1.err hc1)
    refine wp_seq ?_
    refine wp_region_lit ?_
    refine wl_v hF rfl rfl rfl (q_move rfl (hF.eval rfl)) fun a hF => ?_
    refine wl_v hF rfl rfl rfl (q_lenRd (hO.rd 0 rfl) Try.underlying23 rfl (hF.eval rfl)) fun a hF => ?_
    refine wl_v hF rfl rfl rfl (q_eq rfl (hF.eval rfl) (hF.eval rfl)) fun a hF => ?_
    refine wl_v hF rfl rfl rfl (q_move rfl (hF.eval rfl)) fun a hF => ?_
    refine wl_un hF rfl rfl rfl rfl (isB_T hl0) ?_
    refine wl_e hF rfl rfl rfl (c_call hF rfl rfl Try.call12 (awake_r _)) ?_
    rintro a _ w ⟨rfl, hS⟩ hF
    have hO := hO.call0 hS
    have hO : St _ _ _ [_, _] := hO
    refine wl_v hF rfl rfl rfl (q_and rfl (hF.eval rfl) rfl (fun hg2 => (hF.eval rfl)) (dec_b _)) fun a hF => ?_
    refine wl_v hF rfl rfl rfl (q_assign rfl (hF.eval rfl)) fun a hF => ?_
    refine wl_nil ?_
    refine k_n ?_
    refine wp_ret ?_
    refine k_r ?_
    refine r_1 hF rfl rfl ?_
    have hO := hO.drop1 0
    have hO := hO.drop1 0
    have hO : St _ _ _ [] := hO
    refine ⟨congrArg Value.bool (decide_eq_true ?_), hO⟩
    exact ⟨hl0, rfl⟩
  · skip
    obtain rfl : e1 = 0 := Classical.not_not.1 hc1
    obtain ⟨rs, σ, ns, hps, hSo⟩ := hU1.yes (N := 1048576) (fun p hp => by obtain ⟨q, hq, rfl⟩ := List.mem_map.1 hp; exact hw q hq)
    have hwp : ∀ p ∈ tyPs rs, wtF p.1 ≤ 1048576 ∧ wtF p.2 ≤ 1048576 := fun p hp => by rw [← hps] at hp; obtain ⟨q, hq, rfl⟩ := List.mem_map.1 hp; exact hw q hq
    have hrl := pairs_len hps
    have hll : l1.length ≤ 1000000000000 := by have := hSo.len; rw [List.length_map] at this; omega
    refine wp_skip ?_
    refine k_n ?_
    refine wp_seq ?_
    refine wp_region_lit ?_
    refine wl_v hF rfl rfl rfl (q_assign rfl (hF.eval rfl)) fun a hF => ?_
    have hO := hO.nilSl 34 6
    refine wl_nil ?_
    refine k_n ?_
    refine wp_seq ?_
    refine wp_seq ?_
    refine wp_region_lit ?_
    refine wl_v hF rfl rfl rfl (q_assign rfl (hF.eval rfl)) fun a hF => ?_
    have hO : St _ _ _ (Ent.grp (([] : List TN).map (tE 33)) :: _) := hO.grp0
    have hO : St _ _ _ [_, _, _, _] := hO
    refine wl_nil ?_
    refine k_n ?_
    refine wp_block ?_
    have hO := hO.pull 3 rfl
    have hO := hO.pull 3 rfl
    have hO := hO.pull 2 rfl
    have hO := hO.pull 3 rfl
    have hO : St _ _ _ [_, _, _, _] := hO
    refine wp_loopS (fun (s : Nat × Value × List TN2 × List TN) a w' => match s with | (i, vt, qs, ts) => (i ≤ ps.length ∧ qs.length ≤ i ∧ ∀ q ∈ qs, q.1 ∈ ts ∧ q.2 ∈ ts ∧ q.1.er = q.2.er ∧ checkF q.1.er = 0 ∧ Fit q.1.er) ∧ St w0 [] w' [slT vt 34 prE qs, Ent.grp (ts.map (tE 33)), slT q1.v 45 sbE l1, sbG 33 l1] ∧ Fr a 80 [(0, vp), (3, q1.v), (5, vt), (6, i64 i)]) (fun (s : Nat × Value × List TN2 × List TN) => match s with | (i, vt, qs, ts) => ps.length - i) (0, _, [], []) ⟨⟨by omega, by simp, fun q hq => (by cases hq)⟩, hO, hF.sub ⟨rfl, rfl, rfl, rfl, trivial⟩⟩ ?_
    rintro ⟨i, vt, qs, ts⟩ a w ⟨⟨hi, hql, hq⟩, hO, hF⟩
    refine wp_seq ?_
    refine wp_seq ?_
    refine wp_region_lit ?_
    refine wl_v hF rfl rfl rfl (q_move rfl (hF.eval rfl)) fun a hF => ?_
    refine wl_v hF rfl rfl rfl (q_move rfl (hF.eval rfl)) fun a hF => ?_
    refine wl_v hF rfl rfl rfl (q_lenRd hR Try.underlying22 rfl (hF.eval rfl)) fun a hF => ?_
    refine wl_v hF rfl rfl rfl (q_lt rfl (hF.eval rfl) (hF.eval rfl)) fun a hF => ?_
    refine wl_nil ?_
    refine k_n ?_
    refine wp_ifD hF rfl rfl (fun hc2 => ?_) (fun hc2 => ?_)
    · skip
      refine wp_skip ?_
      refine k_n ?_
      refine wp_seq ?_
      refine wp_block ?_
      refine wp_seq ?_
      refine wp_region_lit ?_
      refine wl_v hF rfl rfl rfl (q_move rfl (hF.eval rfl)) fun a hF => ?_
      refine wl_v hF rfl rfl rfl (q_move rfl (hF.eval rfl)) fun a hF => ?_
      obtain ⟨p, hp⟩ := get_ex (l := ps) (i := i) (by omega)
      refine wl_v hF rfl rfl rfl (q_at (i := i) hR Try.underlying22 Try.sizeOf34 rfl (hF.eval rfl) (hF.eval rfl) (by omega)) fun a hF => ?_
      refine wl_v hF rfl rfl rfl (q_atArr (i := 0) Try.underlying34 Try.sizeOf33 rfl (hF.eval rfl) (hF.eval rfl) (by decide)) fun a hF => ?_
      refine wl_v hF rfl rfl rfl (q_loadAgg Try.isAgg33 Try.sizeOf33 rfl (hF.eval rfl) (RdT.cellsK (hR.now hO) hp 0 3 rfl) rfl) fun a hF => ?_
      refine wl_v hF rfl rfl rfl (q_move rfl (hF.eval rfl)) fun a hF => ?_
      refine wl_e hF rfl rfl rfl (c_call hF rfl rfl Try.call15 (apply_r _ p.1 _ l1 ((hRd p (List.mem_of_getElem? hp)).1.at0 hO) (hO.rdT 2 rfl) (hO.rdSb 3 rfl) (by exact (hFt p (List.mem_of_getElem? hp)).1) (fun s hs => (hSo.fit hwp (SbN.er s) (List.mem_map_of_mem hs)).1) hll)) ?_
      rintro a _ w ⟨z1, rfl, hz1, hS⟩ hF
      have hO := hO.call0 hS
      have hO : St _ _ _ [_, _, _, _, _] := hO
      refine wl_e hF rfl rfl rfl (e_alloc hO Try.zeroValue33 rfl rfl) ?_
      rintro a _ w ⟨bx, rfl, hO⟩ hF
      have hO := hO.pull 1 rfl
      have hO := St.intoT hO 2 rfl
      have hO : St _ _ _ [_, _, _, _, _] := hO
      refine wl_s hF rfl rfl (e_storeAll hO (i := 0) rfl Try.sizeOf33 rfl (hF.eval rfl) (hF.eval rfl) rfl rfl) ?_
      rintro a _ w ⟨-, hO⟩ hF
      have hO : St _ _ _ [_, _, _, _, _] := hO
      refine wl_nil ?_
      refine k_n ?_
      refine wp_seq ?_
      refine wp_region_lit ?_
      refine wl_v hF rfl rfl rfl (q_move rfl (hF.eval rfl)) fun a hF => ?_
      refine wl_v hF rfl rfl rfl (q_move rfl (hF.eval rfl)) fun a hF => ?_
      refine wl_v hF rfl rfl rfl (q_at (i := i) hR Try.underlying22 Try.sizeOf34 rfl (hF.eval rfl) (hF.eval rfl) (by omega)) fun a hF => ?_
      refine wl_v hF rfl rfl rfl (q_atArr (i := 1) Try.underlying34 Try.sizeOf33 rfl (hF.eval rfl) (hF.eval rfl) (by decide)) fun a hF => ?_
      refine wl_v hF rfl rfl rfl (q_loadAgg Try.isAgg33 Try.sizeOf33 rfl (hF.eval rfl) (RdT.cellsK (hR.now hO) hp 3 3 rfl) rfl) fun a hF => ?_
      refine wl_v hF rfl rfl rfl (q_move rfl (hF.eval rfl)) fun a hF => ?_
      refine wl_e hF rfl rfl rfl (c_call hF rfl rfl Try.call15 (apply_r _ p.2 _ l1 ((hRd p (List.mem_of_getElem? hp)).2.at0 hO) (hO.rdT 3 rfl) (hO.rdSb 4 rfl) (by exact (hFt p (List.mem_of_getElem? hp)).2) (fun s hs => (hSo.fit hwp (SbN.er s) (List.mem_map_of_mem hs)).1) hll)) ?_
      rintro a _ w ⟨z2, rfl, hz2, hS⟩ hF
      have hO := hO.call0 hS
      have hO : St _ _ _ [_, _, _, _, _, _] := hO
      refine wl_e hF rfl rfl rfl (e_alloc hO Try.zeroValue33 rfl rfl) ?_
      rintro a _ w ⟨by_, rfl, hO⟩ hF
      have hO := hO.pull 1 rfl
      have hO := St.intoT hO 3 rfl
      have hO : St _ _ _ [_, _, _, _, _, _] := hO
      refine wl_s hF rfl rfl (e_storeAll hO (i := 0) rfl Try.sizeOf33 rfl (hF.eval rfl) (hF.eval rfl) rfl rfl) ?_
      rintro a _ w ⟨-, hO⟩ hF
      have hO : St _ _ _ [_, _, _, _, _, _] := hO
      obtain ⟨r, hr, he1, he2⟩ := pair_at hps hp
      obtain ⟨⟨ro1, _⟩, ro2, _⟩ := hSo.rt r (List.mem_of_getElem? hr)
      have hy1 : z1.er = (r.1.sub σ).ty := by rw [hz1, he1]; exact hSo.app ro1
      have hy2 : z2.er = (r.2.sub σ).ty := by rw [hz2, he2]; exact hSo.app ro2
      have hzz : z1.er = z2.er := by rw [hy1, hy2, hSo.eqs (List.mem_of_getElem? hr)]
      have hfz : Fit z1.er := by rw [hz1]; exact Nat.le_trans (apply_wt (by decide) fun q hq => (hSo.fit hwp q hq).2) (Nat.le_trans (Nat.succ_le_succ (Nat.mul_le_mul_right _ (hw p (List.mem_of_getElem? hp)).1)) (by decide))
      refine wl_nil ?_
      refine k_n ?_
      refine wp_seq ?_
      refine wp_seq ?_
      have hO := hO.pull 1 rfl
      have hO := hO.drew
      refine wp_region_D [1, 1, 0, 2, 2, 0, 0, 1, 1, 3, 0, 0] (fun w => ∃ L', St w0 [] w (.ob bx 33 (tnE.cells z1) :: .ob by_ 33 (tnE.cells z2) :: L')) Try_mixed (by kernel_rfl) ⟨_, hO⟩ ?_
      refine wd_r hF rfl rfl rfl (fun w ⟨_, hO⟩ => q_loadAgg Try.isAgg33 Try.sizeOf33 rfl (hF.eval rfl) (hO.cells 0 rfl) rfl) fun a hF => ?_
      refine wd_r hF rfl rfl rfl (fun w ⟨_, hO⟩ => q_loadAgg Try.isAgg33 Try.sizeOf33 rfl (hF.eval rfl) (hO.cells 0 rfl) rfl) fun a hF => ?_
      refine wd_p hF rfl rfl rfl (fun w => q_move rfl (hF.eval rfl)) fun a hF => ?_
      refine wd_e hF rfl rfl rfl (c_call hF rfl rfl Try.call15 (apply_r _ z1 _ l1 (hO.rdNG 3 rfl (by simp)) (hO.rdT 4 rfl) (hO.rdSb 5 rfl) hfz (fun s hs => (hSo.fit hwp (SbN.er s) (List.mem_map_of_mem hs)).1) hll)) (fun _ _ ⟨_, _, _, hS⟩ => ⟨_, (((hO.call0 hS).pull 2 rfl).pull 2 rfl)⟩) ?_
      rintro a _ w ⟨z3, rfl, hz3, hS⟩ hF
      have hO := hO.call0 hS
      have hO : St _ _ _ [_, _, _, _, _, _, _] := hO
      have hy3 : z3.er = z1.er := by rw [hz3, hy1, hSo.app (hSo.sub_ok ro1), hSo.idem]
      refine wd_e hF rfl rfl rfl (c_call hF rfl rfl Try.call19 (same_r z1 z3 _ (hO.rdNG 4 rfl (by simp)) (hO.rdN 0 rfl))) (fun _ _ ⟨_, hS⟩ => ⟨_, ((hO.call0 hS).pull 2 rfl).pull 2 rfl⟩) ?_
      rintro a _ w ⟨rfl, hS⟩ hF
      have hO := hO.call0 hS
      have hO : St _ _ _ [_, _, _, _, _, _, _] := hO
      have hs1 : sameF z1.er z3.er = true := same_iff.2 hy3.symm
      refine wd_p hF rfl rfl rfl (fun w => q_not rfl (hF.eval rfl) (dec_b _)) fun a hF => ?_
      refine wd_p hF rfl rfl rfl (fun w => q_move rfl (hF.eval rfl)) fun a hF => ?_
      refine wd_un hF rfl rfl rfl rfl (isB_F (fun h => h hs1)) ?_
      refine wd_r hF rfl rfl rfl (fun w ⟨_, hO⟩ => q_loadAgg Try.isAgg33 Try.sizeOf33 rfl (hF.eval rfl) (hO.cells 0 rfl) rfl) fun a hF => ?_
      refine wd_un hF rfl rfl rfl rfl (isB_F (fun h => h hs1)) ?_
      refine wd_r hF rfl rfl rfl (fun w ⟨_, hO⟩ => q_loadAgg Try.isAgg33 Try.sizeOf33 rfl (hF.eval rfl) (hO.cells 1 rfl) rfl) fun a hF => ?_
      refine wd_un hF rfl rfl rfl rfl (isB_F (fun h => h hs1)) ?_
      refine wd_f hF rfl rfl rfl (c_call hF rfl rfl Try.call19 (same_r z1 z2 _ (hO.rdNG 4 rfl (by simp)) (hO.rdNG 4 rfl (by simp)))) ?_
      rintro a _ w ⟨rfl, hS⟩ hF
      have hO := hO.call0 hS
      have hO : St _ _ _ [_, _, _, _, _, _, _] := hO
      have hs2 : sameF z1.er z2.er = true := same_iff.2 hzz
      refine wd_un hF rfl rfl rfl rfl (isB_F (fun h => h hs1)) ?_
      refine wd_p hF rfl rfl rfl (fun w => q_not rfl (hF.eval rfl) (dec_b _)) fun a hF => ?_
      refine wd_p hF rfl rfl rfl (fun w => q_or rfl (hF.eval rfl) rfl (fun hg2 => (hF.eval rfl)) rfl) fun a hF => ?_
      refine wd_nil ?_
      refine k_n ?_
      refine wp_ifD hF rfl rfl (fun hc3 => ?_) (fun hc3 => ?_)
      · skip
        exact absurd hs2 (hc3.resolve_left fun h => h hs1)
      · skip
        refine wp_skip ?_
        refine k_n ?_
        refine wp_seq ?_
        refine wp_region_lit ?_
        refine wl_v hF rfl rfl rfl (q_loadAgg Try.isAgg33 Try.sizeOf33 rfl (hF.eval rfl) (hO.cells 1 rfl) rfl) fun a hF => ?_
        refine wl_e hF rfl rfl rfl (c_call hF rfl rfl Try.call17 (check_r _ z1 (hO.rdNG 4 rfl (by simp)) hfz.nodes)) ?_
        rintro a _ w ⟨rfl, hS⟩ hF
        have hO := hO.call0 hS
        have hO : St _ _ _ [_, _, _, _, _, _, _] := hO
        refine wl_v hF rfl rfl rfl (q_eq rfl (hF.eval rfl) (hF.eval rfl)) fun a hF => ?_
        refine wl_nil ?_
        refine k_n ?_
        refine wp_ifD hF rfl rfl (fun hc4 => ?_) (fun hc4 => ?_)
        · skip
          refine wp_region_lit ?_
          refine wl_v hF rfl rfl rfl (q_move rfl (hF.eval rfl)) fun a hF => ?_
          refine wl_v hF rfl rfl rfl (q_loadAgg Try.isAgg33 Try.sizeOf33 rfl (hF.eval rfl) (hO.cells 1 rfl) rfl) fun a hF => ?_
          refine wl_v hF rfl rfl rfl (q_loadAgg Try.isAgg33 Try.sizeOf33 rfl (hF.eval rfl) (hO.cells 2 rfl) rfl) fun a hF => ?_
          refine wl_v hF rfl rfl rfl (c_buildArr hF Try.underlying34 Try.zeroValue34 Try.sizeOf33 rfl rfl rfl rfl) fun a hF => ?_
          refine wl_e hF rfl rfl rfl (c_buildSlice hF hO Try.underlying22 Try.sizeOf34 Try.zeroValue34 rfl rfl rfl rfl rfl rfl rfl) ?_
          rintro a _ w ⟨b2, rfl, hO⟩ hF
          refine wl_e hF rfl rfl rfl (e_appendT (bytes := 96) (r := [(z1, z2)]) hO (i := 4) rfl (hO.rd 0 rfl) Try.underlying22 Try_info34 rfl rfl rfl rfl rfl rfl (hF.eval rfl) (hF.eval rfl) (by show (List.length _ + 1) * 96 ≤ _; omega) (by show List.length _ + 1 ≤ _; omega)) ?_
          rintro a v64 w hO hF
          have hO : St _ _ _ [_, _, _, _, _, _, _, _] := hO
          refine wl_v hF rfl rfl rfl (q_assign rfl (hF.eval rfl)) fun a hF => ?_
          refine wl_nil ?_
          refine b_n ?_
          refine k_n ?_
          refine wp_region_lit ?_
          refine wl_v hF rfl rfl rfl (q_move rfl (hF.eval rfl)) fun a hF => ?_
          refine wl_v hF rfl rfl rfl (q_add rfl (hF.eval rfl) (hF.eval rfl) (by omega)) fun a hF => ?_
          refine wl_v hF rfl rfl rfl (q_assign rfl (hF.eval rfl)) fun a hF => ?_
          refine wl_nil ?_
          refine k_n ?_
          have hO := hO.drop1 0
          have hO := hO.drop1 0
          have hO := hO.drop1 0
          have hO := hO.drop1 0
          have hO : St _ _ _ [_, _, _, _] := hO
          exact ⟨(i + 1, _, qs ++ [(z1, z2)], ts ++ [z1] ++ [z2]), ⟨⟨by omega, by simp; omega, fun q hq9 => (List.mem_append.1 hq9).elim (fun h => by obtain ⟨a1, a2, a3⟩ := hq q h; exact ⟨by simp [a1], by simp [a2], a3⟩) fun h => by rw [List.mem_singleton.1 h]; exact ⟨by simp, by simp, hzz, hc4, hfz⟩⟩, hO, hF.sub ⟨rfl, rfl, rfl, rfl, trivial⟩⟩, by dsimp only; omega⟩
        · skip
          refine wp_skip ?_
          refine b_n ?_
          refine k_n ?_
          refine wp_region_lit ?_
          refine wl_v hF rfl rfl rfl (q_move rfl (hF.eval rfl)) fun a hF => ?_
          refine wl_v hF rfl rfl rfl (q_add rfl (hF.eval rfl) (hF.eval rfl) (by omega)) fun a hF => ?_
          refine wl_v hF rfl rfl rfl (q_assign rfl (hF.eval rfl)) fun a hF => ?_
          refine wl_nil ?_
          refine k_n ?_
          have hO := hO.drop1 0
          have hO := hO.drop1 0
          have hO := hO.drop1 0
          have hO : St _ _ _ [_, _, _, _] := hO
          exact ⟨(i + 1, _, qs, ts ++ [z1] ++ [z2]), ⟨⟨by omega, by omega, fun q hq9 => by obtain ⟨a1, a2, a3⟩ := hq q hq9; exact ⟨by simp [a1], by simp [a2], a3⟩⟩, hO, hF.sub ⟨rfl, rfl, rfl, rfl, trivial⟩⟩, by dsimp only; omega⟩
    · skip
      refine wp_exit ?_
      refine k_x ?_
      refine k_x ?_
      refine b_x ?_
      refine k_n ?_
      refine wp_seq ?_
      refine wp_region_lit ?_
      refine wl_v hF rfl rfl rfl (q_move rfl (hF.eval rfl)) fun a hF => ?_
      refine wl_e hF rfl rfl rfl (c_call hF rfl rfl Try.call9 (unify_r _ _ qs (hO.rdT 0 rfl) (fun q h => ⟨hO.rdNG 1 rfl (hq q h).1, hO.rdNG 1 rfl (hq q h).2.1⟩) (fun q h => ⟨(hq q h).2.2.2.2, by rw [← (hq q h).2.2.1]; exact (hq q h).2.2.2.2⟩) (by omega))) ?_
      rintro a _ w ⟨q2, l2, e2, rfl, hU2, hS⟩ hF
      have hO := hO.call0 hS
      have hO : St _ _ _ [_, _, _, _, _, _] := hO
      obtain ⟨hl2, rfl⟩ := hU2.equals (fun p hp => by obtain ⟨q, h, rfl⟩ := List.mem_map.1 hp; exact (hq q h).2.2.1) (fun p hp => by obtain ⟨q, h, rfl⟩ := List.mem_map.1 hp; exact (hq q h).2.2.2.1)
      have hl0 := nil_er hl2
      refine wl_v hF rfl rfl rfl (q_move rfl (hF.eval rfl)) fun a hF => ?_
      refine wl_v hF rfl rfl rfl (q_extract rfl (hF.eval rfl) rfl) fun a hF => ?_
      refine wl_v hF rfl rfl rfl (q_extract rfl (hF.eval rfl) rfl) fun a hF => ?_
      refine wl_v hF rfl rfl rfl (q_assign rfl (hF.eval rfl)) fun a hF => ?_
      refine wl_v hF rfl rfl rfl (q_assign rfl (hF.eval rfl)) fun a hF => ?_
      refine wl_nil ?_
      refine k_n ?_
      refine wp_seq ?_
      refine wp_region_lit ?_
      refine wl_v hF rfl rfl rfl (q_move rfl (hF.eval rfl)) fun a hF => ?_
      refine wl_v hF rfl rfl rfl (q_eq rfl (hF.eval rfl) (hF.eval rfl)) fun a hF => ?_
      refine wl_v hF rfl rfl rfl (q_move rfl (hF.eval rfl)) fun a hF => ?_
      refine wl_un hF rfl rfl rfl rfl (isB_T rfl) ?_
      refine wl_v hF rfl rfl rfl (q_move rfl (hF.eval rfl)) fun a hF => ?_
      refine wl_un hF rfl rfl rfl rfl (isB_T rfl) ?_
      refine wl_v hF rfl rfl rfl (q_lenRd (hO.rd 0 rfl) Try.underlying23 rfl (hF.eval rfl)) fun a hF => ?_
      refine wl_un hF rfl rfl rfl rfl (isB_T rfl) ?_
      refine wl_v hF rfl rfl rfl (q_eq rfl (hF.eval rfl) (hF.eval rfl)) fun a hF => ?_
      refine wl_v hF rfl rfl rfl (q_and rfl (hF.eval rfl) rfl (fun hg2 => (hF.eval rfl)) rfl) fun a hF => ?_
      refine wl_v hF rfl rfl rfl (q_move rfl (hF.eval rfl)) fun a hF => ?_
      refine wl_un hF rfl rfl rfl rfl (isB_T ⟨rfl, hl0⟩) ?_
      refine wl_e hF rfl rfl rfl (c_call hF rfl rfl Try.call12 (awake_r _)) ?_
      rintro a _ w ⟨rfl, hS⟩ hF
      have hO := hO.call0 hS
      have hO : St _ _ _ [_, _, _, _, _, _] := hO
      refine wl_v hF rfl rfl rfl (q_and rfl (hF.eval rfl) rfl (fun hg2 => (hF.eval rfl)) (dec_b _)) fun a hF => ?_
      refine wl_v hF rfl rfl rfl (q_assign rfl (hF.eval rfl)) fun a hF => ?_
      refine wl_nil ?_
      refine k_n ?_
      refine wp_ret ?_
      refine r_1 hF rfl rfl ?_
      have hO := hO.drop1 0
      have hO := hO.drop1 0
      have hO := hO.drop1 0
      have hO := hO.drop1 0
      have hO := hO.drop1 0
      have hO := hO.drop1 0
      have hO : St _ _ _ [] := hO
      refine ⟨congrArg Value.bool (decide_eq_true ?_), hO⟩
      exact ⟨⟨rfl, hl0⟩, rfl⟩

end Go.Proofs.Ytfkmlcgccffmnaa
