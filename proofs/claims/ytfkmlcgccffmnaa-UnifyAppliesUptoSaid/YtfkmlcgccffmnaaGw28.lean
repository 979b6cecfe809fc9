/- PU4, PLAIN: types that are right, as trees; what makes pairs the same. -/
import Derived.Test.YtfkmlcgccffmnaaPu3
import Derived.LaidEql
namespace Go.Proofs.Ytfkmlcgccffmnaa
open Go
abbrev Nam := List UInt8
inductive RT where
  | var (n : Nam)
  | con (n : Nam)
  | app (a b : RT)
def RT.ty : RT → Ty
  | .var n => .mk 52 n []
  | .con n => .mk 53 n []
  | .app a b => .mk 54 [] [a.ty, b.ty]
def RT.ok : RT → Prop
  | .var n => ¬ n = []
  | .con n => ¬ n = []
  | .app a b => a.ok ∧ b.ok
def RT.nodes : RT → Nat
  | .var _ => 1
  | .con _ => 1
  | .app a b => 1 + a.nodes + b.nodes
theorem RT.pos : ∀ t : RT, 1 ≤ t.nodes
  | .var _ => Nat.le_refl _
  | .con _ => Nat.le_refl _
  | .app a b => by show 1 ≤ 1 + a.nodes + b.nodes; omega
theorem RT.nodes_ty : ∀ t : RT, nodesF t.ty = t.nodes
  | .var _ => rfl
  | .con _ => rfl
  | .app a b => by
    show 1 + (nodesF a.ty + (nodesF b.ty + 0)) = 1 + a.nodes + b.nodes
    rw [RT.nodes_ty a, RT.nodes_ty b]; omega
theorem RT.right : ∀ t : RT, rightF t.ty = true ↔ t.ok
  | .var n => by
    show decide (((52 : Int) = 52 ∨ (52 : Int) = 53) ∧ ¬ n = [] ∧ (([] : List Ty).length : Int) = 0) = true ↔ ¬ n = []
    simp
  | .con n => by
    show decide (((53 : Int) = 52 ∨ (53 : Int) = 53) ∧ ¬ n = [] ∧ (([] : List Ty).length : Int) = 0) = true ↔ ¬ n = []
    simp
  | .app a b => by
    show (decide ((54 : Int) = 54) && decide (([] : Nam) = []) && rightF a.ty && rightF b.ty) = true ↔ a.ok ∧ b.ok
    simp [RT.right a, RT.right b]
theorem right_ex : ∀ t : Ty, rightF t = true → ∃ r : RT, r.ok ∧ t = r.ty := Ty.ind fun k n l ih h => by
  match l, ih, h with
  | [], _, h =>
    have h := of_decide_eq_true h
    rcases h.1 with hk | hk
    · exact ⟨.var n, h.2.1, by rw [hk]; rfl⟩
    · exact ⟨.con n, h.2.1, by rw [hk]; rfl⟩
  | [x], _, h => exact absurd (of_decide_eq_true h).2.2 (by simp)
  | [x, y], ih, h =>
    have h : (decide (k = 54) && decide (n = []) && rightF x && rightF y) = true := h
    rw [Bool.and_eq_true, Bool.and_eq_true, Bool.and_eq_true, decide_eq_true_iff, decide_eq_true_iff] at h
    obtain ⟨⟨⟨h1, h2⟩, h3⟩, h4⟩ := h
    obtain ⟨a, ha, rfl⟩ := ih x (by simp) h3
    obtain ⟨b, hb, rfl⟩ := ih y (by simp) h4
    exact ⟨.app a b, ⟨ha, hb⟩, by rw [h1, h2]; rfl⟩
  | x :: y :: z :: r, _, h => exact absurd (of_decide_eq_true h).2.2 (by simp; omega)
theorem RT.ty_inj : ∀ {a b : RT}, a.ty = b.ty → a = b
  | .var m, .var n, h => by injection h with _ h; rw [h]
  | .con m, .con n, h => by injection h with _ h; rw [h]
  | .app a b, .app c d, h => by
    injection h with _ _ h
    injection h with h1 h2
    injection h2 with h2
    rw [RT.ty_inj h1, RT.ty_inj h2]
  | .var _, .con _, h => by injection h with h; exact absurd h (by decide)
  | .var _, .app _ _, h => by injection h with h; exact absurd h (by decide)
  | .con _, .var _, h => by injection h with h; exact absurd h (by decide)
  | .con _, .app _ _, h => by injection h with h; exact absurd h (by decide)
  | .app _ _, .var _, h => by injection h with h; exact absurd h (by decide)
  | .app _ _, .con _, h => by injection h with h; exact absurd h (by decide)
/-- names of variables -/
def RT.vs : RT → List Nam
  | .var n => [n]
  | .con _ => []
  | .app a b => a.vs ++ b.vs
def RT.sub (σ : Nam → RT) : RT → RT
  | .var n => σ n
  | .con n => .con n
  | .app a b => .app (a.sub σ) (b.sub σ)
theorem RT.sub_ty (σ : Nam → RT) : ∀ t : RT, substF (fun n => (σ n).ty) t.ty = (t.sub σ).ty
  | .var n => rfl
  | .con n => rfl
  | .app a b => by
    show Ty.mk 54 [] [substF _ a.ty, substF _ b.ty] = .mk 54 [] [(a.sub σ).ty, (b.sub σ).ty]
    rw [RT.sub_ty σ a, RT.sub_ty σ b]
theorem RT.sub_ok {σ : Nam → RT} : ∀ {t : RT}, t.ok → (∀ n, ¬ n = [] → (σ n).ok) → (t.sub σ).ok
  | .var n, h, hs => hs n h
  | .con _, h, _ => h
  | .app _ _, h, hs => ⟨RT.sub_ok h.1 hs, RT.sub_ok h.2 hs⟩
theorem RT.sub_congr {σ τ : Nam → RT} : ∀ {t : RT}, (∀ n ∈ t.vs, σ n = τ n) → t.sub σ = t.sub τ
  | .var n, h => h n (by simp [RT.vs])
  | .con _, _ => rfl
  | .app a b, h => by
    show RT.app _ _ = RT.app _ _
    rw [RT.sub_congr (t := a) fun n hn => h n (by simp [RT.vs, hn]), RT.sub_congr (t := b) fun n hn => h n (by simp [RT.vs, hn])]
theorem RT.sub_sub (σ τ : Nam → RT) : ∀ t : RT, (t.sub σ).sub τ = t.sub fun n => (σ n).sub τ
  | .var _ => rfl
  | .con _ => rfl
  | .app a b => by show RT.app _ _ = RT.app _ _; rw [RT.sub_sub σ τ a, RT.sub_sub σ τ b]
theorem RT.sub_var : ∀ t : RT, t.sub .var = t
  | .var _ => rfl
  | .con _ => rfl
  | .app a b => by show RT.app _ _ = _; rw [RT.sub_var a, RT.sub_var b]
theorem RT.sub_in {σ : Nam → RT} : ∀ {t : RT} {n : Nam}, n ∈ t.vs → (σ n).nodes ≤ (t.sub σ).nodes
  | .var m, n, h => by
    obtain rfl := List.mem_singleton.1 h
    exact Nat.le_refl _
  | .con _, n, h => by cases h
  | .app a b, n, h => by
    show _ ≤ 1 + (a.sub σ).nodes + (b.sub σ).nodes
    rcases List.mem_append.1 h with h | h
    · have := RT.sub_in (σ := σ) h; omega
    · have := RT.sub_in (σ := σ) h; omega
/-- what a variable stands in is greater -/
theorem RT.sub_lt {σ : Nam → RT} {a b : RT} {n : Nam} (h : n ∈ a.vs ++ b.vs) : ¬ σ n = (RT.app a b).sub σ := fun e => by
  have h1 : (σ n).nodes = 1 + (a.sub σ).nodes + (b.sub σ).nodes := congrArg RT.nodes e
  rcases List.mem_append.1 h with h | h
  · have := RT.sub_in (σ := σ) h; omega
  · have := RT.sub_in (σ := σ) h; omega

/-! ### Values of types: trees, and trees without end -/
structure Alg (A : Type) where
  con : Nam → A
  app : A → A → A
  con_inj : ∀ {m n}, con m = con n → m = n
  app_inj : ∀ {a b c d}, app a b = app c d → a = c ∧ b = d
  con_app : ∀ {n a b}, ¬ con n = app a b
def RT.ev {A : Type} (G : Alg A) (θ : Nam → A) : RT → A
  | .var n => θ n
  | .con n => G.con n
  | .app a b => G.app (a.ev G θ) (b.ev G θ)
def rtG : Alg RT where
  con := .con
  app := .app
  con_inj h := by injection h
  app_inj h := by injection h with h1 h2; exact ⟨h1, h2⟩
  con_app h := by cases h
theorem ev_rt (θ : Nam → RT) : ∀ t : RT, t.ev rtG θ = t.sub θ
  | .var _ => rfl
  | .con _ => rfl
  | .app a b => by show RT.app _ _ = RT.app _ _; rw [ev_rt θ a, ev_rt θ b]
abbrev IT := List Bool → Option (Nat × Nam)
def itG : Alg IT where
  con n := fun p => match p with | [] => some (1, n) | _ :: _ => none
  app a b := fun p => match p with | [] => some (2, []) | false :: p => a p | true :: p => b p
  con_inj h := by have := congrFun h []; simpa using this
  app_inj h := ⟨funext fun p => congrFun h (false :: p), funext fun p => congrFun h (true :: p)⟩
  con_app h := by have := congrFun h []; simp at this
def itV (n : Nam) : IT := fun p => match p with | [] => some (0, n) | _ :: _ => none
def RT.fin (t : RT) : IT := t.ev itG itV
theorem RT.fin_inj : ∀ {a b : RT}, a.fin = b.fin → a = b
  | .var m, .var n, h => by have := congrFun h []; simp [RT.fin, RT.ev, itV] at this; rw [this]
  | .con m, .con n, h => by have := itG.con_inj h; rw [this]
  | .app a b, .app c d, h => by
    obtain ⟨h1, h2⟩ := itG.app_inj h
    rw [RT.fin_inj h1, RT.fin_inj h2]
  | .var _, .con _, h => by have := congrFun h []; simp [RT.fin, RT.ev, itV, itG] at this
  | .var _, .app _ _, h => by have := congrFun h []; simp [RT.fin, RT.ev, itV, itG] at this
  | .con _, .var _, h => by have := congrFun h []; simp [RT.fin, RT.ev, itV, itG] at this
  | .con _, .app _ _, h => absurd h itG.con_app
  | .app _ _, .var _, h => by have := congrFun h []; simp [RT.fin, RT.ev, itV, itG] at this
  | .app _ _, .con _, h => absurd h.symm itG.con_app
theorem ev_fin (σ : Nam → RT) : ∀ t : RT, t.ev itG (fun n => (σ n).fin) = (t.sub σ).fin
  | .var _ => rfl
  | .con _ => rfl
  | .app a b => by show itG.app _ _ = itG.app _ _; rw [ev_fin σ a, ev_fin σ b]; rfl

/-! ### Pairs -/
abbrev RPs := List (RT × RT)
def Unif {A : Type} (G : Alg A) (θ : Nam → A) (ps : RPs) : Prop := ∀ p ∈ ps, p.1.ev G θ = p.2.ev G θ
/-- the least of all solutions, of equal variables the one of the lesser name -/
structure Canon (ps : RPs) (σ : Nam → RT) : Prop where
  uni : Unif rtG σ ps
  most : ∀ θ, Unif rtG θ ps → ∀ n, θ n = (σ n).sub θ
  least : ∀ m n, σ m = .var n → n ≤ m
theorem Canon.idem {ps : RPs} {σ : Nam → RT} (h : Canon ps σ) (n : Nam) : σ n = (σ n).sub σ := h.most σ h.uni n
theorem canon_aux {σ σ' : Nam → RT} (h1 : ∀ m n, σ m = .var n → n ≤ m) (h2 : ∀ m n, σ' m = .var n → n ≤ m) : ∀ {t : RT}, (t.sub σ).sub σ' = t → t.sub σ = t
  | .var x, h => by
    have h : (σ x).sub σ' = .var x := h
    show σ x = _
    cases hs : σ x with
    | var y =>
      rw [hs] at h
      have h3 := h1 _ _ hs
      have h4 := h2 _ _ h
      rw [List.le_antisymm h3 h4]
    | con y => rw [hs] at h; cases h
    | app a b => rw [hs] at h; cases h
  | .con _, _ => rfl
  | .app a b, h => by
    injection h with h3 h4
    show RT.app _ _ = _
    rw [canon_aux h1 h2 h3, canon_aux h1 h2 h4]
theorem canon_uniq {ps qs : RPs} {σ σ' : Nam → RT} (h : Canon ps σ) (h' : Canon qs σ') (he : ∀ θ, Unif rtG θ ps ↔ Unif rtG θ qs) : σ = σ' := funext fun n => by
  have h1 : σ n = (σ' n).sub σ := h'.most σ ((he σ).1 h.uni) n
  have h2 : σ' n = (σ n).sub σ' := h.most σ' ((he σ').2 h'.uni) n
  rw [h1]
  exact canon_aux h.least h'.least (by rw [← h1, ← h2])
def psVs : RPs → List Nam
  | [] => []
  | p :: r => p.1.vs ++ p.2.vs ++ psVs r
theorem mem_psVs {n : Nam} : ∀ {ps : RPs}, n ∈ psVs ps ↔ ∃ p ∈ ps, n ∈ p.1.vs ∨ n ∈ p.2.vs
  | [] => by simp [psVs]
  | p :: r => by
    show n ∈ p.1.vs ++ p.2.vs ++ psVs r ↔ _
    rw [List.mem_append, List.mem_append, mem_psVs]
    simp
/-- outside of the pairs' variables nothing is put -/
theorem canon_out {ps : RPs} {σ : Nam → RT} (h : Canon ps σ) {n : Nam} (hn : n ∉ psVs ps) : σ n = .var n := by
  -- 'σ' but n to itself solves them too
  have e : ∀ t : RT, n ∉ t.vs → t.sub (fun m => if m = n then .var n else σ m) = t.sub σ := fun t ht => RT.sub_congr fun m hm => if_neg fun (e : m = n) => ht (e ▸ hm)
  have hu : Unif rtG (fun m => if m = n then .var n else σ m) ps := fun p hp => by
    have := fun h => hn (mem_psVs.2 h)
    rw [ev_rt, ev_rt, e p.1 fun h => this ⟨p, hp, .inl h⟩, e p.2 fun h => this ⟨p, hp, .inr h⟩]
    have := h.uni p hp
    rwa [ev_rt, ev_rt] at this
  have h1 := h.most _ hu n
  simp only [if_true] at h1
  cases hs : σ n with
  | con c => rw [hs] at h1; cases h1
  | app a b => rw [hs] at h1; cases h1
  | var m =>
    rw [hs] at h1
    have h1 : RT.var n = if m = n then .var n else σ m := h1
    by_cases e : m = n
    · rw [e]
    · rw [if_neg e] at h1
      have h2 := h.least m n h1.symm
      have h3 := h.least n m hs
      exact absurd (List.le_antisymm h3 h2) e
/-! names, ascending -/
def Asc : List Nam → Prop
  | [] => True
  | x :: l => (∀ y ∈ l, x < y) ∧ Asc l
theorem asc_uniq : ∀ {l r : List Nam}, Asc l → Asc r → (∀ n, n ∈ l ↔ n ∈ r) → l = r
  | [], [], _, _, _ => rfl
  | [], y :: r, _, _, h => absurd ((h y).2 (by simp)) (by simp)
  | x :: l, [], _, _, h => absurd ((h x).1 (by simp)) (by simp)
  | x :: l, y :: r, hl, hr, h => by
    have hxy : x = y := by
      rcases List.mem_cons.1 ((h x).1 (by simp)) with e | h1
      · exact e
      rcases List.mem_cons.1 ((h y).2 (by simp)) with e | h2
      · exact e.symm
      exact absurd (List.lt_trans (hl.1 _ h2) (hr.1 _ h1)) (List.lt_irrefl _)
    subst hxy
    rw [asc_uniq hl.2 hr.2 fun n => ⟨fun hn => ?_, fun hn => ?_⟩]
    · rcases List.mem_cons.1 ((h n).1 (List.mem_cons_of_mem _ hn)) with e | h1
      · exact absurd (e ▸ hl.1 n hn) (List.lt_irrefl _)
      · exact h1
    · rcases List.mem_cons.1 ((h n).2 (List.mem_cons_of_mem _ hn)) with e | h1
      · exact absurd (e ▸ hr.1 n hn) (List.lt_irrefl _)
      · exact h1
/-! ### What is answered -/
abbrev TPs := List (Ty × Ty)
def tysOf : TPs → List Ty
  | [] => []
  | p :: r => p.1 :: p.2 :: tysOf r
def tyPs (rs : RPs) : TPs := rs.map fun p => (p.1.ty, p.2.ty)
def isV : RT → Nam → Bool
  | .var m, n => decide (m = n)
  | _, _ => false
theorem isV_iff {t : RT} {n : Nam} : isV t n = true ↔ t = .var n := by
  cases t with
  | var m => show decide (m = n) = true ↔ _; rw [decide_eq_true_iff, RT.var.injEq]
  | con m => simp [isV]
  | app a b => simp [isV]
def ansL (ns : List Nam) (σ : Nam → RT) : List (Nam × Ty) := (ns.filter fun n => !isV (σ n) n).map fun n => (n, (σ n).ty)
def UniSpec (ps : TPs) (l : List (Nam × Ty)) (e : Int) : Prop :=
  (¬ allF (tysOf ps) 0 = 0 ∧ l = [] ∧ e = allF (tysOf ps) 0) ∨
  (allF (tysOf ps) 0 = 0 ∧ ∃ rs : RPs, ps = tyPs rs ∧
    (((∀ θ, ¬ Unif rtG θ rs) ∧ l = [] ∧ e = 70) ∨
     ∃ σ ns, Canon rs σ ∧ Asc ns ∧ (∀ n, n ∈ ns ↔ n ∈ psVs rs) ∧
      (((∃ n ∈ ns, 1000 < (σ n).nodes) ∧ l = [] ∧ e = 3) ∨ ((∀ n ∈ ns, (σ n).nodes ≤ 1000) ∧ l = ansL ns σ ∧ e = 0))))
theorem tyPs_inj : ∀ {a b : RPs}, tyPs a = tyPs b → a = b
  | [], [], _ => rfl
  | [], _ :: _, h => by simp [tyPs] at h
  | _ :: _, [], h => by simp [tyPs] at h
  | p :: a, q :: b, h => by
    simp only [tyPs, List.map_cons, List.cons.injEq, Prod.mk.injEq] at h
    obtain ⟨⟨h1, h2⟩, h3⟩ := h
    rw [tyPs_inj (a := a) (b := b) h3, show p = q from Prod.ext (RT.ty_inj h1) (RT.ty_inj h2)]
theorem UniSpec.uniq {ps qs : TPs} {l l' : List (Nam × Ty)} {e e' : Int} (h : UniSpec ps l e) (h' : UniSpec qs l' e') (ha : allF (tysOf ps) 0 = allF (tysOf qs) 0)
    (hu : ∀ rs rs', ps = tyPs rs → qs = tyPs rs' → (∀ θ, Unif rtG θ rs ↔ Unif rtG θ rs') ∧ ∀ n, n ∈ psVs rs ↔ n ∈ psVs rs') : l = l' ∧ e = e' := by
  rcases h with ⟨h1, rfl, rfl⟩ | ⟨h1, rs, hp, h⟩
  · rcases h' with ⟨_, rfl, rfl⟩ | ⟨h2, _⟩
    · exact ⟨rfl, ha⟩
    · exact absurd (ha.trans h2) h1
  · rcases h' with ⟨h2, _⟩ | ⟨_, rs', hp', h'⟩
    · exact absurd (ha.symm.trans h1) h2
    · obtain ⟨hu, hv⟩ := hu rs rs' hp hp'
      rcases h with ⟨h2, rfl, rfl⟩ | ⟨σ, ns, hc, ha, hn, h⟩
      · rcases h' with ⟨_, rfl, rfl⟩ | ⟨σ', ns', hc', _⟩
        · exact ⟨rfl, rfl⟩
        · exact absurd ((hu σ').2 hc'.uni) (h2 σ')
      · rcases h' with ⟨h3, _⟩ | ⟨σ', ns', hc', ha', hn', h'⟩
        · exact absurd ((hu σ).1 hc.uni) (h3 σ)
        · obtain rfl := canon_uniq hc hc' hu
          obtain rfl := asc_uniq ha ha' fun n => (hn n).trans ((hv n).trans (hn' n).symm)
          rcases h with ⟨⟨n, h4, h5⟩, rfl, rfl⟩ | ⟨h4, rfl, rfl⟩
          · rcases h' with ⟨_, rfl, rfl⟩ | ⟨h6, _⟩
            · exact ⟨rfl, rfl⟩
            · exact absurd (h6 n h4) (by omega)
          · rcases h' with ⟨⟨n, h6, h7⟩, _⟩ | ⟨_, rfl, rfl⟩
            · exact absurd (h4 n h6) (by omega)
            · exact ⟨rfl, rfl⟩
end Go.Proofs.Ytfkmlcgccffmnaa
namespace Go.Proofs.Ytfkmlcgccffmnaa
open Go
structure Tm where
  kind : Int
  name : Nam
  l : Option Nat
  r : Option Nat
  same : Option Nat
  mark : Int
structure Sto where
  ids : List Nat
  tm : Nat → Tm
def updT {α : Type} (f : Nat → α) (b : Nat) (t : α) : Nat → α := fun c => if c = b then t else f c
theorem updT_eq {α : Type} (f : Nat → α) (b : Nat) (t : α) : updT f b t b = t := if_pos rfl
theorem updT_ne {α : Type} (f : Nat → α) {b c : Nat} (t : α) (h : ¬ c = b) : updT f b t c = f c := if_neg h
section
variable {A : Type} {G : Alg A} {S S' : Sto} {ρ d : Nat → Nat} {τ : Nat → A} {a b i j : Nat}
def Cond (G : Alg A) (t : Tm) (τ : Nat → A) (b : Nat) : Prop :=
  (∀ j, t.same = some j → τ b = τ j) ∧ (t.same = none → (t.kind = 53 → τ b = G.con t.name) ∧ ∀ x y, t.kind = 54 → t.l = some x → t.r = some y → τ b = G.app (τ x) (τ y))
def Sol (G : Alg A) (S : Sto) (τ : Nat → A) : Prop := ∀ b ∈ S.ids, Cond G (S.tm b) τ b
structure WfS (S : Sto) (ρ d : Nat → Nat) : Prop where
  kinds : ∀ b ∈ S.ids, (S.tm b).kind = 52 ∨ (S.tm b).kind = 53 ∨ (S.tm b).kind = 54
  app : ∀ b ∈ S.ids, (S.tm b).kind = 54 → (S.tm b).name = [] ∧ ∃ x y, x ∈ S.ids ∧ y ∈ S.ids ∧ (S.tm b).l = some x ∧ (S.tm b).r = some y
  link : ∀ b ∈ S.ids, ∀ j, (S.tm b).same = some j → j ∈ S.ids ∧ ρ b = ρ j ∧ d j < d b
  root : ∀ b ∈ S.ids, (S.tm b).same = none → ρ b = b
  rep : ∀ b ∈ S.ids, ρ b ∈ S.ids ∧ (S.tm (ρ b)).same = none
  least : ∀ b ∈ S.ids, (S.tm b).kind = 52 → (S.tm (ρ b)).kind = 52 → (S.tm (ρ b)).name ≤ (S.tm b).name
theorem WfS.repr (h : WfS S ρ d) (hb : b ∈ S.ids) : ρ (ρ b) = ρ b := h.root _ (h.rep b hb).1 (h.rep b hb).2
theorem WfS.sol_rep (h : WfS S ρ d) (hs : Sol G S τ) : ∀ (n b : Nat), d b ≤ n → b ∈ S.ids → τ b = τ (ρ b) := fun n => by
  induction n with
  | zero =>
    intro b hn hb
    cases hj : (S.tm b).same with
    | none => rw [h.root b hb hj]
    | some j => have := (h.link b hb j hj).2.2; omega
  | succ n ih =>
    intro b hn hb
    cases hj : (S.tm b).same with
    | none => rw [h.root b hb hj]
    | some j =>
      obtain ⟨h1, h2, h3⟩ := h.link b hb j hj
      rw [(hs b hb).1 j hj, h2]
      exact ih j (by omega) h1
theorem WfS.sol (h : WfS S ρ d) (hs : Sol G S τ) (hb : b ∈ S.ids) : τ b = τ (ρ b) := h.sol_rep hs (d b) b (Nat.le_refl _) hb
/-- a leads to b from here on -/
def setSame (S : Sto) (a b : Nat) : Sto := ⟨S.ids, updT S.tm a { S.tm a with same := some b }⟩
structure Shp (S S' : Sto) : Prop where
  ids : S'.ids = S.ids
  kind : ∀ b, (S'.tm b).kind = (S.tm b).kind
  name : ∀ b, (S'.tm b).name = (S.tm b).name
  l : ∀ b, (S'.tm b).l = (S.tm b).l
  r : ∀ b, (S'.tm b).r = (S.tm b).r
  mark : ∀ b, (S'.tm b).mark = (S.tm b).mark
theorem Shp.refl (S : Sto) : Shp S S := ⟨rfl, fun _ => rfl, fun _ => rfl, fun _ => rfl, fun _ => rfl, fun _ => rfl⟩
theorem Shp.trans {S1 S2 S3 : Sto} (h : Shp S1 S2) (k : Shp S2 S3) : Shp S1 S3 :=
  ⟨k.ids.trans h.ids, fun b => (k.kind b).trans (h.kind b), fun b => (k.name b).trans (h.name b), fun b => (k.l b).trans (h.l b), fun b => (k.r b).trans (h.r b), fun b => (k.mark b).trans (h.mark b)⟩
theorem shp_set (S : Sto) (a b : Nat) : Shp S (setSame S a b) := by
  refine ⟨rfl, fun c => ?_, fun c => ?_, fun c => ?_, fun c => ?_, fun c => ?_⟩ <;>
  · show _ = _
    unfold setSame updT
    dsimp only
    split
    · rename_i e; subst e; rfl
    · rfl
def freeN (S : Sto) : Nat := (S.ids.filter fun b => (S.tm b).same.isNone).length
theorem filter_le {α : Type} {p q : α → Bool} (h : ∀ x, q x = true → p x = true) : ∀ l : List α, (l.filter q).length ≤ (l.filter p).length
  | [] => Nat.le_refl _
  | x :: l => by
    have ih := filter_le h l
    cases hq : q x with
    | true => rw [List.filter_cons_of_pos hq, List.filter_cons_of_pos (h x hq), List.length_cons, List.length_cons]; omega
    | false =>
      rw [List.filter_cons_of_neg (by simp [hq])]
      cases hp : p x with
      | true => rw [List.filter_cons_of_pos hp, List.length_cons]; omega
      | false => rw [List.filter_cons_of_neg (by simp [hp])]; exact ih
theorem filter_lt {α : Type} {p q : α → Bool} (h : ∀ x, q x = true → p x = true) {a : α} (h1 : p a = true) (h2 : q a = false) : ∀ l : List α, a ∈ l → (l.filter q).length < (l.filter p).length
  | x :: l, hm => by
    have hle := filter_le h l
    rcases List.mem_cons.1 hm with rfl | hm
    · rw [List.filter_cons_of_neg (by simp [h2]), List.filter_cons_of_pos h1, List.length_cons]; omega
    · have ih := filter_lt h h1 h2 l hm
      cases hq : q x with
      | true => rw [List.filter_cons_of_pos hq, List.filter_cons_of_pos (h x hq), List.length_cons, List.length_cons]; omega
      | false =>
        rw [List.filter_cons_of_neg (by simp [hq])]
        cases hp : p x with
        | true => rw [List.filter_cons_of_pos hp, List.length_cons]; omega
        | false => rw [List.filter_cons_of_neg (by simp [hp])]; exact ih
theorem free_set (ha : a ∈ S.ids) (h : (S.tm a).same = none) (b : Nat) : freeN (setSame S a b) < freeN S := by
  refine filter_lt (a := a) (fun x hx => ?_) (by simp [h]) ?_ S.ids ha
  · have hx : (((setSame S a b).tm x).same).isNone = true := hx
    by_cases e : x = a
    · subst e; rw [h]; rfl
    · unfold setSame at hx; dsimp only at hx; rw [updT_ne _ _ e] at hx; exact hx
  · show (((setSame S a b).tm a).same).isNone = false
    unfold setSame; dsimp only; rw [updT_eq]; rfl
theorem set_same_eq (S : Sto) (a b : Nat) : ((setSame S a b).tm a).same = some b := by unfold setSame; dsimp only; rw [updT_eq]
theorem set_same_ne (S : Sto) {a c : Nat} (b : Nat) (h : ¬ c = a) : (setSame S a b).tm c = S.tm c := by unfold setSame; dsimp only; rw [updT_ne _ _ h]
theorem WfS.linked (h : WfS S ρ d) (ha : a ∈ S.ids) (hb : b ∈ S.ids) (h1 : (S.tm a).same = none) (h2 : (S.tm b).same = none) (hne : ¬ a = b)
    (hk : (S.tm b).kind = 52 → (S.tm a).kind = 52 ∧ (S.tm b).name ≤ (S.tm a).name) :
    WfS (setSame S a b) (fun c => if ρ c = a then b else ρ c) (fun c => if ρ c = a then d c + d b + 1 else d c) := by
  have hs := shp_set S a b
  have hra := h.root a ha h1
  have hrb := h.root b hb h2
  refine ⟨fun c hc => by rw [hs.kind]; exact h.kinds c hc, fun c hc hk => ?_, fun c hc j hj => ?_, fun c hc hj => ?_, fun c hc => ?_, fun c hc => ?_⟩
  · rw [hs.kind] at hk; rw [hs.name, hs.l, hs.r]; exact h.app c hc hk
  · by_cases e : c = a
    · subst e
      rw [set_same_eq] at hj
      cases hj
      have e2 : ¬ ρ b = c := fun e => hne (e.symm.trans hrb)
      simp only [hra, if_true, e2, if_false]
      exact ⟨hb, hrb.symm, by omega⟩
    · rw [set_same_ne S b e] at hj
      obtain ⟨h3, h4, h5⟩ := h.link c hc j hj
      rw [h4]
      refine ⟨h3, rfl, ?_⟩
      split <;> omega
  · by_cases e : c = a
    · subst e; rw [set_same_eq] at hj; cases hj
    · rw [set_same_ne S b e] at hj
      have := h.root c hc hj
      rw [this, if_neg e]
  · obtain ⟨h3, h4⟩ := h.rep c hc
    by_cases e : ρ c = a
    · rw [if_pos e, set_same_ne S b fun e => hne e.symm]; exact ⟨hb, h2⟩
    · rw [if_neg e, set_same_ne S b e]; exact ⟨h3, h4⟩
  · rw [hs.kind, hs.kind, hs.name, hs.name]
    intro h3 h4
    by_cases e : ρ c = a
    · rw [if_pos e] at h4 ⊢
      obtain ⟨h5, h6⟩ := hk h4
      have := h.least c hc h3 (by rw [e]; exact h5)
      rw [e] at this
      exact List.le_trans h6 this
    · rw [if_neg e] at h4 ⊢
      exact h.least c hc h3 h4
theorem sol_set (ha : a ∈ S.ids) : Sol G (setSame S a b) τ ↔ (∀ c ∈ S.ids, ¬ c = a → Cond G (S.tm c) τ c) ∧ τ a = τ b := by
  constructor
  · intro h
    refine ⟨fun c hc e => ?_, (h a ha).1 b (set_same_eq S a b)⟩
    have := h c hc
    rwa [set_same_ne S b e] at this
  · rintro ⟨h1, h2⟩ c hc
    by_cases e : c = a
    · subst e
      refine ⟨fun j hj => ?_, fun hj => ?_⟩
      · rw [set_same_eq] at hj; cases hj; exact h2
      · rw [set_same_eq] at hj; cases hj
    · rw [set_same_ne S b e]; exact h1 c hc e
theorem sol_split (ha : a ∈ S.ids) : Sol G S τ ↔ (∀ c ∈ S.ids, ¬ c = a → Cond G (S.tm c) τ c) ∧ Cond G (S.tm a) τ a := by
  constructor
  · intro h; exact ⟨fun c hc _ => h c hc, h a ha⟩
  · rintro ⟨h1, h2⟩ c hc
    by_cases e : c = a
    · subst e; exact h2
    · exact h1 c hc e
theorem cond_var {t : Tm} (h1 : t.same = none) (hk : t.kind = 52) : Cond G t τ a := ⟨fun j hj => (by rw [h1] at hj; cases hj), fun _ => ⟨fun h => by omega, fun _ _ h => by omega⟩⟩
theorem cond_con {t : Tm} (h1 : t.same = none) (hk : t.kind = 53) : Cond G t τ a ↔ τ a = G.con t.name :=
  ⟨fun h => (h.2 h1).1 hk, fun h => ⟨fun j hj => (by rw [h1] at hj; cases hj), fun _ => ⟨fun _ => h, fun _ _ h => by omega⟩⟩⟩
theorem cond_app {t : Tm} {x y : Nat} (h1 : t.same = none) (hk : t.kind = 54) (hx : t.l = some x) (hy : t.r = some y) : Cond G t τ a ↔ τ a = G.app (τ x) (τ y) :=
  ⟨fun h => (h.2 h1).2 x y hk hx hy, fun h => ⟨fun j hj => (by rw [h1] at hj; cases hj), fun _ => ⟨fun h => by omega, fun x' y' _ hx' hy' => by
    rw [hx] at hx'; rw [hy] at hy'; cases hx'; cases hy'; exact h⟩⟩⟩
/-- what becomes of two terms that are made the same -/
def EqPost (S : Sto) (i j : Nat) (S' : Sto) (ok : Bool) : Prop := Shp S S' ∧
  (ok = true → (∃ ρ d, WfS S' ρ d) ∧ freeN S' ≤ freeN S ∧ ∀ (A : Type) (G : Alg A) (τ : Nat → A), Sol G S' τ ↔ Sol G S τ ∧ τ i = τ j) ∧
  (ok = false → ∀ (A : Type) (G : Alg A) (τ : Nat → A), Sol G S τ → ¬ τ i = τ j)
theorem WfS.pair (h : WfS S ρ d) (hi : i ∈ S.ids) (hj : j ∈ S.ids) : (Sol G S τ ∧ τ i = τ j) ↔ (Sol G S τ ∧ τ (ρ i) = τ (ρ j)) :=
  ⟨fun ⟨h1, h2⟩ => ⟨h1, by rw [← h.sol h1 hi, ← h.sol h1 hj]; exact h2⟩, fun ⟨h1, h2⟩ => ⟨h1, by rw [h.sol h1 hi, h.sol h1 hj]; exact h2⟩⟩
theorem eq_same (h : WfS S ρ d) (hi : i ∈ S.ids) (hj : j ∈ S.ids) (e : ρ i = ρ j) : EqPost S i j S true :=
  ⟨Shp.refl S, fun _ => ⟨⟨_, _, h⟩, Nat.le_refl _, fun A G τ => ⟨fun hs => ⟨hs, by rw [h.sol hs hi, h.sol hs hj, e]⟩, fun h => h.1⟩⟩, fun h => by cases h⟩
/-- a variable leads on -/
theorem eq_var (h : WfS S ρ d) (hi : i ∈ S.ids) (hj : j ∈ S.ids) (e : ¬ ρ i = ρ j) (hk : (S.tm (ρ i)).kind = 52) (hk2 : (S.tm (ρ j)).kind = 52 → (S.tm (ρ j)).name ≤ (S.tm (ρ i)).name) : EqPost S i j (setSame S (ρ i) (ρ j)) true := by
  obtain ⟨ha, ha1⟩ := h.rep i hi
  obtain ⟨hb, hb1⟩ := h.rep j hj
  refine ⟨shp_set _ _ _, fun _ => ⟨⟨_, _, h.linked ha hb ha1 hb1 e fun hk3 => ⟨hk, hk2 hk3⟩⟩, Nat.le_of_lt (free_set ha ha1 _), fun A G τ => ?_⟩, fun h => by cases h⟩
  rw [h.pair hi hj, sol_set ha, sol_split ha]
  exact ⟨fun h => ⟨⟨h.1, cond_var ha1 hk⟩, h.2⟩, fun h => ⟨h.1.1, h.2⟩⟩
theorem EqPost.symm {ok : Bool} (h : EqPost S i j S' ok) : EqPost S j i S' ok := by
  obtain ⟨h1, h2, h3⟩ := h
  refine ⟨h1, fun e => ?_, fun e A G τ hs e2 => h3 e A G τ hs e2.symm⟩
  obtain ⟨h4, h5, h6⟩ := h2 e
  exact ⟨h4, h5, fun A G τ => by rw [h6 A G τ, eq_comm (a := τ i)]⟩
theorem eq_no (h : WfS S ρ d) (hi : i ∈ S.ids) (hj : j ∈ S.ids) (hk : ¬ (S.tm (ρ i)).kind = 52) (hk2 : ¬ (S.tm (ρ j)).kind = 52)
    (hn : ¬ (S.tm (ρ i)).kind = (S.tm (ρ j)).kind ∨ ¬ (S.tm (ρ i)).name = (S.tm (ρ j)).name) : EqPost S i j S false := by
  obtain ⟨ha, ha1⟩ := h.rep i hi
  obtain ⟨hb, hb1⟩ := h.rep j hj
  refine ⟨Shp.refl S, fun h => (by cases h), fun _ A G τ hs e => ?_⟩
  have e : τ (ρ i) = τ (ρ j) := ((h.pair hi hj).1 ⟨hs, e⟩).2
  have ca := hs _ ha
  have cb := hs _ hb
  rcases h.kinds _ ha with k1 | k1 | k1
  · exact hk k1
  · rw [cond_con ha1 k1] at ca
    rcases h.kinds _ hb with k2 | k2 | k2
    · exact hk2 k2
    · rw [cond_con hb1 k2] at cb
      rcases hn with hn | hn
      · exact hn (k1.trans k2.symm)
      · exact hn (G.con_inj (ca.symm.trans (e.trans cb)))
    · obtain ⟨_, x, y, _, _, hx, hy⟩ := h.app _ hb k2
      rw [cond_app hb1 k2 hx hy] at cb
      exact G.con_app (ca.symm.trans (e.trans cb))
  · obtain ⟨n1, x, y, _, _, hx, hy⟩ := h.app _ ha k1
    rw [cond_app ha1 k1 hx hy] at ca
    rcases h.kinds _ hb with k2 | k2 | k2
    · exact hk2 k2
    · rw [cond_con hb1 k2] at cb
      exact G.con_app (cb.symm.trans (e.symm.trans ca))
    · obtain ⟨n2, _⟩ := h.app _ hb k2
      rcases hn with hn | hn
      · exact hn (k1.trans k2.symm)
      · exact hn (n1.trans n2.symm)
theorem eq_con (h : WfS S ρ d) (hi : i ∈ S.ids) (hj : j ∈ S.ids) (e : ¬ ρ i = ρ j) (hk : (S.tm (ρ i)).kind = 53) (hk2 : (S.tm (ρ j)).kind = 53) (hn : (S.tm (ρ i)).name = (S.tm (ρ j)).name) : EqPost S i j (setSame S (ρ i) (ρ j)) true := by
  obtain ⟨ha, ha1⟩ := h.rep i hi
  obtain ⟨hb, hb1⟩ := h.rep j hj
  refine ⟨shp_set _ _ _, fun _ => ⟨⟨_, _, h.linked ha hb ha1 hb1 e fun hk3 => by omega⟩, Nat.le_of_lt (free_set ha ha1 _), fun A G τ => ?_⟩, fun h => by cases h⟩
  rw [h.pair hi hj, sol_set ha, sol_split ha, cond_con ha1 hk]
  refine ⟨fun h => ⟨⟨h.1, ?_⟩, h.2⟩, fun h => ⟨h.1.1, h.2⟩⟩
  rw [h.2, hn]
  exact (cond_con hb1 hk2).1 (h.1 _ hb fun e2 => e e2.symm)
/-- two applications: the first leads to the second; then their parts -/
theorem eq_app {x y x' y' : Nat} {S1 S2 : Sto} {ok1 ok2 : Bool} (h : WfS S ρ d) (hi : i ∈ S.ids) (hj : j ∈ S.ids) (e : ¬ ρ i = ρ j) (hk : (S.tm (ρ i)).kind = 54) (hk2 : (S.tm (ρ j)).kind = 54)
    (hx : (S.tm (ρ i)).l = some x) (hy : (S.tm (ρ i)).r = some y) (hx' : (S.tm (ρ j)).l = some x') (hy' : (S.tm (ρ j)).r = some y')
    (h1 : EqPost (setSame S (ρ i) (ρ j)) x x' S1 ok1) (h2 : ok1 = true → EqPost S1 y y' S2 ok2) (h3 : ok1 = false → S2 = S1 ∧ ok2 = false) : EqPost S i j S2 ok2 := by
  obtain ⟨ha, ha1⟩ := h.rep i hi
  obtain ⟨hb, hb1⟩ := h.rep j hj
  have hsh := shp_set S (ρ i) (ρ j)
  have hfr := free_set ha ha1 (ρ j)
  have key : ∀ (A : Type) (G : Alg A) (τ : Nat → A), (Sol G S τ ∧ τ i = τ j) ↔ (Sol G (setSame S (ρ i) (ρ j)) τ ∧ τ x = τ x') ∧ τ y = τ y' := fun A G τ => by
    rw [h.pair hi hj, sol_set ha, sol_split ha, cond_app ha1 hk hx hy]
    have cb : (∀ c ∈ S.ids, ¬ c = ρ i → Cond G (S.tm c) τ c) → τ (ρ j) = G.app (τ x') (τ y') := fun hc => (cond_app hb1 hk2 hx' hy').1 (hc _ hb fun e2 => e e2.symm)
    constructor
    · rintro ⟨⟨h5, h6⟩, h7⟩
      have := G.app_inj (h6.symm.trans (h7.trans (cb h5)))
      exact ⟨⟨⟨h5, h7⟩, this.1⟩, this.2⟩
    · rintro ⟨⟨⟨h5, h6⟩, h7⟩, h8⟩
      exact ⟨⟨h5, by rw [h6, cb h5, h7, h8]⟩, h6⟩
  obtain ⟨s1, t1, f1⟩ := h1
  cases hok : ok1 with
  | false =>
    obtain ⟨rfl, rfl⟩ := h3 hok
    refine ⟨hsh.trans s1, fun h => (by cases h), fun _ A G τ hs e2 => ?_⟩
    have := (key A G τ).1 ⟨hs, e2⟩
    exact f1 hok A G τ this.1.1 this.1.2
  | true =>
    obtain ⟨w1, l1, q1⟩ := t1 hok
    obtain ⟨s2, t2, f2⟩ := h2 hok
    refine ⟨(hsh.trans s1).trans s2, fun h => ?_, fun h A G τ hs e2 => ?_⟩
    · obtain ⟨w2, l2, q2⟩ := t2 h
      refine ⟨w2, by omega, fun A G τ => ?_⟩
      rw [q2 A G τ, q1 A G τ, key A G τ]
    · have := (key A G τ).1 ⟨hs, e2⟩
      exact f2 h A G τ ((q1 A G τ).2 this.1) this.2
end
end Go.Proofs.Ytfkmlcgccffmnaa
namespace Go.Proofs.Ytfkmlcgccffmnaa
open Go
section
variable {A : Type} {G : Alg A} {S S' S1 S2 : Sto} {ρ d : Nat → Nat} {τ : Nat → A} {a b i j : Nat} {vm vm' vm1 vm2 : Nam → Option Nat}
/-! ### New terms -/
def newT (S : Sto) (b : Nat) (t : Tm) : Sto := ⟨S.ids ++ [b], updT S.tm b t⟩
structure Sub (S S' : Sto) : Prop where
  ids : ∀ b ∈ S.ids, b ∈ S'.ids
  tm : ∀ b ∈ S.ids, S'.tm b = S.tm b
theorem Sub.refl (S : Sto) : Sub S S := ⟨fun _ h => h, fun _ _ => rfl⟩
theorem Sub.trans (h : Sub S S1) (k : Sub S1 S2) : Sub S S2 := ⟨fun b hb => k.ids b (h.ids b hb), fun b hb => (k.tm b (h.ids b hb)).trans (h.tm b hb)⟩
theorem nin {l : List Nat} {b c : Nat} (hb : b ∉ l) (hc : c ∈ l) : ¬ c = b := fun e => hb (e ▸ hc)
theorem sub_new (hb : b ∉ S.ids) (t : Tm) : Sub S (newT S b t) := ⟨fun c hc => List.mem_append_left _ hc, fun c hc => updT_ne _ _ (nin hb hc)⟩
theorem new_at (S : Sto) (b : Nat) (t : Tm) : (newT S b t).tm b = t := updT_eq _ _ _
theorem Sub.sol (h : Sub S S') (hs : Sol G S' τ) : Sol G S τ := fun b hb => by
  have := hs b (h.ids b hb)
  rwa [h.tm b hb] at this
theorem sol_new (hb : b ∉ S.ids) (t : Tm) : Sol G (newT S b t) τ ↔ Sol G S τ ∧ Cond G t τ b := by
  constructor
  · intro h
    refine ⟨(sub_new hb t).sol h, ?_⟩
    have := h b (List.mem_append_right _ (List.mem_singleton.2 rfl))
    rwa [new_at] at this
  · rintro ⟨h1, h2⟩ c hc
    rcases List.mem_append.1 hc with hc | hc
    · rw [(sub_new hb t).tm c hc]; exact h1 c hc
    · obtain rfl := List.mem_singleton.1 hc
      rw [new_at]; exact h2
theorem WfS.new (h : WfS S ρ d) (hb : b ∉ S.ids) {t : Tm} (hs : t.same = none) (hk : t.kind = 52 ∨ t.kind = 53 ∨ t.kind = 54)
    (ha : t.kind = 54 → t.name = [] ∧ ∃ x y, x ∈ S.ids ∧ y ∈ S.ids ∧ t.l = some x ∧ t.r = some y) : WfS (newT S b t) (updT ρ b b) d := by
  have hsub := sub_new hb t
  have hne : ∀ c ∈ S.ids, ¬ c = b := fun c hc e => hb (e ▸ hc)
  have hbm : b ∈ (newT S b t).ids := List.mem_append_right _ (List.mem_singleton.2 rfl)
  have split : ∀ c ∈ (newT S b t).ids, c ∈ S.ids ∨ c = b := fun c hc => (List.mem_append.1 hc).imp id List.mem_singleton.1
  refine ⟨fun c hc => ?_, fun c hc hk => ?_, fun c hc j hj => ?_, fun c hc hj => ?_, fun c hc => ?_, fun c hc => ?_⟩ <;> rcases split c hc with hc | rfl
  · rw [hsub.tm c hc]; exact h.kinds c hc
  · rw [new_at]; exact hk
  · rw [hsub.tm c hc] at hk ⊢
    obtain ⟨h1, x, y, h2, h3, h4⟩ := h.app c hc hk
    exact ⟨h1, x, y, hsub.ids x h2, hsub.ids y h3, h4⟩
  · rw [new_at] at hk ⊢
    obtain ⟨h1, x, y, h2, h3, h4⟩ := ha hk
    exact ⟨h1, x, y, hsub.ids x h2, hsub.ids y h3, h4⟩
  · rw [hsub.tm c hc] at hj
    obtain ⟨h1, h2, h3⟩ := h.link c hc j hj
    rw [updT_ne _ _ (hne c hc), updT_ne _ _ (hne j h1)]
    exact ⟨hsub.ids j h1, h2, h3⟩
  · rw [new_at, hs] at hj; cases hj
  · rw [hsub.tm c hc] at hj
    rw [updT_ne _ _ (hne c hc)]; exact h.root c hc hj
  · rw [updT_eq]
  · rw [updT_ne _ _ (hne c hc)]
    obtain ⟨h1, h2⟩ := h.rep c hc
    rw [hsub.tm _ h1]
    exact ⟨hsub.ids _ h1, h2⟩
  · rw [updT_eq, new_at]; exact ⟨hbm, hs⟩
  · rw [updT_ne _ _ (hne c hc), hsub.tm _ (h.rep c hc).1, hsub.tm c hc]
    exact h.least c hc
  · rw [updT_eq]; intro _ _; exact List.le_refl _
/-- variables' terms -/
structure VmOk (S : Sto) (vm : Nam → Option Nat) : Prop where
  to : ∀ n b, vm n = some b → b ∈ S.ids ∧ (S.tm b).kind = 52 ∧ (S.tm b).name = n
  back : ∀ b ∈ S.ids, (S.tm b).kind = 52 → vm (S.tm b).name = some b
  mark : ∀ b ∈ S.ids, (S.tm b).mark = 0
def Put (vm : Nam → Option Nat) (τ : Nat → A) (θ : Nam → A) : Prop := ∀ n b, vm n = some b → τ b = θ n
structure RdPost (S : Sto) (vm : Nam → Option Nat) (t : RT) (S' : Sto) (vm' : Nam → Option Nat) (b : Nat) : Prop where
  wf : ∃ ρ d, WfS S' ρ d
  sub : Sub S S'
  mem : b ∈ S'.ids
  ok : VmOk S' vm'
  ext : ∀ n c, vm n = some c → vm' n = some c
  dom : ∀ n, vm' n = none ↔ vm n = none ∧ n ∉ t.vs
  one : ∀ (A : Type) (G : Alg A) (τ : Nat → A) (θ : Nam → A), Sol G S' τ → Put vm' τ θ → τ b = t.ev G θ
  all : ∀ (A : Type) (G : Alg A) (τ : Nat → A) (θ : Nam → A), Sol G S τ → Put vm τ θ → ∃ τ', (∀ c ∈ S.ids, τ' c = τ c) ∧ Sol G S' τ' ∧ Put vm' τ' θ
theorem VmOk.new (h : VmOk S vm) (hb : b ∉ S.ids) {t : Tm} (hk : ¬ t.kind = 52) (hm : t.mark = 0) : VmOk (newT S b t) vm := by
  have hsub := sub_new hb t
  refine ⟨fun n c hc => ?_, fun c hc hk2 => ?_, fun c hc => ?_⟩
  · obtain ⟨h1, h2, h3⟩ := h.to n c hc
    rw [hsub.tm c h1]; exact ⟨hsub.ids c h1, h2, h3⟩
  · rcases List.mem_append.1 hc with hc | hc
    · rw [hsub.tm c hc] at hk2 ⊢; exact h.back c hc hk2
    · obtain rfl := List.mem_singleton.1 hc
      rw [new_at] at hk2; exact absurd hk2 hk
  · rcases List.mem_append.1 hc with hc | hc
    · rw [hsub.tm c hc]; exact h.mark c hc
    · obtain rfl := List.mem_singleton.1 hc
      rw [new_at]; exact hm
theorem read_old (hw : WfS S ρ d) (hv : VmOk S vm) {n : Nam} (hn : vm n = some b) : RdPost S vm (.var n) S vm b :=
  ⟨⟨_, _, hw⟩, Sub.refl S, (hv.to n b hn).1, hv, fun _ _ h => h, fun m => ⟨fun h => ⟨h, fun hm => (by
    obtain rfl := List.mem_singleton.1 hm
    rw [hn] at h; cases h)⟩, fun h => h.1⟩, fun A G τ θ _ hp => hp n b hn, fun A G τ θ hs hp => ⟨τ, fun _ _ => rfl, hs, hp⟩⟩
theorem read_new (hw : WfS S ρ d) (hv : VmOk S vm) {n : Nam} (hn : vm n = none) (hb : b ∉ S.ids) {t : Tm} (ht : t = ⟨52, n, none, none, none, 0⟩) : RdPost S vm (.var n) (newT S b t) (fun m => if m = n then some b else vm m) b := by
  have hsub := sub_new hb t
  have hmem : b ∈ (newT S b t).ids := List.mem_append_right _ (List.mem_singleton.2 rfl)
  have hne : ∀ m c, vm m = some c → ¬ m = n := fun m c hm e => by rw [e, hn] at hm; cases hm
  refine ⟨⟨_, _, hw.new hb (t := t) (by rw [ht]) (by rw [ht]; exact .inl rfl) (by rw [ht]; intro h; cases h)⟩, hsub, hmem, ⟨fun m c hc => ?_, fun c hc hk => ?_, fun c hc => ?_⟩, fun m c hm => ?_, fun m => ?_, fun A G τ θ _ hp => hp n b (if_pos rfl), fun A G τ θ hs hp => ⟨updT τ b (θ n), fun c hc => updT_ne _ _ (nin hb hc), ?_, fun m c hc => ?_⟩⟩
  · by_cases e : m = n
    · subst e
      rw [if_pos rfl] at hc
      cases hc
      rw [new_at, ht]; exact ⟨hmem, rfl, rfl⟩
    · rw [if_neg e] at hc
      obtain ⟨h1, h2, h3⟩ := hv.to m c hc
      rw [hsub.tm c h1]; exact ⟨hsub.ids c h1, h2, h3⟩
  · rcases List.mem_append.1 hc with hc | hc
    · rw [hsub.tm c hc] at hk ⊢
      have h1 := hv.back c hc hk
      rw [if_neg (hne _ _ h1)]; exact h1
    · obtain rfl := List.mem_singleton.1 hc
      rw [new_at, ht]; exact if_pos rfl
  · rcases List.mem_append.1 hc with hc | hc
    · rw [hsub.tm c hc]; exact hv.mark c hc
    · obtain rfl := List.mem_singleton.1 hc
      rw [new_at, ht]
  · show (if m = n then some b else vm m) = some c
    rw [if_neg (hne m c hm)]; exact hm
  · show (if m = n then some b else vm m) = none ↔ vm m = none ∧ m ∉ [n]
    by_cases e : m = n
    · rw [if_pos e]; exact ⟨fun h => (by cases h), fun h => absurd (List.mem_singleton.2 e) h.2⟩
    · rw [if_neg e]; exact ⟨fun h => ⟨h, fun hm => e (List.mem_singleton.1 hm)⟩, fun h => h.1⟩
  · rw [sol_new hb]
    refine ⟨fun c hc => ?_, cond_var (by rw [ht]) (by rw [ht])⟩
    have hcb : ¬ c = b := (nin hb hc)
    obtain ⟨h1, h2⟩ := hs c hc
    refine ⟨fun j hj => ?_, fun hj => ⟨fun hk => ?_, fun x y hk hx hy => ?_⟩⟩
    · obtain ⟨hj2, _, _⟩ := hw.link c hc j hj
      rw [updT_ne _ _ hcb, updT_ne _ _ (nin hb hj2)]; exact h1 j hj
    · rw [updT_ne _ _ hcb]; exact (h2 hj).1 hk
    · obtain ⟨_, x', y', hx2, hy2, hx3, hy3⟩ := hw.app c hc hk
      rw [hx] at hx3; rw [hy] at hy3; cases hx3; cases hy3
      rw [updT_ne _ _ hcb, updT_ne _ _ (nin hb hx2), updT_ne _ _ (nin hb hy2)]
      exact (h2 hj).2 x y hk hx hy
  · have hc : (if m = n then some b else vm m) = some c := hc
    by_cases e : m = n
    · rw [if_pos e] at hc; cases hc; rw [updT_eq, e]
    · rw [if_neg e] at hc
      rw [updT_ne _ _ (nin hb ((hv.to m c hc).1))]; exact hp m c hc
/-- a value for the new term -/
theorem sol_ext (hw : WfS S ρ d) (hb : b ∉ S.ids) (hs : Sol G S τ) (u : A) : Sol G S (updT τ b u) := fun c hc => by
  have hcb : ¬ c = b := (nin hb hc)
  obtain ⟨h1, h2⟩ := hs c hc
  refine ⟨fun j hj => ?_, fun hj => ⟨fun hk => ?_, fun x y hk hx hy => ?_⟩⟩
  · obtain ⟨hj2, _, _⟩ := hw.link c hc j hj
    rw [updT_ne _ _ hcb, updT_ne _ _ (nin hb hj2)]; exact h1 j hj
  · rw [updT_ne _ _ hcb]; exact (h2 hj).1 hk
  · obtain ⟨_, x', y', hx2, hy2, hx3, hy3⟩ := hw.app c hc hk
    rw [hx] at hx3; rw [hy] at hy3; cases hx3; cases hy3
    rw [updT_ne _ _ hcb, updT_ne _ _ (nin hb hx2), updT_ne _ _ (nin hb hy2)]
    exact (h2 hj).2 x y hk hx hy
theorem put_ext (hv : VmOk S vm) (hb : b ∉ S.ids) {θ : Nam → A} (hp : Put vm τ θ) (u : A) : Put vm (updT τ b u) θ := fun m c hc => by
  rw [updT_ne _ _ (nin hb ((hv.to m c hc).1))]; exact hp m c hc
theorem read_con (hw : WfS S ρ d) (hv : VmOk S vm) {n : Nam} (hb : b ∉ S.ids) {t : Tm} (ht : t = ⟨53, n, none, none, none, 0⟩) : RdPost S vm (.con n) (newT S b t) vm b := by
  have hsub := sub_new hb t
  have hmem : b ∈ (newT S b t).ids := List.mem_append_right _ (List.mem_singleton.2 rfl)
  refine ⟨⟨_, _, hw.new hb (t := t) (by rw [ht]) (by rw [ht]; exact .inr (.inl rfl)) (by rw [ht]; intro h; cases h)⟩, hsub, hmem, hv.new hb (by rw [ht]; intro h; cases h) (by rw [ht]), fun _ _ h => h, fun m => ⟨fun h => ⟨h, by simp [RT.vs]⟩, fun h => h.1⟩, fun A G τ θ hs _ => ?_, fun A G τ θ hs hp => ⟨updT τ b (G.con n), fun c hc => updT_ne _ _ (nin hb hc), ?_, put_ext hv hb hp _⟩⟩
  · have := ((sol_new hb t).1 hs).2
    rw [cond_con (by rw [ht]) (by rw [ht]), ht] at this
    exact this
  · rw [sol_new hb]
    refine ⟨sol_ext hw hb hs _, ?_⟩
    rw [cond_con (by rw [ht]) (by rw [ht]), ht]; exact updT_eq _ _ _
theorem read_app {s u : RT} {x y : Nat} (h1 : RdPost S vm s S1 vm1 x) (h2 : RdPost S1 vm1 u S2 vm2 y) (hb : b ∉ S2.ids) {t : Tm} (ht : t = ⟨54, [], some x, some y, none, 0⟩) : RdPost S vm (.app s u) (newT S2 b t) vm2 b := by
  have hsub := sub_new hb t
  have hmem : b ∈ (newT S2 b t).ids := List.mem_append_right _ (List.mem_singleton.2 rfl)
  obtain ⟨ρ, d, hw⟩ := h2.wf
  have hx := h2.sub.ids x h1.mem
  have hy := h2.mem
  refine ⟨⟨_, _, hw.new hb (t := t) (by rw [ht]) (by rw [ht]; exact .inr (.inr rfl)) (by rw [ht]; exact fun _ => ⟨rfl, x, y, hx, hy, rfl, rfl⟩)⟩, (h1.sub.trans h2.sub).trans hsub, hmem, h2.ok.new hb (by rw [ht]; intro h; cases h) (by rw [ht]), fun n c h => h2.ext n c (h1.ext n c h), fun m => ?_, fun A G τ θ hs hp => ?_, fun A G τ θ hs hp => ?_⟩
  · rw [h2.dom, h1.dom]
    simp [RT.vs, and_assoc]
  · obtain ⟨s2, c2⟩ := (sol_new hb t).1 hs
    rw [cond_app (x := x) (y := y) (by rw [ht]) (by rw [ht]) (by rw [ht]) (by rw [ht])] at c2
    rw [c2, h2.one A G τ θ s2 hp, h1.one A G τ θ (h2.sub.sol s2) fun n c hc => hp n c (h2.ext n c hc)]
    rfl
  · obtain ⟨τ1, e1, s1, p1⟩ := h1.all A G τ θ hs hp
    obtain ⟨τ2, e2, s2, p2⟩ := h2.all A G τ1 θ s1 p1
    have hxb : ¬ x = b := (nin hb hx)
    have hyb : ¬ y = b := (nin hb hy)
    refine ⟨updT τ2 b (G.app (τ2 x) (τ2 y)), fun c hc => ?_, ?_, put_ext h2.ok hb p2 _⟩
    · have hc1 := h1.sub.ids c hc
      rw [updT_ne _ _ (nin hb (h2.sub.ids c hc1)), e2 c hc1, e1 c hc]
    · rw [sol_new hb]
      refine ⟨sol_ext hw hb s2 _, ?_⟩
      rw [cond_app (x := x) (y := y) (by rw [ht]) (by rw [ht]) (by rw [ht]) (by rw [ht]), updT_eq, updT_ne _ _ hxb, updT_ne _ _ hyb]
/-! ### Pair by pair -/
structure UInv (S : Sto) (vm : Nam → Option Nat) (ps : RPs) : Prop where
  wf : ∃ ρ d, WfS S ρ d
  ok : VmOk S vm
  dom : ∀ n, vm n = none ↔ n ∉ psVs ps
  one : ∀ (A : Type) (G : Alg A) (τ : Nat → A) (θ : Nam → A), Sol G S τ → Put vm τ θ → Unif G θ ps
  all : ∀ (A : Type) (G : Alg A) (θ : Nam → A), Unif G θ ps → ∃ τ, Sol G S τ ∧ Put vm τ θ
theorem UInv.start (f : Nat → Tm) : UInv ⟨[], f⟩ (fun _ => none) [] where
  wf := ⟨id, id, ⟨fun _ h => (by cases h), fun _ h => (by cases h), fun _ h => (by cases h), fun _ h => (by cases h), fun _ h => (by cases h), fun _ h => (by cases h)⟩⟩
  ok := ⟨fun _ _ h => (by cases h), fun _ h => (by cases h), fun _ h => (by cases h)⟩
  dom n := by simp [psVs]
  one A G τ θ _ _ p hp := by cases hp
  all A G θ _ := ⟨fun _ => θ [], fun _ h => (by cases h), fun _ _ h => (by cases h)⟩
theorem psVs_app : ∀ (a b : RPs), psVs (a ++ b) = psVs a ++ psVs b
  | [], b => rfl
  | p :: a, b => by show p.1.vs ++ p.2.vs ++ psVs (a ++ b) = p.1.vs ++ p.2.vs ++ psVs a ++ psVs b; rw [psVs_app a b]; simp
theorem unif_app {θ : Nam → A} {a b : RPs} : Unif G θ (a ++ b) ↔ Unif G θ a ∧ Unif G θ b :=
  ⟨fun h => ⟨fun p hp => h p (List.mem_append_left _ hp), fun p hp => h p (List.mem_append_right _ hp)⟩, fun h p hp => (List.mem_append.1 hp).elim (h.1 p) (h.2 p)⟩
theorem unif_one {θ : Nam → A} {p : RT × RT} : Unif G θ [p] ↔ p.1.ev G θ = p.2.ev G θ :=
  ⟨fun h => h p (by simp), fun h q hq => by rw [List.mem_singleton.1 hq]; exact h⟩
theorem put_shp {θ : Nam → A} (h : Put vm2 τ θ) (he : ∀ n c, vm n = some c → vm2 n = some c) : Put vm τ θ := fun n c hc => h n c (he n c hc)
theorem VmOk.shp (h : VmOk S vm) (k : Shp S S') : VmOk S' vm :=
  ⟨fun n b hn => by rw [k.ids, k.kind, k.name]; exact h.to n b hn, fun b hb hk => by rw [k.ids] at hb; rw [k.kind] at hk; rw [k.name]; exact h.back b hb hk, fun b hb => by rw [k.ids] at hb; rw [k.mark]; exact h.mark b hb⟩
theorem UInv.next0 {p : RT × RT} {ps : RPs} {S3 : Sto} (h : UInv S vm ps) (h1 : RdPost S vm p.1 S1 vm1 i) (h2 : RdPost S1 vm1 p.2 S2 vm2 j) (sh : Shp S2 S3) (w3 : ∃ ρ d, WfS S3 ρ d) (q : ∀ (A : Type) (G : Alg A) (τ : Nat → A), Sol G S3 τ ↔ Sol G S2 τ ∧ τ i = τ j) : UInv S3 vm2 (ps ++ [p]) := by
  have hs21 : ∀ {A : Type} {G : Alg A} {τ : Nat → A}, Sol G S2 τ → Sol G S τ := fun hs => h1.sub.sol (h2.sub.sol hs)
  refine ⟨w3, h2.ok.shp sh, fun n => ?_, fun A G τ θ hs hp => ?_, fun A G θ hu => ?_⟩
  · rw [h2.dom, h1.dom, h.dom, psVs_app]
    simp [psVs, and_assoc]
  · obtain ⟨s2, e⟩ := (q A G τ).1 hs
    have p1 := put_shp hp h2.ext
    rw [unif_app, unif_one]
    refine ⟨h.one A G τ θ (hs21 s2) (put_shp p1 h1.ext), ?_⟩
    rw [← h1.one A G τ θ (h2.sub.sol s2) p1, ← h2.one A G τ θ s2 hp]; exact e
  · rw [unif_app, unif_one] at hu
    obtain ⟨τ, s, pp⟩ := h.all A G θ hu.1
    obtain ⟨τ1, e1, s1, p1⟩ := h1.all A G τ θ s pp
    obtain ⟨τ2, e2, s2, p2⟩ := h2.all A G τ1 θ s1 p1
    refine ⟨τ2, (q A G τ2).2 ⟨s2, ?_⟩, p2⟩
    rw [h1.one A G τ2 θ (h2.sub.sol s2) (put_shp p2 h2.ext), h2.one A G τ2 θ s2 p2]; exact hu.2
theorem UInv.next {p : RT × RT} {ps : RPs} {S3 : Sto} (h : UInv S vm ps) (h1 : RdPost S vm p.1 S1 vm1 i) (h2 : RdPost S1 vm1 p.2 S2 vm2 j) (h3 : EqPost S2 i j S3 true) : UInv S3 vm2 (ps ++ [p]) :=
  h.next0 h1 h2 h3.1 (h3.2.1 rfl).1 (h3.2.1 rfl).2.2
theorem UInv.stop0 {p : RT × RT} {ps rest : RPs} (h : UInv S vm ps) (h1 : RdPost S vm p.1 S1 vm1 i) (h2 : RdPost S1 vm1 p.2 S2 vm2 j) (h3 : ∀ τ : Nat → RT, Sol rtG S2 τ → ¬ τ i = τ j) (θ : Nam → RT) : ¬ Unif rtG θ (ps ++ p :: rest) := fun hu => by
  have hu : Unif rtG θ (ps ++ ([p] ++ rest)) := hu
  rw [unif_app, unif_app, unif_one] at hu
  obtain ⟨τ, s, pp⟩ := h.all RT rtG θ hu.1
  obtain ⟨τ1, e1, s1, p1⟩ := h1.all RT rtG τ θ s pp
  obtain ⟨τ2, e2, s2, p2⟩ := h2.all RT rtG τ1 θ s1 p1
  refine h3 τ2 s2 ?_
  rw [h1.one RT rtG τ2 θ (h2.sub.sol s2) (put_shp p2 h2.ext), h2.one RT rtG τ2 θ s2 p2]; exact hu.2.1
theorem UInv.stop {p : RT × RT} {ps rest : RPs} {S3 : Sto} (h : UInv S vm ps) (h1 : RdPost S vm p.1 S1 vm1 i) (h2 : RdPost S1 vm1 p.2 S2 vm2 j) (h3 : EqPost S2 i j S3 false) (θ : Nam → RT) : ¬ Unif rtG θ (ps ++ p :: rest) :=
  h.stop0 h1 h2 (h3.2.2 rfl RT rtG) θ
/-! ### What a term is, if it is no ring -/
inductive Res (S : Sto) (ρ : Nat → Nat) : Nat → RT → Prop where
  | var {b : Nat} : (S.tm (ρ b)).kind = 52 → Res S ρ b (.var (S.tm (ρ b)).name)
  | con {b : Nat} : (S.tm (ρ b)).kind = 53 → Res S ρ b (.con (S.tm (ρ b)).name)
  | app {b x y : Nat} {s t : RT} : (S.tm (ρ b)).kind = 54 → (S.tm (ρ b)).l = some x → (S.tm (ρ b)).r = some y → Res S ρ x s → Res S ρ y t → Res S ρ b (.app s t)
theorem Res.rep (hw : WfS S ρ d) (hb : b ∈ S.ids) {t : RT} (h : Res S ρ (ρ b) t) : Res S ρ b t := by
  have e := hw.repr hb
  generalize hc : ρ b = c at h
  cases h with
  | var hk => rw [← hc, e]; rw [← hc, e] at hk; exact .var hk
  | con hk => rw [← hc, e]; rw [← hc, e] at hk; exact .con hk
  | app hk hx hy h1 h2 =>
    rw [← hc, e] at hk hx hy; exact .app hk hx hy h1 h2
theorem Res.uniq : ∀ {b : Nat} {s t : RT}, Res S ρ b s → Res S ρ b t → s = t := fun {b s t} h => by
  induction h generalizing t with
  | var hk =>
    intro h'
    cases h' with
    | var _ => rfl
    | con hk' => omega
    | app hk' => omega
  | con hk =>
    intro h'
    cases h' with
    | var hk' => omega
    | con _ => rfl
    | app hk' => omega
  | app hk hx hy _ _ ih1 ih2 =>
    intro h'
    cases h' with
    | var hk' => omega
    | con hk' => omega
    | app _ hx' hy' h1 h2 =>
      rw [hx] at hx'; rw [hy] at hy'; cases hx'; cases hy'
      rw [ih1 h1, ih2 h2]
/-- marked otherwise -/
def markS (S : Sto) (mk : Nat → Int) : Sto := ⟨S.ids, fun b => { S.tm b with mark := mk b }⟩
def cnt0 (S : Sto) (mk : Nat → Int) : Nat := (S.ids.filter fun b => decide (¬ mk b = 1 ∧ ¬ mk b = 2)).length
structure MkOk (S : Sto) (ρ : Nat → Nat) (mk : Nat → Int) (b : Nat) : Prop where
  fine : ∀ c ∈ S.ids, mk c = 2 → ∃ t, Res S ρ c t
  under : ∀ τ, Sol rtG S τ → ∀ c ∈ S.ids, mk c = 1 → (τ (ρ b)).nodes < (τ c).nodes
def RgPost (S : Sto) (ρ : Nat → Nat) (mk : Nat → Int) (b : Nat) (mk' : Nat → Int) (ok : Bool) : Prop :=
  (ok = true → (∃ t, Res S ρ b t) ∧ (∀ c ∈ S.ids, mk' c = 2 → ∃ t, Res S ρ c t) ∧ (∀ c ∈ S.ids, mk' c = 1 → mk c = 1) ∧ cnt0 S mk' ≤ cnt0 S mk) ∧
  (ok = false → ∀ τ : Nat → RT, ¬ Sol rtG S τ)
theorem rg_leaf {mk : Nat → Int} (hw : WfS S ρ d) (hb : b ∈ S.ids) (hm : MkOk S ρ mk b) (h : ¬ (S.tm (ρ b)).kind = 54 ∨ mk (ρ b) = 2) : RgPost S ρ mk b mk true := by
  refine ⟨fun _ => ⟨?_, hm.fine, fun _ _ h => h, Nat.le_refl _⟩, fun h => by cases h⟩
  by_cases h2 : mk (ρ b) = 2
  · obtain ⟨t, ht⟩ := hm.fine _ (hw.rep b hb).1 h2
    exact ⟨t, ht.rep hw hb⟩
  · rcases hw.kinds _ (hw.rep b hb).1 with k | k | k
    · exact ⟨_, .var k⟩
    · exact ⟨_, .con k⟩
    · exact absurd k (h.resolve_right h2)
theorem rg_ring {mk : Nat → Int} (hw : WfS S ρ d) (hb : b ∈ S.ids) (hm : MkOk S ρ mk b) (h : mk (ρ b) = 1) : RgPost S ρ mk b mk false :=
  ⟨fun h => (by cases h), fun _ τ hs => absurd (hm.under τ hs _ (hw.rep b hb).1 h) (Nat.lt_irrefl _)⟩
theorem rg_cnt {mk : Nat → Int} {a : Nat} (ha : a ∈ S.ids) (h1 : ¬ mk a = 1) (h2 : ¬ mk a = 2) : cnt0 S (updT mk a 1) < cnt0 S mk := by
  refine filter_lt (a := a) (fun x hx => ?_) (by simp [h1, h2]) ?_ S.ids ha
  · by_cases e : x = a
    · subst e; simp [h1, h2]
    · rw [updT_ne _ _ e] at hx; exact hx
  · rw [updT_eq]; simp
theorem rg_under {mk : Nat → Int} (hw : WfS S ρ d) (hb : b ∈ S.ids) (hm : MkOk S ρ mk b) {x y : Nat} (hk : (S.tm (ρ b)).kind = 54) (hx : (S.tm (ρ b)).l = some x) (hy : (S.tm (ρ b)).r = some y) (τ : Nat → RT) (hs : Sol rtG S τ) : (τ (ρ b)).nodes = 1 + (τ (ρ x)).nodes + (τ (ρ y)).nodes := by
  obtain ⟨h1, h2⟩ := hw.rep b hb
  obtain ⟨_, x', y', hx2, hy2, hx3, hy3⟩ := hw.app _ h1 hk
  rw [hx] at hx3; rw [hy] at hy3; cases hx3; cases hy3
  have := (cond_app h2 hk hx hy).1 (hs _ h1)
  rw [this, ← hw.sol hs hx2, ← hw.sol hs hy2]; rfl
theorem rg_l {mk : Nat → Int} (hw : WfS S ρ d) (hb : b ∈ S.ids) (hm : MkOk S ρ mk b) {x y : Nat} (hk : (S.tm (ρ b)).kind = 54) (hx : (S.tm (ρ b)).l = some x) (hy : (S.tm (ρ b)).r = some y) : MkOk S ρ (updT mk (ρ b) 1) x := by
  refine ⟨fun c hc h => ?_, fun τ hs c hc h => ?_⟩
  · by_cases e : c = ρ b
    · rw [e, updT_eq] at h; cases h
    · rw [updT_ne _ _ e] at h; exact hm.fine c hc h
  · have h3 := rg_under hw hb hm hk hx hy τ hs
    by_cases e : c = ρ b
    · rw [e]; omega
    · rw [updT_ne _ _ e] at h
      have := hm.under τ hs c hc h
      omega
theorem rg_r {mk mk1 : Nat → Int} (hw : WfS S ρ d) (hb : b ∈ S.ids) (hm : MkOk S ρ mk b) {x y : Nat} (hk : (S.tm (ρ b)).kind = 54) (hx : (S.tm (ρ b)).l = some x) (hy : (S.tm (ρ b)).r = some y) (h1 : RgPost S ρ (updT mk (ρ b) 1) x mk1 true) : MkOk S ρ mk1 y := by
  obtain ⟨_, h2, h3, _⟩ := h1.1 rfl
  refine ⟨h2, fun τ hs c hc h => ?_⟩
  have h4 := rg_under hw hb hm hk hx hy τ hs
  have h := h3 c hc h
  by_cases e : c = ρ b
  · rw [e]; omega
  · rw [updT_ne _ _ e] at h
    have := hm.under τ hs c hc h
    omega
theorem rg_node {mk mk1 mk2 : Nat → Int} {ok1 ok2 : Bool} (hw : WfS S ρ d) (hb : b ∈ S.ids) (hm : MkOk S ρ mk b) {x y : Nat} (hk : (S.tm (ρ b)).kind = 54) (hx : (S.tm (ρ b)).l = some x) (hy : (S.tm (ρ b)).r = some y) (hn1 : ¬ mk (ρ b) = 1) (hn2 : ¬ mk (ρ b) = 2)
    (h1 : RgPost S ρ (updT mk (ρ b) 1) x mk1 ok1) (h2 : ok1 = true → RgPost S ρ mk1 y mk2 ok2) (h3 : ok1 = false → mk2 = mk1 ∧ ok2 = false) : RgPost S ρ mk b (updT mk2 (ρ b) 2) ok2 := by
  have hcnt := rg_cnt (S := S) (hw.rep b hb).1 hn1 hn2
  cases hok : ok1 with
  | false =>
    obtain ⟨rfl, rfl⟩ := h3 hok
    exact ⟨fun h => (by cases h), fun _ => h1.2 hok⟩
  | true =>
    have h2 := h2 hok
    rw [hok] at h1
    obtain ⟨⟨s, hs⟩, f1, u1, c1⟩ := h1.1 rfl
    refine ⟨fun h => ?_, fun h => h2.2 h⟩
    obtain ⟨⟨t, ht⟩, f2, u2, c2⟩ := h2.1 h
    have hres : Res S ρ b (.app s t) := .app hk hx hy hs ht
    refine ⟨⟨_, hres⟩, fun c hc h => ?_, fun c hc h => ?_, ?_⟩
    · by_cases e : c = ρ b
      · have e2 : ρ c = ρ b := by rw [e]; exact hw.repr hb
        exact ⟨_, .app (by rw [e2]; exact hk) (by rw [e2]; exact hx) (by rw [e2]; exact hy) hs ht⟩
      · rw [updT_ne _ _ e] at h; exact f2 c hc h
    · by_cases e : c = ρ b
      · rw [e, updT_eq] at h; cases h
      · rw [updT_ne _ _ e] at h
        have := u1 c hc (u2 c hc h)
        rwa [updT_ne _ _ e] at this
    · have : cnt0 S (updT mk2 (ρ b) 2) ≤ cnt0 S mk2 := filter_le (fun z hz => by
        by_cases e : z = ρ b
        · rw [e, updT_eq] at hz; simp at hz
        · rw [updT_ne _ _ e] at hz; exact hz) S.ids
      omega
/-! ### Trees without end -/
def unf (S : Sto) (ρ : Nat → Nat) : List Bool → Nat → Option (Nat × Nam)
  | [], b => if (S.tm (ρ b)).kind = 52 then some (0, (S.tm (ρ b)).name) else if (S.tm (ρ b)).kind = 53 then some (1, (S.tm (ρ b)).name) else some (2, [])
  | false :: p, b => if (S.tm (ρ b)).kind = 54 then (match (S.tm (ρ b)).l with | some x => unf S ρ p x | none => none) else none
  | true :: p, b => if (S.tm (ρ b)).kind = 54 then (match (S.tm (ρ b)).r with | some x => unf S ρ p x | none => none) else none
def infS (S : Sto) (ρ : Nat → Nat) (b : Nat) : IT := fun p => unf S ρ p b
theorem inf_sol (hw : WfS S ρ d) : Sol itG S (infS S ρ) := fun b hb => by
  refine ⟨fun j hj => ?_, fun hj => ?_⟩
  · obtain ⟨_, h2, _⟩ := hw.link b hb j hj
    funext p
    show unf S ρ p b = unf S ρ p j
    match p with
    | [] => simp only [unf, h2]
    | false :: p => simp only [unf, h2]
    | true :: p => simp only [unf, h2]
  · have hr := hw.root b hb hj
    refine ⟨fun hk => funext fun p => ?_, fun x y hk hx hy => funext fun p => ?_⟩
    · show unf S ρ p b = _
      match p with
      | [] => simp [unf, hr, hk, itG]
      | false :: p => simp [unf, hr, hk, itG]
      | true :: p => simp [unf, hr, hk, itG]
    · show unf S ρ p b = _
      match p with
      | [] => simp [unf, hr, hk, itG]
      | false :: p => simp [unf, hr, hk, hx, itG, infS]
      | true :: p => simp [unf, hr, hk, hy, itG, infS]
theorem Res.inf : ∀ {b : Nat} {t : RT}, Res S ρ b t → infS S ρ b = t.fin := fun {b t} h => by
  induction h with
  | var hk =>
    funext p
    match p with
    | [] => simp [infS, unf, hk, RT.fin, RT.ev, itV]
    | false :: p => simp [infS, unf, hk, RT.fin, RT.ev, itV]
    | true :: p => simp [infS, unf, hk, RT.fin, RT.ev, itV]
  | con hk =>
    funext p
    match p with
    | [] => simp [infS, unf, hk, RT.fin, RT.ev, itG]
    | false :: p => simp [infS, unf, hk, RT.fin, RT.ev, itG]
    | true :: p => simp [infS, unf, hk, RT.fin, RT.ev, itG]
  | app hk hx hy _ _ ih1 ih2 =>
    funext p
    match p with
    | [] => simp [infS, unf, hk, RT.fin, RT.ev, itG]
    | false :: p =>
      have := congrFun ih1 p
      simp only [infS] at this
      simp [infS, unf, hk, hx, RT.fin, RT.ev, itG]
      exact this
    | true :: p =>
      have := congrFun ih2 p
      simp only [infS] at this
      simp [infS, unf, hk, hy, RT.fin, RT.ev, itG]
      exact this
/-- no rings: the least solution -/
theorem UInv.canon {ps : RPs} (h : UInv S vm ps) (hw : WfS S ρ d) {σ : Nam → RT} (h1 : ∀ n b, vm n = some b → Res S ρ b (σ n)) (h2 : ∀ n, vm n = none → σ n = .var n) : Canon ps σ := by
  refine ⟨?_, fun θ hu n => ?_, fun m n he => ?_⟩
  · have hu : Unif itG (fun n => (σ n).fin) ps := h.one IT itG (infS S ρ) _ (inf_sol hw) fun n b hn => (h1 n b hn).inf
    intro p hp
    have := hu p hp
    rw [ev_fin, ev_fin] at this
    rw [ev_rt, ev_rt]; exact RT.fin_inj this
  · cases hn : vm n with
    | none => rw [h2 n hn]; rfl
    | some b =>
      obtain ⟨τ, hs, hp⟩ := h.all RT rtG θ hu
      rw [← hp n b hn]
      have hb := (h.ok.to n b hn).1
      have hres := h1 n b hn
      clear hn
      generalize σ n = t at hres
      induction hres with
      | @var b hk =>
        rw [hw.sol hs hb]
        obtain ⟨h3, h4⟩ := hw.rep b hb
        exact hp _ _ (h.ok.back _ h3 hk)
      | @con b hk =>
        rw [hw.sol hs hb]
        obtain ⟨h3, h4⟩ := hw.rep b hb
        exact (cond_con h4 hk).1 (hs _ h3)
      | @app b x y s t hk hx hy _ _ ih1 ih2 =>
        rw [hw.sol hs hb]
        obtain ⟨h3, h4⟩ := hw.rep b hb
        obtain ⟨_, x', y', hx2, hy2, hx3, hy3⟩ := hw.app _ h3 hk
        rw [hx] at hx3; rw [hy] at hy3; cases hx3; cases hy3
        rw [(cond_app h4 hk hx hy).1 (hs _ h3), ih1 hx2, ih2 hy2]; rfl
  · cases hm : vm m with
    | none => rw [h2 m hm] at he; cases he; exact List.le_refl _
    | some b =>
      have hres := h1 m b hm
      rw [he] at hres
      obtain ⟨hb, hk, hn⟩ := h.ok.to m b hm
      generalize hv : RT.var n = t at hres
      cases hres with
      | var hk2 => cases hv; rw [← hn]; exact hw.least b hb hk hk2
      | con _ => cases hv
      | app _ _ _ _ _ => cases hv
theorem UInv.none {ps : RPs} (h : UInv S vm ps) (hn : ∀ τ : Nat → RT, ¬ Sol rtG S τ) (θ : Nam → RT) : ¬ Unif rtG θ ps := fun hu => by
  obtain ⟨τ, hs, _⟩ := h.all RT rtG θ hu
  exact hn τ hs
end
/-! ### Types written, as far as there is room -/
def wr : RT → Int → Ty × Int
  | .var n, k => (.mk 52 n [], k - 1)
  | .con n, k => (.mk 53 n [], k - 1)
  | .app a b, k => if k - 1 < 0 then (.mk 54 [] [], k - 1) else
    let x := wr a (k - 1)
    let y := wr b x.2
    (.mk 54 [] [x.1, y.1], y.2)
theorem wr_neg : ∀ (t : RT) {k : Int}, k < 1 → (wr t k).2 = k - 1
  | .var _, _, _ => rfl
  | .con _, _, _ => rfl
  | .app _ _, k, h => by unfold wr; rw [if_pos (by omega)]
theorem wr_low : ∀ (t : RT) {k : Int}, 0 ≤ k → -k - 1 ≤ (wr t k).2 ∧ (wr t k).2 ≤ k - 1
  | .var _, k, h => by show _ ≤ k - 1 ∧ k - 1 ≤ _; omega
  | .con _, k, h => by show _ ≤ k - 1 ∧ k - 1 ≤ _; omega
  | .app a b, k, h => by
    unfold wr
    split
    · dsimp only; omega
    · dsimp only
      have h1 := wr_low a (k := k - 1) (by omega)
      by_cases h2 : (wr a (k - 1)).2 < 1
      · rw [wr_neg b h2]; omega
      · have h3 := wr_low b (k := (wr a (k - 1)).2) (by omega); omega
theorem wr_fit : ∀ (t : RT) {k : Int}, (t.nodes : Int) ≤ k → wr t k = (t.ty, k - t.nodes)
  | .var _, _, _ => rfl
  | .con _, _, _ => rfl
  | .app a b, k, h => by
    have h : ((1 + a.nodes + b.nodes : Nat) : Int) ≤ k := h
    have h1 := a.pos
    have h2 := b.pos
    unfold wr
    rw [if_neg (by omega)]
    have e1 := wr_fit a (k := k - 1) (by omega)
    have e2 := wr_fit b (k := (k - 1 - a.nodes)) (by omega)
    simp only [e1, e2]
    show (Ty.mk 54 [] [a.ty, b.ty], _) = (Ty.mk 54 [] [a.ty, b.ty], k - ((1 + a.nodes + b.nodes : Nat) : Int))
    congr 1; omega
theorem wr_not : ∀ (t : RT) {k : Int}, k < t.nodes → (wr t k).2 < 0
  | .var _, k, h => by show k - 1 < 0; have h : k < ((1 : Nat) : Int) := h; omega
  | .con _, k, h => by show k - 1 < 0; have h : k < ((1 : Nat) : Int) := h; omega
  | .app a b, k, h => by
    have h : k < ((1 + a.nodes + b.nodes : Nat) : Int) := h
    unfold wr
    split
    · dsimp only; omega
    · dsimp only
      by_cases h1 : k - 1 < a.nodes
      · have := wr_not a h1
        rw [wr_neg b (by omega)]; omega
      · rw [wr_fit a (by omega)]
        exact wr_not b (by dsimp only; omega)
theorem wr_iff (t : RT) : (wr t 1000).2 < 0 ↔ 1000 < t.nodes := by
  constructor
  · intro h
    refine Classical.byContradiction fun h2 => ?_
    rw [wr_fit t (by omega)] at h
    dsimp only at h; omega
  · intro h; exact wr_not t (by omega)
end Go.Proofs.Ytfkmlcgccffmnaa
namespace Go.Proofs.Ytfkmlcgccffmnaa
open Go
def pv (o : Option Nat) : Value := .pointer (o.map adr)
def tmc (t : Tm) : List Value := [i64 t.kind, str t.name, pv t.l, pv t.r, pv t.same, i64 t.mark]
def gE (T : Nat) (S : Sto) : Ent := Ent.grp (S.ids.map fun b => Ent.ob b T (tmc (S.tm b)))
section
variable {P : Program} {o : Oper} {a : Act} {w w0 : World} {v u : Value} {M : List Nat} {L : List Ent} {T i b c k : Nat} {S : Sto} {x y : Operand} {t t' : TypeId}
theorem St.obN (hO : St w0 M w L) (i : Nat) (hi : L[i]? = some (gE T S)) (hb : b ∈ S.ids) : w.heap[b]? = some (.cells (tmc (S.tm b)).toArray T (0, 0)) :=
  (hO.ok hi : (Ent.grp _).ok w) _ (List.mem_map.2 ⟨b, hb, rfl⟩)
theorem St.cellN (hO : St w0 M w L) (i : Nat) (hi : L[i]? = some (gE T S)) (hb : b ∈ S.ids) (hk : (tmc (S.tm b))[k]? = some v) : w.cell? ((adr b).add k) = some v := (cell_ob (hO.obN i hi hb) k).trans hk
theorem blks_gE (T : Nat) (S : Sto) : (gE T S).bs = S.ids := by
  show blks (S.ids.map fun b => Ent.ob b T (tmc (S.tm b))) = _
  unfold blks
  induction S.ids with
  | nil => rfl
  | cons x l ih => rw [List.map_cons, List.flatMap_cons, ih]; rfl
theorem St.freshN {t : TypeId} {cs : List Value} (hO : St w0 M w (.ob b t cs :: L)) (hi : L[i]? = some (gE T S)) : b ∉ S.ids := fun hb => by
  have h1 := hO.nodup
  rw [blks_cons, List.nodup_append] at h1
  exact h1.2.2 b (List.mem_singleton.2 rfl) b (mem_blk.2 ⟨_, List.mem_of_getElem? hi, by rw [blks_gE]; exact hb⟩) rfl
/-- a new term -/
theorem St.intoN {t : Tm} (hO : St w0 M w (.ob b T (tmc t) :: L)) (i : Nat) (hi : L[i]? = some (gE T S)) : St w0 M w (L.set i (gE T (newT S b t))) := by
  have hb := hO.freshN hi
  have h := hO.into i hi
  have e : gE T (newT S b t) = Ent.grp ((S.ids.map fun b => Ent.ob b T (tmc (S.tm b))) ++ [.ob b T (tmc t)]) := by
    unfold gE newT
    rw [List.map_append]
    refine congrArg _ (congr (congrArg _ (List.map_congr_left fun c hc => ?_)) ?_)
    · dsimp only; rw [updT_ne _ _ (nin hb hc)]
    · show [Ent.ob b T (tmc (updT S.tm b t b))] = _
      rw [updT_eq]
  rw [e]; exact h
theorem nodup_of {l : List Nat} (hn : l.Nodup) {j k b : Nat} (h1 : l[j]? = some b) (h2 : l[k]? = some b) : j = k := by
  obtain ⟨p1, q1⟩ := List.getElem?_eq_some_iff.1 h1
  obtain ⟨p2, q2⟩ := List.getElem?_eq_some_iff.1 h2
  have hp := List.pairwise_iff_getElem.1 hn
  rcases Nat.lt_trichotomy j k with h | h | h
  · exact absurd (q1.trans q2.symm) (hp j k p1 p2 h)
  · exact h
  · exact absurd (q2.trans q1.symm) (hp k j p2 p1 h)
theorem map_set (f g : Nat → Ent) {l : List Nat} (hn : l.Nodup) {j b : Nat} (hj : l[j]? = some b) (hf : ∀ c, ¬ c = b → g c = f c) : l.map g = (l.map f).set j (g b) := by
  refine List.ext_getElem? fun k => ?_
  rw [List.getElem?_set, List.getElem?_map, List.getElem?_map]
  have hjl := (List.getElem?_eq_some_iff.1 hj).1
  by_cases e : j = k
  · subst e
    rw [if_pos rfl, hj, if_pos (by rw [List.length_map]; exact hjl)]; rfl
  · rw [if_neg e]
    cases hk : l[k]? with
    | none => rfl
    | some c => exact congrArg some (hf c fun e2 => e (nodup_of hn hj (e2 ▸ hk)))
theorem St.idsNodup (hO : St w0 M w L) (hi : L[i]? = some (gE T S)) : S.ids.Nodup := by
  have h := (hO.pull i hi).nodup
  rw [blks_cons, List.nodup_append, blks_gE] at h
  exact h.1
/-- a store into a term -/
theorem e_storeN {t1 : Tm} {S' : Sto} (hO : St w0 M w L) (hi : L[i]? = some (gE T S)) (hb : b ∈ S.ids) (hs : ∀ w, (sizeOf t).run P w = .ok 1 w) (ho : o.op = .store t x y) (hx : a.eval x = ptr ((adr b).add k))
    (hy : a.eval y = v) (hv : v.cells = #[v]) (hk : Nat.ble (k + 1) 6 = true) (h1 : v.oneCell' = true) (ht : (tmc (S.tm b)).set k v = tmc t1) (hS : S' = ⟨S.ids, updT S.tm b t1⟩) : Eff P o a w (fun u w' => u = undef ∧ St w0 M w' (L.set i (gE T S'))) := by
  obtain ⟨j, hj⟩ := List.getElem?_of_mem hb
  have hnd := hO.idsNodup hi
  have hjm : (S.ids.map fun b => Ent.ob b T (tmc (S.tm b)))[j]? = some (Ent.ob b T (tmc (S.tm b))) := by rw [List.getElem?_map, hj]; rfl
  have hjl := (List.getElem?_eq_some_iff.1 hjm).1
  have e : gE T S' = Ent.grp ((S.ids.map fun b => Ent.ob b T (tmc (S.tm b))).set j (.ob b T ((tmc (S.tm b)).set k v))) := by
    rw [ht, hS]
    unfold gE
    dsimp only
    rw [map_set (fun b => Ent.ob b T (tmc (S.tm b))) (fun c => Ent.ob c T (tmc (updT S.tm b t1 c))) hnd hj fun c hc => by show Ent.ob c T (tmc (updT S.tm b t1 c)) = _; rw [updT_ne _ _ hc], updT_eq]
  rw [e]
  refine e_grp (R := fun u => u = undef) hO hi fun {w1} e h1' => ?_
  subst e
  have h2 := e_store1 (P := P) (o := o) (a := a) h1' (i := j) (by rw [List.getElem?_append_left hjl]; exact hjm) hs ho hx hy hv (show Nat.ble (k + 1) (tmc (S.tm b)).length = true from hk) h1
  refine h2.mono fun u w' ⟨g1, g2⟩ => ⟨g1, ?_⟩
  rwa [List.set_append_left j _ hjl] at g2
theorem q_pickT {z : Operand} (ho : o.op = .pick x y z) (hx : a.eval x = .bool true) (hy : a.eval y = v) : QV P o a w v := q_pick ho hx hy
theorem q_pickF {z : Operand} (ho : o.op = .pick x y z) (hx : a.eval x = .bool false) (hz : a.eval z = v) : QV P o a w v := q_pick ho hx hz
theorem ptr_one (p : Option Nat) : (pv p).oneCell' = true := rfl
/-- '==' of two pointers to terms -/
theorem q_ptrEq {e s : Nat} (hO : St w0 M w L) (i : Nat) (hi : L[i]? = some (gE T S)) (hb : b ∈ S.ids) (hc : c ∈ S.ids) (ht : P.underlying t = some (.pointer e)) (hs : ∀ w, (sizeOf e).run P w = .ok s w) (h0 : Nat.beq s 0 = false) (ho : o.op = .binOp .eql t x y t') (hx : a.eval x = ptr (adr b)) (hy : a.eval y = ptr (adr c)) : QV P o a w (.bool (decide (b = c))) := by
  have hg : eqGuard .eql t x y (ptr (adr b)) (ptr (adr c)) = pure () := rfl
  have h0' : ¬ s = 0 := fun h => by subst h; cases h0
  have he : (Op.equal t (ptr (adr b)) (ptr (adr c))).run P w = .ok (decide (b = c)) w := by
    show (Op.equalIn (9999 + 1) t (.pointer (some (adr b))) (.pointer (some (adr c)))).run P w = _
    generalize 9999 = n
    by_cases e2 : b = c
    · subst e2
      simp [Op.equalIn, run_underlying ht, hs, h0', run_sameAddr_same]
    · have hne : adr b ≠ adr c := fun h => e2 (by have := congrArg Addr.block h; exact this)
      simp [Op.equalIn, run_underlying ht, hs, h0', e2]
      exact run_sameAddr_other w hne (hO.obN i hi hb) (hO.obN i hi hc)
  have hbo : (binOp .eql t (ptr (adr b)) (ptr (adr c))).run P w = .ok (.bool (decide (b = c))) w := by
    show (Value.bool <$> Op.equal t (ptr (adr b)) (ptr (adr c))).run P w = _
    simp [he]
  simp [QV, execOp, ho, hx, hy, hg, hbo]
theorem bl_eq : ∀ l r : List UInt8, Op.bytesLess l r = decide (l < r)
  | [], [] => by simp [Op.bytesLess]
  | [], _ :: _ => by simp [Op.bytesLess]
  | _ :: _, [] => by simp [Op.bytesLess]
  | x :: l, y :: r => by
    rw [Op.bytesLess, bl_eq l r, Bool.eq_iff_iff]
    simp [List.cons_lt_cons_iff]
/-- '>' of two strings -/
theorem q_sgt {m n : List UInt8} (ho : o.op = .binOp .gtr t x y t') (hu : P.underlying t = some .string) (hx : a.eval x = str m) (hy : a.eval y = str n) : QV P o a w (.bool (decide (n < m))) := by
  have e : ((Op.bytesLess m n || m == n) = false) = (n < m) := by
    rw [bl_eq, Bool.or_eq_false_iff, decide_eq_false_iff_not, beq_eq_false_iff_ne]
    exact propext ⟨fun h => (List.le_iff_lt_or_eq.1 (List.not_lt.1 h.1)).resolve_right fun e => h.2 e.symm, fun h => ⟨List.lt_asymm h, fun e => List.lt_irrefl n (e ▸ h)⟩⟩
  have e2 : (!(Op.bytesLess m n || m == n)) = decide (n < m) := by
    cases hb : (Op.bytesLess m n || m == n) with
    | true => rw [eq_comm, decide_eq_false_iff_not.2]; rfl; rw [← e, hb]; simp
    | false => rw [eq_comm, decide_eq_true]; rfl; rw [← e]; exact hb
  rw [← e2]
  simp [QV, execOp, ho, hx, hy, str, binOp, Op.stringOp, eqGuard]
theorem St.kN {S0 : Sto} (hO : St w0 M w L) (i : Nat) (hi : L[i]? = some (gE T S)) (hs : Shp S0 S) (hb : b ∈ S0.ids) : w.cell? ((adr b).add 0) = some (i64 (S0.tm b).kind) := by rw [← hs.kind]; exact hO.cellN i hi (by rw [hs.ids]; exact hb) rfl
theorem St.lN {S0 : Sto} {x : Nat} (hO : St w0 M w L) (i : Nat) (hi : L[i]? = some (gE T S)) (hs : Shp S0 S) (hb : b ∈ S0.ids) (hx : (S0.tm b).l = some x) : w.cell? ((adr b).add 2) = some (ptr (adr x)) := by
  refine hO.cellN i hi (by rw [hs.ids]; exact hb) ?_
  show some (pv (S.tm b).l) = _
  rw [hs.l, hx]; rfl
theorem St.rN {S0 : Sto} {x : Nat} (hO : St w0 M w L) (i : Nat) (hi : L[i]? = some (gE T S)) (hs : Shp S0 S) (hb : b ∈ S0.ids) (hx : (S0.tm b).r = some x) : w.cell? ((adr b).add 3) = some (ptr (adr x)) := by
  refine hO.cellN i hi (by rw [hs.ids]; exact hb) ?_
  show some (pv (S.tm b).r) = _
  rw [hs.r, hx]; rfl
theorem St.sN {x : Nat} (hO : St w0 M w L) (i : Nat) (hi : L[i]? = some (gE T S)) (hb : b ∈ S.ids) (hx : (S.tm b).same = some x) : w.cell? ((adr b).add 4) = some (ptr (adr x)) := by
  refine hO.cellN i hi hb ?_
  show some (pv (S.tm b).same) = _
  rw [hx]; rfl
theorem pv_ex {o : Option Nat} (h : ¬ o.map adr = none) : ∃ x, o = some x := by
  cases o with
  | none => exact absurd rfl h
  | some x => exact ⟨x, rfl⟩
theorem pv_no {o : Option Nat} (h : ¬ ¬ o.map adr = none) : o = none := by
  cases o with
  | none => rfl
  | some x => exact absurd (Classical.not_not.1 h) (by simp)
end
section
variable {P : Program} {ops : Array Oper} {S : World → Prop} {K : Act → World → Prop} {Q : Exit → Act → World → Prop} {a : Act} {w : World} {rest : List Oper} {ks : List Nat} {o : Oper} {n d : Nat} {F : List (Nat × Value)}
/-- guards that are known not to hold -/
theorem wl_sk {j : Nat} {b : Bool} {dj : Nat} {oj : Oper} {g : Value} (hF : Fr a n F) (hg : o.guard = some (j, b)) (hj : ops[j]? = some oj) (hdj : oj.dst = some dj) (hv : lk F dj = some g) (hT : isB g b = false)
    (hd : o.dst = some d) (hn : Nat.ble (d + 1) n = true) (next : ∀ a, Fr a n ((d, undef) :: F) → wpList P ops Q rest a w) : wpList P ops Q (o :: rest) a w := by
  have hw := wanted_of hF hg hj hdj hv
  unfold wpList
  rw [hw, hT]
  have := next _ (hF.put (Nat.le_of_ble_eq_true hn) undef)
  rw [hd]; exact this
theorem wd_sk {k : Nat} {j : Nat} {b : Bool} {dj : Nat} {oj : Oper} {g : Value} (hF : Fr a n F) (hg : o.guard = some (j, b)) (hj : ops[j]? = some oj) (hdj : oj.dst = some dj) (hv : lk F dj = some g) (hT : isB g b = false)
    (hd : o.dst = some d) (hn : Nat.ble (d + 1) n = true) (next : ∀ a, Fr a n ((d, undef) :: F) → wpD P ops S K rest ks a w) : wpD P ops S K (o :: rest) (k :: ks) a w := by
  show stepD P ops S o k (wpD P ops S K rest ks) a w
  have hw := wanted_of hF hg hj hdj hv
  unfold stepD
  rw [hw, hT]
  have := next _ (hF.put (Nat.le_of_ble_eq_true hn) undef)
  rw [hd]; exact this
theorem isN_T {p : Prop} {_ : Decidable p} (h : p) : isB (.bool (decide p)) false = false := by simp [isB, h]
theorem isN_F {p : Prop} {_ : Decidable p} (h : ¬ p) : isB (.bool (decide p)) true = false := by simp [isB, h]
end
end Go.Proofs.Ytfkmlcgccffmnaa
