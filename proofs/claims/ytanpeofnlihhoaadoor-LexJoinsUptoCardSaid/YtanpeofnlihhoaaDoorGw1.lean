/- GENERAL PARTS (1): what temporaries hold ('Fr'), one operation's outcome ('Eff'), lists of operations, regions whose order is open ('wpD'). -/
import Derived.WalkKit
import Derived.Still
namespace Go.Proofs.YtanpeofnlihhoaaDoor
open Go

/-! ### Temporaries -/
def lk : List (Nat × Value) → Nat → Option Value
  | [], _ => none
  | (k, v) :: L, t => bif Nat.beq k t then some v else lk L t

theorem lk_same (k : Nat) (v : Value) (L : List (Nat × Value)) : lk ((k, v) :: L) k = some v := by
  simp [lk]
theorem lk_ne {k t : Nat} (h : ¬ k = t) (v : Value) (L : List (Nat × Value)) : lk ((k, v) :: L) t = lk L t := by
  have : Nat.beq k t = false := by cases hb : Nat.beq k t with | false => rfl | true => exact absurd (Nat.eq_of_beq_eq_true hb) h
  simp [lk, this]

structure Fr (a : Act) (n : Nat) (L : List (Nat × Value)) : Prop where
  size : a.tmps.size = n
  defs : a.defers = []
  get : ∀ t v, lk L t = some v → a.tmps.getD t undef = v

def AllIn (L : List (Nat × Value)) : List (Nat × Value) → Prop
  | [] => True
  | (k, v) :: r => lk L k = some v ∧ AllIn L r

theorem lk_all {L : List (Nat × Value)} : ∀ {L' : List (Nat × Value)}, AllIn L L' → ∀ t v, lk L' t = some v → lk L t = some v
  | [], _, t, v, h => by cases h
  | (k, u) :: r, hA, t, v, h => by
    by_cases hk : k = t
    · subst hk
      rw [lk_same] at h
      cases h
      exact hA.1
    · rw [lk_ne hk] at h
      exact lk_all hA.2 t v h

theorem Fr.sub {a : Act} {n : Nat} {L L' : List (Nat × Value)} (h : Fr a n L) (hA : AllIn L L') : Fr a n L' :=
  ⟨h.size, h.defs, fun t v ht => h.get t v (lk_all hA t v ht)⟩

theorem Fr.put {a : Act} {n : Nat} {L : List (Nat × Value)} (h : Fr a n L) {d : Nat} (hd : d < n) (v : Value) : Fr (a.put (some d) v) n ((d, v) :: L) := by
  refine ⟨by simp [Act.put, h.size], h.defs, fun t u ht => ?_⟩
  by_cases hk : d = t
  · subst hk
    rw [lk_same] at ht
    cases ht
    simp [Act.put, h.size, hd]
  · rw [lk_ne hk] at ht
    have := h.get t u ht
    simpa [Act.put, Array.getElem?_setIfInBounds_ne hk] using this

theorem Fr.putNone {a : Act} {n : Nat} {L : List (Nat × Value)} (h : Fr a n L) (v : Value) : Fr (a.put none v) n L := h

theorem Fr.init (args : Array Value) (m : Nat) (L : List (Nat × Value)) (hL : AllIn ((List.range args.size).zip args.toList) L) :
    Fr { tmps := args ++ Array.replicate m undef, defers := [] } (args.size + m) L := by
  refine ⟨by simp, rfl, fun t v ht => ?_⟩
  have h1 := lk_all hL t v ht
  have h2 : ∀ (l : List Value) (k t : Nat), lk ((List.range' k l.length).zip l) t = some v → k ≤ t ∧ l[t - k]? = some v := by
    intro l
    induction l with
    | nil => intro k t h; cases h
    | cons x r ih =>
      intro k t h
      simp only [List.length_cons, List.range'_succ, List.zip_cons_cons] at h
      by_cases hk : k = t
      · subst hk
        rw [lk_same] at h
        cases h
        simp
      · rw [lk_ne hk] at h
        obtain ⟨h3, h4⟩ := ih (k + 1) t h
        refine ⟨by omega, ?_⟩
        rw [show t - k = (t - (k + 1)) + 1 by omega]
        simpa using h4
  have h3 := h2 args.toList 0 t (by rw [List.range_eq_range'] at h1; simpa using h1)
  have h4 : args[t]? = some v := by simpa using h3.2
  have hlt : t < args.size := (Array.getElem?_eq_some_iff.1 h4).1
  have h5 : args[t] = v := by rw [Array.getElem?_eq_getElem hlt] at h4; exact Option.some.inj h4
  simp [Array.getElem?_append, hlt, h5]

/-- What an operand is. -/
def ev (L : List (Nat × Value)) : Operand → Option Value
  | .tmp t => lk L t
  | .const v => some v
  | .global g => some (.pointer (some ⟨g, 0, none⟩))
  | .func f => some (.func (.func f) #[] #[])

theorem Fr.eval {a : Act} {n : Nat} {L : List (Nat × Value)} (h : Fr a n L) {x : Operand} {v : Value} (hx : ev L x = some v) : a.eval x = v := by
  cases x with
  | tmp t => exact h.get t v hx
  | const c => simpa [ev, Act.eval] using hx
  | global g => simpa [ev, Act.eval] using hx
  | func f => simpa [ev, Act.eval] using hx

/-! ### One operation -/
def Eff (P : Program) (o : Oper) (a : Act) (w : World) (R : Value → World → Prop) : Prop :=
  match (execOp a.eval o).run P w with
  | .ok (.value v) w' => R v w'
  | .ok .skip w' => R undef w'
  | .ok (.enter f args) w' => Calls P f args w' (fun e w'' => ∃ v, e = .returned v ∧ R v w'')
  | _ => False

section
variable {P : Program} {o : Oper} {a : Act} {w w' : World} {v : Value} {R : Value → World → Prop}

theorem Eff.value (h : (execOp a.eval o).run P w = .ok (.value v) w') (hR : R v w') : Eff P o a w R := by
  unfold Eff; rw [h]; exact hR
theorem Eff.skip (h : (execOp a.eval o).run P w = .ok .skip w') (hR : R undef w') : Eff P o a w R := by
  unfold Eff; rw [h]; exact hR
theorem Eff.call {f : Nat} {args : Array Value} (h : (execOp a.eval o).run P w = .ok (.enter f args) w') (hc : Calls P f args w' (fun e w'' => ∃ v, e = .returned v ∧ R v w'')) : Eff P o a w R := by
  unfold Eff; rw [h]; exact hc

theorem Eff.mono {R' : Value → World → Prop} (h : Eff P o a w R) (hr : ∀ v w', R v w' → R' v w') : Eff P o a w R' := by
  unfold Eff at *
  split at h
  · exact hr _ _ h
  · exact hr _ _ h
  · exact h.mono fun e w'' ⟨v, he, hv⟩ => ⟨v, he, hr _ _ hv⟩
  · exact h.elim

theorem Eff.some_ (h : Eff P o a w R) : ∃ v w', R v w' := by
  unfold Eff at h
  split at h
  · exact ⟨_, _, h⟩
  · exact ⟨_, _, h⟩
  · obtain ⟨e, w', fr, ⟨v, _, hv⟩, _⟩ := h []
    exact ⟨v, w', hv⟩
  · exact h.elim

theorem Eff.congr {a' : Act} (h : Eff P o a w R) (he : execOp a'.eval o = execOp a.eval o) : Eff P o a' w R := by
  unfold Eff at *; rw [he]; exact h

theorem Eff.wp {K : Act → World → Prop} {Q : Exit → Act → World → Prop} (h : Eff P o a w (fun v w' => K (a.put o.dst v) w')) : o.wp P a w K Q := by
  unfold Eff at h
  unfold Oper.wp
  generalize (execOp a.eval o).run P w = r at h ⊢
  cases r with
  | halt x w' => exact h.elim
  | ok x w' =>
    cases x with
    | value v => exact h
    | skip => exact h
    | enter f args => exact Calls.mono (R := fun e w'' => ∃ v, e = .returned v ∧ K (a.put o.dst v) w'') h fun e w'' ⟨v, he, hv⟩ => by subst he; exact hv
    | _ => exact h.elim
end

/-! ### Guards -/
/-- What a guarded operation leaves: v where the guard g has the value b, else nothing. -/
def gv (g : Value) (b : Bool) (v : Value) : Value := match g with | .bool c => bif c == b then v else undef | _ => undef
def isB (g : Value) (b : Bool) : Bool := match g with | .bool c => c == b | _ => false
theorem gv_of {g : Value} {b : Bool} {v : Value} (h : isB g b = true) : gv g b v = v := by
  cases g with
  | bool c => simp only [isB] at h; simp [gv, h]
  | _ => simp [isB] at h
theorem gv_not {g : Value} {b : Bool} {v : Value} (h : isB g b = false) : gv g b v = undef := by
  cases g with
  | bool c => simp only [isB] at h; simp [gv, h]
  | _ => rfl
theorem gv_of2 {g v u : Value} {b c : Bool} (h1 : isB g b = true) (h2 : isB v c = true) : gv (gv g b v) c u = u := by rw [gv_of h1, gv_of h2]
theorem isB_gv {g v : Value} {b c : Bool} (h : isB (gv g b v) c = true) : isB g b = true ∧ isB v c = true := by
  cases hg : isB g b with
  | true => rw [gv_of hg] at h; exact ⟨rfl, h⟩
  | false => rw [gv_not hg] at h; simp [isB, undef] at h
theorem isB_bool {x b : Bool} : isB (.bool x) b = true ↔ x = b := by simp [isB]

theorem wanted_of {ops : Array Oper} {a : Act} {o : Oper} {n : Nat} {L : List (Nat × Value)} {j : Nat} {b : Bool} {d : Nat} {oj : Oper} {g : Value} (hF : Fr a n L) (hg : o.guard = some (j, b)) (hj : ops[j]? = some oj) (hd : oj.dst = some d) (hv : lk L d = some g) :
    Region.wanted o (yielded ops a.tmps) = isB g b := by
  have h1 := hF.get d _ hv
  simp only [Region.wanted, hg, yielded, hj]
  cases h3 : a.tmps[d]? with
  | none =>
    rw [Array.getD_eq_getD_getElem?, h3] at h1
    have : g = undef := h1.symm
    subst this
    simp [hd, h3, isB, undef]
  | some u =>
    rw [Array.getD_eq_getD_getElem?, h3] at h1
    have : u = g := h1
    subst this
    cases u <;> simp [hd, h3, isB]

/-! ### Lists of operations in the text's order -/
section
variable {P : Program} {ops : Array Oper} {Q : Exit → Act → World → Prop} {a : Act} {w : World} {rest : List Oper} {o : Oper} {n d : Nat} {L : List (Nat × Value)} {v : Value} {R : Value → World → Prop}

def QV (P : Program) (o : Oper) (a : Act) (w : World) (v : Value) : Prop := (execOp a.eval o).run P w = .ok (.value v) w

theorem QV.eff (h : QV P o a w v) : Eff P o a w (fun u w' => u = v ∧ w' = w) := Eff.value h ⟨rfl, rfl⟩

theorem wl_step (hg : o.guard = none) (h : Eff P o a w (fun v w' => wpList P ops Q rest (a.put o.dst v) w')) : wpList P ops Q (o :: rest) a w := by
  unfold wpList
  rw [if_pos (by simp [Region.wanted, hg])]
  exact .inl h.wp

/-- An operation that yields a value. -/
theorem wl_v (hF : Fr a n L) (hg : o.guard = none) (hd : o.dst = some d) (hn : Nat.ble (d + 1) n = true) (h : QV P o a w v)
    (next : ∀ a, Fr a n ((d, v) :: L) → wpList P ops Q rest a w) : wpList P ops Q (o :: rest) a w :=
  wl_step hg (Eff.value h (by rw [hd]; exact next _ (hF.put (Nat.le_of_ble_eq_true hn) v)))
/-- An operation that turns the world. -/
theorem wl_e (hF : Fr a n L) (hg : o.guard = none) (hd : o.dst = some d) (hn : Nat.ble (d + 1) n = true) (h : Eff P o a w R)
    (next : ∀ a v w, R v w → Fr a n ((d, v) :: L) → wpList P ops Q rest a w) : wpList P ops Q (o :: rest) a w :=
  wl_step hg (h.mono fun v w' hR => by rw [hd]; exact next _ _ _ hR (hF.put (Nat.le_of_ble_eq_true hn) v))
/-- One without a result. -/
theorem wl_s (hF : Fr a n L) (hg : o.guard = none) (hd : o.dst = none) (h : Eff P o a w R)
    (next : ∀ a v w, R v w → Fr a n L → wpList P ops Q rest a w) : wpList P ops Q (o :: rest) a w :=
  wl_step hg (h.mono fun v w' hR => by rw [hd]; exact next _ _ _ hR (hF.putNone v))
/-- A guarded one that yields a value. -/
theorem wl_g {j : Nat} {b : Bool} {dj : Nat} {oj : Oper} {g : Value} (hF : Fr a n L) (hg : o.guard = some (j, b)) (hj : ops[j]? = some oj) (hdj : oj.dst = some dj) (hv : lk L dj = some g)
    (hd : o.dst = some d) (hn : Nat.ble (d + 1) n = true) (h : isB g b = true → QV P o a w v)
    (next : ∀ a, Fr a n ((d, gv g b v) :: L) → wpList P ops Q rest a w) : wpList P ops Q (o :: rest) a w := by
  have hw := wanted_of hF hg hj hdj hv
  unfold wpList
  rw [hw]
  cases hb : isB g b with
  | true =>
    simp only [if_true]
    refine .inl (Eff.wp (Eff.value (h hb) ?_))
    have := next _ (hF.put (Nat.le_of_ble_eq_true hn) (gv g b v))
    rw [gv_of hb] at this
    rw [hd]; exact this
  | false =>
    have := next _ (hF.put (Nat.le_of_ble_eq_true hn) (gv g b v))
    rw [gv_not hb] at this
    rw [hd]; exact this
/-- A guarded one, in cases. -/
theorem wl_gc {j : Nat} {b : Bool} {dj : Nat} {oj : Oper} {g : Value} (hF : Fr a n L) (hg : o.guard = some (j, b)) (hj : ops[j]? = some oj) (hdj : oj.dst = some dj) (hv : lk L dj = some g)
    (hd : o.dst = some d) (hn : Nat.ble (d + 1) n = true) (h : isB g b = true → Eff P o a w R)
    (next : ∀ a v w, R v w → isB g b = true → Fr a n ((d, v) :: L) → wpList P ops Q rest a w)
    (other : ∀ a, isB g b = false → Fr a n ((d, undef) :: L) → wpList P ops Q rest a w) : wpList P ops Q (o :: rest) a w := by
  have hw := wanted_of hF hg hj hdj hv
  unfold wpList
  rw [hw]
  cases hb : isB g b with
  | true =>
    simp only [if_true]
    exact .inl (Eff.wp ((h hb).mono fun v w' hR => by rw [hd]; exact next _ _ _ hR hb (hF.put (Nat.le_of_ble_eq_true hn) v)))
  | false =>
    have := other _ hb (hF.put (Nat.le_of_ble_eq_true hn) undef)
    rw [hd]; exact this
theorem wl_nil (h : Q .normal a w) : wpList P ops Q [] a w := h
end
end Go.Proofs.YtanpeofnlihhoaaDoor
