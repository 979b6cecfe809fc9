/- GW18: REGIONS IN WHICH NEW BLOCKS ARE MADE IN AN OPEN ORDER: kind 4: an operation that makes one new block whose content does not hang on the world. -/
import Derived.Test.YtglienidnffnjaaGw17
namespace Go.Proofs.Ytglienidnffnjaa
open Go
section
variable (P : Program) (ops : Array Oper) (ks : List Nat) (w0 : World) (M : List Nat) (L0 : List Ent) (K : Act → World → Prop)
abbrev StC := List Ent ⊕ World
/-- the operation makes one block -/
def mkRun (o : Oper) (a : Act) (mk : Nat → Value) (obj : Obj) : Prop := ∀ w : World, (execOp a.eval o).run P w = .ok (.value (mk w.heap.size)) (w.alloc obj)
def stepC (o : Oper) (k : Nat) (next : StC → Act → Prop) (σ : StC) (a : Act) : Prop :=
  if Region.wanted o (yielded ops a.tmps) then
    if k ≤ 1 then ∃ v, (∀ w, (k = 0 ∨ St w0 M w L0) → QV P o a w v) ∧ next σ (a.put o.dst v)
    else match σ with
      | .inl L => if k = 4 then ∃ mk obj, mkRun P o a mk obj ∧ ∀ b, next (.inl (.mp b obj :: L)) (a.put o.dst (mk b))
        else ∀ w, St w0 M w L → Eff P o a w (fun u w2 => next (.inr w2) (a.put o.dst u))
      | .inr w => Eff P o a w (fun u w2 => next (.inr w2) (a.put o.dst u))
  else next σ (a.put o.dst undef)
def wpC : List Nat → StC → Act → Prop
  | [], .inl L, a => ∀ w, St w0 M w L → K a w
  | [], .inr w, a => K a w
  | i :: rest, σ, a => match ops[i]? with
    | none => wpC rest σ a
    | some o => stepC P ops w0 M L0 o (ks.getD i 0) (wpC rest) σ a
def wpCl : List Oper → List Nat → StC → Act → Prop
  | [], _, .inl L, a => ∀ w, St w0 M w L → K a w
  | [], _, .inr w, a => K a w
  | o :: rest, ks, σ, a => stepC P ops w0 M L0 o (ks.headD 0) (wpCl rest ks.tail) σ a
end
section
variable {P : Program} {ops : Array Oper} {ks : List Nat} {w0 : World} {M : List Nat} {L0 : List Ent} {K : Act → World → Prop}
def PermInv (next : StC → Act → Prop) : Prop := ∀ L L' a, L.Perm L' → next (.inl L) a → next (.inl L') a
theorem stepC_perm {o : Oper} {k : Nat} {next : StC → Act → Prop} (hn : PermInv next) : PermInv (stepC P ops w0 M L0 o k next) := by
  intro L L' a hp h
  unfold stepC at h ⊢
  split
  · rename_i hw
    rw [if_pos hw] at h
    split
    · rename_i hk
      rw [if_pos hk] at h
      obtain ⟨v, h1, h2⟩ := h
      exact ⟨v, h1, hn _ _ _ hp h2⟩
    · rename_i hk
      rw [if_neg hk] at h
      simp only at h ⊢
      split
      · rename_i h4
        rw [if_pos h4] at h
        obtain ⟨mk, obj, h1, h2⟩ := h
        exact ⟨mk, obj, h1, fun b => hn _ _ _ (hp.cons _) (h2 b)⟩
      · rename_i h4
        rw [if_neg h4] at h
        exact fun w hw => h w (hw.perm hp)
  · rename_i hw
    rw [if_neg hw] at h
    exact hn _ _ _ hp h
theorem wpC_perm : ∀ (l : List Nat), PermInv (wpC P ops ks w0 M L0 K l)
  | [], L, L', a, hp, h => fun w hw => h w (hw.perm hp)
  | i :: l, L, L', a, hp, h => by
    unfold wpC at h ⊢
    split
    · rename_i ho; rw [ho] at h; exact wpC_perm l L L' a hp h
    · rename_i o ho
      rw [ho] at h
      exact stepC_perm (wpC_perm l) L L' a hp h
theorem wpC_eq (l : List Oper) : ∀ (k : Nat) (kl : List Nat), (∀ j, l[j]? = ops[k + j]?) → (∀ j, kl.getD j 0 = ks.getD (k + j) 0) → wpC P ops ks w0 M L0 K (List.range' k l.length) = wpCl P ops w0 M L0 K l kl := by
  induction l with
  | nil =>
    intro k kl _ _
    funext σ a
    cases σ <;> simp [wpC, wpCl]
  | cons o l ih =>
    intro k kl h hk
    have h0 : ops[k]? = some o := by simpa using (h 0).symm
    have hk0 : kl.headD 0 = ks.getD k 0 := by
      have := hk 0
      cases kl <;> simpa using this
    have ih' := ih (k + 1) kl.tail (fun j => by have := h (j + 1); simpa [Nat.add_assoc, Nat.add_comm 1 j] using this)
      (fun j => by
        have h1 := hk (j + 1)
        rw [show k + 1 + j = k + (j + 1) by omega, ← h1]
        cases kl <;> simp)
    funext σ a
    simp only [List.length_cons, List.range'_succ, wpC, h0, wpCl, ih', hk0]
theorem mkRun.congr {o : Oper} {a a' : Act} {mk : Nat → Value} {obj : Obj} (h : mkRun P o a mk obj) (he : execOp a'.eval o = execOp a.eval o) : mkRun P o a' mk obj := by
  unfold mkRun at *; rw [he]; exact h
theorem mkRun.uniq {o : Oper} {a : Act} {mk mk' : Nat → Value} {obj obj' : Obj} (h : mkRun P o a mk obj) (h' : mkRun P o a mk' obj') (w : World) : mk = mk' ∧ obj = obj' := by
  have key : ∀ w : World, mk w.heap.size = mk' w.heap.size ∧ obj = obj' := fun w => by
    have e := (h w).symm.trans (h' w)
    injection e with e1 e2
    injection e1 with e1
    refine ⟨e1, ?_⟩
    have e3 := congrArg (fun W : World => W.heap[w.heap.size]?) e2
    simp only [heap_alloc_new] at e3
    injection e3
  refine ⟨funext fun n => ?_, (key w).2⟩
  have := (key { w with heap := Array.replicate n obj }).1
  simpa using this
def okPairC (k1 k2 : Nat) : Bool := (k1 == 0 && (k2 ≤ 4)) || (k2 == 0 && (k1 ≤ 1 || k1 == 4)) || (k1 == 1 && (k2 == 1 || k2 == 4)) || (k1 == 4 && (k2 == 1 || k2 == 4))
theorem QV.uniq {o : Oper} {a : Act} {w : World} {v v' : Value} (h : QV P o a w v) (h' : QV P o a w v') : v = v' := by
  unfold QV at h h'
  rw [h] at h'
  injection h' with h'
  injection h'
/-- Two operations that are apart change places. -/
theorem stepC_swap {p i : Oper} {kp ki : Nat} {next : StC → Act → Prop} (hn : PermInv next) {a : Act} {σ : StC} (hne : ∃ w, St w0 M w L0) (hap : i.apart ops p = true) (hsi : noSel i = true) (hsp : noSel p = true)
    (hok : okPairC kp ki = true) (hσ : (∃ L, σ = .inl L) ∨ kp = 0)
    (h : stepC P ops w0 M L0 p kp (stepC P ops w0 M L0 i ki next) σ a) : stepC P ops w0 M L0 i ki (stepC P ops w0 M L0 p kp next) σ a := by
  obtain ⟨h1, h2, h3⟩ := Oper.apart_spec hap
  have hi := noSel_spec hsi
  have hp := noSel_spec hsp
  have e1 : ∀ v, execOp (a.put p.dst v).eval i = execOp a.eval i := fun v => execOp_put i hi a p.dst v h3
  have e2 : ∀ v, execOp (a.put i.dst v).eval p = execOp a.eval p := fun v => execOp_put p hp a i.dst v h1
  have g1 : ∀ v, Region.wanted i (yielded ops (a.put p.dst v).tmps) = Region.wanted i (yielded ops a.tmps) := fun v => wanted_put i a p.dst v h3
  have g2 : ∀ v, Region.wanted p (yielded ops (a.put i.dst v).tmps) = Region.wanted p (yielded ops a.tmps) := fun v => wanted_put p a i.dst v h1
  have comm : ∀ u v, (a.put p.dst u).put i.dst v = (a.put i.dst v).put p.dst u := fun u v => (Act.put_comm a v u h2).symm
  obtain ⟨wn, hwn⟩ := hne
  simp only [okPairC, Bool.or_eq_true, Bool.and_eq_true, beq_iff_eq, decide_eq_true_eq] at hok
  unfold stepC at h ⊢
  by_cases hwp : Region.wanted p (yielded ops a.tmps) = true
  · rw [if_pos hwp] at h
    by_cases hwi : Region.wanted i (yielded ops a.tmps) = true
    · rw [if_pos hwi]
      by_cases hkp : kp ≤ 1
      · rw [if_pos hkp] at h
        obtain ⟨vp, hvp, h⟩ := h
        rw [g1, if_pos hwi] at h
        by_cases hki : ki ≤ 1
        · rw [if_pos hki] at h ⊢
          obtain ⟨vi, hvi, h⟩ := h
          refine ⟨vi, fun w' hw' => (hvi w' hw').congr (e1 vp).symm, ?_⟩
          rw [g2, if_pos hwp, if_pos hkp]
          exact ⟨vp, fun w' hw' => (hvp w' hw').congr (e2 vi), by rw [← comm]; exact h⟩
        · rw [if_neg hki] at h ⊢
          cases σ with
          | inl L =>
            simp only at h ⊢
            split
            · rename_i h4
              rw [if_pos h4] at h
              obtain ⟨mk, obj, hr, h⟩ := h
              refine ⟨mk, obj, hr.congr (e1 vp).symm, fun b => ?_⟩
              rw [g2, if_pos hwp]; try rw [if_pos hkp]
              exact ⟨vp, fun w' hw' => (hvp w' hw').congr (e2 _), by rw [← comm]; exact h b⟩
            · rename_i h4
              rw [if_neg h4] at h
              intro w hw
              refine ((h w hw).congr (a' := a) (e1 vp).symm).mono fun u w2 hu => ?_
              rw [g2, if_pos hwp]; try rw [if_pos hkp]
              exact ⟨vp, fun w' hw' => (hvp w' hw').congr (e2 u), by rw [← comm]; exact hu⟩
          | inr w =>
            simp only at h ⊢
            refine (h.congr (a' := a) (e1 vp).symm).mono fun u w2 hu => ?_
            rw [g2, if_pos hwp]; try rw [if_pos hkp]
            exact ⟨vp, fun w' hw' => (hvp w' hw').congr (e2 u), by rw [← comm]; exact hu⟩
      · rw [if_neg hkp] at h
        have hk4 : kp = 4 := by omega
        obtain ⟨L, rfl⟩ := hσ.resolve_right (by omega)
        subst hk4
        simp only [if_true] at h
        obtain ⟨mk, obj, hr, h⟩ := h
        by_cases hki : ki ≤ 1
        · rw [if_pos hki]
          have h0 := h 0
          rw [g1, if_pos hwi, if_pos hki] at h0
          obtain ⟨v0, hv0, _⟩ := h0
          refine ⟨v0, fun w' hw' => (hv0 w' hw').congr (e1 _).symm, ?_⟩
          rw [g2, if_pos hwp, if_neg hkp]
          simp only [if_true]
          refine ⟨mk, obj, hr.congr (e2 v0), fun b => ?_⟩
          have hb := h b
          rw [g1, if_pos hwi, if_pos hki] at hb
          obtain ⟨v, hv, hn'⟩ := hb
          have := ((hv wn (.inr hwn)).congr (e1 _).symm).uniq ((hv0 wn (.inr hwn)).congr (e1 _).symm)
          subst this
          rw [← comm]
          exact hn'
        · have hk4 : ki = 4 := by omega
          subst hk4
          rw [if_neg hki]
          simp only [if_true]
          have h0 := h 0
          rw [g1, if_pos hwi, if_neg hki] at h0
          simp only [if_true] at h0
          obtain ⟨mk0, obj0, hr0, _⟩ := h0
          have hr0' := hr0.congr (a' := a) (e1 _).symm
          refine ⟨mk0, obj0, hr0', fun b2 => ?_⟩
          rw [g2, if_pos hwp]
          try rw [if_neg hkp]
          try simp only [if_true]
          refine ⟨mk, obj, hr.congr (e2 _), fun b1 => ?_⟩
          have hb := h b1
          rw [g1, if_pos hwi, if_neg hki] at hb
          simp only [if_true] at hb
          obtain ⟨mk1, obj1, hr1, hb⟩ := hb
          obtain ⟨rfl, rfl⟩ := (hr1.congr (a' := a) (e1 _).symm).uniq hr0' wn
          rw [← comm]
          exact hn _ _ _ (List.Perm.swap _ _ _) (hb b2)
    · rw [if_neg hwi]
      rw [g2, if_pos hwp]
      by_cases hkp : kp ≤ 1
      · rw [if_pos hkp] at h ⊢
        obtain ⟨vp, hvp, h⟩ := h
        rw [g1, if_neg hwi] at h
        exact ⟨vp, fun w' hw' => (hvp w' hw').congr (e2 _), by rw [← comm]; exact h⟩
      · rw [if_neg hkp] at h ⊢
        have hk4 : kp = 4 := by omega
        obtain ⟨L, rfl⟩ := hσ.resolve_right (by omega)
        subst hk4
        first | (simp only [if_true] at h ⊢; done) | (simp only [if_true] at h) | skip
        try simp only [if_true]
        obtain ⟨mk, obj, hr, h⟩ := h
        refine ⟨mk, obj, hr.congr (e2 _), fun b => ?_⟩
        have hb := h b
        rw [g1, if_neg hwi] at hb
        rw [← comm]
        exact hb
  · rw [if_neg hwp] at h
    rw [g1] at h
    by_cases hwi : Region.wanted i (yielded ops a.tmps) = true
    · rw [if_pos hwi] at h ⊢
      by_cases hki : ki ≤ 1
      · rw [if_pos hki] at h ⊢
        obtain ⟨vi, hvi, h⟩ := h
        refine ⟨vi, fun w' hw' => (hvi w' hw').congr (e1 _).symm, ?_⟩
        rw [g2, if_neg hwp, ← comm]
        exact h
      · rw [if_neg hki] at h ⊢
        cases σ with
        | inl L =>
          simp only at h ⊢
          split
          · rename_i h4
            rw [if_pos h4] at h
            obtain ⟨mk, obj, hr, h⟩ := h
            refine ⟨mk, obj, hr.congr (e1 _).symm, fun b => ?_⟩
            rw [g2, if_neg hwp, ← comm]
            exact h b
          · rename_i h4
            rw [if_neg h4] at h
            intro w hw
            refine ((h w hw).congr (a' := a) (e1 _).symm).mono fun u w2 hu => ?_
            rw [g2, if_neg hwp, ← comm]
            exact hu
        | inr w =>
          simp only at h ⊢
          refine (h.congr (a' := a) (e1 _).symm).mono fun u w2 hu => ?_
          rw [g2, if_neg hwp, ← comm]
          exact hu
    · rw [if_neg hwi] at h ⊢
      rw [g2, if_neg hwp, ← comm]
      exact h
theorem stepC_mono {o : Oper} {k : Nat} {n1 n2 : StC → Act → Prop} {a : Act} {σ : StC} (hk : k ≠ 3 ∨ ∃ w, σ = .inr w) (h : ∀ σ' a, ((∃ L, σ = .inl L) → ∃ L, σ' = .inl L) → n1 σ' a → n2 σ' a) (hs : stepC P ops w0 M L0 o k n1 σ a) (hle : k ≤ 4) (h2 : k ≠ 2) : stepC P ops w0 M L0 o k n2 σ a := by
  unfold stepC at *
  split
  · rename_i hw
    rw [if_pos hw] at hs
    split
    · rename_i hk
      rw [if_pos hk] at hs
      obtain ⟨v, h1, h2⟩ := hs
      exact ⟨v, h1, h _ _ id h2⟩
    · rename_i hk1
      rw [if_neg hk1] at hs
      cases σ with
      | inl L =>
        simp only at hs ⊢
        have h4 : k = 4 := by
          rcases hk with hk | ⟨w, hk⟩
          · omega
          · cases hk
        rw [if_pos h4] at hs ⊢
        obtain ⟨mk, obj, hr, hs⟩ := hs
        exact ⟨mk, obj, hr, fun b => h _ _ (fun _ => ⟨_, rfl⟩) (hs b)⟩
      | inr w => exact hs.mono fun u w2 hu => h _ _ (fun ⟨L, hL⟩ => by cases hL) hu
  · rename_i hw
    rw [if_neg hw] at hs
    exact h _ _ id hs
theorem frontC {i : Nat} {oi : Oper} (hoi : ops[i]? = some oi) (hsi : noSel oi = true) (hne : ∃ w, St w0 M w L0) :
    ∀ (pre post : List Nat) (σ : StC) (a : Act),
      (∀ p ∈ pre, ∃ op, ops[p]? = some op ∧ noSel op = true ∧ oi.apart ops op = true ∧ okPairC (ks.getD p 0) (ks.getD i 0) = true) →
      ((∃ L, σ = .inl L) ∨ ∀ p ∈ pre, ks.getD p 0 = 0) →
      wpC P ops ks w0 M L0 K (pre ++ i :: post) σ a → stepC P ops w0 M L0 oi (ks.getD i 0) (wpC P ops ks w0 M L0 K (pre ++ post)) σ a := by
  intro pre
  induction pre with
  | nil => intro post σ a _ _ h; simpa [wpC, hoi] using h
  | cons p pre ih =>
    intro post σ a hpre hσ h
    obtain ⟨op, hop, hsp, hap, hok⟩ := hpre p (by simp)
    have e : wpC P ops ks w0 M L0 K (p :: pre ++ post) = stepC P ops w0 M L0 op (ks.getD p 0) (wpC P ops ks w0 M L0 K (pre ++ post)) := by
      funext σ a
      simp [wpC, hop]
    rw [e]
    have h' : stepC P ops w0 M L0 op (ks.getD p 0) (wpC P ops ks w0 M L0 K (pre ++ i :: post)) σ a := by simpa [wpC, hop] using h
    have hk := hok
    simp only [okPairC, Bool.or_eq_true, Bool.and_eq_true, beq_iff_eq, decide_eq_true_eq] at hk
    refine stepC_swap (wpC_perm _) hne hap hsi hsp hok (hσ.imp id fun h => h p (by simp)) ?_
    refine stepC_mono (.inl (by omega)) (fun σ' a' hL hh => ?_) h' (by omega) (by omega)
    exact ih post σ' a' (fun q hq => hpre q (by simp [hq])) (hσ.imp hL fun h q hq => h q (by simp [hq])) hh
def pairOkC (ops : Array Oper) (ks : List Nat) (p i : Nat) : Bool :=
  reach ops ops.size p i || (match ops[p]?, ops[i]? with
    | some op, some oi => oi.apart ops op && okPairC (ks.getD p 0) (ks.getD i 0)
    | _, _ => false)
def lookC (ops : Array Oper) (ks : List Nat) : Bool :=
  (List.range ops.size).all fun i =>
    (match ops[i]? with
      | some o => noSel o && (o.after.all fun e => !Region.binds .any e || decide (e.on < i)) && (decide (ks.getD i 0 ≤ 1) || ks.getD i 0 == 3 || ks.getD i 0 == 4)
      | none => false) &&
    (List.range i).all fun p => pairOkC ops ks p i && (ks.getD p 0 != 3 || ks.getD i 0 == 0 || ks.getD i 0 == 3)
theorem lookC_pair {p i : Nat} (h : lookC ops ks = true) (hi : i < ops.size) (hp : p < i) : pairOkC ops ks p i = true ∧ (ks.getD p 0 = 3 → ks.getD i 0 = 0 ∨ ks.getD i 0 = 3) := by
  have h1 := List.all_eq_true.1 h i (List.mem_range.2 hi)
  simp only [Bool.and_eq_true] at h1
  have h2 := List.all_eq_true.1 h1.2 p (List.mem_range.2 hp)
  simp only [Bool.and_eq_true, Bool.or_eq_true, bne_iff_ne, beq_iff_eq] at h2
  exact ⟨h2.1, fun h3 => by rcases h2.2 with (h4 | h4) | h4 <;> first | exact absurd h3 h4 | exact .inl h4 | exact .inr h4⟩
theorem lookC_edge {i : Nat} {o : Oper} (h : lookC ops ks = true) (ho : ops[i]? = some o) : noSel o = true ∧ (∀ e ∈ o.after, Region.binds .any e = true → e.on < i) ∧ ((ks.getD i 0 ≤ 1 ∨ ks.getD i 0 = 3) ∨ ks.getD i 0 = 4) := by
  have hi : i < ops.size := (Array.getElem?_eq_some_iff.1 ho).1
  have h1 := List.all_eq_true.1 h i (List.mem_range.2 hi)
  simp only [Bool.and_eq_true, ho, decide_eq_true_eq, Bool.or_eq_true, beq_iff_eq] at h1
  refine ⟨h1.1.1.1, fun e he hb => ?_, h1.1.2⟩
  have h2 := Array.all_eq_true'.1 h1.1.1.2 e he
  simpa [hb] using h2
/-- what a state says of the world -/
def StC.is (w0 : World) (M : List Nat) (L0 : List Ent) (w : World) : StC → Prop
  | .inl L => St w0 M w L ∧ L0.Sublist L
  | .inr w' => w' = w
theorem stepC_wpOp {i : Nat} {o : Oper} (ho : ops[i]? = some o) {k : Nat} {next : StC → Act → Prop} {N : Act → World → Prop} {Q : Exit → Act → World → Prop} {a : Act} {w : World} {σ : StC} (hσ : σ.is w0 M L0 w) (hk : ((k ≤ 1 ∨ k = 3) ∨ k = 4) ∧ ((∃ w, σ = .inr w) → k = 0 ∨ k = 3))
    (hN : ∀ σ' a' w', σ'.is w0 M L0 w' → ((∃ w, σ' = .inr w) → (∃ w, σ = .inr w) ∨ k = 3) → next σ' a' → N a' w') (h : stepC P ops w0 M L0 o k next σ a) : wpOp P ops Q i N a w := by
  unfold stepC at h
  unfold wpOp
  simp only [ho]
  by_cases hw : Region.wanted o (yielded ops a.tmps) = true
  · rw [if_pos hw] at h ⊢
    refine .inl (Eff.wp ?_)
    by_cases hk1 : k ≤ 1
    · rw [if_pos hk1] at h
      obtain ⟨v, hv, hn⟩ := h
      refine Eff.value (hv w ?_) (hN _ _ _ hσ .inl hn)
      cases σ with
      | inl L => exact .inr (hσ.1.less hσ.2)
      | inr w' => exact .inl (by have := hk.2 ⟨w', rfl⟩; omega)
    · rw [if_neg hk1] at h
      cases σ with
      | inl L =>
        simp only at h
        by_cases h4 : k = 4
        · rw [if_pos h4] at h
          obtain ⟨mk, obj, hr, h⟩ := h
          exact Eff.value (hr w) (hN (.inl _) _ _ ⟨hσ.1.newMp obj, hσ.2.cons _⟩ (fun ⟨w, h⟩ => by cases h) (h _))
        · rw [if_neg h4] at h
          exact (h w hσ.1).mono fun u w2 hu => hN (.inr w2) _ _ rfl (fun _ => .inr (by omega)) hu
      | inr w' =>
        obtain rfl : w' = w := hσ
        exact h.mono fun u w2 hu => hN (.inr w2) _ _ rfl (fun _ => .inl ⟨w', rfl⟩) hu
  · rw [if_neg hw] at h ⊢
    exact hN σ _ _ hσ .inl h
theorem wpC_any {Q : Exit → Act → World → Prop} (hlook : lookC ops ks = true) (hne : ∃ w, St w0 M w L0) (hQ : ∀ a w, K a w → Q .normal a w) :
    ∀ (fuel : Nat) (listed : Array Bool) (a : Act) (w : World) (σ : StC), (rem ops listed).length ≤ fuel → listed.size = ops.size → Closed ops listed → σ.is w0 M L0 w →
      ((∃ w, σ = .inr w) → ∀ p ∈ rem ops listed, ks.getD p 0 = 0 ∨ ks.getD p 0 = 3) → wpC P ops ks w0 M L0 K (rem ops listed) σ a → wpAny P .any ops Q fuel listed a w := by
  have done : ∀ (a : Act) (w : World) (σ : StC), σ.is w0 M L0 w → wpC P ops ks w0 M L0 K [] σ a → Q .normal a w := by
    intro a w σ hσ h
    cases σ with
    | inl L => exact hQ _ _ (h w hσ.1)
    | inr w' => obtain rfl : w' = w := hσ; exact hQ _ _ h
  have none_left : ∀ (listed : Array Bool), listed.size = ops.size → Region.ready .any ops listed = [] → rem ops listed = [] := by
    intro listed hl hr
    cases hrem : rem ops listed with
    | nil => rfl
    | cons i r =>
      exfalso
      have hi : i ∈ rem ops listed := by rw [hrem]; simp
      obtain ⟨hlt, hun⟩ := mem_rem.1 hi
      have ho : ops[i]? = some ops[i] := Array.getElem?_eq_getElem hlt
      have hin : i ∈ Region.ready .any ops listed := by
        refine mem_ready.2 ⟨hun, ops[i], ho, fun e he hb => ?_⟩
        have hei := (lookC_edge hlook ho).2.1 e he hb
        have hsorted := rem_sorted (ops := ops) listed
        rw [hrem] at hsorted
        have hnot : e.on ∉ rem ops listed := by
          rw [hrem]
          intro hm
          rcases List.mem_cons.1 hm with h | h
          · omega
          · have := (List.pairwise_cons.1 hsorted).1 _ h; omega
        have hes : e.on < listed.size := by omega
        cases hv : listed.getD e.on true with
        | false => exact absurd (mem_rem.2 ⟨by omega, hv⟩) hnot
        | true => simpa [hes] using hv
      rw [hr] at hin
      cases hin
  intro fuel
  induction fuel with
  | zero =>
    intro listed a w σ hf hl hc hσ h3 h
    have hrem : rem ops listed = [] := List.eq_nil_of_length_eq_zero (by omega)
    refine ⟨?_, done a w σ hσ (by rw [hrem] at h; exact h)⟩
    cases hr : Region.ready .any ops listed with
    | nil => rfl
    | cons i r =>
      have hi : i ∈ Region.ready .any ops listed := by rw [hr]; simp
      obtain ⟨hun, o, ho, _⟩ := mem_ready.1 hi
      have : i ∈ rem ops listed := mem_rem.2 ⟨(Array.getElem?_eq_some_iff.1 ho).1, hun⟩
      rw [hrem] at this
      cases this
  | succ fuel ih =>
    intro listed a w σ hf hl hc hσ h3 h
    refine ⟨fun hr => done a w σ hσ (by rw [none_left listed hl hr] at h; exact h), fun i hi => ?_⟩
    obtain ⟨hun, oi, hoi, hall⟩ := mem_ready.1 hi
    have hlt : i < ops.size := (Array.getElem?_eq_some_iff.1 hoi).1
    have him : i ∈ rem ops listed := mem_rem.2 ⟨hlt, hun⟩
    obtain ⟨pre, post, hsplit⟩ := List.append_of_mem him
    have hsorted := rem_sorted (ops := ops) listed
    rw [hsplit] at hsorted
    rw [List.pairwise_append] at hsorted
    obtain ⟨hs1, hs2, hs3⟩ := hsorted
    have hpre : ∀ p ∈ pre, ∃ op, ops[p]? = some op ∧ noSel op = true ∧ oi.apart ops op = true ∧ okPairC (ks.getD p 0) (ks.getD i 0) = true := by
      intro p hp
      have hpi : p < i := hs3 p hp i (by simp)
      have hpm : p ∈ rem ops listed := by rw [hsplit]; simp [hp]
      have hpu := (mem_rem.1 hpm).2
      have hop : ops[p]? = some ops[p] := Array.getElem?_eq_getElem (by omega)
      have hpair := (lookC_pair hlook hlt hpi).1
      unfold pairOkC at hpair
      simp only [Bool.or_eq_true] at hpair
      rcases hpair with hre | hpair
      · have := ready_reach hc hi hre
        have hps : p < listed.size := by omega
        simp [hps] at this hpu
        rw [this] at hpu
        cases hpu
      · simp only [hop, hoi, Bool.and_eq_true] at hpair
        exact ⟨ops[p], hop, (lookC_edge hlook hop).1, hpair.1, hpair.2⟩
    have hki := (lookC_edge hlook hoi).2.2
    have hin3 : (∃ w, σ = .inr w) → ks.getD i 0 = 0 ∨ ks.getD i 0 = 3 := fun hr => h3 hr i him
    have hfront := frontC (P := P) (K := K) (ks := ks) hoi (lookC_edge hlook hoi).1 hne pre post σ a hpre (by
      cases σ with
      | inl L => exact .inl ⟨L, rfl⟩
      | inr w' =>
        right
        intro p hp
        obtain ⟨op, _, _, _, hok⟩ := hpre p hp
        have h3p := h3 ⟨w', rfl⟩ p (by rw [hsplit]; simp [hp])
        simp only [okPairC, Bool.or_eq_true, Bool.and_eq_true, beq_iff_eq, decide_eq_true_eq] at hok
        omega) (by rw [← hsplit]; exact h)
    have hset := rem_set hl hsplit
    refine stepC_wpOp hoi hσ ⟨hki, hin3⟩ (fun σ' a' w' hσ' hkk hn => ?_) hfront
    refine ih _ a' w' σ' ?_ (by simp [hl]) ?_ hσ' ?_ (by rw [hset]; exact hn)
    · rw [hset]
      rw [hsplit] at hf
      simp only [List.length_append, List.length_cons] at hf ⊢
      omega
    · intro j o hj hlj e he hb
      by_cases hij : i = j
      · subst hij
        have : o = oi := Option.some.inj (hj.symm.trans hoi)
        subst this
        exact getD_set_true (hall e he hb)
      · rw [getD_set_ne false hij] at hlj
        exact getD_set_true (hc j o hj hlj e he hb)
    · rw [hset]
      intro hr p hp
      rcases hkk hr with hr' | hk3
      · exact h3 hr' p (by rw [hsplit]; rcases List.mem_append.1 hp with h | h <;> simp [h])
      · rcases List.mem_append.1 hp with hp | hp
        · obtain ⟨op, _, _, _, hok⟩ := hpre p hp
          simp only [okPairC, Bool.or_eq_true, Bool.and_eq_true, beq_iff_eq, decide_eq_true_eq] at hok
          omega
        · have hpi := (List.pairwise_cons.1 hs2).1 p hp
          have hpm : p ∈ rem ops listed := by rw [hsplit]; simp [hp]
          exact (lookC_pair hlook (mem_rem.1 hpm).1 hpi).2 hk3
/-- THE REGION's RULE. -/
theorem wp_region_C {id : Nat} {l : List Oper} {Q : Exit → Act → World → Prop} {a : Act} {w : World} (ks : List Nat) (hm : P.follows .mixedOrders = true) (hlook : lookC l.toArray ks = true)
    (hO : St w0 M w L0) (h : wpCl P l.toArray w0 M L0 (Q .normal) l ks (.inl L0) a) : (Code.region id l.toArray true).wp P Q a w := by
  refine wp_region_any hm ?_
  have e0 : rem l.toArray (Array.replicate l.toArray.size false) = List.range' 0 l.length := by
    unfold rem
    rw [List.range_eq_range', List.filter_eq_self.2]
    · simp
    · intro i hi
      have : i < l.length := by simpa using hi
      simp [this]
  have hO' : St w0 M w.drew L0 := hO.drew
  refine wpC_any (ks := ks) (K := Q .normal) (w0 := w0) (M := M) (L0 := L0) hlook ⟨_, hO'⟩ (fun _ _ h => h) _ _ _ _ (.inl L0) ?_ (by simp) ?_ ⟨hO', List.Sublist.refl _⟩ (fun ⟨w, h⟩ => by cases h) ?_
  · rw [e0]; simp
  · intro j o hj hl
    simp at hl
    have : j < l.length := by simpa using (Array.getElem?_eq_some_iff.1 hj).1
    simp [this] at hl
  · rw [e0, wpC_eq (ks := ks) l 0 ks (fun j => by simp) (fun j => by simp)]
    exact h
/-! the steps -/
variable {rest : List Oper} {o : Oper} {n d : Nat} {F : List (Nat × Value)} {v : Value} {a : Act} {σ : StC} {L : List Ent} {R : Value → World → Prop}
theorem wc_p (hF : Fr a n F) (hg : o.guard = none) (hd : o.dst = some d) (hn : Nat.ble (d + 1) n = true) (h : ∀ w, QV P o a w v)
    (next : ∀ a, Fr a n ((d, v) :: F) → wpCl P ops w0 M L0 K rest ks σ a) : wpCl P ops w0 M L0 K (o :: rest) (0 :: ks) σ a := by
  show stepC P ops w0 M L0 o 0 (wpCl P ops w0 M L0 K rest ks) σ a
  unfold stepC
  rw [if_pos (by simp [Region.wanted, hg]), if_pos (by omega)]
  exact ⟨v, fun w' _ => h w', by rw [hd]; exact next _ (hF.put (Nat.le_of_ble_eq_true hn) v)⟩
theorem wc_r (hF : Fr a n F) (hg : o.guard = none) (hd : o.dst = some d) (hn : Nat.ble (d + 1) n = true) (h : ∀ w, St w0 M w L0 → QV P o a w v)
    (next : ∀ a, Fr a n ((d, v) :: F) → wpCl P ops w0 M L0 K rest ks σ a) : wpCl P ops w0 M L0 K (o :: rest) (1 :: ks) σ a := by
  show stepC P ops w0 M L0 o 1 (wpCl P ops w0 M L0 K rest ks) σ a
  unfold stepC
  rw [if_pos (by simp [Region.wanted, hg]), if_pos (by omega)]
  exact ⟨v, fun w' hc => h w' (hc.resolve_left (by omega)), by rw [hd]; exact next _ (hF.put (Nat.le_of_ble_eq_true hn) v)⟩
theorem wc_m {mk : Nat → Value} {obj : Obj} (hF : Fr a n F) (hg : o.guard = none) (hd : o.dst = some d) (hn : Nat.ble (d + 1) n = true) (h : mkRun P o a mk obj)
    (next : ∀ b a, Fr a n ((d, mk b) :: F) → wpCl P ops w0 M L0 K rest ks (.inl (.mp b obj :: L)) a) : wpCl P ops w0 M L0 K (o :: rest) (4 :: ks) (.inl L) a := by
  show stepC P ops w0 M L0 o 4 (wpCl P ops w0 M L0 K rest ks) (.inl L) a
  unfold stepC
  rw [if_pos (by simp [Region.wanted, hg]), if_neg (by omega)]
  simp only [if_true]
  exact ⟨mk, obj, h, fun b => by rw [hd]; exact next b _ (hF.put (Nat.le_of_ble_eq_true hn) _)⟩
/-- the first that turns the world otherwise: from here on the world is known -/
theorem wc_w (h : ∀ w, St w0 M w L → wpCl P ops w0 M L0 K (o :: rest) (3 :: ks) (.inr w) a) (hg : o.guard = none) : wpCl P ops w0 M L0 K (o :: rest) (3 :: ks) (.inl L) a := by
  show stepC P ops w0 M L0 o 3 (wpCl P ops w0 M L0 K rest ks) (.inl L) a
  unfold stepC
  rw [if_pos (by simp [Region.wanted, hg]), if_neg (by omega)]
  simp only [show ¬ (3 : Nat) = 4 by omega, if_false]
  intro w hw
  have := h w hw
  have h' : stepC P ops w0 M L0 o 3 (wpCl P ops w0 M L0 K rest ks) (.inr w) a := this
  unfold stepC at h'
  rw [if_pos (by simp [Region.wanted, hg]), if_neg (by omega)] at h'
  exact h'
theorem wc_f {w : World} (hF : Fr a n F) (hg : o.guard = none) (hd : o.dst = some d) (hn : Nat.ble (d + 1) n = true) (h : Eff P o a w R)
    (next : ∀ a v w, R v w → Fr a n ((d, v) :: F) → wpCl P ops w0 M L0 K rest ks (.inr w) a) : wpCl P ops w0 M L0 K (o :: rest) (3 :: ks) (.inr w) a := by
  show stepC P ops w0 M L0 o 3 (wpCl P ops w0 M L0 K rest ks) (.inr w) a
  unfold stepC
  rw [if_pos (by simp [Region.wanted, hg]), if_neg (by omega)]
  exact h.mono fun v w' hR => by rw [hd]; exact next _ _ _ hR (hF.put (Nat.le_of_ble_eq_true hn) v)
theorem wc_s {w : World} (hF : Fr a n F) (hg : o.guard = none) (hd : o.dst = none) (h : Eff P o a w R)
    (next : ∀ a v w, R v w → Fr a n F → wpCl P ops w0 M L0 K rest ks (.inr w) a) : wpCl P ops w0 M L0 K (o :: rest) (3 :: ks) (.inr w) a := by
  show stepC P ops w0 M L0 o 3 (wpCl P ops w0 M L0 K rest ks) (.inr w) a
  unfold stepC
  rw [if_pos (by simp [Region.wanted, hg]), if_neg (by omega)]
  exact h.mono fun v w' hR => by rw [hd]; exact next _ _ _ hR (hF.putNone v)
theorem wc_nil (h : ∀ w, St w0 M w L → K a w) : wpCl P ops w0 M L0 K [] ks (.inl L) a := h
theorem wc_nilw {w : World} (h : K a w) : wpCl P ops w0 M L0 K [] ks (.inr w) a := h
/-! what is known of a new block -/
theorem St.retype {w : World} (hO : St w0 M w L) {i b : Nat} {obj : Obj} {e : Ent} (hi : L[i]? = some (.mp b obj)) (hb : e.blk = some b) (he : w.heap[b]? = some obj → e.ok w) (h2 : e.single = true := by rfl) : St w0 M w (L.set i e) :=
  hO.turnAt hi rfl rfl rfl (Nat.le_refl _) (fun _ _ _ => rfl) (he (hO.ok hi)) (.inl hb) rfl h2
theorem St.asOb {w : World} (hO : St w0 M w L) {i b : Nat} {t : TypeId} {cs : List Value} (hi : L[i]? = some (.mp b (.cells cs.toArray t))) : St w0 M w (L.set i (.ob b t cs)) :=
  hO.retype hi rfl fun h => h
theorem St.asSl {w : World} (hO : St w0 M w L) {i b e size m cap : Nat} {cur : Array Value} {xs : List Value} (hi : L[i]? = some (.mp b (.cells cur e))) (hx : xs.length = m * size) (hmc : m ≤ cap) (hm : cap ≤ 9223372036854775807) (hc : cur.size = cap * size) (ht : cur.toList.take (m * size) = xs) :
    St w0 M w (L.set i (.sl (.slice (some ⟨b, 0, none⟩) m cap) e size m xs)) :=
  hO.retype hi rfl fun h => ⟨hx, .inr ⟨b, cap, cur, rfl, Nat.zero_le _, h, hmc, by unfold maxLen; exact hm, hc, ht⟩⟩
theorem m_alloc {t : TypeId} {z : Value} {cs : List Value} (hz : ∀ w, (zeroValue t).run P w = .ok z w) (ho : o.op = .alloc t) (hc : z.cells = cs.toArray) : mkRun P o a (fun b => ptr (adr b)) (.cells cs.toArray t) := fun w => by
  simp only [execOp, ho, Sem.run_bind, Instr.alloc, hz, Result.andThen_ok, newVar, newRow, hc, run_newObj]
  rfl
theorem m_box {t : TypeId} {x : Operand} {cs : List Value} (ho : o.op = .box t x) (hx : a.eval x = v) (hc : v.cells = cs.toArray) : mkRun P o a (fun b => ptr (adr b)) (.cells cs.toArray t) := fun w => by
  simp only [execOp, ho, Sem.run_bind, Instr.box, newVar, newRow, hx, hc, run_newObj, Result.andThen_ok]
  rfl
set_option linter.unusedVariables false in
theorem m_makeT {α : Type} {E : Enc α} {z : α} {t e : TypeId} {inf : TypeInfo} {zv : Value} {bytes m : Nat} {k k' : IntKind} {x y : Operand} (ht : P.underlying t = some (.slice e)) (hinf : P.info? e = some inf) (hz : inf.zero = some zv) (hsize : inf.size = E.size) (hby : inf.bytes = bytes)
    (ho : o.op = .makeSlice t x y) (hx : a.eval x = .int k (m : Int)) (hy : a.eval y = .int k' (m : Int)) (hb : bytes * m ≤ 281474976710656) (hm : m ≤ 9223372036854775807) :
    mkRun P o a (fun b => .slice (some ⟨b, 0, none⟩) m m) (.cells (madeCells zv.cells (m * E.size)) e) := fun w => by
  subst hby
  have hb' : (inf.bytes : Int) * (m : Int) ≤ 281474976710656 := by rw [← Int.natCast_mul]; omega
  have hr := run_make (P := P) w t e inf zv ht hinf hz k k' m m (by omega) (Int.le_refl _) hb' (by omega)
  simp only [Int.toNat_natCast] at hr
  rw [hsize] at hr
  simp only [execOp, ho, hx, hy, Sem.run_bind, hr, Result.andThen_ok]
  rfl
theorem St.asMade {α : Type} {w : World} {E : Enc α} {z : α} {zv : Value} (hO : St w0 M w L) {i b e m : Nat} (hi : L[i]? = some (.mp b (.cells (madeCells zv.cells (m * E.size)) e))) (hzc : zv.cells = (E.cells z).toArray) (h1 : Nat.ble 1 E.size = true) (hm : m ≤ 9223372036854775807) :
    St w0 M w (L.set i (slT (.slice (some ⟨b, 0, none⟩) m m) e E (List.replicate m z))) := by
  unfold slT
  rw [List.length_replicate]
  refine hO.asSl hi (by rw [flat_len, List.length_replicate]) (Nat.le_refl _) hm (size_madeCells _ _) ?_
  rw [made_flat E z zv hzc (Nat.le_of_ble_eq_true h1) m, List.take_of_length_le (by rw [flat_len, List.length_replicate]; exact Nat.le_refl _)]
end
end Go.Proofs.Ytglienidnffnjaa
