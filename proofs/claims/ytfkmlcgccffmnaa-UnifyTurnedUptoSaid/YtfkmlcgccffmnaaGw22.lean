/- GW18: REGIONS IN WHICH NEW BLOCKS ARE MADE IN AN OPEN ORDER: kind 4: an operation that makes one new block whose content does not hang on the world. -/
import Derived.Test.YtfkmlcgccffmnaaGw17
import Derived.ChangeArms
import Derived.OpenShut
import Derived.Below
import Derived.WideLaws
import Derived.Lib.ConvBytes
namespace Go.Proofs.Ytfkmlcgccffmnaa
open Go
section
variable (P : Program) (ops : Array Oper) (ks : List Nat) (w0 : World) (M : List Nat) (L0 : List Ent) (K : Act → World → Prop)
abbrev StC := List Ent ⊕ World
/-- the operation makes one block -/
def mkRun (o : Oper) (a : Act) (mk : Nat → Value) (obj : Obj) : Prop := ∀ w : World, (execOp a.eval o).run P w = .ok (.value (mk w.heap.size)) (w.alloc obj)
def stepC (o : Oper) (k : Nat) (next : StC → Act → Prop) (σ : StC) (a : Act) : Prop :=
  if Region.wanted o (yielded ops a.tmps) then
    if k ≤ 1 then ∃ v, (∀ w, (k = 0 ∨ St w0 M w L0) → QV P o a w v) ∧ next σ (a.put o.dst v)
    else match σ with
      | .inl L => if k = 4 then ∃ mk obj, mkRun P o a mk obj ∧ ∀ b, next (.inl (.mp b obj :: L)) (a.put o.dst (mk b))
        else ∀ w, St w0 M w L → Eff P o a w (fun u w2 => next (.inr w2) (a.put o.dst u))
      | .inr w => Eff P o a w (fun u w2 => next (.inr w2) (a.put o.dst u))
  else next σ (a.put o.dst undef)
def wpC : List Nat → StC → Act → Prop
  | [], .inl L, a => ∀ w, St w0 M w L → K a w
  | [], .inr w, a => K a w
  | i :: rest, σ, a => match ops[i]? with
    | none => wpC rest σ a
    | some o => stepC P ops w0 M L0 o (ks.getD i 0) (wpC rest) σ a
def wpCl : List Oper → List Nat → StC → Act → Prop
  | [], _, .inl L, a => ∀ w, St w0 M w L → K a w
  | [], _, .inr w, a => K a w
  | o :: rest, ks, σ, a => stepC P ops w0 M L0 o (ks.headD 0) (wpCl rest ks.tail) σ a
end
section
variable {P : Program} {ops : Array Oper} {ks : List Nat} {w0 : World} {M : List Nat} {L0 : List Ent} {K : Act → World → Prop}
def PermInv (next : StC → Act → Prop) : Prop := ∀ L L' a, L.Perm L' → next (.inl L) a → next (.inl L') a
theorem stepC_perm {o : Oper} {k : Nat} {next : StC → Act → Prop} (hn : PermInv next) : PermInv (stepC P ops w0 M L0 o k next) := by
  intro L L' a hp h
  unfold stepC at h ⊢
  split
  · rename_i hw
    rw [if_pos hw] at h
    split
    · rename_i hk
      rw [if_pos hk] at h
      obtain ⟨v, h1, h2⟩ := h
      exact ⟨v, h1, hn _ _ _ hp h2⟩
    · rename_i hk
      rw [if_neg hk] at h
      simp only at h ⊢
      split
      · rename_i h4
        rw [if_pos h4] at h
        obtain ⟨mk, obj, h1, h2⟩ := h
        exact ⟨mk, obj, h1, fun b => hn _ _ _ (hp.cons _) (h2 b)⟩
      · rename_i h4
        rw [if_neg h4] at h
        exact fun w hw => h w (hw.perm hp)
  · rename_i hw
    rw [if_neg hw] at h
    exact hn _ _ _ hp h
theorem wpC_perm : ∀ (l : List Nat), PermInv (wpC P ops ks w0 M L0 K l)
  | [], L, L', a, hp, h => fun w hw => h w (hw.perm hp)
  | i :: l, L, L', a, hp, h => by
    unfold wpC at h ⊢
    split
    · rename_i ho; rw [ho] at h; exact wpC_perm l L L' a hp h
    · rename_i o ho
      rw [ho] at h
      exact stepC_perm (wpC_perm l) L L' a hp h
theorem wpC_eq (l : List Oper) : ∀ (k : Nat) (kl : List Nat), (∀ j, l[j]? = ops[k + j]?) → (∀ j, kl.getD j 0 = ks.getD (k + j) 0) → wpC P ops ks w0 M L0 K (List.range' k l.length) = wpCl P ops w0 M L0 K l kl := by
  induction l with
  | nil =>
    intro k kl _ _
    funext σ a
    cases σ <;> simp [wpC, wpCl]
  | cons o l ih =>
    intro k kl h hk
    have h0 : ops[k]? = some o := by simpa using (h 0).symm
    have hk0 : kl.headD 0 = ks.getD k 0 := by
      have := hk 0
      cases kl <;> simpa using this
    have ih' := ih (k + 1) kl.tail (fun j => by have := h (j + 1); simpa [Nat.add_assoc, Nat.add_comm 1 j] using this)
      (fun j => by
        have h1 := hk (j + 1)
        rw [show k + 1 + j = k + (j + 1) by omega, ← h1]
        cases kl <;> simp)
    funext σ a
    simp only [List.length_cons, List.range'_succ, wpC, h0, wpCl, ih', hk0]
theorem mkRun.congr {o : Oper} {a a' : Act} {mk : Nat → Value} {obj : Obj} (h : mkRun P o a mk obj) (he : execOp a'.eval o = execOp a.eval o) : mkRun P o a' mk obj := by
  unfold mkRun at *; rw [he]; exact h
theorem mkRun.uniq {o : Oper} {a : Act} {mk mk' : Nat → Value} {obj obj' : Obj} (h : mkRun P o a mk obj) (h' : mkRun P o a mk' obj') (w : World) : mk = mk' ∧ obj = obj' := by
  have key : ∀ w : World, mk w.heap.size = mk' w.heap.size ∧ obj = obj' := fun w => by
    have e := (h w).symm.trans (h' w)
    injection e with e1 e2
    injection e1 with e1
    refine ⟨e1, ?_⟩
    have e3 := congrArg (fun W : World => W.heap[w.heap.size]?) e2
    simp only [heap_alloc_new] at e3
    injection e3
  refine ⟨funext fun n => ?_, (key w).2⟩
  have := (key { w with heap := Array.replicate n obj }).1
  simpa using this
def okPairC (k1 k2 : Nat) : Bool := (k1 == 0 && (k2 ≤ 4)) || (k2 == 0 && (k1 ≤ 1 || k1 == 4)) || (k1 == 1 && (k2 == 1 || k2 == 4)) || (k1 == 4 && (k2 == 1 || k2 == 4))
theorem QV.uniq {o : Oper} {a : Act} {w : World} {v v' : Value} (h : QV P o a w v) (h' : QV P o a w v') : v = v' := by
  unfold QV at h h'
  rw [h] at h'
  injection h' with h'
  injection h'
/-- Two operations that are apart change places. -/
theorem stepC_swap {p i : Oper} {kp ki : Nat} {next : StC → Act → Prop} (hn : PermInv next) {a : Act} {σ : StC} (hne : ∃ w, St w0 M w L0) (hap : i.apart ops p = true) (hsi : noSel i = true) (hsp : noSel p = true)
    (hok : okPairC kp ki = true) (hσ : (∃ L, σ = .inl L) ∨ kp = 0)
    (h : stepC P ops w0 M L0 p kp (stepC P ops w0 M L0 i ki next) σ a) : stepC P ops w0 M L0 i ki (stepC P ops w0 M L0 p kp next) σ a := by
  obtain ⟨h1, h2, h3⟩ := Oper.apart_spec hap
  have hi := noSel_spec hsi
  have hp := noSel_spec hsp
  have e1 : ∀ v, execOp (a.put p.dst v).eval i = execOp a.eval i := fun v => execOp_put i hi a p.dst v h3
  have e2 : ∀ v, execOp (a.put i.dst v).eval p = execOp a.eval p := fun v => execOp_put p hp a i.dst v h1
  have g1 : ∀ v, Region.wanted i (yielded ops (a.put p.dst v).tmps) = Region.wanted i (yielded ops a.tmps) := fun v => wanted_put i a p.dst v h3
  have g2 : ∀ v, Region.wanted p (yielded ops (a.put i.dst v).tmps) = Region.wanted p (yielded ops a.tmps) := fun v => wanted_put p a i.dst v h1
  have comm : ∀ u v, (a.put p.dst u).put i.dst v = (a.put i.dst v).put p.dst u := fun u v => (Act.put_comm a v u h2).symm
  obtain ⟨wn, hwn⟩ := hne
  simp only [okPairC, Bool.or_eq_true, Bool.and_eq_true, beq_iff_eq, decide_eq_true_eq] at hok
  unfold stepC at h ⊢
  by_cases hwp : Region.wanted p (yielded ops a.tmps) = true
  · rw [if_pos hwp] at h
    by_cases hwi : Region.wanted i (yielded ops a.tmps) = true
    · rw [if_pos hwi]
      by_cases hkp : kp ≤ 1
      · rw [if_pos hkp] at h
        obtain ⟨vp, hvp, h⟩ := h
        rw [g1, if_pos hwi] at h
        by_cases hki : ki ≤ 1
        · rw [if_pos hki] at h ⊢
          obtain ⟨vi, hvi, h⟩ := h
          refine ⟨vi, fun w' hw' => (hvi w' hw').congr (e1 vp).symm, ?_⟩
          rw [g2, if_pos hwp, if_pos hkp]
          exact ⟨vp, fun w' hw' => (hvp w' hw').congr (e2 vi), by rw [← comm]; exact h⟩
        · rw [if_neg hki] at h ⊢
          cases σ with
          | inl L =>
            simp only at h ⊢
            split
            · rename_i h4
              rw [if_pos h4] at h
              obtain ⟨mk, obj, hr, h⟩ := h
              refine ⟨mk, obj, hr.congr (e1 vp).symm, fun b => ?_⟩
              rw [g2, if_pos hwp]; try rw [if_pos hkp]
              exact ⟨vp, fun w' hw' => (hvp w' hw').congr (e2 _), by rw [← comm]; exact h b⟩
            · rename_i h4
              rw [if_neg h4] at h
              intro w hw
              refine ((h w hw).congr (a' := a) (e1 vp).symm).mono fun u w2 hu => ?_
              rw [g2, if_pos hwp]; try rw [if_pos hkp]
              exact ⟨vp, fun w' hw' => (hvp w' hw').congr (e2 u), by rw [← comm]; exact hu⟩
          | inr w =>
            simp only at h ⊢
            refine (h.congr (a' := a) (e1 vp).symm).mono fun u w2 hu => ?_
            rw [g2, if_pos hwp]; try rw [if_pos hkp]
            exact ⟨vp, fun w' hw' => (hvp w' hw').congr (e2 u), by rw [← comm]; exact hu⟩
      · rw [if_neg hkp] at h
        have hk4 : kp = 4 := by omega
        obtain ⟨L, rfl⟩ := hσ.resolve_right (by omega)
        subst hk4
        simp only [if_true] at h
        obtain ⟨mk, obj, hr, h⟩ := h
        by_cases hki : ki ≤ 1
        · rw [if_pos hki]
          have h0 := h 0
          rw [g1, if_pos hwi, if_pos hki] at h0
          obtain ⟨v0, hv0, _⟩ := h0
          refine ⟨v0, fun w' hw' => (hv0 w' hw').congr (e1 _).symm, ?_⟩
          rw [g2, if_pos hwp, if_neg hkp]
          simp only [if_true]
          refine ⟨mk, obj, hr.congr (e2 v0), fun b => ?_⟩
          have hb := h b
          rw [g1, if_pos hwi, if_pos hki] at hb
          obtain ⟨v, hv, hn'⟩ := hb
          have := ((hv wn (.inr hwn)).congr (e1 _).symm).uniq ((hv0 wn (.inr hwn)).congr (e1 _).symm)
          subst this
          rw [← comm]
          exact hn'
        · have hk4 : ki = 4 := by omega
          subst hk4
          rw [if_neg hki]
          simp only [if_true]
          have h0 := h 0
          rw [g1, if_pos hwi, if_neg hki] at h0
          simp only [if_true] at h0
          obtain ⟨mk0, obj0, hr0, _⟩ := h0
          have hr0' := hr0.congr (a' := a) (e1 _).symm
          refine ⟨mk0, obj0, hr0', fun b2 => ?_⟩
          rw [g2, if_pos hwp]
          try rw [if_neg hkp]
          try simp only [if_true]
          refine ⟨mk, obj, hr.congr (e2 _), fun b1 => ?_⟩
          have hb := h b1
          rw [g1, if_pos hwi, if_neg hki] at hb
          simp only [if_true] at hb
          obtain ⟨mk1, obj1, hr1, hb⟩ := hb
          obtain ⟨rfl, rfl⟩ := (hr1.congr (a' := a) (e1 _).symm).uniq hr0' wn
          rw [← comm]
          exact hn _ _ _ (List.Perm.swap _ _ _) (hb b2)
    · rw [if_neg hwi]
      rw [g2, if_pos hwp]
      by_cases hkp : kp ≤ 1
      · rw [if_pos hkp] at h ⊢
        obtain ⟨vp, hvp, h⟩ := h
        rw [g1, if_neg hwi] at h
        exact ⟨vp, fun w' hw' => (hvp w' hw').congr (e2 _), by rw [← comm]; exact h⟩
      · rw [if_neg hkp] at h ⊢
        have hk4 : kp = 4 := by omega
        obtain ⟨L, rfl⟩ := hσ.resolve_right (by omega)
        subst hk4
        first | (simp only [if_true] at h ⊢; done) | (simp only [if_true] at h) | skip
        try simp only [if_true]
        obtain ⟨mk, obj, hr, h⟩ := h
        refine ⟨mk, obj, hr.congr (e2 _), fun b => ?_⟩
        have hb := h b
        rw [g1, if_neg hwi] at hb
        rw [← comm]
        exact hb
  · rw [if_neg hwp] at h
    rw [g1] at h
    by_cases hwi : Region.wanted i (yielded ops a.tmps) = true
    · rw [if_pos hwi] at h ⊢
      by_cases hki : ki ≤ 1
      · rw [if_pos hki] at h ⊢
        obtain ⟨vi, hvi, h⟩ := h
        refine ⟨vi, fun w' hw' => (hvi w' hw').congr (e1 _).symm, ?_⟩
        rw [g2, if_neg hwp, ← comm]
        exact h
      · rw [if_neg hki] at h ⊢
        cases σ with
        | inl L =>
          simp only at h ⊢
          split
          · rename_i h4
            rw [if_pos h4] at h
            obtain ⟨mk, obj, hr, h⟩ := h
            refine ⟨mk, obj, hr.congr (e1 _).symm, fun b => ?_⟩
            rw [g2, if_neg hwp, ← comm]
            exact h b
          · rename_i h4
            rw [if_neg h4] at h
            intro w hw
            refine ((h w hw).congr (a' := a) (e1 _).symm).mono fun u w2 hu => ?_
            rw [g2, if_neg hwp, ← comm]
            exact hu
        | inr w =>
          simp only at h ⊢
          refine (h.congr (a' := a) (e1 _).symm).mono fun u w2 hu => ?_
          rw [g2, if_neg hwp, ← comm]
          exact hu
    · rw [if_neg hwi] at h ⊢
      rw [g2, if_neg hwp, ← comm]
      exact h
theorem stepC_mono {o : Oper} {k : Nat} {n1 n2 : StC → Act → Prop} {a : Act} {σ : StC} (hk : k ≠ 3 ∨ ∃ w, σ = .inr w) (h : ∀ σ' a, ((∃ L, σ = .inl L) → ∃ L, σ' = .inl L) → n1 σ' a → n2 σ' a) (hs : stepC P ops w0 M L0 o k n1 σ a) (hle : k ≤ 4) (h2 : k ≠ 2) : stepC P ops w0 M L0 o k n2 σ a := by
  unfold stepC at *
  split
  · rename_i hw
    rw [if_pos hw] at hs
    split
    · rename_i hk
      rw [if_pos hk] at hs
      obtain ⟨v, h1, h2⟩ := hs
      exact ⟨v, h1, h _ _ id h2⟩
    · rename_i hk1
      rw [if_neg hk1] at hs
      cases σ with
      | inl L =>
        simp only at hs ⊢
        have h4 : k = 4 := by
          rcases hk with hk | ⟨w, hk⟩
          · omega
          · cases hk
        rw [if_pos h4] at hs ⊢
        obtain ⟨mk, obj, hr, hs⟩ := hs
        exact ⟨mk, obj, hr, fun b => h _ _ (fun _ => ⟨_, rfl⟩) (hs b)⟩
      | inr w => exact hs.mono fun u w2 hu => h _ _ (fun ⟨L, hL⟩ => by cases hL) hu
  · rename_i hw
    rw [if_neg hw] at hs
    exact h _ _ id hs
theorem frontC {i : Nat} {oi : Oper} (hoi : ops[i]? = some oi) (hsi : noSel oi = true) (hne : ∃ w, St w0 M w L0) :
    ∀ (pre post : List Nat) (σ : StC) (a : Act),
      (∀ p ∈ pre, ∃ op, ops[p]? = some op ∧ noSel op = true ∧ oi.apart ops op = true ∧ okPairC (ks.getD p 0) (ks.getD i 0) = true) →
      ((∃ L, σ = .inl L) ∨ ∀ p ∈ pre, ks.getD p 0 = 0) →
      wpC P ops ks w0 M L0 K (pre ++ i :: post) σ a → stepC P ops w0 M L0 oi (ks.getD i 0) (wpC P ops ks w0 M L0 K (pre ++ post)) σ a := by
  intro pre
  induction pre with
  | nil => intro post σ a _ _ h; simpa [wpC, hoi] using h
  | cons p pre ih =>
    intro post σ a hpre hσ h
    obtain ⟨op, hop, hsp, hap, hok⟩ := hpre p (by simp)
    have e : wpC P ops ks w0 M L0 K (p :: pre ++ post) = stepC P ops w0 M L0 op (ks.getD p 0) (wpC P ops ks w0 M L0 K (pre ++ post)) := by
      funext σ a
      simp [wpC, hop]
    rw [e]
    have h' : stepC P ops w0 M L0 op (ks.getD p 0) (wpC P ops ks w0 M L0 K (pre ++ i :: post)) σ a := by simpa [wpC, hop] using h
    have hk := hok
    simp only [okPairC, Bool.or_eq_true, Bool.and_eq_true, beq_iff_eq, decide_eq_true_eq] at hk
    refine stepC_swap (wpC_perm _) hne hap hsi hsp hok (hσ.imp id fun h => h p (by simp)) ?_
    refine stepC_mono (.inl (by omega)) (fun σ' a' hL hh => ?_) h' (by omega) (by omega)
    exact ih post σ' a' (fun q hq => hpre q (by simp [hq])) (hσ.imp hL fun h q hq => h q (by simp [hq])) hh
def pairOkC (ops : Array Oper) (ks : List Nat) (p i : Nat) : Bool :=
  reach ops ops.size p i || (match ops[p]?, ops[i]? with
    | some op, some oi => oi.apart ops op && okPairC (ks.getD p 0) (ks.getD i 0)
    | _, _ => false)
def lookC (ops : Array Oper) (ks : List Nat) : Bool :=
  (List.range ops.size).all fun i =>
    (match ops[i]? with
      | some o => noSel o && (o.after.all fun e => !Region.binds .any e || decide (e.on < i)) && (decide (ks.getD i 0 ≤ 1) || ks.getD i 0 == 3 || ks.getD i 0 == 4)
      | none => false) &&
    (List.range i).all fun p => pairOkC ops ks p i && (ks.getD p 0 != 3 || ks.getD i 0 == 0 || ks.getD i 0 == 3)
theorem lookC_pair {p i : Nat} (h : lookC ops ks = true) (hi : i < ops.size) (hp : p < i) : pairOkC ops ks p i = true ∧ (ks.getD p 0 = 3 → ks.getD i 0 = 0 ∨ ks.getD i 0 = 3) := by
  have h1 := List.all_eq_true.1 h i (List.mem_range.2 hi)
  simp only [Bool.and_eq_true] at h1
  have h2 := List.all_eq_true.1 h1.2 p (List.mem_range.2 hp)
  simp only [Bool.and_eq_true, Bool.or_eq_true, bne_iff_ne, beq_iff_eq] at h2
  exact ⟨h2.1, fun h3 => by rcases h2.2 with (h4 | h4) | h4 <;> first | exact absurd h3 h4 | exact .inl h4 | exact .inr h4⟩
theorem lookC_edge {i : Nat} {o : Oper} (h : lookC ops ks = true) (ho : ops[i]? = some o) : noSel o = true ∧ (∀ e ∈ o.after, Region.binds .any e = true → e.on < i) ∧ ((ks.getD i 0 ≤ 1 ∨ ks.getD i 0 = 3) ∨ ks.getD i 0 = 4) := by
  have hi : i < ops.size := (Array.getElem?_eq_some_iff.1 ho).1
  have h1 := List.all_eq_true.1 h i (List.mem_range.2 hi)
  simp only [Bool.and_eq_true, ho, decide_eq_true_eq, Bool.or_eq_true, beq_iff_eq] at h1
  refine ⟨h1.1.1.1, fun e he hb => ?_, h1.1.2⟩
  have h2 := Array.all_eq_true'.1 h1.1.1.2 e he
  simpa [hb] using h2
/-- what a state says of the world -/
def StC.is (w0 : World) (M : List Nat) (L0 : List Ent) (w : World) : StC → Prop
  | .inl L => St w0 M w L ∧ L0.Sublist L
  | .inr w' => w' = w
theorem stepC_wpOp {i : Nat} {o : Oper} (ho : ops[i]? = some o) {k : Nat} {next : StC → Act → Prop} {N : Act → World → Prop} {Q : Exit → Act → World → Prop} {a : Act} {w : World} {σ : StC} (hσ : σ.is w0 M L0 w) (hk : ((k ≤ 1 ∨ k = 3) ∨ k = 4) ∧ ((∃ w, σ = .inr w) → k = 0 ∨ k = 3))
    (hN : ∀ σ' a' w', σ'.is w0 M L0 w' → ((∃ w, σ' = .inr w) → (∃ w, σ = .inr w) ∨ k = 3) → next σ' a' → N a' w') (h : stepC P ops w0 M L0 o k next σ a) : wpOp P ops Q i N a w := by
  unfold stepC at h
  unfold wpOp
  simp only [ho]
  by_cases hw : Region.wanted o (yielded ops a.tmps) = true
  · rw [if_pos hw] at h ⊢
    refine .inl (Eff.wp ?_)
    by_cases hk1 : k ≤ 1
    · rw [if_pos hk1] at h
      obtain ⟨v, hv, hn⟩ := h
      refine Eff.value (hv w ?_) (hN _ _ _ hσ .inl hn)
      cases σ with
      | inl L => exact .inr (hσ.1.less hσ.2)
      | inr w' => exact .inl (by have := hk.2 ⟨w', rfl⟩; omega)
    · rw [if_neg hk1] at h
      cases σ with
      | inl L =>
        simp only at h
        by_cases h4 : k = 4
        · rw [if_pos h4] at h
          obtain ⟨mk, obj, hr, h⟩ := h
          exact Eff.value (hr w) (hN (.inl _) _ _ ⟨hσ.1.newMp obj, hσ.2.cons _⟩ (fun ⟨w, h⟩ => by cases h) (h _))
        · rw [if_neg h4] at h
          exact (h w hσ.1).mono fun u w2 hu => hN (.inr w2) _ _ rfl (fun _ => .inr (by omega)) hu
      | inr w' =>
        obtain rfl : w' = w := hσ
        exact h.mono fun u w2 hu => hN (.inr w2) _ _ rfl (fun _ => .inl ⟨w', rfl⟩) hu
  · rw [if_neg hw] at h ⊢
    exact hN σ _ _ hσ .inl h
theorem wpC_any {Q : Exit → Act → World → Prop} (hlook : lookC ops ks = true) (hne : ∃ w, St w0 M w L0) (hQ : ∀ a w, K a w → Q .normal a w) :
    ∀ (fuel : Nat) (listed : Array Bool) (a : Act) (w : World) (σ : StC), (rem ops listed).length ≤ fuel → listed.size = ops.size → Closed ops listed → σ.is w0 M L0 w →
      ((∃ w, σ = .inr w) → ∀ p ∈ rem ops listed, ks.getD p 0 = 0 ∨ ks.getD p 0 = 3) → wpC P ops ks w0 M L0 K (rem ops listed) σ a → wpAny P .any ops Q fuel listed a w := by
  have done : ∀ (a : Act) (w : World) (σ : StC), σ.is w0 M L0 w → wpC P ops ks w0 M L0 K [] σ a → Q .normal a w := by
    intro a w σ hσ h
    cases σ with
    | inl L => exact hQ _ _ (h w hσ.1)
    | inr w' => obtain rfl : w' = w := hσ; exact hQ _ _ h
  have none_left : ∀ (listed : Array Bool), listed.size = ops.size → Region.ready .any ops listed = [] → rem ops listed = [] := by
    intro listed hl hr
    cases hrem : rem ops listed with
    | nil => rfl
    | cons i r =>
      exfalso
      have hi : i ∈ rem ops listed := by rw [hrem]; simp
      obtain ⟨hlt, hun⟩ := mem_rem.1 hi
      have ho : ops[i]? = some ops[i] := Array.getElem?_eq_getElem hlt
      have hin : i ∈ Region.ready .any ops listed := by
        refine mem_ready.2 ⟨hun, ops[i], ho, fun e he hb => ?_⟩
        have hei := (lookC_edge hlook ho).2.1 e he hb
        have hsorted := rem_sorted (ops := ops) listed
        rw [hrem] at hsorted
        have hnot : e.on ∉ rem ops listed := by
          rw [hrem]
          intro hm
          rcases List.mem_cons.1 hm with h | h
          · omega
          · have := (List.pairwise_cons.1 hsorted).1 _ h; omega
        have hes : e.on < listed.size := by omega
        cases hv : listed.getD e.on true with
        | false => exact absurd (mem_rem.2 ⟨by omega, hv⟩) hnot
        | true => simpa [hes] using hv
      rw [hr] at hin
      cases hin
  intro fuel
  induction fuel with
  | zero =>
    intro listed a w σ hf hl hc hσ h3 h
    have hrem : rem ops listed = [] := List.eq_nil_of_length_eq_zero (by omega)
    refine ⟨?_, done a w σ hσ (by rw [hrem] at h; exact h)⟩
    cases hr : Region.ready .any ops listed with
    | nil => rfl
    | cons i r =>
      have hi : i ∈ Region.ready .any ops listed := by rw [hr]; simp
      obtain ⟨hun, o, ho, _⟩ := mem_ready.1 hi
      have : i ∈ rem ops listed := mem_rem.2 ⟨(Array.getElem?_eq_some_iff.1 ho).1, hun⟩
      rw [hrem] at this
      cases this
  | succ fuel ih =>
    intro listed a w σ hf hl hc hσ h3 h
    refine ⟨fun hr => done a w σ hσ (by rw [none_left listed hl hr] at h; exact h), fun i hi => ?_⟩
    obtain ⟨hun, oi, hoi, hall⟩ := mem_ready.1 hi
    have hlt : i < ops.size := (Array.getElem?_eq_some_iff.1 hoi).1
    have him : i ∈ rem ops listed := mem_rem.2 ⟨hlt, hun⟩
    obtain ⟨pre, post, hsplit⟩ := List.append_of_mem him
    have hsorted := rem_sorted (ops := ops) listed
    rw [hsplit] at hsorted
    rw [List.pairwise_append] at hsorted
    obtain ⟨hs1, hs2, hs3⟩ := hsorted
    have hpre : ∀ p ∈ pre, ∃ op, ops[p]? = some op ∧ noSel op = true ∧ oi.apart ops op = true ∧ okPairC (ks.getD p 0) (ks.getD i 0) = true := by
      intro p hp
      have hpi : p < i := hs3 p hp i (by simp)
      have hpm : p ∈ rem ops listed := by rw [hsplit]; simp [hp]
      have hpu := (mem_rem.1 hpm).2
      have hop : ops[p]? = some ops[p] := Array.getElem?_eq_getElem (by omega)
      have hpair := (lookC_pair hlook hlt hpi).1
      unfold pairOkC at hpair
      simp only [Bool.or_eq_true] at hpair
      rcases hpair with hre | hpair
      · have := ready_reach hc hi hre
        have hps : p < listed.size := by omega
        simp [hps] at this hpu
        rw [this] at hpu
        cases hpu
      · simp only [hop, hoi, Bool.and_eq_true] at hpair
        exact ⟨ops[p], hop, (lookC_edge hlook hop).1, hpair.1, hpair.2⟩
    have hki := (lookC_edge hlook hoi).2.2
    have hin3 : (∃ w, σ = .inr w) → ks.getD i 0 = 0 ∨ ks.getD i 0 = 3 := fun hr => h3 hr i him
    have hfront := frontC (P := P) (K := K) (ks := ks) hoi (lookC_edge hlook hoi).1 hne pre post σ a hpre (by
      cases σ with
      | inl L => exact .inl ⟨L, rfl⟩
      | inr w' =>
        right
        intro p hp
        obtain ⟨op, _, _, _, hok⟩ := hpre p hp
        have h3p := h3 ⟨w', rfl⟩ p (by rw [hsplit]; simp [hp])
        simp only [okPairC, Bool.or_eq_true, Bool.and_eq_true, beq_iff_eq, decide_eq_true_eq] at hok
        omega) (by rw [← hsplit]; exact h)
    have hset := rem_set hl hsplit
    refine stepC_wpOp hoi hσ ⟨hki, hin3⟩ (fun σ' a' w' hσ' hkk hn => ?_) hfront
    refine ih _ a' w' σ' ?_ (by simp [hl]) ?_ hσ' ?_ (by rw [hset]; exact hn)
    · rw [hset]
      rw [hsplit] at hf
      simp only [List.length_append, List.length_cons] at hf ⊢
      omega
    · intro j o hj hlj e he hb
      by_cases hij : i = j
      · subst hij
        have : o = oi := Option.some.inj (hj.symm.trans hoi)
        subst this
        exact getD_set_true (hall e he hb)
      · rw [getD_set_ne false hij] at hlj
        exact getD_set_true (hc j o hj hlj e he hb)
    · rw [hset]
      intro hr p hp
      rcases hkk hr with hr' | hk3
      · exact h3 hr' p (by rw [hsplit]; rcases List.mem_append.1 hp with h | h <;> simp [h])
      · rcases List.mem_append.1 hp with hp | hp
        · obtain ⟨op, _, _, _, hok⟩ := hpre p hp
          simp only [okPairC, Bool.or_eq_true, Bool.and_eq_true, beq_iff_eq, decide_eq_true_eq] at hok
          omega
        · have hpi := (List.pairwise_cons.1 hs2).1 p hp
          have hpm : p ∈ rem ops listed := by rw [hsplit]; simp [hp]
          exact (lookC_pair hlook (mem_rem.1 hpm).1 hpi).2 hk3
/-- THE REGION's RULE. -/
theorem wp_region_C {id : Nat} {l : List Oper} {Q : Exit → Act → World → Prop} {a : Act} {w : World} (ks : List Nat) (hm : P.follows .mixedOrders = true) (hlook : lookC l.toArray ks = true)
    (hO : St w0 M w L0) (h : wpCl P l.toArray w0 M L0 (Q .normal) l ks (.inl L0) a) : (Code.region id l.toArray true).wp P Q a w := by
  refine wp_region_any hm ?_
  have e0 : rem l.toArray (Array.replicate l.toArray.size false) = List.range' 0 l.length := by
    unfold rem
    rw [List.range_eq_range', List.filter_eq_self.2]
    · simp
    · intro i hi
      have : i < l.length := by simpa using hi
      simp [this]
  have hO' : St w0 M w.drew L0 := hO.drew
  refine wpC_any (ks := ks) (K := Q .normal) (w0 := w0) (M := M) (L0 := L0) hlook ⟨_, hO'⟩ (fun _ _ h => h) _ _ _ _ (.inl L0) ?_ (by simp) ?_ ⟨hO', List.Sublist.refl _⟩ (fun ⟨w, h⟩ => by cases h) ?_
  · rw [e0]; simp
  · intro j o hj hl
    simp at hl
    have : j < l.length := by simpa using (Array.getElem?_eq_some_iff.1 hj).1
    simp [this] at hl
  · rw [e0, wpC_eq (ks := ks) l 0 ks (fun j => by simp) (fun j => by simp)]
    exact h
/-! the steps -/
variable {rest : List Oper} {o : Oper} {n d : Nat} {F : List (Nat × Value)} {v : Value} {a : Act} {σ : StC} {L : List Ent} {R : Value → World → Prop}
theorem wc_p (hF : Fr a n F) (hg : o.guard = none) (hd : o.dst = some d) (hn : Nat.ble (d + 1) n = true) (h : ∀ w, QV P o a w v)
    (next : ∀ a, Fr a n ((d, v) :: F) → wpCl P ops w0 M L0 K rest ks σ a) : wpCl P ops w0 M L0 K (o :: rest) (0 :: ks) σ a := by
  show stepC P ops w0 M L0 o 0 (wpCl P ops w0 M L0 K rest ks) σ a
  unfold stepC
  rw [if_pos (by simp [Region.wanted, hg]), if_pos (by omega)]
  exact ⟨v, fun w' _ => h w', by rw [hd]; exact next _ (hF.put (Nat.le_of_ble_eq_true hn) v)⟩
theorem wc_r (hF : Fr a n F) (hg : o.guard = none) (hd : o.dst = some d) (hn : Nat.ble (d + 1) n = true) (h : ∀ w, St w0 M w L0 → QV P o a w v)
    (next : ∀ a, Fr a n ((d, v) :: F) → wpCl P ops w0 M L0 K rest ks σ a) : wpCl P ops w0 M L0 K (o :: rest) (1 :: ks) σ a := by
  show stepC P ops w0 M L0 o 1 (wpCl P ops w0 M L0 K rest ks) σ a
  unfold stepC
  rw [if_pos (by simp [Region.wanted, hg]), if_pos (by omega)]
  exact ⟨v, fun w' hc => h w' (hc.resolve_left (by omega)), by rw [hd]; exact next _ (hF.put (Nat.le_of_ble_eq_true hn) v)⟩
theorem wc_m {mk : Nat → Value} {obj : Obj} (hF : Fr a n F) (hg : o.guard = none) (hd : o.dst = some d) (hn : Nat.ble (d + 1) n = true) (h : mkRun P o a mk obj)
    (next : ∀ b a, Fr a n ((d, mk b) :: F) → wpCl P ops w0 M L0 K rest ks (.inl (.mp b obj :: L)) a) : wpCl P ops w0 M L0 K (o :: rest) (4 :: ks) (.inl L) a := by
  show stepC P ops w0 M L0 o 4 (wpCl P ops w0 M L0 K rest ks) (.inl L) a
  unfold stepC
  rw [if_pos (by simp [Region.wanted, hg]), if_neg (by omega)]
  simp only [if_true]
  exact ⟨mk, obj, h, fun b => by rw [hd]; exact next b _ (hF.put (Nat.le_of_ble_eq_true hn) _)⟩
/-- the first that turns the world otherwise: from here on the world is known -/
theorem wc_w (h : ∀ w, St w0 M w L → wpCl P ops w0 M L0 K (o :: rest) (3 :: ks) (.inr w) a) (hg : o.guard = none) : wpCl P ops w0 M L0 K (o :: rest) (3 :: ks) (.inl L) a := by
  show stepC P ops w0 M L0 o 3 (wpCl P ops w0 M L0 K rest ks) (.inl L) a
  unfold stepC
  rw [if_pos (by simp [Region.wanted, hg]), if_neg (by omega)]
  simp only [show ¬ (3 : Nat) = 4 by omega, if_false]
  intro w hw
  have := h w hw
  have h' : stepC P ops w0 M L0 o 3 (wpCl P ops w0 M L0 K rest ks) (.inr w) a := this
  unfold stepC at h'
  rw [if_pos (by simp [Region.wanted, hg]), if_neg (by omega)] at h'
  exact h'
theorem wc_f {w : World} (hF : Fr a n F) (hg : o.guard = none) (hd : o.dst = some d) (hn : Nat.ble (d + 1) n = true) (h : Eff P o a w R)
    (next : ∀ a v w, R v w → Fr a n ((d, v) :: F) → wpCl P ops w0 M L0 K rest ks (.inr w) a) : wpCl P ops w0 M L0 K (o :: rest) (3 :: ks) (.inr w) a := by
  show stepC P ops w0 M L0 o 3 (wpCl P ops w0 M L0 K rest ks) (.inr w) a
  unfold stepC
  rw [if_pos (by simp [Region.wanted, hg]), if_neg (by omega)]
  exact h.mono fun v w' hR => by rw [hd]; exact next _ _ _ hR (hF.put (Nat.le_of_ble_eq_true hn) v)
theorem wc_s {w : World} (hF : Fr a n F) (hg : o.guard = none) (hd : o.dst = none) (h : Eff P o a w R)
    (next : ∀ a v w, R v w → Fr a n F → wpCl P ops w0 M L0 K rest ks (.inr w) a) : wpCl P ops w0 M L0 K (o :: rest) (3 :: ks) (.inr w) a := by
  show stepC P ops w0 M L0 o 3 (wpCl P ops w0 M L0 K rest ks) (.inr w) a
  unfold stepC
  rw [if_pos (by simp [Region.wanted, hg]), if_neg (by omega)]
  exact h.mono fun v w' hR => by rw [hd]; exact next _ _ _ hR (hF.putNone v)
theorem wc_nil (h : ∀ w, St w0 M w L → K a w) : wpCl P ops w0 M L0 K [] ks (.inl L) a := h
theorem wc_nilw {w : World} (h : K a w) : wpCl P ops w0 M L0 K [] ks (.inr w) a := h
/-! what is known of a new block -/
theorem St.retype {w : World} (hO : St w0 M w L) {i b : Nat} {obj : Obj} {e : Ent} (hi : L[i]? = some (.mp b obj)) (hb : e.blk = some b) (he : w.heap[b]? = some obj → e.ok w) (h2 : e.single = true := by rfl) : St w0 M w (L.set i e) :=
  hO.turnAt hi rfl rfl rfl (Nat.le_refl _) (fun _ _ _ => rfl) (he (hO.ok hi)) (.inl hb) rfl h2
theorem St.asOb {w : World} (hO : St w0 M w L) {i b : Nat} {t : TypeId} {cs : List Value} (hi : L[i]? = some (.mp b (.cells cs.toArray t))) : St w0 M w (L.set i (.ob b t cs)) :=
  hO.retype hi rfl fun h => h
theorem St.asSl {w : World} (hO : St w0 M w L) {i b e size m cap : Nat} {cur : Array Value} {xs : List Value} (hi : L[i]? = some (.mp b (.cells cur e))) (hx : xs.length = m * size) (hmc : m ≤ cap) (hm : cap ≤ 9223372036854775807) (hc : cur.size = cap * size) (ht : cur.toList.take (m * size) = xs) :
    St w0 M w (L.set i (.sl (.slice (some ⟨b, 0, none⟩) m cap) e size m xs)) :=
  hO.retype hi rfl fun h => ⟨hx, .inr ⟨b, cap, cur, rfl, Nat.zero_le _, h, hmc, by unfold maxLen; exact hm, hc, ht⟩⟩
theorem m_alloc {t : TypeId} {z : Value} {cs : List Value} (hz : ∀ w, (zeroValue t).run P w = .ok z w) (ho : o.op = .alloc t) (hc : z.cells = cs.toArray) : mkRun P o a (fun b => ptr (adr b)) (.cells cs.toArray t) := fun w => by
  simp only [execOp, ho, Sem.run_bind, Instr.alloc, hz, Result.andThen_ok, newVar, newRow, hc, run_newObj]
  rfl
theorem m_box {t : TypeId} {x : Operand} {cs : List Value} (ho : o.op = .box t x) (hx : a.eval x = v) (hc : v.cells = cs.toArray) : mkRun P o a (fun b => ptr (adr b)) (.cells cs.toArray t) := fun w => by
  simp only [execOp, ho, Sem.run_bind, Instr.box, newVar, newRow, hx, hc, run_newObj, Result.andThen_ok]
  rfl
set_option linter.unusedVariables false in
theorem m_makeT {α : Type} {E : Enc α} {z : α} {t e : TypeId} {inf : TypeInfo} {zv : Value} {bytes m : Nat} {k k' : IntKind} {x y : Operand} (ht : P.underlying t = some (.slice e)) (hinf : P.info? e = some inf) (hz : inf.zero = some zv) (hsize : inf.size = E.size) (hby : inf.bytes = bytes)
    (ho : o.op = .makeSlice t x y) (hx : a.eval x = .int k (m : Int)) (hy : a.eval y = .int k' (m : Int)) (hb : bytes * m ≤ 281474976710656) (hm : m ≤ 9223372036854775807) :
    mkRun P o a (fun b => .slice (some ⟨b, 0, none⟩) m m) (.cells (madeCells zv.cells (m * E.size)) e) := fun w => by
  subst hby
  have hb' : (inf.bytes : Int) * (m : Int) ≤ 281474976710656 := by rw [← Int.natCast_mul]; omega
  have hr := run_make (P := P) w t e inf zv ht hinf hz k k' m m (by omega) (Int.le_refl _) hb' (by omega)
  simp only [Int.toNat_natCast] at hr
  rw [hsize] at hr
  simp only [execOp, ho, hx, hy, Sem.run_bind, hr, Result.andThen_ok]
  rfl
theorem St.asMade {α : Type} {w : World} {E : Enc α} {z : α} {zv : Value} (hO : St w0 M w L) {i b e m : Nat} (hi : L[i]? = some (.mp b (.cells (madeCells zv.cells (m * E.size)) e))) (hzc : zv.cells = (E.cells z).toArray) (h1 : Nat.ble 1 E.size = true) (hm : m ≤ 9223372036854775807) :
    St w0 M w (L.set i (slT (.slice (some ⟨b, 0, none⟩) m m) e E (List.replicate m z))) := by
  unfold slT
  rw [List.length_replicate]
  refine hO.asSl hi (by rw [flat_len, List.length_replicate]) (Nat.le_refl _) hm (size_madeCells _ _) ?_
  rw [made_flat E z zv hzc (Nat.le_of_ble_eq_true h1) m, List.take_of_length_le (by rw [flat_len, List.length_replicate]; exact Nat.le_refl _)]
end
end Go.Proofs.Ytfkmlcgccffmnaa
namespace Go.Proofs.Ytfkmlcgccffmnaa
open Go
section
def lookM (ops : Array Oper) (ks ms : List Nat) : Bool :=
  (List.range ops.size).all fun i =>
    (match ops[i]? with
      | some o => noSel o && (o.after.all fun e => !Region.binds .any e || decide (e.on < i)) && decide (ks.getD i 0 ≤ 3)
      | none => false) &&
    (List.range i).all fun p =>
      (if (ms.getD i 0).testBit p then (match ops[i]? with
          | some o => o.after.any fun e => Region.binds .any e && (e.on == p || (Nat.blt p e.on && (ms.getD e.on 0).testBit p))
          | none => false)
        else (match ops[p]?, ops[i]? with
          | some op, some oi => oi.apart ops op && okPair (ks.getD p 0) (ks.getD i 0) && (ks.getD p 0 != 3 || ks.getD i 0 == 0 || ks.getD i 0 == 3)
          | _, _ => false)) && (ks.getD p 0 != 3 || ks.getD i 0 == 0 || ks.getD i 0 == 3)
variable {ops : Array Oper} {ks ms : List Nat}
theorem lookM_at (h : lookM ops ks ms = true) {i : Nat} (hi : i < ops.size) :
    (match ops[i]? with
      | some o => noSel o && (o.after.all fun e => !Region.binds .any e || decide (e.on < i)) && decide (ks.getD i 0 ≤ 3)
      | none => false) = true := by
  have h1 := List.all_eq_true.1 h i (List.mem_range.2 hi)
  simp only [Bool.and_eq_true] at h1
  exact h1.1
theorem lookM_pair (h : lookM ops ks ms = true) {i p : Nat} (hi : i < ops.size) (hp : p < i) :
      (if (ms.getD i 0).testBit p then (match ops[i]? with
          | some o => o.after.any fun e => Region.binds .any e && (e.on == p || (Nat.blt p e.on && (ms.getD e.on 0).testBit p))
          | none => false)
        else (match ops[p]?, ops[i]? with
          | some op, some oi => oi.apart ops op && okPair (ks.getD p 0) (ks.getD i 0) && (ks.getD p 0 != 3 || ks.getD i 0 == 0 || ks.getD i 0 == 3)
          | _, _ => false)) = true ∧ (ks.getD p 0 != 3 || ks.getD i 0 == 0 || ks.getD i 0 == 3) = true := by
  have h1 := List.all_eq_true.1 h i (List.mem_range.2 hi)
  rw [Bool.and_eq_true] at h1
  have h2 := List.all_eq_true.1 h1.2 p (List.mem_range.2 hp)
  rw [Bool.and_eq_true] at h2
  exact h2
theorem lookM_reach (h : lookM ops ks ms = true) : ∀ (n i p : Nat), i < n → i < ops.size → p < i → (ms.getD i 0).testBit p = true → reach ops n p i = true := by
  intro n
  induction n with
  | zero => intro i p hi; omega
  | succ n ih =>
    intro i p hin hi hp hb
    have h2 := (lookM_pair h hi hp).1
    rw [if_pos hb] at h2
    have ha := lookM_at h hi
    unfold reach
    cases ho : ops[i]? with
    | none => rw [ho] at h2; cases h2
    | some o =>
      rw [ho] at h2 ha
      simp only [Bool.and_eq_true] at ha
      obtain ⟨e, he, hq⟩ := Array.any_eq_true'.1 h2
      rw [Bool.and_eq_true, Bool.or_eq_true, Bool.and_eq_true] at hq
      refine Array.any_eq_true'.2 ⟨e, he, ?_⟩
      rw [Bool.and_eq_true, Bool.or_eq_true]
      refine ⟨hq.1, ?_⟩
      rcases hq.2 with h3 | ⟨h3, h4⟩
      · exact .inl h3
      · have hlt : e.on < i := by
          have := Array.all_eq_true'.1 ha.1.2 e he
          rw [hq.1] at this
          simpa using this
        exact .inr (ih e.on p (by omega) (by omega) (by simpa [Nat.blt_eq] using h3) h4)
theorem lookD_of (h : lookM ops ks ms = true) : lookD ops ks = true := by
  refine List.all_eq_true.2 fun i hi => ?_
  have hi := List.mem_range.1 hi
  rw [Bool.and_eq_true]
  refine ⟨lookM_at h hi, List.all_eq_true.2 fun p hp => ?_⟩
  have hp := List.mem_range.1 hp
  have h2 := lookM_pair h hi hp
  rw [Bool.and_eq_true]
  refine ⟨?_, h2.2⟩
  unfold pairOk
  rw [Bool.or_eq_true]
  by_cases hb : (ms.getD i 0).testBit p = true
  · exact .inl (lookM_reach h _ _ _ hi hi hp hb)
  · rw [if_neg hb] at h2
    exact .inr h2.1
variable (P : Program)
theorem wp_region_E {P : Program} {id : Nat} {l : List Oper} {Q : Exit → Act → World → Prop} {a : Act} {w : World} (ks ms : List Nat) (S : World → Prop) (hm : P.follows .mixedOrders = true) (hlook : lookM l.toArray ks ms = true)
    (hS : S w.drew) (h : wpD P l.toArray S (Q .normal) l ks a w.drew) : (Code.region id l.toArray true).wp P Q a w :=
  wp_region_D ks S hm (lookD_of hlook) hS h
theorem q_bne {P : Program} {o : Oper} {a : Act} {w : World} {x y : Operand} {t t' : TypeId} {b c : Bool} (ht : P.underlying t = some .bool) (ho : o.op = .binOp .neq t x y t') (hx : a.eval x = .bool b) (hy : a.eval y = .bool c) : QV P o a w (.bool (decide (¬ b = c))) := by
  have hg : eqGuard .neq t x y (.bool b) (.bool c) = pure () := rfl
  simp [QV, execOp, ho, hx, hy, hg, run_neq_bool w t b c ht]
  cases b <;> cases c <;> rfl
end
end Go.Proofs.Ytfkmlcgccffmnaa
namespace Go.Proofs.Ytfkmlcgccffmnaa
open Go Go.WideShapes Go.Deep
def ReadQ (α : Type) := {H : Type} → World → α → DataW H → Prop
def CodF {α : Type} (P : Program) (t : TypeId) (E : Enc α) (Q : ReadQ α) (fuel : Nat) : Prop :=
  ∀ {H : Type} (enc : TypeId × Value → H) (w : World) (sp : Nat → Bool) (cs : List Value) (x : DataW H × List MemPlace),
    DataW.trod enc P w 0 sp true fuel t cs = some x → ∃ a : α, cs = E.cells a ∧ Q w a x.1
/-- The elements of a slice fit their readings. -/
def SlQ {α : Type} (Q : ReadQ α) {H : Type} (w : World) (l : List α) (d : DataW H) : Prop :=
  (d = .nil ∧ l = []) ∨ ∃ elems spare, d = .slice elems spare ∧ elems.length = l.length ∧ ∀ (i : Nat) a e, l[i]? = some a → elems[i]? = some e → Q w a e
section
variable {P : Program} {α : Type} {E : Enc α} {Q : ReadQ α} {H : Type} {enc : TypeId × Value → H} {w : World} {sp : Nat → Bool} {cs : List Value} {x : DataW H × List MemPlace} {t e : TypeId}
theorem cod_slice {n : Nat} (ht : P.underlying t = some (.slice e)) (hc : P.cellsOf e = E.size) (h1 : 0 < E.size) (hcod : CodF P e E Q n) (h : DataW.trod enc P w 0 sp true (n + 1) t cs = some x) :
    ∃ v l, cs = [v] ∧ RdT w [] v E l ∧ SlQ Q w l x.1 := by
  rcases DataW.trod_slice ht h with ⟨rfl, rfl⟩ | ⟨a, len, cap, elems, rest, n', hn, rfl, rfl, _, hl, hm, hlen, hel, _, _⟩
  · exact ⟨_, [], rfl, Rd.nil w [] E.size, .inl ⟨rfl, rfl⟩⟩
  · obtain rfl : n = n' := by omega
    have each : ∀ i, i < len → ∃ y : α, (∀ k u, (E.cells y)[k]? = some u → w.cell? (a.add (i * E.size + k)) = some u) ∧ ∀ el, elems[i]? = some el → Q w y el.1 := by
      intro i hi
      have h2 := hel i hi
      rw [hc] at h2
      have h3 : i < elems.length := by omega
      rw [List.getElem?_eq_getElem h3] at h2
      obtain ⟨cs', g1, g2⟩ := Option.bind_eq_some_iff.1 h2
      obtain ⟨_, hlen', hcell⟩ := World.cells?_some g1
      obtain ⟨y, rfl, hq⟩ := hcod enc w _ _ _ g2
      refine ⟨y, fun k u hk => ?_, fun el hel' => ?_⟩
      · have hkl : k < E.size := by have := (List.getElem?_eq_some_iff.1 hk).1; rw [E.len] at this; exact this
        rw [← add_add', hcell k hkl]; exact hk
      · rw [List.getElem?_eq_getElem h3] at hel'
        cases hel'; exact hq
    have hex : ∀ m, m ≤ len → ∃ l : List α, l.length = m ∧ ∀ i y, l[i]? = some y → (∀ k u, (E.cells y)[k]? = some u → w.cell? (a.add (i * E.size + k)) = some u) ∧ ∀ el, elems[i]? = some el → Q w y el.1 := by
      intro m
      induction m with
      | zero => intro _; exact ⟨[], rfl, fun i y h => by simp at h⟩
      | succ k ih =>
        intro hk
        obtain ⟨l, hll, hlx⟩ := ih (by omega)
        obtain ⟨y, hy⟩ := each k (by omega)
        refine ⟨l ++ [y], by simp [hll], fun i z hz => ?_⟩
        by_cases hi : i < l.length
        · rw [List.getElem?_append_left hi] at hz; exact hlx i z hz
        · rw [List.getElem?_append_right (by omega)] at hz
          have : i - l.length = 0 := by
            cases hd : i - l.length with
            | zero => rfl
            | succ q => rw [hd] at hz; simp at hz
          rw [this] at hz
          obtain rfl : y = z := by simpa using hz
          obtain rfl : i = k := by omega
          exact hy
    obtain ⟨l, hll, hlx⟩ := hex len (Nat.le_refl _)
    subst hll
    refine ⟨_, l, rfl, ⟨flat_len E l, some a, cap, rfl, hl, hm, fun h0 => ⟨a, rfl, by simp, ?_, fun j u hj => ?_⟩⟩, .inr ⟨_, _, rfl, by simpa using hlen, fun i y d hy hd => ?_⟩⟩
    · obtain ⟨y, hy0⟩ : ∃ y, l[0]? = some y := ⟨_, List.getElem?_eq_getElem h0⟩
      have hlen : 0 < (E.cells y).length := by rw [E.len]; exact h1
      have := (hlx 0 y hy0).1 0 _ (List.getElem?_eq_getElem hlen)
      obtain ⟨o, ho, _⟩ := cells_of_cell this
      have := (Array.getElem?_eq_some_iff.1 ho).1
      rwa [block_add] at this
    · obtain ⟨i, k, y, g1, g2, rfl⟩ := flat_at' E hj
      exact (hlx i y g1).1 k u g2
    · rw [List.getElem?_map] at hd
      obtain ⟨el, he, rfl⟩ := Option.map_eq_some_iff.1 hd
      exact (hlx i y hy).2 el he
/-- A handed-in slice. -/
theorem open_sl {v : Value} {d : DataW H} {p : List MemPlace} {base : Nat} {r : Reach} (ht : P.underlying t = some (.slice e)) (hc : P.cellsOf e = E.size) (h1 : 0 < E.size) (hcod : ∀ n, CodF P e E Q n)
    (hval : Value.okWide P w r base t v) (h : DataW.Trod enc P w 0 sp true t v d p) : ∃ l : List α, RdT w [] v E l ∧ SlQ Q w l d := by
  obtain ⟨A, len, cap, rfl⟩ := okWide_slice ht hval
  obtain ⟨fuel, h⟩ := h
  cases fuel with
  | zero => simp [DataW.trod] at h
  | succ n =>
    obtain ⟨v, l, hv, hR, hQ⟩ := cod_slice (n := n) ht hc h1 (hcod n) h
    have : (Value.slice A len cap) = v := by
      have e : (Value.slice A len cap).cells.toList = [.slice A len cap] := rfl
      rw [e] at hv
      simpa using hv
    subst this
    exact ⟨l, hR, hQ⟩
/-- A field of a struct. -/
theorem cod_field {fs : Array Field} {n : Nat} {xs : List (DataW H × List MemPlace)} (hx : xs.length = fs.size)
    (hf : ∀ (i : Nat) (f : Field), fs[i]? = some f → DataW.trod enc P w 0 sp true n f.type ((cs.drop f.offset).take (P.cellsOf f.type)) = xs[i]?) (i ty off sz : Nat) (hi : (fs[i]?).map (fun f => (f.type, f.offset)) = some (ty, off)) (hs : P.cellsOf ty = sz) :
    ∃ y, xs[i]? = some y ∧ DataW.trod enc P w 0 sp true n ty ((cs.drop off).take sz) = some y := by
  obtain ⟨f, hfi, hfe⟩ := Option.map_eq_some_iff.1 hi
  obtain ⟨rfl, rfl⟩ := Prod.mk.inj hfe
  subst hs
  have h2 := hf i f hfi
  have hlt : i < xs.length := by rw [hx]; exact (Array.getElem?_eq_some_iff.1 hfi).1
  exact ⟨_, List.getElem?_eq_getElem hlt, h2.trans (List.getElem?_eq_getElem hlt)⟩
/-- numbers, alone -/
def intQ : ReadQ Int := fun _ n _ => -9223372036854775808 ≤ n ∧ n ≤ 9223372036854775807
theorem cod_i64 (ht : P.underlying t = some (.int .i64)) (n : Nat) : CodF P t intE intQ n := by
  intro H enc w sp cs x h
  obtain ⟨n, hc, _, hw⟩ := DataW.trod_int ht h
  exact ⟨n, hc, wf_i64 hw⟩
theorem SlQ.len {l : List α} {d : DataW H} (h : SlQ Q w l d) : d = .nil ∧ l = [] ∨ ∃ elems spare, d = .slice elems spare ∧ elems.length = l.length := by
  rcases h with h | ⟨el, sp, h1, h2, _⟩
  · exact .inl h
  · exact .inr ⟨el, sp, h1, h2⟩
theorem SlQ.all {l : List α} {d : DataW H} (h : SlQ Q w l d) {R : α → Prop} (hR : ∀ a (e : DataW H), Q w a e → R a) : ∀ a ∈ l, R a := by
  rcases h with ⟨_, rfl⟩ | ⟨el, sp, _, h2, h3⟩
  · intro a ha; cases ha
  · intro a ha
    obtain ⟨i, hi⟩ := List.getElem?_of_mem ha
    have hlt := (List.getElem?_eq_some_iff.1 hi).1
    exact hR a _ (h3 i a _ hi (List.getElem?_eq_getElem (by omega)))
end
end Go.Proofs.Ytfkmlcgccffmnaa
namespace Go.Proofs.Ytfkmlcgccffmnaa
open Go
/-- a slice's header, as it lies in a cell -/
structure Hdr where
  A : Option Addr
  n : Nat
  c : Nat
def Hdr.v (h : Hdr) : Value := .slice h.A h.n h.c
def hdrE : Enc Hdr where
  size := 1
  cells q := [q.v]
  len _ := rfl
  one t u hu := by
    simp only [List.mem_cons, List.not_mem_nil, or_false] at hu
    subst hu; rfl
theorem Rd.hdr {w : World} {M : List Nat} {v : Value} {size n : Nat} {xs : List Value} (h : Rd w M v size n xs) : ∃ q : Hdr, v = q.v := by
  obtain ⟨A, c, rfl, _⟩ := h.is
  exact ⟨⟨A, n, c⟩, rfl⟩
section
variable {P : Program} {o : Oper} {a : Act} {w w0 : World} {v u : Value} {M : List Nat} {L Es Es' : List Ent} {e : Ent}
theorem St.grpOk (hO : St w0 M w L) (i : Nat) (hi : L[i]? = some (Ent.grp Es)) {j : Nat} {x : Ent} (hj : Es[j]? = some x) : x.ok w := (hO.ok hi : (Ent.grp Es).ok w) x (List.mem_of_getElem? hj)
theorem St.rdG {t size n : Nat} {xs : List Value} (hO : St w0 M w L) (i : Nat) (hi : L[i]? = some (Ent.grp Es)) {j : Nat} (hj : Es[j]? = some (.sl v t size n xs)) : Rd w [] v size n xs := Ent.rd (hO.grpOk i hi hj) fun _ _ h => by cases h
theorem St.rdTG {α : Type} {E : Enc α} {l : List α} {t : Nat} (hO : St w0 M w L) (i : Nat) (hi : L[i]? = some (Ent.grp Es)) {j : Nat} (hj : Es[j]? = some (slT v t E l)) : RdT w [] v E l := hO.rdG i hi hj
theorem St.grp0 (hO : St w0 M w L) : St w0 M w (Ent.grp [] :: L) := St.group (A := []) hO
/-- the first entry goes into a group -/
theorem St.into (hO : St w0 M w (e :: L)) (i : Nat) (hi : L[i]? = some (Ent.grp Es)) : St w0 M w (L.set i (Ent.grp (Es ++ [e]))) := by
  have h1 : St w0 M w (Ent.grp Es :: e :: L.eraseIdx i) := by
    refine hO.perm ?_
    exact (List.Perm.swap _ _ _).trans ((pull_perm L i _ hi).cons e)
  have h2 : St w0 M w (Es ++ [e] ++ L.eraseIdx i) := by
    have := St.ungroup (A := Es) h1
    rwa [List.append_assoc]
  have h3 := St.group (A := Es ++ [e]) h2
  exact h3.perm (set_perm L i _ _ hi)
/-- an operation on what is in a group -/
theorem e_grp {i : Nat} {R : Value → Prop} (hO : St w0 M w L) (hi : L[i]? = some (Ent.grp Es)) (f : ∀ {w1 : World}, w1 = w → St w0 M w1 (Es ++ L.eraseIdx i) → Eff P o a w1 (fun u w' => R u ∧ St w0 M w' (Es' ++ L.eraseIdx i))) :
    Eff P o a w (fun u w' => R u ∧ St w0 M w' (L.set i (Ent.grp Es'))) := by
  refine (f rfl (St.ungroup (hO.pull i hi))).mono fun u w' ⟨h1, h2⟩ => ⟨h1, ?_⟩
  exact (St.group h2).perm (set_perm L i _ _ hi)
/-- a store into a slice of a group -/
theorem e_storeG {α : Type} {E : Enc α} {l : List α} {i j t m : Nat} {q : α} (hO : St w0 M w L) (hi : L[i]? = some (Ent.grp Es)) (hj : Es[j]? = some (slT v t E l))
    (f : ∀ {w1 : World} {L1 : List Ent} {i1 : Nat}, St w0 M w1 L1 → L1[i1]? = some (slT v t E l) → Eff P o a w1 (fun u w' => u = undef ∧ St w0 M w' (L1.set i1 (slT v t E (l.set m q))))) :
    Eff P o a w (fun u w' => u = undef ∧ St w0 M w' (L.set i (Ent.grp (Es.set j (slT v t E (l.set m q)))))) := by
  have hjl := (List.getElem?_eq_some_iff.1 hj).1
  refine e_grp (R := fun u => u = undef) hO hi fun {w1} e h1 => ?_
  subst e
  have h2 := f h1 (i1 := j) (by rw [List.getElem?_append_left hjl]; exact hj)
  refine h2.mono fun u w' ⟨g1, g2⟩ => ⟨g1, ?_⟩
  rwa [List.set_append_left j _ hjl] at g2
end
end Go.Proofs.Ytfkmlcgccffmnaa
namespace Go.Proofs.Ytfkmlcgccffmnaa
open Go Go.RowKit
/-- an error: nil, or something -/
def errV : Option (TypeId × Value) → Value
  | none => .nilIface
  | some x => .iface x.1 x.2
section
variable {P : Program} {o : Oper} {a : Act} {w w0 : World} {x y : Operand} {t t' : TypeId} {ms : List Nat} {M : List Nat} {L : List Ent} {n : Nat} {F : List (Nat × Value)}
theorem q_errne {ms : Array (String × TypeId)} {e : Option (TypeId × Value)} (ht : P.underlying t = some (.interface ms)) (ho : o.op = .binOp .neq t x (.const .nilIface) t') (hx : a.eval x = errV e) : QV P o a w (.bool e.isSome) := by
  have hy : a.eval (.const .nilIface) = .nilIface := rfl
  have h : P.underlying t = some (.interface (P.methodsAt t)) := by simp [Program.methodsAt, ht]
  cases e with
  | none =>
    have hx' : a.eval x = .nilIface := hx
    have hg : eqGuard .neq t x (.const .nilIface) .nilIface .nilIface = pure () := eqGuard_nil_constR ..
    simp [QV, execOp, ho, hx', hy, hg, binOp, run_equal_nil_nil w t h]
  | some p =>
    have hx' : a.eval x = .iface p.1 p.2 := hx
    have hg : eqGuard .neq t x (.const .nilIface) (.iface p.1 p.2) .nilIface = pure () := eqGuard_at_iface ..
    simp [QV, execOp, ho, hx', hy, hg, binOp, run_equal_held_nil w t p.1 p.2 h]
theorem c_callVG {f : Nat} {g : Operand} {fs cs args args' : List Value} {argo : List Operand} {vs : List Value} {ts : Array TypeId} {R : Value → World → Prop} (hF : Fr a n F) (ho : o.op = .call { callee := .value g, args := argo.toArray, argTypes := ts })
    (hg : a.eval g = .func (.func f) fs.toArray cs.toArray) (hv : evs F argo = some args) (ha : args = args') (hvs : fs ++ args' ++ cs = vs) (hf : ∀ args w, (callFunc f args).run P w = .ok (.enter f args) w) (hc : Ret P f vs.toArray w R) : Eff P o a w R := by
  subst ha; exact c_callV hF ho hg hv hvs hf hc
theorem ret_calls {f : Nat} {args : Array Value} {v : Value} {X : World → Prop} (h : Calls P f args w fun e w' => e = .returned v ∧ X w') : Ret P f args w (fun u w' => u = v ∧ X w') := Calls.mono h fun _ _ ⟨he, hx⟩ => ⟨v, he, rfl, hx⟩
theorem st_below {w' : World} (h : Below w.heap.size w w') : St w [] w' [] := ⟨h.os, h.tape, h.output, h.size, fun b hb _ => h.block b hb, fun _ h => (by cases h), List.nodup_nil, fun _ h => (by cases h)⟩
theorem st_same : St w [] w [] := ⟨rfl, rfl, rfl, Nat.le_refl _, fun _ _ _ => rfl, fun _ h => (by cases h), List.nodup_nil, fun _ h => (by cases h)⟩
theorem bytes_l (l : List UInt8) : (⟨l.toArray⟩ : ByteArray).data.toList = l := by simp
end
end Go.Proofs.Ytfkmlcgccffmnaa
