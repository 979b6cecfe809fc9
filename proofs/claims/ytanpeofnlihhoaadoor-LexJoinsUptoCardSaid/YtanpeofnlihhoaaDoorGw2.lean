/- GENERAL PARTS (2): A REGION WHOSE ORDER IS OPEN, WALKED IN THE TEXT's ORDER: each operation is of a kind: 0 (it yields its value in every world), 1 (in every world that meets S), 2 (it may change the world, S stays), 3 (it may change the world; nothing but kind 0 is unordered with it). -/
import Derived.Test.YtanpeofnlihhoaaDoorGw1
namespace Go.Proofs.YtanpeofnlihhoaaDoor
open Go

def cls (S : World → Prop) (k : Nat) (w : World) : Prop := k = 0 ∨ S w
def pst (S : World → Prop) (k : Nat) (w : World) : Prop := k = 2 → S w

section
variable (P : Program) (ops : Array Oper) (ks : List Nat) (S : World → Prop) (K : Act → World → Prop)

def stepD (o : Oper) (k : Nat) (next : Act → World → Prop) (a : Act) (w : World) : Prop :=
  if Region.wanted o (yielded ops a.tmps) then
    if k ≤ 1 then ∃ v, (∀ w', cls S k w' → QV P o a w' v) ∧ next (a.put o.dst v) w
    else Eff P o a w (fun u w2 => pst S k w2 ∧ next (a.put o.dst u) w2)
  else next (a.put o.dst undef) w

def wpD : List Oper → List Nat → Act → World → Prop
  | [], _, a, w => K a w
  | o :: rest, ks, a, w => stepD P ops S o (ks.headD 0) (wpD rest ks.tail) a w

def wpI : List Nat → Act → World → Prop
  | [], a, w => K a w
  | i :: rest, a, w => match ops[i]? with
    | none => wpI rest a w
    | some o => stepD P ops S o (ks.getD i 0) (wpI rest) a w
end

section
variable {P : Program} {ops : Array Oper} {ks : List Nat} {S : World → Prop} {K : Act → World → Prop}

theorem wpI_eq (l : List Oper) : ∀ (k : Nat) (kl : List Nat), (∀ j, l[j]? = ops[k + j]?) → (∀ j, kl.getD j 0 = ks.getD (k + j) 0) → wpI P ops ks S K (List.range' k l.length) = wpD P ops S K l kl := by
  induction l with
  | nil => intro k kl _ _; funext a w; simp [wpI, wpD]
  | cons o l ih =>
    intro k kl h hk
    have h0 : ops[k]? = some o := by simpa using (h 0).symm
    have hk0 : kl.headD 0 = ks.getD k 0 := by
      have := hk 0
      cases kl <;> simpa using this
    have ih' := ih (k + 1) kl.tail (fun j => by have := h (j + 1); simpa [Nat.add_assoc, Nat.add_comm 1 j] using this)
      (fun j => by
        have h1 := hk (j + 1)
        rw [show k + 1 + j = k + (j + 1) by omega, ← h1]
        cases kl <;> simp)
    funext a w
    simp only [List.length_cons, List.range'_succ, wpI, h0, wpD, ih', hk0]

theorem stepD_mono {o : Oper} {k : Nat} {n1 n2 : Act → World → Prop} {a : Act} {w : World} (h : ∀ a w, n1 a w → n2 a w) (hs : stepD P ops S o k n1 a w) : stepD P ops S o k n2 a w := by
  unfold stepD at *
  split
  · rename_i hw
    rw [if_pos hw] at hs
    split
    · rename_i hk
      rw [if_pos hk] at hs
      obtain ⟨v, h1, h2⟩ := hs
      exact ⟨v, h1, h _ _ h2⟩
    · rename_i hk
      rw [if_neg hk] at hs
      exact hs.mono fun v w' hv => ⟨hv.1, h _ _ hv.2⟩
  · rename_i hw
    rw [if_neg hw] at hs
    exact h _ _ hs

def noSel (o : Oper) : Bool := match o.op with | .select .. => false | _ => true
theorem noSel_spec {o : Oper} (h : noSel o = true) : ∀ cs b, o.op ≠ .select cs b := by
  intro cs b e
  simp [noSel, e] at h

def okPair (k1 k2 : Nat) : Bool := k1 == 0 || k2 == 0 || (k1 == 1 && k2 ≤ 2) || (k1 == 2 && k2 == 1)

theorem QV.congr {o : Oper} {a a' : Act} {w : World} {v : Value} (h : QV P o a w v) (he : execOp a'.eval o = execOp a.eval o) : QV P o a' w v := by
  unfold QV at *; rw [he]; exact h

/-- Two operations that are apart change places. -/
theorem stepD_swap {p i : Oper} {kp ki : Nat} {next : Act → World → Prop} {a : Act} {w : World} (hap : i.apart ops p = true) (hsi : noSel i = true) (hsp : noSel p = true)
    (hok : okPair kp ki = true) (hS : S w ∨ (kp ≠ 1 ∧ kp ≠ 2 ∧ ki ≠ 1 ∧ ki ≠ 2))
    (h : stepD P ops S p kp (stepD P ops S i ki next) a w) : stepD P ops S i ki (stepD P ops S p kp next) a w := by
  obtain ⟨h1, h2, h3⟩ := Oper.apart_spec hap
  have hi := noSel_spec hsi
  have hp := noSel_spec hsp
  have e1 : ∀ v, execOp (a.put p.dst v).eval i = execOp a.eval i := fun v => execOp_put i hi a p.dst v h3
  have e2 : ∀ v, execOp (a.put i.dst v).eval p = execOp a.eval p := fun v => execOp_put p hp a i.dst v h1
  have g1 : ∀ v, Region.wanted i (yielded ops (a.put p.dst v).tmps) = Region.wanted i (yielded ops a.tmps) := fun v => wanted_put i a p.dst v h3
  have g2 : ∀ v, Region.wanted p (yielded ops (a.put i.dst v).tmps) = Region.wanted p (yielded ops a.tmps) := fun v => wanted_put p a i.dst v h1
  have comm : ∀ u v, (a.put p.dst u).put i.dst v = (a.put i.dst v).put p.dst u := fun u v => (Act.put_comm a v u h2).symm
  unfold stepD at h ⊢
  by_cases hwp : Region.wanted p (yielded ops a.tmps) = true
  · rw [if_pos hwp] at h
    by_cases hwi : Region.wanted i (yielded ops a.tmps) = true
    · rw [if_pos hwi]
      by_cases hkp : kp ≤ 1
      · rw [if_pos hkp] at h
        obtain ⟨vp, hvp, h⟩ := h
        rw [g1, if_pos hwi] at h
        by_cases hki : ki ≤ 1
        · rw [if_pos hki] at h ⊢
          obtain ⟨vi, hvi, h⟩ := h
          refine ⟨vi, fun w' hw' => (hvi w' hw').congr (e1 vp).symm, ?_⟩
          rw [g2, if_pos hwp, if_pos hkp]
          exact ⟨vp, fun w' hw' => (hvp w' hw').congr (e2 vi), by rw [← comm]; exact h⟩
        · rw [if_neg hki] at h ⊢
          refine (h.congr (a' := a) (e1 vp).symm).mono fun u w2 hu => ⟨hu.1, ?_⟩
          rw [g2, if_pos hwp, if_pos hkp]
          exact ⟨vp, fun w' hw' => (hvp w' hw').congr (e2 u), by rw [← comm]; exact hu.2⟩
      · rw [if_neg hkp] at h
        have hki : ki ≤ 1 := by
          simp only [okPair, Bool.or_eq_true, Bool.and_eq_true, beq_iff_eq, decide_eq_true_eq] at hok
          omega
        rw [if_pos hki]
        have hw : ∃ w', cls S ki w' := by
          rcases hS with hS | hS
          · exact ⟨w, .inr hS⟩
          · exact ⟨w, .inl (by omega)⟩
        obtain ⟨u0, w0, hu0⟩ := h.some_
        obtain ⟨_, h0⟩ := hu0
        rw [g1, if_pos hwi, if_pos hki] at h0
        obtain ⟨v0, hv0, _⟩ := h0
        refine ⟨v0, fun w' hw' => (hv0 w' hw').congr (e1 u0).symm, ?_⟩
        rw [g2, if_pos hwp, if_neg hkp]
        refine (h.congr (a' := a.put i.dst v0) (e2 v0)).mono fun u w2 hu => ⟨hu.1, ?_⟩
        have hu2 := hu.2
        rw [g1, if_pos hwi, if_pos hki] at hu2
        obtain ⟨v, hv, hn⟩ := hu2
        obtain ⟨w', hw'⟩ := hw
        have a1 := (hv w' hw').congr (e1 u).symm
        have a2 := (hv0 w' hw').congr (e1 u0).symm
        have : v = v0 := by
          unfold QV at a1 a2
          rw [a1] at a2
          injection a2 with a2
          injection a2
        subst this
        rw [← comm]
        exact hn
    · rw [if_neg hwi]
      rw [g2, if_pos hwp]
      by_cases hkp : kp ≤ 1
      · rw [if_pos hkp] at h ⊢
        obtain ⟨vp, hvp, h⟩ := h
        rw [g1, if_neg hwi] at h
        exact ⟨vp, fun w' hw' => (hvp w' hw').congr (e2 _), by rw [← comm]; exact h⟩
      · rw [if_neg hkp] at h ⊢
        refine (h.congr (a' := a.put i.dst undef) (e2 _)).mono fun u w2 hu => ⟨hu.1, ?_⟩
        have := hu.2
        rw [g1, if_neg hwi] at this
        rw [← comm]
        exact this
  · rw [if_neg hwp] at h
    rw [g1] at h
    by_cases hwi : Region.wanted i (yielded ops a.tmps) = true
    · rw [if_pos hwi] at h ⊢
      by_cases hki : ki ≤ 1
      · rw [if_pos hki] at h ⊢
        obtain ⟨vi, hvi, h⟩ := h
        refine ⟨vi, fun w' hw' => (hvi w' hw').congr (e1 _).symm, ?_⟩
        rw [g2, if_neg hwp, ← comm]
        exact h
      · rw [if_neg hki] at h ⊢
        refine (h.congr (a' := a) (e1 _).symm).mono fun u w2 hu => ⟨hu.1, ?_⟩
        rw [g2, if_neg hwp, ← comm]
        exact hu.2
    · rw [if_neg hwi] at h ⊢
      rw [g2, if_neg hwp, ← comm]
      exact h

/-! ### Which pairs are ordered -/
def reach (ops : Array Oper) : Nat → Nat → Nat → Bool
  | 0, _, _ => false
  | n + 1, i, j => match ops[j]? with
    | none => false
    | some o => o.after.any fun e => Region.binds .any e && (e.on == i || reach ops n i e.on)

def Closed (ops : Array Oper) (listed : Array Bool) : Prop :=
  ∀ j o, ops[j]? = some o → listed.getD j false = true → ∀ e ∈ o.after, Region.binds .any e = true → listed.getD e.on false = true

theorem reach_listed {listed : Array Bool} (hc : Closed ops listed) : ∀ (n i j : Nat), reach ops n i j = true → listed.getD j false = true → listed.getD i false = true := by
  intro n
  induction n with
  | zero => intro i j h; simp [reach] at h
  | succ n ih =>
    intro i j h hj
    unfold reach at h
    split at h
    · cases h
    · rename_i o ho
      obtain ⟨e, he, hb⟩ := Array.any_eq_true'.1 h
      simp only [Bool.and_eq_true, Bool.or_eq_true, beq_iff_eq] at hb
      have hl := hc j o ho hj e he hb.1
      rcases hb.2 with h1 | h1
      · rw [← h1]; exact hl
      · exact ih i e.on h1 hl

theorem ready_reach {listed : Array Bool} (hc : Closed ops listed) {n i j : Nat} (hj : j ∈ Region.ready .any ops listed) (h : reach ops n i j = true) : listed.getD i false = true := by
  obtain ⟨_, o, ho, hall⟩ := mem_ready.1 hj
  cases n with
  | zero => simp [reach] at h
  | succ n =>
    simp only [reach, ho] at h
    obtain ⟨e, he, hb⟩ := Array.any_eq_true'.1 h
    simp only [Bool.and_eq_true, Bool.or_eq_true, beq_iff_eq] at hb
    have hl := hall e he hb.1
    rcases hb.2 with h1 | h1
    · rw [← h1]; exact hl
    · exact reach_listed hc n i e.on h1 hl

/-- The look at a region: edges lead back; two operations are ordered, or apart and of kinds that commute; behind a kind 3 stand kinds 0 and 3 alone. -/
def pairOk (ops : Array Oper) (ks : List Nat) (p i : Nat) : Bool :=
  reach ops ops.size p i || (match ops[p]?, ops[i]? with
    | some op, some oi => oi.apart ops op && okPair (ks.getD p 0) (ks.getD i 0) && (ks.getD p 0 != 3 || ks.getD i 0 == 0 || ks.getD i 0 == 3)
    | _, _ => false)

def lookD (ops : Array Oper) (ks : List Nat) : Bool :=
  (List.range ops.size).all fun i =>
    (match ops[i]? with
      | some o => noSel o && (o.after.all fun e => !Region.binds .any e || decide (e.on < i)) && decide (ks.getD i 0 ≤ 3)
      | none => false) &&
    (List.range i).all fun p => pairOk ops ks p i && (ks.getD p 0 != 3 || ks.getD i 0 == 0 || ks.getD i 0 == 3)

theorem lookD_pair {p i : Nat} (h : lookD ops ks = true) (hi : i < ops.size) (hp : p < i) : pairOk ops ks p i = true ∧ (ks.getD p 0 = 3 → ks.getD i 0 = 0 ∨ ks.getD i 0 = 3) := by
  have h1 := List.all_eq_true.1 h i (List.mem_range.2 hi)
  simp only [Bool.and_eq_true] at h1
  have h2 := List.all_eq_true.1 h1.2 p (List.mem_range.2 hp)
  simp only [Bool.and_eq_true, Bool.or_eq_true, bne_iff_ne, beq_iff_eq] at h2
  exact ⟨h2.1, fun h3 => by rcases h2.2 with (h4 | h4) | h4 <;> first | exact absurd h3 h4 | exact .inl h4 | exact .inr h4⟩

theorem lookD_edge {i : Nat} {o : Oper} (h : lookD ops ks = true) (ho : ops[i]? = some o) : noSel o = true ∧ (∀ e ∈ o.after, Region.binds .any e = true → e.on < i) ∧ ks.getD i 0 ≤ 3 := by
  have hi : i < ops.size := (Array.getElem?_eq_some_iff.1 ho).1
  have h1 := List.all_eq_true.1 h i (List.mem_range.2 hi)
  simp only [Bool.and_eq_true, ho, decide_eq_true_eq] at h1
  refine ⟨h1.1.1.1, fun e he hb => ?_, h1.1.2⟩
  have h2 := Array.all_eq_true'.1 h1.1.1.2 e he
  simpa [hb] using h2

/-! ### Any order -/
def rem (ops : Array Oper) (listed : Array Bool) : List Nat := (List.range ops.size).filter fun i => !listed.getD i true

theorem mem_rem {listed : Array Bool} {i : Nat} : i ∈ rem ops listed ↔ i < ops.size ∧ listed.getD i true = false := by
  unfold rem
  simp [List.mem_filter]

theorem rem_sorted (listed : Array Bool) : (rem ops listed).Pairwise (· < ·) := (List.pairwise_lt_range).filter _

theorem front {i : Nat} {oi : Oper} (hoi : ops[i]? = some oi) (hsi : noSel oi = true) :
    ∀ (pre post : List Nat) (a : Act) (w : World),
      (∀ p ∈ pre, ∃ op, ops[p]? = some op ∧ noSel op = true ∧ oi.apart ops op = true ∧ okPair (ks.getD p 0) (ks.getD i 0) = true ∧ ks.getD p 0 ≤ 3) →
      pre.Pairwise (fun p q => ks.getD p 0 = 3 → ks.getD q 0 = 0 ∨ ks.getD q 0 = 3) →
      (S w ∨ ∀ p ∈ i :: pre, ks.getD p 0 ≠ 1 ∧ ks.getD p 0 ≠ 2) →
      wpI P ops ks S K (pre ++ i :: post) a w → stepD P ops S oi (ks.getD i 0) (wpI P ops ks S K (pre ++ post)) a w := by
  intro pre
  induction pre with
  | nil => intro post a w _ _ _ h; simpa [wpI, hoi] using h
  | cons p pre ih =>
    intro post a w hpre h3 hS h
    obtain ⟨op, hop, hsp, hap, hok, hk3⟩ := hpre p (by simp)
    obtain ⟨h3p, h3'⟩ := List.pairwise_cons.1 h3
    have e : wpI P ops ks S K (p :: pre ++ post) = stepD P ops S op (ks.getD p 0) (wpI P ops ks S K (pre ++ post)) := by
      funext a w
      simp [wpI, hop]
    rw [e]
    have h' : stepD P ops S op (ks.getD p 0) (wpI P ops ks S K (pre ++ i :: post)) a w := by simpa [wpI, hop] using h
    refine stepD_swap hap hsi hsp hok (hS.imp id fun hS => ?_) ?_
    · have h1 := hS p (by simp); have h2 := hS i (by simp)
      exact ⟨h1.1, h1.2, h2.1, h2.2⟩
    · -- the class is kept by what p does, where it is needed
      unfold stepD at h' ⊢
      have hpre' : ∀ q ∈ pre, ∃ op, ops[q]? = some op ∧ noSel op = true ∧ oi.apart ops op = true ∧ okPair (ks.getD q 0) (ks.getD i 0) = true ∧ ks.getD q 0 ≤ 3 := fun q hq => hpre q (by simp [hq])
      have hS' : ∀ w, (S w ∨ ∀ q ∈ i :: p :: pre, ks.getD q 0 ≠ 1 ∧ ks.getD q 0 ≠ 2) → (S w ∨ ∀ q ∈ i :: pre, ks.getD q 0 ≠ 1 ∧ ks.getD q 0 ≠ 2) := fun w hw => hw.imp id fun h q hq => h q (by rcases List.mem_cons.1 hq with rfl | hq <;> simp [*])
      by_cases hwp : Region.wanted op (yielded ops a.tmps) = true
      · rw [if_pos hwp] at h' ⊢
        by_cases hkp : ks.getD p 0 ≤ 1
        · rw [if_pos hkp] at h' ⊢
          obtain ⟨v, hv, h'⟩ := h'
          exact ⟨v, hv, ih post _ w hpre' h3' (hS' w hS) h'⟩
        · rw [if_neg hkp] at h' ⊢
          refine h'.mono fun u w2 hu => ⟨hu.1, ih post _ w2 hpre' h3' ?_ hu.2⟩
          by_cases hk2 : ks.getD p 0 = 2
          · exact .inl (hu.1 hk2)
          · right
            -- p is of kind 3 (or more): then i and the rest of 'pre' are of kind 0
            intro q hq
            simp only [okPair, Bool.or_eq_true, Bool.and_eq_true, beq_iff_eq, decide_eq_true_eq] at hok
            have hi0 : ks.getD i 0 = 0 := by omega
            rcases List.mem_cons.1 hq with rfl | hq
            · omega
            · have := h3p q hq (by omega)
              omega
      · rw [if_neg hwp] at h' ⊢
        exact ih post _ w hpre' h3' (hS' w hS) h'

theorem stepD_wpOp {i : Nat} {o : Oper} (ho : ops[i]? = some o) {k : Nat} {next N : Act → World → Prop} {Q : Exit → Act → World → Prop} {a : Act} {w : World} (hS : S w ∨ (k ≠ 1 ∧ k ≠ 2))
    (hN : ∀ a' w', (S w' ∨ (¬ S w ∧ w' = w) ∨ (k ≠ 0 ∧ k ≠ 1 ∧ k ≠ 2)) → next a' w' → N a' w') (h : stepD P ops S o k next a w) : wpOp P ops Q i N a w := by
  have hself : S w ∨ (¬ S w ∧ w = w) ∨ (k ≠ 0 ∧ k ≠ 1 ∧ k ≠ 2) := by
    by_cases hs : S w
    · exact .inl hs
    · exact .inr (.inl ⟨hs, rfl⟩)
  unfold stepD at h
  unfold wpOp
  simp only [ho]
  by_cases hw : Region.wanted o (yielded ops a.tmps) = true
  · rw [if_pos hw] at h ⊢
    by_cases hk : k ≤ 1
    · rw [if_pos hk] at h
      obtain ⟨v, hv, hn⟩ := h
      refine .inl (Eff.wp ?_)
      have hc : cls S k w := by
        rcases hS with hS | hS
        · exact .inr hS
        · exact .inl (by omega)
      exact Eff.value (hv w hc) (hN _ _ hself hn)
    · rw [if_neg hk] at h
      refine .inl (Eff.wp (h.mono fun u w2 hu => hN _ _ ?_ hu.2))
      by_cases hk2 : k = 2
      · exact .inl (hu.1 hk2)
      · exact .inr (.inr ⟨by omega, by omega, hk2⟩)
  · rw [if_neg hw] at h ⊢
    exact hN _ _ hself h

theorem rem_set {listed : Array Bool} {i : Nat} {pre post : List Nat} (hl : listed.size = ops.size) (h : rem ops listed = pre ++ i :: post) : rem ops (listed.setIfInBounds i true) = pre ++ post := by
  have hi : i ∈ rem ops listed := by rw [h]; simp
  have hs := rem_sorted (ops := ops) listed
  rw [h] at hs
  have hlt := (mem_rem.1 hi).1
  have e : rem ops (listed.setIfInBounds i true) = (rem ops listed).filter (fun j => j != i) := by
    unfold rem
    rw [List.filter_filter]
    refine List.filter_congr fun j hj => ?_
    by_cases hij : i = j
    · subst hij
      simp [hl, hlt]
    · have : (listed.setIfInBounds i true).getD j true = listed.getD j true := getD_set_ne true hij
      rw [this]
      have : (j != i) = true := by simp; exact fun h => hij h.symm
      simp [this]
  rw [e, h]
  rw [List.pairwise_append] at hs
  obtain ⟨_, h2, h3⟩ := hs
  rw [List.filter_append, List.filter_cons]
  simp only [bne_self_eq_false, Bool.false_eq_true, if_false]
  rw [List.filter_eq_self.2, List.filter_eq_self.2]
  · intro j hj
    have := (List.pairwise_cons.1 h2).1 j hj
    simp; omega
  · intro j hj
    have := h3 j hj i (by simp)
    simp; omega

theorem wpI_any {Q : Exit → Act → World → Prop} (hlook : lookD ops ks = true) (hQ : ∀ a w, K a w → Q .normal a w) :
    ∀ (fuel : Nat) (listed : Array Bool) (a : Act) (w : World), (rem ops listed).length ≤ fuel → listed.size = ops.size → Closed ops listed →
      (S w ∨ ∀ p ∈ rem ops listed, ks.getD p 0 = 0 ∨ ks.getD p 0 = 3) → wpI P ops ks S K (rem ops listed) a w → wpAny P .any ops Q fuel listed a w := by
  have none_left : ∀ (listed : Array Bool), listed.size = ops.size → Region.ready .any ops listed = [] → rem ops listed = [] := by
    intro listed hl hr
    cases hrem : rem ops listed with
    | nil => rfl
    | cons i r =>
      exfalso
      have hi : i ∈ rem ops listed := by rw [hrem]; simp
      obtain ⟨hlt, hun⟩ := mem_rem.1 hi
      have ho : ops[i]? = some ops[i] := Array.getElem?_eq_getElem hlt
      have hin : i ∈ Region.ready .any ops listed := by
        refine mem_ready.2 ⟨hun, ops[i], ho, fun e he hb => ?_⟩
        have hei := (lookD_edge hlook ho).2.1 e he hb
        have hsorted := rem_sorted (ops := ops) listed
        rw [hrem] at hsorted
        have hnot : e.on ∉ rem ops listed := by
          rw [hrem]
          intro hm
          rcases List.mem_cons.1 hm with h | h
          · omega
          · have := (List.pairwise_cons.1 hsorted).1 _ h; omega
        have hes : e.on < listed.size := by omega
        cases hv : listed.getD e.on true with
        | false => exact absurd (mem_rem.2 ⟨by omega, hv⟩) hnot
        | true => simpa [hes] using hv
      rw [hr] at hin
      cases hin
  intro fuel
  induction fuel with
  | zero =>
    intro listed a w hf hl hc hS h
    have hrem : rem ops listed = [] := List.eq_nil_of_length_eq_zero (by omega)
    refine ⟨?_, hQ _ _ (by rw [hrem] at h; exact h)⟩
    cases hr : Region.ready .any ops listed with
    | nil => rfl
    | cons i r =>
      have hi : i ∈ Region.ready .any ops listed := by rw [hr]; simp
      obtain ⟨hun, o, ho, _⟩ := mem_ready.1 hi
      have : i ∈ rem ops listed := mem_rem.2 ⟨(Array.getElem?_eq_some_iff.1 ho).1, hun⟩
      rw [hrem] at this
      cases this
  | succ fuel ih =>
    intro listed a w hf hl hc hS h
    refine ⟨fun hr => hQ _ _ (by rw [none_left listed hl hr] at h; exact h), fun i hi => ?_⟩
    obtain ⟨hun, oi, hoi, hall⟩ := mem_ready.1 hi
    have hlt : i < ops.size := (Array.getElem?_eq_some_iff.1 hoi).1
    have him : i ∈ rem ops listed := mem_rem.2 ⟨hlt, hun⟩
    obtain ⟨pre, post, hsplit⟩ := List.append_of_mem him
    have hsorted := rem_sorted (ops := ops) listed
    rw [hsplit] at hsorted
    have hpw := hsorted
    rw [List.pairwise_append] at hsorted
    obtain ⟨hs1, hs2, hs3⟩ := hsorted
    have hpre : ∀ p ∈ pre, ∃ op, ops[p]? = some op ∧ noSel op = true ∧ oi.apart ops op = true ∧ okPair (ks.getD p 0) (ks.getD i 0) = true ∧ ks.getD p 0 ≤ 3 := by
      intro p hp
      have hpi : p < i := hs3 p hp i (by simp)
      have hpm : p ∈ rem ops listed := by rw [hsplit]; simp [hp]
      have hpu := (mem_rem.1 hpm).2
      have hop : ops[p]? = some ops[p] := Array.getElem?_eq_getElem (by omega)
      have hpair := (lookD_pair hlook hlt hpi).1
      unfold pairOk at hpair
      simp only [Bool.or_eq_true] at hpair
      rcases hpair with hre | hpair
      · have := ready_reach hc hi hre
        have hps : p < listed.size := by omega
        simp [hps] at this hpu
        rw [this] at hpu
        cases hpu
      · simp only [hop, hoi, Bool.and_eq_true] at hpair
        exact ⟨ops[p], hop, (lookD_edge hlook hop).1, hpair.1.1, hpair.1.2, (lookD_edge hlook hop).2.2⟩
    have h3 : pre.Pairwise (fun p q => ks.getD p 0 = 3 → ks.getD q 0 = 0 ∨ ks.getD q 0 = 3) := by
      refine List.Pairwise.imp_of_mem ?_ hs1
      intro p q hp hq hpq h3
      have hqm : q ∈ rem ops listed := by rw [hsplit]; simp [hq]
      exact (lookD_pair hlook (mem_rem.1 hqm).1 hpq).2 h3
    have hfront := front (P := P) (K := K) (S := S) (ks := ks) hoi (lookD_edge hlook hoi).1 pre post a w hpre h3
      (hS.imp id fun hS p hp => by
        have hpm : p ∈ rem ops listed := by rw [hsplit]; rcases List.mem_cons.1 hp with rfl | hp <;> simp [*]
        have := hS p hpm
        omega) (by rw [← hsplit]; exact h)
    have hset := rem_set hl hsplit
    refine stepD_wpOp hoi (hS.imp id fun hS => by have := hS i him; omega) (fun a' w' hw' hn => ?_) hfront
    refine ih _ a' w' ?_ (by simp [hl]) ?_ ?_ (by rw [hset]; exact hn)
    · rw [hset]
      rw [hsplit] at hf
      simp only [List.length_append, List.length_cons] at hf ⊢
      omega
    · intro j o hj hlj e he hb
      by_cases hij : i = j
      · subst hij
        have : o = oi := Option.some.inj (hj.symm.trans hoi)
        subst this
        exact getD_set_true (hall e he hb)
      · rw [getD_set_ne false hij] at hlj
        exact getD_set_true (hc j o hj hlj e he hb)
    · rw [hset]
      rcases hw' with hw' | ⟨hns, rfl⟩ | hk
      · exact .inl hw'
      · rcases hS with hS | hS
        · exact absurd hS hns
        · exact .inr fun p hp => hS p (by rw [hsplit]; rcases List.mem_append.1 hp with h | h <;> simp [h])
      · -- i is of kind 3: what is left before it commutes with it, what is left behind it is 0 or 3
        have hk3 : ks.getD i 0 = 3 := by have := (lookD_edge hlook hoi).2.2; omega
        refine .inr fun p hp => ?_
        rcases List.mem_append.1 hp with hp | hp
        · obtain ⟨op, _, _, _, hok, _⟩ := hpre p hp
          simp only [okPair, Bool.or_eq_true, Bool.and_eq_true, beq_iff_eq, decide_eq_true_eq] at hok
          omega
        · have hpi := (List.pairwise_cons.1 hs2).1 p hp
          have hpm : p ∈ rem ops listed := by rw [hsplit]; simp [hp]
          exact (lookD_pair hlook (mem_rem.1 hpm).1 hpi).2 hk3

/-- THE REGION's RULE. -/
theorem wp_region_D {id : Nat} {l : List Oper} {Q : Exit → Act → World → Prop} {a : Act} {w : World} (ks : List Nat) (S : World → Prop) (hm : P.follows .mixedOrders = true) (hlook : lookD l.toArray ks = true)
    (hS : S w.drew) (h : wpD P l.toArray S (Q .normal) l ks a w.drew) : (Code.region id l.toArray true).wp P Q a w := by
  refine wp_region_any hm ?_
  have e0 : rem l.toArray (Array.replicate l.toArray.size false) = List.range' 0 l.length := by
    unfold rem
    rw [List.range_eq_range', List.filter_eq_self.2]
    · simp
    · intro i hi
      have : i < l.length := by simpa using hi
      simp [this]
  refine wpI_any (ks := ks) (S := S) (K := Q .normal) hlook (fun _ _ h => h) _ _ _ _ ?_ (by simp) ?_ (.inl hS) ?_
  · rw [e0]; simp
  · intro j o hj hl
    simp at hl
    have : j < l.length := by simpa using (Array.getElem?_eq_some_iff.1 hj).1
    simp [this] at hl
  · rw [e0, wpI_eq (ks := ks) l 0 ks (fun j => by simp) (fun j => by simp)]
    exact h

/-! ### The steps -/
section
variable {P : Program} {ops : Array Oper} {S : World → Prop} {K : Act → World → Prop} {a : Act} {w : World} {rest : List Oper} {ks : List Nat} {o : Oper} {n d : Nat} {L : List (Nat × Value)} {v : Value} {R : Value → World → Prop}

theorem stepD_plain {k : Nat} {next : Act → World → Prop} (hg : o.guard = none) :
    stepD P ops S o k next a w = if k ≤ 1 then ∃ v, (∀ w', cls S k w' → QV P o a w' v) ∧ next (a.put o.dst v) w else Eff P o a w (fun u w2 => pst S k w2 ∧ next (a.put o.dst u) w2) := by
  unfold stepD
  rw [if_pos (by simp [Region.wanted, hg])]

/-- kind 0: in every world. -/
theorem wd_p (hF : Fr a n L) (hg : o.guard = none) (hd : o.dst = some d) (hn : Nat.ble (d + 1) n = true) (h : ∀ w, QV P o a w v)
    (next : ∀ a, Fr a n ((d, v) :: L) → wpD P ops S K rest ks a w) : wpD P ops S K (o :: rest) (0 :: ks) a w := by
  show stepD P ops S o 0 (wpD P ops S K rest ks) a w
  rw [stepD_plain hg, if_pos (by omega)]
  exact ⟨v, fun w' _ => h w', by rw [hd]; exact next _ (hF.put (Nat.le_of_ble_eq_true hn) v)⟩
/-- kind 1: in every world of the class. -/
theorem wd_r (hF : Fr a n L) (hg : o.guard = none) (hd : o.dst = some d) (hn : Nat.ble (d + 1) n = true) (h : ∀ w, S w → QV P o a w v)
    (next : ∀ a, Fr a n ((d, v) :: L) → wpD P ops S K rest ks a w) : wpD P ops S K (o :: rest) (1 :: ks) a w := by
  show stepD P ops S o 1 (wpD P ops S K rest ks) a w
  rw [stepD_plain hg, if_pos (by omega)]
  exact ⟨v, fun w' hc => h w' (hc.resolve_left (by omega)), by rw [hd]; exact next _ (hF.put (Nat.le_of_ble_eq_true hn) v)⟩
/-- kind 2: the class is kept. -/
theorem wd_e (hF : Fr a n L) (hg : o.guard = none) (hd : o.dst = some d) (hn : Nat.ble (d + 1) n = true) (h : Eff P o a w R) (hS : ∀ v w', R v w' → S w')
    (next : ∀ a v w, R v w → Fr a n ((d, v) :: L) → wpD P ops S K rest ks a w) : wpD P ops S K (o :: rest) (2 :: ks) a w := by
  show stepD P ops S o 2 (wpD P ops S K rest ks) a w
  rw [stepD_plain hg, if_neg (by omega)]
  exact h.mono fun v w' hR => ⟨fun _ => hS _ _ hR, by rw [hd]; exact next _ _ _ hR (hF.put (Nat.le_of_ble_eq_true hn) v)⟩
/-- kind 3. -/
theorem wd_f (hF : Fr a n L) (hg : o.guard = none) (hd : o.dst = some d) (hn : Nat.ble (d + 1) n = true) (h : Eff P o a w R)
    (next : ∀ a v w, R v w → Fr a n ((d, v) :: L) → wpD P ops S K rest ks a w) : wpD P ops S K (o :: rest) (3 :: ks) a w := by
  show stepD P ops S o 3 (wpD P ops S K rest ks) a w
  rw [stepD_plain hg, if_neg (by omega)]
  exact h.mono fun v w' hR => ⟨fun h => by omega, by rw [hd]; exact next _ _ _ hR (hF.put (Nat.le_of_ble_eq_true hn) v)⟩
theorem wd_s (hF : Fr a n L) (hg : o.guard = none) (hd : o.dst = none) (h : Eff P o a w R)
    (next : ∀ a v w, R v w → Fr a n L → wpD P ops S K rest ks a w) : wpD P ops S K (o :: rest) (3 :: ks) a w := by
  show stepD P ops S o 3 (wpD P ops S K rest ks) a w
  rw [stepD_plain hg, if_neg (by omega)]
  exact h.mono fun v w' hR => ⟨fun h => by omega, by rw [hd]; exact next _ _ _ hR (hF.putNone v)⟩
/-- A store beside which reads stand whose cells it leaves. -/
theorem wd_s2 (hF : Fr a n L) (hg : o.guard = none) (hd : o.dst = none) (h : Eff P o a w R) (hS : ∀ v w', R v w' → S w')
    (next : ∀ a v w, R v w → Fr a n L → wpD P ops S K rest ks a w) : wpD P ops S K (o :: rest) (2 :: ks) a w := by
  show stepD P ops S o 2 (wpD P ops S K rest ks) a w
  rw [stepD_plain hg, if_neg (by omega)]
  exact h.mono fun v w' hR => ⟨fun _ => hS _ _ hR, by rw [hd]; exact next _ _ _ hR (hF.putNone v)⟩

theorem wd_gp {j : Nat} {b : Bool} {dj : Nat} {oj : Oper} {g : Value} (hF : Fr a n L) (hg : o.guard = some (j, b)) (hj : ops[j]? = some oj) (hdj : oj.dst = some dj) (hv : lk L dj = some g)
    (hd : o.dst = some d) (hn : Nat.ble (d + 1) n = true) (h : isB g b = true → ∀ w, QV P o a w v)
    (next : ∀ a, Fr a n ((d, gv g b v) :: L) → wpD P ops S K rest ks a w) : wpD P ops S K (o :: rest) (0 :: ks) a w := by
  show stepD P ops S o 0 (wpD P ops S K rest ks) a w
  have hw := wanted_of hF hg hj hdj hv
  have hnext := next _ (hF.put (Nat.le_of_ble_eq_true hn) (gv g b v))
  unfold stepD
  rw [hw]
  cases hb : isB g b with
  | true =>
    rw [gv_of hb] at hnext
    simp only [if_true]
    rw [if_pos (by omega)]
    exact ⟨v, fun w' _ => h hb w', by rw [hd]; exact hnext⟩
  | false =>
    rw [gv_not hb] at hnext
    rw [hd]; exact hnext
theorem wd_gr {j : Nat} {b : Bool} {dj : Nat} {oj : Oper} {g : Value} (hF : Fr a n L) (hg : o.guard = some (j, b)) (hj : ops[j]? = some oj) (hdj : oj.dst = some dj) (hv : lk L dj = some g)
    (hd : o.dst = some d) (hn : Nat.ble (d + 1) n = true) (h : isB g b = true → ∀ w, S w → QV P o a w v)
    (next : ∀ a, Fr a n ((d, gv g b v) :: L) → wpD P ops S K rest ks a w) : wpD P ops S K (o :: rest) (1 :: ks) a w := by
  show stepD P ops S o 1 (wpD P ops S K rest ks) a w
  have hw := wanted_of hF hg hj hdj hv
  have hnext := next _ (hF.put (Nat.le_of_ble_eq_true hn) (gv g b v))
  unfold stepD
  rw [hw]
  cases hb : isB g b with
  | true =>
    rw [gv_of hb] at hnext
    simp only [if_true]
    rw [if_pos (by omega)]
    exact ⟨v, fun w' hc => h hb w' (hc.resolve_left (by omega)), by rw [hd]; exact hnext⟩
  | false =>
    rw [gv_not hb] at hnext
    rw [hd]; exact hnext
theorem wd_nil (h : K a w) : wpD P ops S K [] ks a w := h
end
end
end Go.Proofs.YtanpeofnlihhoaaDoor
