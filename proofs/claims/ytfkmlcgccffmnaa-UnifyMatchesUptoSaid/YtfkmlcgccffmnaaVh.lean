/- GW32: a region in which two last effects stand in an open order: both orders are walked. -/
import Derived.Test.YtfkmlcgccffmnaaVb
import Derived.Test.YtfkmlcgccffmnaaVf
namespace Go.Proofs.Ytfkmlcgccffmnaa
open Go
section
variable {P : Program} {ops : Array Oper} {ks : List Nat} {S : World → Prop} {K K' : Act → World → Prop}
def remT (T : List Nat) (listed : Array Bool) : List Nat := T.filter fun i => !listed.getD i true
theorem mem_remT {T : List Nat} {listed : Array Bool} {i : Nat} : i ∈ remT T listed ↔ i ∈ T ∧ listed.getD i true = false := by
  unfold remT; simp [List.mem_filter]
def pairT (ops : Array Oper) (ks : List Nat) (x y p i : Nat) : Bool :=
  (match ops[p]? with
    | some o => o.after.all fun e => !Region.binds .any e || decide (¬ e.on = i)
    | none => false) && decide (¬ p = i) &&
  (pairOk ops ks p i || (decide (p = x) && decide (i = y))) && (ks.getD p 0 != 3 || ks.getD i 0 == 0 || ks.getD i 0 == 3)
def allPairs (f : Nat → Nat → Bool) : List Nat → Bool
  | [] => true
  | p :: l => l.all (f p) && allPairs f l
theorem allPairs_iff {f : Nat → Nat → Bool} : ∀ {l : List Nat}, allPairs f l = true → l.Pairwise fun p q => f p q = true
  | [], _ => .nil
  | p :: l, h => by
    unfold allPairs at h
    rw [Bool.and_eq_true] at h
    exact .cons (fun q hq => List.all_eq_true.1 h.1 q hq) (allPairs_iff h.2)
def lookT (ops : Array Oper) (ks : List Nat) (T : List Nat) (x y : Nat) : Bool :=
  (List.range ops.size).all (fun i => decide (i ∈ T)) && (T.all fun i => match ops[i]? with
    | some o => noSel o && (o.after.all fun e => !Region.binds .any e || (decide (e.on < ops.size) && decide (¬ e.on = i))) && decide (ks.getD i 0 ≤ 3)
    | none => false) && allPairs (pairT ops ks x y) T
theorem look_pw {T : List Nat} {x y : Nat} (h : lookT ops ks T x y = true) : T.Pairwise fun p q => pairT ops ks x y p q = true := by
  unfold lookT at h
  rw [Bool.and_eq_true] at h
  exact allPairs_iff h.2
theorem look_all {T : List Nat} {x y i : Nat} (h : lookT ops ks T x y = true) (hi : i < ops.size) : i ∈ T := by
  unfold lookT at h
  simp only [Bool.and_eq_true] at h
  simpa using List.all_eq_true.1 h.1.1 i (List.mem_range.2 hi)
theorem look_one {T : List Nat} {x y i : Nat} (h : lookT ops ks T x y = true) (hi : i ∈ T) : ∃ o, ops[i]? = some o ∧ noSel o = true ∧ (∀ e ∈ o.after, Region.binds .any e = true → e.on < ops.size ∧ ¬ e.on = i) ∧ ks.getD i 0 ≤ 3 := by
  unfold lookT at h
  simp only [Bool.and_eq_true] at h
  have h1 := List.all_eq_true.1 h.1.2 i hi
  cases ho : ops[i]? with
  | none => rw [ho] at h1; cases h1
  | some o =>
    rw [ho] at h1
    simp only [Bool.and_eq_true, decide_eq_true_eq] at h1
    refine ⟨o, rfl, h1.1.1, fun e he hb => ?_, h1.2⟩
    have h2 := Array.all_eq_true'.1 h1.1.2 e he
    simpa [hb] using h2
theorem pairT_edge {x y p i : Nat} {o : Oper} (h : pairT ops ks x y p i = true) (ho : ops[p]? = some o) : ∀ e ∈ o.after, Region.binds .any e = true → ¬ e.on = i := fun e he hb => by
  unfold pairT at h
  simp only [Bool.and_eq_true, ho] at h
  have := Array.all_eq_true'.1 h.1.1.1 e he
  simpa [hb] using this
theorem pairT_ne {x y p i : Nat} (h : pairT ops ks x y p i = true) : ¬ p = i := by
  unfold pairT at h
  simp only [Bool.and_eq_true, decide_eq_true_eq] at h
  exact h.1.1.2
theorem pairT_ok {x y p i : Nat} (h : pairT ops ks x y p i = true) : pairOk ops ks p i = true ∨ (p = x ∧ i = y) := by
  unfold pairT at h
  simp only [Bool.and_eq_true, Bool.or_eq_true, decide_eq_true_eq] at h
  exact h.1.2
theorem pairT_3 {x y p i : Nat} (h : pairT ops ks x y p i = true) : ks.getD p 0 = 3 → ks.getD i 0 = 0 ∨ ks.getD i 0 = 3 := fun h3 => by
  unfold pairT at h
  simp only [Bool.and_eq_true, Bool.or_eq_true, bne_iff_ne, beq_iff_eq] at h
  rcases h.2 with (h4 | h4) | h4
  · exact absurd h3 h4
  · exact .inl h4
  · exact .inr h4
theorem none_leftT {T : List Nat} {x y : Nat} (hl : lookT ops ks T x y = true) {listed : Array Bool} (hsz : listed.size = ops.size) (hr : Region.ready .any ops listed = []) : remT T listed = [] := by
  cases hrem : remT T listed with
  | nil => rfl
  | cons i r =>
    exfalso
    have hi : i ∈ remT T listed := by rw [hrem]; simp
    obtain ⟨hiT, hun⟩ := mem_remT.1 hi
    obtain ⟨o, ho, _, hed, _⟩ := look_one hl hiT
    have hin : i ∈ Region.ready .any ops listed := by
      refine mem_ready.2 ⟨hun, o, ho, fun e he hb => ?_⟩
      obtain ⟨h1, h2⟩ := hed e he hb
      have hpw := (look_pw hl).filter (fun i => !listed.getD i true)
      change (remT T listed).Pairwise _ at hpw
      rw [hrem] at hpw
      have hnot : e.on ∉ remT T listed := by
        rw [hrem]
        intro hm
        rcases List.mem_cons.1 hm with h | h
        · exact h2 h
        · exact pairT_edge ((List.pairwise_cons.1 hpw).1 _ h) ho e he hb rfl
      have hes : e.on < listed.size := by omega
      cases hv : listed.getD e.on true with
      | false => exact absurd (mem_remT.2 ⟨look_all hl h1, hv⟩) hnot
      | true => simpa [hes] using hv
    rw [hr] at hin
    cases hin
theorem remT_set {T : List Nat} {x y : Nat} (hnd : T.Pairwise fun p q => pairT ops ks x y p q = true) {listed : Array Bool} (hsz : listed.size = ops.size) {i : Nat} (hi : i < ops.size) {pre post : List Nat} (h : remT T listed = pre ++ i :: post) : remT T (listed.setIfInBounds i true) = pre ++ post := by
  have e : remT T (listed.setIfInBounds i true) = (remT T listed).filter (fun j => j != i) := by
    unfold remT
    rw [List.filter_filter]
    refine List.filter_congr fun j hj => ?_
    by_cases hij : i = j
    · subst hij
      simp [hsz, hi]
    · have : (listed.setIfInBounds i true).getD j true = listed.getD j true := getD_set_ne true hij
      rw [this]
      have : (j != i) = true := by simp; exact fun h => hij h.symm
      simp [this]
  have hs := hnd.filter (fun i => !listed.getD i true)
  change (remT T listed).Pairwise _ at hs
  rw [e, h]
  rw [h, List.pairwise_append] at hs
  obtain ⟨_, h2, h3⟩ := hs
  rw [List.filter_append, List.filter_cons]
  simp only [bne_self_eq_false, Bool.false_eq_true, if_false]
  rw [List.filter_eq_self.2, List.filter_eq_self.2]
  · intro j hj
    have := pairT_ne ((List.pairwise_cons.1 h2).1 j hj)
    simp; exact fun e => this e.symm
  · intro j hj
    have := pairT_ne (h3 j hj i (by simp))
    simpa using this
/-- one of the operations that may come next is taken out of the list -/
theorem stepT {T : List Nat} {x y : Nat} (hone : ∀ i ∈ T, ∃ o, ops[i]? = some o ∧ noSel o = true ∧ ks.getD i 0 ≤ 3) (hpw : T.Pairwise fun p q => pairT ops ks x y p q = true) {listed : Array Bool} (hsz : listed.size = ops.size) (hc : Closed ops listed) {i : Nat} {oi : Oper} (hi : i ∈ Region.ready .any ops listed) (hoi : ops[i]? = some oi) (him : i ∈ remT T listed) (hxy : i = y → x ∉ remT T listed)
    {a : Act} {w : World} (hS : S w ∨ ∀ p ∈ remT T listed, ks.getD p 0 = 0 ∨ ks.getD p 0 = 3) :
    (wpI P ops ks S K (remT T listed) a w → stepD P ops S oi (ks.getD i 0) (wpI P ops ks S K (remT T (listed.setIfInBounds i true))) a w) ∧ (ks.getD i 0 = 3 → ∀ p ∈ remT T (listed.setIfInBounds i true), ks.getD p 0 = 0 ∨ ks.getD p 0 = 3) := by
  have hlt : i < ops.size := (Array.getElem?_eq_some_iff.1 hoi).1
  obtain ⟨pre, post, hsplit⟩ := List.append_of_mem him
  have hs := hpw.filter (fun i => !listed.getD i true)
  change (remT T listed).Pairwise _ at hs
  rw [hsplit, List.pairwise_append] at hs
  obtain ⟨hs1, hs2, hs3⟩ := hs
  have hpre : ∀ p ∈ pre, ∃ op, ops[p]? = some op ∧ noSel op = true ∧ oi.apart ops op = true ∧ okPair (ks.getD p 0) (ks.getD i 0) = true ∧ ks.getD p 0 ≤ 3 := by
    intro p hp
    have hpm : p ∈ remT T listed := by rw [hsplit]; simp [hp]
    obtain ⟨hpT, hpu⟩ := mem_remT.1 hpm
    obtain ⟨op, hop, hn, hk⟩ := hone p hpT
    rcases pairT_ok (hs3 p hp i (by simp)) with hpair | ⟨h1, h2⟩
    · unfold pairOk at hpair
      simp only [Bool.or_eq_true] at hpair
      rcases hpair with hre | hpair
      · have := ready_reach hc hi hre
        have hps : p < listed.size := by have := (Array.getElem?_eq_some_iff.1 hop).1; omega
        simp [hps] at this hpu
        rw [this] at hpu
        cases hpu
      · simp only [hop, hoi, Bool.and_eq_true] at hpair
        exact ⟨op, hop, hn, hpair.1.1, hpair.1.2, hk⟩
    · exact absurd (h1 ▸ hpm) (hxy h2)
  have h3 : pre.Pairwise (fun p q => ks.getD p 0 = 3 → ks.getD q 0 = 0 ∨ ks.getD q 0 = 3) := hs1.imp fun h => pairT_3 h
  have hset := remT_set hpw hsz hlt hsplit
  obtain ⟨oi', hoi', hni, _⟩ := hone i (mem_remT.1 him).1
  obtain rfl := Option.some.inj (hoi.symm.trans hoi')
  refine ⟨fun h => ?_, fun hk3 p hp => ?_⟩
  · rw [hset]
    refine front (P := P) (K := K) (S := S) (ks := ks) hoi hni pre post a w hpre h3 (hS.imp id fun hS p hp => ?_) (by rw [← hsplit]; exact h)
    have hpm : p ∈ remT T listed := by rw [hsplit]; rcases List.mem_cons.1 hp with rfl | hp <;> simp [*]
    have := hS p hpm
    omega
  · rw [hset] at hp
    rcases List.mem_append.1 hp with hp | hp
    · obtain ⟨op, _, _, _, hok, _⟩ := hpre p hp
      simp only [okPair, Bool.or_eq_true, Bool.and_eq_true, beq_iff_eq, decide_eq_true_eq] at hok
      omega
    · exact pairT_3 ((List.pairwise_cons.1 hs2).1 p hp) hk3
theorem closed_set {listed : Array Bool} (hc : Closed ops listed) {i : Nat} {oi : Oper} (hoi : ops[i]? = some oi) (hall : ∀ e ∈ oi.after, Region.binds .any e = true → listed.getD e.on false = true) : Closed ops (listed.setIfInBounds i true) := by
  intro j o hj hlj e he hb
  by_cases hij : i = j
  · subst hij
    have : o = oi := Option.some.inj (hj.symm.trans hoi)
    subst this
    exact getD_set_true (hall e he hb)
  · rw [getD_set_ne false hij] at hlj
    exact getD_set_true (hc j o hj hlj e he hb)
theorem remT_len {T : List Nat} {x y : Nat} (hl : lookT ops ks T x y = true) {listed : Array Bool} (hsz : listed.size = ops.size) {i : Nat} (him : i ∈ remT T listed) : (remT T (listed.setIfInBounds i true)).length + 1 = (remT T listed).length := by
  obtain ⟨o, ho, _⟩ := look_one hl (mem_remT.1 him).1
  obtain ⟨pre, post, hsplit⟩ := List.append_of_mem him
  rw [remT_set (look_pw hl) hsz (Array.getElem?_eq_some_iff.1 ho).1 hsplit, hsplit]
  simp only [List.length_append, List.length_cons]; omega
theorem remT_sub {T : List Nat} {listed : Array Bool} {i j : Nat} (h : j ∈ remT T (listed.setIfInBounds i true)) : j ∈ remT T listed := by
  obtain ⟨h1, h2⟩ := mem_remT.1 h
  refine mem_remT.2 ⟨h1, ?_⟩
  by_cases hij : i = j
  · subst hij
    cases hv : listed.getD i true with
    | false => rfl
    | true =>
      by_cases hb : i < listed.size
      · simp [hb] at h2
      · simp [hb] at h2
  · rwa [getD_set_ne true hij] at h2
/-- one order, of which two operations stand as they may, once the one of them is done -/
theorem wpI_anyT {T : List Nat} {x y : Nat} {Q : Exit → Act → World → Prop} (hl : lookT ops ks T x y = true) (hQ : ∀ a w, K a w → Q .normal a w) :
    ∀ (fuel : Nat) (listed : Array Bool) (a : Act) (w : World), (remT T listed).length ≤ fuel → listed.size = ops.size → Closed ops listed → x ∉ remT T listed →
      (S w ∨ ∀ p ∈ remT T listed, ks.getD p 0 = 0 ∨ ks.getD p 0 = 3) → wpI P ops ks S K (remT T listed) a w → wpAny P .any ops Q fuel listed a w := by
  intro fuel
  induction fuel with
  | zero =>
    intro listed a w hf hsz hc hx hS h
    have hrem : remT T listed = [] := List.eq_nil_of_length_eq_zero (by omega)
    refine ⟨?_, hQ _ _ (by rw [hrem] at h; exact h)⟩
    cases hr : Region.ready .any ops listed with
    | nil => rfl
    | cons i r =>
      have hi : i ∈ Region.ready .any ops listed := by rw [hr]; simp
      obtain ⟨hun, o, ho, _⟩ := mem_ready.1 hi
      have : i ∈ remT T listed := mem_remT.2 ⟨look_all hl (Array.getElem?_eq_some_iff.1 ho).1, hun⟩
      rw [hrem] at this
      cases this
  | succ fuel ih =>
    intro listed a w hf hsz hc hx hS h
    refine ⟨fun hr => hQ _ _ (by rw [none_leftT hl hsz hr] at h; exact h), fun i hi => ?_⟩
    obtain ⟨hun, oi, hoi, hall⟩ := mem_ready.1 hi
    have him : i ∈ remT T listed := mem_remT.2 ⟨look_all hl (Array.getElem?_eq_some_iff.1 hoi).1, hun⟩
    obtain ⟨h1, h2⟩ := stepT (P := P) (K := K) (S := S) (fun i hi => by obtain ⟨o, a1, a2, _, a3⟩ := look_one hl hi; exact ⟨o, a1, a2, a3⟩) (look_pw hl) hsz hc hi hoi him (fun _ => hx) (a := a) hS
    have hlen := remT_len hl hsz him
    obtain ⟨_, hoi', _, _, hk3⟩ := look_one hl (mem_remT.1 him).1
    refine stepD_wpOp hoi (hS.imp id fun hS => by have := hS i him; omega) (fun a' w' hw' hn => ?_) (h1 h)
    refine ih _ a' w' (by omega) (by simp [hsz]) (closed_set hc hoi hall) (fun h => hx (remT_sub h)) ?_ hn
    rcases hw' with hw' | ⟨hns, rfl⟩ | hk
    · exact .inl hw'
    · rcases hS with hS | hS
      · exact absurd hS hns
      · exact .inr fun p hp => hS p (remT_sub hp)
    · exact .inr (h2 (by omega))
theorem wpI_mono {K1 K2 : Act → World → Prop} (h : ∀ a w, K1 a w → K2 a w) : ∀ (l : List Nat) (a : Act) (w : World), wpI P ops ks S K1 l a w → wpI P ops ks S K2 l a w
  | [], a, w, h1 => h a w h1
  | i :: l, a, w, h1 => by
    unfold wpI at h1 ⊢
    cases ho : ops[i]? with
    | none => rw [ho] at h1; exact wpI_mono h l a w h1
    | some o => rw [ho] at h1; exact stepD_mono (fun a w => wpI_mono h l a w) h1
theorem wpI_app : ∀ (l r : List Nat) (a : Act) (w : World), wpI P ops ks S (wpI P ops ks S K r) l a w → wpI P ops ks S K (l ++ r) a w
  | [], r, a, w, h => h
  | i :: l, r, a, w, h => by
    show wpI P ops ks S K (i :: (l ++ r)) a w
    unfold wpI at h ⊢
    cases ho : ops[i]? with
    | none => rw [ho] at h; exact wpI_app l r a w h
    | some o => rw [ho] at h; exact stepD_mono (fun a w => wpI_app l r a w) h
theorem remT_app (A B : List Nat) (listed : Array Bool) : remT (A ++ B) listed = remT A listed ++ remT B listed := List.filter_append ..
theorem wpI_any2 {T : List Nat} {x y : Nat} {Q : Exit → Act → World → Prop} (h1l : lookT ops ks (T ++ [x, y]) x y = true) (h2l : lookT ops ks (T ++ [y, x]) y x = true) (hQ : ∀ a w, K a w → Q .normal a w) :
    ∀ (fuel : Nat) (listed : Array Bool) (a : Act) (w : World), (remT (T ++ [x, y]) listed).length ≤ fuel → listed.size = ops.size → Closed ops listed → listed.getD x true = false → listed.getD y true = false →
      (S w ∨ ∀ p ∈ remT (T ++ [x, y]) listed, ks.getD p 0 = 0 ∨ ks.getD p 0 = 3) → wpI P ops ks S (fun a w => wpI P ops ks S K [x, y] a w ∧ wpI P ops ks S K [y, x] a w) (remT T listed) a w → wpAny P .any ops Q fuel listed a w := by
  have hx1 : x ∈ T ++ [x, y] := by simp
  have hT1 : ∀ listed : Array Bool, listed.getD x true = false → listed.getD y true = false → remT (T ++ [x, y]) listed = remT T listed ++ [x, y] := fun listed h1 h2 => by
    rw [remT_app]; congr 1; show List.filter _ [x, y] = _; rw [List.filter_cons_of_pos (by rw [h1]; rfl), List.filter_cons_of_pos (by rw [h2]; rfl)]; rfl
  have hT2 : ∀ listed : Array Bool, listed.getD x true = false → listed.getD y true = false → remT (T ++ [y, x]) listed = remT T listed ++ [y, x] := fun listed h1 h2 => by
    rw [remT_app]; congr 1; show List.filter _ [y, x] = _; rw [List.filter_cons_of_pos (by rw [h2]; rfl), List.filter_cons_of_pos (by rw [h1]; rfl)]; rfl
  have hne : ¬ x = y := by
    have := (look_pw h1l)
    rw [List.pairwise_append] at this
    exact pairT_ne ((List.pairwise_cons.1 this.2.1).1 y (by simp))
  have hmem : ∀ i, i ∈ T ++ [x, y] ↔ i ∈ T ++ [y, x] := fun i => by simp [or_comm]
  intro fuel
  induction fuel with
  | zero =>
    intro listed a w hf hsz hc hx hy hS h
    rw [hT1 listed hx hy, List.length_append] at hf
    exact absurd hf (by simp)
  | succ fuel ih =>
    intro listed a w hf hsz hc hx hy hS h
    refine ⟨fun hr => ?_, fun i hi => ?_⟩
    · have := none_leftT h1l hsz hr
      rw [hT1 listed hx hy] at this
      exact absurd this (by simp)
    obtain ⟨hun, oi, hoi, hall⟩ := mem_ready.1 hi
    have him : i ∈ remT (T ++ [x, y]) listed := mem_remT.2 ⟨look_all h1l (Array.getElem?_eq_some_iff.1 hoi).1, hun⟩
    have him2 : i ∈ remT (T ++ [y, x]) listed := mem_remT.2 ⟨look_all h2l (Array.getElem?_eq_some_iff.1 hoi).1, hun⟩
    have hlen := remT_len h1l hsz him
    have hlen2 := remT_len h2l hsz him2
    have hll : (remT (T ++ [y, x]) listed).length = (remT (T ++ [x, y]) listed).length := by rw [hT1 listed hx hy, hT2 listed hx hy]; simp
    obtain ⟨_, hoi', _, _, hk3⟩ := look_one h1l (mem_remT.1 him).1
    have hS2 : S w ∨ ∀ p ∈ remT (T ++ [y, x]) listed, ks.getD p 0 = 0 ∨ ks.getD p 0 = 3 := hS.imp id fun hS p hp => hS p (mem_remT.2 ⟨(hmem p).2 (mem_remT.1 hp).1, (mem_remT.1 hp).2⟩)
    have hone1 : ∀ i ∈ T ++ [x, y], ∃ o, ops[i]? = some o ∧ noSel o = true ∧ ks.getD i 0 ≤ 3 := fun i hi => by obtain ⟨o, a1, a2, _, a3⟩ := look_one h1l hi; exact ⟨o, a1, a2, a3⟩
    have hone2 : ∀ i ∈ T ++ [y, x], ∃ o, ops[i]? = some o ∧ noSel o = true ∧ ks.getD i 0 ≤ 3 := fun i hi => hone1 i ((hmem i).2 hi)
    by_cases hix : i = x
    · subst hix
      obtain ⟨s1, s2⟩ := stepT (P := P) (K := K) (S := S) hone1 (look_pw h1l) hsz hc hi hoi him (fun e => absurd e hne) (a := a) hS
      have hh : wpI P ops ks S K (remT (T ++ [i, y]) listed) a w := by rw [hT1 listed hx hy]; exact wpI_app _ _ a w (wpI_mono (fun a w h => h.1) _ a w h)
      refine stepD_wpOp hoi (hS.imp id fun hS => by have := hS i him; omega) (fun a' w' hw' hn => ?_) (s1 hh)
      refine wpI_anyT h1l hQ fuel _ a' w' (by omega) (by simp [hsz]) (closed_set hc hoi hall) (fun h => ?_) ?_ hn
      · have := (mem_remT.1 h).2
        have hb : i < listed.size := by rw [hsz]; exact (Array.getElem?_eq_some_iff.1 hoi).1
        simp [hb] at this
      · rcases hw' with hw' | ⟨hns, rfl⟩ | hk
        · exact .inl hw'
        · rcases hS with hS | hS
          · exact absurd hS hns
          · exact .inr fun p hp => hS p (remT_sub hp)
        · exact .inr (s2 (by omega))
    · by_cases hiy : i = y
      · subst hiy
        obtain ⟨s1, s2⟩ := stepT (P := P) (K := K) (S := S) hone2 (look_pw h2l) hsz hc hi hoi him2 (fun e => absurd e.symm hne) (a := a) hS2
        have hh : wpI P ops ks S K (remT (T ++ [i, x]) listed) a w := by rw [hT2 listed hx hy]; exact wpI_app _ _ a w (wpI_mono (fun a w h => h.2) _ a w h)
        refine stepD_wpOp hoi (hS.imp id fun hS => by have := hS i him; omega) (fun a' w' hw' hn => ?_) (s1 hh)
        refine wpI_anyT h2l hQ fuel _ a' w' (by omega) (by simp [hsz]) (closed_set hc hoi hall) (fun h => ?_) ?_ hn
        · have := (mem_remT.1 h).2
          have hb : i < listed.size := by rw [hsz]; exact (Array.getElem?_eq_some_iff.1 hoi).1
          simp [hb] at this
        · rcases hw' with hw' | ⟨hns, rfl⟩ | hk
          · exact .inl hw'
          · rcases hS2 with hS | hS
            · exact absurd hS hns
            · exact .inr fun p hp => hS p (remT_sub hp)
          · exact .inr (s2 (by omega))
      · have hiT : i ∈ remT T listed := by
          have := him
          rw [hT1 listed hx hy] at this
          rcases List.mem_append.1 this with h | h
          · exact h
          · simp [hix, hiy] at h
        have hpT : T.Pairwise fun p q => pairT ops ks x y p q = true := (List.pairwise_append.1 (look_pw h1l)).1
        have hsub : ∀ p ∈ remT T listed, p ∈ remT (T ++ [x, y]) listed := fun p hp => by rw [hT1 listed hx hy]; exact List.mem_append_left _ hp
        obtain ⟨s1, _⟩ := stepT (P := P) (K := fun a w => wpI P ops ks S K [x, y] a w ∧ wpI P ops ks S K [y, x] a w) (S := S) (fun i hi => hone1 i (List.mem_append_left _ hi)) hpT hsz hc hi hoi hiT (fun e => absurd e hiy) (a := a) (hS.imp id fun hS p hp => hS p (hsub p hp))
        obtain ⟨_, s2⟩ := stepT (P := P) (K := K) (S := S) hone1 (look_pw h1l) hsz hc hi hoi him (fun e => absurd e hiy) (a := a) hS
        refine stepD_wpOp hoi (hS.imp id fun hS => by have := hS i him; omega) (fun a' w' hw' hn => ?_) (s1 h)
        refine ih _ a' w' (by omega) (by simp [hsz]) (closed_set hc hoi hall) (by rw [getD_set_ne true hix]; exact hx) (by rw [getD_set_ne true hiy]; exact hy) ?_ hn
        rcases hw' with hw' | ⟨hns, rfl⟩ | hk
        · exact .inl hw'
        · rcases hS with hS | hS
          · exact absurd hS hns
          · exact .inr fun p hp => hS p (remT_sub hp)
        · exact .inr (s2 (by omega))
/-- wpI by a list of operations, in an order that is given -/
theorem wpI_ops : ∀ (T : List Nat) (l : List Oper) (kl : List Nat), T.length = l.length → (∀ j i, T[j]? = some i → ops[i]? = l[j]? ∧ ks.getD i 0 = kl.getD j 0) → wpI P ops ks S K T = wpD P ops S K l kl
  | [], [], _, _, _ => by funext a w; rfl
  | i :: T, o :: l, kl, hlen, h => by
    have h0 := h 0 i rfl
    have ih := wpI_ops T l kl.tail (by simpa using hlen) (fun j i hj => by
      have := h (j + 1) i (by simpa using hj)
      cases kl <;> simpa using this)
    have hk0 : kl.headD 0 = ks.getD i 0 := by
      have := h0.2
      cases kl <;> simpa using this.symm
    funext a w
    have e1 : ops[i]? = some o := by simpa using h0.1
    show (match ops[i]? with | none => wpI P ops ks S K T a w | some o => stepD P ops S o (ks.getD i 0) (wpI P ops ks S K T) a w) = stepD P ops S o (kl.headD 0) (wpD P ops S K l kl.tail) a w
    rw [e1, ih, hk0]
  | [], _ :: _, _, h, _ => by simp at h
  | _ :: _, [], _, h, _ => by simp at h
def pickL (l : List Oper) : List Nat → List Oper
  | [] => []
  | i :: T => match l.drop i with
    | o :: _ => o :: pickL l T
    | [] => pickL l T
def pickK (ks : List Nat) : List Nat → List Nat
  | [] => []
  | i :: T => ks.getD i 0 :: pickK ks T
theorem pick_at {l : List Oper} {ks : List Nat} : ∀ {T : List Nat}, (∀ i ∈ T, i < l.length) → T.length = (pickL l T).length ∧ ∀ j i, T[j]? = some i → l.toArray[i]? = (pickL l T)[j]? ∧ ks.getD i 0 = (pickK ks T).getD j 0
  | [], _ => ⟨rfl, fun j i h => by simp at h⟩
  | t :: T, h => by
    obtain ⟨h1, h2⟩ := pick_at (l := l) (ks := ks) (T := T) fun i hi => h i (List.mem_cons_of_mem _ hi)
    have ht := h t (List.mem_cons_self ..)
    have e : pickL l (t :: T) = l[t] :: pickL l T := by
      show (match l.drop t with | o :: _ => o :: pickL l T | [] => pickL l T) = _
      rw [List.drop_eq_getElem_cons ht]
    rw [e]
    refine ⟨by simp [h1], fun j i hj => ?_⟩
    cases j with
    | zero =>
      obtain rfl : t = i := by simpa using hj
      exact ⟨by simp [ht], rfl⟩
    | succ j =>
      have := h2 j i (by simpa using hj)
      exact ⟨by simpa using this.1, by simpa [pickK] using this.2⟩
theorem wpI_pick {l : List Oper} {ks T : List Nat} (h : ∀ i ∈ T, i < l.length) : wpI P l.toArray ks S K T = wpD P l.toArray S K (pickL l T) (pickK ks T) :=
  wpI_ops T _ _ (pick_at (ks := ks) h).1 (pick_at h).2
/-- THE RULE: the region's text without two effects, then these two in both orders. -/
theorem wp_region_2 {id : Nat} {l : List Oper} {Q : Exit → Act → World → Prop} {a : Act} {w : World} (ks T : List Nat) (x y : Nat) (S : World → Prop) (hm : P.follows .mixedOrders = true)
    (h1l : lookT l.toArray ks (T ++ [x, y]) x y = true) (h2l : lookT l.toArray ks (T ++ [y, x]) y x = true) (hll : Nat.ble (T.length + 2) l.length = true)
    (hS : S w.drew) (h : wpD P l.toArray S (fun a w => wpD P l.toArray S (Q .normal) (pickL l [x, y]) (pickK ks [x, y]) a w ∧ wpD P l.toArray S (Q .normal) (pickL l [y, x]) (pickK ks [y, x]) a w) (pickL l T) (pickK ks T) a w.drew) : (Code.region id l.toArray true).wp P Q a w := by
  refine wp_region_any hm ?_
  have hll := Nat.le_of_ble_eq_true hll
  have e0 : ∀ T' : List Nat, (∀ i ∈ T', i < l.length) → remT T' (Array.replicate l.toArray.size false) = T' := fun T' h => by
    unfold remT
    exact List.filter_eq_self.2 fun i hi => by have := h i hi; simp [this]
  have hTl : ∀ i ∈ T ++ [x, y], i < l.length := fun i hi => by
    obtain ⟨o, ho, _⟩ := look_one h1l hi
    simpa using (Array.getElem?_eq_some_iff.1 ho).1
  have hxl := hTl x (by simp)
  have hyl := hTl y (by simp)
  refine wpI_any2 (ks := ks) (S := S) (K := Q .normal) h1l h2l (fun _ _ h => h) _ _ _ _ ?_ (by simp) ?_ (by simp [hxl]) (by simp [hyl]) (.inl hS) ?_
  · rw [e0 _ hTl]
    simp; omega
  · intro j o hj hl
    simp at hl
    have : j < l.length := by simpa using (Array.getElem?_eq_some_iff.1 hj).1
    simp [this] at hl
  · rw [e0 _ fun i hi => hTl i (List.mem_append_left _ hi), wpI_pick fun i hi => hTl i (List.mem_append_left _ hi), wpI_pick (T := [x, y]) fun i hi => hTl i (List.mem_append_right _ hi), wpI_pick (T := [y, x]) fun i hi => hTl i (List.mem_append_right _ (by simp at hi ⊢; exact hi.symm))]
    exact h
end
end Go.Proofs.Ytfkmlcgccffmnaa
namespace Go.Proofs.Ytfkmlcgccffmnaa
open Go
set_option maxRecDepth 100000
set_option linter.unusedVariables false

def lkN : List Nam → List TN → Nam → Option TN
  | m :: ns, t :: ts, n => if n = m then some t else lkN ns ts n
  | _, _, _ => none
theorem lkN_at : ∀ {ns : List Nam} {ts : List TN} {i : Nat} {n : Nam} {t : TN}, (∀ m ∈ ns.take i, ¬ m = n) → ns[i]? = some n → ts[i]? = some t → lkN ns ts n = some t
  | m :: ns, x :: ts, 0, n, t, _, h1, h2 => by
    have h1 : m = n := by simpa using h1
    have h2 : x = t := by simpa using h2
    show (if n = m then some x else lkN ns ts n) = _
    rw [if_pos h1.symm, h2]
  | m :: ns, x :: ts, i + 1, n, t, h0, h1, h2 => by
    show (if n = m then some x else lkN ns ts n) = _
    rw [if_neg fun e => h0 m (by simp) e.symm]
    exact lkN_at (i := i) (fun q hq => h0 q (by rw [List.take_succ_cons]; exact List.mem_cons_of_mem _ hq)) (by simpa using h1) (by simpa using h2)
  | [], _, _, _, _, _, h1, _ => by simp at h1
  | _ :: _, [], _, _, _, _, _, h2 => by simp at h2
theorem lkN_no : ∀ {ns : List Nam} {ts : List TN} {n : Nam}, ns.length = ts.length → (lkN ns ts n = none ↔ n ∉ ns)
  | [], [], n, _ => ⟨fun _ => by simp, fun _ => rfl⟩
  | m :: ns, x :: ts, n, h => by
    show (if n = m then some x else lkN ns ts n) = none ↔ _
    have ih := lkN_no (n := n) (Nat.succ.inj h : ns.length = ts.length)
    by_cases e : n = m
    · rw [if_pos e]; simp [e]
    · rw [if_neg e, ih]; simp [e]
  | [], _ :: _, _, h => by simp at h
  | _ :: _, [], _, h => by simp at h
theorem lkN_snoc : ∀ {ns : List Nam} {ts : List TN} {n : Nam} {t : TN}, ns.length = ts.length → n ∉ ns → lkN (ns ++ [n]) (ts ++ [t]) = fun m => if m = n then some t else lkN ns ts m
  | [], [], n, t, _, _ => rfl
  | q :: ns, x :: ts, n, t, h, hn => by
    funext m
    have ih := congrFun (lkN_snoc (n := n) (t := t) (Nat.succ.inj h : ns.length = ts.length) fun h => hn (List.mem_cons_of_mem _ h)) m
    show (if m = q then some x else lkN (ns ++ [n]) (ts ++ [t]) m) = if m = n then some t else if m = q then some x else lkN ns ts m
    rw [ih]
    by_cases e : m = q
    · rw [if_pos e, if_pos e, if_neg]
      intro e2; exact hn (by rw [← e2, e]; simp)
    · rw [if_neg e, if_neg e]
  | [], _ :: _, _, _, h, _ => by simp at h
  | _ :: _, [], _, _, h, _ => by simp at h
theorem lkN_mem : ∀ {ns : List Nam} {ts : List TN} {n : Nam} {t : TN}, lkN ns ts n = some t → t ∈ ts
  | m :: ns, x :: ts, n, t, h => by
    have h : (if n = m then some x else lkN ns ts n) = some t := h
    by_cases e : n = m
    · rw [if_pos e] at h; cases h; exact List.mem_cons_self ..
    · rw [if_neg e] at h; exact List.mem_cons_of_mem _ (lkN_mem h)
  | [], _, _, _, h => by cases h
  | _ :: _, [], _, _, h => by cases h
theorem set_last {α : Type} (l : List α) (x y : α) : (l ++ [x]).set l.length y = l ++ [y] := by simp
set_option maxHeartbeats 8000000 in
theorem matchR_i (nb yb : Nat) (r s : RT) (ih : ∀ r' : RT, r'.nodes < r.nodes → ∀ (s : RT) (t u : TN), ∀ (w0 : World) (vn vt : Value) (ns : List Nam) (ts : List TN), ns.length = ts.length → ns.length + r'.nodes ≤ 1000000000000 → ns.Nodup → Owns w0 [.ob nb 56 [vn], .ob yb 31 [vt], slT vn 9 strE ns, slT vt 33 tnE ts] → (∀ z ∈ ts, RdN w0 (blks [.ob nb 56 [vn], .ob yb 31 [vt], slT vn 9 strE ns, slT vt 33 tnE ts]) z) → RdN w0 (blks [.ob nb 56 [vn], .ob yb 31 [vt], slT vn 9 strE ns, slT vt 33 tnE ts]) t → RdN w0 (blks [.ob nb 56 [vn], .ob yb 31 [vt], slT vn 9 strE ns, slT vt 33 tnE ts]) u → t.er = r'.ty → u.er = s.ty → Ret Try.prog 55 #[.agg (tnE.cells t).toArray, .agg (tnE.cells u).toArray, ptr (adr nb), ptr (adr yb)] w0 (fun v w' => ∃ (vn' vt' : Value) (ns' : List Nam) (ts' : List TN) (ok : Bool), v = .bool ok ∧ ns'.length = ts'.length ∧ ns'.length ≤ ns.length + r'.nodes ∧ ns'.Nodup ∧ (∀ z ∈ ts', z ∈ ts ∨ Sbt u z) ∧ (∀ g, RelG (lkN ns ts) g → (ok = true → ∃ g', matchF r' s g = some g' ∧ RelG (lkN ns' ts') g') ∧ (ok = false → matchF r' s g = none)) ∧ St w0 (blks [.ob nb 56 [vn], .ob yb 31 [vt], slT vn 9 strE ns, slT vt 33 tnE ts]) w' [.ob nb 56 [vn'], .ob yb 31 [vt'], slT vn' 9 strE ns', slT vt' 33 tnE ts'])) (k k' : Int) (n n' : List UInt8) (hd hd' : Hdr) (l l' : List TN) (w0 : World) (vn vt : Value) (ns : List Nam) (ts : List TN) (hln : ns.length = ts.length) (hbd : ns.length + r.nodes ≤ 1000000000000) (hnd : ns.Nodup) (hA : Owns w0 [.ob nb 56 [vn], .ob yb 31 [vt], slT vn 9 strE ns, slT vt 33 tnE ts]) (hts : ∀ z ∈ ts, RdN w0 (blks [.ob nb 56 [vn], .ob yb 31 [vt], slT vn 9 strE ns, slT vt 33 tnE ts]) z) (hR : RdN w0 (blks [.ob nb 56 [vn], .ob yb 31 [vt], slT vn 9 strE ns, slT vt 33 tnE ts]) (TN.mk k n hd l)) (hR2 : RdN w0 (blks [.ob nb 56 [vn], .ob yb 31 [vt], slT vn 9 strE ns, slT vt 33 tnE ts]) (TN.mk k' n' hd' l')) (her : (TN.mk k n hd l).er = r.ty) (her2 : (TN.mk k' n' hd' l').er = s.ty) : Ret Try.prog 55 #[.agg (tnE.cells (TN.mk k n hd l)).toArray, .agg (tnE.cells (TN.mk k' n' hd' l')).toArray, ptr (adr nb), ptr (adr yb)] w0 (fun v w' => ∃ (vn' vt' : Value) (ns' : List Nam) (ts' : List TN) (ok : Bool), v = .bool ok ∧ ns'.length = ts'.length ∧ ns'.length ≤ ns.length + r.nodes ∧ ns'.Nodup ∧ (∀ z ∈ ts', z ∈ ts ∨ Sbt (TN.mk k' n' hd' l') z) ∧ (∀ g, RelG (lkN ns ts) g → (ok = true → ∃ g', matchF r s g = some g' ∧ RelG (lkN ns' ts') g') ∧ (ok = false → matchF r s g = none)) ∧ St w0 (blks [.ob nb 56 [vn], .ob yb 31 [vt], slT vn 9 strE ns, slT vt 33 tnE ts]) w' [.ob nb 56 [vn'], .ob yb 31 [vt'], slT vn' 9 strE ns', slT vt' 33 tnE ts']) := by
  have hO := St.init hA
  have hpr := r.pos
  refine ret_of (m := 97) Try.func55 rfl Try.ntmps55 [(0, .agg (tnE.cells (TN.mk k n hd l)).toArray), (1, .agg (tnE.cells (TN.mk k' n' hd' l')).toArray), (2, ptr (adr nb)), (3, ptr (adr yb))] rfl ⟨rfl, rfl, rfl, rfl, trivial⟩ fun a hF => ?_
  refine wp_seq ?_
  refine wp_region_lit ?_
  refine wl_e hF rfl rfl rfl (e_box hO rfl (hF.eval rfl) rfl) ?_
  rintro a _ w ⟨tk, rfl, hO⟩ hF
  refine wl_e hF rfl rfl rfl (e_box hO rfl (hF.eval rfl) rfl) ?_
  rintro a _ w ⟨tu, rfl, hO⟩ hF
  refine wl_v hF rfl rfl rfl (q_assign rfl (hF.eval rfl)) fun a hF => ?_
  refine wl_nil ?_
  refine k_n ?_
  refine wp_seq ?_
  refine wp_seq ?_
  refine wp_region_lit ?_
  refine wl_v hF rfl rfl rfl (q_fieldAddr0 (d := 0) Try.underlying33 rfl (hF.eval rfl) rfl Try.sizeOf3 (by decide) rfl) fun a hF => ?_
  refine wl_v hF rfl rfl rfl (q_load Try.isAgg3 rfl (hF.eval rfl) (hO.cell 1 rfl rfl)) fun a hF => ?_
  refine wl_v hF rfl rfl rfl (q_eq rfl (hF.eval rfl) (hF.eval rfl)) fun a hF => ?_
  refine wl_nil ?_
  refine k_n ?_
  refine wp_ifD hF rfl rfl (fun hc1 => ?_) (fun hc1 => ?_)
  · skip
    obtain ⟨rfl, rfl⟩ := er_var her hc1
    obtain rfl : k = 52 := hc1
    refine wp_seq ?_
    refine wp_seq ?_
    refine wp_region_lit ?_
    refine wl_v hF rfl rfl rfl (q_assign rfl (hF.eval rfl)) fun a hF => ?_
    refine wl_nil ?_
    refine k_n ?_
    refine wp_block ?_
    have hO := hO.pull 5 rfl
    have hO := hO.pull 5 rfl
    have hO := hO.pull 5 rfl
    have hO := hO.pull 5 rfl
    have hO := hO.pull 4 rfl
    have hO := hO.pull 5 rfl
    have hO : St _ _ _ [_, _, _, _, _, _] := hO
    refine wp_loopS (fun (i : Nat) a w' => (i ≤ ns.length ∧ ∀ m ∈ ns.take i, ¬ m = n) ∧ St w0 (blks [.ob nb 56 [vn], .ob yb 31 [vt], slT vn 9 strE ns, slT vt 33 tnE ts]) w' [.ob tk 33 (tnE.cells (TN.mk 52 n hd [])), .ob tu 33 (tnE.cells (TN.mk k' n' hd' l')), .ob nb 56 [vn], .ob yb 31 [vt], slT vn 9 strE ns, slT vt 33 tnE ts] ∧ Fr a 97 [(2, ptr (adr nb)), (3, ptr (adr yb)), (4, ptr (adr tk)), (5, ptr (adr tu)), (9, i64 i)]) (fun (i : Nat) => ns.length - i) 0 ⟨⟨by omega, fun m hm => by simp at hm⟩, hO, hF.sub ⟨rfl, rfl, rfl, rfl, rfl, trivial⟩⟩ ?_
    rintro i a w ⟨⟨hi, hni⟩, hO, hF⟩
    refine wp_seq ?_
    refine wp_seq ?_
    refine wp_region_lit ?_
    refine wl_v hF rfl rfl rfl (q_move rfl (hF.eval rfl)) fun a hF => ?_
    refine wl_v hF rfl rfl rfl (q_move rfl (hF.eval rfl)) fun a hF => ?_
    refine wl_v hF rfl rfl rfl (q_nilCheck rfl (hF.eval rfl)) fun a hF => ?_
    refine wl_v hF rfl rfl rfl (q_load Try.isAgg56 rfl (hF.eval rfl) (hO.cell0 2 rfl rfl)) fun a hF => ?_
    refine wl_v hF rfl rfl rfl (q_lenRd (hO.rd 4 rfl) Try.underlying56 rfl (hF.eval rfl)) fun a hF => ?_
    refine wl_v hF rfl rfl rfl (q_lt rfl (hF.eval rfl) (hF.eval rfl)) fun a hF => ?_
    refine wl_nil ?_
    refine k_n ?_
    refine wp_ifD hF rfl rfl (fun hc2 => ?_) (fun hc2 => ?_)
    · skip
      refine wp_skip ?_
      refine k_n ?_
      refine wp_seq ?_
      refine wp_block ?_
      refine wp_seq ?_
      have hO := hO.drew
      refine wp_region_D [0, 0, 1, 0, 0, 1, 0, 1, 0] (fun w => St _ _ w _) Try_mixed (by kernel_rfl) hO ?_
      refine wd_p hF rfl rfl rfl (fun w => q_move rfl (hF.eval rfl)) fun a hF => ?_
      refine wd_p hF rfl rfl rfl (fun w => q_nilCheck rfl (hF.eval rfl)) fun a hF => ?_
      refine wd_r hF rfl rfl rfl (fun w hO => q_load Try.isAgg56 rfl (hF.eval rfl) (hO.cell0 2 rfl rfl)) fun a hF => ?_
      refine wd_p hF rfl rfl rfl (fun w => q_move rfl (hF.eval rfl)) fun a hF => ?_
      obtain ⟨m, hm⟩ := get_ex (l := ns) (i := i) (by omega)
      refine wd_p hF rfl rfl rfl (fun w => q_at (i := i) (hO.rd 4 rfl) Try.underlying56 Try.sizeOf9 rfl (hF.eval rfl) (hF.eval rfl) (by omega)) fun a hF => ?_
      refine wd_r hF rfl rfl rfl (fun w hO => q_load Try.isAgg9 rfl (hF.eval rfl) (RdT.cell0 (hO.rdT 4 rfl) hm rfl)) fun a hF => ?_
      refine wd_p hF rfl rfl rfl (fun w => q_fieldAddr0 (d := 1) Try.underlying33 rfl (hF.eval rfl) rfl Try.sizeOf9 (by decide) rfl) fun a hF => ?_
      refine wd_r hF rfl rfl rfl (fun w hO => q_load Try.isAgg9 rfl (hF.eval rfl) (hO.cell 0 rfl rfl)) fun a hF => ?_
      refine wd_p hF rfl rfl rfl (fun w => q_seq rfl (hF.eval rfl) (hF.eval rfl)) fun a hF => ?_
      refine wd_nil ?_
      refine k_n ?_
      refine wp_ifD hF rfl rfl (fun hc3 => ?_) (fun hc3 => ?_)
      · skip
        obtain rfl : m = n := hc3
        refine wp_seq ?_
        have hO := hO.drew
        refine wp_region_D [0, 0, 1, 0, 0, 1, 1, 3, 0] (fun w => St _ _ w _) Try_mixed (by kernel_rfl) hO ?_
        refine wd_p hF rfl rfl rfl (fun w => q_move rfl (hF.eval rfl)) fun a hF => ?_
        refine wd_p hF rfl rfl rfl (fun w => q_nilCheck rfl (hF.eval rfl)) fun a hF => ?_
        refine wd_r hF rfl rfl rfl (fun w hO => q_load Try.isAgg31 rfl (hF.eval rfl) (hO.cell0 3 rfl rfl)) fun a hF => ?_
        refine wd_p hF rfl rfl rfl (fun w => q_move rfl (hF.eval rfl)) fun a hF => ?_
        obtain ⟨z, hz⟩ := get_ex (l := ts) (i := i) (by omega)
        refine wd_p hF rfl rfl rfl (fun w => q_at (i := i) (hO.rd 5 rfl) Try.underlying31 Try.sizeOf33 rfl (hF.eval rfl) (hF.eval rfl) (by omega)) fun a hF => ?_
        refine wd_r hF rfl rfl rfl (fun w hO => q_loadAgg Try.isAgg33 Try.sizeOf33 rfl (hF.eval rfl) (RdT.cells (hO.rdT 5 rfl) hz) rfl) fun a hF => ?_
        refine wd_r hF rfl rfl rfl (fun w hO => q_loadAgg Try.isAgg33 Try.sizeOf33 rfl (hF.eval rfl) (hO.cells 1 rfl) rfl) fun a hF => ?_
        refine wd_f hF rfl rfl rfl (c_call hF rfl rfl Try.call19 (same_r z (TN.mk k' n' hd' l') _ ((hts z (List.mem_of_getElem? hz)).at0 hO) (hR2.at0 hO))) ?_
        rintro a _ w ⟨rfl, hS⟩ hF
        have hO := hO.call0 hS
        have hO : St _ _ _ [_, _, _, _, _, _] := hO
        refine wd_p hF rfl rfl rfl (fun w => q_assign rfl (hF.eval rfl)) fun a hF => ?_
        refine wd_nil ?_
        refine k_n ?_
        refine wp_ret ?_
        refine b_r ?_
        refine k_r ?_
        refine k_r ?_
        refine b_r ?_
        refine k_r ?_
        refine k_r ?_
        refine r_1 hF rfl rfl ?_
        have hO := hO.drop1 0
        have hO := hO.drop1 0
        have hO : St _ _ _ [_, _, _, _] := hO
        have hgz := lkN_at hni hm hz
        refine ⟨vn, vt, ns, ts, _, rfl, hln, by omega, hnd, fun z hz => .inl hz, fun g hg => ?_, hO⟩
        obtain ⟨w, hw, hwe⟩ := hg.some_ hgz
        have hx : matchF (.var m) s g = if sameF w.ty s.ty = true then some g else none := by
          show (match g m with | none => some (putG g m s) | some w => if sameF w.ty s.ty = true then some g else none) = _
          rw [hw]
        rw [hwe, her2, hx]
        exact ⟨fun h => ⟨g, if_pos h, hg⟩, fun h => if_neg (by rw [h]; decide)⟩
      · skip
        refine wp_skip ?_
        refine b_n ?_
        refine k_n ?_
        refine wp_region_lit ?_
        refine wl_v hF rfl rfl rfl (q_move rfl (hF.eval rfl)) fun a hF => ?_
        refine wl_v hF rfl rfl rfl (q_add rfl (hF.eval rfl) (hF.eval rfl) (by omega)) fun a hF => ?_
        refine wl_v hF rfl rfl rfl (q_assign rfl (hF.eval rfl)) fun a hF => ?_
        refine wl_nil ?_
        refine k_n ?_
        have hO : St _ _ _ [_, _, _, _, _, _] := hO
        exact ⟨i + 1, ⟨⟨by omega, fun q hq => by rw [takeAt hm] at hq; rcases List.mem_append.1 hq with hq | hq; exact hni q hq; rw [List.mem_singleton.1 hq]; exact hc3⟩, hO, hF.sub ⟨rfl, rfl, rfl, rfl, rfl, trivial⟩⟩, by omega⟩
    · skip
      have hti : ns.take i = ns := List.take_of_length_le (by omega)
      rw [hti] at hni
      have hnn : n ∉ ns := fun h => hni n h rfl
      refine wp_exit ?_
      refine k_x ?_
      refine k_x ?_
      refine b_x ?_
      refine k_n ?_
      refine wp_seq ?_
      have hO := hO.drew
      refine wp_region_D [0, 0, 0, 1, 0, 1, 2, 3, 0, 3] (fun w => St _ _ w _) Try_mixed (by kernel_rfl) hO ?_
      refine wd_p hF rfl rfl rfl (fun w => q_move rfl (hF.eval rfl)) fun a hF => ?_
      refine wd_p hF rfl rfl rfl (fun w => q_move rfl (hF.eval rfl)) fun a hF => ?_
      refine wd_p hF rfl rfl rfl (fun w => q_nilCheck rfl (hF.eval rfl)) fun a hF => ?_
      refine wd_r hF rfl rfl rfl (fun w hO => q_load Try.isAgg56 rfl (hF.eval rfl) (hO.cell0 2 rfl rfl)) fun a hF => ?_
      refine wd_p hF rfl rfl rfl (fun w => q_fieldAddr0 (d := 1) Try.underlying33 rfl (hF.eval rfl) rfl Try.sizeOf9 (by decide) rfl) fun a hF => ?_
      refine wd_r hF rfl rfl rfl (fun w hO => q_load Try.isAgg9 rfl (hF.eval rfl) (hO.cell 0 rfl rfl)) fun a hF => ?_
      refine wd_e hF rfl rfl rfl (c_buildSlice hF hO Try.underlying56 Try.sizeOf9 Try.zeroValue9 rfl rfl rfl rfl rfl rfl rfl) (fun _ _ ⟨_, _, hO⟩ => hO.tail) ?_
      rintro a _ w ⟨b7, rfl, hO⟩ hF
      refine wd_f hF rfl rfl rfl (e_appendT (bytes := 16) (r := [n]) hO (i := 5) rfl (hO.rd 0 rfl) Try.underlying56 Try_info9 rfl rfl rfl rfl rfl rfl (hF.eval rfl) (hF.eval rfl) (by show (List.length _ + 1) * 16 ≤ _; omega) (by show List.length _ + 1 ≤ _; omega)) ?_
      rintro a v45 w hO hF
      have hO : St _ _ _ [_, _, _, _, _, _, _] := hO
      refine wd_p hF rfl rfl rfl (fun w => q_nilCheck rfl (hF.eval rfl)) fun a hF => ?_
      refine wd_s hF rfl rfl (e_store0 hO (i := 3) rfl Try.sizeOf56 rfl (hF.eval rfl) (hF.eval rfl) (cells_one (hO.slOne 5 rfl)) rfl (hO.slOne 5 rfl)) ?_
      rintro a _ w ⟨-, hO⟩ hF
      have hO : St _ _ _ [_, _, _, _, _, _, _] := hO
      refine wd_nil ?_
      refine k_n ?_
      refine wp_seq ?_
      have hO := hO.drew
      refine wp_region_2 [0, 0, 1, 1, 0, 2, 3, 0, 3, 0, 3] [0, 1, 2, 3, 4, 5, 6, 7, 9] 8 10 (fun w => St _ _ w _) Try_mixed (by kernel_rfl) (by kernel_rfl) (by kernel_rfl) hO ?_
      refine wd_p hF rfl rfl rfl (fun w => q_move rfl (hF.eval rfl)) fun a hF => ?_
      refine wd_p hF rfl rfl rfl (fun w => q_nilCheck rfl (hF.eval rfl)) fun a hF => ?_
      refine wd_r hF rfl rfl rfl (fun w hO => q_load Try.isAgg31 rfl (hF.eval rfl) (hO.cell0 4 rfl rfl)) fun a hF => ?_
      refine wd_r hF rfl rfl rfl (fun w hO => q_loadAgg Try.isAgg33 Try.sizeOf33 rfl (hF.eval rfl) (hO.cells 2 rfl) rfl) fun a hF => ?_
      refine wd_p hF rfl rfl rfl (fun w => q_lenRd (hO.rd 6 rfl) Try.underlying31 rfl (hF.eval rfl)) fun a hF => ?_
      refine wd_e hF rfl rfl rfl (c_buildSlice hF hO Try.underlying31 Try.sizeOf33 Try.zeroValue33 rfl rfl rfl rfl rfl rfl rfl) (fun _ _ ⟨_, _, hO⟩ => hO.tail) ?_
      rintro a _ w ⟨b8, rfl, hO⟩ hF
      refine wd_f hF rfl rfl rfl (e_appendT (bytes := 48) (r := [tn0]) hO (i := 7) rfl (hO.rd 0 rfl) Try.underlying31 Try_info33 rfl rfl rfl rfl rfl rfl (hF.eval rfl) (hF.eval rfl) (by show (List.length _ + 1) * 48 ≤ _; omega) (by show List.length _ + 1 ≤ _; omega)) ?_
      rintro a v53 w hO hF
      have hO : St _ _ _ [_, _, _, _, _, _, _, _] := hO
      refine wd_p hF rfl rfl rfl (fun w => q_at (i := ts.length) (hO.rd 7 rfl) Try.underlying31 Try.sizeOf33 rfl (hF.eval rfl) (hF.eval rfl) (by rw [List.length_append]; exact Nat.lt_succ_self _)) fun a hF => ?_
      refine wd_p hF rfl rfl rfl (fun w => q_nilCheck rfl (hF.eval rfl)) fun a hF => ?_
      refine wd_nil ?_
      refine ⟨?_, ?_⟩
      · skip
        refine wd_s hF rfl rfl (e_storeElT (m := ts.length) (off := 0) (q := (TN.mk k' n' hd' l')) hO (i := 7) rfl Try.sizeOf33 rfl (hF.eval rfl) rfl (hF.eval rfl) rfl (List.getElem?_concat_length) rfl (Nat.le_of_ble_eq_true rfl) rfl (all1 rfl)) ?_
        rintro a _ w ⟨-, hO⟩ hF
        have hO : St _ _ _ [_, _, _, _, _, _, _, _] := hO
        refine wd_s hF rfl rfl (e_store0 hO (i := 5) rfl Try.sizeOf31 rfl (hF.eval rfl) (hF.eval rfl) (cells_one (hO.slOne 7 rfl)) rfl (hO.slOne 7 rfl)) ?_
        rintro a _ w ⟨-, hO⟩ hF
        have hO : St _ _ _ [_, _, _, _, _, _, _, _] := hO
        refine wd_nil ?_
        refine k_n ?_
        refine wp_seq ?_
        refine wp_region_lit ?_
        refine wl_v hF rfl rfl rfl (q_assign rfl (hF.eval rfl)) fun a hF => ?_
        refine wl_nil ?_
        refine k_n ?_
        refine wp_ret ?_
        refine k_r ?_
        refine r_1 hF rfl rfl ?_
        have hO := hO.drop1 0
        have hO := hO.drop1 0
        have hO := hO.drop1 0
        have hO := hO.drop1 0
        have hO : St _ _ _ [_, _, _, _] := hO
        rw [set_last] at hO
        refine ⟨_, _, ns ++ [n], ts ++ [(TN.mk k' n' hd' l')], true, rfl, by simp [hln], by rw [List.length_append]; show _ + 1 ≤ _; omega, by rw [List.nodup_append]; exact ⟨hnd, by simp, fun p hp q hq => by rw [List.mem_singleton.1 hq]; exact fun e => hnn (e ▸ hp)⟩, fun z hz => (List.mem_append.1 hz).imp id fun h => by rw [List.mem_singleton.1 h]; exact .refl _, fun g hg => ⟨fun _ => ?_, fun h => (by cases h)⟩, hO⟩
        refine ⟨putG g n s, ?_, by rw [lkN_snoc hln hnn]; exact hg.put n her2⟩
        show (match g n with | none => some (putG g n s) | some w => if sameF w.ty s.ty = true then some g else none) = _
        rw [hg.none_ ((lkN_no hln).2 hnn)]
      · skip
        refine wd_s hF rfl rfl (e_store0 hO (i := 5) rfl Try.sizeOf31 rfl (hF.eval rfl) (hF.eval rfl) (cells_one (hO.slOne 7 rfl)) rfl (hO.slOne 7 rfl)) ?_
        rintro a _ w ⟨-, hO⟩ hF
        have hO : St _ _ _ [_, _, _, _, _, _, _, _] := hO
        refine wd_s hF rfl rfl (e_storeElT (m := ts.length) (off := 0) (q := (TN.mk k' n' hd' l')) hO (i := 7) rfl Try.sizeOf33 rfl (hF.eval rfl) rfl (hF.eval rfl) rfl (List.getElem?_concat_length) rfl (Nat.le_of_ble_eq_true rfl) rfl (all1 rfl)) ?_
        rintro a _ w ⟨-, hO⟩ hF
        have hO : St _ _ _ [_, _, _, _, _, _, _, _] := hO
        refine wd_nil ?_
        refine k_n ?_
        refine wp_seq ?_
        refine wp_region_lit ?_
        refine wl_v hF rfl rfl rfl (q_assign rfl (hF.eval rfl)) fun a hF => ?_
        refine wl_nil ?_
        refine k_n ?_
        refine wp_ret ?_
        refine k_r ?_
        refine r_1 hF rfl rfl ?_
        have hO := hO.drop1 0
        have hO := hO.drop1 0
        have hO := hO.drop1 0
        have hO := hO.drop1 0
        have hO : St _ _ _ [_, _, _, _] := hO
        rw [set_last] at hO
        refine ⟨_, _, ns ++ [n], ts ++ [(TN.mk k' n' hd' l')], true, rfl, by simp [hln], by rw [List.length_append]; show _ + 1 ≤ _; omega, by rw [List.nodup_append]; exact ⟨hnd, by simp, fun p hp q hq => by rw [List.mem_singleton.1 hq]; exact fun e => hnn (e ▸ hp)⟩, fun z hz => (List.mem_append.1 hz).imp id fun h => by rw [List.mem_singleton.1 h]; exact .refl _, fun g hg => ⟨fun _ => ?_, fun h => (by cases h)⟩, hO⟩
        refine ⟨putG g n s, ?_, by rw [lkN_snoc hln hnn]; exact hg.put n her2⟩
        show (match g n with | none => some (putG g n s) | some w => if sameF w.ty s.ty = true then some g else none) = _
        rw [hg.none_ ((lkN_no hln).2 hnn)]
  · skip
    refine wp_skip ?_
    refine k_n ?_
    refine wp_seq ?_
    refine wp_seq ?_
    refine wp_region_lit ?_
    refine wl_v hF rfl rfl rfl (q_fieldAddr0 (d := 0) Try.underlying33 rfl (hF.eval rfl) rfl Try.sizeOf3 (by decide) rfl) fun a hF => ?_
    refine wl_v hF rfl rfl rfl (q_load Try.isAgg3 rfl (hF.eval rfl) (hO.cell 1 rfl rfl)) fun a hF => ?_
    refine wl_v hF rfl rfl rfl (q_fieldAddr0 (d := 0) Try.underlying33 rfl (hF.eval rfl) rfl Try.sizeOf3 (by decide) rfl) fun a hF => ?_
    refine wl_v hF rfl rfl rfl (q_load Try.isAgg3 rfl (hF.eval rfl) (hO.cell 0 rfl rfl)) fun a hF => ?_
    refine wl_v hF rfl rfl rfl (q_ne rfl (hF.eval rfl) (hF.eval rfl)) fun a hF => ?_
    refine wl_v hF rfl rfl rfl (q_move rfl (hF.eval rfl)) fun a hF => ?_
    refine wl_g hF rfl rfl rfl rfl rfl rfl (fun hg => q_fieldAddr0 (d := 1) Try.underlying33 rfl (hF.eval rfl) rfl Try.sizeOf9 (by decide) rfl) fun a hF => ?_
    refine wl_g hF rfl rfl rfl rfl rfl rfl (fun hg => q_load Try.isAgg9 rfl ((hF.eval rfl).trans (gv_of hg)) (hO.cell 1 rfl rfl)) fun a hF => ?_
    refine wl_g hF rfl rfl rfl rfl rfl rfl (fun hg => q_fieldAddr0 (d := 1) Try.underlying33 rfl (hF.eval rfl) rfl Try.sizeOf9 (by decide) rfl) fun a hF => ?_
    refine wl_g hF rfl rfl rfl rfl rfl rfl (fun hg => q_load Try.isAgg9 rfl ((hF.eval rfl).trans (gv_of hg)) (hO.cell 0 rfl rfl)) fun a hF => ?_
    refine wl_g hF rfl rfl rfl rfl rfl rfl (fun hg => q_sne rfl ((hF.eval rfl).trans (gv_of hg)) ((hF.eval rfl).trans (gv_of hg))) fun a hF => ?_
    refine wl_v hF rfl rfl rfl (q_or rfl (hF.eval rfl) rfl (fun hg2 => ((hF.eval rfl).trans (gv_of hg2))) rfl) fun a hF => ?_
    refine wl_nil ?_
    refine k_n ?_
    refine wp_ifD hF rfl rfl (fun hc4 => ?_) (fun hc4 => ?_)
    · skip
      refine wp_seq ?_
      refine wp_region_lit ?_
      refine wl_v hF rfl rfl rfl (q_assign rfl (hF.eval rfl)) fun a hF => ?_
      refine wl_nil ?_
      refine k_n ?_
      refine wp_ret ?_
      refine k_r ?_
      refine r_1 hF rfl rfl ?_
      have hO := hO.drop1 0
      have hO := hO.drop1 0
      have hO : St _ _ _ [_, _, _, _] := hO
      exact ⟨vn, vt, ns, ts, false, rfl, hln, by omega, hnd, fun z hz => .inl hz, fun g hg => ⟨fun h => (by cases h), fun _ => by rw [matchF_case her her2 hc1, if_neg fun h => hc4.elim (fun q => q h.1) fun q => q h.2]⟩, hO⟩
    · skip
      have hkk : k = k' ∧ n = n' := ⟨Classical.not_not.1 (not_or.1 hc4).1, Classical.not_not.1 (not_or.1 hc4).2⟩
      obtain ⟨rfl, rfl⟩ := hkk
      refine wp_skip ?_
      refine k_n ?_
      refine wp_seq ?_
      have hO := hO.pull 1 rfl
      have hO := hO.drew
      refine wp_region_D [0, 1, 0, 0, 0, 1, 0, 1, 0, 1, 0, 1, 0, 0, 2, 0, 0, 1, 0, 1, 0, 1, 0, 1, 0, 0, 3, 0, 0, 0] (fun w => ∃ L', St w0 (blks [.ob nb 56 [vn], .ob yb 31 [vt], slT vn 9 strE ns, slT vt 33 tnE ts]) w (.ob tk 33 (tnE.cells (TN.mk k n hd l)) :: .ob tu 33 (tnE.cells (TN.mk k n hd' l')) :: L')) Try_mixed (by kernel_rfl) ⟨_, hO⟩ ?_
      refine wd_p hF rfl rfl rfl (fun w => q_fieldAddr0 (d := 0) Try.underlying33 rfl (hF.eval rfl) rfl Try.sizeOf3 (by decide) rfl) fun a hF => ?_
      refine wd_r hF rfl rfl rfl (fun w ⟨_, hO⟩ => q_load Try.isAgg3 rfl (hF.eval rfl) (hO.cell 0 rfl rfl)) fun a hF => ?_
      refine wd_p hF rfl rfl rfl (fun w => q_eq rfl (hF.eval rfl) (hF.eval rfl)) fun a hF => ?_
      by_cases hk : k = 53
      · skip
        obtain ⟨rfl, rfl⟩ := er_con her hk
        obtain ⟨rfl, rfl⟩ := er_con her2 hk
        refine wd_p hF rfl rfl rfl (fun w => q_move rfl (hF.eval rfl)) fun a hF => ?_
        refine wd_sk hF rfl rfl rfl rfl (isN_T hk) rfl rfl fun a hF => ?_
        refine wd_sk hF rfl rfl rfl rfl (isN_T hk) rfl rfl fun a hF => ?_
        refine wd_sk hF rfl rfl rfl rfl (isN_T hk) rfl rfl fun a hF => ?_
        refine wd_sk hF rfl rfl rfl rfl (isN_T hk) rfl rfl fun a hF => ?_
        refine wd_sk hF rfl rfl rfl rfl (isN_T hk) rfl rfl fun a hF => ?_
        refine wd_sk hF rfl rfl rfl rfl (isN_T hk) rfl rfl fun a hF => ?_
        refine wd_sk hF rfl rfl rfl rfl (isN_T hk) rfl rfl fun a hF => ?_
        refine wd_sk hF rfl rfl rfl rfl (isN_T hk) rfl rfl fun a hF => ?_
        refine wd_sk hF rfl rfl rfl rfl (isN_T hk) rfl rfl fun a hF => ?_
        refine wd_sk hF rfl rfl rfl rfl (isN_T hk) rfl rfl fun a hF => ?_
        refine wd_sk hF rfl rfl rfl rfl (isN_T hk) rfl rfl fun a hF => ?_
        refine wd_sk hF rfl rfl rfl rfl (isN_T hk) rfl rfl fun a hF => ?_
        refine wd_sk hF rfl rfl rfl rfl (rfl) rfl rfl fun a hF => ?_
        refine wd_sk hF rfl rfl rfl rfl (rfl) rfl rfl fun a hF => ?_
        refine wd_sk hF rfl rfl rfl rfl (rfl) rfl rfl fun a hF => ?_
        refine wd_sk hF rfl rfl rfl rfl (rfl) rfl rfl fun a hF => ?_
        refine wd_sk hF rfl rfl rfl rfl (rfl) rfl rfl fun a hF => ?_
        refine wd_sk hF rfl rfl rfl rfl (rfl) rfl rfl fun a hF => ?_
        refine wd_sk hF rfl rfl rfl rfl (rfl) rfl rfl fun a hF => ?_
        refine wd_sk hF rfl rfl rfl rfl (rfl) rfl rfl fun a hF => ?_
        refine wd_sk hF rfl rfl rfl rfl (rfl) rfl rfl fun a hF => ?_
        refine wd_sk hF rfl rfl rfl rfl (rfl) rfl rfl fun a hF => ?_
        refine wd_sk hF rfl rfl rfl rfl (rfl) rfl rfl fun a hF => ?_
        refine wd_sk hF rfl rfl rfl rfl (isN_T hk) rfl rfl fun a hF => ?_
        refine wd_p hF rfl rfl rfl (fun w => q_pickT rfl ((hF.eval rfl).trans (congrArg Value.bool (decide_eq_true hk))) rfl) fun a hF => ?_
        refine wd_p hF rfl rfl rfl (fun w => q_assign rfl (hF.eval rfl)) fun a hF => ?_
        refine wd_nil ?_
        refine k_n ?_
        refine wp_ret ?_
        refine r_1 hF rfl rfl ?_
        have hO := hO.drop1 0
        have hO := hO.drop1 0
        have hO : St _ _ _ [_, _, _, _] := hO
        exact ⟨vn, vt, ns, ts, true, rfl, hln, by omega, hnd, fun z hz => .inl hz, fun g hg => ⟨fun _ => ⟨g, if_pos rfl, hg⟩, fun h => (by cases h)⟩, hO⟩
      · skip
        obtain ⟨ra, rb, ta, tb, rfl, hk4, rfl, rfl, hea, heb⟩ := er_app her hc1 hk
        obtain ⟨sa, sb, ua, ub, rfl, -, -, rfl, hfa, hfb⟩ := er_app her2 hc1 hk
        have hpa := ra.pos
        have hpb := rb.pos
        have hnn : (RT.app ra rb).nodes = 1 + ra.nodes + rb.nodes := rfl
        refine wd_p hF rfl rfl rfl (fun w => q_move rfl (hF.eval rfl)) fun a hF => ?_
        refine wd_un hF rfl rfl rfl rfl (isB_F hk) ?_
        refine wd_p hF rfl rfl rfl (fun w => q_fieldAddr0 (d := 2) Try.underlying33 rfl (hF.eval rfl) rfl Try.sizeOf31 (by decide) rfl) fun a hF => ?_
        refine wd_un hF rfl rfl rfl rfl (isB_F hk) ?_
        refine wd_r hF rfl rfl rfl (fun w ⟨_, hO⟩ => q_load Try.isAgg31 rfl (hF.eval rfl) (hO.cell 0 rfl rfl)) fun a hF => ?_
        refine wd_un hF rfl rfl rfl rfl (isB_F hk) ?_
        refine wd_p hF rfl rfl rfl (fun w => q_at (i := 0) hR.sl Try.underlying31 Try.sizeOf33 rfl (hF.eval rfl) (hF.eval rfl) (by simp)) fun a hF => ?_
        refine wd_un hF rfl rfl rfl rfl (isB_F hk) ?_
        refine wd_r hF rfl rfl rfl (fun w ⟨_, hO⟩ => q_loadAgg Try.isAgg33 Try.sizeOf33 rfl (hF.eval rfl) (RdT.cells (hR.sl.now hO) (show [ta, tb][0]? = some ta from rfl)) rfl) fun a hF => ?_
        refine wd_un hF rfl rfl rfl rfl (isB_F hk) ?_
        refine wd_p hF rfl rfl rfl (fun w => q_fieldAddr0 (d := 2) Try.underlying33 rfl (hF.eval rfl) rfl Try.sizeOf31 (by decide) rfl) fun a hF => ?_
        refine wd_un hF rfl rfl rfl rfl (isB_F hk) ?_
        refine wd_r hF rfl rfl rfl (fun w ⟨_, hO⟩ => q_load Try.isAgg31 rfl (hF.eval rfl) (hO.cell 1 rfl rfl)) fun a hF => ?_
        refine wd_un hF rfl rfl rfl rfl (isB_F hk) ?_
        refine wd_p hF rfl rfl rfl (fun w => q_at (i := 0) hR2.sl Try.underlying31 Try.sizeOf33 rfl (hF.eval rfl) (hF.eval rfl) (by simp)) fun a hF => ?_
        refine wd_un hF rfl rfl rfl rfl (isB_F hk) ?_
        refine wd_r hF rfl rfl rfl (fun w ⟨_, hO⟩ => q_loadAgg Try.isAgg33 Try.sizeOf33 rfl (hF.eval rfl) (RdT.cells (hR2.sl.now hO) (show [ua, ub][0]? = some ua from rfl)) rfl) fun a hF => ?_
        refine wd_un hF rfl rfl rfl rfl (isB_F hk) ?_
        refine wd_p hF rfl rfl rfl (fun w => q_move rfl (hF.eval rfl)) fun a hF => ?_
        refine wd_un hF rfl rfl rfl rfl (isB_F hk) ?_
        refine wd_p hF rfl rfl rfl (fun w => q_move rfl (hF.eval rfl)) fun a hF => ?_
        refine wd_un hF rfl rfl rfl rfl (isB_F hk) ?_
        have hO := hO.pull 5 rfl
        have hO := hO.pull 5 rfl
        have hO := hO.pull 5 rfl
        have hO := hO.pull 5 rfl
        have hO : St _ _ _ [_, _, _, _, _, _] := hO
        refine wd_e hF rfl rfl rfl (c_call hF rfl rfl Try.call55 (ih ra (by omega) sa ta ua _ vn vt ns ts hln (by omega) hnd hO.own4 (fun z hz => (RdN.now (St.front (A := [_, _, _, _]) hO) (hts z hz))) (RdN.now (St.front (A := [_, _, _, _]) hO) (hR.sub ta (by simp))) (RdN.now (St.front (A := [_, _, _, _]) hO) (hR2.sub ua (by simp))) hea hfa)) (fun _ _ ⟨_, _, _, _, _, _, _, _, _, _, _, hS⟩ => ⟨_, ((hO.call4 hS).pull 5 rfl).pull 5 rfl⟩) ?_
        rintro a _ w ⟨vn1, vt1, ns1, ts1, ok1, rfl, hln1, hlb1, hnd1, hsb1, hm1, hS⟩ hF
        have hO := hO.call4 hS
        have hO : St _ _ _ [_, _, _, _, _, _] := hO
        cases ok1
        · skip
          refine wd_un hF rfl rfl rfl rfl (isB_F hk) ?_
          refine wd_p hF rfl rfl rfl (fun w => q_move rfl (hF.eval rfl)) fun a hF => ?_
          refine wd_sk hF rfl rfl rfl rfl (rfl) rfl rfl fun a hF => ?_
          refine wd_sk hF rfl rfl rfl rfl (rfl) rfl rfl fun a hF => ?_
          refine wd_sk hF rfl rfl rfl rfl (rfl) rfl rfl fun a hF => ?_
          refine wd_sk hF rfl rfl rfl rfl (rfl) rfl rfl fun a hF => ?_
          refine wd_sk hF rfl rfl rfl rfl (rfl) rfl rfl fun a hF => ?_
          refine wd_sk hF rfl rfl rfl rfl (rfl) rfl rfl fun a hF => ?_
          refine wd_sk hF rfl rfl rfl rfl (rfl) rfl rfl fun a hF => ?_
          refine wd_sk hF rfl rfl rfl rfl (rfl) rfl rfl fun a hF => ?_
          refine wd_sk hF rfl rfl rfl rfl (rfl) rfl rfl fun a hF => ?_
          refine wd_sk hF rfl rfl rfl rfl (rfl) rfl rfl fun a hF => ?_
          refine wd_sk hF rfl rfl rfl rfl (rfl) rfl rfl fun a hF => ?_
          refine wd_un hF rfl rfl rfl rfl (isB_F hk) ?_
          refine wd_p hF rfl rfl rfl (fun w => q_pickF rfl (hF.eval rfl) rfl) fun a hF => ?_
          refine wd_p hF rfl rfl rfl (fun w => q_pickF rfl ((hF.eval rfl).trans (congrArg Value.bool (decide_eq_false hk))) (hF.eval rfl)) fun a hF => ?_
          refine wd_p hF rfl rfl rfl (fun w => q_assign rfl (hF.eval rfl)) fun a hF => ?_
          refine wd_nil ?_
          refine k_n ?_
          refine wp_ret ?_
          refine r_1 hF rfl rfl ?_
          have hO := hO.drop1 4
          have hO := hO.drop1 4
          have hO : St _ _ _ [_, _, _, _] := hO
          refine ⟨vn1, vt1, ns1, ts1, false, rfl, hln1, by omega, hnd1, fun z hz => (hsb1 z hz).imp id fun h => .sub (by simp) h, fun g hg => ⟨fun h => (by cases h), fun _ => ?_⟩, hO⟩
          show (match matchF ra sa g with | none => none | some g1 => matchF rb sb g1) = none
          rw [(hm1 g hg).2 rfl]
        · skip
          refine wd_un hF rfl rfl rfl rfl (isB_F hk) ?_
          refine wd_p hF rfl rfl rfl (fun w => q_move rfl (hF.eval rfl)) fun a hF => ?_
          refine wd_un hF rfl rfl rfl rfl (rfl) ?_
          refine wd_p hF rfl rfl rfl (fun w => q_fieldAddr0 (d := 2) Try.underlying33 rfl (hF.eval rfl) rfl Try.sizeOf31 (by decide) rfl) fun a hF => ?_
          refine wd_un hF rfl rfl rfl rfl (rfl) ?_
          refine wd_r hF rfl rfl rfl (fun w ⟨_, hO⟩ => q_load Try.isAgg31 rfl (hF.eval rfl) (hO.cell 0 rfl rfl)) fun a hF => ?_
          refine wd_un hF rfl rfl rfl rfl (rfl) ?_
          refine wd_p hF rfl rfl rfl (fun w => q_at (i := 1) hR.sl Try.underlying31 Try.sizeOf33 rfl (hF.eval rfl) (hF.eval rfl) (by simp)) fun a hF => ?_
          refine wd_un hF rfl rfl rfl rfl (rfl) ?_
          refine wd_r hF rfl rfl rfl (fun w ⟨_, hO⟩ => q_loadAgg Try.isAgg33 Try.sizeOf33 rfl (hF.eval rfl) (RdT.cells (hR.sl.now hO) (show [ta, tb][1]? = some tb from rfl)) rfl) fun a hF => ?_
          refine wd_un hF rfl rfl rfl rfl (rfl) ?_
          refine wd_p hF rfl rfl rfl (fun w => q_fieldAddr0 (d := 2) Try.underlying33 rfl (hF.eval rfl) rfl Try.sizeOf31 (by decide) rfl) fun a hF => ?_
          refine wd_un hF rfl rfl rfl rfl (rfl) ?_
          refine wd_r hF rfl rfl rfl (fun w ⟨_, hO⟩ => q_load Try.isAgg31 rfl (hF.eval rfl) (hO.cell 1 rfl rfl)) fun a hF => ?_
          refine wd_un hF rfl rfl rfl rfl (rfl) ?_
          refine wd_p hF rfl rfl rfl (fun w => q_at (i := 1) hR2.sl Try.underlying31 Try.sizeOf33 rfl (hF.eval rfl) (hF.eval rfl) (by simp)) fun a hF => ?_
          refine wd_un hF rfl rfl rfl rfl (rfl) ?_
          refine wd_r hF rfl rfl rfl (fun w ⟨_, hO⟩ => q_loadAgg Try.isAgg33 Try.sizeOf33 rfl (hF.eval rfl) (RdT.cells (hR2.sl.now hO) (show [ua, ub][1]? = some ub from rfl)) rfl) fun a hF => ?_
          refine wd_un hF rfl rfl rfl rfl (rfl) ?_
          refine wd_p hF rfl rfl rfl (fun w => q_move rfl (hF.eval rfl)) fun a hF => ?_
          refine wd_un hF rfl rfl rfl rfl (rfl) ?_
          refine wd_p hF rfl rfl rfl (fun w => q_move rfl (hF.eval rfl)) fun a hF => ?_
          refine wd_un hF rfl rfl rfl rfl (rfl) ?_
          have hO := hO.pull 3 rfl
          have hO := hO.pull 3 rfl
          have hO := hO.pull 3 rfl
          have hO := hO.pull 3 rfl
          have hO : St _ _ _ [_, _, _, _, _, _] := hO
          refine wd_f hF rfl rfl rfl (c_call hF rfl rfl Try.call55 (ih rb (by omega) sb tb ub _ vn1 vt1 ns1 ts1 hln1 (by omega) hnd1 hO.own4 (fun z hz => (RdN.now (St.front (A := [_, _, _, _]) hO) ((hsb1 z hz).elim (hts z) fun h => h.rd (hR2.sub ua (by simp))))) (RdN.now (St.front (A := [_, _, _, _]) hO) (hR.sub tb (by simp))) (RdN.now (St.front (A := [_, _, _, _]) hO) (hR2.sub ub (by simp))) heb hfb)) ?_
          rintro a _ w ⟨vn2, vt2, ns2, ts2, ok2, rfl, hln2, hlb2, hnd2, hsb2, hm2, hS⟩ hF
          have hO := hO.call4 hS
          have hO : St _ _ _ [_, _, _, _, _, _] := hO
          refine wd_un hF rfl rfl rfl rfl (isB_F hk) ?_
          refine wd_p hF rfl rfl rfl (fun w => q_pickT rfl (hF.eval rfl) (hF.eval rfl)) fun a hF => ?_
          refine wd_p hF rfl rfl rfl (fun w => q_pickF rfl ((hF.eval rfl).trans (congrArg Value.bool (decide_eq_false hk))) (hF.eval rfl)) fun a hF => ?_
          refine wd_p hF rfl rfl rfl (fun w => q_assign rfl (hF.eval rfl)) fun a hF => ?_
          refine wd_nil ?_
          refine k_n ?_
          refine wp_ret ?_
          refine r_1 hF rfl rfl ?_
          have hO := hO.drop1 4
          have hO := hO.drop1 4
          have hO : St _ _ _ [_, _, _, _] := hO
          refine ⟨vn2, vt2, ns2, ts2, ok2, rfl, hln2, by omega, hnd2, fun z hz => (hsb2 z hz).elim (fun h => (hsb1 z h).imp id fun h => .sub (by simp) h) fun h => .inr (.sub (by simp) h), fun g hg => ?_, hO⟩
          obtain ⟨g1, he1, hr1⟩ := (hm1 g hg).1 rfl
          have hx : matchF (.app ra rb) (.app sa sb) g = matchF rb sb g1 := by
            show (match matchF ra sa g with | none => none | some g1 => matchF rb sb g1) = _
            rw [he1]
          rw [hx]
          exact hm2 g1 hr1


theorem matchR_r (nb yb : Nat) : ∀ (q : Nat) (r : RT), r.nodes < q → ∀ (s : RT) (t u : TN), ∀ (w0 : World) (vn vt : Value) (ns : List Nam) (ts : List TN), ns.length = ts.length → ns.length + r.nodes ≤ 1000000000000 → ns.Nodup → Owns w0 [.ob nb 56 [vn], .ob yb 31 [vt], slT vn 9 strE ns, slT vt 33 tnE ts] → (∀ z ∈ ts, RdN w0 (blks [.ob nb 56 [vn], .ob yb 31 [vt], slT vn 9 strE ns, slT vt 33 tnE ts]) z) → RdN w0 (blks [.ob nb 56 [vn], .ob yb 31 [vt], slT vn 9 strE ns, slT vt 33 tnE ts]) t → RdN w0 (blks [.ob nb 56 [vn], .ob yb 31 [vt], slT vn 9 strE ns, slT vt 33 tnE ts]) u → t.er = r.ty → u.er = s.ty → Ret Try.prog 55 #[.agg (tnE.cells t).toArray, .agg (tnE.cells u).toArray, ptr (adr nb), ptr (adr yb)] w0 (fun v w' => ∃ (vn' vt' : Value) (ns' : List Nam) (ts' : List TN) (ok : Bool), v = .bool ok ∧ ns'.length = ts'.length ∧ ns'.length ≤ ns.length + r.nodes ∧ ns'.Nodup ∧ (∀ z ∈ ts', z ∈ ts ∨ Sbt u z) ∧ (∀ g, RelG (lkN ns ts) g → (ok = true → ∃ g', matchF r s g = some g' ∧ RelG (lkN ns' ts') g') ∧ (ok = false → matchF r s g = none)) ∧ St w0 (blks [.ob nb 56 [vn], .ob yb 31 [vt], slT vn 9 strE ns, slT vt 33 tnE ts]) w' [.ob nb 56 [vn'], .ob yb 31 [vt'], slT vn' 9 strE ns', slT vt' 33 tnE ts'])
  | 0, _, h => absurd h (Nat.not_lt_zero _)
  | q + 1, r, h => fun s t u => by
    obtain ⟨k, n, hd, l⟩ := t
    obtain ⟨k', n', hd', l'⟩ := u
    intro w0 vn vt ns ts h1 h2 h3 h4 h5 h6 h7 h8 h9
    exact matchR_i nb yb r s (fun r' hr => matchR_r nb yb q r' (by omega)) k k' n n' hd hd' l l' w0 vn vt ns ts h1 h2 h3 h4 h5 h6 h7 h8 h9
end Go.Proofs.Ytfkmlcgccffmnaa
namespace Go.Proofs.Ytfkmlcgccffmnaa
open Go
set_option maxRecDepth 100000
set_option linter.unusedVariables false

theorem take_nod {ns : List Nam} {k : Nat} {nm : Nam} (hnd : ns.Nodup) (hk : ns[k]? = some nm) : ∀ m ∈ ns.take k, ¬ m = nm := fun m hm => by
  have h := hnd.sublist (List.take_sublist (k + 1) ns)
  rw [takeAt hk, List.nodup_append] at h
  exact h.2.2 m hm nm (by simp)
theorem ansM_in {l : List (Nam × Ty)} {os ns : List Nam} {g : Sg} {i k : Nat} {nm : Nam} {u : RT} (h : l = if nm ∈ ns.take k then ansM (os.take (i + 1)) g else ansM (os.take i) g) (hnd : ns.Nodup) (hk : ns[k]? = some nm) (hx : os[i]? = some nm) (hg : g nm = some u) : l ++ [(nm, u.ty)] = if nm ∈ ns.take (k + 1) then ansM (os.take (i + 1)) g else ansM (os.take i) g := by
  have h1 : nm ∉ ns.take k := fun hm => take_nod hnd hk nm hm rfl
  rw [if_neg h1] at h
  rw [if_pos (by rw [takeAt hk]; simp)]
  exact ansM_next h hx hg
theorem ansM_out {l : List (Nam × Ty)} {os ns : List Nam} {g : Sg} {i k : Nat} {nm m : Nam} (h : l = if nm ∈ ns.take k then ansM (os.take (i + 1)) g else ansM (os.take i) g) (hk : ns[k]? = some m) (hm : ¬ m = nm) : l = if nm ∈ ns.take (k + 1) then ansM (os.take (i + 1)) g else ansM (os.take i) g := by
  have e : nm ∈ ns.take (k + 1) ↔ nm ∈ ns.take k := by
    rw [takeAt hk, List.mem_append, List.mem_singleton]
    exact ⟨fun h => h.resolve_right fun e => hm e.symm, .inl⟩
  simp only [e]; exact h
theorem ansM_l {l : List SbN} {os ns : List Nam} {g : Sg} {i k : Nat} {nm : Nam} (h : l.map SbN.er = if nm ∈ ns.take k then ansM (os.take (i + 1)) g else ansM (os.take i) g) : l.length ≤ i + 1 := by
  have e := congrArg List.length h
  rw [List.length_map] at e
  split at e
  · rw [e, ansM_len, List.length_take]; omega
  · rw [e, ansM_len, List.length_take]; omega
theorem relG_nil : RelG (lkN [] []) (fun _ => none) := fun _ => rfl
set_option maxHeartbeats 8000000 in
theorem matchRR_r (w0 : World) (t u : TN) (hR : RdN w0 [] t) (hR2 : RdN w0 [] u) (hFt : Fit t.er ∧ Fit u.er) : Ret Try.prog 23 #[.agg (tnE.cells t).toArray, .agg (tnE.cells u).toArray] w0 (fun v w' => ∃ (h : Hdr) (l : List SbN) (e : Int), v = .tuple #[h.v, i64 e] ∧ MatSpec t.er u.er (l.map SbN.er) e ∧ St w0 [] w' [slT h.v 45 sbE l, sbG 33 l]) := by
  have hO := St.init0 w0
  refine ret_of (m := 69) Try.func23 rfl Try.ntmps23 [(0, .agg (tnE.cells t).toArray), (1, .agg (tnE.cells u).toArray)] rfl ⟨rfl, rfl, trivial⟩ fun a hF => ?_
  refine wp_seq ?_
  refine wp_region_lit ?_
  refine wl_e hF rfl rfl rfl (e_box hO rfl (hF.eval rfl) rfl) ?_
  rintro a _ w ⟨tk, rfl, hO⟩ hF
  refine wl_e hF rfl rfl rfl (e_box hO rfl (hF.eval rfl) rfl) ?_
  rintro a _ w ⟨tu, rfl, hO⟩ hF
  refine wl_v hF rfl rfl rfl (q_assign rfl (hF.eval rfl)) fun a hF => ?_
  refine wl_v hF rfl rfl rfl (q_assign rfl (hF.eval rfl)) fun a hF => ?_
  refine wl_nil ?_
  refine k_n ?_
  refine wp_seq ?_
  refine wp_seq ?_
  refine wp_region_lit ?_
  refine wl_v hF rfl rfl rfl (q_loadAgg Try.isAgg33 Try.sizeOf33 rfl (hF.eval rfl) (hO.cells 1 rfl) rfl) fun a hF => ?_
  refine wl_e hF rfl rfl rfl (c_call hF rfl rfl Try.call32 (right_r t _ (hR.at0 hO) hFt.1.nodes)) ?_
  rintro a _ w ⟨rfl, hS⟩ hF
  have hO := hO.call0 hS
  have hO : St _ _ _ [_, _] := hO
  refine wl_v hF rfl rfl rfl (q_not rfl (hF.eval rfl) (dec_b _)) fun a hF => ?_
  refine wl_v hF rfl rfl rfl (q_move rfl (hF.eval rfl)) fun a hF => ?_
  refine wl_g hF rfl rfl rfl rfl rfl rfl (fun hg => q_loadAgg Try.isAgg33 Try.sizeOf33 rfl (hF.eval rfl) (hO.cells 0 rfl) rfl) fun a hF => ?_
  refine wl_gk hO hF rfl rfl rfl rfl rfl rfl (fun hg => c_callG hF rfl rfl (by first | with_reducible rfl | (simp only [gv_of hg]; done) | (simp only [gv_of hg]; rfl)) Try.call32 (right_r u _ (hR2.at0 hO) hFt.2.nodes)) fun a w hO hF => ?_
  refine wl_g hF rfl rfl rfl rfl rfl rfl (fun hg => q_not rfl ((hF.eval rfl).trans (gv_of hg)) (dec_b _)) fun a hF => ?_
  refine wl_v hF rfl rfl rfl (q_or rfl (hF.eval rfl) rfl (fun hg2 => ((hF.eval rfl).trans (gv_of hg2))) rfl) fun a hF => ?_
  refine wl_nil ?_
  refine k_n ?_
  refine wp_ifD hF rfl rfl (fun hc1 => ?_) (fun hc1 => ?_)
  · skip
    have hal1 : allF [t.er, u.er] 0 = 1 := by
      rcases hc1 with h | h
      · exact allF_arg (t := t.er) (by simp) (by simpa using h)
      · exact allF_arg (t := u.er) (by simp) (by simpa using h)
    refine wp_seq ?_
    refine wp_region_lit ?_
    refine wl_v hF rfl rfl rfl (q_assign rfl (hF.eval rfl)) fun a hF => ?_
    refine wl_v hF rfl rfl rfl (q_assign rfl (hF.eval rfl)) fun a hF => ?_
    refine wl_nil ?_
    refine k_n ?_
    refine wp_ret ?_
    refine k_r ?_
    refine r_2 hF rfl rfl rfl ?_
    have hO := hO.drop1 0
    have hO := hO.drop1 0
    have hO : St _ _ _ [] := hO
    have hO := hO.grp0
    have hO := hO.nilSl 45 4
    exact ⟨nilH, [], 1, rfl, (Or.inl ⟨by rw [hal1]; decide, rfl, hal1.symm⟩), hO⟩
  · skip
    have hrt : rightF t.er = true := Classical.not_not.1 (not_or.1 hc1).1
    have hru : rightF u.er = true := Classical.not_not.1 (not_or.1 hc1).2
    have hbig := allF_big (l := [t.er, u.er]) (e := 0) (fun x hx => by rcases List.mem_cons.1 hx with rfl | hx; exact hrt; rw [List.mem_singleton.1 hx]; exact hru)
    refine wp_skip ?_
    refine k_n ?_
    refine wp_seq ?_
    refine wp_seq ?_
    refine wp_region_lit ?_
    refine wl_v hF rfl rfl rfl (q_loadAgg Try.isAgg33 Try.sizeOf33 rfl (hF.eval rfl) (hO.cells 1 rfl) rfl) fun a hF => ?_
    refine wl_e hF rfl rfl rfl (c_call hF rfl rfl Try.call33 (nodes_r t _ (hR.at0 hO) hFt.1.nodes)) ?_
    rintro a _ w ⟨rfl, hS⟩ hF
    have hO := hO.call0 hS
    have hO : St _ _ _ [_, _] := hO
    refine wl_v hF rfl rfl rfl (q_gt rfl (hF.eval rfl) (hF.eval rfl)) fun a hF => ?_
    refine wl_v hF rfl rfl rfl (q_move rfl (hF.eval rfl)) fun a hF => ?_
    refine wl_g hF rfl rfl rfl rfl rfl rfl (fun hg => q_loadAgg Try.isAgg33 Try.sizeOf33 rfl (hF.eval rfl) (hO.cells 0 rfl) rfl) fun a hF => ?_
    refine wl_gk hO hF rfl rfl rfl rfl rfl rfl (fun hg => c_callG hF rfl rfl (by first | with_reducible rfl | (simp only [gv_of hg]; done) | (simp only [gv_of hg]; rfl)) Try.call33 (nodes_r u _ (hR2.at0 hO) hFt.2.nodes)) fun a w hO hF => ?_
    refine wl_g hF rfl rfl rfl rfl rfl rfl (fun hg => q_gt rfl ((hF.eval rfl).trans (gv_of hg)) (hF.eval rfl)) fun a hF => ?_
    refine wl_v hF rfl rfl rfl (q_or rfl (hF.eval rfl) rfl (fun hg2 => ((hF.eval rfl).trans (gv_of hg2))) rfl) fun a hF => ?_
    refine wl_nil ?_
    refine k_n ?_
    refine wp_ifD hF rfl rfl (fun hc2 => ?_) (fun hc2 => ?_)
    · skip
      have hal3 : allF [t.er, u.er] 0 = 3 := by
        rw [hbig, if_pos]
        rcases hc2 with h | h
        · exact ⟨t.er, by simp, h⟩
        · exact ⟨u.er, by simp, h⟩
      refine wp_seq ?_
      refine wp_region_lit ?_
      refine wl_v hF rfl rfl rfl (q_assign rfl (hF.eval rfl)) fun a hF => ?_
      refine wl_v hF rfl rfl rfl (q_assign rfl (hF.eval rfl)) fun a hF => ?_
      refine wl_nil ?_
      refine k_n ?_
      refine wp_ret ?_
      refine k_r ?_
      refine r_2 hF rfl rfl rfl ?_
      have hO := hO.drop1 0
      have hO := hO.drop1 0
      have hO : St _ _ _ [] := hO
      have hO := hO.grp0
      have hO := hO.nilSl 45 4
      exact ⟨nilH, [], 3, rfl, (Or.inl ⟨by rw [hal3]; decide, rfl, hal3.symm⟩), hO⟩
    · skip
      have hn1 := (not_or.1 hc2).1
      have hn2 := (not_or.1 hc2).2
      have hal : allF [t.er, u.er] 0 = 0 := by
        rw [hbig, if_neg]
        rintro ⟨x, hx, hb⟩
        rcases List.mem_cons.1 hx with rfl | hx
        · exact hn1 hb
        · rw [List.mem_singleton.1 hx] at hb; exact hn2 hb
      obtain ⟨r, hr1, hr⟩ := right_ex _ hrt
      obtain ⟨s, hs1, hs⟩ := right_ex _ hru
      have hrn : r.nodes ≤ 1000 := by rw [← r.nodes_ty, ← hr]; omega
      refine wp_skip ?_
      refine k_n ?_
      refine wp_seq ?_
      refine wp_region_lit ?_
      refine wl_e hF rfl rfl rfl (e_alloc hO Try.zeroValue56 rfl rfl) ?_
      rintro a _ w ⟨nb, rfl, hO⟩ hF
      have hO := hO.nilSl 9 1
      refine wl_nil ?_
      refine k_n ?_
      refine wp_seq ?_
      refine wp_region_lit ?_
      refine wl_e hF rfl rfl rfl (e_alloc hO Try.zeroValue31 rfl rfl) ?_
      rintro a _ w ⟨yb, rfl, hO⟩ hF
      have hO := hO.nilSl 33 3
      refine wl_nil ?_
      refine k_n ?_
      refine wp_seq ?_
      refine wp_seq ?_
      refine wp_region_lit ?_
      refine wl_v hF rfl rfl rfl (q_loadAgg Try.isAgg33 Try.sizeOf33 rfl (hF.eval rfl) (hO.cells 5 rfl) rfl) fun a hF => ?_
      refine wl_v hF rfl rfl rfl (q_loadAgg Try.isAgg33 Try.sizeOf33 rfl (hF.eval rfl) (hO.cells 4 rfl) rfl) fun a hF => ?_
      have hO := hO.pull 2 rfl
      have hO := hO.pull 2 rfl
      have hO := hO.pull 3 rfl
      have hO : St _ _ _ [_, _, _, _, _, _] := hO
      refine wl_e hF rfl rfl rfl (c_call hF rfl rfl Try.call55 (matchR_r nb yb (r.nodes + 1) r (by omega) s t u _ _ _ [] [] rfl (by show 0 + _ ≤ _; omega) List.nodup_nil hO.own4 (fun z hz => (by cases hz)) (RdN.now (St.front (A := [_, _, _, _]) hO) hR) (RdN.now (St.front (A := [_, _, _, _]) hO) hR2) hr hs)) ?_
      rintro a _ w ⟨vn1, vt1, ns1, ts1, ok1, rfl, hln1, hlb1, hnd1, hsb1, hm1, hS⟩ hF
      have hO := hO.call4 hS
      have hO : St _ _ _ [_, _, _, _, _, _] := hO
      refine wl_v hF rfl rfl rfl (q_not rfl (hF.eval rfl) (dec_b _)) fun a hF => ?_
      refine wl_nil ?_
      refine k_n ?_
      refine wp_ifD hF rfl rfl (fun hc3 => ?_) (fun hc3 => ?_)
      · skip
        have hok : ok1 = false := by simpa using hc3
        subst hok
        refine wp_seq ?_
        refine wp_region_lit ?_
        refine wl_v hF rfl rfl rfl (q_assign rfl (hF.eval rfl)) fun a hF => ?_
        refine wl_v hF rfl rfl rfl (q_assign rfl (hF.eval rfl)) fun a hF => ?_
        refine wl_nil ?_
        refine k_n ?_
        refine wp_ret ?_
        refine k_r ?_
        refine r_2 hF rfl rfl rfl ?_
        have hO := hO.drop1 0
        have hO := hO.drop1 0
        have hO := hO.drop1 0
        have hO := hO.drop1 0
        have hO := hO.drop1 0
        have hO := hO.drop1 0
        have hO : St _ _ _ [] := hO
        have hO := hO.grp0
        have hO := hO.nilSl 45 4
        exact ⟨nilH, [], 70, rfl, (Or.inr ⟨hal, r, s, hr, hs, Or.inl ⟨(hm1 _ relG_nil).2 rfl, rfl, rfl⟩⟩), hO⟩
      · skip
        have hok : ok1 = true := by simpa using hc3
        subst hok
        obtain ⟨g, hg, hrel⟩ := (hm1 _ relG_nil).1 rfl
        refine wp_skip ?_
        refine k_n ?_
        refine wp_seq ?_
        refine wp_region_lit ?_
        refine wl_v hF rfl rfl rfl (q_assign rfl (hF.eval rfl)) fun a hF => ?_
        have hO := hO.nilSl 45 4
        refine wl_nil ?_
        refine k_n ?_
        refine wp_seq ?_
        refine wp_region_lit ?_
        refine wl_v hF rfl rfl rfl (q_load Try.isAgg56 rfl (hF.eval rfl) (hO.cell0 1 rfl rfl)) fun a hF => ?_
        have hO : St _ _ _ (sbG 33 [] :: _) := hO.grp0
        have hO : St _ _ _ [_, _, _, _, _, _, _, _] := hO
        refine wl_e hF rfl rfl rfl (c_call hF rfl rfl Try.call36 (sorted_r _ _ _ (hO.rdT 4 rfl) hnd1 (by have hz : ([] : List Nam).length = 0 := rfl; omega))) ?_
        rintro a vq w ⟨os, hasc, hnm, hnsl, hS⟩ hF
        have hO := hO.call0 hS
        have hO : St _ _ _ [_, _, _, _, _, _, _, _, _] := hO
        have hmemv : ∀ n, n ∈ os ↔ ¬ g n = none := fun n => (hnm n).trans (by rw [← hrel.dom n, lkN_no hln1]; exact Decidable.not_not.symm)
        have hz0 : ([] : List Nam).length = 0 := rfl
        refine wl_v hF rfl rfl rfl (q_assign rfl (hF.eval rfl)) fun a hF => ?_
        refine wl_nil ?_
        refine k_n ?_
        refine wp_seq ?_
        refine wp_seq ?_
        refine wp_region_lit ?_
        refine wl_v hF rfl rfl rfl (q_assign rfl (hF.eval rfl)) fun a hF => ?_
        refine wl_nil ?_
        refine k_n ?_
        refine wp_block ?_
        have hO := hO.drop1 7
        have hO := hO.drop1 7
        have hO := hO.pull 1 rfl
        have hO := hO.pull 2 rfl
        have hO := hO.pull 2 rfl
        have hO := hO.pull 6 rfl
        have hO := hO.pull 6 rfl
        have hO := hO.pull 6 rfl
        have hO := hO.pull 6 rfl
        have hO : St _ _ _ [_, _, _, _, _, _, _] := hO
        refine wp_loopS (fun (s : Nat × Value × List SbN) a w' => match s with | (i, vo, l) => (i ≤ os.length ∧ l.map SbN.er = ansM (os.take i) g) ∧ St w0 [] w' [.ob nb 56 [vn1], .ob yb 31 [vt1], slT vn1 9 strE ns1, slT vt1 33 tnE ts1, slT vq 9 strE os, slT vo 45 sbE l, sbG 33 l] ∧ Fr a 69 [(4, .slice none 0 0), (5, i64 0), (6, ptr (adr nb)), (7, ptr (adr yb)), (9, vq), (8, vo), (10, i64 i)]) (fun (s : Nat × Value × List SbN) => match s with | (i, vo, l) => os.length - i) (0, _, []) ⟨⟨by omega, rfl⟩, hO, hF.sub ⟨rfl, rfl, rfl, rfl, rfl, rfl, rfl, trivial⟩⟩ ?_
        rintro ⟨i, vo, l⟩ a w ⟨⟨hi, hl⟩, hO, hF⟩
        have hll := (hO.rdT 5 rfl).lenle
        refine wp_seq ?_
        refine wp_seq ?_
        refine wp_region_lit ?_
        refine wl_v hF rfl rfl rfl (q_move rfl (hF.eval rfl)) fun a hF => ?_
        refine wl_v hF rfl rfl rfl (q_move rfl (hF.eval rfl)) fun a hF => ?_
        refine wl_v hF rfl rfl rfl (q_lenRd (hO.rd 4 rfl) Try.underlying56 rfl (hF.eval rfl)) fun a hF => ?_
        refine wl_v hF rfl rfl rfl (q_lt rfl (hF.eval rfl) (hF.eval rfl)) fun a hF => ?_
        refine wl_nil ?_
        refine k_n ?_
        refine wp_ifD hF rfl rfl (fun hc4 => ?_) (fun hc4 => ?_)
        · skip
          obtain ⟨nm, hx⟩ := get_ex (l := os) (i := i) (by omega)
          refine wp_skip ?_
          refine k_n ?_
          refine wp_seq ?_
          refine wp_block ?_
          refine wp_seq ?_
          refine wp_region_lit ?_
          refine wl_v hF rfl rfl rfl (q_assign rfl (hF.eval rfl)) fun a hF => ?_
          refine wl_nil ?_
          refine k_n ?_
          refine wp_block ?_
          have hO : St _ _ _ [_, _, _, _, _, _, _] := hO
          refine wp_loopS (fun (s : Nat × Value × List SbN) a w' => match s with | (k, vo2, l2) => (k ≤ ns1.length ∧ l2.map SbN.er = if nm ∈ ns1.take k then ansM (os.take (i + 1)) g else ansM (os.take i) g) ∧ St w0 [] w' [.ob nb 56 [vn1], .ob yb 31 [vt1], slT vn1 9 strE ns1, slT vt1 33 tnE ts1, slT vq 9 strE os, slT vo2 45 sbE l2, sbG 33 l2] ∧ Fr a 69 [(4, .slice none 0 0), (5, i64 0), (6, ptr (adr nb)), (7, ptr (adr yb)), (9, vq), (8, vo2), (10, i64 i), (11, i64 k)]) (fun (s : Nat × Value × List SbN) => match s with | (k, vo2, l2) => ns1.length - k) (0, vo, l) ⟨⟨by omega, by rw [if_neg (by simp)]; exact hl⟩, hO, hF.sub ⟨rfl, rfl, rfl, rfl, rfl, rfl, rfl, rfl, trivial⟩⟩ ?_
          rintro ⟨k, vo2, l2⟩ a w ⟨⟨hk, hl2⟩, hO, hF⟩
          have hll2 := (hO.rdT 5 rfl).lenle
          have hl9 := ansM_l hl2
          refine wp_seq ?_
          refine wp_seq ?_
          refine wp_region_lit ?_
          refine wl_v hF rfl rfl rfl (q_move rfl (hF.eval rfl)) fun a hF => ?_
          refine wl_v hF rfl rfl rfl (q_load Try.isAgg56 rfl (hF.eval rfl) (hO.cell0 0 rfl rfl)) fun a hF => ?_
          refine wl_v hF rfl rfl rfl (q_lenRd (hO.rd 2 rfl) Try.underlying56 rfl (hF.eval rfl)) fun a hF => ?_
          refine wl_v hF rfl rfl rfl (q_lt rfl (hF.eval rfl) (hF.eval rfl)) fun a hF => ?_
          refine wl_nil ?_
          refine k_n ?_
          refine wp_ifD hF rfl rfl (fun hc5 => ?_) (fun hc5 => ?_)
          · skip
            refine wp_skip ?_
            refine k_n ?_
            refine wp_seq ?_
            refine wp_block ?_
            refine wp_seq ?_
            have hO := hO.drew
            refine wp_region_D [1, 0, 0, 1, 0, 0, 0, 1, 0] (fun w => St _ _ w _) Try_mixed (by kernel_rfl) hO ?_
            refine wd_r hF rfl rfl rfl (fun w hO => q_load Try.isAgg56 rfl (hF.eval rfl) (hO.cell0 0 rfl rfl)) fun a hF => ?_
            refine wd_p hF rfl rfl rfl (fun w => q_move rfl (hF.eval rfl)) fun a hF => ?_
            obtain ⟨m, hm⟩ := get_ex (l := ns1) (i := k) (by omega)
            refine wd_p hF rfl rfl rfl (fun w => q_at (i := k) (hO.rd 2 rfl) Try.underlying56 Try.sizeOf9 rfl (hF.eval rfl) (hF.eval rfl) (by omega)) fun a hF => ?_
            refine wd_r hF rfl rfl rfl (fun w hO => q_load Try.isAgg9 rfl (hF.eval rfl) (RdT.cell0 (hO.rdT 2 rfl) hm rfl)) fun a hF => ?_
            refine wd_p hF rfl rfl rfl (fun w => q_move rfl (hF.eval rfl)) fun a hF => ?_
            refine wd_p hF rfl rfl rfl (fun w => q_move rfl (hF.eval rfl)) fun a hF => ?_
            refine wd_p hF rfl rfl rfl (fun w => q_at (i := i) (hO.rd 4 rfl) Try.underlying56 Try.sizeOf9 rfl (hF.eval rfl) (hF.eval rfl) (by omega)) fun a hF => ?_
            refine wd_r hF rfl rfl rfl (fun w hO => q_load Try.isAgg9 rfl (hF.eval rfl) (RdT.cell0 (hO.rdT 4 rfl) hx rfl)) fun a hF => ?_
            refine wd_p hF rfl rfl rfl (fun w => q_seq rfl (hF.eval rfl) (hF.eval rfl)) fun a hF => ?_
            refine wd_nil ?_
            refine k_n ?_
            refine wp_ifD hF rfl rfl (fun hc6 => ?_) (fun hc6 => ?_)
            · skip
              obtain rfl : m = nm := hc6
              have hO := hO.pull 6 rfl
              have hO := hO.pull 6 rfl
              have hO := hO.pull 6 rfl
              have hO := hO.pull 6 rfl
              have hO := hO.pull 6 rfl
              have hO := hO.pull 6 rfl
              have hO := hO.pull 6 rfl
              have hO := hO.drew
              refine wp_region_D [0, 0, 0, 0, 1, 1, 0, 0, 1, 2, 0, 3, 3, 0] (fun w => ∃ L', St w0 [] w (.ob nb 56 [vn1] :: .ob yb 31 [vt1] :: slT vn1 9 strE ns1 :: slT vt1 33 tnE ts1 :: slT vq 9 strE os :: slT vo2 45 sbE l2 :: sbG 33 l2 :: L')) Try_mixed (by kernel_rfl) ⟨_, hO⟩ ?_
              refine wd_p hF rfl rfl rfl (fun w => q_move rfl (hF.eval rfl)) fun a hF => ?_
              refine wd_p hF rfl rfl rfl (fun w => q_move rfl (hF.eval rfl)) fun a hF => ?_
              refine wd_p hF rfl rfl rfl (fun w => q_move rfl (hF.eval rfl)) fun a hF => ?_
              refine wd_p hF rfl rfl rfl (fun w => q_at (i := i) (hO.rd 4 rfl) Try.underlying56 Try.sizeOf9 rfl (hF.eval rfl) (hF.eval rfl) (by omega)) fun a hF => ?_
              refine wd_r hF rfl rfl rfl (fun w ⟨_, hO⟩ => q_load Try.isAgg9 rfl (hF.eval rfl) (RdT.cell0 (hO.rdT 4 rfl) hx rfl)) fun a hF => ?_
              refine wd_r hF rfl rfl rfl (fun w ⟨_, hO⟩ => q_load Try.isAgg31 rfl (hF.eval rfl) (hO.cell0 1 rfl rfl)) fun a hF => ?_
              refine wd_p hF rfl rfl rfl (fun w => q_move rfl (hF.eval rfl)) fun a hF => ?_
              obtain ⟨z, hz⟩ := get_ex (l := ts1) (i := k) (by omega)
              refine wd_p hF rfl rfl rfl (fun w => q_at (i := k) (hO.rd 3 rfl) Try.underlying31 Try.sizeOf33 rfl (hF.eval rfl) (hF.eval rfl) (by omega)) fun a hF => ?_
              refine wd_r hF rfl rfl rfl (fun w ⟨_, hO⟩ => q_loadAgg Try.isAgg33 Try.sizeOf33 rfl (hF.eval rfl) (RdT.cells (hO.rdT 3 rfl) hz) rfl) fun a hF => ?_
              have hgz := lkN_at (take_nod hnd1 hm) hm hz
              obtain ⟨w9, hgw, hzw⟩ := hrel.some_ hgz
              have hsb := (hsb1 z (List.mem_of_getElem? hz)).resolve_left (by simp)
              refine wd_e hF rfl rfl rfl (c_call hF rfl rfl Try.call13 (copy_r z _ ((hsb.rd hR2).at0 hO) (Nat.le_trans hsb.nodes (by omega)))) (fun _ _ ⟨_, _, _, hS⟩ => ⟨_, ((((((((hO.call0 hS).pull 7 rfl).pull 7 rfl).pull 7 rfl).pull 7 rfl).pull 7 rfl).pull 7 rfl).pull 7 rfl)⟩) ?_
              rintro a _ w ⟨tz, rfl, htz, hS⟩ hF
              have hO := hO.call0 hS
              have hO : St _ _ _ [_, _, _, _, _, _, _, _] := hO
              refine wd_p hF rfl rfl rfl (fun w => c_buildG hF Try.underlying45 Try.zeroValue45 Try_placesG45 rfl rfl rfl rfl) fun a hF => ?_
              refine wd_f hF rfl rfl rfl (c_buildSlice hF hO Try.underlying23 Try.sizeOf45 Try.zeroValue45 rfl rfl rfl rfl rfl rfl rfl) ?_
              rintro a _ w ⟨b2, rfl, hO⟩ hF
              refine wd_f hF rfl rfl rfl (e_appendT (bytes := 64) (r := [⟨m, tz⟩]) hO (i := 7) rfl (hO.rd 0 rfl) Try.underlying23 Try_info45 rfl rfl rfl rfl rfl rfl (hF.eval rfl) (hF.eval rfl) (by show (List.length _ + 1) * 64 ≤ _; omega) (by show List.length _ + 1 ≤ _; omega)) ?_
              rintro a v67 w hO hF
              have hO : St _ _ _ [_, _, _, _, _, _, _, _, _] := hO
              have hO := hO.pull 1 rfl
              have hO := St.intoS (s := ⟨m, tz⟩) hO 7 rfl
              have hO : St _ _ _ [_, _, _, _, _, _, _, _] := hO
              refine wd_p hF rfl rfl rfl (fun w => q_assign rfl (hF.eval rfl)) fun a hF => ?_
              refine wd_nil ?_
              refine b_n ?_
              refine k_n ?_
              refine wp_region_lit ?_
              refine wl_v hF rfl rfl rfl (q_move rfl (hF.eval rfl)) fun a hF => ?_
              refine wl_v hF rfl rfl rfl (q_add rfl (hF.eval rfl) (hF.eval rfl) (by omega)) fun a hF => ?_
              refine wl_v hF rfl rfl rfl (q_assign rfl (hF.eval rfl)) fun a hF => ?_
              refine wl_nil ?_
              refine k_n ?_
              have hO := hO.drop1 0
              have hO : St _ _ _ [_, _, _, _, _, _, _] := hO
              exact ⟨(k + 1, _, l2 ++ [⟨m, tz⟩]), ⟨⟨by omega, by rw [List.map_append, ← ansM_in hl2 hnd1 hm hx hgw, ← hzw, ← htz]; rfl⟩, hO, hF.sub ⟨rfl, rfl, rfl, rfl, rfl, rfl, rfl, rfl, trivial⟩⟩, by dsimp only; omega⟩
            · skip
              refine wp_skip ?_
              refine b_n ?_
              refine k_n ?_
              refine wp_region_lit ?_
              refine wl_v hF rfl rfl rfl (q_move rfl (hF.eval rfl)) fun a hF => ?_
              refine wl_v hF rfl rfl rfl (q_add rfl (hF.eval rfl) (hF.eval rfl) (by omega)) fun a hF => ?_
              refine wl_v hF rfl rfl rfl (q_assign rfl (hF.eval rfl)) fun a hF => ?_
              refine wl_nil ?_
              refine k_n ?_
              have hO : St _ _ _ [_, _, _, _, _, _, _] := hO
              exact ⟨(k + 1, vo2, l2), ⟨⟨by omega, ansM_out hl2 hm hc6⟩, hO, hF.sub ⟨rfl, rfl, rfl, rfl, rfl, rfl, rfl, rfl, trivial⟩⟩, by dsimp only; omega⟩
          · skip
            have hkk : ns1.take k = ns1 := List.take_of_length_le (by omega)
            refine wp_exit ?_
            refine k_x ?_
            refine k_x ?_
            refine b_x ?_
            refine b_n ?_
            refine k_n ?_
            refine wp_region_lit ?_
            refine wl_v hF rfl rfl rfl (q_move rfl (hF.eval rfl)) fun a hF => ?_
            refine wl_v hF rfl rfl rfl (q_add rfl (hF.eval rfl) (hF.eval rfl) (by omega)) fun a hF => ?_
            refine wl_v hF rfl rfl rfl (q_assign rfl (hF.eval rfl)) fun a hF => ?_
            refine wl_nil ?_
            refine k_n ?_
            have hO : St _ _ _ [_, _, _, _, _, _, _] := hO
            rw [if_pos ((by rw [hkk]; exact (hnm nm).1 (List.mem_of_getElem? hx)) : nm ∈ ns1.take k)] at hl2
            exact ⟨(i + 1, vo2, l2), ⟨⟨by omega, hl2⟩, hO, hF.sub ⟨rfl, rfl, rfl, rfl, rfl, rfl, rfl, trivial⟩⟩, by dsimp only; omega⟩
        · skip
          have htj : os.take i = os := List.take_of_length_le (by omega)
          rw [htj] at hl
          refine wp_exit ?_
          refine k_x ?_
          refine k_x ?_
          refine b_x ?_
          refine k_n ?_
          refine wp_seq ?_
          refine wp_region_lit ?_
          refine wl_v hF rfl rfl rfl (q_move rfl (hF.eval rfl)) fun a hF => ?_
          refine wl_v hF rfl rfl rfl (q_assign rfl (hF.eval rfl)) fun a hF => ?_
          refine wl_v hF rfl rfl rfl (q_assign rfl (hF.eval rfl)) fun a hF => ?_
          refine wl_nil ?_
          refine k_n ?_
          refine wp_ret ?_
          refine r_2 hF rfl rfl rfl ?_
          have hO := hO.drop1 0
          have hO := hO.drop1 0
          have hO := hO.drop1 0
          have hO := hO.drop1 0
          have hO := hO.drop1 0
          have hO : St _ _ _ [_, _] := hO
          obtain ⟨q, rfl⟩ := Rd.hdr (hO.rd 0 rfl)
          exact ⟨q, l, 0, rfl, Or.inr ⟨hal, r, s, hr, hs, Or.inr ⟨g, os, hg, hasc, hmemv, hl, rfl⟩⟩, hO⟩

end Go.Proofs.Ytfkmlcgccffmnaa
