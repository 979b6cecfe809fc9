/- PLAIN: an old object that does not remember has no field that points to a young one. -/
import Derived.Test.YtglienidnffnjaaPl11
namespace Go.Proofs.Ytglienidnffnjaa
open Go
structure RI (h : Hp) : Prop where
  sep : Sep h
  kn : Kn h
  mem : ∀ k : Nat, (hdAt h k).kind ≠ 0 → ∀ j : Nat, (j : Int) < (hdAt h k).fields → grey h.y.end_ k (wdAt h (k + 1 + j)) → (hdAt h k).knows = true
def Mono (h h' : Hp) : Prop := ∀ k, (hdAt h k).kind ≠ 0 → (hdAt h' k).kind ≠ 0
theorem Mono.refl (h : Hp) : Mono h h := fun _ h => h
def Alive (h : Hp) (all : List Int) : Prop := ∀ a ∈ all, headAt h.heads a ≠ none
theorem Alive.mono {h h' : Hp} {all : List Int} (ha : Alive h all) (hm : Mono h h') : Alive h' all := fun a hx => by
  obtain ⟨k, _, rfl, _, h4⟩ := head_ne (ha a hx)
  rw [headAt_of (hm k h4)]
  simp
theorem ri_new {y o : Int} (hb : ¬ newBad y o) : RI (newH y o) := by
  have hk : ∀ k, hdAt (newH y o) k = hd0 := fun k => by
    unfold hdAt newH
    simp only
    rw [List.getD_eq_getElem?_getD, List.getElem?_replicate]
    split <;> rfl
  exact ⟨sep_new hb, fun k h => (by rw [hk] at h; cases h), fun k h => absurd (by rw [hk]; rfl) h⟩
section
variable {h : Hp}
theorem RI.layF (c : RI h) {r : Nat} {kind info : Int} {fs : List Wd} (hr : r ≤ 2) (hb : ¬ argsBad kind info fs) (hfit : ¬ (h.rg r).end_ - (h.rg r).next < takesF fs) : RI (layF h r kind info fs) ∧ Mono h (layF h r kind info fs) ∧ headAt (layF h r kind info fs).heads (h.rg r).next ≠ none := by
  obtain ⟨e, hl, hp, h0⟩ := c.sep.fit hr hfit
  obtain ⟨t1, t2, t3⟩ := takes_ge fs
  obtain ⟨g1, g2, g3, g4, g5⟩ := lay_rg h r kind info fs
  have hd := fun j => lay_hd (kind := kind) (info := info) c.sep hr hfit j
  have hwd := fun j => lay_wd (kind := kind) (info := info) c.sep hr hfit j
  have hye : (Go.Proofs.Ytglienidnffnjaa.layF h r kind info fs).y.end_ = h.y.end_ := by rw [g3]; split <;> rfl
  have hk0 : kind ≠ 0 := by unfold argsBad at hb; omega
  have hm : Mono h (Go.Proofs.Ytglienidnffnjaa.layF h r kind info fs) := fun k hk => by
    rw [hd]
    by_cases ek : k = h.nx r
    · rw [if_pos ek]; exact hk0
    · rw [if_neg ek]; exact hk
  refine ⟨⟨c.sep.lay hr hfit, ?_, fun k hk j hj hg => ?_⟩, hm, ?_⟩
  · have hl2 : (laidH h r kind info fs).heads.length = h.heads.length := (laid_len h r kind info fs).1
    refine Kn.notes (by omega) fs (fun k hk => ?_) (by rw [hl2]; show h.nx r < _; omega)
    rw [laid_head] at hk
    split at hk
    · cases hk
    · exact c.kn k hk
  · rw [hye] at hg
    rw [hwd] at hg
    rw [hd] at hk hj ⊢
    by_cases ek : k = h.nx r
    · rw [if_pos ek] at hj ⊢
      simp only at hj
      rw [if_pos ⟨by omega, by omega⟩, show k + 1 + j - (h.nx r + 1) = j by omega] at hg
      refine decide_eq_true ⟨fs.getD j wd0, ?_, by rw [← e, ← ek]; exact hg⟩
      rw [List.getD_eq_getElem?_getD, List.getElem?_eq_getElem (by omega)]
      exact List.getElem_mem _
    · rw [if_neg ek] at hk hj ⊢
      have := hp k hk
      have := c.sep.tk k hk
      rw [if_neg (by omega)] at hg
      exact c.mem k hk j hj hg
  · have : (hdAt (Go.Proofs.Ytglienidnffnjaa.layF h r kind info fs) (h.nx r)).kind ≠ 0 := by rw [hd, if_pos rfl]; exact hk0
    rw [← e, headAt_of this]
    simp
theorem RI.lay (c : RI h) {r : Nat} {kind info : Int} {fs : List Wd} (hr : r ≤ 2) {x : Int × Int} {h' : Hp} (hl : layH h r kind info fs = (x, h')) : RI h' ∧ Mono h h' ∧ (x.2 = 0 → headAt h'.heads x.1 ≠ none) := by
  by_cases h1 : argsBad kind info fs
  · rw [lay_1 h1] at hl; obtain ⟨rfl, rfl⟩ := Prod.mk.inj hl; exact ⟨c, Mono.refl h, fun h => by cases h⟩
  · by_cases h2 : realF h.heads fs = true
    · by_cases h3 : (h.rg r).end_ - (h.rg r).next < takesF fs
      · rw [lay_3 h1 (by simp [h2]) h3] at hl; obtain ⟨rfl, rfl⟩ := Prod.mk.inj hl; exact ⟨c, Mono.refl h, fun h => by cases h⟩
      · rw [lay_4 h1 (by simp [h2]) h3] at hl
        obtain ⟨rfl, rfl⟩ := Prod.mk.inj hl
        obtain ⟨d1, d2, d3⟩ := c.layF hr h1 h3
        exact ⟨d1, d2, fun _ => d3⟩
    · rw [lay_2 h1 h2] at hl; obtain ⟨rfl, rfl⟩ := Prod.mk.inj hl; exact ⟨c, Mono.refl h, fun h => by cases h⟩
/-- an object's head turns, and one of its words -/
def putH (h : Hp) (k : Nat) (x : Hd) (m : Nat) (w : Wd) : Hp := noteF ⟨h.words.set m w, h.heads.set k x, h.y, h.a, h.b, h.use, h.rem⟩ k w
theorem put_hd {k : Nat} (hkl : k < h.heads.length) (x : Hd) (m : Nat) (w : Wd) (j : Nat) : hdAt (putH h k x m w) j = if j = k then (if grey h.y.end_ k w then setK x true else x) else hdAt h j := by
  unfold putH
  have e : ((k : Int)).toNat = k := by omega
  have h1 : hdAt ⟨h.words.set m w, h.heads.set k x, h.y, h.a, h.b, h.use, h.rem⟩ j = if j = k then x else hdAt h j := by
    rw [hdAt_set]
    by_cases ej : j = k
    · rw [if_pos ⟨ej, hkl⟩, if_pos ej]
    · rw [if_neg (fun h => ej h.1), if_neg ej]
  rw [note_hd (by show (k : Int).toNat < (h.heads.set k x).length; rw [List.length_set]; omega), h1, e]
  show (if j = k ∧ grey h.y.end_ k w then _ else _) = _
  by_cases ej : j = k
  · rw [if_pos ej, if_pos ej]
    by_cases g : grey h.y.end_ k w
    · rw [if_pos ⟨ej, g⟩, if_pos g]
    · rw [if_neg (fun h => g h.2), if_neg g]
  · rw [if_neg (fun h => ej h.1), if_neg ej, if_neg ej]
theorem putWd {k : Nat} (x : Hd) {m : Nat} (hm : m < h.words.length) (w : Wd) (j : Nat) : wdAt (putH h k x m w) j = if j = m then w else wdAt h j := by
  unfold putH wdAt
  rw [(note_len _ _ _).2.1]
  exact wdAt_set _ _ _ _ hm
theorem Sep.put (c : Sep h) {k : Nat} (hk : (hdAt h k).kind ≠ 0) {x : Hd} (ht : x.takes = (hdAt h k).takes) (hf : 0 ≤ x.fields ∧ x.fields + 1 ≤ x.takes) {m : Nat} (hm : m < h.words.length) (w : Wd) : Sep (putH h k x m w) := by
  obtain ⟨k', hkl⟩ := head_ne (by rw [headAt_of hk]; simp : headAt h.heads (k : Int) ≠ none)
  have hkl : k < h.heads.length := by omega
  have ho := c.wf.obj k hk
  have hle : (k : Int) + (hdAt h k).takes ≤ h.heads.length := by
    have o1 := c.oy k hk
    have o2 := c.oa k hk
    have o3 := c.ob k hk
    obtain ⟨_, _, y3, y4⟩ := c.wf.y
    obtain ⟨_, _, a3, a4⟩ := c.wf.a
    obtain ⟨_, _, b3, b4⟩ := c.wf.b
    by_cases d : (k : Int) < h.y.end_
    · have := o1 d; omega
    · by_cases d2 : (k : Int) < h.a.end_
      · have := o2 (by omega) d2; omega
      · have := o3 (by omega); omega
  have w1 : Wf ⟨h.words.set m w, h.heads.set k x, h.y, h.a, h.b, h.use, h.rem⟩ := c.wf.turn hkl _ (List.length_set ..) x ⟨hf.1, by omega, by omega⟩
  have w2 : Wf (putH h k x m w) := w1.note (by omega) (by show (k : Int) < (h.heads.set k x).length; rw [List.length_set]; omega) w
  obtain ⟨a1, a2, a3, a4, a5, a6, _⟩ := note_len ⟨h.words.set m w, h.heads.set k x, h.y, h.a, h.b, h.use, h.rem⟩ k w
  refine c.same w2 a3 a4 a5 fun j => ?_
  rw [put_hd hkl]
  by_cases ej : j = k
  · subst ej
    rw [if_pos rfl]
    split
    · exact ⟨fun _ => hk, ht, fun _ => hf⟩
    · exact ⟨fun _ => hk, ht, fun _ => hf⟩
  · rw [if_neg ej]
    refine ⟨fun h => h, rfl, fun hj => ?_⟩
    have := c.tk j hj
    omega
theorem RI.put (c : RI h) {k : Nat} (hk : (hdAt h k).kind ≠ 0) {x : Hd} (hx : x.kind ≠ 0) (ht : x.takes = (hdAt h k).takes) (hn : x.knows = (hdAt h k).knows) (hf : 0 ≤ x.fields ∧ x.fields + 1 ≤ x.takes) {m : Nat} (hm : k + 1 ≤ m ∧ (m : Int) < k + (hdAt h k).takes) (hmw : m < h.words.length) (w : Wd)
    (hj : ∀ j : Nat, (j : Int) < x.fields → k + 1 + j = m ∨ (j : Int) < (hdAt h k).fields) : RI (putH h k x m w) ∧ Mono h (putH h k x m w) := by
  obtain ⟨k', hkl⟩ := head_ne (by rw [headAt_of hk]; simp : headAt h.heads (k : Int) ≠ none)
  have hkl : k < h.heads.length := by omega
  obtain ⟨a1, a2, a3, a4, a5, a6, _⟩ := note_len ⟨h.words.set m w, h.heads.set k x, h.y, h.a, h.b, h.use, h.rem⟩ k w
  have hye : (putH h k x m w).y.end_ = h.y.end_ := by show (noteF _ _ _).y.end_ = _; rw [a3]
  have hd := put_hd (h := h) hkl x m w
  refine ⟨⟨c.sep.put hk ht hf hmw w, ?_, fun i hi j hij hg => ?_⟩, fun i hi => ?_⟩
  · refine Kn.note (fun i hi => ?_) (by omega) (by show (k : Int).toNat < (h.heads.set k x).length; rw [List.length_set]; omega) w
    rw [hdAt_set] at hi
    split at hi
    · rename_i e; rw [e.1]; exact c.kn k (by rw [← hn]; exact hi)
    · exact c.kn i hi
  · rw [hye, putWd x hmw] at hg
    rw [hd] at hi hij ⊢
    have tk := c.sep.tk k hk
    by_cases ei : i = k
    · subst ei
      rw [if_pos rfl] at hij ⊢
      have hij' : (j : Int) < x.fields := by split at hij <;> exact hij
      by_cases em : i + 1 + j = m
      · rw [if_pos em] at hg; rw [if_pos hg]; rfl
      · rw [if_neg em] at hg
        have := c.mem i hk j (by rcases hj j hij' with e | e; exact absurd e em; exact e) hg
        split
        · rfl
        · rw [hn]; exact this
    · rw [if_neg ei] at hi hij ⊢
      have tki := c.sep.tk i hi
      have hne : ¬ i + 1 + j = m := by
        intro e
        rcases Nat.lt_or_ge i k with hlt | hge
        · have := c.sep.ap i k hlt hi hk; omega
        · have := c.sep.ap k i (by omega) hk hi; omega
      rw [if_neg hne] at hg
      exact c.mem i hi j hij hg
  · rw [hd]
    by_cases ei : i = k
    · rw [if_pos ei]; split <;> exact hx
    · rw [if_neg ei]; exact hi
theorem set_put {at_ field : Int} {k : Nat} {w : Wd} (hf0 : 0 ≤ field) (e : at_ = k) : noteF ⟨h.words.set (at_ + 1 + field).toNat w, h.heads, h.y, h.a, h.b, h.use, h.rem⟩ at_ w = putH h k (hdAt h k) (k + 1 + field.toNat) w := by
  subst e
  have e1 : h.heads.set k (hdAt h k) = h.heads := by
    unfold hdAt
    by_cases hl : k < h.heads.length
    · apply List.ext_getElem?
      intro i
      rw [List.getElem?_set]
      split
      · rename_i e; subst e; simp [hl]
      · rfl
    · rw [List.set_eq_of_length_le (by omega)]
  unfold putH
  rw [e1, show ((k : Int) + 1 + field).toNat = k + 1 + field.toNat by omega]
theorem RI.set (c : RI h) {at_ field : Int} {w : Wd} {e : Int} {h' : Hp} (hl : setH h at_ field w = (e, h')) : RI h' ∧ Mono h h' := by
  unfold setH at hl
  split at hl
  · obtain ⟨_, rfl⟩ := Prod.mk.inj hl; exact ⟨c, Mono.refl h⟩
  · rename_i k hk
    obtain ⟨rfl, hkl, hkk⟩ := head_some hk
    split at hl
    · obtain ⟨_, rfl⟩ := Prod.mk.inj hl; exact ⟨c, Mono.refl h⟩
    · rename_i hn
      obtain ⟨_, rfl⟩ := Prod.mk.inj hl
      have g1 := (not_or.1 hn).1
      have hkk : (hdAt h k).kind ≠ 0 := hkk
      have tk := c.sep.tk k hkk
      have ho := c.sep.wf.obj k hkk
      rw [set_put (by omega) rfl]
      exact c.put hkk hkk rfl rfl ⟨tk.2.1, tk.2.2⟩ ⟨by omega, by omega⟩ (by rw [c.sep.wf.len]; omega) w (fun j hj => .inr hj)
theorem RI.link (c : RI h) {at_ : Int} {w : Wd} {e : Int} {h' : Hp} (hl : linkH h at_ w = (e, h')) : RI h' ∧ Mono h h' := by
  unfold linkH at hl
  split at hl
  · obtain ⟨_, rfl⟩ := Prod.mk.inj hl; exact ⟨c, Mono.refl h⟩
  · rename_i k hk
    obtain ⟨rfl, hkl, hkk⟩ := head_some hk
    split at hl
    · obtain ⟨_, rfl⟩ := Prod.mk.inj hl; exact ⟨c, Mono.refl h⟩
    · split at hl
      · obtain ⟨_, rfl⟩ := Prod.mk.inj hl; exact ⟨c, Mono.refl h⟩
      · obtain ⟨_, rfl⟩ := Prod.mk.inj hl
        have hkk : (hdAt h k).kind ≠ 0 := hkk
        have tk := c.sep.tk k hkk
        have ho := c.sep.wf.obj k hkk
        have := c.put (x := ⟨5, 0, 1, (hdAt h k).takes, (hdAt h k).knows⟩) (m := k + 1) hkk (show (5 : Int) ≠ 0 by decide) rfl rfl ⟨(show (0 : Int) ≤ 1 by decide), by show (1 : Int) + 1 ≤ _; exact tk.1⟩ ⟨by omega, by omega⟩ (by rw [c.sep.wf.len]; omega) w (fun j hj => .inl (by have : (j : Int) < 1 := hj; omega))
        unfold putH at this
        rw [show ((k : Int) + 1).toNat = k + 1 by omega]
        exact this
/-- heads alone, but for kinds -/
theorem RI.head (c : RI h) {k : Nat} (hk : (hdAt h k).kind ≠ 0) {x : Hd} (hx : x.kind ≠ 0) (ht : x.takes = (hdAt h k).takes) (hn : x.knows = (hdAt h k).knows) (hf : x.fields = (hdAt h k).fields) : RI ⟨h.words, h.heads.set k x, h.y, h.a, h.b, h.use, h.rem⟩ ∧ Mono h ⟨h.words, h.heads.set k x, h.y, h.a, h.b, h.use, h.rem⟩ := by
  obtain ⟨k', hkl⟩ := head_ne (by rw [headAt_of hk]; simp : headAt h.heads (k : Int) ≠ none)
  have hkl : k < h.heads.length := by omega
  have hd : ∀ j, hdAt ⟨h.words, h.heads.set k x, h.y, h.a, h.b, h.use, h.rem⟩ j = if j = k then x else hdAt h j := fun j => by
    rw [hdAt_set]
    by_cases e : j = k
    · rw [if_pos ⟨e, hkl⟩, if_pos e]
    · rw [if_neg (fun h => e h.1), if_neg e]
  have ho := c.sep.wf.obj k hk
  have tk := c.sep.tk k hk
  refine ⟨⟨c.sep.same (c.sep.wf.turn hkl _ rfl x (by rw [hf]; exact ho)) rfl rfl rfl fun j => ?_, fun j hj => ?_, fun i hi j hij hg => ?_⟩, fun i hi => ?_⟩
  · rw [hd]
    by_cases e : j = k
    · rw [if_pos e, e]; exact ⟨fun _ => hk, ht, fun _ => by rw [hf, ht]; omega⟩
    · rw [if_neg e]
      refine ⟨fun h => h, rfl, fun hj => ?_⟩
      have := c.sep.tk j hj
      omega
  · rw [hd] at hj
    by_cases e : j = k
    · rw [if_pos e, hn] at hj; rw [e]; exact c.kn k hj
    · rw [if_neg e] at hj; exact c.kn j hj
  · rw [hd] at hi hij ⊢
    by_cases e : i = k
    · rw [if_pos e] at hij ⊢
      rw [hn]; rw [hf] at hij
      subst e
      exact c.mem i hk j hij hg
    · rw [if_neg e] at hi hij ⊢
      exact c.mem i hi j hij hg
  · rw [hd]
    by_cases e : i = k
    · rw [if_pos e]; exact hx
    · rw [if_neg e]; exact hi
theorem RI.hole (c : RI h) {at_ : Int} {e : Int} {h' : Hp} (hl : holeH h at_ = (e, h')) : RI h' ∧ Mono h h' := by
  unfold holeH at hl
  split at hl
  · obtain ⟨_, rfl⟩ := Prod.mk.inj hl; exact ⟨c, Mono.refl h⟩
  · rename_i k hk
    obtain ⟨rfl, hkl, hkk⟩ := head_some hk
    split at hl
    · obtain ⟨_, rfl⟩ := Prod.mk.inj hl; exact ⟨c, Mono.refl h⟩
    · obtain ⟨_, rfl⟩ := Prod.mk.inj hl
      exact c.head hkk (by show (6 : Int) ≠ 0; decide) rfl rfl rfl
theorem RI.flip (c : RI h) : RI (flipH h) ∧ Mono h (flipH h) :=
  ⟨⟨⟨c.sep.wf.flip, c.sep.y0, c.sep.a0, c.sep.b0, c.sep.tk, c.sep.oy, c.sep.oa, c.sep.ob, c.sep.ap⟩, c.kn, c.mem⟩, fun _ h => h⟩
/-- THE STAGE's THEOREM, plain. -/
theorem RI.law (c : RI h) {a : Int} (ha : headAt h.heads a ≠ none) (hy : ¬ youngH h a) : (objH h a).2 = 0 ∧ ∀ f ∈ (objH h a).1.fields, f.ptr = true → youngH h f.n → a ∈ h.rem := by
  obtain ⟨k, hk, rfl, hkl, hkk⟩ := head_ne ha
  have hge : h.y.end_ ≤ (k : Int) := by
    apply Classical.byContradiction
    intro hn
    exact hy ⟨by omega, ha⟩
  rw [obj_2 hk]
  refine ⟨rfl, fun f hf hp hfy => ?_⟩
  obtain ⟨j, hj⟩ := List.getElem?_of_mem hf
  simp only at hj
  rw [List.getElem?_take] at hj
  split at hj
  · rename_i hlt
    rw [List.getElem?_drop] at hj
    have e : wdAt h (k + 1 + j) = f := by unfold wdAt; rw [List.getD_eq_getElem?_getD, hj]; rfl
    have hjl : (j : Int) < (hdAt h k).fields := by unfold hdAt; omega
    exact c.kn k (c.mem k hkk j hjl (by rw [e]; exact ⟨hge, hp, hfy.1⟩))
  · cases hj
end
end Go.Proofs.Ytglienidnffnjaa
