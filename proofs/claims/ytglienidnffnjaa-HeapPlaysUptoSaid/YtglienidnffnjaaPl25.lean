/- PL21, PLAIN: the heap and the document's heap go together. -/
import Derived.Test.YtglienidnffnjaaPl20
namespace Go.Proofs.Ytglienidnffnjaa
open Go
def RmI (h : Hp) : Prop := (∀ a : Int, a ∈ h.rem ↔ ∃ k : Nat, a = k ∧ (hdAt h k).knows = true) ∧ h.rem.Nodup
theorem RmI.note {h : Hp} (r : RmI h) {at_ : Int} (h0 : 0 ≤ at_) (hl : at_.toNat < h.heads.length) (w : Wd) : RmI (noteF h at_ w) := by
  by_cases hk : knowP h at_ w
  · rw [note_yes hk]; exact r
  · rw [note_no hk]
    have hnk : ¬ (hdAt h at_.toNat).knows = true := fun e => hk (.inr e)
    have hd := fun j => hdAt_set h h.words h.y h.a h.b h.use (h.rem ++ [at_]) at_.toNat j (setK (h.heads.getD at_.toNat hd0) true)
    refine ⟨fun a => ?_, ?_⟩
    · show a ∈ h.rem ++ [at_] ↔ _
      rw [List.mem_append, List.mem_singleton, r.1 a]
      constructor
      · rintro (⟨k, rfl, hkk⟩ | rfl)
        · refine ⟨k, rfl, ?_⟩
          rw [hd k]; split
          · rfl
          · exact hkk
        · exact ⟨a.toNat, by omega, by rw [hd, if_pos ⟨rfl, hl⟩]; rfl⟩
      · rintro ⟨k, rfl, hkk⟩
        rw [hd k] at hkk
        split at hkk
        · rename_i e; exact .inr (by omega)
        · exact .inl ⟨k, rfl, hkk⟩
    · show (h.rem ++ [at_]).Nodup
      refine List.nodup_append.2 ⟨r.2, by simp, fun a ha b hb e => ?_⟩
      rw [List.mem_singleton.1 hb] at e
      subst e
      obtain ⟨k, e, hkk⟩ := (r.1 a).1 ha
      exact hnk (by rw [show a.toNat = k by omega]; exact hkk)
theorem RmI.notes {at_ : Int} (h0 : 0 ≤ at_) : ∀ (ws : List Wd) {h : Hp}, RmI h → at_.toNat < h.heads.length → RmI (notesF h at_ ws)
  | [], _, r, _ => r
  | w :: ws, h, r, hl => RmI.notes h0 ws (r.note h0 hl w) (by rw [(note_len h at_ w).1]; exact hl)
/-- heads turn, but for which know -/
theorem RmI.same {h h' : Hp} (r : RmI h) (e : h'.rem = h.rem) (hk : ∀ k, (hdAt h' k).knows = (hdAt h k).knows) : RmI h' := by
  refine ⟨fun a => ?_, by rw [e]; exact r.2⟩
  rw [e, r.1 a]
  exact ⟨fun ⟨k, h1, h2⟩ => ⟨k, h1, by rw [hk]; exact h2⟩, fun ⟨k, h1, h2⟩ => ⟨k, h1, by rw [← hk]; exact h2⟩⟩
theorem RG.uniq {R : RH} (g : RG R) {p p' i j : Nat} {x y : RO} (hp : p < 3) (hp' : p' < 3) (hx : (R.p p)[i]? = some x) (hy : (R.p p')[j]? = some y) (e : x.at_ = y.at_) : p = p' ∧ i = j := by
  have rx := g.rng p hp x (List.mem_of_getElem? hx)
  have ry := g.rng p' hp' y (List.mem_of_getElem? hy)
  have gy := g.y
  have go := g.o
  have hpp : p = p' := by
    unfold begR sizR at rx ry
    rcases lt3 hp with rfl | rfl | rfl <;> rcases lt3 hp' with rfl | rfl | rfl <;> simp at rx ry <;> omega
  subst hpp
  refine ⟨rfl, ?_⟩
  rcases Nat.lt_trichotomy i j with h | h | h
  · have := g.srt p hp i j x y h hx hy; omega
  · exact h
  · have := g.srt p hp j i y x h hy hx; omega
structure Rel (h : Hp) (R : RH) : Prop where
  sep : Sep h
  g : RG R
  sz : h.y.end_ = R.Y ∧ h.a.end_ = R.Y + R.O ∧ h.b.end_ = R.Y + 2 * R.O ∧ (h.heads.length : Int) = R.Y + 2 * R.O
  use : R.use = 1 + h.use
  nx : ∀ p, p < 3 → (h.rg p).next = begR R p + usedR R p
  ob : ∀ p, p < 3 → ∀ x ∈ R.p p, ∃ k : Nat, x.at_ = k ∧ ObjAt h k x.kind x.info x.fs ∧ (hdAt h k).takes = x.takes ∧ (hdAt h k).knows = x.knows
  nh : ∀ k : Nat, (hdAt h k).kind ≠ 0 → ∃ p, p < 3 ∧ ∃ x ∈ R.p p, x.at_ = k
  rm : RmI h
  kp : ∀ k : Nat, (hdAt h k).knows = true → (hdAt h k).kind ≠ 0 ∧ R.Y ≤ k
section
variable {h : Hp} {R : RH} {n : Int} {q : Nat × Nat} {w : Wd} {p k : Nat} {fs : List Wd}
theorem Rel.rg (c : Rel h R) (hp : p < 3) : (h.rg p).first = begR R p ∧ (h.rg p).end_ = begR R p + sizR R p := by
  obtain ⟨s1, s2, s3, s4⟩ := c.sz
  have y0 := c.sep.y0; have a0 := c.sep.a0; have b0 := c.sep.b0
  unfold begR sizR
  rcases lt3 hp with rfl | rfl | rfl
  · show h.y.first = _ ∧ h.y.end_ = _; simp; omega
  · show h.a.first = _ ∧ h.a.end_ = _; simp; omega
  · show h.b.first = _ ∧ h.b.end_ = _; simp; omega
theorem Rel.no (c : Rel h R) (hf : findO R n = none) : headAt h.heads n = none := by
  apply Classical.byContradiction
  intro hne
  obtain ⟨k, h1, rfl, h3, h4⟩ := head_ne hne
  obtain ⟨p, hp, x, hx, e⟩ := c.nh k h4
  exact find_no hf p hp x hx e
theorem Rel.so (c : Rel h R) (hf : findO R n = some q) : ∃ k : Nat, n = k ∧ headAt h.heads n = some k ∧ ObjAt h k (R.ob q).kind (R.ob q).info (R.ob q).fs ∧ (hdAt h k).takes = (R.ob q).takes ∧ (hdAt h k).knows = (R.ob q).knows ∧ q.1 < 3 ∧ q.2 < (R.p q.1).length ∧ (R.p q.1)[q.2]? = some (R.ob q) ∧ (R.ob q).at_ = k := by
  obtain ⟨h1, h2, h3, h4⟩ := find_is hf
  obtain ⟨k, e, o, t, kn⟩ := c.ob q.1 h1 _ (List.mem_of_getElem? h3)
  rw [h4] at e
  subst e
  exact ⟨k, rfl, o.head, o, t, kn, h1, h2, h3, h4⟩
theorem Rel.iff (c : Rel h R) : findO R n = none ↔ headAt h.heads n = none := by
  refine ⟨c.no, fun hn => ?_⟩
  cases hf : findO R n with
  | none => rfl
  | some q =>
    obtain ⟨k, _, hk, _⟩ := c.so hf
    rw [hn] at hk; cases hk
theorem Rel.bad (c : Rel h R) : badR R w ↔ badW h.heads w := by unfold badR badW; rw [c.iff]
theorem Rel.real (c : Rel h R) : realR R fs = realF h.heads fs := by
  unfold realR realF
  refine congrArg (fun f => List.all fs f) (funext fun w => decide_eq_decide.2 (not_congr c.bad))
theorem Rel.young (c : Rel h R) : youngR R n ↔ youngH h n := by
  unfold youngR youngH
  rw [c.iff, c.sz.1]
  constructor
  · rintro ⟨⟨_, h2⟩, h3⟩; exact ⟨h2, h3⟩
  · rintro ⟨h2, h3⟩
    obtain ⟨k, _, rfl, _⟩ := head_ne h3
    exact ⟨⟨by omega, h2⟩, h3⟩
theorem Rel.obj (c : Rel h R) (n : Int) : objH h n = objR R n := by
  unfold objR
  cases hf : findO R n with
  | none => unfold objH; rw [c.no hf]
  | some q =>
    obtain ⟨k, rfl, hk, o, _⟩ := c.so hf
    exact o.obj c.sep.wf
theorem Rel.used (c : Rel h R) : usedH h = (usedR R 0, usedR R R.use) := by
  have hu := use_rng c.g
  have h1 := c.rg (p := 0) (by omega)
  have h2 := c.rg hu.1
  have n1 := c.nx 0 (by omega)
  have n2 := c.nx _ hu.1
  unfold usedH
  rw [← c.use, n2, h2.1, show h.y.next = (h.rg 0).next from rfl, show h.y.first = (h.rg 0).first from rfl, n1, h1.1]
  congr 1 <;> omega
theorem Rel.left (c : Rel h R) : leftF h = usedR R (3 - R.use) := by
  have hu := use_rng c.g
  have h2 := c.rg hu.2.1
  have n2 := c.nx _ hu.2.1
  have e := c.use
  unfold leftF
  rw [show 1 + (1 - h.use) = 3 - R.use by have := c.sep.wf.use; omega, n2, h2.1]
  omega
theorem Rel.half (c : Rel h R) : halfF h = R.O := by
  have h2 := c.rg (p := 1) (by omega)
  have e1 : h.a.first = _ := h2.1
  have e2 : h.a.end_ = _ := h2.2
  unfold halfF
  rw [e1, e2]
  show begR R 1 + R.O - begR R 1 = R.O
  omega
theorem Rel.step (c : Rel h R) : isInd h w ↔ (w.ptr = true ∧ (obAt R w.n).kind = 5) := by
  unfold isInd obAt
  cases hf : findO R w.n with
  | none =>
    rw [c.no hf]
    simp [ro0]
  | some q =>
    obtain ⟨k, e, hk, o, _⟩ := c.so hf
    rw [hk, show w.n.toNat = k by omega, o.kind]
    simp
theorem Rel.chaseG (c : Rel h R) : ∀ (f : Nat) (w : Wd) (met : List Int), Go.Proofs.Ytglienidnffnjaa.chaseG h f w met = chaseQ R f w met
  | 0, _, _ => rfl
  | f + 1, w, met => by
    by_cases hs : stepR R w met
    · have hi := c.step.2 hs.1
      rw [chase_yes hs]
      show (if isInd h w ∧ ¬ met.contains w.n = true then _ else w) = _
      rw [if_pos ⟨hi, hs.2⟩, c.chaseG f]
      congr 1
      cases hf : findO R w.n with
      | none => exact absurd (c.no hf) hi.1.2
      | some q =>
        obtain ⟨k, e, hk, o, _, _, h1, h2, h3, _⟩ := c.so hf
        have hk5 := hs.1.2
        rw [ob_at hf] at hk5 ⊢
        have hl := c.g.ind q.1 h1 _ (List.mem_of_getElem? h3) hk5
        have := o.words 0 _ (List.getElem?_eq_getElem (by omega))
        rw [show (w.n + 1).toNat = k + 1 + 0 by omega, List.getD_eq_getElem?_getD (l := (R.ob q).fs), List.getElem?_eq_getElem (by omega)]
        exact this
    · rw [chase_no hs]
      refine chase_stop fun hc => hs ⟨c.step.1 hc.1, hc.2⟩
theorem Rel.chase (c : Rel h R) (w : Wd) : chaseH h w = chaseR R w := by
  unfold chaseH chaseR
  rw [c.chaseG, show (R.Y + 2 * R.O).toNat = h.heads.length by have := c.sz.2.2.2; omega]
end
/-! ### What is remembered -/
theorem rem1_mem {l : List RO} {a : Int} : a ∈ rem1R l ↔ ∃ x ∈ l, x.knows = true ∧ x.at_ = a := by
  unfold rem1R
  rw [List.mem_map]
  constructor
  · rintro ⟨x, hx, e⟩
    obtain ⟨h1, h2⟩ := List.mem_filter.1 hx
    exact ⟨x, h1, h2, e⟩
  · rintro ⟨x, h1, h2, e⟩
    exact ⟨x, List.mem_filter.2 ⟨h1, h2⟩, e⟩
theorem pw_of {l : List RO} (h : ∀ (i j : Nat) x y, i < j → l[i]? = some x → l[j]? = some y → x.at_ < y.at_) : l.Pairwise fun x y => x.at_ < y.at_ := by
  rw [List.pairwise_iff_getElem]
  intro i j hi hj hij
  exact h i j _ _ hij (List.getElem?_eq_getElem hi) (List.getElem?_eq_getElem hj)
theorem rem1_pw {l : List RO} (h : l.Pairwise fun x y => x.at_ < y.at_) : (rem1R l).Pairwise (· < ·) := by
  unfold rem1R
  exact List.Pairwise.map _ (fun _ _ h => h) (h.filter _)
theorem remR_pw {R : RH} (g : RG R) : (remR R).Pairwise (· < ·) := by
  have hs : ∀ p, p < 3 → (R.p p).Pairwise fun x y => x.at_ < y.at_ := fun p hp => pw_of fun i j x y hij hx hy => by
    have h1 := g.srt p hp i j x y hij hx hy
    have h2 := (g.rng p hp x (List.mem_of_getElem? hx)).2.2.1
    omega
  unfold remR
  refine List.pairwise_append.2 ⟨rem1_pw (hs 1 (by omega)), rem1_pw (hs 2 (by omega)), fun a ha b hb => ?_⟩
  obtain ⟨x, hx, _, rfl⟩ := rem1_mem.1 ha
  obtain ⟨y, hy, _, rfl⟩ := rem1_mem.1 hb
  have r1 := g.rng 1 (by omega) x hx
  have r2 := g.rng 2 (by omega) y hy
  have e1 : begR R 1 + R.O = begR R 2 := by unfold begR; simp
  have e2 : sizR R 1 = R.O := rfl
  omega
theorem Rel.rem {h : Hp} {R : RH} (c : Rel h R) : sortF h.rem = remR R := by
  have hp1 : (sortF h.rem).Perm h.rem := List.mergeSort_perm _ _
  have hpw := remR_pw c.g
  have hn2 : (remR R).Nodup := hpw.imp fun h e => by omega
  have hmem : ∀ a, a ∈ h.rem ↔ a ∈ remR R := fun a => by
    rw [c.rm.1 a]
    unfold remR
    rw [List.mem_append, rem1_mem, rem1_mem]
    constructor
    · rintro ⟨k, rfl, hk⟩
      obtain ⟨h1, h2⟩ := c.kp k hk
      obtain ⟨p, hp, x, hx, e⟩ := c.nh k h1
      obtain ⟨k', e', _, _, kn⟩ := c.ob p hp x hx
      obtain rfl : k = k' := by omega
      have hr := c.g.rng p hp x hx
      rw [hk] at kn
      rcases lt3 hp with rfl | rfl | rfl
      · have e3 : begR R 0 + sizR R 0 = R.Y := by unfold begR sizR; simp
        omega
      · exact .inl ⟨x, hx, kn.symm, e⟩
      · exact .inr ⟨x, hx, kn.symm, e⟩
    · rintro (⟨x, hx, hk, rfl⟩ | ⟨x, hx, hk, rfl⟩)
      · obtain ⟨k, e, _, _, kn⟩ := c.ob 1 (by omega) x hx
        exact ⟨k, e, kn.trans hk⟩
      · obtain ⟨k, e, _, _, kn⟩ := c.ob 2 (by omega) x hx
        exact ⟨k, e, kn.trans hk⟩
  have hperm : (sortF h.rem).Perm (remR R) := hp1.trans ((List.perm_ext_iff_of_nodup c.rm.2 hn2).2 hmem)
  have hs : (sortF h.rem).Pairwise (· ≤ ·) := by
    have := List.pairwise_mergeSort (le := fun (a b : Int) => decide (a ≤ b)) (by intro a b c h1 h2; simp at *; omega) (by intro a b; simp; omega) h.rem
    exact this.imp fun h => by simpa using h
  exact List.Perm.eq_of_pairwise (fun a b _ _ h1 h2 => Int.le_antisymm h1 h2) hs (hpw.imp fun h => by omega) hperm
theorem rel_new {y o : Int} (hb : ¬ newBad y o) : Rel (newH y o) (newR y o) := by
  have hk : ∀ k, hdAt (newH y o) k = hd0 := fun k => by
    unfold hdAt newH
    simp only
    rw [List.getD_eq_getElem?_getD]
    by_cases hl : k < (y + 2 * o).toNat
    · rw [List.getElem?_eq_getElem (by simpa using hl)]; simp
    · rw [List.getElem?_eq_none (by simpa using hl)]; rfl
  have h1 := not_or.1 hb
  have h2 := not_or.1 h1.1
  have h3 := not_or.1 h2.1
  refine ⟨sep_new hb, ⟨fun p _ i j x y _ h => by simp [newR] at h, fun p _ => by simp [newR], ⟨by show 16 ≤ y; omega, by show y ≤ _; omega⟩, ⟨by show 16 ≤ o; omega, by show o ≤ _; omega⟩, .inl rfl, fun p _ x h => by simp [newR] at h, fun p _ x h => by simp [newR] at h⟩,
    ⟨rfl, rfl, rfl, ?_⟩, rfl, fun p hp => ?_, fun p _ x h => by simp [newR] at h, fun k h => ?_, ⟨fun a => ?_, List.nodup_nil⟩, fun k h => ?_⟩
  · show ((List.replicate _ hd0).length : Int) = y + 2 * o
    rw [List.length_replicate]; omega
  · rcases lt3 hp with rfl | rfl | rfl
    · rfl
    · show y = y + ((1 : Nat) - 1 : Int) * o + 0; simp
    · show y + o = y + ((2 : Nat) - 1 : Int) * o + 0; simp
  · rw [hk] at h; exact absurd rfl h
  · constructor
    · intro h; cases h
    · rintro ⟨k, _, h⟩; rw [hk] at h; cases h
  · rw [hk] at h; cases h
end Go.Proofs.Ytglienidnffnjaa
namespace Go.Proofs.Ytglienidnffnjaa
open Go
theorem used_setO {R : RH} {q : Nat × Nat} {x y : RO} (hy : (R.p q.1)[q.2]? = some y) (h1 : x.at_ = y.at_) (h2 : x.takes = y.takes) (p : Nat) : usedR (R.setO q x) p = usedR R p := by
  have hl := setO_len (R := R) (q := q) (x := x) p
  unfold usedR
  rw [hl]
  split
  · rfl
  · rename_i h0
    obtain ⟨u, hu⟩ := get_ex (l := (R.setO q x).p p) (i := (R.p p).length - 1) (by omega)
    obtain ⟨u', a1, a2⟩ := setO_get hy hu
    have e1 : lastR (R.setO q x) p = u := by unfold lastR; rw [hl, List.getD_eq_getElem?_getD, hu]; rfl
    have e2 : lastR R p = u' := by unfold lastR; rw [List.getD_eq_getElem?_getD, a1]; rfl
    rw [e1, e2]
    show u.at_ + u.takes - begR R p = _
    rcases a2 with ⟨_, _, rfl, rfl⟩ | ⟨_, rfl⟩
    · rw [h1, h2]
    · rfl
section
variable {h h2 : Hp} {R : RH} {q : Nat × Nat} {X : RO} {k : Nat}
/-- one object turns -/
theorem Rel.turn (c : Rel h R) (q1 : q.1 < 3) (q3 : (R.p q.1)[q.2]? = some (R.ob q)) (ek : (R.ob q).at_ = k) (hs : Sep h2) (e1 : h2.y = h.y) (e2 : h2.a = h.a) (e3 : h2.b = h.b) (e4 : h2.use = h.use) (e5 : h2.heads.length = h.heads.length)
    (hoth : ∀ j, j ≠ k → hdAt h2 j = hdAt h j) (hob : ∀ j kd nf ws, j ≠ k → ObjAt h j kd nf ws → ObjAt h2 j kd nf ws) (ok : ObjAt h2 k X.kind X.info X.fs) (htk : (hdAt h2 k).takes = X.takes) (hkn : (hdAt h2 k).knows = X.knows) (hm : RmI h2)
    (hkp : (hdAt h2 k).knows = true → R.Y ≤ k) (xa : X.at_ = (R.ob q).at_) (xt : X.takes = (R.ob q).takes) (xi : X.kind = 5 → X.fs.length = 1) : Rel h2 (R.setO q X) := by
  refine ⟨hs, c.g.setO q3 xa xt xi, by rw [e1, e2, e3, e5]; exact c.sz, by rw [e4]; exact c.use, fun p hp => ?_, fun p hp x hx => ?_, fun j hj => ?_, hm, fun j hj => ?_⟩
  · rw [used_setO q3 xa xt]
    have := c.nx p hp
    rcases lt3 hp with rfl | rfl | rfl
    · show h2.y.next = _; rw [e1]; exact this
    · show h2.a.next = _; rw [e2]; exact this
    · show h2.b.next = _; rw [e3]; exact this
  · obtain ⟨i, hi⟩ := List.getElem?_of_mem hx
    obtain ⟨u, a1, a2⟩ := setO_get q3 hi
    rcases a2 with ⟨_, _, rfl, rfl⟩ | ⟨hne, rfl⟩
    · exact ⟨k, by rw [xa]; exact ek, ok, htk, hkn⟩
    · obtain ⟨j, ej, oj, tj, kj⟩ := c.ob p hp x (List.mem_of_getElem? a1)
      have hjk : j ≠ k := fun e => by
        subst e
        exact hne (c.g.uniq hp q1 a1 q3 (by omega))
      exact ⟨j, ej, hob j _ _ _ hjk oj, by rw [hoth j hjk]; exact tj, by rw [hoth j hjk]; exact kj⟩
  · by_cases e : j = k
    · subst e
      exact ⟨q.1, q1, X, by rw [setO_p]; exact List.mem_of_getElem? (List.getElem?_set_self (List.getElem?_eq_some_iff.1 q3).1), by rw [xa]; exact ek⟩
    · rw [hoth j e] at hj
      obtain ⟨p, hp, x, hx, ex⟩ := c.nh j hj
      obtain ⟨i, hi⟩ := List.getElem?_of_mem hx
      refine ⟨p, hp, x, ?_, ex⟩
      by_cases ep : p = q.1
      · subst ep
        rw [setO_p]
        refine List.mem_of_getElem? (i := i) ?_
        rw [List.getElem?_set_ne (fun e2 => ?_)]
        · exact hi
        · subst e2
          rw [q3] at hi
          cases hi
          exact e (by omega)
      · rw [show (R.setO q X).p p = R.p p from upd_ne ep]; exact hx
  · by_cases e : j = k
    · subst e
      exact ⟨by rw [ok.kind]; exact ok.ne, hkp hj⟩
    · rw [hoth j e] at hj ⊢
      exact c.kp j hj
end
section
variable {h : Hp} {R : RH} {at_ field : Int} {w : Wd} {q : Nat × Nat} {k : Nat}
theorem Rel.grey (c : Rel h R) (hb : ¬ badR R w) (n : Int) : greyR R n w ↔ Go.Proofs.Ytglienidnffnjaa.grey h.y.end_ n w := by
  unfold greyR Go.Proofs.Ytglienidnffnjaa.grey
  rw [c.young, c.sz.1]
  unfold youngH
  rw [c.sz.1]
  constructor
  · rintro ⟨⟨h1, h2⟩, h3, _⟩; exact ⟨h1, h2, h3⟩
  · rintro ⟨h1, h2, h3⟩
    exact ⟨⟨h1, h2⟩, h3, fun e => hb ⟨h2, c.iff.2 e⟩⟩
theorem putK {k : Nat} (hkl : k < h.heads.length) (x : Hd) (m : Nat) (w : Wd) : (hdAt (putH h k x m w) k).kind = x.kind ∧ (hdAt (putH h k x m w) k).info = x.info ∧ (hdAt (putH h k x m w) k).fields = x.fields ∧ (hdAt (putH h k x m w) k).takes = x.takes ∧ (hdAt (putH h k x m w) k).knows = decide (x.knows = true ∨ Go.Proofs.Ytglienidnffnjaa.grey h.y.end_ k w) := by
  rw [put_hd hkl, if_pos rfl]
  split
  · rename_i hg; exact ⟨rfl, rfl, rfl, rfl, by show true = _; rw [decide_eq_true (.inr hg)]⟩
  · rename_i hg; exact ⟨rfl, rfl, rfl, rfl, by cases hx : x.knows <;> simp [hg]⟩
theorem RmI.put (r : RmI h) {k : Nat} (hkl : k < h.heads.length) {x : Hd} (hx : x.knows = (hdAt h k).knows) (m : Nat) (w : Wd) : RmI (putH h k x m w) := by
  unfold putH
  refine RmI.note (RmI.same (h' := ⟨h.words.set m w, h.heads.set k x, h.y, h.a, h.b, h.use, h.rem⟩) r rfl fun j => ?_) (by omega) (by show ((k : Int)).toNat < (h.heads.set k x).length; rw [List.length_set]; omega) w
  rw [hdAt_set]
  split
  · rename_i e; rw [e.1, hx]
  · rfl
/-- a word is put into an object -/
theorem Rel.put (c : Rel h R) (q1 : q.1 < 3) (q3 : (R.p q.1)[q.2]? = some (R.ob q)) (ek : (R.ob q).at_ = k) (hk : (hdAt h k).kind ≠ 0) (hb : ¬ badR R w) {x : Hd} {m : Nat} {X : RO} (hxk : x.kind = X.kind) (hxi : x.info = X.info) (hxf : x.fields = X.fs.length) (hxt : x.takes = (hdAt h k).takes) (hxn : x.knows = (hdAt h k).knows)
    (hf : x.fields + 1 ≤ x.takes) (hm : k + 1 ≤ m ∧ (m : Int) < k + (hdAt h k).takes) (hn : X.kind ≠ 0)
    (hw : ∀ j u, X.fs[j]? = some u → wdAt (putH h k x m w) (k + 1 + j) = u) (xa : X.at_ = (R.ob q).at_) (xt : X.takes = (R.ob q).takes) (xn : X.knows = (R.ob q).knows) (xi : X.kind = 5 → X.fs.length = 1) : Rel (putH h k x m w) (rem1 (R.setO q X) q at_ w) ∨ at_ ≠ k := by
  by_cases eat : at_ = k
  · subst eat
    refine .inl ?_
    have q2 := (List.getElem?_eq_some_iff.1 q3).1
    obtain ⟨k', h1, h2, h3, _⟩ := head_ne (by rw [headAt_of hk]; simp : headAt h.heads (k : Int) ≠ none)
    have hkl : k < h.heads.length := by omega
    have hmw : m < h.words.length := by have := c.sep.wf.obj k hk; have := c.sep.tk k hk; rw [c.sep.wf.len]; have o := c.sep.oy k hk; have o2 := c.sep.oa k hk; have o3 := c.sep.ob k hk; have := c.sep.wf.y; have := c.sep.wf.a; have := c.sep.wf.b; unfold rgOk at *; omega
    obtain ⟨p1, p2, p3, p4, p5⟩ := putK hkl x m w
    have hsp := c.sep.put hk hxt ⟨by omega, hf⟩ hmw w
    obtain ⟨n1, n2, n3, n4, n5, n6, _⟩ := note_len (⟨h.words.set m w, h.heads.set k x, h.y, h.a, h.b, h.use, h.rem⟩ : Hp) k w
    have hkn := (c.ob q.1 q1 _ (List.mem_of_getElem? q3))
    obtain ⟨k2, e2, _, t2, kn2⟩ := hkn
    obtain rfl : k2 = k := by omega
    have hgr := c.grey hb (k2 : Int)
    rw [rem1_is q2, show (R.setO q X).setO q (setKn X (decide (X.knows = true ∨ ((R.Y ≤ (k2 : Int) ∧ w.ptr = true) ∧ youngR (R.setO q X) w.n)))) = R.setO q (setKn X (decide (X.knows = true ∨ ((R.Y ≤ (k2 : Int) ∧ w.ptr = true) ∧ youngR (R.setO q X) w.n)))) by
      show RH.mk _ _ _ _ _ = RH.mk _ _ _ _ _
      congr 1
      funext p
      unfold RH.setO upd
      by_cases e : p = q.1
      · simp [e]
      · simp [e]]
    have hyg : youngR (R.setO q X) w.n ↔ youngR R w.n := by unfold youngR; rw [find_setO q3 xa]; exact Iff.rfl
    have hdec : decide (X.knows = true ∨ ((R.Y ≤ (k2 : Int) ∧ w.ptr = true) ∧ youngR (R.setO q X) w.n)) = decide (x.knows = true ∨ Go.Proofs.Ytglienidnffnjaa.grey h.y.end_ k2 w) := by
      refine decide_eq_decide.2 ?_
      rw [hyg, xn, hxn, kn2, ← hgr]
      exact Iff.rfl
    refine c.turn (X := setKn X _) q1 q3 ek hsp n3 n4 n5 n6 (by rw [show (putH h k2 x m w).heads.length = _ from n1]; exact List.length_set ..) (fun j hj => by rw [put_hd hkl, if_neg hj]) (fun j kd nf ws hj o => o.other c.sep hk hj hm hmw)
      ⟨hn, p1.trans hxk, p2.trans hxi, p3.trans hxf, hw⟩ (by rw [p4, hxt, t2]; exact xt.symm) (by rw [p5, hdec]; rfl) (c.rm.put hkl hxn m w) (fun hkk => ?_) xa xt xi
    rw [p5] at hkk
    rcases of_decide_eq_true hkk with h | h
    · exact (c.kp k2 (by rw [← hxn]; exact h)).2
    · have := h.1; have := c.sz.1; omega
  · exact .inr eat
theorem Rel.set (c : Rel h R) : (setH h at_ field w).1 = (setR R at_ field w).1 ∧ Rel (setH h at_ field w).2 (setR R at_ field w).2 := by
  unfold setH setR
  cases hf : findO R at_ with
  | none => rw [c.no hf]; exact ⟨rfl, c⟩
  | some q =>
    obtain ⟨k, ek, hk, o, t, kn, q1, q2, q3, q4⟩ := c.so hf
    rw [hk]
    simp only
    have hkk : (hdAt h k).kind ≠ 0 := by rw [o.kind]; exact o.ne
    have hfl := o.fields
    by_cases hc : (field < 0 ∨ ((R.ob q).fs.length : Int) ≤ field) ∨ badR R w
    · rw [if_pos hc, if_pos (by rw [hfl, ← c.bad]; exact hc)]; exact ⟨rfl, c⟩
    · rw [if_neg hc, if_neg (by rw [hfl, ← c.bad]; exact hc)]
      refine ⟨rfl, ?_⟩
      have h1 := not_or.1 hc
      have h2 := not_or.1 h1.1
      have tk := c.sep.tk k hkk
      have ho := c.sep.wf.obj k hkk
      rw [set_put (by omega) ek]
      have hmw : k + 1 + field.toNat < h.words.length := by rw [c.sep.wf.len]; omega
      refine (c.put (at_ := at_) (X := setFs (R.ob q) ((R.ob q).fs.set field.toNat w)) q1 q3 q4 hkk h1.2 o.kind o.info ?_ rfl rfl (by omega) ⟨by omega, by omega⟩ o.ne ?_ rfl rfl rfl ?_).resolve_right (fun e => e ek)
      · show _ = (((R.ob q).fs.set field.toNat w).length : Int); rw [List.length_set]; exact hfl
      · exact (o.set (w := w) (f := field.toNat) (by omega) hmw).words
      · show _ → ((R.ob q).fs.set field.toNat w).length = 1
        rw [List.length_set]
        exact c.g.ind q.1 q1 _ (List.mem_of_getElem? q3)
theorem Rel.link (c : Rel h R) (hd : Hdr) : (linkH h at_ w).1 = (linkR R at_ w hd).1 ∧ Rel (linkH h at_ w).2 (linkR R at_ w hd).2 := by
  unfold linkH linkR
  cases hf : findO R at_ with
  | none => rw [c.no hf]; exact ⟨rfl, c⟩
  | some q =>
    obtain ⟨k, ek, hk, o, t, kn, q1, q2, q3, q4⟩ := c.so hf
    rw [hk]
    simp only
    have hkk : (hdAt h k).kind ≠ 0 := by rw [o.kind]; exact o.ne
    by_cases hb : badR R w
    · rw [if_pos hb, if_pos (c.bad.1 hb)]; exact ⟨rfl, c⟩
    · rw [if_neg hb, if_neg (fun h => hb (c.bad.2 h))]
      by_cases hc : ¬ (R.ob q).kind = 3 ∧ ¬ (R.ob q).kind = 6
      · rw [if_pos hc, if_pos (by rw [o.kind]; exact hc)]; exact ⟨rfl, c⟩
      · rw [if_neg hc, if_neg (by rw [o.kind]; exact hc)]
        refine ⟨rfl, ?_⟩
        have tk := c.sep.tk k hkk
        have ho := c.sep.wf.obj k hkk
        have hmw : k + 1 < h.words.length := by rw [c.sep.wf.len]; omega
        rw [show (at_ + 1).toNat = k + 1 by omega, ek]
        refine (c.put (at_ := (k : Int)) (x := ⟨5, 0, 1, (hdAt h k).takes, (hdAt h k).knows⟩) (m := k + 1) (X := setOb (R.ob q) hd w) q1 q3 q4 hkk hb rfl rfl rfl rfl rfl tk.1 ⟨by omega, by omega⟩ (show (5 : Int) ≠ 0 by decide) (fun j u hj => ?_) rfl rfl rfl (fun _ => rfl)).resolve_right (fun e => e rfl)
        have hjl := (List.getElem?_eq_some_iff.1 hj).1
        have hj0 : j = 0 := by have : j < 1 := hjl; omega
        subst hj0
        have : u = w := by have : ([w] : List Wd)[0]? = some u := hj; simpa using this.symm
        rw [putWd _ hmw, if_pos rfl, this]
theorem Rel.hole (c : Rel h R) : (holeH h at_).1 = (holeR R at_).1 ∧ Rel (holeH h at_).2 (holeR R at_).2 := by
  unfold holeH holeR
  cases hf : findO R at_ with
  | none => rw [c.no hf]; exact ⟨rfl, c⟩
  | some q =>
    obtain ⟨k, ek, hk, o, t, kn, q1, q2, q3, q4⟩ := c.so hf
    rw [hk]
    simp only
    have hkk : (hdAt h k).kind ≠ 0 := by rw [o.kind]; exact o.ne
    have hkl := (head_some hk).2.1
    by_cases hc : ¬ (R.ob q).kind = 3
    · rw [if_pos hc, if_pos (by rw [o.kind]; exact hc)]; exact ⟨rfl, c⟩
    · rw [if_neg hc, if_neg (by rw [o.kind]; exact hc)]
      refine ⟨rfl, ?_⟩
      have hd := fun j => hdAt_set h h.words h.y h.a h.b h.use h.rem k j ⟨6, (hdAt h k).info, (hdAt h k).fields, (hdAt h k).takes, (hdAt h k).knows⟩
      have hoth : ∀ j, j ≠ k → hdAt ⟨h.words, h.heads.set k ⟨6, (hdAt h k).info, (hdAt h k).fields, (hdAt h k).takes, (hdAt h k).knows⟩, h.y, h.a, h.b, h.use, h.rem⟩ j = hdAt h j := fun j hj => by rw [hd j, if_neg (fun e => hj e.1)]
      have hk2 : hdAt ⟨h.words, h.heads.set k ⟨6, (hdAt h k).info, (hdAt h k).fields, (hdAt h k).takes, (hdAt h k).knows⟩, h.y, h.a, h.b, h.use, h.rem⟩ k = ⟨6, (hdAt h k).info, (hdAt h k).fields, (hdAt h k).takes, (hdAt h k).knows⟩ := by rw [hd k, if_pos ⟨rfl, hkl⟩]
      have hob := c.sep.wf.obj k hkk
      have tk := c.sep.tk k hkk
      refine c.turn (X := setKd (R.ob q) 6) q1 q3 q4 (c.sep.same (c.sep.wf.turn hkl _ rfl _ hob) rfl rfl rfl fun j => ?_) rfl rfl rfl rfl (List.length_set ..) hoth (fun j kd nf ws hj oj => ⟨oj.ne, by rw [hoth j hj]; exact oj.kind, by rw [hoth j hj]; exact oj.info, by rw [hoth j hj]; exact oj.fields, oj.words⟩)
        ⟨(show (6 : Int) ≠ 0 by decide), by rw [hk2]; rfl, by rw [hk2]; exact o.info, by rw [hk2]; exact o.fields, o.words⟩ (by rw [hk2]; exact t) (by rw [hk2]; exact kn) (c.rm.same rfl fun j => ?_) (fun hkk2 => ?_) rfl rfl (fun h6 => absurd (show (6 : Int) = 5 from h6) (by decide))
      · by_cases e : j = k
        · subst e; rw [hk2]; exact ⟨fun _ => hkk, rfl, fun _ => ⟨tk.2.1, tk.2.2⟩⟩
        · rw [hoth j e]; exact ⟨fun h => h, rfl, fun h => ⟨(c.sep.tk j h).2.1, (c.sep.tk j h).2.2⟩⟩
      · by_cases e : j = k
        · subst e; rw [hk2]
        · rw [hoth j e]
      · rw [hk2] at hkk2; exact (c.kp k hkk2).2
end
end Go.Proofs.Ytglienidnffnjaa
namespace Go.Proofs.Ytglienidnffnjaa
open Go
section
variable {h : Hp} {R : RH} {k : Nat} {kind info : Int} {fs : List Wd} {q : Hdr} {v : Value}
theorem rg_layF (hk : k < 3) (p : Nat) (hp : p < 3) : ((layF h k kind info fs).rg p).next = if p = k then (h.rg k).next + takesF fs else (h.rg p).next := by
  obtain ⟨g1, g2, g3, g4, g5⟩ := lay_rg h k kind info fs
  rcases lt3 hp with rfl | rfl | rfl
  · show (layF h k kind info fs).y.next = _
    rw [g3]
    by_cases e : k = 0
    · subst e; rfl
    · rw [if_neg e, if_neg (fun h => e h.symm)]; rfl
  · show (layF h k kind info fs).a.next = _
    rw [g4]
    by_cases e : k = 1
    · subst e; rfl
    · rw [if_neg e, if_neg (fun h => e h.symm)]; rfl
  · show (layF h k kind info fs).b.next = _
    rw [g5]
    by_cases e : k = 2
    · subst e; rfl
    · rw [if_neg (by omega), if_neg (fun h => e h.symm)]; rfl
theorem used_put {l : List RO} {x : RO} {p : Nat} : usedR (R.putP k (l ++ [x]) v) p = if p = k then x.at_ + x.takes - begR R k else usedR R p := by
  by_cases e : p = k
  · subst e
    rw [if_pos rfl]
    have e1 : (R.putP p (l ++ [x]) v).p p = l ++ [x] := upd_at
    unfold usedR lastR
    rw [e1, if_neg (by simp)]
    have : (l ++ [x]).getD ((l ++ [x]).length - 1) ro0 = x := by simp
    rw [this]
    rfl
  · rw [if_neg e]
    have e1 : (R.putP k (l ++ [x]) v).p p = R.p p := upd_ne e
    unfold usedR lastR
    rw [e1]; rfl
theorem Rel.lay (c : Rel h R) (hk : k < 3) : (layH h k kind info fs).1 = (layR R k kind info fs q v).1 ∧ Rel (layH h k kind info fs).2 (layR R k kind info fs q v).2 := by
  by_cases hb : argsBad kind info fs
  · rw [lay_1 hb]; unfold layR; rw [if_pos hb]; exact ⟨rfl, c⟩
  by_cases hr' : ¬ realF h.heads fs = true
  · rw [lay_2 hb hr', lay_e1 hb (by rw [c.real]; simpa using hr')]; exact ⟨rfl, c⟩
  have hr : realF h.heads fs = true := Classical.not_not.1 hr'
  obtain ⟨r1, r2⟩ := c.rg hk
  have n1 := c.nx k hk
  by_cases hc : (h.rg k).end_ - (h.rg k).next < takesF fs
  · rw [lay_3 hb (not_not_intro hr) hc, lay_e2 hb (by rw [c.real]; exact hr) (by omega)]; exact ⟨rfl, c⟩
  rw [lay_4 hb (not_not_intro hr) hc, lay_e3 hb (by rw [c.real]; exact hr) (by omega)]
  refine ⟨by show ((h.rg k).next, (0 : Int)) = _; rw [n1], ?_⟩
  show Rel (layF h k kind info fs) _
  obtain ⟨enx, hfit, hsepd, hk0⟩ := c.sep.fit (by omega) hc
  have hkind : kind ≠ 0 := fun e => hb (.inl (.inl (.inl (.inl (.inl (by omega))))))
  obtain ⟨t1, t2, t3⟩ := takes_ge fs
  have hfl : fs.length ≤ 1000 := by have := (not_or.1 (not_or.1 hb).1).2; omega
  have hug := used_rng c.g hk
  have hbg := beg_rng c.g hk
  obtain ⟨g1, g2, g3, g4, g5⟩ := lay_rg h k kind info fs
  have hs2 := c.sep.lay (kind := kind) (info := info) (by omega) hc
  have hd := fun j => lay_hd (kind := kind) (info := info) c.sep (by omega) hc j
  have hx : (newO R k kind info fs q).at_ = (h.nx k : Int) := by show begR R k + usedR R k = _; omega
  have hknow : knR R k fs = decide (∃ w ∈ fs, Go.Proofs.Ytglienidnffnjaa.grey h.y.end_ (h.rg k).next w) := by
    rw [Bool.eq_iff_iff, decide_eq_true_iff]
    unfold knR
    rw [List.any_eq_true]
    have key : ∀ w ∈ fs, (decide (knW R k w) = true ↔ Go.Proofs.Ytglienidnffnjaa.grey h.y.end_ (h.rg k).next w) := fun w hw => by
      have hbw : ¬ badR R w := fun hbad => by
        have := List.all_eq_true.1 hr w hw
        exact of_decide_eq_true this (c.bad.1 hbad)
      rw [decide_eq_true_iff, ← c.grey hbw]
      unfold knW greyR
      have : (0 : Int) < (k : Int) ↔ R.Y ≤ (h.rg k).next := by
        have s1 := c.sz.1
        have e0 : begR R 0 + sizR R 0 = R.Y := by unfold begR sizR; simp
        have e1 : begR R 1 = R.Y := by unfold begR; simp
        have e2 : begR R 2 = R.Y + R.O := by unfold begR; simp
        have := c.g.o
        rcases lt3 hk with rfl | rfl | rfl
        · simp only [Int.natCast_zero, Int.lt_irrefl, false_iff]; omega
        · simp; omega
        · simp; omega
      rw [this]
    constructor
    · rintro ⟨w, hw, hh⟩; exact ⟨w, hw, (key w hw).1 hh⟩
    · rintro ⟨w, hw, hh⟩; exact ⟨w, hw, (key w hw).2 hh⟩
  have hget : ∀ p, p < 3 → ∀ (i : Nat) u, ((R.putP k (R.p k ++ [newO R k kind info fs q]) v).p p)[i]? = some u → (R.p p)[i]? = some u ∨ (p = k ∧ i = (R.p k).length ∧ u = newO R k kind info fs q) := fun p _ i u hu => by
    by_cases e : p = k
    · subst e
      rw [show (R.putP p (R.p p ++ [newO R p kind info fs q]) v).p p = R.p p ++ [newO R p kind info fs q] from upd_at] at hu
      by_cases hi : i < (R.p p).length
      · rw [List.getElem?_append_left hi] at hu; exact .inl hu
      · rw [List.getElem?_append_right (by omega)] at hu
        have hl := (List.getElem?_eq_some_iff.1 hu).1
        have hi2 : i - (R.p p).length = 0 := by have : i - (R.p p).length < 1 := hl; omega
        rw [hi2] at hu
        exact .inr ⟨rfl, by omega, by simpa using hu.symm⟩
    · rw [show (R.putP k (R.p k ++ [newO R k kind info fs q]) v).p p = R.p p from upd_ne e] at hu; exact .inl hu
  have hmem : ∀ p, p < 3 → ∀ u ∈ (R.putP k (R.p k ++ [newO R k kind info fs q]) v).p p, u ∈ R.p p ∨ (p = k ∧ u = newO R k kind info fs q) := fun p hp u hu => by
    obtain ⟨i, hi⟩ := List.getElem?_of_mem hu
    rcases hget p hp i u hi with h1 | ⟨h1, _, h3⟩
    · exact .inl (List.mem_of_getElem? h1)
    · exact .inr ⟨h1, h3⟩
  have hlast : ∀ x ∈ R.p k, x.at_ + x.takes ≤ begR R k + usedR R k := fun x hx => by
    obtain ⟨i, hi⟩ := List.getElem?_of_mem hx
    have hl := (List.getElem?_eq_some_iff.1 hi).1
    have hla := last_at (R := R) (p := k) (by omega)
    have hu : usedR R k = (lastR R k).at_ + (lastR R k).takes - begR R k := if_neg (by omega)
    by_cases e : i = (R.p k).length - 1
    · subst e; rw [hi] at hla; cases hla; omega
    · have := c.g.srt k hk i _ x _ (by omega) hi hla
      have := (c.g.rng k hk _ (List.mem_of_getElem? hla)).2.2.1
      omega
  have hlen : (R.p k).length ≤ 1048575 := by
    have h1 : ∀ (n i : Nat) x, i = n → (R.p k)[i]? = some x → begR R k + 2 * (i : Int) ≤ x.at_ := fun n => by
      induction n with
      | zero => intro i x hi h; subst hi; have := (c.g.rng k hk x (List.mem_of_getElem? h)).1; omega
      | succ n ih =>
        intro i x hi h
        subst hi
        obtain ⟨y, hy⟩ := get_ex (l := R.p k) (i := n) (by have := (List.getElem?_eq_some_iff.1 h).1; omega)
        have a1 := ih n y rfl hy
        have a2 := c.g.srt k hk n (n + 1) y x (by omega) hy h
        have a3 := (c.g.rng k hk y (List.mem_of_getElem? hy)).2.2.1
        omega
    have sz := siz_rng c.g k
    by_cases e : (R.p k).length = 0
    · omega
    · have hla := last_at (R := R) (p := k) (by omega)
      have a1 := h1 _ _ _ rfl hla
      have a2 := (c.g.rng k hk _ (List.mem_of_getElem? hla)).2.1
      have a3 := (c.g.rng k hk _ (List.mem_of_getElem? hla)).2.2.1
      omega
  have hrm0 : RmI (laidH h k kind info fs) := by
    refine c.rm.same (laid_len h k kind info fs).2 fun j => ?_
    rw [laid_head]
    split
    · rename_i e
      have : (hdAt h j).kind = 0 := by rw [e.1]; exact hk0
      cases hj : (hdAt h j).knows with
      | false => rfl
      | true => exact absurd this (c.kp j hj).1
    · rfl
  have hl3 : (h.rg k).next.toNat < (laidH h k kind info fs).heads.length := by
    rw [(laid_len h k kind info fs).1]; show h.nx k < _; omega
  refine ⟨hs2, ⟨fun p hp i j x y hij hx' hy' => ?_, fun p hp => ?_, c.g.y, c.g.o, c.g.use, fun p hp u hu => ?_, fun p hp u hu h5 => ?_⟩, ?_, by rw [g2]; exact c.use, fun p hp => ?_, fun p hp u hu => ?_, fun j hj => ?_, RmI.notes (by omega) fs hrm0 hl3, fun j hj => ?_⟩
  · rcases hget p hp i x hx' with h1 | ⟨rfl, h1, rfl⟩
    · rcases hget p hp j y hy' with h2 | ⟨rfl, h2, rfl⟩
      · exact c.g.srt p hp i j x y hij h1 h2
      · have := hlast x (List.mem_of_getElem? h1)
        show _ ≤ begR R p + usedR R p; omega
    · rcases hget p hp j y hy' with h2 | ⟨_, h2, rfl⟩
      · have := (List.getElem?_eq_some_iff.1 h2).1; omega
      · omega
  · by_cases e : p = k
    · subst e
      rw [show (R.putP p (R.p p ++ [newO R p kind info fs q]) v).p p = R.p p ++ [newO R p kind info fs q] from upd_at, List.length_append]
      show _ + 1 ≤ _; omega
    · rw [show (R.putP k (R.p k ++ [newO R k kind info fs q]) v).p p = R.p p from upd_ne e]; exact c.g.len p hp
  · rcases hmem p hp u hu with h1 | ⟨rfl, rfl⟩
    · exact c.g.rng p hp u h1
    · show begR R p ≤ begR R p + usedR R p ∧ begR R p + usedR R p + takesF fs ≤ begR R p + sizR R p ∧ 2 ≤ takesF fs ∧ takesF fs ≤ 1002
      omega
  · rcases hmem p hp u hu with h1 | ⟨rfl, rfl⟩
    · exact c.g.ind p hp u h1 h5
    · have h5 : kind = 5 := h5
      show fs.length = 1
      apply Classical.byContradiction
      intro hne
      exact hb (.inr ⟨h5, by omega⟩)
  · obtain ⟨s1, s2, s3, s4⟩ := c.sz
    refine ⟨?_, ?_, ?_, by rw [g1]; exact s4⟩
    · rw [g3]; split <;> exact s1
    · rw [g4]; split <;> exact s2
    · rw [g5]; split <;> exact s3
  · rw [rg_layF hk p hp, used_put]
    split
    · rename_i e; subst e
      show _ = begR R p + (begR R p + usedR R p + takesF fs - begR R p)
      omega
    · exact c.nx p hp
  · rcases hmem p hp u hu with h1 | ⟨rfl, rfl⟩
    · obtain ⟨j, ej, oj, tj, kj⟩ := c.ob p hp u h1
      have hne : j ≠ h.nx k := fun e => by
        have := oj.kind; rw [e, hk0] at this; exact oj.ne this.symm
      exact ⟨j, ej, oj.lay c.sep (by omega) hc, by rw [hd j, if_neg hne]; exact tj, by rw [hd j, if_neg hne]; exact kj⟩
    · exact ⟨h.nx p, hx, obj_new c.sep hkind (by omega) hc, by rw [hd, if_pos rfl]; rfl, by rw [hd, if_pos rfl]; exact hknow.symm⟩
  · rw [hd j] at hj
    split at hj
    · rename_i e
      exact ⟨k, hk, newO R k kind info fs q, by rw [show (R.putP k (R.p k ++ [newO R k kind info fs q]) v).p k = _ from upd_at]; simp, by rw [hx, e]⟩
    · obtain ⟨p, hp, x, hx', ex⟩ := c.nh j hj
      refine ⟨p, hp, x, ?_, ex⟩
      by_cases e : p = k
      · subst e
        rw [show (R.putP p (R.p p ++ [newO R p kind info fs q]) v).p p = _ from upd_at]
        exact List.mem_append_left _ hx'
      · rw [show (R.putP k (R.p k ++ [newO R k kind info fs q]) v).p p = R.p p from upd_ne e]; exact hx'
  · rw [hd j] at hj ⊢
    split at hj
    · rename_i e
      rw [if_pos e]
      refine ⟨hkind, ?_⟩
      obtain ⟨w, _, hg⟩ := of_decide_eq_true hj
      have := hg.1
      have := c.sz.1
      show R.Y ≤ _; omega
    · rename_i e
      rw [if_neg e]
      exact c.kp j hj
end
end Go.Proofs.Ytglienidnffnjaa
namespace Go.Proofs.Ytglienidnffnjaa
open Go
/-- all but what is remembered -/
structure Rel0 (h : Hp) (R : RH) : Prop where
  sep : Sep h
  g : RG R
  sz : h.y.end_ = R.Y ∧ h.a.end_ = R.Y + R.O ∧ h.b.end_ = R.Y + 2 * R.O ∧ (h.heads.length : Int) = R.Y + 2 * R.O
  use : R.use = 1 + h.use
  nx : ∀ p, p < 3 → (h.rg p).next = begR R p + usedR R p
  ob : ∀ p, p < 3 → ∀ x ∈ R.p p, ∃ k : Nat, x.at_ = k ∧ ObjAt h k x.kind x.info x.fs ∧ (hdAt h k).takes = x.takes ∧ (hdAt h k).knows = x.knows
  nh : ∀ k : Nat, (hdAt h k).kind ≠ 0 → ∃ p, p < 3 ∧ ∃ x ∈ R.p p, x.at_ = k
  kp : ∀ k : Nat, (hdAt h k).knows = true → (hdAt h k).kind ≠ 0 ∧ R.Y ≤ k
section
variable {h : Hp} {R : RH} {k p : Nat} {v : Value}
theorem Rel0.rel (c : Rel0 h R) (r : RmI h) : Rel h R := ⟨c.sep, c.g, c.sz, c.use, c.nx, c.ob, c.nh, r, c.kp⟩
theorem RG.last (g : RG R) (hk : k < 3) : ∀ x ∈ R.p k, x.at_ + x.takes ≤ begR R k + usedR R k := fun x hx => by
  obtain ⟨i, hi⟩ := List.getElem?_of_mem hx
  have hl := (List.getElem?_eq_some_iff.1 hi).1
  have hla := last_at (R := R) (p := k) (by omega)
  have hu : usedR R k = (lastR R k).at_ + (lastR R k).takes - begR R k := if_neg (by omega)
  by_cases e : i = (R.p k).length - 1
  · subst e; rw [hi] at hla; cases hla; omega
  · have := g.srt k hk i _ x _ (by omega) hi hla
    have := (g.rng k hk _ (List.mem_of_getElem? hla)).2.2.1
    omega
theorem used_nil (p : Nat) : usedR (R.putP k [] v) p = if p = k then 0 else usedR R p := by
  by_cases e : p = k
  · subst e
    rw [if_pos rfl]
    exact if_pos (by rw [show (R.putP p [] v).p p = [] from upd_at]; rfl)
  · rw [if_neg e]
    have e1 : (R.putP k [] v).p p = R.p p := upd_ne e
    unfold usedR lastR
    rw [e1]; rfl
theorem rg_empty (hk : k < 3) (p : Nat) (hp : p < 3) : ((emptyH h k).rg p).next = if p = k then (h.rg k).first else (h.rg p).next := by
  rcases lt3 hk with rfl | rfl | rfl <;> rcases lt3 hp with rfl | rfl | rfl <;> rfl
theorem Sep.empty (hs : Sep h) (hk : k < 3) : Sep (emptyH h k) := by
  have hw := hs.wf.empty k (by omega)
  have hd := empty_at h hs.wf k
  have old : ∀ j, (hdAt (emptyH h k) j).kind ≠ 0 → ¬ ((h.rg k).first.toNat ≤ j ∧ j < (h.rg k).next.toNat) ∧ hdAt (emptyH h k) j = hdAt h j := fun j hj => by
    rw [hd] at hj ⊢
    split at hj
    · exact absurd rfl hj
    · rename_i e; exact ⟨e, if_neg e⟩
  obtain ⟨r1, r2, r3, r4⟩ := hs.wf.rg k
  have y0 := hs.y0; have a0 := hs.a0; have b0 := hs.b0
  have wy := hs.wf.y; have wa := hs.wf.a; have wb := hs.wf.b
  unfold rgOk at wy wa wb
  refine ⟨hw, ?_, ?_, ?_, fun j hj => ?_, fun j hj he => ?_, fun j hj h1 h2 => ?_, fun j hj h1 => ?_, fun i j hij hi hj => ?_⟩
  · rcases lt3 hk with rfl | rfl | rfl <;> exact y0
  · rcases lt3 hk with rfl | rfl | rfl <;> exact a0
  · rcases lt3 hk with rfl | rfl | rfl <;> exact b0
  · obtain ⟨e1, e2⟩ := old j hj
    rw [e2] at hj ⊢; exact hs.tk j hj
  · obtain ⟨e1, e2⟩ := old j hj
    rw [e2] at hj ⊢
    have tk := hs.tk j hj
    rcases lt3 hk with rfl | rfl | rfl
    · have h3 := hs.oy j hj he
      have e1 : ¬ (h.y.first.toNat ≤ j ∧ j < h.y.next.toNat) := e1
      omega
    · exact hs.oy j hj he
    · exact hs.oy j hj he
  · obtain ⟨e1, e2⟩ := old j hj
    rw [e2] at hj ⊢
    have tk := hs.tk j hj
    rcases lt3 hk with rfl | rfl | rfl
    · exact hs.oa j hj h1 h2
    · have h3 := hs.oa j hj h1 h2
      have e1 : ¬ (h.a.first.toNat ≤ j ∧ j < h.a.next.toNat) := e1
      have h1 : h.y.end_ ≤ (j : Int) := h1
      omega
    · exact hs.oa j hj h1 h2
  · obtain ⟨e1, e2⟩ := old j hj
    rw [e2] at hj ⊢
    have tk := hs.tk j hj
    rcases lt3 hk with rfl | rfl | rfl
    · exact hs.ob j hj h1
    · exact hs.ob j hj h1
    · have h3 := hs.ob j hj h1
      have e1 : ¬ (h.b.first.toNat ≤ j ∧ j < h.b.next.toNat) := e1
      have h1 : h.a.end_ ≤ (j : Int) := h1
      omega
  · obtain ⟨_, e2⟩ := old i hi
    obtain ⟨_, e3⟩ := old j hj
    rw [e2] at hi ⊢
    rw [e3] at hj
    exact hs.ap i j hij hi hj
theorem Rel.empty (c : Rel h R) (hk : k < 3) : Rel0 (emptyH h k) (R.putP k [] v) := by
  have hs := c.sep.empty hk
  have hd := empty_at h c.sep.wf k
  obtain ⟨r1, r2⟩ := c.rg hk
  have n1 := c.nx k hk
  have hug := used_rng c.g hk
  have hbg := beg_rng c.g hk
  have hin : ∀ p, p < 3 → p ≠ k → (R.putP k [] v).p p = R.p p := fun p _ e => upd_ne e
  have hself : (R.putP k [] v).p k = [] := upd_at
  have hmem : ∀ p, p < 3 → ∀ x ∈ (R.putP k [] v).p p, p ≠ k ∧ x ∈ R.p p := fun p hp x hx => by
    by_cases e : p = k
    · subst e; rw [hself] at hx; cases hx
    · rw [hin p hp e] at hx; exact ⟨e, hx⟩
  refine ⟨hs, ⟨fun p hp i j x y hij hx hy => ?_, fun p hp => ?_, c.g.y, c.g.o, c.g.use, fun p hp x hx => c.g.rng p hp x (hmem p hp x hx).2, fun p hp x hx => c.g.ind p hp x (hmem p hp x hx).2⟩, ?_, c.use, fun p hp => ?_, fun p hp x hx => ?_, fun j hj => ?_, fun j hj => ?_⟩
  · have e := (hmem p hp x (List.mem_of_getElem? hx)).1
    rw [hin p hp e] at hx hy
    exact c.g.srt p hp i j x y hij hx hy
  · by_cases e : p = k
    · subst e; rw [hself]; simp
    · rw [hin p hp e]; exact c.g.len p hp
  · obtain ⟨s1, s2, s3, s4⟩ := c.sz
    refine ⟨?_, ?_, ?_, by rw [empty_len h c.sep.wf k]; exact s4⟩
    · rcases lt3 hk with rfl | rfl | rfl <;> exact s1
    · rcases lt3 hk with rfl | rfl | rfl <;> exact s2
    · rcases lt3 hk with rfl | rfl | rfl <;> exact s3
  · rw [rg_empty hk p hp, used_nil]
    show _ = begR R p + _
    split
    · rename_i e; subst e; omega
    · exact c.nx p hp
  · obtain ⟨hne, hx⟩ := hmem p hp x hx
    obtain ⟨j, ej, oj, tj, kj⟩ := c.ob p hp x hx
    have hrx := c.g.rng p hp x hx
    have hout : ¬ ((h.rg k).first.toNat ≤ j ∧ j < (h.rg k).next.toNat) := fun ⟨a1, a2⟩ => by
      have h1 : begR R k ≤ x.at_ := by omega
      have h2 : x.at_ < begR R k + sizR R k := by omega
      have go := c.g.o; have gy := c.g.y
      unfold begR at h1 h2 hrx
      unfold sizR at h2 hrx
      rcases lt3 hk with rfl | rfl | rfl <;> rcases lt3 hp with rfl | rfl | rfl <;> simp at h1 h2 hrx hne <;> omega
    have e : hdAt (emptyH h k) j = hdAt h j := by rw [hd, if_neg hout]
    exact ⟨j, ej, ⟨oj.ne, by rw [e]; exact oj.kind, by rw [e]; exact oj.info, by rw [e]; exact oj.fields, oj.words⟩, by rw [e]; exact tj, by rw [e]; exact kj⟩
  · rw [hd] at hj
    split at hj
    · exact absurd rfl hj
    · rename_i hout
      obtain ⟨p, hp, x, hx, ex⟩ := c.nh j hj
      have hne : p ≠ k := fun e => by
        subst e
        have a1 := c.g.rng p hp x hx
        have a2 := c.g.last hp x hx
        omega
      exact ⟨p, hp, x, by rw [hin p hp hne]; exact hx, ex⟩
  · rw [hd] at hj ⊢
    split at hj
    · cases hj
    · rename_i hout; rw [if_neg hout]; exact c.kp j hj
theorem Rel.flip (c : Rel h R) : Rel (flipH h) (flipR R) := by
  have hu := c.use; have hw := c.sep.wf.use
  refine ⟨⟨c.sep.wf.flip, c.sep.y0, c.sep.a0, c.sep.b0, c.sep.tk, c.sep.oy, c.sep.oa, c.sep.ob, c.sep.ap⟩, ⟨c.g.srt, c.g.len, c.g.y, c.g.o, ?_, c.g.rng, c.g.ind⟩, c.sz, ?_, c.nx, fun p hp x hx => ?_, c.nh, c.rm, c.kp⟩
  · show 3 - R.use = 1 ∨ 3 - R.use = 2; omega
  · show 3 - R.use = 1 + (1 - h.use); omega
  · obtain ⟨j, e, o, t, kn⟩ := c.ob p hp x hx
    exact ⟨j, e, ⟨o.ne, o.kind, o.info, o.fields, o.words⟩, t, kn⟩
theorem Rel.drop (c : Rel h R) : Rel (dropH h) (dropR R) := by
  have hu := use_rng c.g
  have hw := c.sep.wf.use
  have e : 1 + (1 - h.use) = 3 - R.use := by have := c.use; omega
  unfold dropH dropR
  rw [e]
  have c1 := c.empty (v := nilV) hu.2.1
  have hd := empty_at h c.sep.wf (3 - R.use)
  have hsub : ∀ a ∈ keptF (emptyH h (3 - R.use)), a ∈ h.rem := fun a ha => (List.mem_filter.1 ha).1
  have w1 := c1.sep.wf
  have hwf : Wf ((emptyH h (3 - R.use)).setRem (keptF (emptyH h (3 - R.use)))) := ⟨w1.len, w1.le, w1.use, w1.y, w1.a, w1.b, w1.obj, fun x hx => w1.rem x (hsub x hx)⟩
  have s1 := c1.sep
  refine ⟨⟨hwf, s1.y0, s1.a0, s1.b0, s1.tk, s1.oy, s1.oa, s1.ob, s1.ap⟩, c1.g, c1.sz, c1.use, c1.nx, fun p hp x hx => ?_, c1.nh, ⟨fun a => ?_, ?_⟩, c1.kp⟩
  · obtain ⟨j, e, o, t, kn⟩ := c1.ob p hp x hx
    exact ⟨j, e, ⟨o.ne, o.kind, o.info, o.fields, o.words⟩, t, kn⟩
  · show a ∈ keptF _ ↔ ∃ k : Nat, a = k ∧ (hdAt (emptyH h (3 - R.use)) k).knows = true
    unfold keptF
    rw [List.mem_filter]
    show a ∈ h.rem ∧ _ ↔ _
    rw [c.rm.1 a]
    constructor
    · rintro ⟨⟨k, rfl, hk⟩, hn⟩
      have hn := of_decide_eq_true hn
      obtain ⟨k', _, ek, _, hk0⟩ := head_ne hn
      obtain rfl : k = k' := by omega
      refine ⟨k, rfl, ?_⟩
      have hk0 : (hdAt (emptyH h (3 - R.use)) k).kind ≠ 0 := hk0
      rw [hd] at hk0 ⊢
      split at hk0
      · exact absurd rfl hk0
      · rename_i ho; rw [if_neg ho]; exact hk
    · rintro ⟨k, rfl, hk⟩
      have h0 := (c1.kp k hk).1
      refine ⟨⟨k, rfl, ?_⟩, decide_eq_true (by rw [headAt_of h0]; simp)⟩
      rw [hd] at hk
      split at hk
      · cases hk
      · exact hk
  · exact List.Nodup.sublist List.filter_sublist c.rm.2
theorem unknow_hd : ∀ (rs : List Int) (hs : List Hd) (k : Nat), (∀ r ∈ rs, 0 ≤ r) → (unknowF hs rs).getD k hd0 = if (k : Int) ∈ rs then setK (hs.getD k hd0) false else hs.getD k hd0
  | [], hs, k, _ => by rw [if_neg (by simp)]; rfl
  | r :: rs, hs, k, h0 => by
    show (unknowF (hs.set r.toNat (setK (hs.getD r.toNat hd0) false)) rs).getD k hd0 = _
    have hr := h0 r (by simp)
    rw [unknow_hd rs _ k (fun x hx => h0 x (by simp [hx]))]
    by_cases e : r.toNat = k
    · subst e
      have e1 : (hs.set r.toNat (setK (hs.getD r.toNat hd0) false)).getD r.toNat hd0 = setK (hs.getD r.toNat hd0) false := by
        by_cases hl : r.toNat < hs.length
        · exact getD_set_self hl
        · rw [List.set_eq_of_length_le (by omega), getD_out (by omega)]; rfl
      rw [e1, if_pos (show ((r.toNat : Nat) : Int) ∈ r :: rs by rw [show ((r.toNat : Nat) : Int) = r by omega]; simp)]
      split
      · rfl
      · rfl
    · rw [getD_set_ne' e]
      have : ((k : Int) ∈ r :: rs) ↔ (k : Int) ∈ rs := by
        rw [List.mem_cons]
        constructor
        · rintro (h | h)
          · omega
          · exact h
        · exact .inr
      by_cases hm : (k : Int) ∈ rs
      · rw [if_pos hm, if_pos (this.2 hm)]
      · rw [if_neg hm, if_neg (fun h => hm (this.1 h))]
theorem unkn_at {l : List RO} {i : Nat} {x : RO} (h : (unkn l)[i]? = some x) : ∃ y, l[i]? = some y ∧ x = setKn y false := by
  unfold unkn at h
  rw [List.getElem?_map] at h
  obtain ⟨y, h1, h2⟩ := Option.map_eq_some_iff.1 h
  exact ⟨y, h1, h2.symm⟩
theorem Rel.clear (c : Rel h R) : Rel (clearH h) (clearR R) := by
  have c1 := c.empty (k := 0) (v := nilV) (by omega)
  have hrem0 : ∀ r ∈ h.rem, 0 ≤ r := fun r hr => by obtain ⟨k, rfl, _⟩ := (c.rm.1 r).1 hr; omega
  have hd1 := empty_at h c.sep.wf 0
  have hd : ∀ k, hdAt (clearH h) k = setK (hdAt (emptyH h 0) k) false := fun k => by
    show (unknowF (emptyH h 0).heads h.rem).getD k hd0 = _
    rw [unknow_hd h.rem _ k hrem0]
    split
    · rfl
    · rename_i hn
      have : (hdAt (emptyH h 0) k).knows = false := by
        rw [hd1]
        split
        · rfl
        · cases hk : (hdAt h k).knows with
          | false => rfl
          | true => exact absurd ((c.rm.1 k).2 ⟨k, rfl, hk⟩) hn
      show hdAt (emptyH h 0) k = _
      generalize hdAt (emptyH h 0) k = x at this
      cases x
      simp only at this
      subst this
      rfl
  have hp : ∀ p, p < 3 → (clearR R).p p = unkn ((R.putP 0 [] nilV).p p) := fun p hp3 => by
    show (if p = 0 then _ else if p < 3 then _ else _) = unkn (upd R.p 0 [] p)
    unfold upd
    by_cases e : p = 0
    · rw [if_pos e, if_pos e]; rfl
    · rw [if_neg e, if_neg e, if_pos hp3]
  have hused : ∀ p, p < 3 → usedR (clearR R) p = usedR (R.putP 0 [] nilV) p := fun p hp3 => by
    have hl : ((clearR R).p p).length = ((R.putP 0 [] nilV).p p).length := by rw [hp p hp3]; exact List.length_map ..
    unfold usedR
    rw [hl]
    split
    · rfl
    · rename_i h0
      obtain ⟨x, hx⟩ := get_ex (l := (clearR R).p p) (i := ((R.putP 0 [] nilV).p p).length - 1) (by omega)
      have hx2 := hx
      rw [hp p hp3] at hx
      obtain ⟨y, hy, rfl⟩ := unkn_at hx
      have e1 : lastR (clearR R) p = setKn y false := by unfold lastR; rw [hl, List.getD_eq_getElem?_getD, hx2]; rfl
      have e2 : lastR (R.putP 0 [] nilV) p = y := by unfold lastR; rw [List.getD_eq_getElem?_getD, hy]; rfl
      rw [e1, e2]; rfl
  have hmem : ∀ p, p < 3 → ∀ x ∈ (clearR R).p p, ∃ y ∈ (R.putP 0 [] nilV).p p, x = setKn y false := fun p hp3 x hx => by
    rw [hp p hp3] at hx
    obtain ⟨y, hy, e⟩ := List.mem_map.1 hx
    exact ⟨y, hy, e.symm⟩
  have hlen : (clearH h).heads.length = (emptyH h 0).heads.length := unknow_len h.rem _
  have hwf := c.sep.wf.clear
  refine ⟨c1.sep.same hwf rfl rfl rfl fun k => ?_, ⟨fun p hp3 i j x y hij hx hy => ?_, fun p hp3 => ?_, c.g.y, c.g.o, c.g.use, fun p hp3 x hx => ?_, fun p hp3 x hx => ?_⟩, ?_, c1.use, fun p hp3 => ?_, fun p hp3 x hx => ?_, fun k hk => ?_, ⟨fun a => ?_, List.nodup_nil⟩, fun k hk => ?_⟩
  · rw [hd]; exact ⟨fun h => h, rfl, fun h => (c1.sep.tk k h).2⟩
  · rw [hp p hp3] at hx hy
    obtain ⟨x', hx', rfl⟩ := unkn_at hx
    obtain ⟨y', hy', rfl⟩ := unkn_at hy
    exact c1.g.srt p hp3 i j x' y' hij hx' hy'
  · rw [hp p hp3, unkn, List.length_map]; exact c1.g.len p hp3
  · obtain ⟨y, hy, rfl⟩ := hmem p hp3 x hx
    exact c1.g.rng p hp3 y hy
  · obtain ⟨y, hy, rfl⟩ := hmem p hp3 x hx
    exact c1.g.ind p hp3 y hy
  · obtain ⟨s1, s2, s3, s4⟩ := c1.sz
    exact ⟨s1, s2, s3, by rw [hlen]; exact s4⟩
  · rw [hused p hp3]
    have := c1.nx p hp3
    rcases lt3 hp3 with rfl | rfl | rfl <;> exact this
  · obtain ⟨y, hy, rfl⟩ := hmem p hp3 x hx
    obtain ⟨j, e, o, t, kn⟩ := c1.ob p hp3 y hy
    exact ⟨j, e, ⟨o.ne, by rw [hd]; exact o.kind, by rw [hd]; exact o.info, by rw [hd]; exact o.fields, o.words⟩, by rw [hd]; exact t, by rw [hd]; rfl⟩
  · rw [hd] at hk
    obtain ⟨p, hp3, x, hx, e⟩ := c1.nh k hk
    exact ⟨p, hp3, setKn x false, by rw [hp p hp3]; exact List.mem_map.2 ⟨x, hx, rfl⟩, e⟩
  · show a ∈ ([] : List Int) ↔ _
    constructor
    · intro h; cases h
    · rintro ⟨k, _, hk⟩; rw [hd] at hk; cases hk
  · rw [hd] at hk; cases hk
end
end Go.Proofs.Ytglienidnffnjaa
namespace Go.Proofs.Ytglienidnffnjaa
open Go
section
variable {h h1 : Hp} {R R2 : RH} {k : Nat} {kind info : Int} {fs : List Wd} {q : Hdr} {v : Value} {at_ field : Int} {w : Wd} {r1 r2 : Int × Int} {e1 e2 : Int}
theorem layR_O : (layR R k kind info fs q v).2.O = R.O := by
  unfold layR
  split
  · rfl
  · split
    · rfl
    · split <;> rfl
theorem setR_O : (setR R at_ field w).2.O = R.O := by
  unfold setR
  split
  · rfl
  · split <;> rfl
theorem holeR_O : (holeR R at_).2.O = R.O := by
  unfold holeR
  split
  · rfl
  · split <;> rfl
theorem linkR_O {hd : Hdr} : (linkR R at_ w hd).2.O = R.O := by
  unfold linkR
  split
  · rfl
  · split
    · rfl
    · split <;> rfl
theorem Rel.rlen (c : Rel h R) : h.rem.length ≤ 3145728 := by
  have := nodup_le h.heads.length h.rem c.rm.2 (fun x hx => c.sep.wf.rem x hx)
  have := c.sep.wf.le
  omega
theorem Rel.hfs (c : Rel h R) : ∀ p, p < 3 → ∀ x ∈ R.p p, x.fs.length ≤ 1048576 := fun p hp x hx => by
  obtain ⟨j, e, o, t, _⟩ := c.ob p hp x hx
  have hk : (hdAt h j).kind ≠ 0 := by rw [o.kind]; exact o.ne
  have tk := c.sep.tk j hk
  have := o.fields
  have := (c.g.rng p hp x hx).2.2.2
  omega
theorem Rel.lay2 (c : Rel h R) (hk : k < 3) (h1' : layH h k kind info fs = (r1, h1)) (h2' : layR R k kind info fs q v = (r2, R2)) : r1 = r2 ∧ Rel h1 R2 ∧ R2.O = R.O := by
  have := c.lay (kind := kind) (info := info) (fs := fs) (q := q) (v := v) hk
  have o := layR_O (R := R) (k := k) (kind := kind) (info := info) (fs := fs) (q := q) (v := v)
  rw [h1', h2'] at this
  rw [h2'] at o
  exact ⟨this.1, this.2, o⟩
theorem Rel.keep2 (c : Rel h R) (h1' : layH h (1 + h.use) kind info fs = (r1, h1)) (h2' : layR R R.use kind info fs q v = (r2, R2)) : r1 = r2 ∧ Rel h1 R2 ∧ R2.O = R.O := by
  rw [← c.use] at h1'
  exact c.lay2 (use_rng c.g).1 h1' h2'
theorem Rel.set2 (c : Rel h R) (h1' : setH h at_ field w = (e1, h1)) (h2' : setR R at_ field w = (e2, R2)) : e1 = e2 ∧ Rel h1 R2 ∧ R2.O = R.O := by
  have := c.set (at_ := at_) (field := field) (w := w)
  have o := setR_O (R := R) (at_ := at_) (field := field) (w := w)
  rw [h1', h2'] at this
  rw [h2'] at o
  exact ⟨this.1, this.2, o⟩
theorem Rel.hole2 (c : Rel h R) (h1' : holeH h at_ = (e1, h1)) (h2' : holeR R at_ = (e2, R2)) : e1 = e2 ∧ Rel h1 R2 ∧ R2.O = R.O := by
  have := c.hole (at_ := at_)
  have o := holeR_O (R := R) (at_ := at_)
  rw [h1', h2'] at this
  rw [h2'] at o
  exact ⟨this.1, this.2, o⟩
theorem Rel.link2 {hd : Hdr} (c : Rel h R) (h1' : linkH h at_ w = (e1, h1)) (h2' : linkR R at_ w hd = (e2, R2)) : e1 = e2 ∧ Rel h1 R2 ∧ R2.O = R.O := by
  have := c.link (at_ := at_) (w := w) hd
  have o := linkR_O (R := R) (at_ := at_) (w := w) (hd := hd)
  rw [h1', h2'] at this
  rw [h2'] at o
  exact ⟨this.1, this.2, o⟩
end
theorem same_no {ka kb ia ib : Int} {fa fb : List Wd} (h : (¬ ka = kb ∨ ¬ ia = ib) ∨ ¬ (fa.length : Int) = (fb.length : Int)) : ¬ (ka = kb ∧ ia = ib ∧ fa = fb) := fun e => by
  rcases h with (h | h) | h
  · exact h e.1
  · exact h e.2.1
  · exact h (by rw [e.2.2])
theorem take_eq {α : Type} {a b : List α} {i : Nat} {x y : α} (h : a.take i = b.take i) (hx : a[i]? = some x) (hy : b[i]? = some y) (e : x = y) : a.take (i + 1) = b.take (i + 1) := by rw [takeAt hx, takeAt hy, h, e]
theorem take_ne {α : Type} {a b : List α} {i : Nat} {x y : α} (hx : a[i]? = some x) (hy : b[i]? = some y) (e : ¬ x = y) : ¬ a = b := fun h => by
  subst h; rw [hx] at hy; exact e (Option.some.inj hy)
theorem take_all {α : Type} {a b : List α} {i : Nat} (h : a.take i = b.take i) (h1 : a.length ≤ i) (h2 : b.length = a.length) : a = b := by
  rw [List.take_of_length_le h1, List.take_of_length_le (by omega)] at h; exact h
end Go.Proofs.Ytglienidnffnjaa
