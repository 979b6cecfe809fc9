/- PLAIN: what each call of the heap turns, place by place; objects stand apart from one another. -/
import Derived.Test.YtglienidnffnjaaPl10
namespace Go.Proofs.Ytglienidnffnjaa
open Go
def wdAt (h : Hp) (k : Nat) : Wd := h.words.getD k wd0
/-- a word that an old object remembers for -/
def grey (ye at_ : Int) (w : Wd) : Prop := ye ≤ at_ ∧ w.ptr = true ∧ w.n < ye
instance (ye at_ : Int) (w : Wd) : Decidable (grey ye at_ w) := by unfold grey; infer_instance
theorem knowP_iff (h : Hp) (at_ : Int) (w : Wd) : knowP h at_ w ↔ ¬ grey h.y.end_ at_ w ∨ (hdAt h at_.toNat).knows = true := by
  unfold knowP grey hdAt
  constructor
  · rintro (((h1 | h1) | h1) | h1)
    · exact .inl (fun g => by omega)
    · exact .inl (fun g => h1 g.2.1)
    · exact .inl (fun g => by omega)
    · exact .inr h1
  · rintro (h1 | h1)
    · by_cases a : at_ < h.y.end_
      · exact .inl (.inl (.inl a))
      · by_cases b : w.ptr = true
        · exact .inl (.inr (by apply Classical.byContradiction; intro c; exact h1 ⟨by omega, b, by omega⟩))
        · exact .inl (.inl (.inr b))
    · exact .inr h1
theorem setK_same {x : Hd} (h : x.knows = true) : setK x true = x := by cases x; simp only [setK] at *; rw [h]
theorem hdAt_set (h : Hp) (ws : List Wd) (y a b : Rg) (u : Nat) (rm : List Int) (k j : Nat) (x : Hd) : hdAt ⟨ws, h.heads.set k x, y, a, b, u, rm⟩ j = if j = k ∧ k < h.heads.length then x else hdAt h j := by
  unfold hdAt
  simp only
  by_cases e : k = j
  · subst e
    by_cases hl : k < h.heads.length
    · rw [getD_set_self hl, if_pos ⟨rfl, hl⟩]
    · rw [List.set_eq_of_length_le (by omega), if_neg (fun h => hl h.2)]
  · rw [getD_set_ne' e, if_neg (fun h => e h.1.symm)]
theorem wdAt_set (l : List Wd) (k j : Nat) (x : Wd) (hk : k < l.length) : (l.set k x).getD j wd0 = if j = k then x else l.getD j wd0 := by
  by_cases e : k = j
  · subst e; rw [getD_set_self hk, if_pos rfl]
  · rw [getD_set_ne' e, if_neg (fun h => e h.symm)]
theorem note_hd {h : Hp} {at_ : Int} (hl : at_.toNat < h.heads.length) (w : Wd) (j : Nat) : hdAt (noteF h at_ w) j = if j = at_.toNat ∧ grey h.y.end_ at_ w then setK (hdAt h j) true else hdAt h j := by
  by_cases hk : knowP h at_ w
  · rw [note_yes hk]
    split
    · rename_i e
      rcases (knowP_iff h at_ w).1 hk with g | g
      · exact absurd e.2 g
      · rw [← e.1] at g; exact (setK_same g).symm
    · rfl
  · rw [note_no hk, hdAt_set]
    have g : grey h.y.end_ at_ w := by
      apply Classical.byContradiction; intro c
      exact hk ((knowP_iff h at_ w).2 (.inl c))
    by_cases e : j = at_.toNat
    · subst e; rw [if_pos ⟨rfl, hl⟩, if_pos ⟨rfl, g⟩]; rfl
    · rw [if_neg (fun h => e h.1), if_neg (fun h => e h.1)]
theorem notes_hd {at_ : Int} : ∀ (ws : List Wd) (h : Hp), at_.toNat < h.heads.length → ∀ j, hdAt (notesF h at_ ws) j = if j = at_.toNat ∧ ∃ w ∈ ws, grey h.y.end_ at_ w then setK (hdAt h j) true else hdAt h j
  | [], h, _, j => by rw [if_neg (fun ⟨_, w, hw, _⟩ => by cases hw)]; rfl
  | w :: ws, h, hl, j => by
    obtain ⟨a1, _, a3, _⟩ := note_len h at_ w
    have ih := notes_hd ws (noteF h at_ w) (by rw [a1]; exact hl) j
    have e : notesF h at_ (w :: ws) = notesF (noteF h at_ w) at_ ws := rfl
    rw [e, ih, a3, note_hd hl]
    by_cases ej : j = at_.toNat
    · by_cases g1 : grey h.y.end_ at_ w
      · by_cases g2 : ∃ w ∈ ws, grey h.y.end_ at_ w
        · rw [if_pos ⟨ej, g2⟩, if_pos ⟨ej, g1⟩, if_pos ⟨ej, w, List.mem_cons_self, g1⟩]; rfl
        · rw [if_neg (fun h => g2 h.2), if_pos ⟨ej, g1⟩, if_pos ⟨ej, w, List.mem_cons_self, g1⟩]
      · by_cases g2 : ∃ w ∈ ws, grey h.y.end_ at_ w
        · obtain ⟨v, hv, gv⟩ := g2
          rw [if_pos ⟨ej, v, hv, gv⟩, if_neg (fun h => g1 h.2), if_pos ⟨ej, v, List.mem_cons_of_mem _ hv, gv⟩]
        · rw [if_neg (fun h => g2 h.2), if_neg (fun h => g1 h.2), if_neg]
          rintro ⟨_, v, hv, gv⟩
          rcases List.mem_cons.1 hv with rfl | hv
          · exact g1 gv
          · exact g2 ⟨v, hv, gv⟩
    · rw [if_neg (fun h => ej h.1), if_neg (fun h => ej h.1), if_neg (fun h => ej h.1)]
/-- who knows is remembered -/
def Kn (h : Hp) : Prop := ∀ k : Nat, (hdAt h k).knows = true → (k : Int) ∈ h.rem
theorem Kn.note {h : Hp} (hk : Kn h) {at_ : Int} (h0 : 0 ≤ at_) (hl : at_.toNat < h.heads.length) (w : Wd) : Kn (noteF h at_ w) := by
  intro k hkk
  by_cases hp : knowP h at_ w
  · rw [note_yes hp] at hkk ⊢; exact hk k hkk
  · rw [note_hd hl] at hkk
    rw [note_no hp]
    show (k : Int) ∈ h.rem ++ [at_]
    rw [List.mem_append]
    by_cases e : k = at_.toNat
    · right; rw [List.mem_singleton]; omega
    · rw [if_neg (fun h => e h.1)] at hkk
      exact .inl (hk k hkk)
theorem Kn.notes {at_ : Int} (h0 : 0 ≤ at_) : ∀ (ws : List Wd) {h : Hp}, Kn h → at_.toNat < h.heads.length → Kn (notesF h at_ ws)
  | [], _, hk, _ => hk
  | w :: ws, h, hk, hl => Kn.notes h0 ws (hk.note h0 hl w) (by rw [(note_len h at_ w).1]; exact hl)
theorem note_mem {h : Hp} {at_ x : Int} {w : Wd} (hx : x ∈ h.rem) : x ∈ (noteF h at_ w).rem := by
  unfold noteF; split
  · exact hx
  · exact List.mem_append_left _ hx
theorem putW_at {ws fs : List Wd} {k : Nat} (h : k + fs.length ≤ ws.length) (j : Nat) : (putW ws k fs).getD j wd0 = if k ≤ j ∧ j < k + fs.length then fs.getD (j - k) wd0 else ws.getD j wd0 := by
  unfold putW
  rw [List.getD_eq_getElem?_getD, List.getD_eq_getElem?_getD, List.getD_eq_getElem?_getD]
  by_cases h1 : j < k
  · rw [if_neg (by omega), List.append_assoc, List.getElem?_append_left (by rw [List.length_take]; omega), List.getElem?_take, if_pos h1]
  · by_cases h2 : j < k + fs.length
    · rw [if_pos ⟨by omega, h2⟩, List.getElem?_append_left (by rw [List.length_append, List.length_take]; omega), List.getElem?_append_right (by rw [List.length_take]; omega), List.length_take, show min k ws.length = k by omega]
    · rw [if_neg (by omega), List.getElem?_append_right (by rw [List.length_append, List.length_take]; omega), List.getElem?_drop, List.length_append, List.length_take]
      congr 2
      omega
/-- the place where the next object of a part is laid -/
def Hp.nx (h : Hp) (r : Nat) : Nat := (h.rg r).next.toNat
structure Sep (h : Hp) : Prop where
  wf : Wf h
  y0 : h.y.first = 0
  a0 : h.a.first = h.y.end_
  b0 : h.b.first = h.a.end_
  tk : ∀ k, (hdAt h k).kind ≠ 0 → 2 ≤ (hdAt h k).takes ∧ 0 ≤ (hdAt h k).fields ∧ (hdAt h k).fields + 1 ≤ (hdAt h k).takes
  oy : ∀ k : Nat, (hdAt h k).kind ≠ 0 → (k : Int) < h.y.end_ → k + (hdAt h k).takes ≤ h.y.next
  oa : ∀ k : Nat, (hdAt h k).kind ≠ 0 → h.y.end_ ≤ (k : Int) → (k : Int) < h.a.end_ → k + (hdAt h k).takes ≤ h.a.next
  ob : ∀ k : Nat, (hdAt h k).kind ≠ 0 → h.a.end_ ≤ (k : Int) → k + (hdAt h k).takes ≤ h.b.next
  ap : ∀ j k : Nat, j < k → (hdAt h j).kind ≠ 0 → (hdAt h k).kind ≠ 0 → j + (hdAt h j).takes ≤ k
theorem sep_new {y o : Int} (hb : ¬ newBad y o) : Sep (newH y o) := by
  have hk : ∀ k, (hdAt (newH y o) k).kind = 0 := fun k => by
    unfold hdAt newH
    simp only
    rw [List.getD_eq_getElem?_getD, List.getElem?_replicate]
    split <;> rfl
  exact ⟨wf_new hb, rfl, rfl, rfl, fun k h => absurd (hk k) h, fun k h => absurd (hk k) h, fun k h => absurd (hk k) h, fun k h => absurd (hk k) h, fun j k _ h => absurd (hk j) h⟩
section
variable {h : Hp} {r : Nat} {kind info : Int} {fs : List Wd}
/-- what is laid -/
def layF (h : Hp) (r : Nat) (kind info : Int) (fs : List Wd) : Hp := notesF (laidH h r kind info fs) (h.rg r).next fs
theorem Sep.cases (_ : Sep h) (hr : r ≤ 2) : (r = 0 ∧ (h.rg r).first = h.y.first ∧ (h.rg r).next = h.y.next ∧ (h.rg r).end_ = h.y.end_) ∨ (r = 1 ∧ (h.rg r).first = h.a.first ∧ (h.rg r).next = h.a.next ∧ (h.rg r).end_ = h.a.end_) ∨ (r = 2 ∧ (h.rg r).first = h.b.first ∧ (h.rg r).next = h.b.next ∧ (h.rg r).end_ = h.b.end_) := by
  rcases (by omega : r = 0 ∨ r = 1 ∨ r = 2) with rfl | rfl | rfl
  · exact .inl ⟨rfl, rfl, rfl, rfl⟩
  · exact .inr (.inl ⟨rfl, rfl, rfl, rfl⟩)
  · exact .inr (.inr ⟨rfl, rfl, rfl, rfl⟩)
theorem Sep.fit (hs : Sep h) (hr : r ≤ 2) (hfit : ¬ (h.rg r).end_ - (h.rg r).next < takesF fs) : ((h.nx r : Nat) : Int) = (h.rg r).next ∧ h.nx r + 1 + fs.length ≤ h.heads.length ∧
    (∀ k : Nat, (hdAt h k).kind ≠ 0 → k + (hdAt h k).takes ≤ h.nx r ∨ (h.nx r : Int) + takesF fs ≤ k) ∧ (hdAt h (h.nx r)).kind = 0 := by
  obtain ⟨r1, r2, r3, r4⟩ := hs.wf.rg r
  obtain ⟨t1, t2, t3⟩ := takes_ge fs
  obtain ⟨y1, y2, y3, y4⟩ := hs.wf.y
  obtain ⟨a1, a2, a3, a4⟩ := hs.wf.a
  obtain ⟨b1, b2, b3, b4⟩ := hs.wf.b
  have e : ((h.nx r : Nat) : Int) = (h.rg r).next := Int.toNat_of_nonneg (by omega)
  have hy0 := hs.y0
  have ha0 := hs.a0
  have hb0 := hs.b0
  have key : ∀ k : Nat, (hdAt h k).kind ≠ 0 → k + (hdAt h k).takes ≤ h.nx r ∨ (h.nx r : Int) + takesF fs ≤ k := by
    intro k hk
    have o1 := hs.oy k hk
    have o2 := hs.oa k hk
    have o3 := hs.ob k hk
    have o4 := hs.tk k hk
    rcases hs.cases hr with ⟨rfl, q1, q2, q3⟩ | ⟨rfl, q1, q2, q3⟩ | ⟨rfl, q1, q2, q3⟩
    · by_cases c : (k : Int) < h.y.end_
      · have := o1 c; left; omega
      · right; omega
    · by_cases c : (k : Int) < h.y.end_
      · have := o1 c; left; omega
      · by_cases d : (k : Int) < h.a.end_
        · have := o2 (by omega) d; left; omega
        · right; omega
    · by_cases c : (k : Int) < h.y.end_
      · have := o1 c; left; omega
      · by_cases d : (k : Int) < h.a.end_
        · have := o2 (by omega) d; left; omega
        · have := o3 (by omega); left; omega
  refine ⟨e, by omega, key, ?_⟩
  apply Classical.byContradiction
  intro hk
  have := key _ hk
  have := hs.tk _ hk
  omega
theorem lay_hd (hs : Sep h) (hr : r ≤ 2) (hfit : ¬ (h.rg r).end_ - (h.rg r).next < takesF fs) (j : Nat) :
    hdAt (layF h r kind info fs) j = if j = h.nx r then ⟨kind, info, fs.length, takesF fs, decide (∃ w ∈ fs, grey h.y.end_ (h.rg r).next w)⟩ else hdAt h j := by
  obtain ⟨e, hl, _⟩ := hs.fit hr hfit
  have hl2 : (laidH h r kind info fs).heads.length = h.heads.length := (laid_len h r kind info fs).1
  have hy : (laidH h r kind info fs).y.end_ = h.y.end_ := by
    show (if r = 0 then h.y.to _ else h.y).end_ = _
    split <;> rfl
  have hL : hdAt (laidH h r kind info fs) j = if j = h.nx r then ⟨kind, info, fs.length, takesF fs, false⟩ else hdAt h j := by
    rw [laid_head]
    have e2 : (h.rg r).next.toNat = h.nx r := rfl
    rw [e2]
    by_cases ej : j = h.nx r
    · rw [if_pos ej, if_pos ⟨ej, by omega⟩]
    · rw [if_neg ej, if_neg (fun h => ej h.1)]
  have hlt : (h.rg r).next.toNat < (laidH h r kind info fs).heads.length := by rw [hl2]; show h.nx r < _; omega
  unfold layF
  rw [notes_hd fs _ hlt, hy, hL]
  have e2 : (h.rg r).next.toNat = h.nx r := rfl
  rw [e2]
  by_cases ej : j = h.nx r
  · rw [if_pos ej, if_pos ej]
    by_cases g : ∃ w ∈ fs, grey h.y.end_ (h.rg r).next w
    · rw [if_pos ⟨ej, g⟩, decide_eq_true g]; rfl
    · rw [if_neg (fun h => g h.2), decide_eq_false g]
  · rw [if_neg (fun h => ej h.1), if_neg ej, if_neg ej]
theorem lay_wd (hs : Sep h) (hr : r ≤ 2) (hfit : ¬ (h.rg r).end_ - (h.rg r).next < takesF fs) (j : Nat) :
    wdAt (layF h r kind info fs) j = if h.nx r + 1 ≤ j ∧ j < h.nx r + 1 + fs.length then fs.getD (j - (h.nx r + 1)) wd0 else wdAt h j := by
  obtain ⟨e, hl, _⟩ := hs.fit hr hfit
  have e1 : (layF h r kind info fs).words = putW h.words (h.nx r + 1) fs := (notes_len _ fs _).2.1
  unfold wdAt
  rw [e1, putW_at (by rw [hs.wf.len]; omega)]
theorem lay_rg (h : Hp) (r : Nat) (kind info : Int) (fs : List Wd) : (layF h r kind info fs).heads.length = h.heads.length ∧ (layF h r kind info fs).use = h.use ∧ (layF h r kind info fs).y = (if r = 0 then h.y.to ((h.rg r).next + takesF fs) else h.y) ∧ (layF h r kind info fs).a = (if r = 1 then h.a.to ((h.rg r).next + takesF fs) else h.a) ∧ (layF h r kind info fs).b = (if 2 ≤ r then h.b.to ((h.rg r).next + takesF fs) else h.b) := by
  obtain ⟨a1, a2, a3, a4, a5, a6, a7⟩ := notes_len (h.rg r).next fs (laidH h r kind info fs)
  exact ⟨a1.trans (laid_len h r kind info fs).1, a6, a3, a4, a5⟩
theorem Sep.lay (hs : Sep h) (hr : r ≤ 2) (hfit : ¬ (h.rg r).end_ - (h.rg r).next < takesF fs) : Sep (layF h r kind info fs) := by
  obtain ⟨e, hl, hp, _⟩ := hs.fit hr hfit
  obtain ⟨t1, t2, t3⟩ := takes_ge fs
  obtain ⟨y1, y2, y3, y4⟩ := hs.wf.y
  obtain ⟨a1, a2, a3, a4⟩ := hs.wf.a
  obtain ⟨b1, b2, b3, b4⟩ := hs.wf.b
  have hy0 := hs.y0
  have ha0 := hs.a0
  have hb0 := hs.b0
  obtain ⟨g1, g2, g3, g4, g5⟩ := lay_rg h r kind info fs
  have hd := fun j => lay_hd (kind := kind) (info := info) hs hr hfit j
  have wf : Wf (layF h r kind info fs) := by
    have hl2 : (laidH h r kind info fs).heads.length = h.heads.length := (laid_len h r kind info fs).1
    exact Wf.notes fs (hs.wf.laid hr hfit) (by omega) (by rw [hl2]; omega)
  have fy : (layF h r kind info fs).y.first = h.y.first ∧ (layF h r kind info fs).y.end_ = h.y.end_ ∧ (layF h r kind info fs).y.next = (if r = 0 then (h.nx r : Int) + takesF fs else h.y.next) := by
    rw [g3]; split
    · exact ⟨rfl, rfl, by rw [e]; rfl⟩
    · exact ⟨rfl, rfl, rfl⟩
  have fa : (layF h r kind info fs).a.first = h.a.first ∧ (layF h r kind info fs).a.end_ = h.a.end_ ∧ (layF h r kind info fs).a.next = (if r = 1 then (h.nx r : Int) + takesF fs else h.a.next) := by
    rw [g4]; split
    · exact ⟨rfl, rfl, by rw [e]; rfl⟩
    · exact ⟨rfl, rfl, rfl⟩
  have fb : (layF h r kind info fs).b.first = h.b.first ∧ (layF h r kind info fs).b.next = (if 2 ≤ r then (h.nx r : Int) + takesF fs else h.b.next) := by
    rw [g5]; split
    · exact ⟨rfl, by rw [e]; rfl⟩
    · exact ⟨rfl, rfl⟩
  have cs : (r = 0 ∧ h.rg r = h.y) ∨ (r = 1 ∧ h.rg r = h.a) ∨ (r = 2 ∧ h.rg r = h.b) := by
    rcases (by omega : r = 0 ∨ r = 1 ∨ r = 2) with rfl | rfl | rfl
    · exact .inl ⟨rfl, rfl⟩
    · exact .inr (.inl ⟨rfl, rfl⟩)
    · exact .inr (.inr ⟨rfl, rfl⟩)
  have hq : ∀ k : Nat, (hdAt (layF h r kind info fs) k).kind ≠ 0 → (k = h.nx r ∧ (hdAt (layF h r kind info fs) k).takes = takesF fs ∧ (hdAt (layF h r kind info fs) k).fields = fs.length) ∨ (hdAt (layF h r kind info fs) k = hdAt h k ∧ (hdAt h k).kind ≠ 0 ∧ k ≠ h.nx r) := fun k hk => by
    rw [hd k] at hk ⊢
    by_cases ek : k = h.nx r
    · left; rw [if_pos ek]; exact ⟨ek, rfl, rfl⟩
    · right; rw [if_neg ek] at hk ⊢; exact ⟨rfl, hk, ek⟩
  refine ⟨wf, by rw [fy.1]; exact hy0, by rw [fa.1, fy.2.1]; exact ha0, by rw [fb.1, fa.2.1]; exact hb0, fun k hk => ?_, fun k hk hlt => ?_, fun k hk hge hlt => ?_, fun k hk hge => ?_, fun j k hjk hj hk => ?_⟩
  · rcases hq k hk with ⟨_, e1, e2⟩ | ⟨e1, e2, _⟩
    · rw [e1, e2]; omega
    · rw [e1]; exact hs.tk k e2
  · rw [fy.2.1] at hlt
    rw [fy.2.2]
    rcases hq k hk with ⟨e0, e1, e2⟩ | ⟨e1, e2, e3⟩
    · rw [e1, e0]
      rcases cs with ⟨c, c2⟩ | ⟨c, c2⟩ | ⟨c, c2⟩
      · rw [if_pos c]; omega
      · rw [c2] at e; omega
      · rw [c2] at e; omega
    · rw [e1]
      have := hs.oy k e2 hlt
      rcases cs with ⟨c, c2⟩ | ⟨c, c2⟩ | ⟨c, c2⟩
      · rw [if_pos c]; rw [c2] at e; omega
      · rw [if_neg (by omega)]; exact this
      · rw [if_neg (by omega)]; exact this
  · rw [fy.2.1] at hge
    rw [fa.2.1] at hlt
    rw [fa.2.2]
    rcases hq k hk with ⟨e0, e1, e2⟩ | ⟨e1, e2, e3⟩
    · rw [e1, e0]
      rcases cs with ⟨c, c2⟩ | ⟨c, c2⟩ | ⟨c, c2⟩
      · rw [c2] at hfit e; omega
      · rw [if_pos c]; omega
      · rw [c2] at e; omega
    · rw [e1]
      have := hs.oa k e2 hge hlt
      rcases cs with ⟨c, c2⟩ | ⟨c, c2⟩ | ⟨c, c2⟩
      · rw [if_neg (by omega)]; exact this
      · rw [if_pos c]; rw [c2] at e; omega
      · rw [if_neg (by omega)]; exact this
  · rw [fa.2.1] at hge
    rw [fb.2]
    rcases hq k hk with ⟨e0, e1, e2⟩ | ⟨e1, e2, e3⟩
    · rw [e1, e0]
      rcases cs with ⟨c, c2⟩ | ⟨c, c2⟩ | ⟨c, c2⟩
      · rw [c2] at hfit e; omega
      · rw [c2] at hfit e; omega
      · rw [if_pos (by omega)]; omega
    · rw [e1]
      have := hs.ob k e2 hge
      rcases cs with ⟨c, c2⟩ | ⟨c, c2⟩ | ⟨c, c2⟩
      · rw [if_neg (by omega)]; exact this
      · rw [if_neg (by omega)]; exact this
      · rw [if_pos (by omega)]; rw [c2] at e; omega
  · rcases hq j hj with ⟨e0, e1, e2⟩ | ⟨e1, e2, e3⟩ <;> rcases hq k hk with ⟨f0, f1, f2⟩ | ⟨f1, f2, f3⟩
    · omega
    · rw [e1]
      have := hp k f2
      have := hs.tk k f2
      omega
    · rw [e1]
      have := hp j e2
      have := hs.tk j e2
      omega
    · rw [e1]; exact hs.ap j k hjk e2 f2
/-- one word is turned -/
theorem Sep.word (hs : Sep h) (m : Nat) (w : Wd) : Sep ⟨h.words.set m w, h.heads, h.y, h.a, h.b, h.use, h.rem⟩ :=
  ⟨hs.wf.words _ (List.length_set ..), hs.y0, hs.a0, hs.b0, hs.tk, hs.oy, hs.oa, hs.ob, hs.ap⟩
/-- heads turn, but for where and how many words -/
theorem Sep.same {h' : Hp} (hs : Sep h) (hw : Wf h') (hy : h'.y = h.y) (ha : h'.a = h.a) (hb : h'.b = h.b) (hd : ∀ k, ((hdAt h' k).kind ≠ 0 → (hdAt h k).kind ≠ 0) ∧ (hdAt h' k).takes = (hdAt h k).takes ∧ ((hdAt h k).kind ≠ 0 → 0 ≤ (hdAt h' k).fields ∧ (hdAt h' k).fields + 1 ≤ (hdAt h' k).takes)) : Sep h' := by
  refine ⟨hw, by rw [hy]; exact hs.y0, by rw [ha, hy]; exact hs.a0, by rw [hb, ha]; exact hs.b0, fun k hk => ?_, fun k hk => ?_, fun k hk => ?_, fun k hk => ?_, fun j k hjk hj hk => ?_⟩
  · obtain ⟨d1, d2, d3⟩ := hd k
    have := hs.tk k (d1 hk)
    have := d3 (d1 hk)
    omega
  · obtain ⟨d1, d2, _⟩ := hd k
    rw [hy, d2]; exact hs.oy k (d1 hk)
  · obtain ⟨d1, d2, _⟩ := hd k
    rw [hy, ha, d2]; exact hs.oa k (d1 hk)
  · obtain ⟨d1, d2, _⟩ := hd k
    rw [ha, hb, d2]; exact hs.ob k (d1 hk)
  · rw [(hd j).2.1]
    exact hs.ap j k hjk ((hd j).1 hj) ((hd k).1 hk)
theorem Sep.note (hs : Sep h) {at_ : Int} (h0 : 0 ≤ at_) (h1 : at_ < h.heads.length) (w : Wd) : Sep (noteF h at_ w) := by
  obtain ⟨a1, a2, a3, a4, a5, a6, _⟩ := note_len h at_ w
  refine hs.same (hs.wf.note h0 h1 w) a3 a4 a5 fun k => ?_
  obtain ⟨e1, e2, e3, e4⟩ := note_at h at_ w k
  refine ⟨fun hk => by rw [← e1]; exact hk, e4, fun hk => ?_⟩
  rw [e2, e4]
  have := hs.tk k hk
  omega
end
end Go.Proofs.Ytglienidnffnjaa
