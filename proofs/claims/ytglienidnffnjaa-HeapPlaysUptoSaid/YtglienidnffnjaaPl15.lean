/- PLAIN: the collector as functions. -/
import Derived.Test.YtglienidnffnjaaPl8
import Derived.Test.YtglienidnffnjaaGw25
namespace Go.Proofs.Ytglienidnffnjaa
open Go
structure Qo where
  kind : Int
  info : Int
  h : Hdr
  fs : List Wd
structure Ko where
  at_ : Int
  h : Hdr
  fs : List Wd
def qoE : Enc Qo where
  size := 3
  cells q := [i64 q.kind, i64 q.info, q.h.v]
  len _ := rfl
  one t u hu := by
    simp only [List.mem_cons, List.not_mem_nil, or_false] at hu
    rcases hu with rfl | rfl | rfl <;> rfl
def koE : Enc Ko where
  size := 2
  cells q := [i64 q.at_, q.h.v]
  len _ := rfl
  one t u hu := by
    simp only [List.mem_cons, List.not_mem_nil, or_false] at hu
    rcases hu with rfl | rfl <;> rfl
/-- a pointer to a word, and what stands there -/
def rtE : Enc (Nat × Wd) where
  size := 1
  cells q := [ptr (adr q.1)]
  len _ := rfl
  one t u hu := by
    simp only [List.mem_cons, List.not_mem_nil, or_false] at hu
    subst hu; rfl
def Qo.ob (q : Qo) : Ob := ⟨q.kind, q.info, q.fs⟩
def Ko.pr (k : Ko) : Int × List Wd := (k.at_, k.fs)
def foundNo (h : Hp) (young : Bool) (x : Wd) : Prop := ¬ (chaseH h x).ptr = true ∨ (young = true ∧ ¬ youngH h (chaseH h x).n)
instance (h : Hp) (young : Bool) (x : Wd) : Decidable (foundNo h young x) := by unfold foundNo; infer_instance
def findF (h : Hp) (young : Bool) (x : Wd) : (Int × Ob) × Bool :=
  if foundNo h young x then ((0, ⟨0, 0, []⟩), false) else (((chaseH h x).n, (objH h (chaseH h x).n).1), decide ((objH h (chaseH h x).n).2 = 0))
structure Wk where
  met : List Int
  todo : List Ob
  words : Int
def obSize (o : Ob) : Int := 1 + max 1 (o.fields.length : Int)
def meets (h : Hp) (young : Bool) (s : Wk) (x : Wd) : Prop := (findF h young x).2 = true ∧ ¬ s.met.contains (findF h young x).1.1 = true
instance (h : Hp) (young : Bool) (s : Wk) (x : Wd) : Decidable (meets h young s x) := by unfold meets; infer_instance
def metS (h : Hp) (young : Bool) (s : Wk) (x : Wd) : Wk := ⟨s.met ++ [(findF h young x).1.1], s.todo ++ [(findF h young x).1.2], s.words + obSize (findF h young x).1.2⟩
def meetF (h : Hp) (young : Bool) (s : Wk) (x : Wd) : Wk := if meets h young s x then metS h young s x else s
def bfsG (h : Hp) (young : Bool) : Nat → Wk → Option Int
  | 0, _ => none
  | f + 1, s => match s.todo with
    | [] => some s.words
    | o :: r => bfsG h young f (o.fields.foldl (meetF h young) ⟨s.met, r, s.words⟩)
def wk0 : Wk := ⟨[], [], 0⟩
def measF (h : Hp) (young : Bool) (f : Nat) (xs : List Wd) : Option Int := bfsG h young f (xs.foldl (meetF h young) wk0)
structure Mv where
  h : Hp
  to : List (Int × Int)
  qs : List (Int × List Wd)
def keepK (m : Mv) (o : Ob) : (Int × Int) × Hp := layH m.h (1 + m.h.use) o.kind o.info (List.replicate o.fields.length wd0)
def moveF (young : Bool) (m : Mv) (x : Wd) : Wd × Mv :=
  if (findF m.h young x).2 = true then
    match m.to.lookup (findF m.h young x).1.1 with
    | some n => (⟨true, n⟩, m)
    | none => (⟨true, (keepK m (findF m.h young x).1.2).1.1⟩, ⟨(keepK m (findF m.h young x).1.2).2, m.to ++ [((findF m.h young x).1.1, (keepK m (findF m.h young x).1.2).1.1)], m.qs ++ [((keepK m (findF m.h young x).1.2).1.1, (findF m.h young x).1.2.fields)]⟩)
  else (chaseH m.h x, m)
def stepF (young : Bool) (at_ : Int) (p : Mv × Nat) (x : Wd) : Mv × Nat :=
  (⟨(setH (moveF young p.1 x).2.h at_ p.2 (moveF young p.1 x).1).2, (moveF young p.1 x).2.to, (moveF young p.1 x).2.qs⟩, p.2 + 1)
def fieldsF (young : Bool) (m : Mv) (k : Int × List Wd) : Mv := (k.2.foldl (stepF young k.1) (m, 0)).1
def queueG (young : Bool) : Nat → Nat → Mv → Option Mv
  | 0, _, _ => none
  | f + 1, i, m => match m.qs[i]? with
    | none => some m
    | some k => queueG young f (i + 1) (fieldsF young m k)
/-! bounds -/
section
variable {h : Hp} {young : Bool} {x : Wd} {s : Wk}
theorem obj_len (hw : Wf h) (at_ : Int) : (objH h at_).1.fields.length ≤ 3145728 := by
  unfold objH
  split
  · simp
  · have := hw.le
    have := hw.len
    simp only [List.length_take, List.length_drop]; omega
theorem find_len (hw : Wf h) : (findF h young x).1.2.fields.length ≤ 3145728 := by
  unfold findF
  split
  · simp
  · exact obj_len hw _
theorem find_at (hw : Wf h) (hf : (findF h young x).2 = true) : -9223372036854775808 ≤ (findF h young x).1.1 ∧ (findF h young x).1.1 ≤ 9223372036854775807 := by
  unfold findF at hf ⊢
  split at hf
  · cases hf
  · rename_i hn
    rw [if_neg hn]
    have h2 := of_decide_eq_true hf
    dsimp only
    unfold objH at h2
    cases hk : headAt h.heads (chaseH h x).n with
    | none => rw [hk] at h2; exact absurd h2 (by simp)
    | some k =>
      obtain ⟨e, hkl, _⟩ := head_some hk
      have := hw.le
      omega
def WkI (s : Wk) (c : Nat) : Prop := 0 ≤ s.words ∧ s.words ≤ 8388608 * (c : Int) ∧ s.todo.length ≤ c ∧ ∀ o ∈ s.todo, o.fields.length ≤ 3145728
theorem WkI.meet (hw : Wf h) {c : Nat} (hs : WkI s c) : WkI (meetF h young s x) (c + 1) := by
  obtain ⟨h1, h2, h3, h4⟩ := hs
  unfold meetF
  split
  · have := find_len (young := young) (x := x) hw
    refine ⟨?_, ?_, ?_, fun o ho => ?_⟩
    · show 0 ≤ s.words + obSize _
      unfold obSize; omega
    · show s.words + obSize _ ≤ _
      unfold obSize; omega
    · show (s.todo ++ [_]).length ≤ _
      rw [List.length_append, List.length_singleton]; omega
    · rcases List.mem_append.1 (show o ∈ s.todo ++ [_] from ho) with ho | ho
      · exact h4 o ho
      · rw [List.mem_singleton.1 ho]; exact this
  · exact ⟨h1, by omega, by omega, h4⟩
theorem bfs_cons {f : Nat} {n : Int} (hb : bfsG h young f s = some n) : ∃ g, f = g + 1 := by
  cases f with
  | zero => cases hb
  | succ g => exact ⟨g, rfl⟩
theorem bfs_on {g : Nat} {n : Int} {o : Ob} {r : List Ob} (ht : s.todo = o :: r) (hb : bfsG h young (g + 1) s = some n) : bfsG h young g (o.fields.foldl (meetF h young) ⟨s.met, r, s.words⟩) = some n := by
  unfold bfsG at hb
  rw [ht] at hb
  exact hb
theorem bfs_end {f : Nat} {n : Int} (ht : s.todo = []) (hb : bfsG h young f s = some n) : n = s.words := by
  obtain ⟨g, rfl⟩ := bfs_cons hb
  unfold bfsG at hb
  rw [ht] at hb
  exact (Option.some.inj hb).symm
theorem fold_on {α β : Type} (f : α → β → α) (a : α) {l : List β} {k : Nat} {x : β} (hx : l[k]? = some x) : (l.take (k + 1)).foldl f a = f ((l.take k).foldl f a) x := by
  rw [List.take_add_one, hx, List.foldl_append]; rfl
end
/-! the mover -/
theorem notes_rep (at_ : Int) : ∀ (n : Nat) (h : Hp), notesF h at_ (List.replicate n wd0) = h
  | 0, _ => rfl
  | n + 1, h => by
    have e : notesF h at_ (List.replicate (n + 1) wd0) = notesF (noteF h at_ wd0) at_ (List.replicate n wd0) := rfl
    rw [e, notes_rep at_ n, noteF, if_pos]
    exact .inl (.inl (.inr (by decide)))
theorem keep_rem (m : Mv) (o : Ob) : (keepK m o).2.rem = m.h.rem := by
  unfold keepK layH
  split
  · rfl
  · split
    · rfl
    · split
      · rfl
      · show (notesF _ _ _).rem = _
        rw [notes_rep]; rfl
theorem gset_rem (h : Hp) (at_ f : Int) (w : Wd) : (setH h at_ f w).2.rem.length ≤ h.rem.length + 1 := by
  unfold setH
  split
  · simp
  · split
    · simp
    · exact (note_len _ at_ w).2.2.2.2.2.2
def MvI (m : Mv) (c : Nat) : Prop := Wf m.h ∧ m.h.rem.length ≤ c ∧ m.qs.length ≤ c ∧ ∀ k ∈ m.qs, k.2.length ≤ 3145728
theorem Wf.useK {h : Hp} (hw : Wf h) : 1 + h.use ≤ 2 := by have := hw.use; omega
theorem MvI.move {m : Mv} {c : Nat} (hm : MvI m c) (young : Bool) (x : Wd) : MvI (moveF young m x).2 (c + 1) ∧ (moveF young m x).2.h.rem = m.h.rem := by
  obtain ⟨h1, h2, h3, h4⟩ := hm
  unfold moveF
  split
  · split
    · exact ⟨⟨h1, Nat.le_succ_of_le h2, Nat.le_succ_of_le h3, h4⟩, rfl⟩
    · refine ⟨⟨h1.lay h1.useK _ _ _, by rw [keep_rem]; omega, by simp; omega, fun k hk => ?_⟩, keep_rem _ _⟩
      rcases List.mem_append.1 hk with hk | hk
      · exact h4 k hk
      · rw [List.mem_singleton.1 hk]; exact find_len h1
  · exact ⟨⟨h1, Nat.le_succ_of_le h2, Nat.le_succ_of_le h3, h4⟩, rfl⟩
theorem MvI.step {m : Mv} {c : Nat} (hm : MvI m c) (young : Bool) (at_ : Int) (i : Nat) (x : Wd) : MvI (stepF young at_ (m, i) x).1 (c + 1) := by
  obtain ⟨⟨h1, h2, h3, h4⟩, h5⟩ := hm.move young x
  refine ⟨h1.set _ _ _, ?_, h3, h4⟩
  have hs := gset_rem (moveF young m x).2.h at_ i (moveF young m x).1
  rw [h5] at hs
  exact Nat.le_trans hs (Nat.succ_le_succ hm.2.1)
theorem queue_cons {young : Bool} {f i : Nat} {m m2 : Mv} (hb : queueG young f i m = some m2) : ∃ g, f = g + 1 := by
  cases f with
  | zero => cases hb
  | succ g => exact ⟨g, rfl⟩
theorem queue_on {young : Bool} {g i : Nat} {m m2 : Mv} {k : Int × List Wd} (hk : m.qs[i]? = some k) (hb : queueG young (g + 1) i m = some m2) : queueG young g (i + 1) (fieldsF young m k) = some m2 := by
  unfold queueG at hb; rw [hk] at hb; exact hb
theorem queue_end {young : Bool} {f i : Nat} {m m2 : Mv} (hk : m.qs.length ≤ i) (hb : queueG young f i m = some m2) : m2 = m := by
  obtain ⟨g, rfl⟩ := queue_cons hb
  unfold queueG at hb
  rw [List.getElem?_eq_none hk] at hb
  exact (Option.some.inj hb).symm
theorem used_b {h : Hp} (hw : Wf h) : 0 ≤ (usedH h).2 ∧ (usedH h).2 ≤ 3145728 := by
  obtain ⟨r1, r2, r3, r4⟩ := hw.rg (1 + h.use)
  have := hw.le
  unfold usedH
  dsimp only
  omega
def leftF (h : Hp) : Int := (h.rg (1 + (1 - h.use))).next - (h.rg (1 + (1 - h.use))).first
def halfF (h : Hp) : Int := h.a.end_ - h.a.first
theorem step_snd (young : Bool) (at_ : Int) (xs : List Wd) : ∀ (p : Mv × Nat), (xs.foldl (stepF young at_) p).2 = p.2 + xs.length := by
  induction xs with
  | nil => intro p; rfl
  | cons x r ih => intro p; rw [List.foldl_cons, ih, List.length_cons]; show p.2 + 1 + _ = _; omega
end Go.Proofs.Ytglienidnffnjaa
