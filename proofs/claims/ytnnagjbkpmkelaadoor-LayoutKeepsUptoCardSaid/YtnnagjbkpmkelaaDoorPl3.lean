/- PLAIN: the items of the program's layout, coded as things. -/
import Derived.Test.YtnnagjbkpmkelaaDoorPl2
namespace Go.Proofs.YtnnagjbkpmkelaaDoor
def wBr : List UInt8 := [119, 104, 101, 114, 101, 32, 123]
def itm (s : List UInt8) : List UInt8 := if s = [123, 125] then wBr else s
def itmE : Enc Thg where
  size := 2
  cells t := [str (itm t.sort), i64 t.col]
  len _ := rfl
  one t u hu := by
    simp only [List.mem_cons, List.not_mem_nil, or_false] at hu
    rcases hu with rfl | rfl <;> rfl
def braceT : Thg := ⟨[123, 125], 0⟩
def letT : Thg := ⟨wLet, 0⟩
/-- What may lie on the stack. -/
def sorts : List (List UInt8) := [[], [123, 125], [40], [91], [123], wIf, wThen, wCase, wLet]
def okT (x : Thg) : Prop := x.sort ∈ sorts ∧ (x.sort ≠ [] → x.col = 0)
def okS (l : List Thg) : Prop := ∀ x ∈ l, okT x
theorem okS.take {l : List Thg} (h : okS l) (k : Nat) : okS (l.take k) := fun x hx => h x (List.mem_of_mem_take hx)
theorem okS.at {l : List Thg} (h : okS l) {k : Nat} {x : Thg} (hx : l[k]? = some x) : okT x := h x (List.mem_of_getElem? hx)
theorem okS.app {l : List Thg} (h : okS l) {x : Thg} (hx : okT x) : okS (l ++ [x]) := fun y hy => by
  rcases List.mem_append.1 hy with hy | hy
  · exact h y hy
  · rw [List.mem_singleton.1 hy]; exact hx
theorem okS.set {l : List Thg} (h : okS l) (k : Nat) {x : Thg} (hx : okT x) : okS (l.set k x) := fun y hy => by
  rcases List.mem_or_eq_of_mem_set hy with hy | rfl
  · exact h y hy
  · exact hx
theorem okS.nil : okS [] := fun _ h => (by cases h)
theorem itm_nil {s : List UInt8} : itm s = [] ↔ s = [] := by
  unfold itm
  split
  · rename_i h; subst h; simp [wBr]
  · exact Iff.rfl
/-- an item is one that is written with this text and without a column -/
theorem itm_is {x : Thg} (h : okT x) {s : List UInt8} (hs : s ∈ sorts) (hn : s ≠ []) : (itm x.sort = itm s ∧ x.col = 0) ↔ x.sort = s := by
  constructor
  · rintro ⟨h1, _⟩
    obtain ⟨sx, c⟩ := x
    have hx : sx ∈ sorts := h.1
    have key : ∀ a ∈ sorts, ∀ b ∈ sorts, itm a = itm b → a = b := by decide
    exact key _ hx _ hs h1
  · rintro rfl
    exact ⟨rfl, h.2 hn⟩
theorem itm_eq (s t : List UInt8) (c d : Int) : (decide (s = t) && (decide (c = d) && true)) = decide (s = t ∧ c = d) := by simp [Bool.decide_and]
/-- The things from the last one on, each with its place. -/
def backs (st : List Thg) (k : Nat) : List (Nat × Thg) := (List.range k).map fun i => (st.length - 1 - i, st.getD (st.length - 1 - i) thg0)
theorem backs_succ (st : List Thg) (k : Nat) : backs st (k + 1) = backs st k ++ [(st.length - 1 - k, st.getD (st.length - 1 - k) thg0)] := by simp [backs, List.range_succ]
theorem backs_len (st : List Thg) (k : Nat) : (backs st k).length = k := by simp [backs]

theorem backs_snoc {st : List Thg} {pre : List (Nat × Thg)} {x : Nat × Thg} {k : Nat} (h : pre ++ [x] = backs st k) (hk : k ≤ st.length) :
    ∃ m, m < st.length ∧ k = st.length - m ∧ pre = backs st (st.length - (m + 1)) ∧ x = (m, st.getD m thg0) := by
  cases k with
  | zero => simp [backs] at h
  | succ j =>
    rw [backs_succ] at h
    obtain ⟨h1, h2⟩ := List.append_inj' h rfl
    refine ⟨st.length - 1 - j, by omega, by omega, ?_, (List.cons.inj h2).1⟩
    rw [h1]; congr 1; omega
def LastI (st : List Thg) (xs : List (Nat × Thg)) (f : Bool) : Prop := ∀ k, k ≤ st.length → xs = backs st k → blkF st (st.length - k) = blkF st st.length ∧ f = ((st.drop (st.length - k)).all fun x => decide (looseP x))
def LastX (st : List Thg) (xs : List (Nat × Thg)) (i : Int) (f : Bool) : Prop := ∀ k, k ≤ st.length → xs = backs st k → i = blkF st st.length ∧ ∀ b : Nat, i = b → f = onlyF st b
theorem LastI.nil (st : List Thg) : LastI st [] true := fun k _ h => by
  have : k = 0 := by have := congrArg List.length h; simpa [backs_len] using this.symm
  subst this; simp
section
variable {st : List Thg} {pre : List (Nat × Thg)} {x : Nat × Thg} {f : Bool}
theorem LastI.at (h : LastI st pre f) {m : Nat} (hm : m < st.length) (e : pre = backs st (st.length - (m + 1))) : blkF st (m + 1) = blkF st st.length ∧ f = onlyF st m := by
  have := h _ (by omega) e
  rw [show st.length - (st.length - (m + 1)) = m + 1 by omega] at this
  exact this
theorem last_1 (hk : okS st) (h : LastI st pre f) (h1 : itm x.2.sort = wBr ∧ x.2.col = 0) : LastX st (pre ++ [x]) (-1) f := fun k hkl e => by
  obtain ⟨m, hm, _, hp, rfl⟩ := backs_snoc e hkl
  have hx : okT (st.getD m thg0) := hk.at (k := m) (by simp [List.getElem?_eq_getElem hm])
  have hs : (st.getD m thg0).sort = [123, 125] := (itm_is hx (s := [123, 125]) (by decide) (by decide)).1 h1
  refine ⟨?_, fun b hb => by omega⟩
  rw [← (h.at hm hp).1, blkF, if_neg (by rw [hs]; decide), if_pos hs]
theorem last_2 (h : LastI st pre f) (h1 : x.2.sort = []) : LastX st (pre ++ [x]) x.1 f := fun k hkl e => by
  obtain ⟨m, hm, _, hp, rfl⟩ := backs_snoc e hkl
  refine ⟨?_, fun b hb => ?_⟩
  · rw [← (h.at hm hp).1, blkF, if_pos h1]
  · obtain rfl : m = b := Int.ofNat.inj hb
    exact (h.at hm hp).2
theorem last_3 (hk : okS st) (h : LastI st pre f) (h1 : ¬ (itm x.2.sort = wBr ∧ x.2.col = 0)) (h2 : ¬ x.2.sort = []) {g : Bool} (hg : okT x.2 → g = decide (f = true ∧ looseP x.2)) : LastI st (pre ++ [x]) g := fun k hkl e => by
  obtain ⟨m, hm, rfl, hp, rfl⟩ := backs_snoc e hkl
  have hgx : st[m]? = some (st.getD m thg0) := by simp [List.getElem?_eq_getElem hm]
  have hx : okT (st.getD m thg0) := hk.at (k := m) hgx
  rw [show st.length - (st.length - m) = m by omega]
  refine ⟨?_, ?_⟩
  · rw [← (h.at hm hp).1, blkF, if_neg h2, if_neg fun e => h1 ((itm_is hx (s := [123, 125]) (by decide) (by decide)).2 e)]
  · rw [hg hx, (h.at hm hp).2]
    obtain ⟨_, hgx⟩ := List.getElem?_eq_some_iff.1 hgx
    rw [List.drop_eq_getElem_cons hm, List.all_cons, hgx, onlyF]
    cases (List.drop (m + 1) st).all fun x => decide (looseP x) <;> simp
theorem last_end (h : LastI st (backs st st.length) f) : LastX st (backs st st.length) (-1) f := fun k _ _ => by
  have := h _ (Nat.le_refl _) rfl
  rw [Nat.sub_self] at this
  exact ⟨this.1, fun b hb => by omega⟩
end
end Go.Proofs.YtnnagjbkpmkelaaDoor
