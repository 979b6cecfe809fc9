/- GW15: opening what a call is handed: slices whose elements are read cell by cell. -/
import Derived.Test.YtanpeofnlihhoaaDoorGw14
import Derived.Deep.Slices
import Derived.WideShapes
import Derived.Carry
namespace Go.Proofs.YtanpeofnlihhoaaDoor
open Go Go.WideShapes Go.Deep
/-- Cells that are read as data of a type are a thing's cells. -/
def Cod {α : Type} (P : Program) (t : TypeId) (E : Enc α) (Q : α → Prop) : Prop :=
  ∀ {H : Type} (enc : TypeId × Value → H) (w : World) (base : Nat) (sp : Nat → Bool) (held : Bool) (fuel : Nat) (cs : List Value) (x : DataW H × List MemPlace),
    DataW.trod enc P w base sp held fuel t cs = some x → ∃ a : α, cs = E.cells a ∧ Q a
theorem flat_at' {α : Type} (E : Enc α) : ∀ {l : List α} {j : Nat} {u : Value}, (flat E l)[j]? = some u → ∃ i k x, l[i]? = some x ∧ (E.cells x)[k]? = some u ∧ j = i * E.size + k
  | [], j, u, h => by simp [flat] at h
  | x :: l, j, u, h => by
    have e : flat E (x :: l) = E.cells x ++ flat E l := by simp [flat]
    rw [e] at h
    by_cases hj : j < (E.cells x).length
    · rw [List.getElem?_append_left hj] at h
      exact ⟨0, j, x, rfl, h, by omega⟩
    · rw [List.getElem?_append_right (by omega)] at h
      obtain ⟨i, k, y, h1, h2, h3⟩ := flat_at' E h
      refine ⟨i + 1, k, y, by simpa using h1, h2, ?_⟩
      rw [E.len] at h3 hj
      rw [Nat.add_mul]; omega
section
variable {P : Program} {α : Type} {E : Enc α} {Q : α → Prop}
theorem open_rd {H : Type} {enc : TypeId × Value → H} {W : World} {t e : TypeId} {v : Value} {d : DataW H} {p : List MemPlace} {base : Nat} {r : Reach} (ht : P.underlying t = some (.slice e)) (hc : P.cellsOf e = E.size) (h1 : 0 < E.size) (hcod : Cod P e E Q)
    (hval : Value.okWide P W r base t v) (h : DataW.Trod enc P W 0 (fun _ => true) true t v d p) :
    ∃ l : List α, RdT W [] v E l ∧ (∀ a ∈ l, Q a) ∧ (d = .nil ∧ l = [] ∨ ∃ elems spare, d = .slice elems spare ∧ elems.length = l.length) := by
  obtain ⟨A, len, cap, rfl⟩ := okWide_slice ht hval
  obtain ⟨fuel, h⟩ := h
  have ecs : (Value.slice A len cap).cells.toList = [.slice A len cap] := rfl
  rw [ecs] at h
  rcases open_slice ht h with ⟨hcs, hx⟩ | ⟨a, len', cap', m, n, D, Pl, hcs, _, hl, hm, hmm, hx, hel⟩
  · simp only [List.cons.injEq, Value.slice.injEq, and_true] at hcs
    obtain ⟨rfl, rfl, rfl⟩ := hcs
    exact ⟨[], Rd.nil W [] E.size, fun _ h => (by cases h), .inl ⟨(Prod.mk.inj hx).1, rfl⟩⟩
  · simp only [List.cons.injEq, Value.slice.injEq, and_true] at hcs
    obtain ⟨rfl, rfl, rfl⟩ := hcs
    simp only [if_true] at hmm
    subst hmm
    have each : ∀ i, i < m → ∃ x : α, (∀ k u, (E.cells x)[k]? = some u → W.cell? (a.add (i * E.size + k)) = some u) ∧ Q x := by
      intro i hi
      obtain ⟨cs', g1, g2⟩ := hel i hi
      rw [hc] at g1
      obtain ⟨_, hlen, hcell⟩ := World.cells?_some g1
      obtain ⟨x, rfl, hq⟩ := hcod enc W _ _ _ _ _ _ g2
      refine ⟨x, fun k u hk => ?_, hq⟩
      have hkl : k < E.size := by have := (List.getElem?_eq_some_iff.1 hk).1; rw [E.len] at this; exact this
      rw [← add_add', hcell k hkl]; exact hk
    have hex : ∃ l : List α, l.length = len ∧ (∀ i x, l[i]? = some x → (∀ k u, (E.cells x)[k]? = some u → W.cell? (a.add (i * E.size + k)) = some u) ∧ Q x) := by
      clear hx hel h hval ecs
      revert hl
      induction len with
      | zero => intro _; exact ⟨[], rfl, fun i x h => by simp at h⟩
      | succ k ih =>
        intro hl
        obtain ⟨l, hll, hlx⟩ := ih (by omega)
        obtain ⟨x, hx, hq⟩ := each k (by omega)
        refine ⟨l ++ [x], by simp [hll], fun i y hy => ?_⟩
        by_cases hi : i < l.length
        · rw [List.getElem?_append_left hi] at hy; exact hlx i y hy
        · rw [List.getElem?_append_right (by omega)] at hy
          have : i - l.length = 0 := by
            cases hd : i - l.length with
            | zero => rfl
            | succ q => rw [hd] at hy; simp at hy
          rw [this] at hy
          obtain rfl : x = y := by simpa using hy
          obtain rfl : i = k := by omega
          exact ⟨hx, hq⟩
    obtain ⟨l, rfl, hlx⟩ := hex
    refine ⟨l, ⟨flat_len E l, some a, m, rfl, hl, hm, fun h0 => ⟨a, rfl, by simp, ?_, fun j u hj => ?_⟩⟩, fun x hx => ?_, .inr ⟨_, _, (Prod.mk.inj hx).1, by simp⟩⟩
    · obtain ⟨x, hx0⟩ : ∃ x, l[0]? = some x := ⟨_, List.getElem?_eq_getElem h0⟩
      have hlen : 0 < (E.cells x).length := by rw [E.len]; exact h1
      have := (hlx 0 x hx0).1 0 _ (List.getElem?_eq_getElem hlen)
      obtain ⟨o, ho, _⟩ := cells_of_cell this
      have := (Array.getElem?_eq_some_iff.1 ho).1
      rwa [block_add] at this
    · obtain ⟨i, k, x, g1, g2, rfl⟩ := flat_at' E hj
      exact (hlx i x g1).1 k u g2
    · obtain ⟨i, hi⟩ := List.getElem?_of_mem hx
      exact (hlx i x hi).2
end
theorem wf_i64 {n : Int} (h : (Lit.int .i64 n).wf = true) : -9223372036854775808 ≤ n ∧ n ≤ 9223372036854775807 := by
  simp [Lit.wf, IntKind.min, IntKind.max] at h
  exact ⟨of_decide_eq_true h.1, of_decide_eq_true h.2⟩
theorem bytes_str (s : ByteArray) : Value.string s = str s.data.toList := by simp [str]
end Go.Proofs.YtanpeofnlihhoaaDoor
