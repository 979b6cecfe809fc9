/- GW20: opening what a call is handed, deep: what a row of cells is read as, and what holds of it in the world, and how it fits its reading. -/
import Derived.Test.YtglienidnffnjaaGw19
import Derived.ChangeArms
import Derived.OpenShut
namespace Go.Proofs.Ytglienidnffnjaa
open Go Go.WideShapes Go.Deep
def ReadQ (α : Type) := {H : Type} → World → α → DataW H → Prop
def CodF {α : Type} (P : Program) (t : TypeId) (E : Enc α) (Q : ReadQ α) (fuel : Nat) : Prop :=
  ∀ {H : Type} (enc : TypeId × Value → H) (w : World) (sp : Nat → Bool) (cs : List Value) (x : DataW H × List MemPlace),
    DataW.trod enc P w 0 sp true fuel t cs = some x → ∃ a : α, cs = E.cells a ∧ Q w a x.1
/-- The elements of a slice fit their readings. -/
def SlQ {α : Type} (Q : ReadQ α) {H : Type} (w : World) (l : List α) (d : DataW H) : Prop :=
  (d = .nil ∧ l = []) ∨ ∃ elems spare, d = .slice elems spare ∧ elems.length = l.length ∧ ∀ (i : Nat) a e, l[i]? = some a → elems[i]? = some e → Q w a e
section
variable {P : Program} {α : Type} {E : Enc α} {Q : ReadQ α} {H : Type} {enc : TypeId × Value → H} {w : World} {sp : Nat → Bool} {cs : List Value} {x : DataW H × List MemPlace} {t e : TypeId}
theorem cod_slice {n : Nat} (ht : P.underlying t = some (.slice e)) (hc : P.cellsOf e = E.size) (h1 : 0 < E.size) (hcod : CodF P e E Q n) (h : DataW.trod enc P w 0 sp true (n + 1) t cs = some x) :
    ∃ v l, cs = [v] ∧ RdT w [] v E l ∧ SlQ Q w l x.1 := by
  rcases DataW.trod_slice ht h with ⟨rfl, rfl⟩ | ⟨a, len, cap, elems, rest, n', hn, rfl, rfl, _, hl, hm, hlen, hel, _, _⟩
  · exact ⟨_, [], rfl, Rd.nil w [] E.size, .inl ⟨rfl, rfl⟩⟩
  · obtain rfl : n = n' := by omega
    have each : ∀ i, i < len → ∃ y : α, (∀ k u, (E.cells y)[k]? = some u → w.cell? (a.add (i * E.size + k)) = some u) ∧ ∀ el, elems[i]? = some el → Q w y el.1 := by
      intro i hi
      have h2 := hel i hi
      rw [hc] at h2
      have h3 : i < elems.length := by omega
      rw [List.getElem?_eq_getElem h3] at h2
      obtain ⟨cs', g1, g2⟩ := Option.bind_eq_some_iff.1 h2
      obtain ⟨_, hlen', hcell⟩ := World.cells?_some g1
      obtain ⟨y, rfl, hq⟩ := hcod enc w _ _ _ g2
      refine ⟨y, fun k u hk => ?_, fun el hel' => ?_⟩
      · have hkl : k < E.size := by have := (List.getElem?_eq_some_iff.1 hk).1; rw [E.len] at this; exact this
        rw [← add_add', hcell k hkl]; exact hk
      · rw [List.getElem?_eq_getElem h3] at hel'
        cases hel'; exact hq
    have hex : ∀ m, m ≤ len → ∃ l : List α, l.length = m ∧ ∀ i y, l[i]? = some y → (∀ k u, (E.cells y)[k]? = some u → w.cell? (a.add (i * E.size + k)) = some u) ∧ ∀ el, elems[i]? = some el → Q w y el.1 := by
      intro m
      induction m with
      | zero => intro _; exact ⟨[], rfl, fun i y h => by simp at h⟩
      | succ k ih =>
        intro hk
        obtain ⟨l, hll, hlx⟩ := ih (by omega)
        obtain ⟨y, hy⟩ := each k (by omega)
        refine ⟨l ++ [y], by simp [hll], fun i z hz => ?_⟩
        by_cases hi : i < l.length
        · rw [List.getElem?_append_left hi] at hz; exact hlx i z hz
        · rw [List.getElem?_append_right (by omega)] at hz
          have : i - l.length = 0 := by
            cases hd : i - l.length with
            | zero => rfl
            | succ q => rw [hd] at hz; simp at hz
          rw [this] at hz
          obtain rfl : y = z := by simpa using hz
          obtain rfl : i = k := by omega
          exact hy
    obtain ⟨l, hll, hlx⟩ := hex len (Nat.le_refl _)
    subst hll
    refine ⟨_, l, rfl, ⟨flat_len E l, some a, cap, rfl, hl, hm, fun h0 => ⟨a, rfl, by simp, ?_, fun j u hj => ?_⟩⟩, .inr ⟨_, _, rfl, by simpa using hlen, fun i y d hy hd => ?_⟩⟩
    · obtain ⟨y, hy0⟩ : ∃ y, l[0]? = some y := ⟨_, List.getElem?_eq_getElem h0⟩
      have hlen : 0 < (E.cells y).length := by rw [E.len]; exact h1
      have := (hlx 0 y hy0).1 0 _ (List.getElem?_eq_getElem hlen)
      obtain ⟨o, ho, _⟩ := cells_of_cell this
      have := (Array.getElem?_eq_some_iff.1 ho).1
      rwa [block_add] at this
    · obtain ⟨i, k, y, g1, g2, rfl⟩ := flat_at' E hj
      exact (hlx i y g1).1 k u g2
    · rw [List.getElem?_map] at hd
      obtain ⟨el, he, rfl⟩ := Option.map_eq_some_iff.1 hd
      exact (hlx i y hy).2 el he
/-- A handed-in slice. -/
theorem open_sl {v : Value} {d : DataW H} {p : List MemPlace} {base : Nat} {r : Reach} (ht : P.underlying t = some (.slice e)) (hc : P.cellsOf e = E.size) (h1 : 0 < E.size) (hcod : ∀ n, CodF P e E Q n)
    (hval : Value.okWide P w r base t v) (h : DataW.Trod enc P w 0 sp true t v d p) : ∃ l : List α, RdT w [] v E l ∧ SlQ Q w l d := by
  obtain ⟨A, len, cap, rfl⟩ := okWide_slice ht hval
  obtain ⟨fuel, h⟩ := h
  cases fuel with
  | zero => simp [DataW.trod] at h
  | succ n =>
    obtain ⟨v, l, hv, hR, hQ⟩ := cod_slice (n := n) ht hc h1 (hcod n) h
    have : (Value.slice A len cap) = v := by
      have e : (Value.slice A len cap).cells.toList = [.slice A len cap] := rfl
      rw [e] at hv
      simpa using hv
    subst this
    exact ⟨l, hR, hQ⟩
/-- A field of a struct. -/
theorem cod_field {fs : Array Field} {n : Nat} {xs : List (DataW H × List MemPlace)} (hx : xs.length = fs.size)
    (hf : ∀ (i : Nat) (f : Field), fs[i]? = some f → DataW.trod enc P w 0 sp true n f.type ((cs.drop f.offset).take (P.cellsOf f.type)) = xs[i]?) (i ty off sz : Nat) (hi : (fs[i]?).map (fun f => (f.type, f.offset)) = some (ty, off)) (hs : P.cellsOf ty = sz) :
    ∃ y, xs[i]? = some y ∧ DataW.trod enc P w 0 sp true n ty ((cs.drop off).take sz) = some y := by
  obtain ⟨f, hfi, hfe⟩ := Option.map_eq_some_iff.1 hi
  obtain ⟨rfl, rfl⟩ := Prod.mk.inj hfe
  subst hs
  have h2 := hf i f hfi
  have hlt : i < xs.length := by rw [hx]; exact (Array.getElem?_eq_some_iff.1 hfi).1
  exact ⟨_, List.getElem?_eq_getElem hlt, h2.trans (List.getElem?_eq_getElem hlt)⟩
/-- numbers, alone -/
def intQ : ReadQ Int := fun _ n _ => -9223372036854775808 ≤ n ∧ n ≤ 9223372036854775807
theorem cod_i64 (ht : P.underlying t = some (.int .i64)) (n : Nat) : CodF P t intE intQ n := by
  intro H enc w sp cs x h
  obtain ⟨n, hc, _, hw⟩ := DataW.trod_int ht h
  exact ⟨n, hc, wf_i64 hw⟩
theorem SlQ.len {l : List α} {d : DataW H} (h : SlQ Q w l d) : d = .nil ∧ l = [] ∨ ∃ elems spare, d = .slice elems spare ∧ elems.length = l.length := by
  rcases h with h | ⟨el, sp, h1, h2, _⟩
  · exact .inl h
  · exact .inr ⟨el, sp, h1, h2⟩
theorem SlQ.all {l : List α} {d : DataW H} (h : SlQ Q w l d) {R : α → Prop} (hR : ∀ a (e : DataW H), Q w a e → R a) : ∀ a ∈ l, R a := by
  rcases h with ⟨_, rfl⟩ | ⟨el, sp, _, h2, h3⟩
  · intro a ha; cases ha
  · intro a ha
    obtain ⟨i, hi⟩ := List.getElem?_of_mem ha
    have hlt := (List.getElem?_eq_some_iff.1 hi).1
    exact hR a _ (h3 i a _ hi (List.getElem?_eq_getElem (by omega)))
end
end Go.Proofs.Ytglienidnffnjaa
