/- What types, pairs of types and subs are read as. -/
import Derived.Test.YtfkmlcgccffmnaaPu8
import Derived.Test.YtfkmlcgccffmnaaGw22
import Derived.Test.YtfkmlcgccffmnaaLb
import Derived.OpenShut
namespace Go.Proofs.Ytfkmlcgccffmnaa
open Go Go.WideShapes
set_option linter.unusedVariables false
set_option maxRecDepth 100000
def typeR : ReadQ TN := fun w a d => RdN w [] a ∧ wtF a.er ≤ Rows.uptoBulk d
theorem wtL_bulk {H : Type} : ∀ {l : List TN} {el : List (DataW H)}, el.length = l.length → (∀ (i : Nat) a e, l[i]? = some a → el[i]? = some e → wtF a.er ≤ Rows.uptoBulk e) → wtL (l.map TN.er) ≤ Rows.uptoBulkAll el
  | [], _, _, _ => by simp [wtL]
  | a :: l, [], h, _ => by simp at h
  | a :: l, e :: el, h, hq => by
    have h1 := hq 0 a e rfl rfl
    have h2 := wtL_bulk (l := l) (el := el) (by simpa using h) fun i a e g1 g2 => hq (i + 1) a e (by simpa using g1) (by simpa using g2)
    simp only [List.map_cons, wtL, Rows.uptoBulkAll]; omega
theorem cod_type (n : Nat) : CodF Try.prog 33 tnE typeR n := by
  induction n using Nat.strongRecOn with
  | _ n ih =>
  intro H enc w sp cs x h
  obtain ⟨xs, k, rfl, hx, hl, hxl, hf⟩ := DataW.trod_struct Try.underlying33 h
  rw [show Try.prog.cellsOf 33 = 3 by kernel_rfl] at hl
  cases k with
  | zero => obtain ⟨y, _, hy⟩ := cod_field hxl hf 0 3 0 1 rfl (by kernel_rfl); simp [DataW.trod] at hy
  | succ k =>
  obtain ⟨y0, g0, h0⟩ := cod_field hxl hf 0 3 0 1 rfl (by kernel_rfl)
  obtain ⟨n0, c0, e0, w0⟩ := DataW.trod_int Try.underlying3 h0
  obtain ⟨y1, g1, h1⟩ := cod_field hxl hf 1 9 1 1 rfl (by kernel_rfl)
  obtain ⟨n1, c1, e1, w1⟩ := DataW.trod_string Try.underlying9 h1
  obtain ⟨y2, g2, h2⟩ := cod_field hxl hf 2 31 2 1 rfl (by kernel_rfl)
  obtain ⟨v2, l2, c2, R2, S2⟩ := cod_slice Try.underlying31 (by kernel_rfl) (by decide) (ih k (by omega)) h2
  obtain ⟨q2, rfl⟩ := Rd.hdr R2
  obtain ⟨z0, z1, z2, rfl⟩ : ∃ z0 z1 z2, cs = [z0, z1, z2] := by
    match cs, hl with
    | [z0, z1, z2], _ => exact ⟨_, _, _, rfl⟩
  simp only [List.drop_succ_cons, List.drop_zero, List.take_succ_cons, List.take_zero, List.cons.injEq, and_true] at c0 c1 c2
  subst c0 c1 c2
  have hxl' : xs.length = 3 := hxl
  obtain ⟨a, b, c, rfl⟩ : ∃ a b c, xs = [a, b, c] := by
    match xs, hxl' with
    | [a, b, c], _ => exact ⟨_, _, _, rfl⟩
  obtain rfl : a = y0 := by simpa using g0
  obtain rfl : b = y1 := by simpa using g1
  obtain rfl : c = y2 := by simpa using g2
  subst hx
  refine ⟨.mk n0 n1.data.toList q2 l2, by rw [bytes_str]; rfl, RdN.mk R2 (S2.all fun a e h => h.1), ?_⟩
  rw [er_mk]
  have hb : wtL (l2.map TN.er) ≤ Rows.uptoBulk c.1 := by
    rcases S2 with ⟨_, rfl⟩ | ⟨el, spr, h3, h4, h5⟩
    · simp [wtL]
    · have := wtL_bulk h4 fun i a e g g' => (h5 i a e g g').2
      rw [h3]; simp only [Rows.uptoBulk]; omega
  have hb1 : Rows.uptoBulk b.1 = n1.data.toList.length + 1 := by rw [e1]; rfl
  simp only [wtF, Rows.uptoBulk, Rows.uptoBulkAll, List.map_cons, List.map_nil]
  omega
def pairR : ReadQ TN2 := fun w a d => (RdN w [] a.1 ∧ RdN w [] a.2) ∧ wtF a.1.er ≤ Rows.uptoBulk d ∧ wtF a.2.er ≤ Rows.uptoBulk d
theorem cod_pair (n : Nat) : CodF Try.prog 34 prE pairR n := by
  intro H enc w sp cs x h
  obtain ⟨xs, k, rfl, hx, hl, hxl, hf⟩ := DataW.trod_array Try.underlying34 h
  rw [show Try.prog.cellsOf 34 = 6 by kernel_rfl] at hl
  have h0 := hf 0 (by decide)
  have h1 := hf 1 (by decide)
  rw [show Try.prog.cellsOf 33 = 3 by kernel_rfl] at h0 h1
  obtain ⟨a, b, rfl⟩ : ∃ a b, xs = [a, b] := by
    match xs, hxl with
    | [a, b], _ => exact ⟨_, _, rfl⟩
  obtain ⟨t, c0, R0, B0⟩ := cod_type _ enc w sp _ _ h0
  obtain ⟨u, c1, R1, B1⟩ := cod_type _ enc w sp _ _ h1
  obtain ⟨z0, z1, z2, z3, z4, z5, rfl⟩ : ∃ z0 z1 z2 z3 z4 z5, cs = [z0, z1, z2, z3, z4, z5] := by
    match cs, hl with
    | [z0, z1, z2, z3, z4, z5], _ => exact ⟨_, _, _, _, _, _, rfl⟩
  have c0' : [z0, z1, z2] = tnE.cells t := c0
  have c1' : [z3, z4, z5] = tnE.cells u := c1
  subst hx
  refine ⟨(t, u), ?_, ⟨R0, R1⟩, ?_, ?_⟩
  · show [z0, z1, z2] ++ [z3, z4, z5] = tnE.cells t ++ tnE.cells u
    rw [c0', c1']
  · show wtF t.er ≤ _
    simp only [Rows.uptoBulk, Rows.uptoBulkAll, List.map_cons, List.map_nil]; omega
  · show wtF u.er ≤ _
    simp only [Rows.uptoBulk, Rows.uptoBulkAll, List.map_cons, List.map_nil]; omega
def subR : ReadQ SbN := fun w a d => RdN w [] a.t ∧ wtF a.t.er ≤ Rows.uptoBulk d ∧ a.name.length ≤ Rows.uptoBulk d
theorem cod_sub (n : Nat) : CodF Try.prog 45 sbE subR n := by
  intro H enc w sp cs x h
  obtain ⟨xs, k, rfl, hx, hl, hxl, hf⟩ := DataW.trod_struct Try.underlying45 h
  rw [show Try.prog.cellsOf 45 = 4 by kernel_rfl] at hl
  obtain ⟨y0, g0, h0⟩ := cod_field hxl hf 0 9 0 1 rfl (by kernel_rfl)
  obtain ⟨n0, c0, e0, w0⟩ := DataW.trod_string Try.underlying9 h0
  obtain ⟨y1, g1, h1⟩ := cod_field hxl hf 1 33 1 3 rfl (by kernel_rfl)
  obtain ⟨t, c1, R1, B1⟩ := cod_type _ enc w sp _ _ h1
  obtain ⟨z0, z1, z2, z3, rfl⟩ : ∃ z0 z1 z2 z3, cs = [z0, z1, z2, z3] := by
    match cs, hl with
    | [z0, z1, z2, z3], _ => exact ⟨_, _, _, _, rfl⟩
  have c1' : [z1, z2, z3] = tnE.cells t := c1
  simp only [List.drop_succ_cons, List.drop_zero, List.take_succ_cons, List.take_zero, List.cons.injEq, and_true] at c0
  subst c0
  have hxl' : xs.length = 2 := hxl
  obtain ⟨a, b, rfl⟩ : ∃ a b, xs = [a, b] := by
    match xs, hxl' with
    | [a, b], _ => exact ⟨_, _, rfl⟩
  obtain rfl : a = y0 := by simpa using g0
  obtain rfl : b = y1 := by simpa using g1
  subst hx
  have hb1 : Rows.uptoBulk a.1 = n0.data.toList.length + 1 := by rw [e0]; rfl
  refine ⟨⟨n0.data.toList, t⟩, ?_, R1, ?_, ?_⟩
  · show _ :: [z1, z2, z3] = str n0.data.toList :: tnE.cells t
    rw [bytes_str, c1']
  · show wtF t.er ≤ _
    simp only [Rows.uptoBulk, Rows.uptoBulkAll, List.map_cons, List.map_nil]; omega
  · show n0.data.toList.length ≤ _
    simp only [Rows.uptoBulk, Rows.uptoBulkAll, List.map_cons, List.map_nil]; omega
theorem slQ_of {α H : Type} {Q : ReadQ α} {w : World} {l : List α} {d : DataW H} {N : Nat} (h : SlQ Q w l d) (hb : Rows.uptoBulk d ≤ N) {R : α → Prop} (hR : ∀ a (e : DataW H), Q w a e → Rows.uptoBulk e ≤ N → R a) : ∀ a ∈ l, R a := by
  rcases h with ⟨_, rfl⟩ | ⟨el, sp, rfl, h2, h3⟩
  · intro x hx; cases hx
  · intro x hx
    obtain ⟨i, hi⟩ := List.getElem?_of_mem hx
    have hlt := (List.getElem?_eq_some_iff.1 hi).1
    have hi2 : el[i]? = some _ := List.getElem?_eq_getElem (show i < el.length by omega)
    refine hR x _ (h3 i x _ hi hi2) ?_
    have := bulk_mem (List.mem_of_getElem? hi2)
    simp only [Rows.uptoBulk] at hb
    omega
theorem open_type {H : Type} {enc : TypeId × Value → H} {W : World} {base : Nat} {r : Reach} {v : Value} {d : DataW H} {p : List MemPlace} (hval : Value.okWide Try.prog W r base 33 v) (h : DataW.Trod enc Try.prog W 0 (fun _ => true) true 33 v d p) (hb : Rows.uptoBulk d ≤ 1048576) :
    ∃ t : TN, v = .agg (tnE.cells t).toArray ∧ RdN W [] t ∧ wtF t.er ≤ 1048576 := by
  obtain ⟨cs, rfl, _⟩ := okWide_struct Try.underlying33 hval
  obtain ⟨fuel, h⟩ := h
  obtain ⟨t, hc, hR, hB⟩ := cod_type fuel enc W _ _ _ h
  have hc' : cs.toList = tnE.cells t := hc
  exact ⟨t, by rw [← hc'], hR, Nat.le_trans hB hb⟩
end Go.Proofs.Ytfkmlcgccffmnaa
