/- What the ops of layer 19 are read as. -/
import Derived.Test.YtglienidnffnjaaLo
import Derived.Test.YtglienidnffnjaaKd
namespace Go.Proofs.Ytglienidnffnjaa
open Go
set_option linter.unusedVariables false
set_option maxRecDepth 100000
def opgR : ReadQ OpG := fun w a d => RdT w [] a.fh.v wordE a.fs ∧ (∃ ds e, d = .agg ds ∧ e ∈ ds ∧ SlQ wordR w a.fs e)
theorem cod_opg (n : Nat) : CodF Try.prog 65 opgE opgR n := by
  intro H enc w sp cs x h
  obtain ⟨xs, k, rfl, hx, hl, hxl, hf⟩ := DataW.trod_struct Try.underlying65 h
  rw [show Try.prog.cellsOf 65 = 7 by kernel_rfl] at hl
  cases k with
  | zero => obtain ⟨y, _, hy⟩ := cod_field hxl hf 0 3 0 1 rfl (by kernel_rfl); simp [DataW.trod] at hy
  | succ k =>
  obtain ⟨y0, g0, h0⟩ := cod_field hxl hf 0 3 0 1 rfl (by kernel_rfl)
  obtain ⟨n0, c0, e0, w0⟩ := DataW.trod_int Try.underlying3 h0
  obtain ⟨y1, g1, h1⟩ := cod_field hxl hf 1 3 1 1 rfl (by kernel_rfl)
  obtain ⟨n1, c1, e1, w1⟩ := DataW.trod_int Try.underlying3 h1
  obtain ⟨y2, g2, h2⟩ := cod_field hxl hf 2 3 2 1 rfl (by kernel_rfl)
  obtain ⟨n2, c2, e2, w2⟩ := DataW.trod_int Try.underlying3 h2
  obtain ⟨y3, g3, h3⟩ := cod_field hxl hf 3 37 3 1 rfl (by kernel_rfl)
  obtain ⟨v3, l3, c3, R3, S3⟩ := cod_slice Try.underlying37 (by kernel_rfl) (by decide) (cod_word _) h3
  obtain ⟨q3, rfl⟩ := Rd.hdr R3
  obtain ⟨y4, g4, h4⟩ := cod_field hxl hf 4 3 4 1 rfl (by kernel_rfl)
  obtain ⟨n4, c4, e4, w4⟩ := DataW.trod_int Try.underlying3 h4
  obtain ⟨y5, g5, h5⟩ := cod_field hxl hf 5 3 5 1 rfl (by kernel_rfl)
  obtain ⟨n5, c5, e5, w5⟩ := DataW.trod_int Try.underlying3 h5
  obtain ⟨y6, g6, h6⟩ := cod_field hxl hf 6 36 6 1 rfl (by kernel_rfl)
  obtain ⟨v6, l6, c6, R6, S6⟩ := cod_slice Try.underlying36 (by kernel_rfl) (by decide) (cod_i64 Try.underlying3 _) h6
  obtain ⟨q6, rfl⟩ := Rd.hdr R6
  obtain ⟨z0, z1, z2, z3, z4, z5, z6, rfl⟩ : ∃ z0 z1 z2 z3 z4 z5 z6, cs = [z0, z1, z2, z3, z4, z5, z6] := by
    match cs, hl with
    | [z0, z1, z2, z3, z4, z5, z6], _ => exact ⟨_, _, _, _, _, _, _, rfl⟩
  simp only [List.drop_succ_cons, List.drop_zero, List.take_succ_cons, List.take_zero, List.cons.injEq, and_true] at c0 c1 c2 c3 c4 c5 c6
  subst c0 c1 c2 c3 c4 c5 c6
  exact ⟨⟨n0, n1, n2, q3, n4, n5, q6, l3, l6⟩, rfl, R3, ⟨_, _, congrArg Prod.fst hx, List.mem_map.2 ⟨y3, List.mem_of_getElem? g3, rfl⟩, S3⟩⟩
theorem opgR_Q {H : Type} {w : World} {a : OpG} {d : DataW H} (h : opgR w a d) (hb : Rows.uptoBulk d ≤ 1048576) : opgQ w a := by
  obtain ⟨hR, ⟨ds, e, rfl, he, hs⟩⟩ := h
  refine ⟨hR, ?_⟩
  have h1 := bulk_sl hs
  have h2 := bulk_mem he
  simp only [Rows.uptoBulk] at hb
  omega
theorem opgs_Q {H : Type} {w : World} {l : List OpG} {d : DataW H} (h : SlQ opgR w l d) (hb : Rows.uptoBulk d ≤ 1048576) : ∀ x ∈ l, opgQ w x := by
  rcases h with ⟨_, rfl⟩ | ⟨el, sp, rfl, h2, h3⟩
  · intro x hx; cases hx
  · intro x hx
    obtain ⟨i, hi⟩ := List.getElem?_of_mem hx
    have hlt := (List.getElem?_eq_some_iff.1 hi).1
    have hi2 : el[i]? = some _ := List.getElem?_eq_getElem (show i < el.length by omega)
    refine opgR_Q (h3 i x _ hi hi2) ?_
    have := bulk_mem (List.mem_of_getElem? hi2)
    simp only [Rows.uptoBulk] at hb
    omega
end Go.Proofs.Ytglienidnffnjaa
