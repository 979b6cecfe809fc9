/- What words and ops are read as. -/
import Derived.Test.YtglienidnffnjaaPl14
import Derived.Test.YtglienidnffnjaaLb
namespace Go.Proofs.Ytglienidnffnjaa
open Go
set_option linter.unusedVariables false
set_option maxRecDepth 100000
def wordR : ReadQ Wd := fun _ a _ => (-9223372036854775808 ≤ a.n ∧ a.n ≤ 9223372036854775807)
theorem cod_word (n : Nat) : CodF Try.prog 27 wordE wordR n := by
  intro H enc w sp cs x h
  obtain ⟨xs, k, rfl, hx, hl, hxl, hf⟩ := DataW.trod_struct Try.underlying27 h
  rw [show Try.prog.cellsOf 27 = 2 by kernel_rfl] at hl
  obtain ⟨y0, g0, h0⟩ := cod_field hxl hf 0 4 0 1 rfl (by kernel_rfl)
  obtain ⟨n0, c0, e0⟩ := DataW.trod_bool Try.underlying4 h0
  obtain ⟨y1, g1, h1⟩ := cod_field hxl hf 1 3 1 1 rfl (by kernel_rfl)
  obtain ⟨n1, c1, e1, w1⟩ := DataW.trod_int Try.underlying3 h1
  obtain ⟨z0, z1, rfl⟩ : ∃ z0 z1, cs = [z0, z1] := by
    match cs, hl with
    | [z0, z1], _ => exact ⟨_, _, rfl⟩
  simp only [List.drop_succ_cons, List.drop_zero, List.take_succ_cons, List.take_zero, List.cons.injEq, and_true] at c0 c1
  subst c0 c1
  exact ⟨⟨n0, n1⟩, rfl, wf_i64 w1⟩
def opR : ReadQ OpV := fun w a d => (-9223372036854775808 ≤ a.ask ∧ a.ask ≤ 9223372036854775807) ∧ (-9223372036854775808 ≤ a.kind ∧ a.kind ≤ 9223372036854775807) ∧ (-9223372036854775808 ≤ a.info ∧ a.info ≤ 9223372036854775807) ∧ RdT w [] a.fh.v wordE a.fs ∧ (∃ ds e, d = .agg ds ∧ e ∈ ds ∧ SlQ wordR w a.fs e) ∧ (-9223372036854775808 ≤ a.at_ ∧ a.at_ ≤ 9223372036854775807) ∧ (-9223372036854775808 ≤ a.n ∧ a.n ≤ 9223372036854775807)
theorem cod_op (n : Nat) : CodF Try.prog 39 opE opR n := by
  intro H enc w sp cs x h
  obtain ⟨xs, k, rfl, hx, hl, hxl, hf⟩ := DataW.trod_struct Try.underlying39 h
  rw [show Try.prog.cellsOf 39 = 7 by kernel_rfl] at hl
  cases k with
  | zero => obtain ⟨y, _, hy⟩ := cod_field hxl hf 0 3 0 1 rfl (by kernel_rfl); simp [DataW.trod] at hy
  | succ k =>
  obtain ⟨y0, g0, h0⟩ := cod_field hxl hf 0 3 0 1 rfl (by kernel_rfl)
  obtain ⟨n0, c0, e0, w0⟩ := DataW.trod_int Try.underlying3 h0
  obtain ⟨y1, g1, h1⟩ := cod_field hxl hf 1 3 1 1 rfl (by kernel_rfl)
  obtain ⟨n1, c1, e1, w1⟩ := DataW.trod_int Try.underlying3 h1
  obtain ⟨y2, g2, h2⟩ := cod_field hxl hf 2 3 2 1 rfl (by kernel_rfl)
  obtain ⟨n2, c2, e2, w2⟩ := DataW.trod_int Try.underlying3 h2
  obtain ⟨y3, g3, h3⟩ := cod_field hxl hf 3 37 3 1 rfl (by kernel_rfl)
  obtain ⟨v3, l3, c3, R3, S3⟩ := cod_slice Try.underlying37 (by kernel_rfl) (by decide) (cod_word _) h3
  obtain ⟨q3, rfl⟩ := Rd.hdr R3
  obtain ⟨y4, g4, h4⟩ := cod_field hxl hf 4 4 4 1 rfl (by kernel_rfl)
  obtain ⟨n4, c4, e4⟩ := DataW.trod_bool Try.underlying4 h4
  obtain ⟨y5, g5, h5⟩ := cod_field hxl hf 5 3 5 1 rfl (by kernel_rfl)
  obtain ⟨n5, c5, e5, w5⟩ := DataW.trod_int Try.underlying3 h5
  obtain ⟨y6, g6, h6⟩ := cod_field hxl hf 6 3 6 1 rfl (by kernel_rfl)
  obtain ⟨n6, c6, e6, w6⟩ := DataW.trod_int Try.underlying3 h6
  obtain ⟨z0, z1, z2, z3, z4, z5, z6, rfl⟩ : ∃ z0 z1 z2 z3 z4 z5 z6, cs = [z0, z1, z2, z3, z4, z5, z6] := by
    match cs, hl with
    | [z0, z1, z2, z3, z4, z5, z6], _ => exact ⟨_, _, _, _, _, _, _, rfl⟩
  simp only [List.drop_succ_cons, List.drop_zero, List.take_succ_cons, List.take_zero, List.cons.injEq, and_true] at c0 c1 c2 c3 c4 c5 c6
  subst c0 c1 c2 c3 c4 c5 c6
  exact ⟨⟨n0, n1, n2, q3, n4, n5, n6, l3⟩, rfl, ⟨wf_i64 w0, wf_i64 w1, wf_i64 w2, R3, ⟨_, _, congrArg Prod.fst hx, List.mem_map.2 ⟨y3, List.mem_of_getElem? g3, rfl⟩, S3⟩, wf_i64 w5, wf_i64 w6⟩⟩

theorem opR_Q {H : Type} {w : World} {a : OpV} {d : DataW H} (h : opR w a d) (hb : Rows.uptoBulk d ≤ 1048576) : opQ w a := by
  obtain ⟨_, _, _, hR, ⟨ds, e, rfl, he, hs⟩, _⟩ := h
  refine ⟨hR, ?_⟩
  have h1 := bulk_sl hs
  have h2 := bulk_mem he
  simp only [Rows.uptoBulk] at hb
  omega
theorem ops_Q {H : Type} {w : World} {l : List OpV} {d : DataW H} (h : SlQ opR w l d) (hb : Rows.uptoBulk d ≤ 1048576) : ∀ x ∈ l, opQ w x := by
  rcases h with ⟨_, rfl⟩ | ⟨el, sp, rfl, h2, h3⟩
  · intro x hx; cases hx
  · intro x hx
    obtain ⟨i, hi⟩ := List.getElem?_of_mem hx
    have hlt := (List.getElem?_eq_some_iff.1 hi).1
    have hi2 : el[i]? = some _ := List.getElem?_eq_getElem (show i < el.length by omega)
    refine opR_Q (h3 i x _ hi hi2) ?_
    have := bulk_mem (List.mem_of_getElem? hi2)
    simp only [Rows.uptoBulk] at hb
    omega
def rowR : ReadQ (Hdr × List Int) := fun w a d => RdT w [] a.1.v intE a.2 ∧ SlQ intQ w a.2 d
theorem cod_row (n : Nat) : CodF Try.prog 36 hrE rowR n := by
  intro H enc w sp cs x h
  cases n with
  | zero => simp [DataW.trod] at h
  | succ n =>
    obtain ⟨v, l, rfl, R, S⟩ := cod_slice Try.underlying36 (by kernel_rfl) (by decide) (cod_i64 Try.underlying3 _) h
    obtain ⟨q, rfl⟩ := Rd.hdr R
    exact ⟨(q, l), rfl, R, S⟩
end Go.Proofs.Ytglienidnffnjaa
