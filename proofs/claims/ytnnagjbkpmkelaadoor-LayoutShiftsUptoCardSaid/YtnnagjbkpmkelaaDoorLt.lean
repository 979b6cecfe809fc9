/- Layer 2's laws of any tokens: what their calls are handed. -/
import Derived.Test.YtnnagjbkpmkelaaDoorLc
import Derived.Test.YtnnagjbkpmkelaaDoorGw15
namespace Go.Proofs.YtnnagjbkpmkelaaDoor
open Go.ChangeShapes Go.WideShapes Go.ChangeAt Go.RowKit Go.ChangeMaps
set_option maxRecDepth 100000
theorem laidOut : laidOutB Tryd.prog = true := by kernel_rfl
theorem cells33 : Tryd.prog.cellsOf 33 = 5 := by kernel_rfl
theorem cells3 : Tryd.prog.cellsOf 3 = 1 := by kernel_rfl
theorem cells9 : Tryd.prog.cellsOf 9 = 1 := by kernel_rfl
theorem cod_tok : Cod Tryd.prog 33 tokE (fun _ => True) := by
  intro H enc w base sp held fuel cs x h
  obtain ⟨xs, k, _, _, hl, hxl, hf⟩ := DataW.trod_struct Tryd.underlying33 h
  rw [cells33] at hl
  have at_ : ∀ (i ty off : Nat), ((Tryd.prog.underlying 33).bind fun d => match d with | .struct fs => (fs[i]?).map (fun f => (f.type, f.offset)) | _ => none) = some (ty, off) → ∃ y, DataW.trod enc Tryd.prog w base sp held k ty ((cs.drop off).take (Tryd.prog.cellsOf ty)) = some y := by
    intro i ty off hi
    rw [Tryd.underlying33] at hi
    obtain ⟨f, hfi, hfe⟩ := Option.map_eq_some_iff.1 hi
    obtain ⟨rfl, rfl⟩ := Prod.mk.inj hfe
    have h2 := hf i f hfi
    have hlt : i < xs.length := by rw [hxl]; exact (Array.getElem?_eq_some_iff.1 hfi).1
    exact ⟨_, h2.trans (List.getElem?_eq_getElem hlt)⟩
  obtain ⟨y0, h0⟩ := at_ 0 3 0 (by rw [Tryd.underlying33]; rfl)
  obtain ⟨y1, h1⟩ := at_ 1 9 1 (by rw [Tryd.underlying33]; rfl)
  obtain ⟨y2, h2⟩ := at_ 2 3 2 (by rw [Tryd.underlying33]; rfl)
  obtain ⟨y3, h3⟩ := at_ 3 3 3 (by rw [Tryd.underlying33]; rfl)
  obtain ⟨y4, h4⟩ := at_ 4 3 4 (by rw [Tryd.underlying33]; rfl)
  obtain ⟨n0, c0, _, _⟩ := DataW.trod_int Tryd.underlying3 h0
  obtain ⟨s1, c1, _, _⟩ := DataW.trod_string Tryd.underlying9 h1
  obtain ⟨n2, c2, _, _⟩ := DataW.trod_int Tryd.underlying3 h2
  obtain ⟨n3, c3, _, _⟩ := DataW.trod_int Tryd.underlying3 h3
  obtain ⟨n4, c4, _, _⟩ := DataW.trod_int Tryd.underlying3 h4
  obtain ⟨a, b, c, d, e, rfl⟩ : ∃ a b c d e, cs = [a, b, c, d, e] := by
    match cs, hl with
    | [a, b, c, d, e], _ => exact ⟨_, _, _, _, _, rfl⟩
  simp only [cells3, cells9, List.drop_succ_cons, List.drop_zero, List.take_succ_cons, List.take_zero, List.cons.injEq, and_true] at c0 c1 c2 c3 c4
  subst c0 c1 c2 c3 c4
  exact ⟨⟨n0, s1.data.toList, n2, n3, n4⟩, by rw [bytes_str]; rfl, trivial⟩
theorem bulk_pos {H : Type} (d : DataW H) : 1 ≤ Rows.uptoBulk d := by
  cases d with
  | lit l => cases l <;> simp [Rows.uptoBulk]
  | _ => simp [Rows.uptoBulk]
theorem bulk_len {H : Type} (l : List (DataW H)) : l.length ≤ Rows.uptoBulkAll l := by
  induction l with
  | nil => simp [Rows.uptoBulkAll]
  | cons x r ih => have := bulk_pos x; simp only [Rows.uptoBulkAll, List.length_cons]; omega
theorem bulk_head {H : Type} {d : DataW H} {r : List (DataW H)} (hk : Rows.uptoSmall H (d :: r) = true) : Rows.uptoBulk d ≤ 1048576 := by
  have h := of_decide_eq_true hk
  simp only [Rows.uptoBulkAll] at h
  omega
theorem bulk_toks {H : Type} {d : DataW H} {ts : List Tok} (hd : d = .nil ∧ ts = [] ∨ ∃ elems spare, d = .slice elems spare ∧ elems.length = ts.length) (h : Rows.uptoBulk d ≤ 1048576) : ts.length ≤ 1048576 := by
  rcases hd with ⟨_, rfl⟩ | ⟨elems, spare, rfl, hl⟩
  · simp
  · have := bulk_len elems
    simp only [Rows.uptoBulk] at h
    omega
end Go.Proofs.YtnnagjbkpmkelaaDoor
