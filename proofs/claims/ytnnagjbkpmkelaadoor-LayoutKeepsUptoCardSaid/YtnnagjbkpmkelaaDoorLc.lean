/- From the row's condition to the package variables of the layout: common to the laws of layer 2. -/
import Derived.Test.YtnnagjbkpmkelaaDoorRt
import Derived.Test.YtnnagjbkpmkelaaDoorCards
import Derived.Test.YtnnagjbkpmkelaaDoorTie
import Derived.WalkKit
import Derived.ProofKit
import Derived.OpenShut
import Derived.ChangeMaps5
import Derived.Stop.LaidErr
import Derived.Deep.DeepHandedRow
import Derived.Lib.LaidTab
namespace Go.Proofs.YtnnagjbkpmkelaaDoor
open Go.ChangeShapes Go.WideShapes Go.ChangeAt Go.RowKit Go.ChangeMaps
set_option maxRecDepth 100000
theorem own : ownKnob Tryd.prog.godebug = none := by kernel_rfl
theorem gBr : Tryd.prog.globalNamed "teasel/layout.braces" = some 0 := by kernel_rfl
theorem gLe : Tryd.prog.globalNamed "teasel/layout.letter" = some 1 := by kernel_rfl
theorem gBrT : (Tryd.prog.globals[0]?).map (·.type) = some 63 := by kernel_rfl
theorem gLeT : (Tryd.prog.globals[1]?).map (·.type) = some 63 := by kernel_rfl
theorem item_cells {W : World} {name : String} {g : Nat} {s : List UInt8} {n : Int} {rest : List (String × DataW Unit)} (hg : Tryd.prog.globalNamed name = some g) (hty : (Tryd.prog.globals[g]?).map (·.type) = some 63)
    (h : laidMet Tryd.prog ((name, .agg [.lit (.string s), .lit (.int .i64 n)]) :: rest) W) : W.cell? ⟨g, 0, none⟩ = some (str s) ∧ W.cell? ⟨g, 1, none⟩ = some (i64 n) := by
  obtain ⟨ps, ⟨g', t', cs, fuel, p, q, hg', ht', hvar, hd, _, _⟩, _⟩ := h
  obtain rfl := Option.some.inj (hg.symm.trans hg')
  obtain rfl := Option.some.inj (hty.symm.trans ht')
  obtain ⟨y0, y1, m, hx, hl, h0, h1⟩ := trod_struct2 Tryd.underlying63 hd
  obtain ⟨s', hc0, e0, _⟩ := DataW.trod_string Tryd.underlying9 h0
  obtain ⟨n', hc1, e1, _⟩ := DataW.trod_int Tryd.underlying3 h1
  subst e0 e1
  simp only [Prod.mk.injEq, DataW.agg.injEq, List.cons.injEq, DataW.lit.injEq, Lit.string.injEq, Lit.int.injEq, and_true, true_and] at hx
  obtain ⟨⟨rfl, rfl⟩, _⟩ := hx
  have k0 : Tryd.prog.cellsOf 9 = 1 := by kernel_rfl
  have k1 : Tryd.prog.cellsOf 3 = 1 := by kernel_rfl
  rw [k0] at hc0
  rw [k1] at hc1
  have a0 : cs[0]? = some (.string s') := by
    have := congrArg (·[0]?) hc0
    simpa [List.getElem?_take, List.getElem?_drop] using this
  have a1 : cs[1]? = some (.int .i64 n) := by
    have := congrArg (·[0]?) hc1
    simpa [List.getElem?_take, List.getElem?_drop] using this
  refine ⟨(World.var?_cell hg hvar 0).trans (a0.trans ?_), (World.var?_cell hg hvar 1).trans a1⟩
  simp [str]
theorem glb_of {w : World} (h0 : w.cell? ⟨0, 0, none⟩ = some (str wBr)) (h1 : w.cell? ⟨0, 1, none⟩ = some (i64 0)) (h2 : w.cell? ⟨1, 0, none⟩ = some (str wLet)) (h3 : w.cell? ⟨1, 1, none⟩ = some (i64 0)) : GlB w [] := by
  have lt : ∀ {a : Addr} {v : Value}, w.cell? a = some v → a.block < w.heap.size := fun h => by
    obtain ⟨o, ho, _⟩ := cells_of_cell h
    exact (Array.getElem?_eq_some_iff.1 ho).1
  have one : ∀ (b : Nat) (x : Thg), w.cell? ⟨b, 0, none⟩ = some (str (itm x.sort)) → w.cell? ⟨b, 1, none⟩ = some (i64 x.col) → RdT w [] (gl b) itmE [x] := fun b x a0 a1 => by
    refine ⟨rfl, _, 1, rfl, Nat.le_refl _, by decide, fun _ => ⟨adr b, rfl, by simp, lt a0, fun j u hj => ?_⟩⟩
    rw [adr_add]
    rw [flat_one] at hj
    match j, hj with
    | 0, hj => rw [a0]; exact hj
    | 1, hj => rw [a1]; exact hj
  exact ⟨one 0 braceT h0 h1, one 1 letT h2 h3⟩
theorem glb_laid {W : World} (h : laidMet Tryd.prog [("teasel/layout.braces", Rows.laid_teasel_layout_braces), ("teasel/layout.letter", Rows.laid_teasel_layout_letter)] W) : GlB W [] := by
  obtain ⟨a, b⟩ := item_cells gBr gBrT h
  obtain ⟨c, d⟩ := item_cells gLe gLeT h.tail
  exact glb_of a b c d
/-- A world for the witness. -/
noncomputable def laidWorld (os : Os) : World :=
  { World.holding Tryd.prog os ⟨#[], #[], []⟩ with heap := ((World.holding Tryd.prog os ⟨#[], #[], []⟩).heap.modify 0 (fun x => match x with | .cells _ t frozen => .cells #[str wBr, i64 0] t frozen | o => o)).modify 1 (fun x => match x with | .cells _ t frozen => .cells #[str wLet, i64 0] t frozen | o => o) }
end Go.Proofs.YtnnagjbkpmkelaaDoor
