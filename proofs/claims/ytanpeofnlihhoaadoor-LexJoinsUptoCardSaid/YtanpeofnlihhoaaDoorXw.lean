/- From the row's condition to the library's two variables: common to the laws of layer 1; strings handed in. -/
import Derived.Test.YtanpeofnlihhoaaDoorYa
import Derived.Test.YtanpeofnlihhoaaDoorCards
import Derived.Test.YtanpeofnlihhoaaDoorTie
import Derived.WalkKit
import Derived.ProofKit
import Derived.OpenShut
import Derived.ChangeMaps5
import Derived.Stop.LaidErr
import Derived.Deep.DeepHandedRow
import Derived.Lib.LaidTab
namespace Go.Proofs.YtanpeofnlihhoaaDoor
open Go.ChangeShapes Go.WideShapes Go.ChangeAt Go.RowKit Go.ChangeMaps
set_option maxRecDepth 100000
theorem own : ownKnob Tryd.prog.godebug = none := by kernel_rfl
theorem star : "*" ++ "errors.errorString" = "*errors.errorString" := by decide
theorem rowES (u : TypeId) (h : Tryd.prog.typeName? 3 u = some "*errors.errorString") : u = 103 :=
  typeName_ptr_named (nm := "errors.errorString") (by rw [star]; kernel_rfl) (by kernel_rfl) (by decide) u (by rw [star]; exact h)
theorem rd_sent {W : World} {n : String} {text : List UInt8} {r : List (String × DataW Unit)} {g : Nat} (h : laidMet Tryd.prog ((n, .iface "*errors.errorString" (.ptr (.agg [.lit (.string text)]))) :: r) W)
    (hg : Tryd.prog.globalNamed n = some g) (ht : (Tryd.prog.globals[g]?).map (·.type) = some 59) : ∃ ev, Rd W [] (gl1 g) 1 1 [ev] ∧ (ev = .nilIface ∨ ∃ te pe, ev = .iface te pe) := by
  obtain ⟨a, s, hv, _⟩ := laid_sentinel h hg ht Tryd.underlying59 rowES Tryd.underlying103 Tryd.underlying105 rfl rfl Tryd.underlying9 (by kernel_rfl) (by kernel_rfl)
  have hc : W.cell? ⟨g, 0, none⟩ = some (.iface 103 (.pointer (some a))) := by simpa using World.var?_cell hg hv 0
  obtain ⟨o, ho, _⟩ := cells_of_cell hc
  have hlt := (Array.getElem?_eq_some_iff.1 ho).1
  refine ⟨.iface 103 (.pointer (some a)), ⟨rfl, _, 1, rfl, Nat.le_refl _, by decide, fun _ => ⟨adr g, rfl, by simp, hlt, fun j u hj => ?_⟩⟩, .inr ⟨_, _, rfl⟩⟩
  match j, hj with
  | 0, hj => cases hj; exact hc
theorem gle_laid {W : World} (h : laidMet Tryd.prog Rows.lexReadsRow.laid W) : GlE W [] :=
  ⟨rd_sent (g := 0) h.tail.tail.tail.tail.tail (by kernel_rfl) (by kernel_rfl), rd_sent (g := 1) h.tail.tail.tail.tail (by kernel_rfl) (by kernel_rfl)⟩
/-- A world for the witness. -/
noncomputable def low : Nat := (World.holding Tryd.prog default ⟨#[], #[], []⟩).heap.size
noncomputable def startW (os : Os) : World := World.holding Tryd.prog os ⟨#[.cells #[.string ⟨#[105, 110, 118, 97, 108, 105, 100, 32, 115, 121, 110, 116, 97, 120]⟩] 105, .cells #[.string ⟨#[118, 97, 108, 117, 101, 32, 111, 117, 116, 32, 111, 102, 32, 114, 97, 110, 103, 101]⟩] 105], #[], []⟩
def setB (h : Array Obj) (g : Nat) (cs : Array Value) : Array Obj := h.modify g fun | .cells _ t frozen => .cells cs t frozen | o => o
noncomputable def laidWorld (os : Os) : World := { startW os with heap := (setB (setB (setB (setB (setB (setB (setB (startW os).heap 6 (([.int .u8 0, .int .u8 1, .int .u8 28, .int .u8 2, .int .u8 29, .int .u8 14, .int .u8 24, .int .u8 3, .int .u8 30, .int .u8 22, .int .u8 20, .int .u8 15, .int .u8 25, .int .u8 17, .int .u8 4, .int .u8 8, .int .u8 31, .int .u8 27, .int .u8 13, .int .u8 23, .int .u8 21, .int .u8 19, .int .u8 16, .int .u8 7, .int .u8 26, .int .u8 12, .int .u8 18, .int .u8 6, .int .u8 11, .int .u8 5, .int .u8 10, .int .u8 9] : List Value).toArray)) 7 (([.int .u8 0, .int .u8 1, .int .u8 56, .int .u8 2, .int .u8 57, .int .u8 49, .int .u8 28, .int .u8 3, .int .u8 61, .int .u8 58, .int .u8 42, .int .u8 50, .int .u8 38, .int .u8 29, .int .u8 17, .int .u8 4, .int .u8 62, .int .u8 47, .int .u8 59, .int .u8 36, .int .u8 45, .int .u8 43, .int .u8 51, .int .u8 22, .int .u8 53, .int .u8 39, .int .u8 33, .int .u8 30, .int .u8 24, .int .u8 18, .int .u8 12, .int .u8 5, .int .u8 63, .int .u8 55, .int .u8 48, .int .u8 27, .int .u8 60, .int .u8 41, .int .u8 37, .int .u8 16, .int .u8 46, .int .u8 35, .int .u8 44, .int .u8 21, .int .u8 52, .int .u8 32, .int .u8 23, .int .u8 11, .int .u8 54, .int .u8 26, .int .u8 40, .int .u8 15, .int .u8 34, .int .u8 20, .int .u8 31, .int .u8 10, .int .u8 25, .int .u8 14, .int .u8 19, .int .u8 9, .int .u8 13, .int .u8 8, .int .u8 7, .int .u8 6] : List Value).toArray)) 5 (([.int .u64 1, .int .u64 10, .int .u64 100, .int .u64 1000, .int .u64 10000, .int .u64 100000, .int .u64 1000000, .int .u64 10000000, .int .u64 100000000, .int .u64 1000000000, .int .u64 10000000000, .int .u64 100000000000, .int .u64 1000000000000, .int .u64 10000000000000, .int .u64 100000000000000, .int .u64 1000000000000000, .int .u64 10000000000000000, .int .u64 100000000000000000, .int .u64 1000000000000000000, .int .u64 10000000000000000000] : List Value).toArray)) 4 (([.int .u8 128, .int .u8 191, .int .u8 160, .int .u8 191, .int .u8 128, .int .u8 159, .int .u8 144, .int .u8 191, .int .u8 128, .int .u8 143, .int .u8 0, .int .u8 0, .int .u8 0, .int .u8 0, .int .u8 0, .int .u8 0, .int .u8 0, .int .u8 0, .int .u8 0, .int .u8 0, .int .u8 0, .int .u8 0, .int .u8 0, .int .u8 0, .int .u8 0, .int .u8 0, .int .u8 0, .int .u8 0, .int .u8 0, .int .u8 0, .int .u8 0, .int .u8 0] : List Value).toArray)) 1 #[.iface 103 (.pointer (some ⟨low + 1, 0, none⟩))]) 0 #[.iface 103 (.pointer (some ⟨low, 0, none⟩))]) 3 (Pinned.utf8FirstZ.map fun (z : Nat) => Value.int .u8 (z : Int)).toArray) }
theorem len_arg {s : ByteArray} (hs : s.size ≤ maxLen) : s.data.toList.length ≤ 9223372036854775807 := by
  have hm : maxLen = 9223372036854775807 := by decide
  have e : s.data.toList.length = s.size := Array.length_toList
  rw [e, ← hm]; exact hs
theorem str_arg (s : ByteArray) : str s.data.toList = .string s := by simp [str]
theorem bulk_pos {H : Type} (d : DataW H) : 1 ≤ Rows.uptoBulk d := by
  cases d with
  | lit l => cases l <;> simp [Rows.uptoBulk]
  | _ => simp [Rows.uptoBulk]
theorem bulk_mem {H : Type} {d : DataW H} {l : List (DataW H)} (h : d ∈ l) : Rows.uptoBulk d ≤ Rows.uptoBulkAll l := by
  induction l with
  | nil => cases h
  | cons x r ih =>
    simp only [Rows.uptoBulkAll]
    rcases List.mem_cons.1 h with rfl | h
    · omega
    · have := ih h; omega
theorem bulk_str {H : Type} {b : List UInt8} {l : List (DataW H)} (hk : Rows.uptoSmall H l = true) (h : DataW.lit (.string b) ∈ l) : b.length ≤ 1048576 := by
  have h1 := bulk_mem h
  have h2 : Rows.uptoBulkAll l ≤ 1048576 := of_decide_eq_true hk
  simp only [Rows.uptoBulk] at h1
  omega
end Go.Proofs.YtanpeofnlihhoaaDoor
