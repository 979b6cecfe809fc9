/- PLAIN: the chapter's example of the heap; what sorting keeps. -/
import Derived.Test.YtglienidnffnjaaPl7
import Derived.Test.YtglienidnffnjaaHj
import Derived.KernelRfl
namespace Go.Proofs.Ytglienidnffnjaa
open Go
def aw0 : Hp := newH 16 20
def aw1 : Hp := (layH aw0 0 1 3 [⟨false, 7⟩, ⟨false, 8⟩]).2
def aw2 : Hp := (layH aw1 0 3 1 []).2
def aw3 : Hp := (layH aw2 (1 + aw2.use) 2 2 [⟨true, 0⟩]).2
def aw4 : Hp := (linkH aw3 3 ⟨false, 9⟩).2
theorem aw_1 : (layH aw0 0 1 3 [⟨false, 7⟩, ⟨false, 8⟩]).1 = (0, 0) := by kernel_rfl
theorem aw_2 : (layH aw1 0 3 1 []).1 = (3, 0) := by kernel_rfl
theorem aw_3 : (layH aw2 (1 + aw2.use) 2 2 [⟨true, 0⟩]).1 = (16, 0) := by kernel_rfl
theorem aw_u : usedH aw3 = (5, 2) := by kernel_rfl
theorem aw_rm : aw3.rem = [16] := by kernel_rfl
theorem aw_r : sortF aw3.rem = [16] := by rw [aw_rm]; simp [sortF]
theorem aw_4 : (linkH aw3 3 ⟨false, 9⟩).1 = 0 := by kernel_rfl
theorem aw_o : objH aw4 3 = (⟨5, 0, [⟨false, 9⟩]⟩, 0) := by kernel_rfl
theorem aw_p : objH aw4 1 = (⟨0, 0, []⟩, 181) := by kernel_rfl
theorem aw_c : chaseH aw4 ⟨true, 3⟩ = ⟨false, 9⟩ := by kernel_rfl
theorem aw_w0 : Wf aw0 := wf_new (show ¬ newBad 16 20 by decide)
theorem aw_w1 : Wf aw1 := aw_w0.lay (by decide) _ _ _
theorem aw_w2 : Wf aw2 := aw_w1.lay (by decide) _ _ _
theorem aw_w3 : Wf aw3 := aw_w2.lay (by have := aw_w2.use; omega) _ _ _
theorem aw_w4 : Wf aw4 := aw_w3.link _ _
theorem aw_m0 : aw0.rem.length ≤ 1000 := Nat.le_of_ble_eq_true (by kernel_rfl)
theorem aw_m1 : aw1.rem.length ≤ 1000 := Nat.le_of_ble_eq_true (by kernel_rfl)
theorem aw_m2 : aw2.rem.length ≤ 1000 := Nat.le_of_ble_eq_true (by kernel_rfl)
theorem aw_m3 : aw3.rem.length ≤ 1000 := Nat.le_of_ble_eq_true (by kernel_rfl)
theorem aw_m4 : aw4.rem.length ≤ 1000 := Nat.le_of_ble_eq_true (by kernel_rfl)
theorem sort_mem {l : List Int} {x : Int} : x ∈ sortF l ↔ x ∈ l := (List.mergeSort_perm l _).mem_iff
theorem sort_len (l : List Int) : (sortF l).length = l.length := List.length_mergeSort ..
end Go.Proofs.Ytglienidnffnjaa
