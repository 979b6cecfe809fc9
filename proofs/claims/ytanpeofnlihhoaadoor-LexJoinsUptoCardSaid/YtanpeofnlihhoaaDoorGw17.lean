/- GW17: structs and arrays built of parts of several cells; empty slices built; arrays inside blocks. -/
import Derived.Test.YtanpeofnlihhoaaDoorGw16
namespace Go.Proofs.YtanpeofnlihhoaaDoor
open Go
def setAllG (pl : List (Nat × Nat)) : List Value → List (Nat × Value) → List Value
  | cs, [] => cs
  | cs, (i, v) :: r => setAllG pl (cs.take (pl.getD i (0, 0)).1 ++ v.cells.toList ++ cs.drop ((pl.getD i (0, 0)).1 + v.cells.toList.length)) r
def okSetG (pl : List (Nat × Nat)) (n : Nat) : List (Nat × Value) → Bool
  | [] => true
  | (i, v) :: r => Nat.ble (i + 1) pl.length && Nat.beq v.cells.toList.length (pl.getD i (0, 0)).2 && Nat.ble ((pl.getD i (0, 0)).1 + v.cells.toList.length) n && okSetG pl n r
theorem fill_setG (pl : List (Nat × Nat)) (place : Nat → Option (Nat × Nat)) (hpl : ∀ i, i < pl.length → place i = some (pl.getD i (0, 0))) : ∀ (vs : List (Nat × Value)) (cs : List Value), okSetG pl cs.length vs = true →
    Instr.fill place cs.toArray vs = some (setAllG pl cs vs).toArray
  | [], cs, _ => rfl
  | (i, v) :: r, cs, h => by
    simp only [okSetG, Bool.and_eq_true] at h
    obtain ⟨⟨⟨h1, h2⟩, h3⟩, h4⟩ := h
    have h1 := Nat.le_of_ble_eq_true h1
    have h2 := Nat.eq_of_beq_eq_true h2
    have h3 := Nat.le_of_ble_eq_true h3
    have hp := hpl i (by omega)
    have hsz : v.cells.size = v.cells.toList.length := by simp
    unfold Instr.fill
    simp only [hp]
    have hb : (decide (v.cells.size ≠ (pl.getD i (0, 0)).2) || decide ((pl.getD i (0, 0)).1 + v.cells.size > cs.toArray.size)) = false := by
      have e2 : cs.toArray.size = cs.length := by simp
      rw [e2, hsz, Bool.or_eq_false_iff]
      exact ⟨decide_eq_false (by omega), decide_eq_false (by omega)⟩
    simp only [hb, Bool.false_eq_true, if_false]
    have hfold : v.cells.zipIdx.foldl (fun cs (c, j) => cs.setIfInBounds ((pl.getD i (0, 0)).1 + j) c) cs.toArray = (cs.take (pl.getD i (0, 0)).1 ++ v.cells.toList ++ cs.drop ((pl.getD i (0, 0)).1 + v.cells.toList.length)).toArray := by
      have hf := fold_set v.cells.toList (pl.getD i (0, 0)).1 0 (cs.take (pl.getD i (0, 0)).1) (cs.drop (pl.getD i (0, 0)).1) (by rw [List.length_take]; omega) (by rw [List.length_drop]; omega)
      rw [List.take_append_drop, List.drop_drop] at hf
      rw [← Array.foldl_toList, Array.toList_zipIdx]
      exact hf
    rw [hfold, fill_setG pl place hpl r _ (by
      have : (cs.take (pl.getD i (0, 0)).1 ++ v.cells.toList ++ cs.drop ((pl.getD i (0, 0)).1 + v.cells.toList.length)).length = cs.length := by
        simp only [List.length_append, List.length_take, List.length_drop]; omega
      rw [this]; exact h4)]
    rfl
section
variable {P : Program} {o : Oper} {a : Act} {w w0 : World} {v u : Value} {x y z : Operand} {t t' : TypeId} {M : List Nat} {L : List Ent} {n : Nat} {F : List (Nat × Value)}
theorem c_buildG {fs : Array Field} {parts : List (Nat × Operand)} {vs : List (Nat × Value)} {zv : Value} {pl : List (Nat × Nat)} {cs : List Value} (hF : Fr a n F) (ht : P.underlying t = some (.struct fs)) (hz : ∀ w, (zeroValue t).run P w = .ok zv w)
    (hp : PlacesG P t pl) (hzc : zv.cells = cs.toArray) (ho : o.op = .build t parts.toArray) (hv : evp F parts = some vs) (hok : okSetG pl cs.length vs = true) : QV P o a w (.agg (setAllG pl cs vs).toArray) :=
  q_build (vs := vs) ht hz (hp fs ht) ho (by rw [List.map_toArray, hF.evalp hv]) (by
    rw [hzc]
    exact fill_setG pl _ (fun i hi => by simp [List.getElem?_eq_getElem hi]) vs cs hok)
theorem c_buildArr {m e size : Nat} {parts : List (Nat × Operand)} {vs : List (Nat × Value)} {zv : Value} {cs : List Value} (hF : Fr a n F) (ht : P.underlying t = some (.array m e)) (hz : ∀ w, (zeroValue t).run P w = .ok zv w) (hs : ∀ w, (sizeOf e).run P w = .ok size w)
    (hzc : zv.cells = cs.toArray) (ho : o.op = .build t parts.toArray) (hv : evp F parts = some vs) (hok : okSetG ((List.range m).map fun i => (i * size, size)) cs.length vs = true) : QV P o a w (.agg (setAllG ((List.range m).map fun i => (i * size, size)) cs vs).toArray) := by
  have hfill : Instr.fill (fun i => some (i * size, size)) cs.toArray vs = some (setAllG ((List.range m).map fun i => (i * size, size)) cs vs).toArray :=
    fill_setG _ _ (fun i hi => by
      have hi' : i < m := by simpa using hi
      simp [hi']) vs cs hok
  have hv' : (parts.toArray.map fun (i, x) => (i, a.eval x)).toList = vs := by rw [List.map_toArray, hF.evalp hv]
  simp only [QV, execOp, ho, Sem.run_bind, Instr.build, hz, Result.andThen_ok, run_underlying ht, hs, hv', hzc, hfill]
  rfl
theorem e_build0 {e : TypeId} {size : Nat} (hO : St w0 M w L) (ht : P.underlying t = some (.slice e)) (hs : ∀ w, (sizeOf e).run P w = .ok size w) (ho : o.op = .buildSlice t 0 #[]) :
    Eff P o a w (fun u w' => ∃ b, u = .slice (some (adr b)) 0 0 ∧ St w0 M w' (.sl (.slice (some (adr b)) 0 0) e size 0 [] :: L)) := by
  refine Eff.value (w' := w.alloc (.cells #[] e)) (v := .slice (some (adr w.heap.size)) 0 0) ?_ ⟨_, rfl, ?_⟩
  · simp only [execOp, ho, Sem.run_bind, Instr.buildSlice, run_underlying ht, Result.andThen_ok, hs, Nat.zero_mul]
    simp [Instr.fill, newRow, adr, Array.range_zero']
  · exact hO.newSl e size 0 [] (by simp) (Nat.zero_le _)
theorem q_atArrK {e : TypeId} {k : IntKind} {ad : Addr} {i m s d : Nat} (ht : P.underlying t = some (.array m e)) (hs : ∀ w, (sizeOf e).run P w = .ok s w) (ho : o.op = .indexAddr t x y) (hx : a.eval x = ptr (ad.add d)) (hy : a.eval y = .int k (i : Int)) (hi : i < m) :
    QV P o a w (ptr (ad.add (d + i * s))) := by
  have := q_atArr (P := P) (w := w) ht hs ho hx hy hi
  rwa [add_add'] at this
end
end Go.Proofs.YtanpeofnlihhoaaDoor
