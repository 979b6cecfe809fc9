/- GW27: a map of pointers, of one entry. -/
import Derived.Test.YtglienidnffnjaaGw26
import Derived.ChangeMaps5
namespace Go.Proofs.Ytglienidnffnjaa
open Go Go.ChangeMaps
set_option linter.unusedVariables false
def nilEnt (v : Value) : MapEntry := ⟨.pointer none, v, 0⟩
section
variable {P : Program} {w w0 w' : World} {t kt et e : TypeId} {b n i : Nat} {M : List Nat} {L : List Ent} {o : Oper} {a : Act} {x y u : Operand} {v z : Value} {p : Option Addr} {ad : Addr}
theorem setB_grown {es : Array MapEntry} {ck : Nat} (hb : w.heap[b]? = some (.map es ck)) (ob : Obj) : w.grownBy (setBlock w b ob) (some b) :=
  ⟨rfl, rfl, rfl, by simp [setBlock], fun i _ hi => heap_setBlock_other hb _ (fun e => hi (by rw [e]))⟩
theorem check_ptr (hk : P.underlying kt = some (.pointer e)) (em : Bool) (n : Nat) : (Instr.checkKey em (n + 1) kt (.pointer p)).run P w = .ok () w := by
  unfold Instr.checkKey
  simp [run_underlying hk]
theorem check_ptr' (hk : P.underlying kt = some (.pointer e)) (em : Bool) : (Instr.checkKey em 10000 kt (.pointer p)).run P w = .ok () w := check_ptr hk em 9999
theorem e_insP (hO : St w0 M w L) (hi : L[i]? = some (.mp b (.map #[] 0))) (ht : P.underlying t = some (.map kt et)) (hk : P.underlying kt = some (.pointer e)) (ho : o.op = .insert t x y u) (hx : a.eval x = .map (some b)) (hy : a.eval y = .pointer none) (hu : a.eval u = v) :
    Eff P o a w (fun r w' => r = undef ∧ St w0 M w' (L.set i (.mp b (.map #[nilEnt v] 1)))) := by
  have hb : w.heap[b]? = some (.map #[] 0) := hO.ok hi
  have hrun : (Instr.mapUpdate t (.map (some b)) (.pointer none) v).run P w = .ok () (setBlock w b (.map #[nilEnt v] 1)) := by
    simp [Instr.mapUpdate, run_underlying ht, run_underlying hk, MapKept.run_getObj_map hb, check_ptr' hk, Instr.findKey, Instr.findNow, MapKept.run_setObj_map _ hb, Result.andThen, setBlock, nilEnt]
  refine Eff.skip (w' := setBlock w b (.map #[nilEnt v] 1)) ?_ ⟨rfl, hO.turnG hi (setB_grown hb _) rfl (heap_setBlock_same hb _) rfl⟩
  simp [execOp, ho, hx, hy, hu, hrun]
theorem find_ptr (hk : P.underlying kt = some (.pointer e)) : (Instr.findKey kt (.pointer (some ad)) [nilEnt v]).run P w = .ok none w := by
  simp [Instr.findKey, Instr.findNow, Instr.sameNow, run_underlying hk, Instr.findAsking, nilEnt, run_equal_ptr hk]
theorem q_lookP (hO : St w0 M w L) (hi : L[i]? = some (.mp b (.map #[nilEnt v] 1))) (ht : P.underlying t = some (.map kt et)) (hk : P.underlying kt = some (.pointer e)) (hz : (zeroValue et).run P w = .ok z w) (ho : o.op = .lookup t x y false) (hx : a.eval x = .map (some b)) (hy : a.eval y = ptr ad) : QV P o a w z := by
  have hb : w.heap[b]? = some (.map #[nilEnt v] 1) := hO.ok hi
  have hf := find_ptr (w := w) (v := v) (ad := ad) hk
  have hrun : (Instr.lookup t (.map (some b)) (ptr ad) false).run P w = .ok z w := by
    simp [Instr.lookup, run_underlying ht, MapKept.run_getObj_map hb, check_ptr' hk, ptr, hf, hz, Result.andThen]
  simp [QV, execOp, ho, hx, hy, hrun]
theorem e_updP (hO : St w0 M w L) (hi : L[i]? = some (.mp b (.map #[nilEnt v] 1))) (ht : P.underlying t = some (.map kt et)) (hk : P.underlying kt = some (.pointer e)) (ho : o.op = .mapUpdate t x y u) (hx : a.eval x = .map (some b)) (hy : a.eval y = ptr ad) (hu : a.eval u = z) :
    Eff P o a w (fun r w' => r = undef ∧ St w0 M w' (L.set i (.mp b (.map #[nilEnt v, ⟨ptr ad, z, 1⟩] 2)))) := by
  have hb : w.heap[b]? = some (.map #[nilEnt v] 1) := hO.ok hi
  have hf := find_ptr (w := w) (v := v) (ad := ad) hk
  have hrun : (Instr.mapUpdate t (.map (some b)) (ptr ad) z).run P w = .ok () (setBlock w b (.map #[nilEnt v, ⟨ptr ad, z, 1⟩] 2)) := by
    simp [Instr.mapUpdate, run_underlying ht, MapKept.run_getObj_map hb, check_ptr' hk, ptr, hf, MapKept.run_setObj_map _ hb, Result.andThen, setBlock]
  refine Eff.skip (w' := setBlock w b (.map #[nilEnt v, ⟨ptr ad, z, 1⟩] 2)) ?_ ⟨rfl, hO.turnG hi (setB_grown hb _) rfl (heap_setBlock_same hb _) rfl⟩
  simp [execOp, ho, hx, hy, hu, hrun]
end
end Go.Proofs.Ytglienidnffnjaa
