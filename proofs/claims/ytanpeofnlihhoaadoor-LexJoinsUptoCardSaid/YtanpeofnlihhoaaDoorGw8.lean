/- GENERAL PARTS (8): '==' of structs, field by field. -/
import Derived.Test.YtanpeofnlihhoaaDoorGw7
namespace Go.Proofs.YtanpeofnlihhoaaDoor
open Go
section
variable {P : Program} {w : World} {d : Nat} {f : Field} {fs : List Field} {xs ys : List Value} {r : Bool}

theorem str_beq (a b : List UInt8) : ((⟨a.toArray⟩ : ByteArray) == ⟨b.toArray⟩) = decide (a = b) := by
  rw [beq_toListBytes, ByteArray.toList_mk, ByteArray.toList_mk, beq_dec]
theorem ef_nil : (Op.eqFields d xs.toArray ys.toArray []).run P w = .ok true w := rfl
theorem ef_one {x y : Value} {b : Bool} (hn : f.name ≠ "_") (ha : ∀ w, (isAgg f.type).run P w = .ok false w) (hx : xs[f.offset]? = some x) (hy : ys[f.offset]? = some y) (he : (Op.equalIn d f.type x y).run P w = .ok b w)
    (rest : (Op.eqFields d xs.toArray ys.toArray fs).run P w = .ok r w) : (Op.eqFields d xs.toArray ys.toArray (f :: fs)).run P w = .ok (b && r) w := by
  simp only [Op.eqFields, hn, ne_eq, not_false_eq_true, if_true, Sem.run_bind, part, ha, Result.andThen_ok, Bool.false_eq_true, if_false, List.getElem?_toArray, hx, hy, Sem.run_pure, he]
  cases b with
  | true => simpa using rest
  | false => simp
theorem ef_int {k : IntKind} {a b : Int} (hn : f.name ≠ "_") (ha : ∀ w, (isAgg f.type).run P w = .ok false w) (hu : P.underlying f.type = some (.int k)) (hx : xs[f.offset]? = some (.int k a)) (hy : ys[f.offset]? = some (.int k b))
    (rest : (Op.eqFields (d + 1) xs.toArray ys.toArray fs).run P w = .ok r w) : (Op.eqFields (d + 1) xs.toArray ys.toArray (f :: fs)).run P w = .ok (decide (a = b) && r) w :=
  ef_one hn ha hx hy (by simp [Op.equalIn, run_underlying hu]; rfl) rest
theorem ef_bool {a b : Bool} (hn : f.name ≠ "_") (ha : ∀ w, (isAgg f.type).run P w = .ok false w) (hu : P.underlying f.type = some .bool) (hx : xs[f.offset]? = some (.bool a)) (hy : ys[f.offset]? = some (.bool b))
    (rest : (Op.eqFields (d + 1) xs.toArray ys.toArray fs).run P w = .ok r w) : (Op.eqFields (d + 1) xs.toArray ys.toArray (f :: fs)).run P w = .ok (decide (a = b) && r) w :=
  ef_one hn ha hx hy (by simp [Op.equalIn, run_underlying hu]; cases a <;> cases b <;> rfl) rest
theorem ef_str {a b : List UInt8} (hn : f.name ≠ "_") (ha : ∀ w, (isAgg f.type).run P w = .ok false w) (hu : P.underlying f.type = some .string) (hx : xs[f.offset]? = some (str a)) (hy : ys[f.offset]? = some (str b))
    (rest : (Op.eqFields (d + 1) xs.toArray ys.toArray fs).run P w = .ok r w) : (Op.eqFields (d + 1) xs.toArray ys.toArray (f :: fs)).run P w = .ok (decide (a = b) && r) w :=
  ef_one hn ha hx hy (by simp only [str, Op.equalIn, Sem.run_bind, run_underlying hu, Result.andThen_ok, Sem.run_pure, str_beq]) rest

/-- '==' and '!=' of two structs. -/
theorem q_eqS {o : Oper} {a : Act} {x y : Operand} {t t' : TypeId} {fl : Array Field} {p : Prop} {ip : Decidable p} (ht : P.underlying t = some (.struct fl)) (hst : P.stoodInHeld t = false) (hg : P.eqGuardType P.depth t = false)
    (ho : o.op = .binOp .eql t x y t') (hx : a.eval x = .agg xs.toArray) (hy : a.eval y = .agg ys.toArray) (he : (Op.eqFields 9999 xs.toArray ys.toArray fl.toList).run P w = .ok r w) (hr : r = decide p) : QV P o a w (.bool (decide p)) := by
  have hf : P.fieldsOf t = fl := by simp [Program.fieldsOf, ht]
  have h1 := run_equalIn_struct (P := P) w 9999 t xs.toArray ys.toArray (by rw [hf]; exact ht) hst
  rw [hf, he, hr] at h1
  have h2 : (Op.equal t (.agg xs.toArray) (.agg ys.toArray)).run P w = .ok (decide p) w := h1
  have h3 : (eqGuard .eql t x y (.agg xs.toArray) (.agg ys.toArray)).run P w = .ok () w := by simp [eqGuard, hg]
  simp only [QV, execOp, ho, Sem.run_bind, hx, hy, h3, Result.andThen_ok, binOp, h2, Sem.run_pure]
theorem q_neS {o : Oper} {a : Act} {x y : Operand} {t t' : TypeId} {fl : Array Field} {p : Prop} {ip : Decidable p} (ht : P.underlying t = some (.struct fl)) (hst : P.stoodInHeld t = false) (hg : P.eqGuardType P.depth t = false)
    (ho : o.op = .binOp .neq t x y t') (hx : a.eval x = .agg xs.toArray) (hy : a.eval y = .agg ys.toArray) (he : (Op.eqFields 9999 xs.toArray ys.toArray fl.toList).run P w = .ok r w) (hr : r = decide p) : QV P o a w (.bool (decide (¬ p))) := by
  have hf : P.fieldsOf t = fl := by simp [Program.fieldsOf, ht]
  have h1 := run_equalIn_struct (P := P) w 9999 t xs.toArray ys.toArray (by rw [hf]; exact ht) hst
  rw [hf, he, hr] at h1
  have h2 : (Op.equal t (.agg xs.toArray) (.agg ys.toArray)).run P w = .ok (decide p) w := h1
  have h3 : (eqGuard .neq t x y (.agg xs.toArray) (.agg ys.toArray)).run P w = .ok () w := by simp [eqGuard, hg]
  simp only [QV, execOp, ho, Sem.run_bind, hx, hy, h3, Result.andThen_ok, binOp, h2, Sem.run_pure, decide_not]
end
end Go.Proofs.YtanpeofnlihhoaaDoor
