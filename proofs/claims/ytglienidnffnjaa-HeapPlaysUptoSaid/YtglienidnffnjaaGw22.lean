/- GW22: errors that are nil or not; guarded calls of function values; contracts of the library as calls of ours; the world behind them. -/
import Derived.Test.YtglienidnffnjaaGw21
import Derived.Below
import Derived.WideLaws
import Derived.Lib.ConvBytes
namespace Go.Proofs.Ytglienidnffnjaa
open Go Go.RowKit
/-- an error: nil, or something -/
def errV : Option (TypeId × Value) → Value
  | none => .nilIface
  | some x => .iface x.1 x.2
section
variable {P : Program} {o : Oper} {a : Act} {w w0 : World} {x y : Operand} {t t' : TypeId} {ms : List Nat} {M : List Nat} {L : List Ent} {n : Nat} {F : List (Nat × Value)}
theorem q_errne {ms : Array (String × TypeId)} {e : Option (TypeId × Value)} (ht : P.underlying t = some (.interface ms)) (ho : o.op = .binOp .neq t x (.const .nilIface) t') (hx : a.eval x = errV e) : QV P o a w (.bool e.isSome) := by
  have hy : a.eval (.const .nilIface) = .nilIface := rfl
  have h : P.underlying t = some (.interface (P.methodsAt t)) := by simp [Program.methodsAt, ht]
  cases e with
  | none =>
    have hx' : a.eval x = .nilIface := hx
    have hg : eqGuard .neq t x (.const .nilIface) .nilIface .nilIface = pure () := eqGuard_nil_constR ..
    simp [QV, execOp, ho, hx', hy, hg, binOp, run_equal_nil_nil w t h]
  | some p =>
    have hx' : a.eval x = .iface p.1 p.2 := hx
    have hg : eqGuard .neq t x (.const .nilIface) (.iface p.1 p.2) .nilIface = pure () := eqGuard_at_iface ..
    simp [QV, execOp, ho, hx', hy, hg, binOp, run_equal_held_nil w t p.1 p.2 h]
theorem c_callVG {f : Nat} {g : Operand} {fs cs args args' : List Value} {argo : List Operand} {vs : List Value} {ts : Array TypeId} {R : Value → World → Prop} (hF : Fr a n F) (ho : o.op = .call { callee := .value g, args := argo.toArray, argTypes := ts })
    (hg : a.eval g = .func (.func f) fs.toArray cs.toArray) (hv : evs F argo = some args) (ha : args = args') (hvs : fs ++ args' ++ cs = vs) (hf : ∀ args w, (callFunc f args).run P w = .ok (.enter f args) w) (hc : Ret P f vs.toArray w R) : Eff P o a w R := by
  subst ha; exact c_callV hF ho hg hv hvs hf hc
theorem ret_calls {f : Nat} {args : Array Value} {v : Value} {X : World → Prop} (h : Calls P f args w fun e w' => e = .returned v ∧ X w') : Ret P f args w (fun u w' => u = v ∧ X w') := Calls.mono h fun _ _ ⟨he, hx⟩ => ⟨v, he, rfl, hx⟩
theorem st_below {w' : World} (h : Below w.heap.size w w') : St w [] w' [] := ⟨h.os, h.tape, h.output, h.size, fun b hb _ => h.block b hb, fun _ h => (by cases h), List.nodup_nil, fun _ h => (by cases h)⟩
theorem st_same : St w [] w [] := ⟨rfl, rfl, rfl, Nat.le_refl _, fun _ _ _ => rfl, fun _ h => (by cases h), List.nodup_nil, fun _ h => (by cases h)⟩
theorem bytes_l (l : List UInt8) : (⟨l.toArray⟩ : ByteArray).data.toList = l := by simp
end
end Go.Proofs.Ytglienidnffnjaa
