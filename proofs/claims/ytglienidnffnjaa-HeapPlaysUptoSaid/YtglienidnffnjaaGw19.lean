/- GW19: THE LOOK AT A REGION WITH THE REACHED OPERATIONS HANDED IN (bits): no search of paths. -/
import Derived.Test.YtglienidnffnjaaGw18
namespace Go.Proofs.Ytglienidnffnjaa
open Go
section
def lookM (ops : Array Oper) (ks ms : List Nat) : Bool :=
  (List.range ops.size).all fun i =>
    (match ops[i]? with
      | some o => noSel o && (o.after.all fun e => !Region.binds .any e || decide (e.on < i)) && decide (ks.getD i 0 ≤ 3)
      | none => false) &&
    (List.range i).all fun p =>
      (if (ms.getD i 0).testBit p then (match ops[i]? with
          | some o => o.after.any fun e => Region.binds .any e && (e.on == p || (Nat.blt p e.on && (ms.getD e.on 0).testBit p))
          | none => false)
        else (match ops[p]?, ops[i]? with
          | some op, some oi => oi.apart ops op && okPair (ks.getD p 0) (ks.getD i 0) && (ks.getD p 0 != 3 || ks.getD i 0 == 0 || ks.getD i 0 == 3)
          | _, _ => false)) && (ks.getD p 0 != 3 || ks.getD i 0 == 0 || ks.getD i 0 == 3)
variable {ops : Array Oper} {ks ms : List Nat}
theorem lookM_at (h : lookM ops ks ms = true) {i : Nat} (hi : i < ops.size) :
    (match ops[i]? with
      | some o => noSel o && (o.after.all fun e => !Region.binds .any e || decide (e.on < i)) && decide (ks.getD i 0 ≤ 3)
      | none => false) = true := by
  have h1 := List.all_eq_true.1 h i (List.mem_range.2 hi)
  simp only [Bool.and_eq_true] at h1
  exact h1.1
theorem lookM_pair (h : lookM ops ks ms = true) {i p : Nat} (hi : i < ops.size) (hp : p < i) :
      (if (ms.getD i 0).testBit p then (match ops[i]? with
          | some o => o.after.any fun e => Region.binds .any e && (e.on == p || (Nat.blt p e.on && (ms.getD e.on 0).testBit p))
          | none => false)
        else (match ops[p]?, ops[i]? with
          | some op, some oi => oi.apart ops op && okPair (ks.getD p 0) (ks.getD i 0) && (ks.getD p 0 != 3 || ks.getD i 0 == 0 || ks.getD i 0 == 3)
          | _, _ => false)) = true ∧ (ks.getD p 0 != 3 || ks.getD i 0 == 0 || ks.getD i 0 == 3) = true := by
  have h1 := List.all_eq_true.1 h i (List.mem_range.2 hi)
  rw [Bool.and_eq_true] at h1
  have h2 := List.all_eq_true.1 h1.2 p (List.mem_range.2 hp)
  rw [Bool.and_eq_true] at h2
  exact h2
theorem lookM_reach (h : lookM ops ks ms = true) : ∀ (n i p : Nat), i < n → i < ops.size → p < i → (ms.getD i 0).testBit p = true → reach ops n p i = true := by
  intro n
  induction n with
  | zero => intro i p hi; omega
  | succ n ih =>
    intro i p hin hi hp hb
    have h2 := (lookM_pair h hi hp).1
    rw [if_pos hb] at h2
    have ha := lookM_at h hi
    unfold reach
    cases ho : ops[i]? with
    | none => rw [ho] at h2; cases h2
    | some o =>
      rw [ho] at h2 ha
      simp only [Bool.and_eq_true] at ha
      obtain ⟨e, he, hq⟩ := Array.any_eq_true'.1 h2
      rw [Bool.and_eq_true, Bool.or_eq_true, Bool.and_eq_true] at hq
      refine Array.any_eq_true'.2 ⟨e, he, ?_⟩
      rw [Bool.and_eq_true, Bool.or_eq_true]
      refine ⟨hq.1, ?_⟩
      rcases hq.2 with h3 | ⟨h3, h4⟩
      · exact .inl h3
      · have hlt : e.on < i := by
          have := Array.all_eq_true'.1 ha.1.2 e he
          rw [hq.1] at this
          simpa using this
        exact .inr (ih e.on p (by omega) (by omega) (by simpa [Nat.blt_eq] using h3) h4)
theorem lookD_of (h : lookM ops ks ms = true) : lookD ops ks = true := by
  refine List.all_eq_true.2 fun i hi => ?_
  have hi := List.mem_range.1 hi
  rw [Bool.and_eq_true]
  refine ⟨lookM_at h hi, List.all_eq_true.2 fun p hp => ?_⟩
  have hp := List.mem_range.1 hp
  have h2 := lookM_pair h hi hp
  rw [Bool.and_eq_true]
  refine ⟨?_, h2.2⟩
  unfold pairOk
  rw [Bool.or_eq_true]
  by_cases hb : (ms.getD i 0).testBit p = true
  · exact .inl (lookM_reach h _ _ _ hi hi hp hb)
  · rw [if_neg hb] at h2
    exact .inr h2.1
variable (P : Program)
theorem wp_region_E {P : Program} {id : Nat} {l : List Oper} {Q : Exit → Act → World → Prop} {a : Act} {w : World} (ks ms : List Nat) (S : World → Prop) (hm : P.follows .mixedOrders = true) (hlook : lookM l.toArray ks ms = true)
    (hS : S w.drew) (h : wpD P l.toArray S (Q .normal) l ks a w.drew) : (Code.region id l.toArray true).wp P Q a w :=
  wp_region_D ks S hm (lookD_of hlook) hS h
theorem q_bne {P : Program} {o : Oper} {a : Act} {w : World} {x y : Operand} {t t' : TypeId} {b c : Bool} (ht : P.underlying t = some .bool) (ho : o.op = .binOp .neq t x y t') (hx : a.eval x = .bool b) (hy : a.eval y = .bool c) : QV P o a w (.bool (decide (¬ b = c))) := by
  have hg : eqGuard .neq t x y (.bool b) (.bool c) = pure () := rfl
  simp [QV, execOp, ho, hx, hy, hg, run_neq_bool w t b c ht]
  cases b <;> cases c <;> rfl
end
end Go.Proofs.Ytglienidnffnjaa
