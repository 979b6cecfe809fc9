/- GW13: the rest of a slice; guarded effects with a state, also where the order is open. -/
import Derived.Test.YtanpeofnlihhoaaDoorGw12
namespace Go.Proofs.YtanpeofnlihhoaaDoor
open Go
section
variable {P : Program} {o : Oper} {a : Act} {w w0 : World} {v u : Value} {x y z : Operand} {t t' : TypeId} {M : List Nat} {L : List Ent} {size n : Nat} {xs : List Value}
theorem RdT.lenle {α : Type} {E : Enc α} {l : List α} (h : RdT w M v E l) : l.length ≤ 9223372036854775807 := by
  obtain ⟨_, _, cap, _, h1, h2, _⟩ := h
  have : maxLen = 9223372036854775807 := by decide
  omega
def dropV (v : Value) (j s : Nat) : Value := match v with | .slice A n c => .slice (if c = j then A else A.map (·.add (j * s))) (n - j) (c - j) | v => v
theorem q_drop {e : TypeId} {w1 : World} {k : IntKind} {j : Nat} (hR : Rd w1 M v size n xs) (ht : P.underlying t = some (.slice e)) (hs : ∀ w, (sizeOf e).run P w = .ok size w) (ho : o.op = .slice t x (some y) none none) (hx : a.eval x = v) (hy : a.eval y = .int k (j : Int)) (hj : j ≤ n) :
    QV P o a w (dropV v j size) := by
  obtain ⟨_, A, cap, rfl, hc, _, _⟩ := hR
  have hj' : j ≤ cap := by omega
  simp [QV, execOp, ho, hx, hy, Instr.sliceAt, Instr.slice, run_underlying ht, Instr.sliceBounds, Instr.sliceBound, asIntOf, hj, hs, dropV]
theorem q_lenDrop {e : TypeId} {w1 : World} {j s : Nat} (hR : Rd w1 M v size n xs) (ht : P.underlying t = some (.slice e)) (ho : o.op = .call { callee := .builtin .len, args := #[x], argTypes := #[t] }) (hx : a.eval x = dropV v j s) : QV P o a w (i64 ((n - j : Nat) : Int)) := by
  obtain ⟨A, cap, rfl, _⟩ := hR.is
  exact q_lenSl ht ho hx
theorem q_atDrop {e : TypeId} {w1 : World} {k : IntKind} {i j : Nat} (hR : Rd w1 M v size n xs) (ht : P.underlying t = some (.slice e)) (hs : ∀ w, (sizeOf e).run P w = .ok size w) (ho : o.op = .indexAddr t x y) (hx : a.eval x = dropV v j size) (hy : a.eval y = .int k (i : Int)) (hi : j + i < n) :
    QV P o a w (ptr ((sa v).add ((j + i) * size))) := by
  obtain ⟨_, A, cap, rfl, hc, _, h0⟩ := hR
  obtain ⟨ad, rfl, _⟩ := h0 (by omega)
  have hne : ¬ cap = j := by omega
  have e1 : (ad.add (j * size)).add (i * size) = ad.add ((j + i) * size) := by rw [add_add', Nat.add_mul]
  have := q_indexAddr (P := P) (w := w) (len := n - j) (cap := cap - j) (ad := ad.add (j * size)) ht ho (by rw [hx]; simp [dropV, hne]) hy (by omega) hs
  rw [e1] at this
  exact this
end
section
variable {P : Program} {a : Act} {o : Oper} {n : Nat} {F : List (Nat × Value)} {w w0 : World} {M : List Nat} {L : List Ent} {ops : Array Oper} {Q : Exit → Act → World → Prop} {rest : List Oper} {d : Nat} {S : World → Prop} {K : Act → World → Prop} {ks : List Nat} {v : Value}
theorem wd_gk2 {j : Nat} {b : Bool} {dj : Nat} {oj : Oper} {g : Value} (hO : St w0 M w L) (hF : Fr a n F) (hg : o.guard = some (j, b)) (hj : ops[j]? = some oj) (hdj : oj.dst = some dj) (hv : lk F dj = some g)
    (hd : o.dst = some d) (hn : Nat.ble (d + 1) n = true) (h : isB g b = true → Eff P o a w (fun u w' => u = v ∧ St w [] w' [])) (hS : ∀ w', St w0 M w' L → S w')
    (next : ∀ a w, St w0 M w L → Fr a n ((d, gv g b v) :: F) → wpD P ops S K rest ks a w) : wpD P ops S K (o :: rest) (2 :: ks) a w := by
  show stepD P ops S o 2 (wpD P ops S K rest ks) a w
  have hw := wanted_of hF hg hj hdj hv
  unfold stepD
  rw [hw]
  cases hb : isB g b with
  | true =>
    simp only [if_true]
    rw [if_neg (by omega)]
    refine (h hb).mono fun u w' ⟨hu, hS'⟩ => ⟨fun _ => hS w' (hO.call0 hS'), ?_⟩
    have := next _ w' (hO.call0 hS') (hF.put (Nat.le_of_ble_eq_true hn) (gv g b v))
    rw [gv_of hb] at this
    subst hu
    rw [hd]; exact this
  | false =>
    have := next _ w hO (hF.put (Nat.le_of_ble_eq_true hn) (gv g b v))
    rw [gv_not hb] at this
    rw [hd]; exact this
/-- A guarded effect, its two outcomes as one state that tells which. -/
theorem wd_gS2 {Js : Type} (J : Bool → Js → Value → World → Prop) {j : Nat} {b : Bool} {dj : Nat} {oj : Oper} {g : Value} (hF : Fr a n F) (hg : o.guard = some (j, b)) (hj : ops[j]? = some oj) (hdj : oj.dst = some dj) (hv : lk F dj = some g)
    (hd : o.dst = some d) (hn : Nat.ble (d + 1) n = true) (h : isB g b = true → Eff P o a w (fun u w' => ∃ s, J true s u w')) (h0 : isB g b = false → ∃ s u, J false s u w) (hS : ∀ s u w', J true s u w' → S w')
    (next : ∀ s u a w, J (isB g b) s u w → Fr a n ((d, gv g b u) :: F) → wpD P ops S K rest ks a w) : wpD P ops S K (o :: rest) (2 :: ks) a w := by
  show stepD P ops S o 2 (wpD P ops S K rest ks) a w
  have hw := wanted_of hF hg hj hdj hv
  unfold stepD
  rw [hw]
  cases hb : isB g b with
  | true =>
    simp only [if_true]
    rw [if_neg (by omega)]
    refine (h hb).mono fun u w' ⟨s, hJ⟩ => ⟨fun _ => hS s u w' hJ, ?_⟩
    have := next s u _ w' (by rw [hb]; exact hJ) (hF.put (Nat.le_of_ble_eq_true hn) (gv g b u))
    rw [gv_of hb] at this
    rw [hd]; exact this
  | false =>
    obtain ⟨s, u, hJ⟩ := h0 hb
    have := next s u _ w (by rw [hb]; exact hJ) (hF.put (Nat.le_of_ble_eq_true hn) (gv g b u))
    rw [gv_not hb] at this
    rw [hd]; exact this
end
end Go.Proofs.YtanpeofnlihhoaaDoor
