/- GENERAL PARTS (7): bytes, conversions, guarded calls. -/
import Derived.Test.YtanpeofnlihhoaaDoorGw6
namespace Go.Proofs.YtanpeofnlihhoaaDoor
open Go

def byteE : Enc UInt8 where
  size := 1
  cells b := [.int .u8 b.toNat]
  len _ := rfl
  one t u hu := by
    simp only [List.mem_cons, List.not_mem_nil, or_false] at hu
    subst hu; rfl
def boolE : Enc Bool where
  size := 1
  cells b := [.bool b]
  len _ := rfl
  one t u hu := by
    simp only [List.mem_cons, List.not_mem_nil, or_false] at hu
    subst hu; rfl
def intE : Enc Int where
  size := 1
  cells b := [i64 b]
  len _ := rfl
  one t u hu := by
    simp only [List.mem_cons, List.not_mem_nil, or_false] at hu
    subst hu; rfl

theorem of_g {p : Prop} {_ : Decidable p} (h : isB (.bool (decide p)) true = true) : p := by simpa [isB] using h
theorem of_gn {p : Prop} {_ : Decidable p} (h : isB (.bool (decide p)) false = true) : ¬ p := by simpa [isB] using h

section
variable {P : Program} {o : Oper} {a : Act} {w w0 : World} {v u : Value} {x y z : Operand} {t t' : TypeId} {M : List Nat} {L : List Ent} {n : Nat} {F : List (Nat × Value)}

theorem q_indexD {k : IntKind} {l : List UInt8} {m : Nat} (ht : P.underlying t = some .string) (ho : o.op = .index t x y) (hx : a.eval x = str l) (hy : a.eval y = .int k (m : Int)) (hm : m < l.length) : QV P o a w (.int .u8 ((l.getD m 0).toNat : Int)) := by
  have : l[m]? = some (l.getD m 0) := by simp [List.getElem?_eq_getElem hm]
  exact q_index ht ho hx hy this
theorem q_u8sub {m k : Int} (ho : o.op = .binOp .sub t x y t') (hx : a.eval x = .int .u8 m) (hy : a.eval y = .int .u8 k) (hr : 0 ≤ m - k ∧ m - k ≤ 255) : QV P o a w (.int .u8 (m - k)) :=
  q_binInt ho hx hy (by simp [binOp, Op.intArith, IntWalk.u8_in _ hr])
theorem q_conv {k k' : IntKind} {m r : Int} (h1 : P.underlying t = some (.int k)) (h2 : P.underlying t' = some (.int k')) (ho : o.op = .convert t t' x) (hx : a.eval x = .int k m) (hr : k'.wrap m = r) : QV P o a w (.int k' r) := by
  simp [QV, execOp, ho, hx, convert, run_underlying h1, run_underlying h2, Conv.intToInt, hr]
theorem q_min {k : IntKind} {m r : Int} {ts : Array TypeId} (ho : o.op = .call { callee := .builtin .min, args := #[x, y], argTypes := ts }) (hx : a.eval x = .int k m) (hy : a.eval y = .int k r) : QV P o a w (.int k (min m r)) := by
  have e : (if r < m then r else m) = min m r := by rw [Int.min_def]; split <;> split <;> omega
  simp [QV, execOp, ho, resolve, invoke, builtin, Builtin.min_, Builtin.min2, hx, hy, e]
theorem q_max {k : IntKind} {m r : Int} {ts : Array TypeId} (ho : o.op = .call { callee := .builtin .max, args := #[x, y], argTypes := ts }) (hx : a.eval x = .int k m) (hy : a.eval y = .int k r) : QV P o a w (.int k (max m r)) := by
  have e : (if r > m then r else m) = max m r := by rw [Int.max_def]; split <;> split <;> omega
  simp [QV, execOp, ho, resolve, invoke, builtin, Builtin.max_, Builtin.max2, hx, hy, e]

theorem run_bytes (f : Value → ByteArray → Sem (ForInStep ByteArray)) (hf : ∀ (b : UInt8) s, f (.int .u8 (b.toNat : Int)) s = pure (ForInStep.yield (s.push b))) (l : List UInt8) : ∀ (s : ByteArray),
    (forIn (l.map fun b : UInt8 => Value.int .u8 (b.toNat : Int)) s f : Sem ByteArray).run P w = .ok ⟨(s.data.toList ++ l).toArray⟩ w := by
  induction l with
  | nil => intro s; simp
  | cons b l ih =>
    intro s
    have := ih (s.push b)
    simp only [List.map_cons, List.forIn_cons, hf, Sem.run_bind, Sem.run_pure, Result.andThen_ok]
    rw [this]
    simp [ByteArray.push]
theorem q_bytesStr {e : TypeId} {l : List UInt8} (hR : RdT w M v byteE l) (h1 : P.underlying t = some (.slice e)) (h2 : P.underlying t' = some .string) (h3 : P.underlying e = some (.int .u8)) (ho : o.op = .convert t t' x) (hx : a.eval x = v) : QV P o a w (str l) := by
  have hlen := hR.1
  obtain ⟨A, cap, rfl, h0⟩ := Rd.is hR
  have hfl : flat byteE l = l.map fun b => Value.int .u8 b.toNat := by
    unfold flat
    clear hlen h0 hR hx
    induction l with
    | nil => rfl
    | cons b l ih => rw [List.flatMap_cons, ih]; rfl
  cases A with
  | none =>
    have : l = [] := by
      cases l with
      | nil => rfl
      | cons b l => obtain ⟨ad, h⟩ := h0 (by simp); cases h
    subst this
    simp [QV, execOp, ho, hx, convert, run_underlying h1, run_underlying h2, run_underlying h3, Conv.bytesToString, str]
    rfl
  | some ad =>
    have hc : (loadCells ad l.length).run P w = .ok (flat byteE l).toArray w := by
      have := run_loadCells_list (P := P) w ad (flat byteE l) (fun j u hj => Rd.cell hR hj)
      rwa [show (flat byteE l).length = l.length by rw [flat_len]; simp [byteE]] at this
    simp only [QV, execOp, ho, hx, convert, run_underlying h1, run_underlying h2, run_underlying h3, Conv.bytesToString, Sem.run_bind, Result.andThen_ok, hc]
    rw [hfl, ← Array.forIn_toList]
    rw [run_bytes (P := P) (w := w) _ (fun b s => by simp) l]
    simp [str]

theorem c_callG {f : Nat} {args : List Operand} {vs vs' : List Value} {ts : Array TypeId} {R : Value → World → Prop} (hF : Fr a n F) (ho : o.op = .call { callee := .value (.func f), args := args.toArray, argTypes := ts }) (hv : evs F args = some vs) (hvs : vs = vs')
    (hf : ∀ args w, (callFunc f args).run P w = .ok (.enter f args) w) (hc : Ret P f vs'.toArray w R) : Eff P o a w R := by
  subst hvs; exact c_call hF ho hv hf hc

section
variable {ops : Array Oper} {Q : Exit → Act → World → Prop} {rest : List Oper} {d : Nat}
/-- A guarded call that yields v and leaves what is held. -/
theorem wl_gk {j : Nat} {b : Bool} {dj : Nat} {oj : Oper} {g : Value} (hO : St w0 M w L) (hF : Fr a n F) (hg : o.guard = some (j, b)) (hj : ops[j]? = some oj) (hdj : oj.dst = some dj) (hv : lk F dj = some g)
    (hd : o.dst = some d) (hn : Nat.ble (d + 1) n = true) (h : isB g b = true → Eff P o a w (fun u w' => u = v ∧ St w [] w' []))
    (next : ∀ a w, St w0 M w L → Fr a n ((d, gv g b v) :: F) → wpList P ops Q rest a w) : wpList P ops Q (o :: rest) a w := by
  refine wl_gc hF hg hj hdj hv hd hn h (fun a u w' ⟨hu, hS⟩ hb hF => ?_) (fun a hb hF => ?_)
  · have := next a w' (hO.call0 hS)
    rw [gv_of hb] at this
    subst hu
    exact this hF
  · have := next a w hO
    rw [gv_not hb] at this
    exact this hF
theorem wd_gk {S : World → Prop} {K : Act → World → Prop} {ks : List Nat} {j : Nat} {b : Bool} {dj : Nat} {oj : Oper} {g : Value} (hO : St w0 M w L) (hF : Fr a n F) (hg : o.guard = some (j, b)) (hj : ops[j]? = some oj) (hdj : oj.dst = some dj) (hv : lk F dj = some g)
    (hd : o.dst = some d) (hn : Nat.ble (d + 1) n = true) (h : isB g b = true → Eff P o a w (fun u w' => u = v ∧ St w [] w' []))
    (next : ∀ a w, St w0 M w L → Fr a n ((d, gv g b v) :: F) → wpD P ops S K rest ks a w) : wpD P ops S K (o :: rest) (3 :: ks) a w := by
  show stepD P ops S o 3 (wpD P ops S K rest ks) a w
  have hw := wanted_of hF hg hj hdj hv
  unfold stepD
  rw [hw]
  cases hb : isB g b with
  | true =>
    simp only [if_true]
    rw [if_neg (by omega)]
    refine (h hb).mono fun u w' ⟨hu, hS⟩ => ⟨fun h => by omega, ?_⟩
    have := next _ w' (hO.call0 hS) (hF.put (Nat.le_of_ble_eq_true hn) (gv g b v))
    rw [gv_of hb] at this
    subst hu
    rw [hd]; exact this
  | false =>
    have := next _ w hO (hF.put (Nat.le_of_ble_eq_true hn) (gv g b v))
    rw [gv_not hb] at this
    rw [hd]; exact this
end
end
end Go.Proofs.YtanpeofnlihhoaaDoor
