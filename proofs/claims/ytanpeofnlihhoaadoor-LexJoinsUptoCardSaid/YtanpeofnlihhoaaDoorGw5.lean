/- GENERAL PARTS (5): slices as lists, append, calls, bodies, loops, joins. -/
import Derived.Test.YtanpeofnlihhoaaDoorGw4
import Derived.LoopN
namespace Go.Proofs.YtanpeofnlihhoaaDoor
open Go

/-! ### Lists in slices -/
structure Enc (α : Type) where
  size : Nat
  cells : α → List Value
  len : ∀ x, (cells x).length = size
  one : ∀ x, ∀ u ∈ cells x, u.oneCell' = true

def flat {α : Type} (E : Enc α) (l : List α) : List Value := l.flatMap E.cells
theorem flat_len {α : Type} (E : Enc α) (l : List α) : (flat E l).length = l.length * E.size := by
  induction l with
  | nil => simp [flat]
  | cons x l ih => simp only [flat, List.flatMap_cons, List.length_append, List.length_cons, E.len] at *; rw [ih, Nat.add_mul]; omega
theorem flat_app {α : Type} (E : Enc α) (l r : List α) : flat E (l ++ r) = flat E l ++ flat E r := by simp [flat]
theorem flat_one {α : Type} (E : Enc α) (x : α) : flat E [x] = E.cells x := by simp [flat]
theorem flat_oneCell {α : Type} (E : Enc α) (l : List α) : ∀ u ∈ flat E l, u.oneCell' = true := by
  intro u hu
  obtain ⟨x, _, hx⟩ := List.mem_flatMap.1 hu
  exact E.one x u hx
theorem flat_take {α : Type} (E : Enc α) : ∀ (l : List α) (k : Nat), (flat E l).take (k * E.size) = flat E (l.take k)
  | [], k => by simp [flat]
  | x :: l, 0 => by simp [flat]
  | x :: l, k + 1 => by
    have ih := flat_take E l k
    simp only [flat, List.flatMap_cons, List.take_succ_cons] at *
    rw [Nat.add_mul, Nat.one_mul, Nat.add_comm, List.take_append, E.len, ← ih]
    rw [List.take_of_length_le (by rw [E.len]; omega)]
    congr 2
    omega
theorem flat_drop {α : Type} (E : Enc α) : ∀ (l : List α) (k : Nat), (flat E l).drop (k * E.size) = flat E (l.drop k)
  | [], k => by simp [flat]
  | x :: l, 0 => by simp [flat]
  | x :: l, k + 1 => by
    have ih := flat_drop E l k
    simp only [flat, List.flatMap_cons, List.drop_succ_cons] at *
    rw [Nat.add_mul, Nat.one_mul, Nat.add_comm, List.drop_append, E.len, ← ih]
    rw [List.drop_of_length_le (by rw [E.len]; omega), List.nil_append]
    congr 1
    omega
theorem flat_at {α : Type} (E : Enc α) {l : List α} {i : Nat} {x : α} (hi : l[i]? = some x) {j : Nat} {u : Value} (hj : (E.cells x)[j]? = some u) : (flat E l)[i * E.size + j]? = some u := by
  rw [← List.getElem?_drop, flat_drop]
  have hlt := (List.getElem?_eq_some_iff.1 hi).1
  have hx := (List.getElem?_eq_some_iff.1 hi).2
  rw [List.drop_eq_getElem_cons hlt, hx]
  have hjl := (List.getElem?_eq_some_iff.1 hj).1
  simp only [flat, List.flatMap_cons]
  rw [List.getElem?_append_left hjl]
  exact hj
theorem flat_set {α : Type} (E : Enc α) {l : List α} {i : Nat} (hi : i < l.length) (y : α) :
    (flat E l).take (i * E.size) ++ E.cells y ++ (flat E l).drop (i * E.size + (E.cells y).length) = flat E (l.set i y) := by
  have e : i * E.size + E.size = (i + 1) * E.size := by rw [Nat.add_mul, Nat.one_mul]
  rw [E.len, e, flat_take, flat_drop, List.set_eq_take_append_cons_drop, if_pos hi, flat_app]
  simp [flat]

def RdT {α : Type} (w : World) (M : List Nat) (v : Value) (E : Enc α) (l : List α) : Prop := Rd w M v E.size l.length (flat E l)
def slT {α : Type} (v : Value) (e : Nat) (E : Enc α) (l : List α) : Ent := .sl v e E.size l.length (flat E l)

/-- A slice's address. -/
def sa (v : Value) : Addr := match v with | .slice (some a) _ _ => a | _ => ⟨0, 0, none⟩
def slen (v : Value) : Nat := match v with | .slice _ n _ => n | _ => 0
def cutTo (v : Value) (j : Nat) : Value := match v with | .slice A _ c => .slice A j c | v => v

section
variable {w w0 : World} {M : List Nat} {L : List Ent} {v : Value} {size n : Nat} {xs : List Value}

theorem Rd.cell (h : Rd w M v size n xs) {k : Nat} {u : Value} (hk : xs[k]? = some u) : w.cell? ((sa v).add k) = some u := by
  obtain ⟨hl, A, cap, rfl, _, _, hn⟩ := h
  have hlt := (List.getElem?_eq_some_iff.1 hk).1
  have h0 : 0 < n := by
    rcases Nat.eq_zero_or_pos n with rfl | h
    · simp at hl; simp [hl] at hlt
    · exact h
  obtain ⟨ad, rfl, _, _, hc⟩ := hn h0
  exact hc k u hk
theorem Rd.is (h : Rd w M v size n xs) : ∃ A cap, v = .slice A n cap ∧ (0 < n → ∃ ad, A = some ad) := by
  obtain ⟨_, A, cap, rfl, _, _, hn⟩ := h
  exact ⟨A, cap, rfl, fun h0 => by obtain ⟨ad, rfl, _⟩ := hn h0; exact ⟨ad, rfl⟩⟩
theorem RdT.cells {α : Type} {E : Enc α} {l : List α} (h : RdT w M v E l) {i : Nat} {x : α} (hi : l[i]? = some x) : ∀ j u, (E.cells x)[j]? = some u → w.cell? (((sa v).add (i * E.size)).add j) = some u := by
  intro j u hj
  rw [add_add']
  exact Rd.cell h (flat_at E hi hj)
theorem RdT.cell {α : Type} {E : Enc α} {l : List α} (h : RdT w M v E l) {i : Nat} {x : α} (hi : l[i]? = some x) {j : Nat} {u : Value} (hj : (E.cells x)[j]? = some u) : w.cell? ((sa v).add (i * E.size + j)) = some u :=
  Rd.cell h (flat_at E hi hj)
theorem RdT.cell0 {α : Type} {E : Enc α} {l : List α} (h : RdT w M v E l) {i : Nat} {x : α} (hi : l[i]? = some x) {u : Value} (hj : (E.cells x)[0]? = some u) : w.cell? ((sa v).add (i * E.size)) = some u :=
  RdT.cell h hi hj
theorem RdT.now {α : Type} {E : Enc α} {l : List α} (h : RdT w0 M v E l) (hO : St w0 M w L) : RdT w (blks L) v E l := Rd.now h hO
theorem St.rd (hO : St w0 M w L) (i : Nat) {e : Nat} (hi : L[i]? = some (.sl v e size n xs)) : Rd w [] v size n xs := Ent.rd (hO.ok hi) (fun _ _ h => by cases h)
theorem St.rdT {α : Type} {E : Enc α} {l : List α} (hO : St w0 M w L) (i : Nat) {e : Nat} (hi : L[i]? = some (slT v e E l)) : RdT w [] v E l := hO.rd i hi
/-- The own slice, apart from other entries. -/
theorem St.rdB {A B : List Ent} (hO : St w0 M w (A ++ B)) (i : Nat) {e : Nat} (hi : B[i]? = some (.sl v e size n xs)) : Rd w (blks A) v size n xs := by
  have hm : (Ent.sl v e size n xs) ∈ A ++ B := List.mem_append_right _ (List.mem_of_getElem? hi)
  refine Ent.rd (hO.own _ hm) fun b hb hA => ?_
  have hn := hO.nodup
  rw [show blks (A ++ B) = blks A ++ blks B by simp [blks], List.nodup_append] at hn
  exact hn.2.2 b hA b (mem_blks ⟨_, List.mem_of_getElem? hi, hb⟩) rfl
end

section
variable {P : Program} {o : Oper} {a : Act} {w w0 : World} {v u : Value} {x y z : Operand} {t t' : TypeId} {M : List Nat} {L : List Ent} {size n : Nat} {xs : List Value}

theorem q_lenRd {e : TypeId} {w1 : World} (hR : Rd w1 M v size n xs) (ht : P.underlying t = some (.slice e)) (ho : o.op = .call { callee := .builtin .len, args := #[x], argTypes := #[t] }) (hx : a.eval x = v) : QV P o a w (i64 n) := by
  obtain ⟨A, cap, rfl, _⟩ := hR.is
  exact q_lenSl ht ho hx
theorem q_at {e : TypeId} {w1 : World} {k : IntKind} {i : Nat} (hR : Rd w1 M v size n xs) (ht : P.underlying t = some (.slice e)) (hs : ∀ w, (sizeOf e).run P w = .ok size w) (ho : o.op = .indexAddr t x y) (hx : a.eval x = v) (hy : a.eval y = .int k (i : Int)) (hi : i < n) :
    QV P o a w (ptr ((sa v).add (i * size))) := by
  obtain ⟨A, cap, rfl, h0⟩ := hR.is
  obtain ⟨ad, rfl⟩ := h0 (by omega)
  exact q_indexAddr ht ho hx hy hi hs
/-- 's[:j]'. -/
theorem q_resl {e : TypeId} {w1 : World} {k : IntKind} {j u' : Nat} (hR : Rd w1 M v size n xs) (ht : P.underlying t = some (.slice e)) (hs : ∀ w, (sizeOf e).run P w = .ok u' w) (ho : o.op = .slice t x none (some z) none) (hx : a.eval x = v) (hz : a.eval z = .int k (j : Int)) (hj : j ≤ n) :
    QV P o a w (cutTo v j) := by
  obtain ⟨_, A, cap, rfl, hc, _, _⟩ := hR
  have hj' : j ≤ cap := by omega
  cases A with
  | none => simp [QV, execOp, ho, hx, hz, Instr.sliceAt, Instr.slice, run_underlying ht, Instr.sliceBounds, Instr.sliceBound, asIntOf, hj', hs, cutTo]
  | some ad => simpa [cutTo] using q_sliceTo (P := P) (w := w) ht hs ho hx hz hj'
theorem Rd.cut {j : Nat} (hR : Rd w M v size n xs) (hj : j ≤ n) : Rd w M (cutTo v j) size j (xs.take (j * size)) := by
  obtain ⟨hl, A, cap, rfl, hc, hm, hn⟩ := hR
  refine ⟨?_, A, cap, rfl, by omega, hm, fun h0 => ?_⟩
  · rw [List.length_take, hl]
    exact Nat.min_eq_left (Nat.mul_le_mul_right _ hj)
  · obtain ⟨ad, rfl, h1, h2, h3⟩ := hn (by omega)
    refine ⟨ad, rfl, h1, h2, fun j u hu => h3 j u ?_⟩
    rw [List.getElem?_take] at hu
    split at hu
    · exact hu
    · cases hu
theorem RdT.cut {α : Type} {E : Enc α} {l : List α} {j : Nat} (hR : RdT w M v E l) (hj : j ≤ l.length) : RdT w M (cutTo v j) E (l.take j) := by
  have := Rd.cut hR hj
  rw [flat_take] at this
  unfold RdT
  rw [List.length_take, Nat.min_eq_left hj]
  exact this
theorem ownBlock_cut (v : Value) (j : Nat) : (cutTo v j).ownBlock = v.ownBlock := by
  cases v with
  | slice A n c => cases A <;> rfl
  | _ => rfl
/-- An own slice is cut. -/
theorem St.resl {i e j : Nat} (hO : St w0 M w L) (hi : L[i]? = some (.sl v e size n xs)) (hj : j ≤ n) : St w0 M w (L.set i (.sl (cutTo v j) e size j (xs.take (j * size)))) := by
  have hok := hO.ok hi
  refine hO.turnAt hi rfl rfl rfl (Nat.le_refl _) (fun _ _ _ => rfl) ?_ (.inl (ownBlock_cut v j))
  refine ⟨by rw [List.length_take, hok.1]; exact Nat.min_eq_left (Nat.mul_le_mul_right _ hj), ?_⟩
  rcases hok.2 with ⟨rfl, rfl⟩ | ⟨g, cap, cur, rfl, hb, hg, hnc, hm, hsz, htk⟩
  · exact .inl ⟨by simp [cutTo]; omega, by omega⟩
  · refine .inr ⟨g, cap, cur, rfl, hb, hg, by omega, hm, hsz, ?_⟩
    rw [← htk, List.take_take, Nat.min_eq_left (Nat.mul_le_mul_right _ hj)]
theorem St.reslT {α : Type} {E : Enc α} {l : List α} {i e j : Nat} (hO : St w0 M w L) (hi : L[i]? = some (slT v e E l)) (hj : j ≤ l.length) : St w0 M w (L.set i (slT (cutTo v j) e E (l.take j))) := by
  have := hO.resl hi hj
  rw [flat_take] at this
  unfold slT
  rw [List.length_take, Nat.min_eq_left hj]
  exact this

/-- append to an own slice. -/
theorem e_append {e : TypeId} {inf : TypeInfo} {zv : Value} {bytes m : Nat} {v2 : Value} {ys : List Value} {i : Nat} {M2 : List Nat} (hO : St w0 M w L) (hi : L[i]? = some (.sl v e size n xs)) (hR : Rd w M2 v2 size m ys)
    (ht : P.underlying t = some (.slice e)) (hinf : P.info? e = some inf) (hz : inf.zero = some zv) (hsize : inf.size = size) (hby : inf.bytes = bytes) (hzs : zv.cells.size = size) (hsz : Nat.ble 1 size = true)
    (ho : o.op = .call { callee := .builtin .append, args := #[x, y], argTypes := #[t, t] }) (hx : a.eval x = v) (hy : a.eval y = v2) (h1 : ∀ u ∈ ys, u.oneCell' = true) (hb : (n + m) * bytes ≤ 140737488355328) (hm : n + m ≤ 9223372036854775807) :
    Eff P o a w (fun u w' => St w0 M w' (L.set i (.sl u e size (n + m) (xs ++ ys)))) := by
  have hown : w.ownsRow 0 e size v n xs := hO.ok hi
  have hlen := hR.1
  obtain ⟨A, cap, rfl, h0⟩ := hR.is
  have key : ∃ v' w', (Builtin.append_ #[t, t] o.type #[v, .slice A m cap]).run P w = .ok v' w' ∧ w'.ownsRow 0 e size v' (n + m) (xs ++ ys) ∧ w.grownBy w' v.ownBlock ∧ (v'.ownBlock = v.ownBlock ∨ v'.ownBlock = some w.heap.size) := by
    rcases Nat.eq_zero_or_pos m with rfl | hm0
    · have hys : ys = [] := List.eq_nil_of_length_eq_zero (by simpa using hlen)
      subst hys
      cases A with
      | none =>
        refine ⟨v, w, ?_, by simpa using hown, World.grownBy.refl w _, .inl rfl⟩
        rcases hown.2 with ⟨rfl, rfl⟩ | ⟨g, cap, cur, rfl, _, _, hnc, _⟩
        · simp [Builtin.append_, run_underlying ht, sizeOf, typeInfo, hinf, Builtin.lenOf, Builtin.firstCells]
        · simp [Builtin.append_, run_underlying ht, sizeOf, typeInfo, hinf, Builtin.lenOf, Builtin.firstCells, hnc, storeCells]
      | some ad =>
        obtain ⟨v', w', hr, h2, h3, _, h5⟩ := run_append_own_at (P := P) w 0 t o.type e inf zv size bytes ht hinf hz hsize hby hzs (Nat.le_of_ble_eq_true hsz) v n xs hown ad 0 cap [] (by simp) (by simp) (by simp) (by unfold maxLen; exact hm) hb (Nat.zero_le _)
        exact ⟨v', w', hr, h2, h3, h5⟩
    · obtain ⟨ad, rfl⟩ := h0 hm0
      obtain ⟨v', w', hr, h2, h3, _, h5⟩ := run_append_own_at (P := P) w 0 t o.type e inf zv size bytes ht hinf hz hsize hby hzs (Nat.le_of_ble_eq_true hsz) v n xs hown _ m cap ys hlen (fun j u hu => hR.cell hu) h1 (by unfold maxLen; exact hm) hb (Nat.zero_le _)
      exact ⟨v', w', hr, h2, h3, h5⟩
  obtain ⟨v', w', hr, h2, h3, h5⟩ := key
  refine Eff.value (w' := w') (v := v') ?_ (hO.turnAt hi h3.os h3.tape h3.output h3.size (fun b hb hne => h3.block b hb hne) h2 h5)
  simp only [execOp, ho, resolve, invoke, builtin, Sem.run_bind, Sem.run_pure, Result.andThen_ok, List.map_toArray, List.map_cons, List.map_nil, hx, hy, hr]
theorem e_appendT {α : Type} {E : Enc α} {l : List α} {r : List α} {e : TypeId} {inf : TypeInfo} {zv : Value} {bytes : Nat} {v2 : Value} {i : Nat} {M2 : List Nat} (hO : St w0 M w L) (hi : L[i]? = some (slT v e E l)) (hR : Rd w M2 v2 E.size r.length (flat E r))
    (ht : P.underlying t = some (.slice e)) (hinf : P.info? e = some inf) (hz : inf.zero = some zv) (hsize : inf.size = E.size) (hby : inf.bytes = bytes) (hzs : zv.cells.size = E.size) (hsz : Nat.ble 1 E.size = true)
    (ho : o.op = .call { callee := .builtin .append, args := #[x, y], argTypes := #[t, t] }) (hx : a.eval x = v) (hy : a.eval y = v2) (hb : (l.length + r.length) * bytes ≤ 140737488355328) (hm : l.length + r.length ≤ 9223372036854775807) :
    Eff P o a w (fun u w' => St w0 M w' (L.set i (slT u e E (l ++ r)))) := by
  have h := e_append (P := P) hO hi hR ht hinf hz hsize hby hzs hsz ho hx hy (flat_oneCell E r) hb hm
  refine h.mono fun u w' hS => ?_
  unfold slT
  rw [List.length_append, flat_app]
  exact hS

/-- A store into an own slice. -/
theorem e_storeSl {i k e : Nat} {vs : List Value} (hO : St w0 M w L) (hi : L[i]? = some (.sl v e size n xs)) (hs : ∀ w, (sizeOf t).run P w = .ok vs.length w) (ho : o.op = .store t x y) (hx : a.eval x = ptr ((sa v).add k))
    (hy : a.eval y = u) (hv : u.cells = vs.toArray) (hk : k + vs.length ≤ xs.length) (h0 : Nat.ble 1 vs.length = true) (h1 : ∀ u ∈ vs, u.oneCell' = true) :
    Eff P o a w (fun u w' => u = undef ∧ St w0 M w' (L.set i (.sl v e size n (xs.take k ++ vs ++ xs.drop (k + vs.length))))) := by
  have hown : w.ownsRow 0 e size v n xs := hO.ok hi
  have hvs := Nat.le_of_ble_eq_true h0
  rcases hown.2 with ⟨rfl, rfl⟩ | ⟨g, cap, cur, rfl, hb, hg, hnc, hm, hsz, htk⟩
  · have := hown.1
    rw [Nat.zero_mul] at this
    omega
  · have hlen := hown.1
    have hcs : n * size ≤ cur.size := by rw [hsz]; exact Nat.mul_le_mul_right _ hnc
    have hst := run_storeCells_at P g k e vs 0 cur w hg (by simp; omega) h1
    simp only [Nat.add_zero] at hst
    refine Eff.skip (w' := w.setRow g (cur.toList.take k ++ vs ++ cur.toList.drop (k + vs.length)).toArray) ?_ ⟨rfl, hO.turnAt hi rfl rfl rfl (by simp) (fun c _ hc => setRow_other w g c _ (fun e => hc (by simp [Ent.blk, Value.ownBlock, e]))) ?_ (.inl rfl)⟩
    · have hsz : u.cells.size = vs.length := by rw [hv]; simp
      have hl : u.cells.toList = vs := by rw [hv]
      simp only [execOp, ho, Sem.run_bind, Instr.storeAt, hx, ptr, Instr.sureAddr, Sem.run_pure, Result.andThen_ok, storeVar, hs, hy, hsz, ne_eq, not_true_eq_false, if_false, hl, sa]
      rw [show (⟨g, 0, none⟩ : Addr).add k = ⟨g, k, none⟩ from adr_add g k, hst]
      rfl
    · refine ⟨by simp; omega, .inr ⟨g, cap, _, rfl, hb, setRow_heap w g _ _ e _ hg, hnc, hm, ?_, ?_⟩⟩
      · simp; omega
      · rw [← htk] at hlen hk ⊢
        simp only [List.length_take, Array.length_toList] at hlen hk
        have hk' : k + vs.length ≤ n * size := by omega
        rw [List.take_append, List.take_append, List.take_take, List.take_take, List.drop_take]
        simp only [List.length_append, List.length_take, Array.length_toList]
        rw [show min (n * size) k = k by omega, show min k cur.size = k by omega]
        rw [show min k (n * size) = k by omega, List.take_of_length_le (l := vs) (by omega)]

/-! ### Calls -/
def Ret (P : Program) (f : Nat) (args : Array Value) (w : World) (R : Value → World → Prop) : Prop := Calls P f args w fun e w' => ∃ v, e = .returned v ∧ R v w'
theorem Ret.mono {f : Nat} {args : Array Value} {R R' : Value → World → Prop} (h : Ret P f args w R) (hr : ∀ v w', R v w' → R' v w') : Ret P f args w R' := Calls.mono h fun _ _ ⟨v, he, hv⟩ => ⟨v, he, hr _ _ hv⟩

theorem e_call {f : Nat} {args : Array Operand} {vs : Array Value} {ts : Array TypeId} {R : Value → World → Prop} (ho : o.op = .call { callee := .value (.func f), args := args, argTypes := ts }) (hv : args.map a.eval = vs)
    (hf : ∀ args w, (callFunc f args).run P w = .ok (.enter f args) w) (hc : Ret P f vs w R) : Eff P o a w R := by
  refine Eff.call (f := f) (args := vs) (w' := w) ?_ hc
  simp [execOp, ho, resolve, invoke, Act.eval, Deferred.ofValue, hv, hf]
/-- A call of a function value. -/
theorem e_callV {f : Nat} {g : Operand} {fs cs : Array Value} {args : Array Operand} {vs : Array Value} {ts : Array TypeId} {R : Value → World → Prop} (ho : o.op = .call { callee := .value g, args := args, argTypes := ts }) (hg : a.eval g = .func (.func f) fs cs) (hv : fs ++ args.map a.eval ++ cs = vs)
    (hf : ∀ args w, (callFunc f args).run P w = .ok (.enter f args) w) (hc : Ret P f vs w R) : Eff P o a w R := by
  refine Eff.call (f := f) (args := vs) (w' := w) ?_ hc
  simp [execOp, ho, resolve, invoke, hg, Deferred.ofValue, hv, hf]

/-! ### Bodies -/
def Post (P : Program) (fn : Func) (R : Value → World → Prop) : Exit → Act → World → Prop := bodyPost P fn fun e w' => ∃ v, e = .returned v ∧ R v w'
theorem ret_of {f : Nat} {fn : Func} {c : Code} {args : Array Value} {R : Value → World → Prop} (hf : P.funcs[f]? = some fn) (hb : fn.body = some c) {m : Nat} (hm : fn.ntmps = m) (L : List (Nat × Value)) (hle : Nat.ble args.size m = true) (hL : AllIn ((List.range args.size).zip args.toList) L)
    (h : ∀ a, Fr a m L → c.wp P (Post P fn R) a w) : Ret P f args w R := by
  refine calls_of_wp hf hb ?_
  have := Fr.init args (fn.ntmps - args.size) L hL
  rw [show args.size + (fn.ntmps - args.size) = m by rw [hm]; have := Nat.le_of_ble_eq_true hle; omega] at this
  exact h _ this
theorem r_1 {fn : Func} {R : Value → World → Prop} {m : Nat} {L : List (Nat × Value)} {k : Nat} (hF : Fr a m L) (hr : fn.results = #[.tmp k]) (hv : lk L k = some v) (hR : R v w) : Post P fn R .ret a w :=
  ⟨hF.defs, v, by rw [results_tmp hr, hF.get k v hv], v, rfl, hR⟩
theorem r_2 {fn : Func} {R : Value → World → Prop} {m : Nat} {L : List (Nat × Value)} {k l : Nat} (hF : Fr a m L) (hr : fn.results = #[.tmp k, .tmp l]) (hv : lk L k = some v) (hu : lk L l = some u) (hR : R (.tuple #[v, u]) w) : Post P fn R .ret a w :=
  ⟨hF.defs, .tuple #[v, u], by rw [results_tmp2 hr, hF.get k v hv, hF.get l u hu], _, rfl, hR⟩
theorem r_0 {fn : Func} {R : Value → World → Prop} {m : Nat} {L : List (Nat × Value)} (hF : Fr a m L) (hr : fn.results = #[]) (hR : R (.tuple #[]) w) : Post P fn R .ret a w :=
  ⟨hF.defs, .tuple #[], results_none hr _ _ _, _, rfl, hR⟩
theorem r_0n {fn : Func} {R : Value → World → Prop} {m : Nat} {L : List (Nat × Value)} (hF : Fr a m L) (hr : fn.results = #[]) (hR : R (.tuple #[]) w) : Post P fn R .normal a w :=
  ⟨hF.defs, .tuple #[], results_none hr _ _ _, _, rfl, hR⟩
/-- A result in a temporary, and one in a variable of some cells. -/
theorem r_tc {fn : Func} {R : Value → World → Prop} {m : Nat} {L : List (Nat × Value)} {k l size : Nat} {ty : TypeId} {ad : Addr} {cs : List Value} (hF : Fr a m L) (hr : fn.results = #[.tmp k, .cell l ty]) (hv : lk L k = some v) (hu : lk L l = some (ptr ad))
    (ha : ∀ w, (isAgg ty).run P w = .ok true w) (hs : ∀ w, (sizeOf ty).run P w = .ok size w) (hc : ∀ j u, cs[j]? = some u → w.cell? (ad.add j) = some u) (hl : cs.length = size) (hR : R (.tuple #[v, .agg cs.toArray]) w) : Post P fn R .ret a w := by
  subst hl
  refine ⟨hF.defs, .tuple #[v, .agg cs.toArray], ?_, _, rfl, hR⟩
  have e1 := hF.get k v hv
  have e2 := hF.get l _ hu
  rw [Array.getD_eq_getD_getElem?] at e1 e2
  simp [results, hr, e1, e2, ptr, asAddr, loadVar, ha, hs, run_loadCells_list w ad cs hc]
/-- Two results in variables of one cell. -/
theorem r_cc {fn : Func} {R : Value → World → Prop} {m : Nat} {L : List (Nat × Value)} {k l : Nat} {t1 t2 : TypeId} {ad ad' : Addr} (hF : Fr a m L) (hr : fn.results = #[.cell k t1, .cell l t2]) (hk : lk L k = some (ptr ad)) (hl : lk L l = some (ptr ad'))
    (h1 : ∀ w, (isAgg t1).run P w = .ok false w) (h2 : ∀ w, (isAgg t2).run P w = .ok false w) (hc : w.cell? ad = some v) (hc' : w.cell? ad' = some u) (hR : R (.tuple #[v, u]) w) : Post P fn R .ret a w := by
  refine ⟨hF.defs, .tuple #[v, u], ?_, _, rfl, hR⟩
  have e1 := hF.get k _ hk
  have e2 := hF.get l _ hl
  rw [Array.getD_eq_getD_getElem?] at e1 e2
  simp [results, hr, e1, e2, ptr, asAddr, loadVar, h1, h2, hc, hc']

/-! ### Control -/
theorem wp_if {c : Operand} {p q : Code} {Q : Exit → Act → World → Prop} {m : Nat} {L : List (Nat × Value)} {b : Bool} (hF : Fr a m L) (hv : ev L c = some (.bool b)) (ht : b = true → p.wp P Q a w) (hf : b = false → q.wp P Q a w) : (Code.cond c p q).wp P Q a w :=
  wp_cond_split (hF.eval hv) ht hf
theorem wp_ifD {c : Operand} {p q : Code} {Q : Exit → Act → World → Prop} {m : Nat} {L : List (Nat × Value)} {b : Bool} {r : Prop} {ir : Decidable r} (hF : Fr a m L) (hv : ev L c = some (.bool b)) (hb : b = decide r) (ht : r → p.wp P Q a w) (hf : ¬ r → q.wp P Q a w) : (Code.cond c p q).wp P Q a w :=
  wp_cond_split (hF.eval hv) (fun h => ht (of_decide_eq_true (hb ▸ h))) (fun h => hf (of_decide_eq_false (hb ▸ h)))
theorem wp_seqJ {p q : Code} {Q : Exit → Act → World → Prop} {Js : Type} (J : Js → Act → World → Prop) (hx : p.wp P (Exit.then (fun a w => ∃ s, J s a w) Q) a w) (hy : ∀ s a w, J s a w → q.wp P Q a w) : (Code.seq p q).wp P Q a w :=
  wp_seq (wp_mono hx fun e a' w' h => by
    cases e with
    | normal => obtain ⟨s, hs⟩ := h; exact hy s a' w' hs
    | _ => exact h)
theorem wp_loopS {c : Code} {Q : Exit → Act → World → Prop} {Js : Type} (I : Js → Act → World → Prop) (μ : Js → Nat) (s0 : Js) (h0 : I s0 a w)
    (round : ∀ s a w, I s a w → c.wp P (Exit.then (fun a' w' => ∃ s', I s' a' w' ∧ μ s' < μ s) Q) a w) : (Code.loop c).wp P Q a w := by
  have key : ∀ n s a w, μ s < n → I s a w → Code.rounds P c Q n a w := by
    intro n
    induction n with
    | zero => intro s a w h; omega
    | succ n ih =>
      intro s a w h hI
      rw [rounds_succ]
      refine wp_mono (round s a w hI) fun e a' w' he => ?_
      cases e with
      | normal => obtain ⟨s', hI', hlt⟩ := he; exact ih s' a' w' (by omega) hI'
      | _ => exact he
  exact wp_loop_rounds _ (key (μ s0 + 1) s0 a w (by omega) h0)
end
end Go.Proofs.YtanpeofnlihhoaaDoor
