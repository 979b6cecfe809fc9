/- GW16: pointers that may be nil; arrays in blocks; cuts at both ends; copy, clear; blocks that are only read; more of what calls are handed. -/
import Derived.Test.YtanpeofnlihhoaaDoorGw15
namespace Go.Proofs.YtanpeofnlihhoaaDoor
open Go
section
variable {P : Program} {o : Oper} {a : Act} {w w0 : World} {v u : Value} {x y z : Operand} {t t' : TypeId} {M : List Nat} {L : List Ent} {size n : Nat} {xs : List Value}
theorem run_equalIn_ptr {e : TypeId} {p : Option Addr} (d : Nat) (ht : P.underlying t = some (.pointer e)) : (Op.equalIn (d + 1) t (.pointer p) (.pointer none)).run P w = .ok (decide (p = none)) w := by
  cases p <;> simp [Op.equalIn, run_underlying ht]
theorem run_equal_ptr {e : TypeId} {p : Option Addr} (ht : P.underlying t = some (.pointer e)) : (Op.equal t (.pointer p) (.pointer none)).run P w = .ok (decide (p = none)) w := run_equalIn_ptr 9999 ht
theorem run_equalIn_sl {e : TypeId} {A : Option Addr} {n c : Nat} (d : Nat) (ht : P.underlying t = some (.slice e)) : (Op.equalIn (d + 1) t (.slice A n c) (.slice none 0 0)).run P w = .ok (decide (A = none)) w := by
  cases A <;> simp [Op.equalIn, run_underlying ht]
theorem run_equal_sl {e : TypeId} {A : Option Addr} {n c : Nat} (ht : P.underlying t = some (.slice e)) : (Op.equal t (.slice A n c) (.slice none 0 0)).run P w = .ok (decide (A = none)) w := run_equalIn_sl 9999 ht
theorem set_self {α : Type} {l : List α} {i : Nat} {x : α} (h : l[i]? = some x) : l.set i x = l := by
  obtain ⟨h1, h2⟩ := List.getElem?_eq_some_iff.1 h
  rw [← h2]; exact List.set_getElem_self h1
theorem q_peq {e : TypeId} {p : Option Addr} (ht : P.underlying t = some (.pointer e)) (ho : o.op = .binOp .eql t x y t') (hx : a.eval x = .pointer p) (hy : a.eval y = .pointer none) : QV P o a w (.bool (decide (p = none))) := by
  have hg : eqGuard .eql t x y (.pointer p) (.pointer none) = pure () := rfl
  simp [QV, execOp, ho, hx, hy, hg, binOp, run_equal_ptr ht]
theorem q_pne {e : TypeId} {p : Option Addr} (ht : P.underlying t = some (.pointer e)) (ho : o.op = .binOp .neq t x y t') (hx : a.eval x = .pointer p) (hy : a.eval y = .pointer none) : QV P o a w (.bool (decide (¬ p = none))) := by
  have hg : eqGuard .neq t x y (.pointer p) (.pointer none) = pure () := rfl
  simp [QV, execOp, ho, hx, hy, hg, binOp, run_equal_ptr ht]
theorem q_sleq {e : TypeId} {A : Option Addr} {n c : Nat} (ht : P.underlying t = some (.slice e)) (ho : o.op = .binOp .eql t x y t') (hx : a.eval x = .slice A n c) (hy : a.eval y = .slice none 0 0) : QV P o a w (.bool (decide (A = none))) := by
  have hg : eqGuard .eql t x y (.slice A n c) (.slice none 0 0) = pure () := rfl
  simp [QV, execOp, ho, hx, hy, hg, binOp, run_equal_sl ht]
theorem q_atArr {e : TypeId} {k : IntKind} {ad : Addr} {i m s : Nat} (ht : P.underlying t = some (.array m e)) (hs : ∀ w, (sizeOf e).run P w = .ok s w) (ho : o.op = .indexAddr t x y) (hx : a.eval x = ptr ad) (hy : a.eval y = .int k (i : Int)) (hi : i < m) :
    QV P o a w (ptr (ad.add (i * s))) := by
  simp [QV, execOp, ho, hx, hy, Instr.indexAt, asIntOf, run_underlying ht, Instr.sureAddr, hi, hs, ptr]
/-- 's[i:j]' -/
def cutV (v : Value) (i j s : Nat) : Value := match v with | .slice A _ c => .slice (if c = i then A else A.map (·.add (i * s))) (j - i) (c - i) | v => v
theorem q_cut2 {e : TypeId} {w1 : World} {k k' : IntKind} {i j : Nat} (hR : Rd w1 M v size n xs) (ht : P.underlying t = some (.slice e)) (hs : ∀ w, (sizeOf e).run P w = .ok size w) (ho : o.op = .slice t x (some y) (some z) none) (hx : a.eval x = v) (hy : a.eval y = .int k (i : Int)) (hz : a.eval z = .int k' (j : Int)) (hij : i ≤ j) (hj : j ≤ n) :
    QV P o a w (cutV v i j size) := by
  obtain ⟨_, A, cap, rfl, hc, _, _⟩ := hR
  have hj' : j ≤ cap := by omega
  simp [QV, execOp, ho, hx, hy, hz, Instr.sliceAt, Instr.slice, run_underlying ht, Instr.sliceBounds, Instr.sliceBound, asIntOf, hij, hj', hs, cutV]
theorem Rd.cut2 {i j : Nat} (hR : Rd w M v size n xs) (hij : i ≤ j) (hj : j ≤ n) : Rd w M (cutV v i j size) size (j - i) ((xs.drop (i * size)).take ((j - i) * size)) := by
  obtain ⟨hl, A, cap, rfl, hc, hm, hn⟩ := hR
  have hmul : (j - i) * size + i * size ≤ n * size := by rw [← Nat.add_mul]; exact Nat.mul_le_mul_right _ (by omega)
  refine ⟨?_, _, cap - i, rfl, by omega, by omega, fun h0 => ?_⟩
  · rw [List.length_take, List.length_drop, hl]; omega
  · obtain ⟨ad, rfl, h1, h2, h3⟩ := hn (by omega)
    have hci : ¬ cap = i := by omega
    refine ⟨ad.add (i * size), by simp [hci], by rw [block_add]; exact h1, by rw [block_add]; exact h2, fun q u hu => ?_⟩
    rw [add_add']
    refine h3 _ u ?_
    rw [List.getElem?_take] at hu
    split at hu
    · rw [List.getElem?_drop] at hu; exact hu
    · cases hu
theorem RdT.cut2 {α : Type} {E : Enc α} {l : List α} {i j : Nat} (hR : RdT w M v E l) (hij : i ≤ j) (hj : j ≤ l.length) : RdT w M (cutV v i j E.size) E ((l.drop i).take (j - i)) := by
  have := Rd.cut2 hR hij hj
  rw [flat_drop, flat_take] at this
  unfold RdT
  rw [List.length_take, List.length_drop, show min (j - i) (l.length - i) = j - i by omega]
  exact this

/-! stores of many cells into an own slice -/
theorem own_cells {i k e : Nat} {vs : List Value} (hO : St w0 M w L) (hi : L[i]? = some (.sl v e size n xs)) (hk : k + vs.length ≤ xs.length) (h1 : ∀ u ∈ vs, u.oneCell' = true) (hne : vs ≠ []) :
    ∃ w', (storeCells ((sa v).add k) vs 0).run P w = .ok () w' ∧ St w0 M w' (L.set i (.sl v e size n (xs.take k ++ vs ++ xs.drop (k + vs.length)))) := by
  have hown : w.ownsRow 0 e size v n xs := hO.ok hi
  have hvs : 1 ≤ vs.length := List.length_pos_iff.2 hne
  rcases hown.2 with ⟨rfl, rfl⟩ | ⟨g, cap, cur, rfl, hb, hg, hnc, hm, hsz, htk⟩
  · have := hown.1
    rw [Nat.zero_mul] at this
    omega
  · have hlen := hown.1
    have hcs : n * size ≤ cur.size := by rw [hsz]; exact Nat.mul_le_mul_right _ hnc
    have hst := run_storeCells_at P g k e vs 0 cur w hg (by simp; omega) h1
    simp only [Nat.add_zero] at hst
    refine ⟨w.setRow g (cur.toList.take k ++ vs ++ cur.toList.drop (k + vs.length)).toArray, ?_, hO.turnAt hi rfl rfl rfl (by simp) (fun c _ hc => setRow_other w g c _ (fun e => hc (by simp [Ent.blk, Value.ownBlock, e]))) ?_ (.inl rfl)⟩
    · rw [show (sa (.slice (some ⟨g, 0, none⟩) n cap)).add k = ⟨g, k, none⟩ from adr_add g k]
      exact hst
    · refine ⟨by simp; omega, .inr ⟨g, cap, _, rfl, hb, setRow_heap w g _ _ e _ hg, hnc, hm, ?_, ?_⟩⟩
      · simp; omega
      · rw [← htk] at hlen hk ⊢
        simp only [List.length_take, Array.length_toList] at hlen hk
        have hk' : k + vs.length ≤ n * size := by omega
        rw [List.take_append, List.take_append, List.take_take, List.take_take, List.drop_take]
        simp only [List.length_append, List.length_take, Array.length_toList]
        rw [show min (n * size) k = k by omega, show min k cur.size = k by omega]
        rw [show min k (n * size) = k by omega, List.take_of_length_le (l := vs) (by omega)]
theorem flat_put {α : Type} (E : Enc α) (l fs : List α) (k : Nat) : (flat E l).take (k * E.size) ++ flat E fs ++ (flat E l).drop (k * E.size + (flat E fs).length) = flat E (l.take k ++ fs ++ l.drop (k + fs.length)) := by
  rw [flat_take, flat_len, ← Nat.add_mul, flat_drop, flat_app, flat_app]
/-- copy onto an own slice's rest. -/
theorem e_copyT {α : Type} {E : Enc α} {l fs : List α} {e i k : Nat} {v2 : Value} {M2 : List Nat} (hO : St w0 M w L) (hi : L[i]? = some (slT v e E l)) (hR : RdT w M2 v2 E fs) {et : TypeId} (ht : P.underlying t = some (.slice et)) (hs : ∀ w, (sizeOf et).run P w = .ok E.size w)
    (ho : o.op = .call { callee := .builtin .copy, args := #[x, y], argTypes := #[t, t'] }) (hx : a.eval x = dropV v k E.size) (hy : a.eval y = v2) (hk : k + fs.length ≤ l.length) (h0 : Nat.ble 1 E.size = true) :
    Eff P o a w (fun _ w' => St w0 M w' (L.set i (slT v e E (l.take k ++ fs ++ l.drop (k + fs.length))))) := by
  have hsz := Nat.le_of_ble_eq_true h0
  have hown : w.ownsRow 0 e E.size v l.length (flat E l) := hO.ok hi
  obtain ⟨hfl, A2, c2, rfl, h2, _, hn2⟩ := hR
  have hlen : (l.take k ++ fs ++ l.drop (k + fs.length)).length = l.length := by
    simp only [List.length_append, List.length_take, List.length_drop]; omega
  obtain ⟨_, A, cap, rfl, hc, _, hn⟩ := hO.rd i hi
  have hmin : Nat.min fs.length (l.length - k) = fs.length := Nat.min_eq_left (by omega)
  by_cases hf : fs = []
  · subst hf
    have hL : L.set i (slT (.slice A l.length cap) e E (l.take k ++ [] ++ l.drop (k + ([] : List α).length))) = L := by
      rw [List.append_nil, List.length_nil, Nat.add_zero, List.take_append_drop]
      exact set_self hi
    rw [hL]
    refine Eff.value (w' := w) (v := goInt 0) ?_ hO
    have hfc : (Builtin.firstCells E.size 0 (.slice A2 0 c2)).run P w = .ok #[] w := by
      cases A2 with
      | none => simp [Builtin.firstCells]
      | some ad => exact run_firstCells_some (P := P) w E.size 0 ad 0 c2 [] (by simp) (by simp)
    have hcopy : (Builtin.copy_ #[t, t'] o.type #[dropV (.slice A l.length cap) k E.size, .slice A2 0 c2]).run P w = .ok (goInt 0) w := by
      simp only [Builtin.copy_, dropV]
      simp only [List.getElem?_toArray, List.getElem?_cons_zero, List.getElem?_cons_succ, Sem.run_bind, run_underlying ht, Result.andThen_ok, Builtin.lenOf, Sem.run_pure, Nat.zero_min, hs, hfc]
      split <;> simp [storeCells]
    simp only [execOp, ho, resolve, invoke, builtin, Sem.run_bind, Sem.run_pure, Result.andThen_ok, List.map_toArray, List.map_cons, List.map_nil, hx, hy, List.length_nil] at hcopy ⊢
    rw [hcopy]
    rfl
  · have hfp : 0 < fs.length := List.length_pos_iff.2 hf
    obtain ⟨ad2, rfl, _, _, hcell⟩ := hn2 hfp
    obtain ⟨ad, rfl, _⟩ := hn (by omega)
    have hci : ¬ cap = k := by omega
    have hfne : flat E fs ≠ [] := fun h => by
      have := congrArg List.length h
      rw [flat_len, List.length_nil] at this
      have h3 := Nat.mul_pos hfp hsz
      omega
    obtain ⟨w', hst, hS⟩ := own_cells (P := P) (k := k * E.size) (vs := flat E fs) hO hi (by rw [flat_len, flat_len, ← Nat.add_mul]; exact Nat.mul_le_mul_right _ hk) (flat_oneCell E fs) hfne
    rw [flat_put] at hS
    have hfc := run_firstCells_some (P := P) w E.size fs.length ad2 fs.length c2 (flat E fs) (flat_len E fs) (fun j v hj => hcell j v hj)
    refine Eff.value (w' := w') (v := goInt fs.length) ?_ (by unfold slT; rw [hlen]; exact hS)
    have hst' : (storeCells (ad.add (k * E.size)) (flat E fs)).run P w = .ok () w' := hst
    have hcopy : (Builtin.copy_ #[t, t'] o.type #[dropV (.slice (some ad) l.length cap) k E.size, .slice (some ad2) fs.length c2]).run P w = .ok (goInt fs.length) w' := by
      simp only [Builtin.copy_, dropV, hci, if_false, Option.map_some]
      simp only [List.getElem?_toArray, List.getElem?_cons_zero, List.getElem?_cons_succ, Sem.run_bind, run_underlying ht, Result.andThen_ok, Builtin.lenOf, Sem.run_pure, hs, hmin, hfc, hst']
    simp only [execOp, ho, resolve, invoke, builtin, Sem.run_bind, Sem.run_pure, Result.andThen_ok, List.map_toArray, List.map_cons, List.map_nil, hx, hy]
    rw [hcopy]
    rfl
/-- clear of a cut of an own slice. -/
theorem e_clearT {α : Type} {E : Enc α} {l : List α} {z0 : α} {e i p q : Nat} {zv : Value} (hO : St w0 M w L) (hi : L[i]? = some (slT v e E l)) {et : TypeId} (ht : P.underlying t = some (.slice et)) (hz : ∀ w, (zeroValue et).run P w = .ok zv w) (hzc : zv.cells = (E.cells z0).toArray)
    (ho : o.op = .call { callee := .builtin .clear, args := #[x], argTypes := #[t] }) (hx : a.eval x = cutV v p q E.size) (hpq : p ≤ q) (hq : q ≤ l.length) (h0 : Nat.ble 1 E.size = true) :
    Eff P o a w (fun _ w' => St w0 M w' (L.set i (slT v e E (l.take p ++ List.replicate (q - p) z0 ++ l.drop q)))) := by
  have hsz := Nat.le_of_ble_eq_true h0
  obtain ⟨_, A, cap, rfl, hc, _, hn⟩ := hO.rd i hi
  have hlen : (l.take p ++ List.replicate (q - p) z0 ++ l.drop q).length = l.length := by
    simp only [List.length_append, List.length_take, List.length_drop, List.length_replicate]; omega
  by_cases hpq' : q - p = 0
  · have hL : L.set i (slT (.slice A l.length cap) e E (l.take p ++ List.replicate (q - p) z0 ++ l.drop q)) = L := by
      rw [hpq', List.replicate_zero, List.append_nil, show q = p by omega, List.take_append_drop]
      exact set_self hi
    rw [hL]
    refine Eff.value (w' := w) (v := .tuple #[]) ?_ hO
    have hclear : (Builtin.clear_ #[t] o.type #[cutV (.slice A l.length cap) p q E.size]).run P w = .ok (.tuple #[]) w := by
      simp only [Builtin.clear_, cutV, hpq']
      simp only [List.getElem?_toArray, List.getElem?_cons_zero, Sem.run_bind, run_underlying ht, Result.andThen_ok]
      cases A <;> by_cases h : cap = p <;> simp [h]
    simp only [execOp, ho, resolve, invoke, builtin, Sem.run_bind, Sem.run_pure, Result.andThen_ok, List.map_toArray, List.map_cons, List.map_nil, hx]
    rw [hclear]
    rfl
  · obtain ⟨ad, rfl, _⟩ := hn (by omega)
    have hci : ¬ cap = p := by omega
    have hrl : (List.replicate (q - p) z0).length = q - p := List.length_replicate ..
    have hfne : flat E (List.replicate (q - p) z0) ≠ [] := fun h => by
      have := congrArg List.length h
      rw [flat_len, List.length_nil, hrl] at this
      have h3 := Nat.mul_pos (Nat.pos_of_ne_zero hpq') hsz
      omega
    obtain ⟨w', hst, hS⟩ := own_cells (P := P) (k := p * E.size) (vs := flat E (List.replicate (q - p) z0)) hO hi (by rw [flat_len, flat_len, ← Nat.add_mul, hrl]; exact Nat.mul_le_mul_right _ (by omega)) (flat_oneCell E _) hfne
    rw [flat_put, hrl, show p + (q - p) = q by omega] at hS
    have hzc2 : (Builtin.zeroCells zv.cells (q - p)).toList = flat E (List.replicate (q - p) z0) := by
      have := made_flat E z0 zv hzc hsz (q - p)
      rw [← this]
      have e2 : zv.cells.size = E.size := by rw [hzc]; simp [E.len]
      simp only [Builtin.zeroCells, madeCells, e2]
    refine Eff.value (w' := w') (v := .tuple #[]) ?_ (by unfold slT; rw [hlen]; exact hS)
    have hst' : (storeCells (ad.add (p * E.size)) (flat E (List.replicate (q - p) z0))).run P w = .ok () w' := hst
    obtain ⟨m, hm⟩ : ∃ m, q - p = m + 1 := ⟨q - p - 1, by omega⟩
    have hclear : (Builtin.clear_ #[t] o.type #[cutV (.slice (some ad) l.length cap) p q E.size]).run P w = .ok (.tuple #[]) w' := by
      simp only [Builtin.clear_, cutV, hci, if_false, Option.map_some]
      rw [hm] at hzc2 hst' ⊢
      simp only [List.getElem?_toArray, List.getElem?_cons_zero, Sem.run_bind, run_underlying ht, Result.andThen_ok, hz, hzc2, hst', Sem.run_pure]
    simp only [execOp, ho, resolve, invoke, builtin, Sem.run_bind, Sem.run_pure, Result.andThen_ok, List.map_toArray, List.map_cons, List.map_nil, hx]
    rw [hclear]
    rfl
end
/-! ### Blocks that are only read -/
def gl1 (b : Nat) : Value := .slice (some (adr b)) 1 1
section
variable {w w0 : World} {M : List Nat} {L B : List Ent} {e f g h : Ent} {t : TypeId} {cs : List Value} {b : Nat} {v : Value}
theorem St.rdOb (hO : St w0 M w L) (i : Nat) (hi : L[i]? = some (.ob b t cs)) : Rd w [] (gl1 b) cs.length 1 cs := by
  refine ⟨by simp, some (adr b), 1, rfl, Nat.le_refl _, by decide, fun _ => ⟨adr b, rfl, by simp, Ent.ok_lt (hO.ok hi) rfl, fun j u hj => hO.cell i hi hj⟩⟩
theorem rdB_cell {m : Nat} (hR : Rd w M (gl1 b) m 1 cs) {k : Nat} (hk : cs[k]? = some v) : w.cell? ((adr b).add k) = some v := Rd.cell hR hk
theorem rdB_cell0 {m : Nat} (hR : Rd w M (gl1 b) m 1 cs) (hk : cs[0]? = some v) : w.cell? (adr b) = some v := Rd.cell hR hk
theorem rdB_cells {m : Nat} (hR : Rd w M (gl1 b) m 1 cs) (k n : Nat) {cs' : List Value} (hk : (cs.drop k).take n = cs') : ∀ j u, cs'[j]? = some u → w.cell? (((adr b).add k).add j) = some u := fun j u hj => by
  rw [add_add']
  refine rdB_cell hR ?_
  subst hk
  rw [List.getElem?_take] at hj
  split at hj
  · simpa using hj
  · cases hj
theorem rdB_all {m : Nat} (hR : Rd w M (gl1 b) m 1 cs) : ∀ j u, cs[j]? = some u → w.cell? ((adr b).add j) = some u := fun _ _ hj => rdB_cell hR hj
theorem Rd.at0 {m n : Nat} {xs : List Value} (h : Rd w0 M v m n xs) (hO : St w0 M w L) : Rd w [] v m n xs := Rd.mono (Rd.now h hO) (fun _ h => by cases h)
theorem St.own4 (hO : St w0 M w (e :: f :: g :: h :: B)) : Owns w [e, f, g, h] := (St.front (A := [e, f, g, h]) hO).owns
theorem St.call4 {A' : List Ent} {w' : World} (hO : St w0 M w (e :: f :: g :: h :: B)) (hc : St w (blks [e, f, g, h]) w' A') : St w0 M w' (A' ++ B) := St.call (A := [e, f, g, h]) hO hc
theorem RdT.at4 {α : Type} {E : Enc α} {l : List α} (hR : RdT w0 M v E l) (hO : St w0 M w (e :: f :: g :: h :: B)) : RdT w (blks [e, f, g, h]) v E l := RdT.now hR (St.front (A := [e, f, g, h]) hO)
theorem St.rdT4 {α : Type} {E : Enc α} {l : List α} {x y z q : Ent} (hO : St w0 M w (x :: y :: z :: q :: B)) (i : Nat) {e : Nat} (hi : B[i]? = some (slT v e E l)) : RdT w (blks [x, y, z, q]) v E l := St.rdB (A := [x, y, z, q]) hO i hi
end
/-! ### Results -/
section
variable {P : Program} {fn : Func} {a : Act} {w : World} {R : Value → World → Prop} {m k l q size : Nat} {L : List (Nat × Value)} {ty : TypeId} {ad : Addr} {cs : List Value} {v u : Value}
theorem r_c1 (hF : Fr a m L) (hr : fn.results = #[.cell l ty]) (hu : lk L l = some (ptr ad))
    (ha : ∀ w, (isAgg ty).run P w = .ok true w) (hs : ∀ w, (sizeOf ty).run P w = .ok size w) (hc : ∀ j u, cs[j]? = some u → w.cell? (ad.add j) = some u) (hl : cs.length = size) (hR : R (.agg cs.toArray) w) : Post P fn R .ret a w := by
  subst hl
  refine ⟨hF.defs, .agg cs.toArray, ?_, _, rfl, hR⟩
  have e2 := hF.get l _ hu
  rw [Array.getD_eq_getD_getElem?] at e2
  simp [results, hr, e2, ptr, asAddr, loadVar, ha, hs, run_loadCells_list w ad cs hc]
theorem r_ct (hF : Fr a m L) (hr : fn.results = #[.cell l ty, .tmp k]) (hu : lk L l = some (ptr ad)) (hv : lk L k = some v)
    (ha : ∀ w, (isAgg ty).run P w = .ok true w) (hs : ∀ w, (sizeOf ty).run P w = .ok size w) (hc : ∀ j u, cs[j]? = some u → w.cell? (ad.add j) = some u) (hl : cs.length = size) (hR : R (.tuple #[.agg cs.toArray, v]) w) : Post P fn R .ret a w := by
  subst hl
  refine ⟨hF.defs, .tuple #[.agg cs.toArray, v], ?_, _, rfl, hR⟩
  have e1 := hF.get k v hv
  have e2 := hF.get l _ hu
  rw [Array.getD_eq_getD_getElem?] at e1 e2
  simp [results, hr, e1, e2, ptr, asAddr, loadVar, ha, hs, run_loadCells_list w ad cs hc]
end
end Go.Proofs.YtanpeofnlihhoaaDoor
