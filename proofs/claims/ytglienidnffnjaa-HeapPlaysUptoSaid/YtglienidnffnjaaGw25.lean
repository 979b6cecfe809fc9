/- GW25: results of three; calls of more entries; queues' values; maps of numbers. -/
import Derived.Test.YtglienidnffnjaaGw24
namespace Go.Proofs.Ytglienidnffnjaa
open Go Go.Maps
set_option linter.unusedVariables false
section
variable {P : Program} {w w0 w' : World} {e t : TypeId} {size n : Nat} {v u x : Value} {M : List Nat} {L B A' : List Ent} {o : Oper} {a : Act} {e1 e2 e3 e4 e5 e6 e7 e8 : Ent}
theorem St.quOne {e size n : Nat} {xs : List Value} (hO : St w0 M w L) (i : Nat) (hi : L[i]? = some (Ent.qu v e size n xs)) : v.oneCell' = true := by
  have h : OwnQ w e size v n xs := hO.ok hi
  rcases h.2 with ⟨rfl, _⟩ | ⟨g, off, cap, cur, rfl, _⟩ <;> rfl
theorem r_tct {fn : Func} {R : Value → World → Prop} {m : Nat} {L : List (Nat × Value)} {k l k2 size : Nat} {ty : TypeId} {ad : Addr} {cs : List Value} (hF : Fr a m L) (hr : fn.results = #[.tmp k, .cell l ty, .tmp k2]) (hv : lk L k = some v) (hu : lk L l = some (ptr ad)) (hx : lk L k2 = some x)
    (ha : ∀ w, (isAgg ty).run P w = .ok true w) (hs : ∀ w, (sizeOf ty).run P w = .ok size w) (hc : ∀ j u, cs[j]? = some u → w.cell? (ad.add j) = some u) (hl : cs.length = size) (hR : R (.tuple #[v, .agg cs.toArray, x]) w) : Post P fn R .ret a w := by
  subst hl
  refine ⟨hF.defs, .tuple #[v, .agg cs.toArray, x], ?_, _, rfl, hR⟩
  have e1 := hF.get k v hv
  have e2 := hF.get l _ hu
  have e3 := hF.get k2 _ hx
  rw [Array.getD_eq_getD_getElem?] at e1 e2 e3
  simp [results, hr, e1, e2, e3, ptr, asAddr, loadVar, ha, hs, run_loadCells_list w ad cs hc]
theorem St.own5 (hO : St w0 M w (e1 :: e2 :: e3 :: e4 :: e5 :: B)) : Owns w [e1, e2, e3, e4, e5] := (St.front (A := [e1, e2, e3, e4, e5]) hO).owns
theorem St.call5 (hO : St w0 M w (e1 :: e2 :: e3 :: e4 :: e5 :: B)) (hc : St w (blks [e1, e2, e3, e4, e5]) w' A') : St w0 M w' (A' ++ B) := St.call (A := [e1, e2, e3, e4, e5]) hO hc
theorem St.own8 (hO : St w0 M w (e1 :: e2 :: e3 :: e4 :: e5 :: e6 :: e7 :: e8 :: B)) : Owns w [e1, e2, e3, e4, e5, e6, e7, e8] := (St.front (A := [e1, e2, e3, e4, e5, e6, e7, e8]) hO).owns
theorem St.call8 (hO : St w0 M w (e1 :: e2 :: e3 :: e4 :: e5 :: e6 :: e7 :: e8 :: B)) (hc : St w (blks [e1, e2, e3, e4, e5, e6, e7, e8]) w' A') : St w0 M w' (A' ++ B) := St.call (A := [e1, e2, e3, e4, e5, e6, e7, e8]) hO hc
/-- a map from numbers holds just these -/
def NumF (f : Lit → Option Value) (g : Int → Option Value) : Prop := ∀ n : Int, f (.int .i64 n) = g n
theorem NumF.put {f : Lit → Option Value} {g : Int → Option Value} (h : NumF f g) (n : Int) (v : Value) : NumF (putF f (.int .i64 n) v) (fun m => if m = n then some v else g m) := by
  intro m
  unfold putF
  dsimp only
  by_cases hm : m = n
  · subst hm; rw [if_pos rfl, if_pos rfl]
  · rw [if_neg (by simp [hm]), if_neg hm, h m]
theorem i64_wf {n : Int} (h : -9223372036854775808 ≤ n ∧ n ≤ 9223372036854775807) : (Lit.int .i64 n).wf = true := by
  obtain ⟨h1, h2⟩ := h
  simp only [Lit.wf, IntKind.min, IntKind.max, IntKind.bits, IntKind.signed] 
  simp
  omega
def metG (met : List Int) : Int → Option Value := fun n => if met.contains n = true then some (.bool true) else none
theorem metG_put {f : Lit → Option Value} {met : List Int} (h : NumF f (metG met)) (n : Int) : NumF (putF f (.int .i64 n) (.bool true)) (metG (met ++ [n])) := by
  intro m
  rw [NumF.put h n _ m]
  unfold metG
  dsimp only
  by_cases hm : m = n
  · subst hm; rw [if_pos rfl]; simp
  · rw [if_neg hm]; simp [hm]
theorem metG_none : NumF (fun _ => none) (metG []) := fun n => by simp [metG]
theorem q_met {k t : TypeId} {b c i : Nat} {f : Lit → Option Value} {met : List Int} {x y : Operand} {n : Int} (hO : St w0 M w L) (hi : L[i]? = some (Ent.mapE P k b c f)) (hf : NumF f (metG met)) (hk : P.underlying k = some (.int .i64)) (ht : P.underlying t = some (.map k e)) (hz : (zeroValue e).run P w = .ok (.bool false) w)
    (ho : o.op = .lookup t x y false) (hx : a.eval x = .map (some b)) (hy : a.eval y = i64 n) (hn : -9223372036854775808 ≤ n ∧ n ≤ 9223372036854775807) : QV P o a w (.bool (met.contains n)) := by
  have h := q_lookup hO hi (int_keyed hk) ht hz ho hx hy (keyOf_int_mk hk (i64_wf hn))
  rw [hf n] at h
  unfold metG at h
  cases hm : met.contains n with
  | false => rw [hm] at h; simpa using h
  | true => rw [hm] at h; simpa using h
theorem e_metPut {k t : TypeId} {b c i : Nat} {f : Lit → Option Value} {x y z : Operand} {n : Int} (hO : St w0 M w L) (hi : L[i]? = some (Ent.mapE P k b c f)) (hk : P.underlying k = some (.int .i64)) (ht : P.underlying t = some (.map k e)) (hc : c < 9223372036854775807)
    (ho : o.op = .mapUpdate t x y z) (hx : a.eval x = .map (some b)) (hy : a.eval y = i64 n) (hz : a.eval z = v) (hn : -9223372036854775808 ≤ n ∧ n ≤ 9223372036854775807) : Eff P o a w (fun u w' => u = undef ∧ St w0 M w' (L.set i (Ent.mapE P k b (c + 1) (putF f (.int .i64 n) v)))) :=
  e_mapPut hO hi (int_keyed hk) ht (by unfold maxLen; exact hc) ho hx hy hz (keyOf_int_mk hk (i64_wf hn))
/-- a map from numbers to numbers -/
def toG (to : List (Int × Int)) : Int → Option Value := fun n => (to.lookup n).map i64
theorem toG_put {f : Lit → Option Value} {to : List (Int × Int)} (h : NumF f (toG to)) {n : Int} (m : Int) (hn : to.lookup n = none) : NumF (putF f (.int .i64 n) (i64 m)) (toG (to ++ [(n, m)])) := by
  intro k
  rw [NumF.put h n _ k]
  unfold toG
  dsimp only
  rw [List.lookup_append]
  by_cases hk : k = n
  · subst hk; rw [if_pos rfl, hn]; simp [List.lookup]
  · rw [if_neg hk]
    cases hl : to.lookup k with
    | some q => simp
    | none =>
      have : (k == n) = false := by simpa using hk
      simp [List.lookup, this]
theorem toG_none : NumF (fun _ => none) (toG []) := fun n => by simp [toG]
theorem q_to {k t : TypeId} {b c i : Nat} {f : Lit → Option Value} {to : List (Int × Int)} {x y : Operand} {n : Int} (hO : St w0 M w L) (hi : L[i]? = some (Ent.mapE P k b c f)) (hf : NumF f (toG to)) (hk : P.underlying k = some (.int .i64)) (ht : P.underlying t = some (.map k e)) (hz : (zeroValue e).run P w = .ok (i64 0) w)
    (ho : o.op = .lookup t x y true) (hx : a.eval x = .map (some b)) (hy : a.eval y = i64 n) (hn : -9223372036854775808 ≤ n ∧ n ≤ 9223372036854775807) : QV P o a w (.tuple #[i64 ((to.lookup n).getD 0), .bool (to.lookup n).isSome]) := by
  have h := q_lookOk hO hi (int_keyed hk) ht hz ho hx hy (keyOf_int_mk hk (i64_wf hn))
  rw [hf n] at h
  unfold toG at h
  cases hm : to.lookup n with
  | none => rw [hm] at h; simpa using h
  | some q => rw [hm] at h; simpa using h
end
end Go.Proofs.Ytglienidnffnjaa
