/- GW9: stores into elements, guarded calls with a state, odds and ends. -/
import Derived.Test.YtanpeofnlihhoaaDoorGw8
namespace Go.Proofs.YtanpeofnlihhoaaDoor
open Go
section
variable {P : Program} {a : Act} {o : Oper} {n : Nat} {F : List (Nat × Value)} {w w0 : World} {M : List Nat} {L : List Ent} {u v : Value} {x y : Operand} {t : TypeId}
theorem get_D {α : Type} {l : List α} {i : Nat} {d : α} (h : i < l.length) : l[i]? = some (l.getD i d) := by simp [List.getElem?_eq_getElem h]
theorem St.slOne {e size n : Nat} {xs : List Value} (hO : St w0 M w L) (i : Nat) (hi : L[i]? = some (.sl v e size n xs)) : v.oneCell' = true := by
  obtain ⟨_, A, cap, hv, _⟩ := hO.rd i hi
  rw [hv]; rfl
theorem RdT.one {α : Type} {E : Enc α} {l : List α} (h : RdT w M v E l) : v.oneCell' = true := by
  obtain ⟨_, A, cap, hv, _⟩ := h
  rw [hv]; rfl
theorem all1 {vs : List Value} (h : vs.all (·.oneCell') = true) : ∀ u ∈ vs, u.oneCell' = true := fun u hu => List.all_eq_true.1 h u hu

theorem cut3 {α : Type} (A B C vs : List α) (off : Nat) (h : off + vs.length ≤ B.length) :
    (A ++ B ++ C).take (A.length + off) ++ vs ++ (A ++ B ++ C).drop (A.length + off + vs.length) = A ++ (B.take off ++ vs ++ B.drop (off + vs.length)) ++ C := by
  rw [List.append_assoc A B C, List.take_length_add_append, Nat.add_assoc, List.drop_length_add_append, List.take_append_of_le_length (by omega), List.drop_append_of_le_length (by omega)]
  simp

def PlacesG (P : Program) (t : TypeId) (pl : List (Nat × Nat)) : Prop := ∀ fs, P.underlying t = some (.struct fs) → ∀ w, (fs.mapM fun (f : Field) => do pure (f.offset, ← sizeOf f.type) : Sem _).run P w = .ok pl.toArray w
/-- A struct of zeros. -/
theorem c_buildZ {fs : Array Field} {zv : Value} {pl : List (Nat × Nat)} {cs : List Value} (ht : P.underlying t = some (.struct fs)) (hz : ∀ w, (zeroValue t).run P w = .ok zv w)
    (hp : PlacesG P t pl) (hzc : zv.cells = cs.toArray) (ho : o.op = .build t #[]) : QV P o a w (.agg cs.toArray) :=
  q_build (vs := []) ht hz (hp fs ht) ho (by simp) (by rw [hzc]; rfl)
/-- A store into an element of an own slice. -/
theorem e_storeElT {α : Type} {E : Enc α} {l : List α} {i m off k e : Nat} {p q : α} {vs : List Value} (hO : St w0 M w L) (hi : L[i]? = some (slT v e E l)) (hs : ∀ w, (sizeOf t).run P w = .ok vs.length w) (ho : o.op = .store t x y)
    (hx : a.eval x = ptr ((sa v).add k)) (hkk : k = m * E.size + off)
    (hy : a.eval y = u) (hv : u.cells = vs.toArray) (hm : l[m]? = some p) (hc : (E.cells p).take off ++ vs ++ (E.cells p).drop (off + vs.length) = E.cells q) (hof : off + vs.length ≤ (E.cells p).length) (h0 : Nat.ble 1 vs.length = true) (h1 : ∀ u ∈ vs, u.oneCell' = true) :
    Eff P o a w (fun u w' => u = undef ∧ St w0 M w' (L.set i (slT v e E (l.set m q)))) := by
  have hml : m < l.length := (List.getElem?_eq_some_iff.1 hm).1
  have hsp : l = l.take m ++ [p] ++ l.drop (m + 1) := by
    have := List.getElem?_eq_some_iff.1 hm
    obtain ⟨h, e⟩ := this
    subst e
    simp
  have hset : l.set m q = l.take m ++ [q] ++ l.drop (m + 1) := by
    rw [List.set_eq_take_append_cons_drop, if_pos hml]; simp
  have hA : (flat E (l.take m)).length = m * E.size := by rw [flat_len, List.length_take]; congr 1; omega
  have hfl : flat E l = flat E (l.take m) ++ E.cells p ++ flat E (l.drop (m + 1)) := by
    conv => lhs; rw [hsp]
    rw [flat_app, flat_app, flat_one]
  have key : (flat E l).take k ++ vs ++ (flat E l).drop (k + vs.length) = flat E (l.set m q) := by
    rw [hset, flat_app, flat_app, flat_one, hfl, hkk, ← hA, cut3 _ _ _ _ _ hof, hc]
  have h := e_storeSl (P := P) (k := k) hO hi hs ho hx hy hv (by
    rw [hfl, hkk, List.length_append, List.length_append, hA]; omega) h0 h1
  rw [key] at h
  refine h.mono fun u w' ⟨hu, hS⟩ => ⟨hu, ?_⟩
  unfold slT
  rw [List.length_set]
  exact hS
end
section
variable {P : Program} {a : Act} {o : Oper} {n : Nat} {F : List (Nat × Value)} {w w0 : World} {M : List Nat} {L : List Ent} {ops : Array Oper} {Q : Exit → Act → World → Prop} {rest : List Oper} {d : Nat}
/-- A guarded effect, its two outcomes as one state. -/
theorem wl_gS {Js : Type} (J : Js → Value → World → Prop) {j : Nat} {b : Bool} {dj : Nat} {oj : Oper} {g : Value} (hF : Fr a n F) (hg : o.guard = some (j, b)) (hj : ops[j]? = some oj) (hdj : oj.dst = some dj) (hv : lk F dj = some g)
    (hd : o.dst = some d) (hn : Nat.ble (d + 1) n = true) (h : isB g b = true → Eff P o a w (fun u w' => ∃ s, J s u w')) (h0 : isB g b = false → ∃ s u, J s u w)
    (next : ∀ s u a w, J s u w → Fr a n ((d, gv g b u) :: F) → wpList P ops Q rest a w) : wpList P ops Q (o :: rest) a w := by
  refine wl_gc hF hg hj hdj hv hd hn h (fun a u w' ⟨s, hJ⟩ hb hF => ?_) (fun a hb hF => ?_)
  · have := next s u a w' hJ
    rw [gv_of hb] at this
    exact this hF
  · obtain ⟨s, u, hJ⟩ := h0 hb
    have := next s u a w hJ
    rw [gv_not hb] at this
    exact this hF
end
end Go.Proofs.YtanpeofnlihhoaaDoor
