/- GW14: make; guards that are known. -/
import Derived.Test.YtanpeofnlihhoaaDoorGw13
import Derived.Laws.MakeOwn
namespace Go.Proofs.YtanpeofnlihhoaaDoor
open Go
section
variable {P : Program} {o : Oper} {a : Act} {w w0 : World} {v u : Value} {x y z : Operand} {t t' : TypeId} {M : List Nat} {L : List Ent} {size n : Nat} {xs : List Value}
theorem e_make0 {e : TypeId} {inf : TypeInfo} {zv : Value} {bytes c : Nat} {k k' : IntKind} (hO : St w0 M w L) (ht : P.underlying t = some (.slice e)) (hinf : P.info? e = some inf) (hz : inf.zero = some zv) (hsize : inf.size = size) (hby : inf.bytes = bytes)
    (ho : o.op = .makeSlice t x y) (hx : a.eval x = .int k 0) (hy : a.eval y = .int k' (c : Int)) (hb : bytes * c ≤ 281474976710656) (hm : c ≤ 9223372036854775807) :
    Eff P o a w (fun u w' => St w0 M w' (.sl u e size 0 [] :: L)) := by
  subst hsize hby
  have hb' : (inf.bytes : Int) * (c : Int) ≤ 281474976710656 := by rw [← Int.natCast_mul]; omega
  have hr := run_make (P := P) w t e inf zv ht hinf hz k k' 0 c (Int.le_refl _) (by omega) hb' (by omega)
  simp only [Int.toNat_zero, Int.toNat_natCast] at hr
  refine Eff.value (v := .slice (some ⟨w.heap.size, 0, none⟩) 0 c) (w' := w.alloc (.cells (madeCells zv.cells (c * inf.size)) e)) ?_ (hO.new _ (e := .sl (.slice (some ⟨w.heap.size, 0, none⟩) 0 c) e inf.size 0 []) rfl (World.ownsRow_made w _ c (Nat.zero_le _) (by unfold maxLen; exact hm) (size_madeCells _ _)))
  simp only [execOp, ho, hx, hy, Sem.run_bind, hr, Result.andThen_ok]
  rfl
theorem made_flat {α : Type} (E : Enc α) (z : α) (zv : Value) (hz : zv.cells = (E.cells z).toArray) (h1 : 0 < E.size) (n : Nat) : (madeCells zv.cells (n * E.size)).toList = flat E (List.replicate n z) := by
  apply List.ext_getElem?
  intro j
  by_cases hj : j < n * E.size
  · have hq : j / E.size < n := (Nat.div_lt_iff_lt_mul h1).2 hj
    have hr : j % E.size < (E.cells z).length := by rw [E.len]; exact Nat.mod_lt _ h1
    have hf := flat_at E (l := List.replicate n z) (i := j / E.size) (x := z) (by simp [hq]) (j := j % E.size) (List.getElem?_eq_getElem hr)
    rw [Nat.div_add_mod'] at hf
    have hc : zv.cells.size = E.size := by rw [hz]; simp [E.len]
    rw [hf]
    simp [madeCells, hj, hc]
    simp [hz, getElem!_pos, hr]
  · rw [List.getElem?_eq_none (by simp [madeCells]; omega), List.getElem?_eq_none (by rw [flat_len, List.length_replicate]; omega)]
theorem e_makeT {α : Type} {E : Enc α} {z : α} {e : TypeId} {inf : TypeInfo} {zv : Value} {bytes n : Nat} {k k' : IntKind} (hO : St w0 M w L) (ht : P.underlying t = some (.slice e)) (hinf : P.info? e = some inf) (hz : inf.zero = some zv) (hsize : inf.size = E.size) (hby : inf.bytes = bytes)
    (hzc : zv.cells = (E.cells z).toArray) (h1 : Nat.ble 1 E.size = true) (ho : o.op = .makeSlice t x y) (hx : a.eval x = .int k (n : Int)) (hy : a.eval y = .int k' (n : Int)) (hb : bytes * n ≤ 281474976710656) (hm : n ≤ 9223372036854775807) :
    Eff P o a w (fun u w' => St w0 M w' (slT u e E (List.replicate n z) :: L)) := by
  have h1 := Nat.le_of_ble_eq_true h1
  subst hby
  have hb' : (inf.bytes : Int) * (n : Int) ≤ 281474976710656 := by rw [← Int.natCast_mul]; omega
  have hr := run_make (P := P) w t e inf zv ht hinf hz k k' n n (by omega) (Int.le_refl _) hb' (by omega)
  simp only [Int.toNat_natCast] at hr
  have hrow := World.ownsRow_lit w (base := 0) (e := e) (size := inf.size) (madeCells zv.cells (n * inf.size)) n (Nat.zero_le _) (by unfold maxLen; exact hm) (size_madeCells _ _)
  rw [hsize, made_flat E z zv hzc h1 n] at hrow
  rw [hsize] at hr
  refine Eff.value (v := .slice (some ⟨w.heap.size, 0, none⟩) n n) (w' := w.alloc (.cells (madeCells zv.cells (n * E.size)) e)) ?_ (hO.new _ rfl (e := slT (.slice (some ⟨w.heap.size, 0, none⟩) n n) e E (List.replicate n z)) ?_)
  rotate_left
  · unfold slT Ent.ok
    rw [List.length_replicate]
    exact hrow
  · simp only [execOp, ho, hx, hy, Sem.run_bind, hr, Result.andThen_ok]
    rfl

/-! guards that are known -/
variable {ops : Array Oper} {Q : Exit → Act → World → Prop} {rest : List Oper} {S : World → Prop} {K : Act → World → Prop} {ks : List Nat} {F : List (Nat × Value)} {d : Nat}
def Oper.free (o : Oper) : Oper := { o with guard := none }
theorem wl_un {j : Nat} {b : Bool} {dj : Nat} {oj : Oper} {g : Value} (hF : Fr a n F) (hg : o.guard = some (j, b)) (hj : ops[j]? = some oj) (hdj : oj.dst = some dj) (hv : lk F dj = some g) (hT : isB g b = true)
    (h : wpList P ops Q ({ o with guard := none } :: rest) a w) : wpList P ops Q (o :: rest) a w := by
  have hw := wanted_of hF hg hj hdj hv
  unfold wpList at h ⊢
  rw [hw, hT, if_pos rfl]
  rw [if_pos (by simp [Region.wanted])] at h
  exact h
theorem wd_un {k : Nat} {j : Nat} {b : Bool} {dj : Nat} {oj : Oper} {g : Value} (hF : Fr a n F) (hg : o.guard = some (j, b)) (hj : ops[j]? = some oj) (hdj : oj.dst = some dj) (hv : lk F dj = some g) (hT : isB g b = true)
    (h : wpD P ops S K ({ o with guard := none } :: rest) (k :: ks) a w) : wpD P ops S K (o :: rest) (k :: ks) a w := by
  have hw := wanted_of hF hg hj hdj hv
  have h' : stepD P ops S { o with guard := none } k (wpD P ops S K rest ks) a w := h
  show stepD P ops S o k (wpD P ops S K rest ks) a w
  unfold stepD at h' ⊢
  rw [hw, hT, if_pos rfl]
  rw [if_pos (by simp [Region.wanted])] at h'
  exact h'
theorem isB_T {p : Prop} {_ : Decidable p} (h : p) : isB (.bool (decide p)) true = true := by simp [isB, h]
theorem isB_F {p : Prop} {_ : Decidable p} (h : ¬ p) : isB (.bool (decide p)) false = true := by simp [isB, h]
end
end Go.Proofs.YtanpeofnlihhoaaDoor
