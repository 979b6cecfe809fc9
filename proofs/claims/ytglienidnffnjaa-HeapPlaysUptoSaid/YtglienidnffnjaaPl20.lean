/- PL20: taking away what stands nowhere: the heap's Drop. -/
import Derived.Test.YtglienidnffnjaaPl19
import Derived.Test.YtglienidnffnjaaPl15
namespace Go.Proofs.Ytglienidnffnjaa
open Go
def Hp.setRem (h : Hp) (l : List Int) : Hp := ⟨h.words, h.heads, h.y, h.a, h.b, h.use, l⟩
def ndF (h : Hp) (x : Int) : Bool := decide (¬ headAt h.heads x = none)
def keptF (h : Hp) : List Int := h.rem.filter (ndF h)
def dropH (h : Hp) : Hp := (emptyH h (1 + (1 - h.use))).setRem (keptF (emptyH h (1 + (1 - h.use))))
def ixD (h : Hp) (ls : List Int) (n : Int) : Prop := (n = -1 ∧ ∀ x ∈ ls, ¬ headAt h.heads x = none) ∨ ∃ k : Nat, n = k ∧ ∃ x, ls[k]? = some x ∧ headAt h.heads x = none ∧ ∀ y ∈ ls.take k, ¬ headAt h.heads y = none
theorem nd_next {h : Hp} {ls : List Int} {k : Nat} {x : Int} (hx : ls[k]? = some x) (hk : ∀ y ∈ ls.take k, ¬ headAt h.heads y = none) (hc : ¬ headAt h.heads x = none) : ∀ y ∈ ls.take (k + 1), ¬ headAt h.heads y = none := fun y hy => by
  rw [takeAt hx] at hy
  rcases List.mem_append.1 hy with hy | hy
  · exact hk y hy
  · rw [List.mem_singleton.1 hy]; exact hc
theorem kept_all {h : Hp} (ha : ∀ x ∈ h.rem, ¬ headAt h.heads x = none) : keptF h = h.rem := List.filter_eq_self.2 fun x hx => decide_eq_true (ha x hx)
structure DelI (h : Hp) (i j : Nat) (l : List Int) : Prop where
  lt : i < j
  le : j ≤ h.rem.length
  len : l.length = h.rem.length
  pre : l.take i = (h.rem.take j).filter (ndF h)
  suf : l.drop j = h.rem.drop j
section
variable {h : Hp} {i j k : Nat} {l : List Int} {x : Int}
theorem DelI.init (hx : h.rem[k]? = some x) (hp : headAt h.heads x = none) (hk : ∀ y ∈ h.rem.take k, ¬ headAt h.heads y = none) : DelI h k (k + 1) h.rem := by
  refine ⟨by omega, (List.getElem?_eq_some_iff.1 hx).1, rfl, ?_, rfl⟩
  have h1 : (h.rem.take k).filter (ndF h) = h.rem.take k := List.filter_eq_self.2 fun y hy => decide_eq_true (hk y hy)
  rw [takeAt hx, List.filter_append, h1]
  simp [ndF, hp]
theorem DelI.at_ (d : DelI h i j l) (hx : l[j]? = some x) : h.rem[j]? = some x := by
  have : (l.drop j)[0]? = some x := by rw [List.getElem?_drop]; exact hx
  rw [d.suf, List.getElem?_drop] at this
  exact this
theorem DelI.skip (d : DelI h i j l) (hx : l[j]? = some x) (hp : headAt h.heads x = none) : DelI h i (j + 1) l := by
  have hx2 := d.at_ hx
  have := (List.getElem?_eq_some_iff.1 hx2).1
  have := d.lt
  refine ⟨by omega, by omega, d.len, ?_, ?_⟩
  · rw [takeAt hx2, List.filter_append, d.pre]; simp [ndF, hp]
  · rw [← List.drop_drop, ← List.drop_drop, d.suf]
theorem DelI.keep (d : DelI h i j l) (hx : l[j]? = some x) (hp : ¬ headAt h.heads x = none) : DelI h (i + 1) (j + 1) (l.set i x) := by
  have hx2 := d.at_ hx
  have h1 := (List.getElem?_eq_some_iff.1 hx2).1
  have h2 := d.lt
  have h3 := d.len
  refine ⟨by omega, by omega, by rw [List.length_set]; exact h3, ?_, ?_⟩
  · rw [takeAt hx2, List.filter_append, ← d.pre, takeAt (List.getElem?_set_self (by omega)), List.take_set_of_le (by omega)]
    simp [ndF, hp]
  · rw [List.drop_set_of_lt (by omega), ← List.drop_drop, ← List.drop_drop, d.suf]
theorem DelI.fin (d : DelI h i j l) (hj : ¬ (j : Int) < (l.length : Int)) : (l.take i ++ List.replicate (l.length - i) (0 : Int) ++ l.drop l.length).take i = keptF h := by
  have h1 := d.le; have h2 := d.len; have h3 := d.lt
  rw [List.append_assoc, List.take_append_of_le_length (by rw [List.length_take]; omega), List.take_take, Nat.min_self, d.pre, show j = h.rem.length by omega, List.take_length]
  rfl
end
section
variable {w0 w : World} {M : List Nat} {v : Value} {size n : Nat} {xs : List Value} {b t : Nat} {cs : List Value}
theorem drop_cut {i : Nat} (h : Rd w M v size n xs) : dropV v i size = cutV v i n size := by
  obtain ⟨_, A, cap, rfl, _⟩ := h
  rfl
theorem St.rdOb4 {x y z q : Ent} {B : List Ent} (hO : St w0 M w (x :: y :: z :: q :: B)) (i : Nat) (hi : B[i]? = some (.ob b t cs)) : Rd w (blks [x, y, z, q]) (gl1 b) cs.length 1 cs := by
  refine ⟨by simp, some (adr b), 1, rfl, Nat.le_refl _, by decide, fun _ => ⟨adr b, rfl, fun hc => ?_, ?_, ?_⟩⟩
  · have hn := hO.nodup
    rw [show blks (x :: y :: z :: q :: B) = blks [x, y, z, q] ++ blks B by simp [blks], List.nodup_append] at hn
    exact hn.2.2 b hc b (mem_blks ⟨_, List.mem_of_getElem? hi, rfl⟩) rfl
  · exact Ent.ok_lt (hO.ok (i := i + 4) (e := .ob b t cs) (by simpa using hi)) rfl
  · exact fun j u hj => hO.cell (i + 4) (t := t) (cs := cs) (by simpa using hi) hj
end
end Go.Proofs.Ytglienidnffnjaa
