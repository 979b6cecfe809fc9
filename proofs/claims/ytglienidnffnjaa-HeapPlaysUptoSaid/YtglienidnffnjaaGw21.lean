/- GW21: groups of entries: adding one, reading one, an operation on one; slices of headers. -/
import Derived.Test.YtglienidnffnjaaGw20
namespace Go.Proofs.Ytglienidnffnjaa
open Go
/-- a slice's header, as it lies in a cell -/
structure Hdr where
  A : Option Addr
  n : Nat
  c : Nat
def Hdr.v (h : Hdr) : Value := .slice h.A h.n h.c
def hdrE : Enc Hdr where
  size := 1
  cells q := [q.v]
  len _ := rfl
  one t u hu := by
    simp only [List.mem_cons, List.not_mem_nil, or_false] at hu
    subst hu; rfl
theorem Rd.hdr {w : World} {M : List Nat} {v : Value} {size n : Nat} {xs : List Value} (h : Rd w M v size n xs) : ∃ q : Hdr, v = q.v := by
  obtain ⟨A, c, rfl, _⟩ := h.is
  exact ⟨⟨A, n, c⟩, rfl⟩
section
variable {P : Program} {o : Oper} {a : Act} {w w0 : World} {v u : Value} {M : List Nat} {L Es Es' : List Ent} {e : Ent}
theorem St.grpOk (hO : St w0 M w L) (i : Nat) (hi : L[i]? = some (Ent.grp Es)) {j : Nat} {x : Ent} (hj : Es[j]? = some x) : x.ok w := (hO.ok hi : (Ent.grp Es).ok w) x (List.mem_of_getElem? hj)
theorem St.rdG {t size n : Nat} {xs : List Value} (hO : St w0 M w L) (i : Nat) (hi : L[i]? = some (Ent.grp Es)) {j : Nat} (hj : Es[j]? = some (.sl v t size n xs)) : Rd w [] v size n xs := Ent.rd (hO.grpOk i hi hj) fun _ _ h => by cases h
theorem St.rdTG {α : Type} {E : Enc α} {l : List α} {t : Nat} (hO : St w0 M w L) (i : Nat) (hi : L[i]? = some (Ent.grp Es)) {j : Nat} (hj : Es[j]? = some (slT v t E l)) : RdT w [] v E l := hO.rdG i hi hj
theorem St.grp0 (hO : St w0 M w L) : St w0 M w (Ent.grp [] :: L) := St.group (A := []) hO
/-- the first entry goes into a group -/
theorem St.into (hO : St w0 M w (e :: L)) (i : Nat) (hi : L[i]? = some (Ent.grp Es)) : St w0 M w (L.set i (Ent.grp (Es ++ [e]))) := by
  have h1 : St w0 M w (Ent.grp Es :: e :: L.eraseIdx i) := by
    refine hO.perm ?_
    exact (List.Perm.swap _ _ _).trans ((pull_perm L i _ hi).cons e)
  have h2 : St w0 M w (Es ++ [e] ++ L.eraseIdx i) := by
    have := St.ungroup (A := Es) h1
    rwa [List.append_assoc]
  have h3 := St.group (A := Es ++ [e]) h2
  exact h3.perm (set_perm L i _ _ hi)
/-- an operation on what is in a group -/
theorem e_grp {i : Nat} {R : Value → Prop} (hO : St w0 M w L) (hi : L[i]? = some (Ent.grp Es)) (f : ∀ {w1 : World}, w1 = w → St w0 M w1 (Es ++ L.eraseIdx i) → Eff P o a w1 (fun u w' => R u ∧ St w0 M w' (Es' ++ L.eraseIdx i))) :
    Eff P o a w (fun u w' => R u ∧ St w0 M w' (L.set i (Ent.grp Es'))) := by
  refine (f rfl (St.ungroup (hO.pull i hi))).mono fun u w' ⟨h1, h2⟩ => ⟨h1, ?_⟩
  exact (St.group h2).perm (set_perm L i _ _ hi)
/-- a store into a slice of a group -/
theorem e_storeG {α : Type} {E : Enc α} {l : List α} {i j t m : Nat} {q : α} (hO : St w0 M w L) (hi : L[i]? = some (Ent.grp Es)) (hj : Es[j]? = some (slT v t E l))
    (f : ∀ {w1 : World} {L1 : List Ent} {i1 : Nat}, St w0 M w1 L1 → L1[i1]? = some (slT v t E l) → Eff P o a w1 (fun u w' => u = undef ∧ St w0 M w' (L1.set i1 (slT v t E (l.set m q))))) :
    Eff P o a w (fun u w' => u = undef ∧ St w0 M w' (L.set i (Ent.grp (Es.set j (slT v t E (l.set m q)))))) := by
  have hjl := (List.getElem?_eq_some_iff.1 hj).1
  refine e_grp (R := fun u => u = undef) hO hi fun {w1} e h1 => ?_
  subst e
  have h2 := f h1 (i1 := j) (by rw [List.getElem?_append_left hjl]; exact hj)
  refine h2.mono fun u w' ⟨g1, g2⟩ => ⟨g1, ?_⟩
  rwa [List.set_append_left j _ hjl] at g2
end
end Go.Proofs.Ytglienidnffnjaa
