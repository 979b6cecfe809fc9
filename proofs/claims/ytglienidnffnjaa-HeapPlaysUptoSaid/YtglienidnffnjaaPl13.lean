/- PLAIN: ops; which address one speaks of. -/
import Derived.Test.YtglienidnffnjaaPl12
import Derived.Test.YtglienidnffnjaaGw21
namespace Go.Proofs.Ytglienidnffnjaa
open Go
structure OpV where
  ask : Int
  kind : Int
  info : Int
  fh : Hdr
  raw : Bool
  at_ : Int
  n : Int
  fs : List Wd
def opE : Enc OpV where
  size := 7
  cells x := [i64 x.ask, i64 x.kind, i64 x.info, x.fh.v, .bool x.raw, i64 x.at_, i64 x.n]
  len _ := rfl
  one t u hu := by
    simp only [List.mem_cons, List.not_mem_nil, or_false] at hu
    rcases hu with rfl | rfl | rfl | rfl | rfl | rfl | rfl <;> rfl
def opQ (w : World) (x : OpV) : Prop := RdT w [] x.fh.v wordE x.fs ∧ x.fs.length ≤ 1048576
def whK (n len : Int) : Int := if n.tmod len < 0 then n.tmod len + len else n.tmod len
theorem whK_in {n len : Int} (h : 0 < len) : 0 ≤ whK n len ∧ whK n len < len := by
  have h1 := Int.tmod_lt_of_pos n h
  have h2 : -len < n.tmod len := by
    have := Int.tmod_lt_of_pos (-n) h
    rw [Int.neg_tmod] at this
    omega
  unfold whK
  split <;> omega
theorem tmod_in {n len : Int} (h : 0 < len) : -len < n.tmod len ∧ n.tmod len < len := by
  have h1 := Int.tmod_lt_of_pos n h
  have := Int.tmod_lt_of_pos (-n) h
  rw [Int.neg_tmod] at this
  omega
def whereF (n : Int) (raw : Bool) (all : List Int) : Int := if raw = true ∨ (all.length : Int) = 0 then n else all.getD (whK n all.length).toNat 0
def word1 (raw : Bool) (all : List Int) (w : Wd) : Wd := if w.ptr = true then ⟨w.ptr, whereF w.n raw all⟩ else w
def wordsF (l : List Wd) (raw : Bool) (all : List Int) : List Wd := l.map (word1 raw all)
end Go.Proofs.Ytglienidnffnjaa
namespace Go.Proofs.Ytglienidnffnjaa
open Go
theorem Alive.on {h : Hp} {all : List Int} {a : Int} (ha : Alive h all) (hx : headAt h.heads a ≠ none) : Alive h (all ++ [a]) := fun x hm => by
  rcases List.mem_append.1 hm with hm | hm
  · exact ha x hm
  · rw [List.mem_singleton.1 hm]; exact hx
theorem cont_on {l : List Int} {k : Nat} {r x : Int} (hr : l[k]? = some r) : (l.take (k + 1)).contains x = decide ((l.take k).contains x = true ∨ r = x) := by
  rw [takeAt hr, Bool.eq_iff_iff, decide_eq_true_iff, List.contains_iff_mem, List.contains_iff_mem, List.mem_append, List.mem_singleton]
  constructor
  · rintro (h | h)
    · exact .inl h
    · exact .inr h.symm
  · rintro (h | h)
    · exact .inl h
    · exact .inr h.symm
end Go.Proofs.Ytglienidnffnjaa
