/- PL18: helpers for the walks of the document's heap. -/
import Derived.Test.YtglienidnffnjaaPl17
namespace Go.Proofs.Ytglienidnffnjaa
open Go
section
variable {R : RH} {p mid lo i : Nat} {at_ n : Int} {x : RO}
theorem rfC_at1 (h : p < 3) : (rfC R)[2 + p * 1]? = some (R.vs p) := by rw [Nat.mul_one]; exact rfC_at h
theorem mid_div (lo hi : Nat) : Int.tdiv ((lo : Int) + (hi : Int)) 2 = (((lo + hi) / 2 : Nat) : Int) := by
  rw [Int.tdiv_eq_ediv_of_nonneg (by omega)]; omega
theorem find_next (h : ∀ q, q < p → ixO (R.p q) at_ = none) (h1 : ixO (R.p p) at_ = none) : ∀ q, q < p + 1 → ixO (R.p q) at_ = none := fun q hq => by
  by_cases e : q = p
  · rw [e]; exact h1
  · exact h q (by omega)
theorem lo_next (g : RG R) (hp : p < 3) (hx : (R.p p)[mid]? = some x) (hc : x.at_ < at_) : ∀ (i : Nat) y, i < mid + 1 → (R.p p)[i]? = some y → y.at_ < at_ := fun i y hi hy => by
  by_cases e : i = mid
  · subst e; rw [hx] at hy; cases hy; exact hc
  · have h1 := g.srt p hp i mid y x (by omega) hy hx
    have h2 := (g.rng p hp y (List.mem_of_getElem? hy)).2.2.1
    omega
theorem hi_next (g : RG R) (hp : p < 3) (hx : (R.p p)[mid]? = some x) (hc : ¬ x.at_ < at_) : ∀ (i : Nat) y, mid ≤ i → (R.p p)[i]? = some y → at_ ≤ y.at_ := fun i y hi hy => by
  by_cases e : i = mid
  · subst e; rw [hx] at hy; cases hy; omega
  · have h1 := g.srt p hp mid i x y (by omega) hx hy
    have h2 := (g.rng p hp x (List.mem_of_getElem? hx)).2.2.1
    omega
theorem ix_over {l : List RO} : ∀ (i : Nat) y, l.length ≤ i → l[i]? = some y → at_ ≤ y.at_ := fun i y hi hy => by
  have := (List.getElem?_eq_some_iff.1 hy).1
  omega
theorem ix_yes (h3 : ∀ (i : Nat) y, i < lo → (R.p p)[i]? = some y → y.at_ < at_) (h : (lo : Int) < ((R.p p).length : Int) ∧ ((R.p p).getD lo ro0).at_ = at_) : ixO (R.p p) at_ = some lo :=
  ix_some h3 (get_D (d := ro0) (by have := h.1; omega)) h.2
theorem ix_no (g : RG R) (hp : p < 3) (h3 : ∀ (i : Nat) y, i < lo → (R.p p)[i]? = some y → y.at_ < at_) (h4 : ∀ (i : Nat) y, lo ≤ i → (R.p p)[i]? = some y → at_ ≤ y.at_) (h : ¬ ((lo : Int) < ((R.p p).length : Int) ∧ ((R.p p).getD lo ro0).at_ = at_)) : ixO (R.p p) at_ = none := by
  refine ix_none.2 fun y hy e => ?_
  obtain ⟨i, hi⟩ := List.getElem?_of_mem hy
  by_cases h5 : i < lo
  · have := h3 i y h5 hi; omega
  · by_cases h6 : i = lo
    · subst h6
      refine h ⟨by have := (List.getElem?_eq_some_iff.1 hi).1; omega, ?_⟩
      rw [List.getD_eq_getElem?_getD, hi]; exact e
    · obtain ⟨z, hz⟩ := get_ex (l := R.p p) (i := lo) (by have := (List.getElem?_eq_some_iff.1 hi).1; omega)
      have h7 := h4 lo z (Nat.le_refl _) hz
      have h8 := g.srt p hp lo i z y (by omega) hz hi
      have h9 := (g.rng p hp z (List.mem_of_getElem? hz)).2.2.1
      omega
def posO (R : RH) (n : Int) : Nat × Nat := (findO R n).getD (0, 0)
theorem fo_at (h : ¬ ptrO R (findO R n) = none) : ptrO R (findO R n) = some ((sa (R.vs (posO R n).1)).add ((posO R n).2 * objE.size)) ∧ (posO R n).1 < 3 ∧ (R.p (posO R n).1)[(posO R n).2]? = some (obAt R n) ∧ (obAt R n).at_ = n := by
  cases hf : findO R n with
  | none => exact absurd (ptrO_none.2 hf) h
  | some q =>
    obtain ⟨h1, h2, h3, h4⟩ := find_is hf
    have e : posO R n = q := by unfold posO; rw [hf]; rfl
    have e2 : obAt R n = R.ob q := by unfold obAt; rw [hf]
    rw [e, e2]
    exact ⟨rfl, h1, h3, h4⟩
theorem ob_rng (g : RG R) (hp : p < 3) (hx : (R.p p)[i]? = some x) : 0 ≤ x.at_ ∧ x.at_ + x.takes ≤ 3145728 ∧ 2 ≤ x.takes ∧ x.at_ + x.takes ≤ R.Y + 2 * R.O := by
  obtain ⟨h1, h2, h3, h4⟩ := g.rng p hp x (List.mem_of_getElem? hx)
  obtain ⟨y1, y2⟩ := g.y
  obtain ⟨o1, o2⟩ := g.o
  unfold begR sizR at *
  rcases lt3 hp with rfl | rfl | rfl <;> simp at h1 h2 <;> omega
theorem beg_rng (g : RG R) (hp : p < 3) : 0 ≤ begR R p ∧ begR R p ≤ 2097152 := by
  obtain ⟨y1, y2⟩ := g.y
  obtain ⟨o1, o2⟩ := g.o
  unfold begR
  rcases lt3 hp with rfl | rfl | rfl <;> simp <;> omega
theorem beg_in (g : RG R) (hp : p < 3) (h : ¬ (p : Int) = 0) : begR R p = R.Y + ((p : Int) - 1) * R.O ∧ 0 ≤ ((p : Int) - 1) * R.O ∧ ((p : Int) - 1) * R.O ≤ 1048576 := by
  obtain ⟨o1, o2⟩ := g.o
  unfold begR
  rcases lt3 hp with rfl | rfl | rfl <;> simp at * <;> omega
theorem use_rng (g : RG R) : R.use < 3 ∧ 3 - R.use < 3 ∧ 1 ≤ R.use ∧ 1 ≤ 3 - R.use ∧ (3 : Int) - (R.use : Int) = ((3 - R.use : Nat) : Int) := by
  rcases g.use with h | h <;> rw [h] <;> decide
theorem last_at (h : ¬ ((R.p p).length : Int) = 0) : (R.p p)[(R.p p).length - 1]? = some (lastR R p) := get_D (by omega)
theorem used_rng (g : RG R) (hp : p < 3) : 0 ≤ usedR R p ∧ usedR R p ≤ sizR R p := by
  unfold usedR
  split
  · have := g.y; have := g.o; unfold sizR; split <;> omega
  · rename_i h
    have h1 := g.rng p hp _ (List.mem_of_getElem? (last_at (R := R) (p := p) (by omega)))
    omega
theorem siz_rng (g : RG R) (p : Nat) : 16 ≤ sizR R p ∧ sizR R p ≤ 1048576 := by
  have := g.y; have := g.o; unfold sizR; split <;> omega
theorem chase_no {f : Nat} {w : Wd} {met : List Int} (h : ¬ stepR R w met) : chaseQ R f w met = w := by
  cases f with
  | zero => rfl
  | succ f => exact if_neg h
theorem chase_yes {f : Nat} {w : Wd} {met : List Int} (h : stepR R w met) : chaseQ R (f + 1) w met = chaseQ R f ((obAt R w.n).fs.getD 0 wd0) (met ++ [w.n]) := if_pos h
def remTo (R : RH) : Nat → List Int
  | 0 => []
  | 1 => []
  | 2 => rem1R (R.p 1)
  | _ => remR R
theorem remTo_next (h1 : 1 ≤ p) (h3 : p < 3) : remTo R p ++ rem1R (R.p p) = remTo R (p + 1) := by
  rcases lt3 h3 with rfl | rfl | rfl
  · omega
  · rfl
  · rfl
theorem rem1_take {l : List RO} (hx : l[i]? = some x) : rem1R (l.take (i + 1)) = rem1R (l.take i) ++ (if x.knows = true then [x.at_] else []) := by
  unfold rem1R
  rw [takeAt hx, List.filter_append, List.map_append]
  congr 1
  cases h : x.knows <;> simp [h]
theorem rem1_len (l : List RO) : (rem1R l).length ≤ l.length := by
  unfold rem1R; rw [List.length_map]; exact List.length_filter_le _ _
theorem remTo_len (g : RG R) (h : p ≤ 3) : (remTo R p).length ≤ 2097152 := by
  have h1 := rem1_len (R.p 1); have h2 := rem1_len (R.p 2)
  have h3 := g.len 1 (by omega); have h4 := g.len 2 (by omega)
  rcases (by omega : p = 0 ∨ p = 1 ∨ p = 2 ∨ p = 3) with rfl | rfl | rfl | rfl
  · simp [remTo]
  · simp [remTo]
  · show (rem1R (R.p 1)).length ≤ _; omega
  · show (remR R).length ≤ _; unfold remR; rw [List.length_append]; omega
theorem real_take {fs : List Wd} {w : Wd} {i : Nat} (hx : fs[i]? = some w) (h : realR R (fs.take i) = true) (hb : ¬ badR R w) : realR R (fs.take (i + 1)) = true := by
  unfold realR at *
  rw [takeAt hx, List.all_append, h]
  simp [hb]
theorem real_bad {fs : List Wd} {w : Wd} {i : Nat} (hx : fs[i]? = some w) (hb : badR R w) : realR R fs = false := by
  cases h : realR R fs with
  | false => rfl
  | true => exact absurd hb (of_decide_eq_true (List.all_eq_true.1 h w (List.mem_of_getElem? hx)))
theorem kn_take {fs : List Wd} {w : Wd} {i k : Nat} (hx : fs[i]? = some w) : knR R k (fs.take (i + 1)) = decide (knR R k (fs.take i) = true ∨ knW R k w) := by
  unfold knR
  rw [takeAt hx, List.any_append]
  cases List.any (List.take i fs) (fun w => decide (knW R k w)) <;> simp
end
theorem step_no {R : RH} {w : Wd} {met : List Int} (h : ptrO R (findO R w.n) = none ∨ ¬ (obAt R w.n).kind = 5) : ¬ stepR R w met := fun hs => by
  rcases h with h | h
  · have h1 := hs.1.2
    unfold obAt at h1
    rw [ptrO_none.1 h] at h1
    exact absurd (show ro0.kind = 5 from h1) (by decide)
  · exact h hs.1.2
theorem objR_1 {R : RH} {at_ : Int} (h : ptrO R (findO R at_) = none) : objR R at_ = (⟨0, 0, []⟩, 181) := by unfold objR; rw [ptrO_none.1 h]
theorem objR_2 {R : RH} {at_ : Int} {q : Nat × Nat} (h : findO R at_ = some q) : objR R at_ = (⟨(R.ob q).kind, (R.ob q).info, (R.ob q).fs⟩, 0) := by unfold objR; rw [h]
section
variable {w0 w : World} {M : List Nat} {L : List Ent} {v : Value}
theorem RdT.cellsK {α : Type} {E : Enc α} {l : List α} (h : RdT w M v E l) {i : Nat} {x : α} (hi : l[i]? = some x) (k n : Nat) {cs' : List Value} (hk : ((E.cells x).drop k).take n = cs') : ∀ j u, cs'[j]? = some u → w.cell? ((((sa v).add (i * E.size)).add k).add j) = some u := fun j u hj => by
  rw [add_add']
  refine h.cells hi _ _ ?_
  subst hk
  rw [List.getElem?_take] at hj
  split at hj
  · simpa using hj
  · cases hj
end
end Go.Proofs.Ytglienidnffnjaa
