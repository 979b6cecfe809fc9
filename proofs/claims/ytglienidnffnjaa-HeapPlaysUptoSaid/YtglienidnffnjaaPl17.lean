/- PL17, PLAIN: the document's heap: objects in three lists; how it lies in memory. -/
import Derived.Test.YtglienidnffnjaaPl14
namespace Go.Proofs.Ytglienidnffnjaa
open Go
structure RO where
  at_ : Int
  takes : Int
  kind : Int
  info : Int
  f : Hdr
  knows : Bool
  fs : List Wd
def ro0 : RO := ⟨0, 0, 0, 0, ⟨none, 0, 0⟩, false, []⟩
def objE : Enc RO where
  size := 6
  cells x := [i64 x.at_, i64 x.takes, i64 x.kind, i64 x.info, x.f.v, .bool x.knows]
  len _ := rfl
  one t u hu := by
    simp only [List.mem_cons, List.not_mem_nil, or_false] at hu
    rcases hu with rfl | rfl | rfl | rfl | rfl | rfl <;> rfl
structure RH where
  Y : Int
  O : Int
  p : Nat → List RO
  vs : Nat → Value
  use : Nat
def upd {α : Type} (f : Nat → α) (k : Nat) (x : α) : Nat → α := fun j => if j = k then x else f j
theorem upd_at {α : Type} {f : Nat → α} {k : Nat} {x : α} : upd f k x k = x := if_pos rfl
theorem upd_ne {α : Type} {f : Nat → α} {k j : Nat} {x : α} (h : j ≠ k) : upd f k x j = f j := if_neg h
theorem upd_same {α : Type} {f : Nat → α} {k : Nat} : upd f k (f k) = f := by
  funext j; unfold upd; split
  · rename_i e; rw [e]
  · rfl
def rfC (R : RH) : List Value := [i64 R.Y, i64 R.O, R.vs 0, R.vs 1, R.vs 2, i64 (R.use : Int)]
def RH.putP (R : RH) (k : Nat) (l : List RO) (v : Value) : RH := ⟨R.Y, R.O, upd R.p k l, upd R.vs k v, R.use⟩
def RH.setO (R : RH) (q : Nat × Nat) (x : RO) : RH := ⟨R.Y, R.O, upd R.p q.1 ((R.p q.1).set q.2 x), R.vs, R.use⟩
def RH.ob (R : RH) (q : Nat × Nat) : RO := (R.p q.1).getD q.2 ro0
def pgE (T : Nat) (R : RH) : List Ent := [slT (R.vs 0) T objE (R.p 0), slT (R.vs 1) T objE (R.p 1), slT (R.vs 2) T objE (R.p 2)]
def rowW (T : Nat) (x : RO) : Ent := slT x.f.v T wordE x.fs
def rowsE (T : Nat) (R : RH) : List Ent := (R.p 0 ++ R.p 1 ++ R.p 2).map (rowW T)
def posR (R : RH) (q : Nat × Nat) : Nat := (if q.1 = 0 then 0 else if q.1 = 1 then (R.p 0).length else (R.p 0).length + (R.p 1).length) + q.2
theorem lt3 {p : Nat} (h : p < 3) : p = 0 ∨ p = 1 ∨ p = 2 := by omega
section
variable {R : RH} {k p T : Nat} {l : List RO} {v : Value} {q : Nat × Nat} {x : RO}
theorem rfC_at (h : p < 3) : (rfC R)[2 + p]? = some (R.vs p) := by rcases lt3 h with rfl | rfl | rfl <;> rfl
theorem rfC_put (h : k < 3) : (rfC R).set (2 + k) v = rfC (R.putP k l v) := by rcases lt3 h with rfl | rfl | rfl <;> rfl
theorem pgE_at (h : p < 3) : (pgE T R)[p]? = some (slT (R.vs p) T objE (R.p p)) := by rcases lt3 h with rfl | rfl | rfl <;> rfl
theorem pgE_put (h : k < 3) : (pgE T R).set k (slT v T objE l) = pgE T (R.putP k l v) := by rcases lt3 h with rfl | rfl | rfl <;> rfl
theorem pgE_setO (h : q.1 < 3) : (pgE T R).set q.1 (slT (R.vs q.1) T objE ((R.p q.1).set q.2 x)) = pgE T (R.setO q x) := by
  obtain ⟨a, b⟩ := q
  rcases lt3 (show a < 3 from h) with rfl | rfl | rfl <;> rfl
theorem rows_at (h : q.1 < 3) (hx : (R.p q.1)[q.2]? = some x) : (rowsE T R)[posR R q]? = some (rowW T x) := by
  have hl := (List.getElem?_eq_some_iff.1 hx).1
  obtain ⟨a, b⟩ := q
  rcases lt3 (show a < 3 from h) with rfl | rfl | rfl
  · show (List.map _ (R.p 0 ++ R.p 1 ++ R.p 2))[0 + b]? = _
    have hx : (R.p 0)[b]? = some x := hx
    have hl : b < (R.p 0).length := hl
    rw [Nat.zero_add, List.getElem?_map, List.append_assoc, List.getElem?_append_left hl, hx]; rfl
  · show (List.map _ (R.p 0 ++ R.p 1 ++ R.p 2))[(R.p 0).length + b]? = _
    have hx : (R.p 1)[b]? = some x := hx
    have hl : b < (R.p 1).length := hl
    rw [List.getElem?_map, List.append_assoc, List.getElem?_append_right (by omega), Nat.add_sub_cancel_left, List.getElem?_append_left hl, hx]; rfl
  · show (List.map _ (R.p 0 ++ R.p 1 ++ R.p 2))[(R.p 0).length + (R.p 1).length + b]? = _
    have hx : (R.p 2)[b]? = some x := hx
    rw [List.getElem?_map, List.getElem?_append_right (by rw [List.length_append]; omega), List.length_append, Nat.add_sub_cancel_left, hx]; rfl
theorem rows_set (h : q.1 < 3) (hl : q.2 < (R.p q.1).length) : (rowsE T R).set (posR R q) (rowW T x) = rowsE T (R.setO q x) := by
  obtain ⟨a, b⟩ := q
  unfold rowsE
  rw [← List.map_set]
  refine congrArg (List.map (rowW T)) ?_
  rcases lt3 (show a < 3 from h) with rfl | rfl | rfl
  · have hl : b < (R.p 0).length := hl
    show (R.p 0 ++ R.p 1 ++ R.p 2).set (0 + b) x = (R.p 0).set b x ++ R.p 1 ++ R.p 2
    rw [Nat.zero_add, List.append_assoc, List.set_append_left _ _ hl, List.append_assoc]
  · have hl : b < (R.p 1).length := hl
    show (R.p 0 ++ R.p 1 ++ R.p 2).set ((R.p 0).length + b) x = R.p 0 ++ (R.p 1).set b x ++ R.p 2
    rw [List.append_assoc, List.set_append_right _ _ (by omega), Nat.add_sub_cancel_left, List.set_append_left _ _ hl, List.append_assoc]
  · show (R.p 0 ++ R.p 1 ++ R.p 2).set ((R.p 0).length + (R.p 1).length + b) x = R.p 0 ++ R.p 1 ++ (R.p 2).set b x
    rw [List.set_append_right _ _ (by rw [List.length_append]; omega), List.length_append, Nat.add_sub_cancel_left]
theorem rows_same {y : RO} (h : q.1 < 3) (hy : (R.p q.1)[q.2]? = some y) (e1 : x.f = y.f) (e2 : x.fs = y.fs) : rowsE T (R.setO q x) = rowsE T R := by
  rw [← rows_set h (List.getElem?_eq_some_iff.1 hy).1, show rowW T x = rowW T y by unfold rowW; rw [e1, e2]]
  exact set_self (rows_at h hy)
theorem rows_add (h : k < 3) : (rowsE T (R.putP k (R.p k ++ [x]) v)).Perm (rowsE T R ++ [rowW T x]) := by
  unfold rowsE
  rw [show [rowW T x] = [x].map (rowW T) from rfl, ← List.map_append]
  refine List.Perm.map _ ?_
  rcases lt3 h with rfl | rfl | rfl
  · show (R.p 0 ++ [x] ++ R.p 1 ++ R.p 2).Perm (R.p 0 ++ R.p 1 ++ R.p 2 ++ [x])
    simp only [List.append_assoc]
    refine List.Perm.append_left _ ?_
    have := List.perm_append_comm (l₁ := [x]) (l₂ := R.p 1 ++ R.p 2)
    simpa only [List.append_assoc] using this
  · show (R.p 0 ++ (R.p 1 ++ [x]) ++ R.p 2).Perm (R.p 0 ++ R.p 1 ++ R.p 2 ++ [x])
    simp only [List.append_assoc]
    exact List.Perm.append_left _ (List.Perm.append_left _ List.perm_append_comm)
  · show (R.p 0 ++ R.p 1 ++ (R.p 2 ++ [x])).Perm (R.p 0 ++ R.p 1 ++ R.p 2 ++ [x])
    rw [List.append_assoc (R.p 0 ++ R.p 1)]
theorem rows_less (h : k < 3) : (rowsE T (R.putP k [] v)).Sublist (rowsE T R) := by
  unfold rowsE
  refine List.Sublist.map _ ?_
  rcases lt3 h with rfl | rfl | rfl
  · show ([] ++ R.p 1 ++ R.p 2).Sublist _
    rw [List.nil_append, List.append_assoc]; exact List.sublist_append_right _ _
  · show (R.p 0 ++ [] ++ R.p 2).Sublist _
    rw [List.append_nil]; exact List.Sublist.append_right (List.sublist_append_left _ _) _
  · show (R.p 0 ++ R.p 1 ++ []).Sublist _
    rw [List.append_nil]; exact List.sublist_append_left _ _
end
section
variable {w0 w : World} {M : List Nat} {L Es Es' : List Ent} {e e1 : Ent} {R : RH} {br T W t : Nat}
theorem St.grpLess (hO : St w0 M w L) (i : Nat) (hi : L[i]? = some (Ent.grp Es)) (hs : Es'.Sublist Es) : St w0 M w (L.set i (Ent.grp Es')) :=
  (St.group ((St.ungroup (hO.pull i hi)).less (List.Sublist.append_right hs _))).perm (set_perm L i _ _ hi)
theorem St.grpPerm (hO : St w0 M w L) (i : Nat) (hi : L[i]? = some (Ent.grp Es)) (hs : Es'.Perm Es) : St w0 M w (L.set i (Ent.grp Es')) :=
  (St.group ((St.ungroup (hO.pull i hi)).perm (List.Perm.append_right _ hs))).perm (set_perm L i _ _ hi)
/-- the first entry and one of a group change places -/
theorem St.swapG (hO : St w0 M w (e :: L)) (i : Nat) (hi : L[i]? = some (Ent.grp Es)) {j : Nat} (hj : Es[j]? = some e1) : St w0 M w (e1 :: L.set i (Ent.grp (Es.set j e))) := by
  have h1 : St w0 M w (Ent.grp Es :: e :: L.eraseIdx i) := hO.perm ((List.Perm.swap _ _ _).trans ((pull_perm L i _ hi).cons e))
  have h2 : St w0 M w (Es ++ (e :: L.eraseIdx i)) := St.ungroup h1
  have h3 : (Es.set j e ++ (e1 :: L.eraseIdx i)).Perm (Es ++ (e :: L.eraseIdx i)) := by
    refine ((set_perm Es j _ e hj).append_right _).trans ?_
    refine List.Perm.trans ?_ ((pull_perm Es j _ hj).append_right _)
    show (e :: (Es.eraseIdx j ++ (e1 :: L.eraseIdx i))).Perm (e1 :: (Es.eraseIdx j ++ (e :: L.eraseIdx i)))
    refine (List.perm_middle.cons e).trans ((List.Perm.swap _ _ _).trans ((List.perm_middle.symm).cons e1))
  have h4 : St w0 M w (Ent.grp (Es.set j e) :: e1 :: L.eraseIdx i) := St.group (h2.perm h3)
  exact h4.perm (((set_perm L i _ _ hi).cons e1).trans (List.Perm.swap _ _ _))
/-- the heap of the document, only read -/
structure RR (w : World) (M : List Nat) (br : Nat) (R : RH) : Prop where
  blk : Rd w M (gl1 br) 6 1 (rfC R)
  ps : ∀ p, p < 3 → RdT w M (R.vs p) objE (R.p p)
  fw : ∀ p, p < 3 → ∀ x ∈ R.p p, RdT w M x.f.v wordE x.fs
theorem RR.now (h : RR w0 M br R) (hO : St w0 M w L) : RR w (blks L) br R := ⟨Rd.now h.blk hO, fun p hp => (h.ps p hp).now hO, fun p hp x hx => (h.fw p hp x hx).now hO⟩
theorem RR.at0 (h : RR w0 M br R) (hO : St w0 M w L) : RR w [] br R := ⟨Rd.at0 h.blk hO, fun p hp => (h.ps p hp).at0 hO, fun p hp x hx => (h.fw p hp x hx).at0 hO⟩
theorem St.rr (hO : St w0 M w L) (i j k : Nat) (hi : L[i]? = some (.ob br t (rfC R))) (hj : L[j]? = some (Ent.grp (pgE T R))) (hk : L[k]? = some (Ent.grp (rowsE W R))) : RR w [] br R :=
  ⟨hO.rdOb i hi, fun p hp => hO.rdTG j hj (pgE_at hp), fun p hp x hx => by
    obtain ⟨m, hm⟩ := List.getElem?_of_mem hx
    exact hO.rdTG k hk (rows_at (q := (p, m)) hp hm)⟩
end
/-! ### Where one stands -/
def begR (R : RH) (k : Nat) : Int := if k = 0 then 0 else R.Y + ((k : Int) - 1) * R.O
def sizR (R : RH) (k : Nat) : Int := if k = 0 then R.Y else R.O
def lastR (R : RH) (k : Nat) : RO := (R.p k).getD ((R.p k).length - 1) ro0
def usedR (R : RH) (k : Nat) : Int := if (R.p k).length = 0 then 0 else (lastR R k).at_ + (lastR R k).takes - begR R k
structure RG (R : RH) : Prop where
  srt : ∀ p, p < 3 → ∀ (i j : Nat) x y, i < j → (R.p p)[i]? = some x → (R.p p)[j]? = some y → x.at_ + x.takes ≤ y.at_
  len : ∀ p, p < 3 → (R.p p).length ≤ 1048576
  y : 16 ≤ R.Y ∧ R.Y ≤ 1048576
  o : 16 ≤ R.O ∧ R.O ≤ 1048576
  use : R.use = 1 ∨ R.use = 2
  rng : ∀ p, p < 3 → ∀ x ∈ R.p p, begR R p ≤ x.at_ ∧ x.at_ + x.takes ≤ begR R p + sizR R p ∧ 2 ≤ x.takes ∧ x.takes ≤ 1002
  ind : ∀ p, p < 3 → ∀ x ∈ R.p p, x.kind = 5 → x.fs.length = 1
def ixO (l : List RO) (at_ : Int) : Option Nat := l.findIdx? fun x => decide (x.at_ = at_)
def findO (R : RH) (at_ : Int) : Option (Nat × Nat) := match ixO (R.p 0) at_ with
  | some i => some (0, i)
  | none => match ixO (R.p 1) at_ with
    | some i => some (1, i)
    | none => (ixO (R.p 2) at_).map fun i => (2, i)
def ptrO (R : RH) (r : Option (Nat × Nat)) : Option Addr := r.map fun q => (sa (R.vs q.1)).add (q.2 * objE.size)
theorem ptrO_none {R : RH} {r : Option (Nat × Nat)} : ptrO R r = none ↔ r = none := by cases r <;> simp [ptrO]
theorem ix_none {l : List RO} {at_ : Int} : ixO l at_ = none ↔ ∀ x ∈ l, x.at_ ≠ at_ := by simp [ixO, List.findIdx?_eq_none_iff]
theorem ix_is {l : List RO} {at_ : Int} {i : Nat} (h : ixO l at_ = some i) : ∃ x, l[i]? = some x ∧ x.at_ = at_ := by
  unfold ixO at h
  rw [List.findIdx?_eq_some_iff_getElem] at h
  obtain ⟨h1, h2, _⟩ := h
  exact ⟨_, List.getElem?_eq_getElem h1, of_decide_eq_true h2⟩
theorem ix_some {l : List RO} {at_ : Int} {i : Nat} {x : RO} (hs : ∀ (j : Nat) y, j < i → l[j]? = some y → y.at_ < at_) (h : l[i]? = some x) (e : x.at_ = at_) : ixO l at_ = some i := by
  unfold ixO
  rw [List.findIdx?_eq_some_iff_getElem]
  obtain ⟨h1, h2⟩ := List.getElem?_eq_some_iff.1 h
  refine ⟨h1, decide_eq_true (by rw [h2]; exact e), fun j hj hd => ?_⟩
  have := hs j _ hj (List.getElem?_eq_getElem (by omega))
  have := of_decide_eq_true hd
  omega
section
variable {R : RH} {at_ : Int} {p i : Nat} {x : RO}
theorem find_some (h0 : ∀ q, q < p → ixO (R.p q) at_ = none) (hp : p < 3) (h : ixO (R.p p) at_ = some i) : findO R at_ = some (p, i) := by
  unfold findO
  rcases lt3 hp with rfl | rfl | rfl
  · rw [h]
  · rw [h0 0 (by omega)]; simp only; rw [h]
  · rw [h0 0 (by omega)]; simp only; rw [h0 1 (by omega)]; simp only; rw [h]; rfl
theorem find_none (h0 : ∀ q, q < 3 → ixO (R.p q) at_ = none) : findO R at_ = none := by
  unfold findO
  rw [h0 0 (by omega)]; simp only; rw [h0 1 (by omega)]; simp only; rw [h0 2 (by omega)]; rfl
theorem find_is {q : Nat × Nat} (h : findO R at_ = some q) : q.1 < 3 ∧ q.2 < (R.p q.1).length ∧ (R.p q.1)[q.2]? = some (R.ob q) ∧ (R.ob q).at_ = at_ := by
  have key : ∀ p i, p < 3 → ixO (R.p p) at_ = some i → q = (p, i) → q.1 < 3 ∧ q.2 < (R.p q.1).length ∧ (R.p q.1)[q.2]? = some (R.ob q) ∧ (R.ob q).at_ = at_ := by
    rintro p i hp hi rfl
    obtain ⟨x, h1, h2⟩ := ix_is hi
    have hl := (List.getElem?_eq_some_iff.1 h1).1
    have e : R.ob (p, i) = x := by show (R.p p).getD i ro0 = x; rw [List.getD_eq_getElem?_getD, h1]; rfl
    exact ⟨hp, hl, by rw [e]; exact h1, by rw [e]; exact h2⟩
  unfold findO at h
  split at h
  · rename_i i hi; exact key 0 i (by omega) hi (Option.some.inj h).symm
  · split at h
    · rename_i i hi; exact key 1 i (by omega) hi (Option.some.inj h).symm
    · obtain ⟨i, hi, e⟩ := Option.map_eq_some_iff.1 h
      exact key 2 i (by omega) hi e.symm
theorem find_no (h : findO R at_ = none) : ∀ p, p < 3 → ∀ x ∈ R.p p, x.at_ ≠ at_ := by
  unfold findO at h
  split at h
  · cases h
  · rename_i h0
    split at h
    · cases h
    · rename_i h1
      have h2 := Option.map_eq_none_iff.1 h
      intro p hp x hx
      rcases lt3 hp with rfl | rfl | rfl
      · exact ix_none.1 h0 x hx
      · exact ix_none.1 h1 x hx
      · exact ix_none.1 h2 x hx
end
/-- what stands at an address depends on the addresses alone -/
theorem find_same {R R' : RH} (h : ∀ p, p < 3 → (R'.p p).map (·.at_) = (R.p p).map (·.at_)) (at_ : Int) : findO R' at_ = findO R at_ := by
  have e : ∀ l : List RO, ixO l at_ = (l.map (·.at_)).findIdx? fun n => decide (n = at_) := fun l => by rw [List.findIdx?_map]; rfl
  unfold findO
  rw [e, e, e, e, e, e, h 0 (by omega), h 1 (by omega), h 2 (by omega)]
/-! ### What the functions do -/
def badR (R : RH) (w : Wd) : Prop := w.ptr = true ∧ findO R w.n = none
instance (R : RH) (w : Wd) : Decidable (badR R w) := by unfold badR; infer_instance
def youngR (R : RH) (at_ : Int) : Prop := (0 ≤ at_ ∧ at_ < R.Y) ∧ ¬ findO R at_ = none
instance (R : RH) (at_ : Int) : Decidable (youngR R at_) := by unfold youngR; infer_instance
def realR (R : RH) (fs : List Wd) : Bool := fs.all fun w => decide (¬ badR R w)
def knW (R : RH) (k : Nat) (w : Wd) : Prop := (0 < (k : Int) ∧ w.ptr = true) ∧ youngR R w.n
instance (R : RH) (k : Nat) (w : Wd) : Decidable (knW R k w) := by unfold knW; infer_instance
def knR (R : RH) (k : Nat) (fs : List Wd) : Bool := fs.any fun w => decide (knW R k w)
def greyR (R : RH) (at_ : Int) (w : Wd) : Prop := (R.Y ≤ at_ ∧ w.ptr = true) ∧ youngR R w.n
instance (R : RH) (at_ : Int) (w : Wd) : Decidable (greyR R at_ w) := by unfold greyR; infer_instance
def newO (R : RH) (k : Nat) (kind info : Int) (fs : List Wd) (q : Hdr) : RO := ⟨begR R k + usedR R k, takesF fs, kind, info, q, knR R k fs, fs⟩
def layR (R : RH) (k : Nat) (kind info : Int) (fs : List Wd) (q : Hdr) (v : Value) : (Int × Int) × RH :=
  if argsBad kind info fs then ((0, 1), R)
  else if realR R fs = false then ((0, 181), R)
  else if sizR R k < usedR R k + takesF fs then ((0, 180), R)
  else ((begR R k + usedR R k, 0), R.putP k (R.p k ++ [newO R k kind info fs q]) v)
def setFs (x : RO) (fs : List Wd) : RO := ⟨x.at_, x.takes, x.kind, x.info, x.f, x.knows, fs⟩
def setKn (x : RO) (b : Bool) : RO := ⟨x.at_, x.takes, x.kind, x.info, x.f, b, x.fs⟩
def setKd (x : RO) (k : Int) : RO := ⟨x.at_, x.takes, k, x.info, x.f, x.knows, x.fs⟩
def setOb (x : RO) (q : Hdr) (w : Wd) : RO := ⟨x.at_, x.takes, 5, 0, q, x.knows, [w]⟩
def rem1 (R : RH) (q : Nat × Nat) (at_ : Int) (w : Wd) : RH := R.setO q (setKn (R.ob q) (decide ((R.ob q).knows = true ∨ greyR R at_ w)))
def setR (R : RH) (at_ field : Int) (w : Wd) : Int × RH := match findO R at_ with
  | none => (181, R)
  | some q => if (field < 0 ∨ ((R.ob q).fs.length : Int) ≤ field) ∨ badR R w then (181, R)
    else (0, rem1 (R.setO q (setFs (R.ob q) ((R.ob q).fs.set field.toNat w))) q at_ w)
def holeR (R : RH) (at_ : Int) : Int × RH := match findO R at_ with
  | none => (181, R)
  | some q => if ¬ (R.ob q).kind = 3 then (1, R) else (0, R.setO q (setKd (R.ob q) 6))
def linkR (R : RH) (at_ : Int) (w : Wd) (h : Hdr) : Int × RH := match findO R at_ with
  | none => (181, R)
  | some q => if badR R w then (181, R) else if ¬ (R.ob q).kind = 3 ∧ ¬ (R.ob q).kind = 6 then (1, R)
    else (0, rem1 (R.setO q (setOb (R.ob q) h w)) q at_ w)
def indR (R : RH) (w : Wd) : Prop := w.ptr = true ∧ ∃ q, findO R w.n = some q ∧ (R.ob q).kind = 5
def obAt (R : RH) (n : Int) : RO := match findO R n with | none => ro0 | some q => R.ob q
def stepR (R : RH) (w : Wd) (met : List Int) : Prop := (w.ptr = true ∧ (obAt R w.n).kind = 5) ∧ ¬ met.contains w.n = true
instance (R : RH) (w : Wd) (met : List Int) : Decidable (stepR R w met) := by unfold stepR; infer_instance
def chaseQ (R : RH) : Nat → Wd → List Int → Wd
  | 0, w, _ => w
  | f + 1, w, met => if stepR R w met then chaseQ R f ((obAt R w.n).fs.getD 0 wd0) (met ++ [w.n]) else w
def chaseR (R : RH) (w : Wd) : Wd := chaseQ R ((R.Y + 2 * R.O).toNat + 1) w []
def objR (R : RH) (at_ : Int) : Ob × Int := match findO R at_ with
  | none => (⟨0, 0, []⟩, 181)
  | some q => (⟨(R.ob q).kind, (R.ob q).info, (R.ob q).fs⟩, 0)
def rem1R (l : List RO) : List Int := (l.filter (·.knows)).map (·.at_)
def remR (R : RH) : List Int := rem1R (R.p 1) ++ rem1R (R.p 2)
def unkn (l : List RO) : List RO := l.map fun x => setKn x false
def nilV : Value := .slice none 0 0
def clearR (R : RH) : RH := ⟨R.Y, R.O, fun k => if k = 0 then [] else if k < 3 then unkn (R.p k) else R.p k, upd R.vs 0 nilV, R.use⟩
def flipR (R : RH) : RH := ⟨R.Y, R.O, R.p, R.vs, 3 - R.use⟩
def dropR (R : RH) : RH := R.putP (3 - R.use) [] nilV
def newR (y o : Int) : RH := ⟨y, o, fun _ => [], fun _ => nilV, 1⟩
end Go.Proofs.Ytglienidnffnjaa
