/- PL19: the document's heap, as it is turned. -/
import Derived.Test.YtglienidnffnjaaPl18
namespace Go.Proofs.Ytglienidnffnjaa
open Go
theorem slT_same {α : Type} {E : Enc α} {l : List α} {i e : Nat} {x y : α} {v : Value} (hx : l[i]? = some x) (h : E.cells y = E.cells x) : slT v e E (l.set i y) = slT v e E l := by
  have hl := (List.getElem?_eq_some_iff.1 hx).1
  have h1 : flat E (l.set i y) = flat E l := by
    rw [← flat_set E hl y, h, flat_set E hl x, set_self hx]
  unfold slT
  rw [h1, List.length_set]
theorem set_get {α : Type} {l : List α} {i a : Nat} {x y u : α} (hy : l[i]? = some y) (h : (l.set i x)[a]? = some u) : ∃ u', l[a]? = some u' ∧ ((a = i ∧ u = x ∧ u' = y) ∨ (a ≠ i ∧ u = u')) := by
  by_cases e : a = i
  · subst e
    rw [List.getElem?_set_self (List.getElem?_eq_some_iff.1 hy).1] at h
    exact ⟨y, hy, .inl ⟨rfl, (Option.some.inj h).symm, rfl⟩⟩
  · rw [List.getElem?_set_ne (fun h => e h.symm)] at h
    exact ⟨u, h, .inr ⟨e, rfl⟩⟩
section
variable {R : RH} {q : Nat × Nat} {x y : RO} {k T : Nat}
theorem setO_p : (R.setO q x).p q.1 = (R.p q.1).set q.2 x := upd_at
theorem setO_at (q2 : q.2 < (R.p q.1).length) : ((R.setO q x).p q.1)[q.2]? = some x := by rw [setO_p]; exact List.getElem?_set_self q2
theorem setO_ob (q2 : q.2 < (R.p q.1).length) : (R.setO q x).ob q = x := by
  unfold RH.ob; rw [setO_p]; exact getD_set_self q2
theorem setO_len (p : Nat) : ((R.setO q x).p p).length = (R.p p).length := by
  show (upd R.p q.1 _ p).length = _
  unfold upd; split
  · rename_i e; rw [e, List.length_set]
  · rfl
theorem setO_get (hy : (R.p q.1)[q.2]? = some y) {p a : Nat} {u : RO} (h : ((R.setO q x).p p)[a]? = some u) : ∃ u', (R.p p)[a]? = some u' ∧ ((p = q.1 ∧ a = q.2 ∧ u = x ∧ u' = y) ∨ (¬ (p = q.1 ∧ a = q.2) ∧ u = u')) := by
  by_cases e : p = q.1
  · subst e
    rw [setO_p] at h
    obtain ⟨u', h1, h2⟩ := set_get hy h
    refine ⟨u', h1, ?_⟩
    rcases h2 with ⟨h2, h3, h4⟩ | ⟨h2, h3⟩
    · exact .inl ⟨rfl, h2, h3, h4⟩
    · exact .inr ⟨fun e => h2 e.2, h3⟩
  · rw [show (R.setO q x).p p = R.p p from upd_ne e] at h
    exact ⟨u, h, .inr ⟨fun h => e h.1, rfl⟩⟩
theorem RG.setO (g : RG R) (hy : (R.p q.1)[q.2]? = some y) (h1 : x.at_ = y.at_) (h2 : x.takes = y.takes) (h3 : x.kind = 5 → x.fs.length = 1) : RG (R.setO q x) := by
  refine ⟨fun p hp i j u v hij hu hv => ?_, fun p hp => by rw [setO_len]; exact g.len p hp, g.y, g.o, g.use, fun p hp u hu => ?_, fun p hp u hu hk => ?_⟩
  · obtain ⟨u', a1, a2⟩ := setO_get hy hu
    obtain ⟨v', b1, b2⟩ := setO_get hy hv
    have := g.srt p hp i j u' v' hij a1 b1
    have e1 : u.at_ = u'.at_ ∧ u.takes = u'.takes := by
      rcases a2 with ⟨_, _, rfl, rfl⟩ | ⟨_, rfl⟩
      · exact ⟨h1, h2⟩
      · exact ⟨rfl, rfl⟩
    have e2 : v.at_ = v'.at_ := by
      rcases b2 with ⟨_, _, rfl, rfl⟩ | ⟨_, rfl⟩
      · exact h1
      · rfl
    rw [e1.1, e1.2, e2]; exact this
  · obtain ⟨i, hi⟩ := List.getElem?_of_mem hu
    obtain ⟨u', a1, a2⟩ := setO_get hy hi
    have := g.rng p hp u' (List.mem_of_getElem? a1)
    rcases a2 with ⟨_, _, rfl, rfl⟩ | ⟨_, rfl⟩
    · show begR R p ≤ _ ∧ _ ≤ begR R p + sizR R p ∧ _
      rw [h1, h2]; exact this
    · exact this
  · obtain ⟨i, hi⟩ := List.getElem?_of_mem hu
    obtain ⟨u', a1, a2⟩ := setO_get hy hi
    rcases a2 with ⟨_, _, rfl, rfl⟩ | ⟨_, rfl⟩
    · exact h3 hk
    · exact g.ind p hp _ (List.mem_of_getElem? a1) hk
theorem find_setO (hy : (R.p q.1)[q.2]? = some y) (h1 : x.at_ = y.at_) (n : Int) : findO (R.setO q x) n = findO R n := by
  refine find_same (fun p _ => ?_) n
  by_cases e : p = q.1
  · subst e
    rw [setO_p, List.map_set, h1]
    exact set_self (by rw [List.getElem?_map, hy]; rfl)
  · rw [show (R.setO q x).p p = R.p p from upd_ne e]
theorem pgE_same (h : q.1 < 3) (hy : (R.p q.1)[q.2]? = some y) (e : objE.cells x = objE.cells y) : pgE T (R.setO q x) = pgE T R := by
  rw [← pgE_setO h, slT_same hy e]
  exact set_self (pgE_at h)
theorem ble_rf (h : k < 3) : Nat.ble (2 + k * 1 + 1) (rfC R).length = true := by rcases lt3 h with rfl | rfl | rfl <;> rfl
end
section
variable {w0 w : World} {M : List Nat} {L : List Ent} {R : RH} {br t T W k : Nat} {v2 : Value} {x : RO}
/-- a new object is in -/
theorem lay_fin (hk : k < 3) {z : Ent} (hO : St w0 M w [slT v2 T objE (R.p k ++ [x]), rowW W x, .ob br t ((rfC R).set (2 + k * 1) v2), Ent.grp ((pgE T R).set k z), Ent.grp (rowsE W R)]) :
    St w0 M w [.ob br t (rfC (R.putP k (R.p k ++ [x]) v2)), Ent.grp (pgE T (R.putP k (R.p k ++ [x]) v2)), Ent.grp (rowsE W (R.putP k (R.p k ++ [x]) v2))] := by
  rw [Nat.mul_one, rfC_put hk (l := R.p k ++ [x])] at hO
  have h1 := St.swapG hO 2 rfl (j := k) (List.getElem?_set_self (by show k < 3; exact hk))
  rw [List.set_set, pgE_put hk] at h1
  have h2 : St w0 M w [rowW W x, .ob br t (rfC (R.putP k (R.p k ++ [x]) v2)), Ent.grp (pgE T (R.putP k (R.p k ++ [x]) v2)), Ent.grp (rowsE W R)] := h1.tail
  have h3 : St w0 M w [.ob br t (rfC (R.putP k (R.p k ++ [x]) v2)), Ent.grp (pgE T (R.putP k (R.p k ++ [x]) v2)), Ent.grp (rowsE W R ++ [rowW W x])] := St.into h2 2 rfl
  exact h3.grpPerm 2 rfl (rows_add hk)
/-- a part is taken away -/
theorem put_nil_fin (hk : k < 3) (hO : St w0 M w [.ob br t ((rfC R).set (2 + k * 1) nilV), Ent.grp (pgE T R), Ent.grp (rowsE W R)]) :
    St w0 M w [.ob br t (rfC (R.putP k [] nilV)), Ent.grp (pgE T (R.putP k [] nilV)), Ent.grp (rowsE W (R.putP k [] nilV))] := by
  rw [Nat.mul_one, rfC_put hk (l := [])] at hO
  have h1 := (St.swapG (hO.nilSl T 6) 1 rfl (pgE_at hk)).tail
  have h2 : St w0 M w [.ob br t (rfC (R.putP k [] nilV)), Ent.grp ((pgE T R).set k (slT nilV T objE [])), Ent.grp (rowsE W R)] := h1
  rw [pgE_put hk] at h2
  exact h2.grpLess 2 rfl (rows_less hk)
theorem new_fin {y o : Int} (hO : St w0 M w [.ob br t (rfC (newR y o))]) : St w0 M w [.ob br t (rfC (newR y o)), Ent.grp (pgE T (newR y o)), Ent.grp (rowsE W (newR y o))] := by
  have h1 := ((hO.nilSl T 6).nilSl T 6).nilSl T 6
  have h2 : St w0 M w (pgE T (newR y o) ++ [.ob br t (rfC (newR y o))]) := h1
  have h3 := St.grp0 (St.group h2)
  exact (h3.pull 2 rfl).perm ((List.Perm.swap _ _ []).cons _)
end
theorem rem1_is {R : RH} {q : Nat × Nat} {X : RO} (q2 : q.2 < (R.p q.1).length) (at_ : Int) (w : Wd) : rem1 (R.setO q X) q at_ w = (R.setO q X).setO q (setKn X (decide (X.knows = true ∨ ((R.Y ≤ at_ ∧ w.ptr = true) ∧ youngR (R.setO q X) w.n)))) := by
  unfold rem1
  rw [setO_ob q2]
  exact congrArg (fun b => (R.setO q X).setO q (setKn X b)) (decide_eq_decide.2 Iff.rfl)
section
variable {R : RH} {at_ field : Int} {w : Wd}
theorem ob_at {q : Nat × Nat} (h : findO R at_ = some q) : obAt R at_ = R.ob q := by unfold obAt; rw [h]
theorem set_e1 (h : ((ptrO R (findO R at_) = none ∨ field < 0) ∨ ((obAt R at_).fs.length : Int) ≤ field) ∨ ¬ ¬ badR R w) : setR R at_ field w = (181, R) := by
  unfold setR
  cases hf : findO R at_ with
  | none => rfl
  | some q =>
    refine if_pos ?_
    rw [hf, ob_at hf] at h
    rcases h with ((h | h) | h) | h
    · exact absurd (ptrO_none.1 h) (by simp)
    · exact .inl (.inl h)
    · exact .inl (.inr h)
    · exact .inr (Classical.not_not.1 h)
theorem set_e2 (h : ¬ (((ptrO R (findO R at_) = none ∨ field < 0) ∨ ((obAt R at_).fs.length : Int) ≤ field) ∨ ¬ ¬ badR R w)) : ∃ q, findO R at_ = some q ∧ q.1 < 3 ∧ q.2 < (R.p q.1).length ∧ (R.p q.1)[q.2]? = some (R.ob q) ∧ 0 ≤ field ∧ field < (R.ob q).fs.length ∧
    setR R at_ field w = (0, rem1 (R.setO q (setFs (R.ob q) ((R.ob q).fs.set field.toNat w))) q at_ w) := by
  have h1 := not_or.1 h
  have h2 := not_or.1 h1.1
  have h3 := not_or.1 h2.1
  obtain ⟨q, hq⟩ := Option.ne_none_iff_exists'.1 (fun e => h3.1 (ptrO_none.2 e))
  obtain ⟨q1, q2, q3, _⟩ := find_is hq
  have h4 := h2.2
  rw [ob_at hq] at h4
  refine ⟨q, hq, q1, q2, q3, by omega, by omega, ?_⟩
  unfold setR
  rw [hq]
  exact if_neg (fun hc => by
    rcases hc with (hc | hc) | hc
    · exact h3.2 hc
    · exact h4 hc
    · exact h1.2 (not_not_intro hc))
theorem hole_e1 (h : ptrO R (findO R at_) = none) : holeR R at_ = (181, R) := by unfold holeR; rw [ptrO_none.1 h]
theorem hole_e2 {q : Nat × Nat} (hq : findO R at_ = some q) (h : ¬ (R.ob q).kind = 3) : holeR R at_ = (1, R) := by unfold holeR; rw [hq]; exact if_pos h
theorem hole_e3 {q : Nat × Nat} (hq : findO R at_ = some q) (h : ¬ ¬ (R.ob q).kind = 3) : holeR R at_ = (0, R.setO q (setKd (R.ob q) 6)) := by unfold holeR; rw [hq]; exact if_neg h
theorem link_e1 {hd : Hdr} (h : ptrO R (findO R at_) = none ∨ ¬ ¬ badR R w) : linkR R at_ w hd = (181, R) := by
  unfold linkR
  cases hf : findO R at_ with
  | none => rfl
  | some q =>
    refine if_pos ?_
    rw [hf] at h
    rcases h with h | h
    · exact absurd (ptrO_none.1 h) (by simp)
    · exact Classical.not_not.1 h
theorem link_e2 (h : ¬ (ptrO R (findO R at_) = none ∨ ¬ ¬ badR R w)) : ∃ q, findO R at_ = some q ∧ q.1 < 3 ∧ q.2 < (R.p q.1).length ∧ (R.p q.1)[q.2]? = some (R.ob q) ∧ ¬ badR R w := by
  have h1 := not_or.1 h
  obtain ⟨q, hq⟩ := Option.ne_none_iff_exists'.1 (fun e => h1.1 (ptrO_none.2 e))
  obtain ⟨q1, q2, q3, _⟩ := find_is hq
  exact ⟨q, hq, q1, q2, q3, Classical.not_not.1 h1.2⟩
theorem link_e3 {q : Nat × Nat} {hd : Hdr} (hq : findO R at_ = some q) (hb : ¬ badR R w) (h : ¬ (R.ob q).kind = 3 ∧ ¬ (R.ob q).kind = 6) : linkR R at_ w hd = (1, R) := by
  unfold linkR; rw [hq]; simp only; rw [if_neg hb, if_pos h]
theorem link_e4 {q : Nat × Nat} {hd : Hdr} (hq : findO R at_ = some q) (hb : ¬ badR R w) (h : ¬ (¬ (R.ob q).kind = 3 ∧ ¬ (R.ob q).kind = 6)) : linkR R at_ w hd = (0, rem1 (R.setO q (setOb (R.ob q) hd w)) q at_ w) := by
  unfold linkR; rw [hq]; simp only; rw [if_neg hb, if_neg h]
end
theorem lay_e1 {R : RH} {k : Nat} {kind info : Int} {fs : List Wd} {q : Hdr} {v : Value} (h1 : ¬ argsBad kind info fs) (h2 : realR R fs = false) : layR R k kind info fs q v = ((0, 181), R) := by
  unfold layR; rw [if_neg h1, if_pos h2]
theorem lay_e2 {R : RH} {k : Nat} {kind info : Int} {fs : List Wd} {q : Hdr} {v : Value} (h1 : ¬ argsBad kind info fs) (h2 : realR R fs = true) (h3 : sizR R k < usedR R k + takesF fs) : layR R k kind info fs q v = ((0, 180), R) := by
  unfold layR; rw [if_neg h1, h2, if_neg (by decide), if_pos h3]
theorem lay_e3 {R : RH} {k : Nat} {kind info : Int} {fs : List Wd} {q : Hdr} {v : Value} (h1 : ¬ argsBad kind info fs) (h2 : realR R fs = true) (h3 : ¬ sizR R k < usedR R k + takesF fs) : layR R k kind info fs q v = ((begR R k + usedR R k, 0), R.putP k (R.p k ++ [newO R k kind info fs q]) v) := by
  unfold layR; rw [if_neg h1, h2, if_neg (by decide), if_neg h3]
/-! ### Taking notes away -/
def clearTo (R : RH) (p i : Nat) : RH := ⟨R.Y, R.O, fun k => if k = 0 then [] else if k < p then unkn (R.p k) else if k = p then unkn ((R.p k).take i) ++ (R.p k).drop i else R.p k, upd R.vs 0 nilV, R.use⟩
section
variable {R : RH} {p i : Nat}
theorem clearTo_1 : clearTo R 1 0 = R.putP 0 [] nilV := by
  unfold clearTo RH.putP
  congr 1
  funext k
  unfold upd
  by_cases h : k = 0
  · rw [if_pos h, if_pos h]
  · rw [if_neg h, if_neg h, if_neg (by omega)]
    split
    · simp [unkn]
    · rfl
theorem clearTo_next (hi : (R.p p).length ≤ i) : clearTo R p i = clearTo R (p + 1) 0 := by
  unfold clearTo
  congr 1
  funext k
  by_cases h : k = 0
  · rw [if_pos h, if_pos h]
  · rw [if_neg h, if_neg h]
    by_cases h1 : k < p
    · rw [if_pos h1, if_pos (by omega)]
    · rw [if_neg h1]
      by_cases h2 : k = p
      · subst h2
        rw [if_pos rfl, if_pos (by omega), List.take_of_length_le hi, List.drop_of_length_le hi, List.append_nil]
      · rw [if_neg h2, if_neg (by omega)]
        split
        · simp [unkn]
        · rfl
theorem clearTo_3 : clearTo R 3 0 = clearR R := by
  unfold clearTo clearR
  congr 1
  funext k
  by_cases h : k = 0
  · rw [if_pos h, if_pos h]
  · rw [if_neg h, if_neg h]
    by_cases h1 : k < 3
    · rw [if_pos h1, if_pos h1]
    · rw [if_neg h1, if_neg h1]
      split
      · simp [unkn]
      · rfl
theorem clearTo_len (hp : 1 ≤ p) : ((clearTo R p i).p p).length = (R.p p).length := by
  show (if p = 0 then _ else if p < p then _ else if p = p then _ else _ : List RO).length = _
  rw [if_neg (by omega), if_neg (by omega), if_pos rfl, List.length_append, unkn, List.length_map, List.length_take, List.length_drop]; omega
theorem clearTo_at (hp : 1 ≤ p) {x : RO} (hx : (R.p p)[i]? = some x) : ((clearTo R p i).p p)[i]? = some x := by
  have hl := (List.getElem?_eq_some_iff.1 hx).1
  show (if p = 0 then _ else if p < p then _ else if p = p then _ else _ : List RO)[i]? = _
  rw [if_neg (by omega), if_neg (by omega), if_pos rfl]
  have e : (unkn ((R.p p).take i)).length = i := by rw [unkn, List.length_map, List.length_take]; omega
  rw [List.getElem?_append_right (by omega), e, Nat.sub_self, List.getElem?_drop, Nat.add_zero]
  exact hx
theorem clearTo_on (hp : 1 ≤ p) {x : RO} (hx : (R.p p)[i]? = some x) : (clearTo R p i).setO (p, i) (setKn x false) = clearTo R p (i + 1) := by
  have hl := (List.getElem?_eq_some_iff.1 hx).1
  unfold RH.setO
  show RH.mk R.Y R.O _ _ _ = RH.mk R.Y R.O _ _ _
  congr 1
  funext k
  by_cases h : k = p
  · subst h
    rw [show upd (clearTo R k i).p k (((clearTo R k i).p k).set i (setKn x false)) k = _ from upd_at]
    show (if k = 0 then _ else if k < k then _ else if k = k then _ else _ : List RO).set i (setKn x false) = (if k = 0 then _ else if k < k then _ else if k = k then _ else _ : List RO)
    rw [if_neg (by omega), if_neg (by omega), if_pos rfl, if_neg (by omega), if_neg (by omega), if_pos rfl]
    have e : (unkn ((R.p k).take i)).length = i := by rw [unkn, List.length_map, List.length_take]; omega
    rw [List.set_append_right _ _ (by omega), e, Nat.sub_self, takeAt hx]
    rw [show (R.p k).drop i = x :: (R.p k).drop (i + 1) by rw [List.drop_eq_getElem_cons hl, (List.getElem?_eq_some_iff.1 hx).2]]
    simp [unkn]
  · rw [show upd (clearTo R p i).p p (((clearTo R p i).p p).set i (setKn x false)) k = (clearTo R p i).p k from upd_ne h]
    show (if k = 0 then _ else if k < p then _ else if k = p then _ else _ : List RO) = (if k = 0 then _ else if k < p then _ else if k = p then _ else _ : List RO)
    by_cases h0 : k = 0
    · rw [if_pos h0, if_pos h0]
    · rw [if_neg h0, if_neg h0, if_neg h, if_neg h]
end
end Go.Proofs.Ytglienidnffnjaa
