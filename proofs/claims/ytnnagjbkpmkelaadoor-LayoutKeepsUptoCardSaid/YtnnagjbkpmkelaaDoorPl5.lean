/- PLAIN: what is kept, where what is laid stands, what is laid again. -/
import Derived.Test.YtnnagjbkpmkelaaDoorPl4
namespace Go.Proofs.YtnnagjbkpmkelaaDoor.Lw

/-! ### Kept -/
def bump (w : List UInt8) (o : Int) : Int := let o1 := if w = [123] then o + 1 else o; if w = [125] then o1 - 1 else o1
def keepG : List Tok → List Tok → Int → Option (List Tok × Int)
  | [], us, o => some (us, o)
  | x :: r, us, o =>
    if x.num = 1 then
      (if ¬ x.kind = 8 ∨ (¬ x.text = [123] ∧ ¬ x.text = [125]) ∧ ¬ x.text = [59] then none
       else if bump x.text o < 0 then none else keepG r us (bump x.text o))
    else if x.kind = 9 then (if r ≠ [] ∨ (us ≠ [] ∧ us.head? ≠ some x) then none else keepG r us o)
    else match us with
      | [] => none
      | u :: us' => if u = x then keepG r us' o else none
theorem keepG_on (x : Tok) (r us : List Tok) (o : Int) : keepG (x :: r) us o = if x.num = 1 then
      (if ¬ x.kind = 8 ∨ (¬ x.text = [123] ∧ ¬ x.text = [125]) ∧ ¬ x.text = [59] then none
       else if bump x.text o < 0 then none else keepG r us (bump x.text o))
    else if x.kind = 9 then (if r ≠ [] ∨ (us ≠ [] ∧ us.head? ≠ some x) then none else keepG r us o)
    else match us with
      | [] => none
      | u :: us' => if u = x then keepG r us' o else none := by
  rw [keepG.eq_def]
theorem keep_seg (t : Tok) (r us : List Tok) : ∀ (ws : List (List UInt8)) (b b1 : Nat), (∀ w ∈ ws, w = [123] ∨ w = [125] ∨ w = [59]) → balR b ws = some b1 → keepG (ws.map (lay1 t) ++ r) us b = keepG r us b1
  | [], b, b1, _, h => by cases h; rfl
  | w :: ws, b, b1, hw, h => by
    have hrest : ∀ w ∈ ws, w = [123] ∨ w = [125] ∨ w = [59] := fun w hm => hw w (by simp [hm])
    have hk : ¬ (¬ (lay1 t w).kind = 8 ∨ (¬ (lay1 t w).text = [123] ∧ ¬ (lay1 t w).text = [125]) ∧ ¬ (lay1 t w).text = [59]) := by
      have hw0 := hw w (by simp)
      show ¬ (¬ (8 : Int) = 8 ∨ (¬ w = [123] ∧ ¬ w = [125]) ∧ ¬ w = [59])
      rintro (h | ⟨⟨h1, h2⟩, h3⟩)
      · exact h rfl
      · rcases hw0 with h | h | h
        · exact h1 h
        · exact h2 h
        · exact h3 h
    rw [List.map_cons, List.cons_append, keepG_on, if_pos (show (lay1 t w).num = 1 from rfl), if_neg hk]
    show (if bump w b < 0 then none else keepG (ws.map (lay1 t) ++ r) us (bump w b)) = _
    rcases hw w (by simp) with rfl | rfl | rfl
    · rw [balR_up] at h
      have e : bump [123] (b : Int) = ((b + 1 : Nat) : Int) := by simp [bump]
      rw [e, if_neg (by omega)]
      exact keep_seg t r us ws _ _ hrest h
    · cases b with
      | zero => simp [balR] at h
      | succ b =>
        rw [balR_dn] at h
        have e : bump [125] ((b + 1 : Nat) : Int) = (b : Int) := by simp [bump]
        rw [e, if_neg (by omega)]
        exact keep_seg t r us ws _ _ hrest h
    · have e : bump [59] (b : Int) = (b : Int) := by simp [bump]
      rw [e, if_neg (by omega)]
      refine keep_seg t r us ws _ _ hrest ?_
      have : balR b ([59] :: ws) = balR b ws := by simp [balR]
      rw [← this]; exact h
theorem ws_three {t : Tok} {vs : List (List UInt8)} {semi : Bool} (h : Seg t vs semi) : ∀ w ∈ wsOf vs semi, w = [123] ∨ w = [125] ∨ w = [59] := by
  intro w hw
  unfold wsOf at hw
  split at hw
  · rcases List.mem_append.1 hw with hw | hw
    · rcases h.1 w hw with h | h <;> simp [h]
    · simp [List.mem_singleton.1 hw]
  · rcases h.1 w hw with h | h <;> simp [h]
theorem ws_bal {vs : List (List UInt8)} {b b1 : Nat} {semi : Bool} (h : balR b vs = some b1) : balR b (wsOf vs semi) = some b1 := by
  unfold wsOf
  split
  · rw [balR_app, h]; simp [balR]
  · exact h
theorem keep_tr {b b1 : Nat} {l a : List Tok} (h : Tr b l a b1) (hl : ∀ x ∈ l, x.kind ≠ 9 ∧ x.num ≠ 1) (r us : List Tok) : keepG (a ++ r) (l ++ us) b = keepG r us b1 := by
  induction h with
  | nil b => rfl
  | @cons b b1 b2 t l a vs semi s hb _ ih =>
    have ht := hl t (by simp)
    rw [List.append_assoc, List.cons_append, keep_seg t _ _ _ _ _ (ws_three s) (ws_bal hb), List.cons_append, keepG_on, if_neg ht.2, if_neg ht.1]
    simp only [if_true]
    exact ih fun x hx => hl x (by simp [hx])
theorem keep_end {b b1 : Nat} {e : Tok} {a : List Tok} (h : Tr b [e] a b1) (he : e.kind = 9) (hn : e.num ≠ 1) (us : List Tok) (hu : us = [] ∨ us.head? = some e) : keepG a us b = some (us, (b1 : Int)) := by
  cases h with
  | cons s hb h2 =>
    cases h2
    rw [keep_seg e _ _ _ _ _ (ws_three s) (ws_bal hb), keepG_on, if_neg hn, if_pos he, if_neg]
    · rfl
    · rintro (h | ⟨h1, h2⟩)
      · exact h rfl
      · rcases hu with h | h
        · exact h1 h
        · exact h2 h

/-! ### Laid again -/
theorem line_plain {t : Tok} {col : Int} {f : Nat} {out : List Tok} {st : List Thg} (h : noBk st) : lineF t col (f + 1) out st = some (out, st) := by
  unfold lineF
  simp only
  rw [if_pos (.inl (blk_none h _ (Nat.le_refl _)))]
theorem clos_plain {t : Tok} {out : List Tok} {st : List Thg} (h : noBk st) : (closF t out st).1 = out ∧ noBk (closF t out st).2 := by
  obtain ⟨vs, c1, c2, _, c4, c5⟩ := clos_tr (t := t) (out := out) (st := st) (out' := (closF t out st).1) (st' := (closF t out st).2) rfl
  have hv : vs = [] := by
    rw [nb_zero h] at c4
    cases vs with
    | nil => rfl
    | cons w vs => rw [c2 w (by simp)] at c4; simp [balR] at c4
  subst hv
  refine ⟨by rw [c1]; simp, fun x hx => ?_⟩
  rcases c5 x hx with h1 | h1
  · exact h x h1
  · rw [h1]; decide
theorem tok_plain {t ahead : Tok} {first : Bool} {out : List Tok} {st : List Thg} (hc : openP (wordF ahead) → wordF t = [123]) (h : noBk st) : ∃ st', noBk st' ∧ tokF t ahead first out st = some (out ++ [t], st') := by
  have app : ∀ {st : List Thg} {y : Thg}, noBk st → y.sort ≠ [] → noBk (st ++ [y]) := fun hn hy x hx => by
    rcases List.mem_append.1 hx with hx | hx
    · exact hn x hx
    · rw [List.mem_singleton.1 hx]; exact hy
  by_cases ho : openP (wordF ahead)
  · exact ⟨_, app h (show ([123, 125] : List UInt8) ≠ [] by decide), by unfold tokF; rw [if_pos ⟨ho, hc ho⟩]⟩
  · obtain ⟨c1, c2⟩ := clos_plain (t := t) (out := out) h
    have e : tokF t ahead first out st = some ((closF t out st).1 ++ [t], if markP (wordF t) then (closF t out st).2 ++ [⟨wordF t, 0⟩] else (closF t out st).2) := by
      unfold tokF
      rw [if_neg fun h => ho h.1, if_neg ho]
      simp only
      rw [line_plain h, ite_self]
    rw [e, c1]
    refine ⟨_, ?_, rfl⟩
    split
    · rename_i hm; exact app c2 (mark_ne hm).1
    · exact c2
theorem run_plain : ∀ (l : List Tok) (ahead : Tok) (first : Bool) (out : List Tok) (st : List Thg), chainR ahead l → noBk st → ∃ st', noBk st' ∧ runF l ahead first out st = .inl (some (out ++ l, st'))
  | [], _, _, out, st, _, h => ⟨st, h, by simp [runF]⟩
  | t :: l, ahead, first, out, st, hc, h => by
    obtain ⟨st1, h1, e1⟩ := tok_plain (first := first || decide (ahead.line < t.line)) (out := out) hc.1 h
    obtain ⟨st2, h2, e2⟩ := run_plain l t false (out ++ [t]) st1 hc.2 h1
    refine ⟨st2, h2, ?_⟩
    rw [runF, e1]
    simp only [e2, List.append_assoc, List.singleton_append]
theorem lay_plain {ts l : List Tok} {e : Tok} (hs : splitF ts end0 = (l, e)) (hc : chainR tok0 l) (ho : ¬ openP (wordF (l.getLastD tok0))) : layF ts = (l ++ [e], .ok) := by
  obtain ⟨st, h1, h2⟩ := run_plain l tok0 true [] [] hc (fun x hx => (by cases hx))
  unfold layF
  have hs' : splitF ts ⟨9, [], 0, 1, 1⟩ = (l, e) := hs
  simp only [hs', h2, List.nil_append]
  rw [if_neg ho, line_plain h1]
theorem chain_none : ∀ (l : List Tok) (p : Tok), ¬ openP (wordF p) → (∀ x ∈ l, ¬ openP (wordF x)) → chainR p l
  | [], _, _, _ => trivial
  | y :: l, p, hp, h => ⟨fun ho => absurd ho hp, chain_none l y (h y (by simp)) fun x hx => h x (by simp [hx])⟩
theorem last_mem {l : List Tok} {p : Tok → Prop} (h0 : p tok0) (h : ∀ x ∈ l, p x) : p (l.getLastD tok0) := by
  cases l with
  | nil => exact h0
  | cons y l => rw [List.getLastD_eq_getLast?, List.getLast?_eq_some_getLast (by simp)]; exact h _ (List.getLast_mem _)
theorem lay_noopen {ts l : List Tok} {e : Tok} (hs : splitF ts end0 = (l, e)) (h : ∀ x ∈ l, ¬ openP (wordF x)) : layF ts = (l ++ [e], .ok) :=
  lay_plain hs (chain_none l tok0 (by decide) h) (last_mem (p := fun x => ¬ openP (wordF x)) (by decide) h)
theorem tr_mem {b b1 : Nat} {l a : List Tok} (h : Tr b l a b1) : ∀ x ∈ a, x ∈ l ∨ ∃ t ∈ l, ∃ w, x = lay1 t w := by
  induction h with
  | nil b => intro x hx; cases hx
  | @cons b b1 b2 t l a vs semi s hb _ ih =>
    intro x hx
    rcases List.mem_append.1 hx with hx | hx
    · obtain ⟨w, _, rfl⟩ := List.mem_map.1 hx
      exact .inr ⟨t, by simp, w, rfl⟩
    · rcases List.mem_cons.1 hx with rfl | hx
      · exact .inl (by simp)
      · rcases ih x hx with h | ⟨y, hy, w, h⟩
        · exact .inl (by simp [h])
        · exact .inr ⟨y, by simp [hy], w, h⟩
/-- The laws' tokens: none is marked as laid. -/
def raw (ts : List Tok) : Prop := ∀ x ∈ ts, x.num = 0
theorem split_raw {ts : List Tok} (h : raw ts) : raw (splitF ts end0).1 ∧ (splitF ts end0).2.num = 0 ∧ (splitF ts end0).2.kind = 9 ∧ (∀ x ∈ (splitF ts end0).1, x.kind ≠ 9) ∧ ∃ us, ts = (splitF ts end0).1 ++ us ∧ (us = [] ∨ us.head? = some (splitF ts end0).2) := by
  obtain ⟨k, h1, h2, h3, h4, h5⟩ := split_spec ts end0 rfl
  refine ⟨fun x hx => h x (mem_take (h1 ▸ hx)), ?_, h4, by rw [h1]; exact h3, ts.drop k, by rw [h1]; simp, ?_⟩
  · rcases h5 with h5 | ⟨_, h5 | ⟨y, _, h5⟩⟩
    · exact h _ (List.mem_of_getElem? h5)
    · rw [h5]; rfl
    · rw [h5]
  · rcases h5 with h5 | ⟨h5, _⟩
    · exact .inr (by rw [List.head?_drop]; exact h5)
    · exact .inl (by rw [h5]; simp)
theorem tr_one {b b1 : Nat} {e : Tok} {a : List Tok} (h : Tr b [e] a b1) : ∃ ws : List (List UInt8), a = ws.map (lay1 e) ++ [e] := by
  cases h with
  | cons s hb h2 => cases h2; exact ⟨_, rfl⟩
theorem keeps_main {ts a : List Tok} {d : Diag} (hr : raw ts) (h : layF ts = (a, d)) : (a = [] ∧ d.number = 20) ∨
    (d = .ok ∧ (∃ us oe, keepG a ts 0 = some (us, oe) ∧ (us = [] ∨ ∃ y, us.head? = some y ∧ y.kind = 9) ∧ ((∀ t ∈ ts, t.text ≠ [123]) → oe = 0)) ∧ (∃ x, a.getLast? = some x ∧ x.kind = 9) ∧ layF a = (a, .ok)) := by
  rcases lay_tr h with ⟨rfl, t, rfl, _⟩ | ⟨rfl, a1, a2, b1, b2, rfl, t1, t2, hch, hbr⟩
  · exact .inl ⟨rfl, rfl⟩
  · obtain ⟨r1, r2, r3, r4, us, r5, r6⟩ := split_raw hr
    obtain ⟨ws, rfl⟩ := tr_one t2
    refine .inr ⟨rfl, ⟨us, b2, ?_, ?_, fun ht => ?_⟩, ⟨_, by rw [← List.append_assoc, List.getLast?_concat], r3⟩, ?_⟩
    · have hk := (keep_tr t1 (fun x hx => ⟨r4 x hx, by rw [r1 x hx]; decide⟩) _ us).trans (keep_end t2 r3 (by rw [r2]; decide) us r6)
      rw [← r5] at hk
      exact hk
    · rcases r6 with h | h
      · exact .inl h
      · exact .inr ⟨_, h, r3⟩
    · have := hbr fun t hm => ht t (by rw [r5]; exact List.mem_append_left _ hm)
      omega
    · rw [← List.append_assoc] at hch ⊢
      have hk : ∀ x ∈ a1 ++ ws.map (lay1 (splitF ts end0).2), x.kind ≠ 9 := by
        intro x hx
        rcases List.mem_append.1 hx with hx | hx
        · rcases tr_mem t1 x hx with h | ⟨y, _, w, rfl⟩
          · exact r4 x h
          · show (8 : Int) ≠ 9; decide
        · obtain ⟨w, _, rfl⟩ := List.mem_map.1 hx
          show (8 : Int) ≠ 9; decide
      obtain ⟨c1, c2⟩ := (chain_app _ _ _).1 hch
      refine lay_plain (split_end _ _ _ hk r3) c1 fun ho => ?_
      have := c2.1 ho
      unfold wordF at this
      rw [if_neg (by rw [r3]; decide)] at this
      cases this

/-! ### Where what is laid stands -/
def isLaid (x : Tok) : Prop := x.num = 1 ∧ x.kind = 8
def Stands (a : List Tok) : Prop := ∀ i x, a[i]? = some x → isLaid x → ∃ j y, i < j ∧ (∀ m, i ≤ m → m < j → ∃ z, a[m]? = some z ∧ isLaid z) ∧ a[j]? = some y ∧ ¬ isLaid y ∧ y.line = x.line ∧ y.col = x.col ∧ (x.text = [59] → j = i + 1 ∧ ¬ closeP (wordF y))
theorem stands_tr {b b1 : Nat} {l a : List Tok} (h : Tr b l a b1) (hl : ∀ x ∈ l, x.num ≠ 1) : Stands a := by
  induction h with
  | nil b => intro i x hx; simp at hx
  | @cons b b1 b2 t l a vs semi s hb _ ih =>
    intro i x hx hxl
    have hlen : ((wsOf vs semi).map (lay1 t)).length = (wsOf vs semi).length := List.length_map ..
    by_cases hi : i < (wsOf vs semi).length
    · have hat : ∀ m, m < (wsOf vs semi).length → ∃ w, (wsOf vs semi)[m]? = some w ∧ ((wsOf vs semi).map (lay1 t) ++ t :: a)[m]? = some (lay1 t w) := by
        intro m hm
        refine ⟨(wsOf vs semi)[m], List.getElem?_eq_getElem hm, ?_⟩
        rw [List.getElem?_append_left (by omega), List.getElem?_map, List.getElem?_eq_getElem hm]; rfl
      obtain ⟨w, hw, hwx⟩ := hat i hi
      obtain rfl : lay1 t w = x := Option.some.inj (hwx.symm.trans hx)
      refine ⟨(wsOf vs semi).length, t, hi, fun m h1 h2 => ?_, ?_, fun h => hl t (by simp) h.1, rfl, rfl, fun h59 => ?_⟩
      · obtain ⟨w2, _, hw2⟩ := hat m h2
        exact ⟨_, hw2, rfl, rfl⟩
      · rw [List.getElem?_append_right (by omega), hlen, Nat.sub_self]; rfl
      · have h59 : w = [59] := h59
        subst h59
        cases semi with
        | false =>
          have := s.1 _ (List.mem_of_getElem? hw)
          rcases this with h | h <;> cases h
        | true =>
          have e : wsOf vs true = vs ++ [[59]] := rfl
          rw [e] at hw hi ⊢
          refine ⟨?_, s.2 rfl⟩
          by_cases hv : i < vs.length
          · rw [List.getElem?_append_left hv] at hw
            rcases s.1 _ (List.mem_of_getElem? hw) with h | h <;> cases h
          · simp at hi ⊢; omega
    · rw [List.getElem?_append_right (by omega), hlen] at hx
      cases hd : i - (wsOf vs semi).length with
      | zero =>
        rw [hd] at hx
        obtain rfl : t = x := by simpa using hx
        exact absurd hxl.1 (hl t (by simp))
      | succ q =>
        rw [hd] at hx
        obtain ⟨j, y, g1, g2, g3, g4, g5, g6, g7⟩ := ih (fun x hx => hl x (by simp [hx])) q x (by simpa using hx) hxl
        have shift : ∀ m, ((wsOf vs semi).map (lay1 t) ++ t :: a)[(wsOf vs semi).length + 1 + m]? = a[m]? := fun m => by
          rw [List.getElem?_append_right (by omega), hlen, show (wsOf vs semi).length + 1 + m - (wsOf vs semi).length = m + 1 by omega]; rfl
        refine ⟨(wsOf vs semi).length + 1 + j, y, by omega, fun m h1 h2 => ?_, by rw [shift]; exact g3, g4, g5, g6, fun h => ⟨by have := (g7 h).1; omega, (g7 h).2⟩⟩
        obtain ⟨z, hz, hz2⟩ := g2 (m - ((wsOf vs semi).length + 1)) (by omega) (by omega)
        exact ⟨z, by rw [show m = (wsOf vs semi).length + 1 + (m - ((wsOf vs semi).length + 1)) by omega, shift]; exact hz, hz2⟩
theorem stands_main {ts a : List Tok} (hr : raw ts) (h : layF ts = (a, .ok)) : Stands a := by
  rcases lay_tr h with ⟨_, t, hd, _⟩ | ⟨_, a1, a2, b1, b2, rfl, t1, t2, _, _⟩
  · exact absurd (congrArg Diag.number hd) (show ¬ (0 : Int) = 20 by decide)
  · obtain ⟨r1, r2, _, _, _⟩ := split_raw hr
    refine stands_tr (t1.app t2) fun x hx => ?_
    rcases List.mem_append.1 hx with hx | hx
    · rw [r1 x hx]; decide
    · rw [List.mem_singleton.1 hx, r2]; decide
end Go.Proofs.YtnnagjbkpmkelaaDoor.Lw
