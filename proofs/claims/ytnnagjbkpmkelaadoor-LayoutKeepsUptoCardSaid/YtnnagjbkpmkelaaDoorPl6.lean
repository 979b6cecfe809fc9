/- PLAIN: with all columns greater by a number the same is laid. -/
import Derived.Test.YtnnagjbkpmkelaaDoorPl5
namespace Go.Proofs.YtnnagjbkpmkelaaDoor.Lw
def shT (by_ : Int) (t : Tok) : Tok := ⟨t.kind, t.text, t.num, t.line, t.col + by_⟩
def shS (by_ : Int) (x : Thg) : Thg := if x.sort = [] then ⟨[], x.col + by_⟩ else x
theorem sh_sort (s : Int) (x : Thg) : (shS s x).sort = x.sort := by
  unfold shS; split
  · rename_i h; exact h.symm
  · rfl
theorem sh_at {s : Int} {st : List Thg} {i : Nat} (h : i < st.length) : (st.map (shS s)).getD i thg0 = shS s (st.getD i thg0) := by
  simp [List.getElem?_eq_getElem h]
theorem sh_blk {s : Int} {st : List Thg} : ∀ k, k ≤ st.length → blkF (st.map (shS s)) k = blkF st k
  | 0, _ => rfl
  | k + 1, h => by unfold blkF; rw [sh_at (by omega), sh_sort, sh_blk k (by omega)]
theorem sh_blk' (s : Int) (st : List Thg) : blkF (st.map (shS s)) (st.map (shS s)).length = blkF st st.length := by rw [List.length_map]; exact sh_blk _ (Nat.le_refl _)
theorem sh_only (s : Int) (st : List Thg) (b : Nat) : onlyF (st.map (shS s)) b = onlyF st b := by
  unfold onlyF
  rw [← List.map_drop, List.all_map]
  congr 1
  funext x
  simp only [Function.comp, looseP, sh_sort]
theorem sh_word (s : Int) (t : Tok) : wordF (shT s t) = wordF t := rfl
theorem sh_laid (s : Int) (w : List UInt8) (t : Tok) : laidT w (shT s t) = shT s (laidT w t) := rfl
theorem line_sh {s : Int} {t : Tok} {col col' : Int} : ∀ (f : Nat) (out : List Tok) (st : List Thg), (∀ x ∈ st, x.sort = [] → ((x.col + s < col' ↔ x.col < col) ∧ (col' = x.col + s ↔ col = x.col))) →
    lineF (shT s t) col' f (out.map (shT s)) (st.map (shS s)) = (lineF t col f out st).map fun p => (p.1.map (shT s), p.2.map (shS s))
  | 0, _, _, _ => rfl
  | f + 1, out, st, h => by
    unfold lineF
    simp only [sh_blk', sh_word]
    by_cases hb : blkF st st.length < 0
    · rw [if_pos (.inl hb), if_pos (.inl hb)]; rfl
    · obtain ⟨b, hbb⟩ := Int.eq_ofNat_of_zero_le (Int.not_lt.1 hb)
      obtain ⟨h1, h2, _⟩ := blk_spec st _ _ hbb
      rw [hbb]
      simp only [Int.toNat_natCast]
      have hc : ((st.map (shS s)).getD b thg0).col = (st.getD b thg0).col + s := by rw [sh_at h1]; unfold shS; rw [if_pos h2]
      obtain ⟨i1, i2⟩ := h _ (at_mem h1) h2
      rw [hc]
      simp only [i1, i2, sh_only]
      split
      · rfl
      · split
        · rfl
        · split
          · rfl
          · split
            · simp only [Option.map_some, ← List.map_take, List.map_append, sh_laid]; rfl
            · rw [sh_laid, ← List.map_take]
              have := line_sh (s := s) (t := t) (col := col) (col' := col') f (out ++ [laidT [125] t]) (st.take b) fun x hx => h x (mem_take hx)
              rw [List.map_append] at this
              exact this
theorem sh_pass (s : Int) (st : List Thg) (w : List UInt8) : ∀ k, k ≤ st.length → passF (st.map (shS s)) w k = passF st w k
  | 0, _ => rfl
  | k + 1, h => by unfold passF; rw [sh_at (by omega), sh_sort, sh_pass s st w k (by omega)]
theorem clos_sh (s : Int) (t : Tok) (out : List Tok) (st : List Thg) : closF (shT s t) (out.map (shT s)) (st.map (shS s)) = ((closF t out st).1.map (shT s), (closF t out st).2.map (shS s)) := by
  unfold closF
  simp only [sh_word, List.length_map, sh_pass s st _ _ (Nat.le_refl _)]
  split
  · rfl
  · by_cases hn : passF st (wordF t) st.length = 0
    · rw [if_pos (.inl hn), if_pos (.inl hn)]
    · obtain ⟨n, hn'⟩ : ∃ n, passF st (wordF t) st.length = n + 1 := ⟨passF st (wordF t) st.length - 1, by omega⟩
      obtain ⟨h1, h2⟩ := pass_spec st _ _ _ hn'
      simp only [hn', Nat.add_sub_cancel, sh_at h1, sh_sort]
      have hcol : (shS s (st.getD n thg0)).col = (st.getD n thg0).col := by unfold shS; rw [if_neg h2]
      have hfil : (((st.map (shS s)).drop (n + 1)).filter fun x => decide (x.sort = [])).map (fun _ => laidT [125] (shT s t)) = ((((st.drop (n + 1)).filter fun x => decide (x.sort = [])).map fun _ => laidT [125] t).map (shT s)) := by
        rw [← List.map_drop, List.filter_map, List.map_map, List.map_map]
        simp only [Function.comp_def, sh_sort, sh_laid]
      have hset : ((st.map (shS s)).take (n + 1)).set n ⟨wThen, (st.getD n thg0).col⟩ = (((st.take (n + 1)).set n ⟨wThen, (st.getD n thg0).col⟩).map (shS s)) := by
        rw [List.map_set, List.map_take]; rfl
      split
      · rfl
      · split
        · simp only [hfil, hcol, hset, List.map_append]
        · split
          · simp only [hfil, List.map_take, List.map_append]
          · simp only [hfil, List.map_take, List.map_append]
theorem open_sh {s : Int} {t : Tok} {out : List Tok} {st : List Thg} (hs : 0 ≤ s) (ht : 1 ≤ t.col) : openF (shT s t) (out.map (shT s)) (st.map (shS s)) = ((openF t out st).1.map (shT s), (openF t out st).2.1.map (shS s), (openF t out st).2.2) := by
  unfold openF
  simp only [sh_blk']
  have key : ((if 0 ≤ blkF st st.length then ((st.map (shS s)).getD (blkF st st.length).toNat thg0).col else 0) < (shT s t).col) ↔ ((if 0 ≤ blkF st st.length then (st.getD (blkF st st.length).toNat thg0).col else 0) < t.col) := by
    show _ < t.col + s ↔ _
    split
    · rename_i hb
      obtain ⟨b, hbb⟩ := Int.eq_ofNat_of_zero_le hb
      obtain ⟨h1, h2, _⟩ := blk_spec st _ _ hbb
      rw [hbb, Int.toNat_natCast, sh_at h1]
      unfold shS
      rw [if_pos h2]
      simp only
      omega
    · omega
  simp only [key]
  generalize (if 0 ≤ blkF st st.length then (st.getD (blkF st st.length).toNat thg0).col else 0) = m
  by_cases hm : m < t.col
  · rw [if_pos hm, if_pos hm]
    simp only [List.map_append, sh_laid]; rfl
  · rw [if_neg hm, if_neg hm]
    simp only [List.map_append, sh_laid]; rfl
theorem tok_sh {s : Int} {t ahead : Tok} {first : Bool} {out : List Tok} {st : List Thg} (hs : 0 ≤ s) (ht : 1 ≤ t.col) : tokF (shT s t) (shT s ahead) first (out.map (shT s)) (st.map (shS s)) = (tokF t ahead first out st).map fun p => (p.1.map (shT s), p.2.map (shS s)) := by
  unfold tokF
  by_cases hno : openP (wordF ahead) ∧ wordF t = [123]
  · rw [if_pos (show openP (wordF (shT s ahead)) ∧ wordF (shT s t) = [123] from hno), if_pos hno]
    simp only [Option.map_some, List.map_append]; rfl
  · rw [if_neg (show ¬ (openP (wordF (shT s ahead)) ∧ wordF (shT s t) = [123]) from hno), if_neg hno]
    have e0 : (if openP (wordF (shT s ahead)) then openF (shT s t) (out.map (shT s)) (st.map (shS s)) else (out.map (shT s), st.map (shS s), false)) =
        ((if openP (wordF ahead) then openF t out st else (out, st, false)).1.map (shT s), (if openP (wordF ahead) then openF t out st else (out, st, false)).2.1.map (shS s), (if openP (wordF ahead) then openF t out st else (out, st, false)).2.2) := by
      by_cases ho : openP (wordF ahead)
      · rw [if_pos (show openP (wordF (shT s ahead)) from ho), if_pos ho]
        exact open_sh hs ht
      · rw [if_neg (show ¬ openP (wordF (shT s ahead)) from ho), if_neg ho]
    simp only
    rw [e0]
    generalize (if openP (wordF ahead) then openF t out st else (out, st, false)) = o
    obtain ⟨out1, st1, bg⟩ := o
    simp only [List.length_map]
    have e1 : (if first = true ∧ bg = false then lineF (shT s t) (shT s t).col (st1.length + 1) (out1.map (shT s)) (st1.map (shS s)) else some (out1.map (shT s), st1.map (shS s))) =
        (if first = true ∧ bg = false then lineF t t.col (st1.length + 1) out1 st1 else some (out1, st1)).map fun p => (p.1.map (shT s), p.2.map (shS s)) := by
      split
      · exact line_sh _ _ _ fun x _ _ => by
          show (_ < t.col + s ↔ _) ∧ (t.col + s = _ ↔ _)
          constructor <;> omega
      · rfl
    rw [e1]
    cases (if first = true ∧ bg = false then lineF t t.col (st1.length + 1) out1 st1 else some (out1, st1)) with
    | none => rfl
    | some p =>
      obtain ⟨out2, st2⟩ := p
      simp only [Option.map_some, clos_sh, List.map_append]
      by_cases hm : markP (wordF t)
      · rw [if_pos (show markP (wordF (shT s t)) from hm), if_pos hm, List.map_append]
        have : [(⟨wordF t, 0⟩ : Thg)].map (shS s) = [⟨wordF t, 0⟩] := by simp [shS, (mark_ne hm).1]
        rw [this]; rfl
      · rw [if_neg (show ¬ markP (wordF (shT s t)) from hm), if_neg hm]; rfl
theorem run_sh {s : Int} (hs : 0 ≤ s) : ∀ (l : List Tok) (ahead : Tok) (first : Bool) (out : List Tok) (st : List Thg), (∀ t ∈ l, 1 ≤ t.col) →
    (∀ out' st', runF l ahead first out st = .inl (some (out', st')) → runF (l.map (shT s)) (shT s ahead) first (out.map (shT s)) (st.map (shS s)) = .inl (some (out'.map (shT s), st'.map (shS s)))) ∧
    (∀ t, runF l ahead first out st = .inr t → runF (l.map (shT s)) (shT s ahead) first (out.map (shT s)) (st.map (shS s)) = .inr (shT s t))
  | [], ahead, first, out, st, _ => by
    refine ⟨fun out' st' h => ?_, fun t h => ?_⟩
    · simp only [runF, Sum.inl.injEq, Option.some.injEq, Prod.mk.injEq] at h
      obtain ⟨rfl, rfl⟩ := h
      rfl
    · simp [runF] at h
  | x :: l, ahead, first, out, st, hl => by
    have e := tok_sh (ahead := ahead) (first := first || decide (ahead.line < x.line)) (out := out) (st := st) hs (hl x (by simp))
    have e' : ((first || decide ((shT s ahead).line < (shT s x).line)) = (first || decide (ahead.line < x.line))) := rfl
    rw [List.map_cons]
    unfold runF
    rw [e', e]
    cases tokF x ahead (first || decide (ahead.line < x.line)) out st with
    | none => exact ⟨fun _ _ h => by simp at h, fun t h => by simp at h; subst h; rfl⟩
    | some p => exact run_sh hs l x false p.1 p.2 fun t ht => hl t (by simp [ht])
/-- the same where the token ahead of the first stands anywhere -/
theorem run_ahead {p q : Tok} (h : wordF p = wordF q) : ∀ (l : List Tok) (out : List Tok) (st : List Thg), runF l p true out st = runF l q true out st
  | [], _, _ => rfl
  | x :: l, out, st => by
    unfold runF
    simp only [Bool.true_or]
    have : tokF x p true out st = tokF x q true out st := by unfold tokF; rw [h]
    rw [this]
theorem split_sh (s : Int) : ∀ (ts : List Tok) (e : Tok), splitF (ts.map (shT s)) (shT s e) = ((splitF ts e).1.map (shT s), shT s (splitF ts e).2)
  | [], _ => rfl
  | t :: ts, e => by
    rw [List.map_cons, splitF, splitF]
    show (if t.kind = 9 then _ else _) = _
    split
    · rfl
    · have := split_sh s ts ⟨9, [], 0, t.line, t.col⟩
      show (shT s t :: (splitF (ts.map (shT s)) (shT s ⟨9, [], 0, t.line, t.col⟩)).1, (splitF (ts.map (shT s)) (shT s ⟨9, [], 0, t.line, t.col⟩)).2) = _
      rw [this]; rfl
theorem split_any {t : Tok} {ts : List Tok} (e d : Tok) : splitF (t :: ts) e = splitF (t :: ts) d := by rw [splitF, splitF]
def shD (s : Int) (d : Diag) : Diag := if d = .ok then .ok else ⟨d.file, d.line, d.col + s, d.number⟩
theorem shD_bad (s : Int) (t : Tok) : shD s (badD t) = badD (shT s t) := by
  unfold shD
  rw [if_neg (fun h => absurd (congrArg Diag.number h) (show ¬ (20 : Int) = 0 by decide))]
  rfl
theorem last_sh (s : Int) : ∀ (l : List Tok) (d : Tok), (l.map (shT s)).getLastD (shT s d) = shT s (l.getLastD d)
  | [], _ => rfl
  | x :: l, d => by rw [List.map_cons, List.getLastD_cons, List.getLastD_cons, last_sh s l x]
theorem lay_sh {s : Int} {t : Tok} {ts : List Tok} (hs : 0 ≤ s) (hc : ∀ x ∈ t :: ts, 1 ≤ x.col) : layF ((t :: ts).map (shT s)) = ((layF (t :: ts)).1.map (shT s), shD s (layF (t :: ts)).2) := by
  have e1 : splitF ((t :: ts).map (shT s)) ⟨9, [], 0, 1, 1⟩ = ((splitF (t :: ts) ⟨9, [], 0, 1, 1⟩).1.map (shT s), shT s (splitF (t :: ts) ⟨9, [], 0, 1, 1⟩).2) := by
    rw [← split_sh]; exact split_any _ _
  have hl : ∀ x ∈ (splitF (t :: ts) ⟨9, [], 0, 1, 1⟩).1, 1 ≤ x.col := by
    obtain ⟨k, h1, _⟩ := split_spec (t :: ts) ⟨9, [], 0, 1, 1⟩ rfl
    rw [h1]; exact fun x hx => hc x (mem_take hx)
  unfold layF
  simp only [e1]
  generalize splitF (t :: ts) ⟨9, [], 0, 1, 1⟩ = sp at hl
  obtain ⟨l, e⟩ := sp
  simp only at hl ⊢
  obtain ⟨r1, r2⟩ := run_sh hs l tok0 true [] [] hl
  have ha : runF (l.map (shT s)) tok0 true [] [] = runF (l.map (shT s)) (shT s tok0) true [] [] := run_ahead (p := tok0) (q := shT s tok0) rfl _ _ _
  rw [ha]
  have e0 : ∀ {l : List Tok}, wordF ((l.map (shT s)).getLastD tok0) = wordF (l.getLastD tok0) := fun {l} => by
    cases l with
    | nil => rfl
    | cons x l => rw [List.map_cons, List.getLastD_cons, List.getLastD_cons, last_sh]; rfl
  cases hr : runF l tok0 true [] [] with
  | inr t =>
    have := r2 t hr
    simp only [List.map_nil] at this
    rw [this]
    simp only [List.map_nil, shD_bad]
  | inl o =>
    cases o with
    | none => exact absurd hr (run_some _ _ _ _ _)
    | some p =>
      obtain ⟨out, st⟩ := p
      have := r1 out st hr
      simp only [List.map_nil] at this
      rw [this]
      simp only [e0, List.length_map]
      have hcc : okC st := by
        obtain ⟨_, _, _, _, h, _⟩ := run_tr _ _ _ _ _ _ _ hr (fun x hx => (by cases hx))
        exact h
      have e2 : (if openP (wordF (l.getLastD tok0)) then out.map (shT s) ++ [laidT [123] (shT s e)] ++ [laidT [125] (shT s e)] else out.map (shT s)) = (if openP (wordF (l.getLastD tok0)) then out ++ [laidT [123] e] ++ [laidT [125] e] else out).map (shT s) := by
        split
        · simp only [List.map_append, sh_laid]; rfl
        · rfl
      rw [e2, line_sh (col := 0) _ _ _ fun x hx he => by have := hcc x hx he; constructor <;> omega]
      cases lineF e 0 (st.length + 1) (if openP (wordF (l.getLastD tok0)) then out ++ [laidT [123] e] ++ [laidT [125] e] else out) st with
      | none => simp only [Option.map_none, List.map_nil, shD_bad]
      | some q => simp only [Option.map_some, List.map_append]; rfl
/-- All columns of what is laid are columns of what was handed in, or 1. -/
theorem lay_cols {p : Int → Prop} {ts a : List Tok} {d : Diag} (h1 : p 1) (hp : ∀ x ∈ ts, p x.col) (h : layF ts = (a, d)) : (∀ x ∈ a, p x.col) ∧ (d.number = 0 ∨ p d.col) := by
  obtain ⟨k, s1, _, _, _, s5⟩ := split_spec ts end0 rfl
  have hl : ∀ x ∈ (splitF ts end0).1, p x.col := by rw [s1]; exact fun x hx => hp x (mem_take hx)
  have he : p (splitF ts end0).2.col := by
    rcases s5 with h | ⟨_, h | ⟨y, hy, h⟩⟩
    · exact hp _ (List.mem_of_getElem? h)
    · rw [h]; exact h1
    · rw [h]; exact hp y hy
  rcases lay_tr h with ⟨rfl, t, rfl, ht⟩ | ⟨rfl, a1, a2, b1, b2, rfl, t1, t2, _, _⟩
  · refine ⟨fun x hx => (by cases hx), .inr ?_⟩
    rcases ht with ht | rfl
    · exact hl t ht
    · exact he
  · refine ⟨fun x hx => ?_, .inl rfl⟩
    have hall : ∀ t ∈ (splitF ts end0).1 ++ [(splitF ts end0).2], p t.col := fun t ht => by
      rcases List.mem_append.1 ht with ht | ht
      · exact hl t ht
      · rw [List.mem_singleton.1 ht]; exact he
    rcases tr_mem (t1.app t2) x hx with h | ⟨t, ht, w, rfl⟩
    · exact hall x h
    · exact hall t ht

theorem shifts_main {s : Int} {ts a b : List Tok} {d e : Diag} (hs : 0 ≤ s) (hc : ∀ x ∈ ts, 1 ≤ x.col ∧ x.col ≤ 1099511627776) (ha : layF ts = (a, d)) (hb : layF (ts.map (shT s)) = (b, e)) :
    b = (if ts = [] then a else a.map (shT s)) ∧ d.number = e.number ∧ d.line = e.line ∧ (¬ d.number = 0 → d.col + s = e.col) ∧ (∀ x ∈ a, 1 ≤ x.col ∧ x.col ≤ 1099511627776) ∧ (d.number = 0 ∨ 1 ≤ d.col ∧ d.col ≤ 1099511627776) := by
  obtain ⟨c1, c2⟩ := lay_cols (p := fun c => 1 ≤ c ∧ c ≤ 1099511627776) ⟨by omega, by omega⟩ hc ha
  have hd0 : ∀ {ts a : List Tok} {d : Diag}, layF ts = (a, d) → d = .ok ∨ ∃ t, d = badD t := fun h => by
    rcases lay_tr h with ⟨_, t, h, _⟩ | ⟨h, _⟩
    · exact .inr ⟨t, h⟩
    · exact .inl h
  cases ts with
  | nil =>
    rw [List.map_nil] at hb
    obtain ⟨rfl, rfl⟩ := Prod.mk.inj (ha.symm.trans hb)
    have : d = .ok := congrArg Prod.snd (ha.symm.trans (by rfl : layF [] = ([end0], .ok)))
    subst this
    exact ⟨by simp, rfl, rfl, fun h => absurd rfl h, c1, c2⟩
  | cons t ts =>
    have := lay_sh (s := s) hs (fun x hx => (hc x hx).1)
    rw [hb, ha] at this
    obtain ⟨rfl, rfl⟩ := Prod.mk.inj this
    refine ⟨by simp, ?_, ?_, ?_, c1, c2⟩ <;> unfold shD <;> split
    · rename_i h; exact congrArg Diag.number h
    · rfl
    · rename_i h; exact congrArg Diag.line h
    · rfl
    · rename_i h; intro hn; subst h; exact absurd rfl hn
    · intro _; rfl
theorem lay_num {ts a : List Tok} {d : Diag} (h : layF ts = (a, d)) (h0 : d.number = 0) : d = .ok := by
  rcases lay_tr h with ⟨_, t, rfl, _⟩ | ⟨h, _⟩
  · exact absurd h0 (show ¬ (20 : Int) = 0 by decide)
  · exact h

/-! ### How much is laid -/
theorem line_len (t : Tok) (col : Int) : ∀ (f : Nat) (out : List Tok) (st : List Thg) (p : List Tok × List Thg), lineF t col f out st = some p → p.1.length + p.2.length ≤ out.length + st.length + 1
  | 0, _, _, _, h => by simp [lineF] at h
  | f + 1, out, st, p, h => by
    unfold lineF at h
    simp only at h
    by_cases hb : blkF st st.length < 0
    · rw [if_pos (.inl hb)] at h
      cases h; simp only; omega
    · obtain ⟨b, hbb⟩ := Int.eq_ofNat_of_zero_le (Int.not_lt.1 hb)
      obtain ⟨h1, _, _⟩ := blk_spec st _ _ hbb
      rw [hbb] at h
      simp only [Int.toNat_natCast] at h
      split at h
      · cases h; simp only; omega
      · split at h
        · cases h; simp only; omega
        · split at h
          · cases h
          · split at h
            · cases h; simp only [List.length_append, List.length_take, List.length_cons, List.length_nil]; omega
            · have := line_len t col f _ _ _ h
              simp only [List.length_append, List.length_take, List.length_cons, List.length_nil] at this
              omega
theorem clos_len1 (t : Tok) (out : List Tok) (st : List Thg) : (closF t out st).1.length + (closF t out st).2.length ≤ out.length + st.length := by
  unfold closF
  simp only
  split
  · simp only; omega
  · split
    · simp only; omega
    · have h1 := List.length_filter_le (fun x : Thg => decide (x.sort = [])) (st.drop (passF st (wordF t) st.length))
      rw [List.length_drop] at h1
      split
      · simp only [List.length_append, List.length_map, List.length_set, List.length_take]; omega
      · split <;> simp only [List.length_append, List.length_map, List.length_take] <;> omega
theorem tok_len {t ahead : Tok} {first : Bool} {out : List Tok} {st : List Thg} {p : List Tok × List Thg} (h : tokF t ahead first out st = some p) : p.1.length + p.2.length ≤ out.length + st.length + 6 := by
  unfold tokF at h
  split at h
  · cases h; simp; omega
  · have ho : (if openP (wordF ahead) then openF t out st else (out, st, false)).1.length + (if openP (wordF ahead) then openF t out st else (out, st, false)).2.1.length ≤ out.length + st.length + 2 := by
      split
      · unfold openF
        simp only
        generalize (if 0 ≤ blkF st st.length then (st.getD (blkF st st.length).toNat thg0).col else 0) = m
        by_cases hm : m < t.col
        · rw [if_pos hm]; simp; omega
        · rw [if_neg hm]; simp; omega
      · simp only; omega
    generalize (if openP (wordF ahead) then openF t out st else (out, st, false)) = o at h ho
    obtain ⟨out1, st1, bg⟩ := o
    simp only at h ho
    cases hl : (if first = true ∧ bg = false then lineF t t.col (st1.length + 1) out1 st1 else some (out1, st1)) with
    | none => rw [hl] at h; cases h
    | some q =>
      rw [hl] at h
      have hq : q.1.length + q.2.length ≤ out1.length + st1.length + 1 := by
        split at hl
        · exact line_len _ _ _ _ _ _ hl
        · cases hl; simp only; omega
      simp only [Option.some.injEq] at h
      subst h
      have := clos_len1 t q.1 q.2
      split <;> simp only [List.length_append, List.length_cons, List.length_nil] <;> omega
theorem run_len : ∀ (l : List Tok) (ahead : Tok) (first : Bool) (out : List Tok) (st : List Thg) (p : List Tok × List Thg), runF l ahead first out st = .inl (some p) → p.1.length + p.2.length ≤ out.length + st.length + 6 * l.length
  | [], _, _, out, st, p, h => by
    simp only [runF, Sum.inl.injEq, Option.some.injEq] at h
    subst h; simp
  | x :: l, ahead, first, out, st, p, h => by
    unfold runF at h
    split at h
    · cases h
    · rename_i out1 st1 h1
      have a := tok_len h1
      have b := run_len l x false out1 st1 p h
      simp only [List.length_cons] at *
      omega
theorem lay_len {ts a : List Tok} {d : Diag} (h : layF ts = (a, d)) : a.length ≤ 6 * ts.length + 8 := by
  obtain ⟨k, s1, s2, _⟩ := split_spec ts end0 rfl
  have hs : (splitF ts ⟨9, [], 0, 1, 1⟩).1.length ≤ ts.length := by
    show (splitF ts end0).1.length ≤ _
    rw [s1, List.length_take]; omega
  unfold layF at h
  simp only at h
  generalize splitF ts ⟨9, [], 0, 1, 1⟩ = s at h hs
  split at h
  · cases h; simp
  · cases h; simp
  · rename_i out st hr
    have := run_len _ _ _ _ _ _ hr
    simp only [List.length_nil] at this
    split at h
    · cases h; simp
    · rename_i out2 st2 hl
      have hl2 := line_len _ _ _ _ _ _ hl
      cases h
      have h3 : (if openP (wordF (s.1.getLastD tok0)) then out ++ [laidT [123] s.2] ++ [laidT [125] s.2] else out).length ≤ out.length + 2 := by split <;> simp
      simp only [List.length_append, List.length_cons, List.length_nil] at hl2 ⊢
      omega

/-! ### Steps of what is kept -/
section
variable {x : Tok} {r us : List Tok} {o : Int} {R : List Tok × Int}
theorem keep_laid (h : keepG (x :: r) us o = some R) (h1 : x.num = 1) : ¬ (¬ x.kind = 8 ∨ (¬ x.text = [123] ∧ ¬ x.text = [125]) ∧ ¬ x.text = [59]) ∧ ¬ bump x.text o < 0 ∧ keepG r us (bump x.text o) = some R := by
  rw [keepG_on, if_pos h1] at h
  split at h
  · cases h
  · rename_i h2
    split at h
    · cases h
    · rename_i h3; exact ⟨h2, h3, h⟩
theorem keep_nine (h : keepG (x :: r) us o = some R) (h1 : ¬ x.num = 1) (h9 : x.kind = 9) : r = [] ∧ (us = [] ∨ us.head? = some x) ∧ keepG r us o = some R := by
  rw [keepG_on, if_neg h1, if_pos h9] at h
  split at h
  · cases h
  · rename_i h2
    obtain ⟨h3, h4⟩ := not_or.1 h2
    refine ⟨Classical.not_not.1 h3, ?_, h⟩
    by_cases hu : us = []
    · exact .inl hu
    · exact .inr (Classical.not_not.1 fun h5 => h4 ⟨hu, h5⟩)
theorem keep_other (h : keepG (x :: r) us o = some R) (h1 : ¬ x.num = 1) (h9 : ¬ x.kind = 9) : ∃ us2, us = x :: us2 ∧ keepG r us2 o = some R := by
  rw [keepG_on, if_neg h1, if_neg h9] at h
  cases us with
  | nil => cases h
  | cons u us2 =>
    simp only at h
    split at h
    · rename_i e; subst e; exact ⟨us2, rfl, h⟩
    · cases h
end
theorem bump_le (w : List UInt8) (o : Int) : bump w o ≤ o + 1 ∧ o - 1 ≤ bump w o := by
  unfold bump
  simp only
  split <;> split <;> constructor <;> omega
theorem drop_at {α : Type} {l : List α} {i : Nat} {x : α} (h : l[i]? = some x) : l.drop i = x :: l.drop (i + 1) := by
  obtain ⟨h1, h2⟩ := List.getElem?_eq_some_iff.1 h
  rw [List.drop_eq_getElem_cons h1, h2]
end Go.Proofs.YtnnagjbkpmkelaaDoor.Lw
