/- PLAIN: the laws of layer 2 over what both layouts compute. -/
import Derived.Test.YtnnagjbkpmkelaaDoorPl3
namespace Go.Proofs.YtnnagjbkpmkelaaDoor.Lw

/-! ### Blocks on the stack -/
def nb (st : List Thg) : Nat := (st.filter fun x => decide (x.sort = [])).length
theorem nb_app (a b : List Thg) : nb (a ++ b) = nb a + nb b := by simp [nb]
theorem nb_yes {x : Thg} (h : x.sort = []) : nb [x] = 1 := by simp [nb, h]
theorem nb_no {x : Thg} (h : x.sort ≠ []) : nb [x] = 0 := by simp [nb, h]
theorem nb_zero {st : List Thg} (h : ∀ x ∈ st, x.sort ≠ []) : nb st = 0 := by
  simp only [nb, List.length_eq_zero_iff, List.filter_eq_nil_iff, decide_eq_true_eq]
  exact h
def okC (st : List Thg) : Prop := ∀ x ∈ st, x.sort = [] → 1 ≤ x.col
def noBr (st : List Thg) : Prop := ∀ x ∈ st, x.sort ≠ [123, 125]
def noBk (st : List Thg) : Prop := ∀ x ∈ st, x.sort ≠ []
theorem at_mem {st : List Thg} {b : Nat} (hb : b < st.length) : st.getD b thg0 ∈ st := by
  rw [List.getD_eq_getElem?_getD, List.getElem?_eq_getElem hb]; simp
theorem mem_take {α : Type} {st : List α} {k : Nat} {x : α} (h : x ∈ st.take k) : x ∈ st := List.mem_of_mem_take h
theorem blk_spec (st : List Thg) : ∀ (k b : Nat), blkF st k = (b : Int) → b < k ∧ (st.getD b thg0).sort = [] ∧ ∀ j, b < j → j < k → (st.getD j thg0).sort ≠ []
  | 0, b, h => by simp [blkF] at h
  | k + 1, b, h => by
    unfold blkF at h
    split at h
    · rename_i hs
      obtain rfl : k = b := Int.ofNat.inj h
      exact ⟨by omega, hs, fun j h1 h2 => by omega⟩
    · rename_i hs
      split at h
      · omega
      · obtain ⟨h1, h2, h3⟩ := blk_spec st k b h
        refine ⟨by omega, h2, fun j hj hk => ?_⟩
        by_cases e : j = k
        · subst e; exact hs
        · exact h3 j hj (by omega)
theorem blk_neg {st : List Thg} (hn : noBr st) : ∀ k, k ≤ st.length → blkF st k < 0 → ∀ j, j < k → (st.getD j thg0).sort ≠ []
  | 0, _, _, j, hj => by omega
  | k + 1, hk, h, j, hj => by
    unfold blkF at h
    split at h
    · omega
    · rename_i hs
      split at h
      · rename_i he; exact absurd he (hn _ (at_mem (by omega)))
      · by_cases e : j = k
        · subst e; exact hs
        · exact blk_neg hn k (by omega) h j (by omega)
theorem blk_none {st : List Thg} (h : noBk st) : ∀ k, k ≤ st.length → blkF st k < 0
  | 0, _ => by simp [blkF]
  | k + 1, hk => by
    unfold blkF
    rw [if_neg (h _ (at_mem (by omega)))]
    split
    · omega
    · exact blk_none h k (by omega)
theorem all_of_at {st : List Thg} {p : Thg → Prop} (h : ∀ j, j < st.length → p (st.getD j thg0)) : ∀ x ∈ st, p x := fun x hx => by
  obtain ⟨i, hi, rfl⟩ := List.mem_iff_getElem.1 hx
  have := h i hi
  rwa [List.getD_eq_getElem?_getD, List.getElem?_eq_getElem hi] at this
theorem take_on {st : List Thg} {b : Nat} (hb : b < st.length) : st.take (b + 1) = st.take b ++ [st.getD b thg0] := by
  rw [List.take_add_one, List.getElem?_eq_getElem hb, List.getD_eq_getElem?_getD, List.getElem?_eq_getElem hb]; rfl
theorem nb_cut {st : List Thg} {b : Nat} (hb : b < st.length) (h0 : (st.getD b thg0).sort = []) (h : ∀ j, b < j → j < st.length → (st.getD j thg0).sort ≠ []) : nb st = nb (st.take b) + 1 ∧ nb (st.take (b + 1)) = nb st := by
  have e : nb st = nb (st.take (b + 1)) + nb (st.drop (b + 1)) := by rw [← nb_app, List.take_append_drop]
  have z : nb (st.drop (b + 1)) = 0 := by
    refine nb_zero (all_of_at fun j hj => ?_)
    rw [List.length_drop] at hj
    have := h (b + 1 + j) (by omega) (by omega)
    rwa [List.getD_eq_getElem?_getD, List.getElem?_drop, ← List.getD_eq_getElem?_getD]
  have o : nb (st.take (b + 1)) = nb (st.take b) + 1 := by rw [take_on hb, nb_app, nb_yes h0]
  omega

/-! ### What is laid at a token -/
def balR : Nat → List (List UInt8) → Option Nat
  | b, [] => some b
  | b, w :: r => if w = [123] then balR (b + 1) r else if w = [125] then (match b with | 0 => none | b + 1 => balR b r) else balR b r
theorem balR_app : ∀ (l r : List (List UInt8)) (b : Nat), balR b (l ++ r) = (balR b l).bind fun c => balR c r
  | [], r, b => rfl
  | w :: l, r, b => by
    simp only [List.cons_append, balR]
    split
    · exact balR_app l r _
    · split
      · cases b with
        | zero => rfl
        | succ b => exact balR_app l r _
      · exact balR_app l r _
theorem balR_dn (b : Nat) (r : List (List UInt8)) : balR (b + 1) ([125] :: r) = balR b r := by simp [balR]
theorem balR_up (b : Nat) (r : List (List UInt8)) : balR b ([123] :: r) = balR (b + 1) r := by simp [balR]
theorem balR_rep (n : Nat) : ∀ k, balR (n + k) (List.replicate k [125]) = some n
  | 0 => rfl
  | k + 1 => by
    rw [List.replicate_succ]
    exact (balR_dn (n + k) _).trans (balR_rep n k)
def wsOf (vs : List (List UInt8)) (semi : Bool) : List (List UInt8) := if semi = true then vs ++ [[59]] else vs
def lay1 (t : Tok) (w : List UInt8) : Tok := laidT w t
def Seg (t : Tok) (vs : List (List UInt8)) (semi : Bool) : Prop := (∀ w ∈ vs, w = [123] ∨ w = [125]) ∧ (semi = true → ¬ closeP (wordF t))

theorem line_tr (t : Tok) (col : Int) : ∀ (f : Nat) (out : List Tok) (st : List Thg) (out' : List Tok) (st' : List Thg), lineF t col f out st = some (out', st') → okC st →
    ∃ vs semi, out' = out ++ (wsOf vs semi).map (lay1 t) ∧ (∀ w ∈ vs, w = [125]) ∧ (semi = true → ¬ closeP (wordF t) ∧ 1 ≤ col) ∧ balR (nb st) vs = some (nb st') ∧ (∃ k, st' = st.take k) ∧ (col ≤ 0 → noBr st → nb st' = 0) := by
  intro f
  induction f with
  | zero => intro out st out' st' h _; simp [lineF] at h
  | succ f ih =>
    intro out st out' st' h hc
    unfold lineF at h
    simp only at h
    by_cases hb : blkF st st.length < 0
    · rw [if_pos (.inl hb)] at h
      cases h
      refine ⟨[], false, by simp [wsOf], fun w hw => (by cases hw), (fun h => by cases h), rfl, ⟨st.length, by simp⟩, fun _ hn => nb_zero (all_of_at (blk_neg hn _ (Nat.le_refl _) hb))⟩
    · obtain ⟨b, hbb⟩ := Int.eq_ofNat_of_zero_le (Int.not_lt.1 hb)
      obtain ⟨h1, h2, h3⟩ := blk_spec st _ _ hbb
      rw [hbb] at h
      simp only [Int.toNat_natCast] at h
      have hcol : 1 ≤ (st.getD b thg0).col := hc _ (at_mem h1) h2
      obtain ⟨n1, n2⟩ := nb_cut h1 h2 h3
      split at h
      · rename_i hx
        cases h
        refine ⟨[], false, by simp [wsOf], fun w hw => (by cases hw), (fun h => by cases h), rfl, ⟨st.length, by simp⟩, fun h0 _ => ?_⟩
        rcases hx with hx | hx <;> omega
      · split at h
        · rename_i hx
          cases h
          refine ⟨[], false, by simp [wsOf], fun w hw => (by cases hw), (fun h => by cases h), rfl, ⟨st.length, by simp⟩, fun h0 _ => by have := hx.1; omega⟩
        · rename_i hx
          split at h
          · cases h
          · split at h
            · rename_i he
              cases h
              refine ⟨[], true, by simp [wsOf, lay1], fun w hw => (by cases hw), fun _ => ⟨fun hcl => hx ⟨he, hcl⟩, by omega⟩, by rw [n2]; rfl, ⟨b + 1, rfl⟩, fun h0 _ => by omega⟩
            · obtain ⟨vs, semi, g1, g2, g3, g4, ⟨k, g5⟩, g6⟩ := ih _ _ _ _ h (fun x hx => hc x (mem_take hx))
              refine ⟨[125] :: vs, semi, ?_, ?_, g3, ?_, ⟨min k b, by rw [g5, List.take_take]⟩, fun h0 hn => g6 h0 fun x hx => hn x (mem_take hx)⟩
              · rw [g1]; cases semi <;> simp [wsOf, lay1]
              · intro w hw
                rcases List.mem_cons.1 hw with rfl | hw
                · rfl
                · exact g2 w hw
              · rw [n1, balR_dn]; exact g4
theorem pass_spec (st : List Thg) (w : List UInt8) : ∀ k n, passF st w k = n + 1 → n < k ∧ (st.getD n thg0).sort ≠ []
  | 0, n, h => by simp [passF] at h
  | k + 1, n, h => by
    unfold passF at h
    split at h
    · obtain ⟨h1, h2⟩ := pass_spec st w k n h
      exact ⟨by omega, h2⟩
    · rename_i hx
      obtain rfl : k = n := by omega
      exact ⟨by omega, fun e => hx (.inl e)⟩
theorem nb_set {st : List Thg} {n : Nat} {y : Thg} (hn : n < st.length) (h : (st.getD n thg0).sort ≠ []) (hy : y.sort ≠ []) : nb ((st.take (n + 1)).set n y) = nb (st.take (n + 1)) ∧ nb (st.take n) = nb (st.take (n + 1)) := by
  have e : (st.take (n + 1)).set n y = st.take n ++ [y] := by
    rw [take_on hn, List.set_append_right _ _ (by rw [List.length_take]; omega)]
    have : n - (st.take n).length = 0 := by rw [List.length_take]; omega
    rw [this]; rfl
  rw [e, take_on hn, nb_app, nb_app, nb_no h, nb_no hy]
  exact ⟨rfl, rfl⟩
theorem map_rep (t : Tok) (l : List Thg) : ((l.filter fun x => decide (x.sort = [])).map fun _ => laidT [125] t) = (List.replicate (nb l) [125]).map (lay1 t) := by
  rw [List.map_replicate]
  exact List.map_const' ..
theorem clos_tr {t : Tok} {out : List Tok} {st : List Thg} {out' : List Tok} {st' : List Thg} (h : closF t out st = (out', st')) :
    ∃ vs, out' = out ++ vs.map (lay1 t) ∧ (∀ w ∈ vs, w = [125]) ∧ (¬ closeP (wordF t) → vs = []) ∧ balR (nb st) vs = some (nb st') ∧ (∀ x ∈ st', x ∈ st ∨ x.sort = wThen) := by
  unfold closF at h
  simp only at h
  split at h
  · cases h
    exact ⟨[], by simp, fun w hw => (by cases hw), fun _ => rfl, rfl, fun x hx => .inl hx⟩
  · rename_i hcl
    split at h
    · cases h
      exact ⟨[], by simp, fun w hw => (by cases hw), fun _ => rfl, rfl, fun x hx => .inl hx⟩
    · rename_i hx
      obtain ⟨n, hn⟩ : ∃ n, passF st (wordF t) st.length = n + 1 := ⟨passF st (wordF t) st.length - 1, by have := (not_or.1 hx).1; omega⟩
      rw [hn, Nat.add_sub_cancel] at h
      obtain ⟨h1, h2⟩ := pass_spec st _ _ _ hn
      have e : nb st = nb (st.take (n + 1)) + nb (st.drop (n + 1)) := by rw [← nb_app, List.take_append_drop]
      have hb : balR (nb st) (List.replicate (nb (st.drop (n + 1))) [125]) = some (nb (st.take (n + 1))) := by rw [e]; exact balR_rep _ _
      have hw : ∀ w ∈ List.replicate (nb (st.drop (n + 1))) ([125] : List UInt8), w = [125] := fun w hw => (List.mem_replicate.1 hw).2
      rw [map_rep] at h
      obtain ⟨s1, s2⟩ := nb_set (y := ⟨wThen, (st.getD n thg0).col⟩) h1 h2 (show wThen ≠ [] by decide)
      split at h
      · cases h
        refine ⟨_, rfl, hw, fun hc => absurd hc hcl, by rw [s1]; exact hb, fun x hx => ?_⟩
        rcases List.mem_or_eq_of_mem_set hx with hx | rfl
        · exact .inl (mem_take hx)
        · exact .inr rfl
      · split at h
        · cases h
          exact ⟨_, rfl, hw, fun hc => absurd hc hcl, by rw [s2]; exact hb, fun x hx => .inl (mem_take hx)⟩
        · cases h
          exact ⟨_, rfl, hw, fun hc => absurd hc hcl, hb, fun x hx => .inl (mem_take hx)⟩
theorem mark_ne {w : List UInt8} (h : markP w) : w ≠ [] ∧ w ≠ [123, 125] := by
  rcases h with ((((rfl | rfl) | rfl) | rfl) | rfl) | rfl <;> decide
theorem brk_of {vs : List (List UInt8)} (h : ∀ w ∈ vs, w = [125]) : ∀ w ∈ vs, w = [123] ∨ w = [125] := fun w hw => .inr (h w hw)
theorem okC.app {st : List Thg} (h : okC st) {y : Thg} (hy : y.sort = [] → 1 ≤ y.col) : okC (st ++ [y]) := fun x hx => by
  rcases List.mem_append.1 hx with hx | hx
  · exact h x hx
  · rw [List.mem_singleton.1 hx]; exact hy
theorem noBr.app {st : List Thg} (h : noBr st) {y : Thg} (hy : y.sort ≠ [123, 125]) : noBr (st ++ [y]) := fun x hx => by
  rcases List.mem_append.1 hx with hx | hx
  · exact h x hx
  · rw [List.mem_singleton.1 hx]; exact hy
theorem ws_app (a b c : List (List UInt8)) (semi : Bool) (h : semi = true → c = []) : a ++ wsOf b semi ++ c = wsOf (a ++ b ++ c) semi := by
  cases semi with
  | false => simp [wsOf]
  | true => rw [h rfl]; simp [wsOf]
/-- What an opener lays. -/
theorem open_tr {t ahead : Tok} {out : List Tok} {st : List Thg} (hc : okC st) (hno : ¬ (openP (wordF ahead) ∧ wordF t = [123])) : ∃ vs st2 bg, (if openP (wordF ahead) then openF t out st else (out, st, false)) = (out ++ vs.map (lay1 t), st2, bg) ∧ (∀ w ∈ vs, w = [123] ∨ w = [125]) ∧
    balR (nb st) vs = some (nb st2) ∧ okC st2 ∧ (noBr st → noBr st2) ∧ (openP (wordF ahead) → ∃ r, vs = [123] :: r) := by
  by_cases ho : openP (wordF ahead)
  · rw [if_pos ho]
    unfold openF
    simp only
    have hm0 : 0 ≤ (if 0 ≤ blkF st st.length then (st.getD (blkF st st.length).toNat thg0).col else 0) := by
      split
      · rename_i hb
        obtain ⟨b, hbb⟩ := Int.eq_ofNat_of_zero_le hb
        obtain ⟨h1, h2, _⟩ := blk_spec st _ _ hbb
        rw [hbb, Int.toNat_natCast]
        have := hc _ (at_mem h1) h2
        omega
      · omega
    generalize (if 0 ≤ blkF st st.length then (st.getD (blkF st st.length).toNat thg0).col else 0) = m at hm0
    by_cases hm : m < t.col
    · rw [if_pos hm]
      refine ⟨[[123]], st ++ [⟨[], t.col⟩], true, rfl, fun w hw => .inl (List.mem_singleton.1 hw), ?_, hc.app fun _ => (by show 1 ≤ t.col; omega), fun hn => hn.app (show ([] : List UInt8) ≠ [123, 125] by decide), fun _ => ⟨[], rfl⟩⟩
      rw [nb_app, nb_yes rfl, balR_up]; rfl
    · rw [if_neg hm]
      refine ⟨[[123], [125]], st, false, by simp [lay1], fun w hw => by simpa using hw, ?_, hc, id, fun _ => ⟨_, rfl⟩⟩
      rw [balR_up, balR_dn]; rfl
  · rw [if_neg ho]
    exact ⟨[], st, false, by simp, fun w hw => (by cases hw), rfl, hc, id, fun h => absurd h ho⟩
theorem tok_tr {t ahead : Tok} {first : Bool} {out : List Tok} {st : List Thg} {out' : List Tok} {st' : List Thg} (h : tokF t ahead first out st = some (out', st')) (hc : okC st) :
    ∃ vs semi, out' = out ++ (wsOf vs semi).map (lay1 t) ++ [t] ∧ Seg t vs semi ∧ balR (nb st) vs = some (nb st') ∧ okC st' ∧ (t.text ≠ [123] → noBr st → noBr st') ∧
      (openP (wordF ahead) → (∃ r, wsOf vs semi = [123] :: r) ∨ (wsOf vs semi = [] ∧ wordF t = [123])) := by
  unfold tokF at h
  split at h
  · rename_i hx
    cases h
    refine ⟨[], false, by simp [wsOf], ⟨fun w hw => (by cases hw), (fun h => by cases h)⟩, ?_, hc.app (fun h => by cases h), fun ht _ => ?_, fun _ => .inr ⟨rfl, hx.2⟩⟩
    · rw [nb_app]; simp [balR, nb]
    · have h2 := hx.2
      unfold wordF at h2
      split at h2
      · exact absurd h2 ht
      · cases h2
  · rename_i hno
    obtain ⟨vs0, st2, bg, e0, a1, a2, a3, a4, a5⟩ := open_tr (out := out) hc hno
    simp only [e0] at h
    obtain ⟨out3, st3, vs1, semi, e1, b1, b2, b3, b4, b5, hrest⟩ : ∃ out3 st3 vs1 semi, out3 = out ++ vs0.map (lay1 t) ++ (wsOf vs1 semi).map (lay1 t) ∧ (∀ w ∈ vs1, w = [125]) ∧ (semi = true → ¬ closeP (wordF t)) ∧ balR (nb st2) vs1 = some (nb st3) ∧ okC st3 ∧ (noBr st2 → noBr st3) ∧
        some ((closF t out3 st3).1 ++ [t], if markP (wordF t) then (closF t out3 st3).2 ++ [⟨wordF t, 0⟩] else (closF t out3 st3).2) = some (out', st') := by
      by_cases hf : first = true ∧ bg = false
      · rw [if_pos hf] at h
        cases hl : lineF t t.col (st2.length + 1) (out ++ vs0.map (lay1 t)) st2 with
        | none => rw [hl] at h; cases h
        | some p =>
          obtain ⟨out3, st3⟩ := p
          rw [hl] at h
          obtain ⟨vs1, semi, g1, g2, g3, g4, ⟨k, rfl⟩, _⟩ := line_tr _ _ _ _ _ _ _ hl a3
          exact ⟨out3, _, vs1, semi, g1, g2, fun hs => (g3 hs).1, g4, fun x hx => a3 x (mem_take hx), fun hn x hx => hn x (mem_take hx), h⟩
      · rw [if_neg hf] at h
        exact ⟨_, _, [], false, by simp [wsOf], fun w hw => (by cases hw), (fun h => by cases h), rfl, a3, id, h⟩
    obtain ⟨vs2, c1, c2, c3, c4, c5⟩ := clos_tr (t := t) (out := out3) (st := st3) (out' := (closF t out3 st3).1) (st' := (closF t out3 st3).2) rfl
    simp only [Option.some.injEq, Prod.mk.injEq] at hrest
    obtain ⟨rfl, rfl⟩ := hrest
    have hsem : semi = true → vs2 = [] := fun hs => c3 (b2 hs)
    have hws : (vs0 ++ wsOf vs1 semi ++ vs2) = wsOf (vs0 ++ vs1 ++ vs2) semi := ws_app _ _ _ _ hsem
    have okc4 : okC (closF t out3 st3).2 := fun x hx he => by
      rcases c5 x hx with h1 | h1
      · exact b4 x h1 he
      · rw [h1] at he; cases he
    have nbr4 : noBr st3 → noBr (closF t out3 st3).2 := fun hn x hx => by
      rcases c5 x hx with h1 | h1
      · exact hn x h1
      · rw [h1]; decide
    refine ⟨vs0 ++ vs1 ++ vs2, semi, ?_, ⟨fun w hw => ?_, b2⟩, ?_, ?_, fun _ hn => ?_, fun ho => .inl ?_⟩
    · rw [c1, e1, ← hws]; simp
    · rcases List.mem_append.1 hw with hw | hw
      · rcases List.mem_append.1 hw with hw | hw
        · exact a1 w hw
        · exact .inr (b1 w hw)
      · exact .inr (c2 w hw)
    · rw [balR_app, balR_app, a2]
      simp only [Option.bind_some, b3, c4]
      split
      · rename_i hm; rw [nb_app, nb_no (x := ⟨wordF t, 0⟩) (mark_ne hm).1]; rfl
      · rfl
    · split
      · rename_i hm; exact okc4.app fun e => absurd e (mark_ne hm).1
      · exact okc4
    · have h4 := nbr4 (b5 (a4 hn))
      split
      · rename_i hm; exact h4.app (mark_ne hm).2
      · exact h4
    · obtain ⟨r, hr⟩ := a5 ho
      exact ⟨_, by rw [← hws, hr]; rfl⟩

/-! ### The whole -/
def chainR : Tok → List Tok → Prop
  | _, [] => True
  | p, y :: r => (openP (wordF p) → wordF y = [123]) ∧ chainR y r
theorem word_laid (w : List UInt8) (t : Tok) : wordF (lay1 t w) = w := rfl
theorem chain_seg {t : Tok} {a : List Tok} (ha : chainR t a) : ∀ (ws : List (List UInt8)) (p : Tok), (∀ w ∈ ws, ¬ openP w) → (openP (wordF p) → (∃ r, ws = [123] :: r) ∨ (ws = [] ∧ wordF t = [123])) → chainR p (ws.map (lay1 t) ++ t :: a)
  | [], p, _, h => ⟨fun ho => by rcases h ho with ⟨r, hr⟩ | h; cases hr; exact h.2, ha⟩
  | w :: ws, p, hw, h => ⟨fun ho => by rcases h ho with ⟨r, hr⟩ | h; exact (List.cons.inj hr).1; exact absurd h.1 (by simp), chain_seg ha ws _ (fun w hm => hw w (List.mem_cons_of_mem _ hm)) fun ho => absurd ho (by rw [word_laid]; exact hw w (by simp))⟩
theorem chain_app : ∀ (l : List Tok) (p : Tok) (r : List Tok), chainR p (l ++ r) ↔ chainR p l ∧ chainR (l.getLastD p) r
  | [], p, r => by simp [chainR]
  | [y], p, r => by simp [chainR]
  | y :: z :: l, p, r => by
    have := chain_app (z :: l) y r
    simp only [List.cons_append, chainR] at this ⊢
    simp only [List.getLastD_cons] at this ⊢
    rw [this]
    simp only [and_assoc]
theorem ws_no {t : Tok} {vs : List (List UInt8)} {semi : Bool} (h : Seg t vs semi) : ∀ w ∈ wsOf vs semi, ¬ openP w := by
  intro w hw
  have : w = [123] ∨ w = [125] ∨ w = [59] := by
    unfold wsOf at hw
    split at hw
    · rcases List.mem_append.1 hw with hw | hw
      · rcases h.1 w hw with h | h <;> simp [h]
      · simp [List.mem_singleton.1 hw]
    · rcases h.1 w hw with h | h <;> simp [h]
  rcases this with rfl | rfl | rfl <;> decide
inductive Tr : Nat → List Tok → List Tok → Nat → Prop
  | nil (b : Nat) : Tr b [] [] b
  | cons {b b1 b2 : Nat} {t : Tok} {l a : List Tok} {vs : List (List UInt8)} {semi : Bool} : Seg t vs semi → balR b vs = some b1 → Tr b1 l a b2 → Tr b (t :: l) ((wsOf vs semi).map (lay1 t) ++ t :: a) b2
theorem last_seg (m : List Tok) (t : Tok) (a : List Tok) (d : Tok) : (m ++ t :: a).getLastD d = a.getLastD t := by
  induction m generalizing d with
  | nil => rw [List.nil_append, List.getLastD_cons]
  | cons y m ih => rw [List.cons_append, List.getLastD_cons, ih]
theorem run_tr : ∀ (l : List Tok) (ahead : Tok) (first : Bool) (out : List Tok) (st : List Thg) (out' : List Tok) (st' : List Thg), runF l ahead first out st = .inl (some (out', st')) → okC st →
    ∃ a, out' = out ++ a ∧ Tr (nb st) l a (nb st') ∧ chainR ahead a ∧ okC st' ∧ ((∀ t ∈ l, t.text ≠ [123]) → noBr st → noBr st') ∧ a.getLastD ahead = l.getLastD ahead
  | [], ahead, first, out, st, out', st', h, hc => by
    simp only [runF, Sum.inl.injEq, Option.some.injEq, Prod.mk.injEq] at h
    obtain ⟨rfl, rfl⟩ := h
    exact ⟨[], by simp, .nil _, trivial, hc, fun _ => id, rfl⟩
  | t :: l, ahead, first, out, st, out', st', h, hc => by
    unfold runF at h
    split at h
    · cases h
    · rename_i out1 st1 h1
      obtain ⟨vs, semi, e1, e2, e3, e4, e5, e6⟩ := tok_tr h1 hc
      obtain ⟨a, g1, g2, g3, g4, g5, g6⟩ := run_tr l t false out1 st1 out' st' h e4
      refine ⟨(wsOf vs semi).map (lay1 t) ++ t :: a, ?_, .cons e2 e3 g2, chain_seg g3 _ _ (ws_no e2) e6, g4, fun ht hn => g5 (fun x hx => ht x (List.mem_cons_of_mem _ hx)) (e5 (ht t (by simp)) hn), ?_⟩
      · rw [g1, e1]; simp
      · rw [List.getLastD_cons, ← g6]
        exact last_seg _ _ _ _
theorem run_some : ∀ (l : List Tok) (ahead : Tok) (first : Bool) (out : List Tok) (st : List Thg), runF l ahead first out st ≠ .inl none
  | [], _, _, _, _ => by simp [runF]
  | t :: l, _, _, _, _ => by
    unfold runF
    split
    · simp
    · exact run_some l _ _ _ _
theorem run_bad_mem : ∀ (l : List Tok) (ahead : Tok) (first : Bool) (out : List Tok) (st : List Thg) (t : Tok), runF l ahead first out st = .inr t → t ∈ l
  | [], _, _, _, _, _, h => by simp [runF] at h
  | x :: l, _, _, _, _, t, h => by
    unfold runF at h
    split at h
    · cases h; simp
    · exact List.mem_cons_of_mem _ (run_bad_mem l _ _ _ _ _ h)
theorem Tr.app {b b1 b2 : Nat} {l l2 a a2 : List Tok} (h : Tr b l a b1) (h2 : Tr b1 l2 a2 b2) : Tr b (l ++ l2) (a ++ a2) b2 := by
  induction h with
  | nil b => exact h2
  | cons s hb _ ih => rw [List.append_assoc, List.cons_append]; exact .cons s hb (ih h2)
def end0 : Tok := ⟨9, [], 0, 1, 1⟩
theorem lay_tr {ts a : List Tok} {d : Diag} (h : layF ts = (a, d)) : (a = [] ∧ ∃ t, d = badD t ∧ (t ∈ (splitF ts end0).1 ∨ t = (splitF ts end0).2)) ∨
    (d = .ok ∧ ∃ a1 a2 b1 b2, a = a1 ++ a2 ∧ Tr 0 (splitF ts end0).1 a1 b1 ∧ Tr b1 [(splitF ts end0).2] a2 b2 ∧ chainR tok0 a ∧ ((∀ t ∈ (splitF ts end0).1, t.text ≠ [123]) → b2 = 0)) := by
  unfold layF at h
  simp only at h
  generalize hs : splitF ts ⟨9, [], 0, 1, 1⟩ = s at h
  have hs' : splitF ts end0 = s := hs
  rw [hs']
  split at h
  · rename_i t hr
    cases h
    exact .inl ⟨rfl, t, rfl, .inl (run_bad_mem _ _ _ _ _ _ hr)⟩
  · rename_i hr
    exact absurd hr (run_some _ _ _ _ _)
  · rename_i out st hr
    have hc0 : okC [] := fun x hx => (by cases hx)
    obtain ⟨a1, g1, g2, g3, g4, g5, g6⟩ := run_tr _ _ _ _ _ _ _ hr hc0
    rw [List.nil_append] at g1
    subst g1
    obtain ⟨vs0, e0, v1, v2, v3⟩ : ∃ vs0 : List (List UInt8), (if openP (wordF (s.1.getLastD tok0)) then out ++ [laidT [123] s.2] ++ [laidT [125] s.2] else out) = out ++ vs0.map (lay1 s.2) ∧ (∀ w ∈ vs0, w = [123] ∨ w = [125]) ∧ balR (nb st) vs0 = some (nb st) ∧ (openP (wordF (s.1.getLastD tok0)) → ∃ r, vs0 = [123] :: r) := by
      split
      · refine ⟨[[123], [125]], by simp [lay1], fun w hw => by simpa using hw, ?_, fun _ => ⟨_, rfl⟩⟩
        rw [balR_up, balR_dn]; rfl
      · rename_i hn; exact ⟨[], by simp, fun w hw => (by cases hw), rfl, fun h => absurd h hn⟩
    rw [e0] at h
    split at h
    · cases h
      exact .inl ⟨rfl, s.2, rfl, .inr rfl⟩
    · rename_i out2 st2 hl
      cases h
      obtain ⟨vs1, semi, l1, l2, l3, l4, _, l6⟩ := line_tr _ _ _ _ _ _ _ hl g4
      obtain rfl : semi = false := by
        cases semi with
        | false => rfl
        | true => exact absurd (l3 rfl).2 (by omega)
      have hseg : Seg s.2 (vs0 ++ vs1) false := ⟨fun w hw => by
        rcases List.mem_append.1 hw with hw | hw
        · exact v1 w hw
        · exact .inr (l2 w hw), fun h => by cases h⟩
      have hbal : balR (nb st) (vs0 ++ vs1) = some (nb st2) := by rw [balR_app, v2]; exact l4
      have htr := Tr.cons (t := s.2) (l := []) hseg hbal (.nil _)
      refine .inr ⟨rfl, out, _, _, _, ?_, g2, htr, ?_, fun ht => l6 (by omega) (g5 ht fun x hx => (by cases hx))⟩
      · rw [l1]; simp [wsOf]
      · have hch := chain_seg (t := s.2) (a := []) trivial (vs0 ++ vs1) (out.getLastD tok0) (ws_no hseg) fun ho => by
          rw [g6] at ho
          obtain ⟨r, hr⟩ := v3 ho
          exact .inl ⟨_, by rw [hr]; rfl⟩
        have := (chain_app out tok0 _).2 ⟨g3, hch⟩
        rw [l1]
        simpa [wsOf] using this
theorem split_spec : ∀ (ts : List Tok) (e : Tok), e.kind = 9 → ∃ k, (splitF ts e).1 = ts.take k ∧ k ≤ ts.length ∧ (∀ x ∈ ts.take k, x.kind ≠ 9) ∧ (splitF ts e).2.kind = 9 ∧ (ts[k]? = some (splitF ts e).2 ∨ (k = ts.length ∧ ((splitF ts e).2 = e ∨ ∃ y ∈ ts, (splitF ts e).2 = ⟨9, [], 0, y.line, y.col⟩)))
  | [], e, he => ⟨0, rfl, Nat.le_refl _, fun x hx => (by cases hx), he, .inr ⟨rfl, .inl rfl⟩⟩
  | t :: ts, e, he => by
    unfold splitF
    split
    · rename_i h; exact ⟨0, rfl, by omega, fun x hx => (by cases hx), h, .inl rfl⟩
    · rename_i h
      obtain ⟨k, h1, h2, h3, h4, h5⟩ := split_spec ts ⟨9, [], 0, t.line, t.col⟩ rfl
      refine ⟨k + 1, by simp [h1], by simp; omega, fun x hx => ?_, h4, ?_⟩
      · rw [List.take_succ_cons] at hx
        rcases List.mem_cons.1 hx with rfl | hx
        · exact h
        · exact h3 x hx
      · rcases h5 with h5 | ⟨h5, h6⟩
        · exact .inl (by simpa using h5)
        · refine .inr ⟨by simp [h5], .inr ?_⟩
          rcases h6 with h6 | ⟨y, hy, h6⟩
          · exact ⟨t, by simp, h6⟩
          · exact ⟨y, by simp [hy], h6⟩
theorem split_end : ∀ (l : List Tok) (e d : Tok), (∀ x ∈ l, x.kind ≠ 9) → e.kind = 9 → splitF (l ++ [e]) d = (l, e)
  | [], e, d, _, he => by simp [splitF, he]
  | t :: l, e, d, h, he => by
    rw [List.cons_append, splitF, if_neg (h t (by simp)), split_end l e _ (fun x hx => h x (by simp [hx])) he]
end Go.Proofs.YtnnagjbkpmkelaaDoor.Lw
