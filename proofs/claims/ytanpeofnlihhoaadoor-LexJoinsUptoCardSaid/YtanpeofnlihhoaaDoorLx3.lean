/- PLAIN: the lexer as a relation; what stands behind, ahead of, and between texts. -/
import Derived.Test.YtanpeofnlihhoaaDoorXg
namespace Go.Proofs.YtanpeofnlihhoaaDoor
open Go
theorem remF_fuel (s : List UInt8) (a : Nat) : ∀ (f g : Nat) (d : Int) (i : Nat), s.length < i + f → s.length < i + g → remF s a f d i = remF s a g d i
  | 0, 0, _, _, _, _ => rfl
  | 0, g + 1, d, i, h, _ => by unfold remF; rw [if_neg (by omega)]
  | f + 1, 0, d, i, _, h => by unfold remF; rw [if_neg (by omega)]
  | f + 1, g + 1, d, i, h1, h2 => by
    unfold remF
    rw [remF_fuel s a f g (d + 1) (i + 2) (by omega) (by omega), remF_fuel s a f g (d - 1) (i + 2) (by omega) (by omega), remF_fuel s a f g d (i + 1) (by omega) (by omega)]
theorem decF_up (s : List UInt8) (i : Nat) (h : i + 1 ≤ s.length) : i + 1 ≤ (decF s s.length 0 (i + 1)).2 ∧ (decF s s.length 0 (i + 1)).2 ≤ s.length := decF_le (s := s) s.length 0 (i + 1) h
theorem txtF_fuel (s : List UInt8) : ∀ (f g : Nat) (o : List UInt8) (i : Nat), s.length < i + f → s.length < i + g → txtF s f o i = txtF s g o i
  | 0, 0, _, _, _, _ => rfl
  | 0, g + 1, d, i, h, _ => by unfold txtF; rw [if_neg (by omega)]
  | f + 1, 0, d, i, _, h => by unfold txtF; rw [if_neg (by omega)]
  | f + 1, g + 1, o, i, h1, h2 => by
    unfold txtF
    by_cases h : i < s.length
    · have hd := decF_up s i h
      rw [txtF_fuel s f g _ (i + 1) (by omega) (by omega), txtF_fuel s f g _ (i + 2) (by omega) (by omega)]
      dsimp only
      rw [txtF_fuel s f g _ (decF s s.length 0 (i + 1)).2 (by omega) (by omega)]
    · rw [if_neg h, if_neg h]
theorem gt_drop (s : List UInt8) (i k : Nat) : gt (s.drop i) k = gt s (i + k) := drop_getD s i k
theorem rowF_drop (s : List UInt8) (i k : Nat) : rowF (s.drop i) 0 k = rowF s i k := by unfold rowF; rw [List.drop_zero]
theorem cutF_drop (s : List UInt8) (i n : Nat) : cutF (s.drop i) 0 n = cutF s i n := by rw [← cut_take, ← cut_take, List.drop_zero]
theorem remark_drop (s : List UInt8) (i : Nat) : remarkF (s.drop i) 0 = remarkF s i := by
  rw [← remark_shift s i]
  exact remF_fuel _ _ _ _ _ _ (by omega) (by rw [drop_len]; omega)
theorem text_drop (s : List UInt8) (i : Nat) : textF (s.drop i) 0 = textF s i := by
  rw [← text_shift s i]
  unfold textF
  rw [txtF_fuel (s.drop i) ((s.drop i).length + 1) (s.length + 1) [] (0 + 1) (by omega) (by rw [drop_len]; omega)]
  simp
/-- what is done at a place lies in what is left alone -/
theorem lexF_drop (s : List UInt8) (i : Nat) : lexF (s.drop i) 0 = lexF s i := by
  have e : (0 + 1 < (s.drop i).length) ↔ i + 1 < s.length := by rw [drop_len]; omega
  have e2 : 0 < (s.drop i).length ↔ i < s.length := by rw [drop_len]; omega
  unfold lexF
  simp only [gt_drop, rowF_drop, cutF_drop, remark_drop, text_drop, e, Nat.add_zero, Nat.zero_add]
/-! a line's end behind -/
theorem tw_app {p : UInt8 → Bool} (hp : p 10 = false) (b : List UInt8) : ∀ l : List UInt8, (l ++ 10 :: b).takeWhile p = l.takeWhile p
  | [] => by simp [hp]
  | c :: l => by
    rw [List.cons_append, List.takeWhile_cons, List.takeWhile_cons, tw_app hp b l]
theorem gt_app {l r : List UInt8} {i : Nat} (h : i < l.length) : gt (l ++ r) i = gt l i := by
  unfold gt; rw [List.getD_eq_getElem?_getD, List.getD_eq_getElem?_getD, List.getElem?_append_left h]
theorem gt_mid (l b : List UInt8) : gt (l ++ 10 :: b) l.length = 10 := by
  unfold gt; rw [List.getD_eq_getElem?_getD, List.getElem?_append_right (Nat.le_refl _)]; simp
theorem row_app (l b : List UInt8) : ∀ k, k = 0 ∨ k = 1 ∨ k = 2 ∨ k = 3 → rowF (l ++ 10 :: b) 0 k = rowF l 0 k := by
  intro k hk
  unfold rowF
  rw [List.drop_zero, List.drop_zero, tw_app]
  rcases hk with rfl | rfl | rfl | rfl <;> decide
theorem cut_app (l r : List UInt8) {n : Nat} (h : n ≤ l.length) : cutF (l ++ r) 0 n = cutF l 0 n := by
  rw [← cut_take, ← cut_take, List.drop_zero, List.drop_zero, List.take_append_of_le_length h]
theorem rem_app (l r : List UInt8) : ∀ (f g : Nat) (d : Int) (i k : Nat), remF l 0 f d i = some k → f ≤ g → remF (l ++ r) 0 g d i = some k
  | 0, _, _, _, _, h, _ => by cases h
  | f + 1, 0, _, _, _, _, h => by omega
  | f + 1, g + 1, d, i, k, h, hg => by
    unfold remF at h ⊢
    by_cases h1 : i + 1 < l.length
    · rw [if_pos h1] at h
      rw [if_pos (show i + 1 < (l ++ r).length by rw [List.length_append]; omega), gt_app (by omega), gt_app (by omega)]
      by_cases h2 : gt l i = 123 ∧ gt l (i + 1) = 45
      · rw [if_pos h2] at h ⊢
        exact rem_app l r f g _ _ _ h (by omega)
      · rw [if_neg h2] at h ⊢
        by_cases h3 : gt l i = 45 ∧ gt l (i + 1) = 125
        · rw [if_pos h3] at h ⊢
          by_cases h4 : d - 1 = 0
          · rw [if_pos h4] at h ⊢; exact h
          · rw [if_neg h4] at h ⊢
            exact rem_app l r f g _ _ _ h (by omega)
        · rw [if_neg h3] at h ⊢
          exact rem_app l r f g _ _ _ h (by omega)
    · rw [if_neg h1] at h; cases h
theorem rem_open1 (l : List UInt8) : ∀ (f g : Nat) (d : Int) (i : Nat), remF l 0 f d i = none → l.length < i + f → remF (l ++ [10]) 0 g d i = none
  | _, 0, _, _, _, _ => rfl
  | 0, g + 1, d, i, h, hf => by
    unfold remF; rw [if_neg (by rw [List.length_append, List.length_singleton]; omega)]
  | f + 1, g + 1, d, i, h, hf => by
    unfold remF at h ⊢
    by_cases h1 : i + 1 < l.length
    · rw [if_pos h1] at h
      rw [if_pos (show i + 1 < (l ++ ([10] : List UInt8)).length by rw [List.length_append]; omega), gt_app (by omega), gt_app (by omega)]
      by_cases h2 : gt l i = 123 ∧ gt l (i + 1) = 45
      · rw [if_pos h2] at h ⊢
        exact rem_open1 l f g _ _ h (by omega)
      · rw [if_neg h2] at h ⊢
        by_cases h3 : gt l i = 45 ∧ gt l (i + 1) = 125
        · rw [if_pos h3] at h ⊢
          by_cases h4 : d - 1 = 0
          · rw [if_pos h4] at h; cases h
          · rw [if_neg h4] at h ⊢
            exact rem_open1 l f g _ _ h (by omega)
        · rw [if_neg h3] at h ⊢
          exact rem_open1 l f g _ _ h (by omega)
    · by_cases h5 : i + 1 < (l ++ [10]).length
      · have e : i + 1 = l.length := by rw [List.length_append, List.length_singleton] at h5; omega
        have e2 : gt (l ++ [10]) (i + 1) = 10 := by rw [e]; exact gt_mid l []
        rw [if_pos h5, e2, if_neg (fun h => by cases h.2), if_neg (fun h => by cases h.2)]
        have : ∀ g, remF (l ++ [10]) 0 g d (i + 1) = none := by
          intro g
          cases g with
          | zero => rfl
          | succ g => unfold remF; rw [if_neg (by rw [List.length_append, List.length_singleton]; omega)]
        exact this g
      · rw [if_neg h5]
theorem dec_app (l b : List UInt8) (n i : Nat) (hi : i ≤ l.length) : decF (l ++ 10 :: b) (l ++ 10 :: b).length n i = decF l l.length n i := by
  rw [decF_cap _ _ _ _ (by omega), decF_cap _ _ _ _ (by omega), List.drop_append_of_le_length hi, tw_app (by decide)]
theorem txt_app (l b : List UInt8) : ∀ (f g : Nat) (o : List UInt8) (i : Nat), l.length < i + f → (l ++ 10 :: b).length < i + g → i ≤ l.length → txtF (l ++ 10 :: b) g o i = txtF l f o i
  | 0, _, _, _, h, _, hi => by omega
  | f + 1, 0, _, i, h, h2, hi => by rw [List.length_append] at h2; omega
  | f + 1, g + 1, o, i, h, h2, hi => by
    have hl : (l ++ 10 :: b).length = l.length + (b.length + 1) := by rw [List.length_append, List.length_cons]
    unfold txtF
    by_cases h1 : i < l.length
    · rw [if_pos h1, if_pos (show i < (l ++ 10 :: b).length by omega), gt_app h1, dec_app l b 0 (i + 1) h1]
      have hd := decF_up l i h1
      dsimp only
      rw [txt_app l b f g _ (i + 1) (by omega) (by omega) (by omega), txt_app l b f g _ (decF l l.length 0 (i + 1)).2 (by omega) (by omega) hd.2]
      by_cases h3 : i + 1 < l.length
      · rw [gt_app h3, txt_app l b f g _ (i + 2) (by omega) (by omega) (by omega)]
        have e1 : i + 1 < (l ++ 10 :: b).length ↔ i + 1 < l.length := by omega
        have e2 : (l ++ 10 :: b).length ≤ i + 1 ↔ l.length ≤ i + 1 := by omega
        simp only [e1, e2]
      · have e : i + 1 = l.length := by omega
        have e3 : gt (l ++ 10 :: b) (i + 1) = 10 := by rw [e]; exact gt_mid l b
        have n1 : ¬ (i + 1 < (l ++ 10 :: b).length ∧ digitB (gt (l ++ 10 :: b) (i + 1)) = true) := fun h => by rw [e3] at h; exact absurd h.2 (by decide)
        have n2 : ¬ (i + 1 < l.length ∧ digitB (gt l (i + 1)) = true) := fun h => h3 h.1
        have n3 : (l ++ 10 :: b).length ≤ i + 1 ∨ escsL.contains (gt (l ++ 10 :: b) (i + 1)) = false := .inr (by rw [e3]; decide)
        have n4 : l.length ≤ i + 1 ∨ escsL.contains (gt l (i + 1)) = false := .inl (by omega)
        rw [if_neg n1, if_neg n2, if_pos n3, if_pos n4]
    · have e : i = l.length := by omega
      rw [if_neg h1, if_pos (show i < (l ++ 10 :: b).length by omega), e, gt_mid, if_neg (by decide), if_pos (by decide), if_pos (by decide)]
theorem text_app (l b : List UInt8) (h : l ≠ []) : textF (l ++ 10 :: b) 0 = textF l 0 := by
  have : 0 < l.length := List.length_pos_iff.2 h
  unfold textF
  rw [txt_app l b (l.length + 1) ((l ++ 10 :: b).length + 1) [] (0 + 1) (by omega) (by omega) (by omega)]
theorem lexF_app {l : List UInt8} (b : List UInt8) (h : l ≠ []) (hb : ∀ e, lexF l 0 = .bad e → e ≠ 14) : lexF (l ++ 10 :: b) 0 = lexF l 0 := by
  have h0 : 0 < l.length := List.length_pos_iff.2 h
  have hl : (l ++ 10 :: b).length = l.length + (b.length + 1) := by rw [List.length_append, List.length_cons]
  have hr := row_app l b
  have hc : ∀ k, cutF (l ++ 10 :: b) 0 (rowF l 0 k) = cutF l 0 (rowF l 0 k) := fun k => cut_app _ _ (by have := rowF_le l 0 k; omega)
  have e4 : (gt l 0 = 123 ∧ 0 + 1 < (l ++ 10 :: b).length ∧ gt (l ++ 10 :: b) (0 + 1) = 45) ↔ (gt l 0 = 123 ∧ 0 + 1 < l.length ∧ gt l (0 + 1) = 45) := by
    by_cases h1 : 0 + 1 < l.length
    · rw [gt_app h1]
      exact and_congr Iff.rfl (and_congr (by omega) Iff.rfl)
    · have e : 0 + 1 = l.length := by omega
      have e3 : gt (l ++ 10 :: b) (0 + 1) = 10 := by rw [e]; exact gt_mid l b
      rw [e3]
      exact ⟨fun h => absurd h.2.2 (by decide), fun h => absurd h.2.1 h1⟩
  unfold lexF at hb ⊢
  dsimp only at hb ⊢
  rw [gt_app h0, hr 0 (by simp), hr 1 (by simp), hr 2 (by simp), hr 3 (by simp), hc 0, hc 1, hc 2, cut_app l _ (n := 1) (by omega), text_app l b h]
  by_cases b1 : gt l 0 = 32 ∨ gt l 0 = 10
  · rw [if_pos b1, if_pos b1]
  · rw [if_neg b1, if_neg b1]
    rw [if_neg b1] at hb
    by_cases b2 : gt l 0 = 123 ∧ 0 + 1 < l.length ∧ gt l (0 + 1) = 45
    · rw [if_pos b2, if_pos (e4.2 b2)]
      rw [if_pos b2] at hb
      cases hk : remarkF l 0 with
      | none => rw [hk] at hb; exact absurd rfl (hb 14 rfl)
      | some k =>
        have : remarkF (l ++ 10 :: b) 0 = some k := rem_app l _ _ _ _ _ _ hk (by omega)
        rw [this]
    · rw [if_neg b2, if_neg (fun h => b2 (e4.1 h))]
theorem lexF_app14 {l : List UInt8} (h : l ≠ []) (hb : lexF l 0 = .bad 14) : lexF (l ++ [10]) 0 = .bad 14 := by
  have h0 : 0 < l.length := List.length_pos_iff.2 h
  unfold lexF at hb ⊢
  dsimp only at hb ⊢
  rw [gt_app h0]
  by_cases b1 : gt l 0 = 32 ∨ gt l 0 = 10
  · rw [if_pos b1] at hb; cases hb
  rw [if_neg b1] at hb ⊢
  by_cases b2 : gt l 0 = 123 ∧ 0 + 1 < l.length ∧ gt l (0 + 1) = 45
  · rw [if_pos b2] at hb
    rw [if_pos (⟨b2.1, by rw [List.length_append]; omega, by rw [gt_app b2.2.1]; exact b2.2.2⟩ : gt l 0 = 123 ∧ 0 + 1 < (l ++ ([10] : List UInt8)).length ∧ gt (l ++ ([10] : List UInt8)) (0 + 1) = 45)]
    cases hk : remarkF l 0 with
    | some k => rw [hk] at hb; cases hb
    | none =>
      have : remarkF (l ++ [10]) 0 = none := rem_open1 l _ _ _ _ hk (by omega)
      rw [this]
  · rw [if_neg b2] at hb
    exfalso
    split at hb
    · cases hb
    · split at hb
      · split at hb <;> cases hb
      · split at hb
        · split at hb <;> cases hb
        · split at hb
          · cases hb
          · split at hb
            · split at hb <;> cases hb
            · cases hb
/-! what one step comes to -/
def StepOk (s : List UInt8) (i : Nat) : LexR → Prop
  | .skip n => 1 ≤ n ∧ i + n ≤ s.length
  | .tok k t _ n => 1 ≤ n ∧ i + n ≤ s.length ∧ k ≠ 9 ∧ (k ≠ 6 → t = cutF s i n) ∧ (k = 6 → gt s i = 34)
  | .bad e => 11 ≤ e ∧ e ≤ 14
theorem lexF_ok {s : List UInt8} {i : Nat} (h : i < s.length) : StepOk s i (lexF s i) := by
  unfold lexF
  dsimp only
  by_cases b1 : gt s i = 32 ∨ gt s i = 10
  · rw [if_pos b1]; exact ⟨Nat.le_refl _, h⟩
  rw [if_neg b1]
  by_cases b2 : gt s i = 123 ∧ i + 1 < s.length ∧ gt s (i + 1) = 45
  · rw [if_pos b2]
    cases hk : remarkF s i with
    | none => exact ⟨by omega, by omega⟩
    | some k => have := rem_le hk; exact ⟨by omega, this.1⟩
  rw [if_neg b2]
  by_cases b3 : letterB (gt s i) = true ∨ gt s i = 95
  · rw [if_pos b3]
    have h1 := row0 h (i6.2 b3)
    have h2 := rowF_le s i 0
    refine ⟨h1, by omega, ?_, fun _ => rfl, ?_⟩
    · split
      · omega
      · split
        · omega
        · split <;> omega
    · intro h; split at h
      · omega
      · split at h
        · omega
        · split at h <;> omega
  rw [if_neg b3]
  by_cases b4 : digitB (gt s i) = true
  · rw [if_pos b4]
    have h1 := row1 h b4
    have h2 := rowF_le s i 1
    cases hn : numF (cutF s i (rowF s i 1)) 0 with
    | none => exact ⟨by omega, by omega⟩
    | some v => exact ⟨h1, by omega, by omega, fun _ => rfl, fun h => by omega⟩
  rw [if_neg b4]
  by_cases b5 : markB (gt s i) = true
  · rw [if_pos b5]
    have h1 := row2 h b5
    have h2 := rowF_le s i 2
    split
    · have h3 := row3 h b5
      have h4 := rowF_le s i 3
      exact ⟨h3, by omega⟩
    · refine ⟨h1, by omega, ?_, fun _ => rfl, ?_⟩
      · split
        · omega
        · split <;> omega
      · intro h; split at h
        · omega
        · split at h <;> omega
  rw [if_neg b5]
  split
  · exact ⟨by omega, by omega, by omega, fun _ => rfl, fun h => by omega⟩
  · split
    · rename_i h34
      cases ht : textF s i with
      | none => exact ⟨by omega, by omega⟩
      | some p => have := text_le ht; exact ⟨this.2, this.1, by omega, fun h => absurd rfl h, fun _ => h34⟩
    · exact ⟨by omega, by omega⟩
/-! reading as a relation -/
def endT (s : List UInt8) : Tok := ⟨9, [], 0, (posF s s.length).1, (posF s s.length).2⟩
inductive RnOk (s : List UInt8) : Nat → List Tok → Prop
  | fin : RnOk s s.length [endT s]
  | skip {i n : Nat} {l : List Tok} : i < s.length → lexF s i = .skip n → RnOk s (i + n) l → RnOk s i l
  | tok {i n : Nat} {k v : Int} {t : List UInt8} {l : List Tok} : i < s.length → lexF s i = .tok k t v n → RnOk s (i + n) l → RnOk s i (⟨k, t, v, (posF s i).1, (posF s i).2⟩ :: l)
inductive RnBad (s : List UInt8) : Nat → Diag → Prop
  | bad {i : Nat} {e : Int} : i < s.length → lexF s i = .bad e → RnBad s i ⟨[], (posF s i).1, (posF s i).2, e⟩
  | skip {i n : Nat} {d : Diag} : i < s.length → lexF s i = .skip n → RnBad s (i + n) d → RnBad s i d
  | tok {i n : Nat} {k v : Int} {t : List UInt8} {d : Diag} : i < s.length → lexF s i = .tok k t v n → RnBad s (i + n) d → RnBad s i d
theorem rn_tot (s : List UInt8) : ∀ (f i : Nat), i ≤ s.length → s.length < i + f → (∃ l, RnOk s i l) ∨ (∃ d, RnBad s i d)
  | 0, i, h, h2 => by omega
  | f + 1, i, h, h2 => by
    by_cases hi : i < s.length
    · have hs := lexF_ok hi
      cases hx : lexF s i with
      | skip n =>
        rw [hx] at hs
        obtain ⟨h3, h4⟩ := hs
        rcases rn_tot s f (i + n) h4 (by omega) with ⟨l, hl⟩ | ⟨d, hd⟩
        · exact .inl ⟨l, .skip hi hx hl⟩
        · exact .inr ⟨d, .skip hi hx hd⟩
      | tok k t v n =>
        rw [hx] at hs
        obtain ⟨h3, h4, _⟩ := hs
        rcases rn_tot s f (i + n) h4 (by omega) with ⟨l, hl⟩ | ⟨d, hd⟩
        · exact .inl ⟨_, .tok hi hx hl⟩
        · exact .inr ⟨d, .tok hi hx hd⟩
      | bad e => exact .inr ⟨_, .bad hi hx⟩
    · obtain rfl : i = s.length := by omega
      exact .inl ⟨_, .fin⟩
theorem rn_ok {s : List UInt8} {i : Nat} {l : List Tok} (h : RnOk s i l) : ∀ (f : Nat) (o : List Tok), s.length < i + f → readLoop s f i o = (o ++ l, .ok) := by
  induction h with
  | fin =>
    intro f o hf
    obtain ⟨g, rfl⟩ : ∃ g, f = g + 1 := ⟨f - 1, by omega⟩
    rw [readLoop, if_neg (by omega)]; rfl
  | @skip i n l h1 h2 _ ih =>
    intro f o hf
    obtain ⟨g, rfl⟩ : ∃ g, f = g + 1 := ⟨f - 1, by omega⟩
    have := lexF_ok h1
    rw [h2] at this
    rw [rl_skip h1 h2, ih g o (by have := this.1; omega)]
  | @tok i n k v t l h1 h2 _ ih =>
    intro f o hf
    obtain ⟨g, rfl⟩ : ∃ g, f = g + 1 := ⟨f - 1, by omega⟩
    have := lexF_ok h1
    rw [h2] at this
    rw [rl_tok h1 h2, ih g _ (by have := this.1; omega), List.append_assoc]; rfl
theorem rn_bad {s : List UInt8} {i : Nat} {d : Diag} (h : RnBad s i d) : ∀ (f : Nat) (o : List Tok), s.length < i + f → readLoop s f i o = ([], d) := by
  induction h with
  | @bad i e h1 h2 =>
    intro f o hf
    obtain ⟨g, rfl⟩ : ∃ g, f = g + 1 := ⟨f - 1, by omega⟩
    rw [readLoop, if_pos h1, h2]
  | @skip i n l h1 h2 _ ih =>
    intro f o hf
    obtain ⟨g, rfl⟩ : ∃ g, f = g + 1 := ⟨f - 1, by omega⟩
    have := lexF_ok h1
    rw [h2] at this
    rw [rl_skip h1 h2, ih g o (by have := this.1; omega)]
  | @tok i n k v t l h1 h2 _ ih =>
    intro f o hf
    obtain ⟨g, rfl⟩ : ∃ g, f = g + 1 := ⟨f - 1, by omega⟩
    have := lexF_ok h1
    rw [h2] at this
    rw [rl_tok h1 h2, ih g _ (by have := this.1; omega)]
theorem rnb_num {s : List UInt8} {i : Nat} {d : Diag} (h : RnBad s i d) : 11 ≤ d.number ∧ d.number ≤ 14 := by
  induction h with
  | bad h1 h2 => have := lexF_ok h1; rw [h2] at this; exact this
  | skip _ _ _ ih => exact ih
  | tok _ _ _ ih => exact ih
theorem rnb_pos {s : List UInt8} {i : Nat} {d : Diag} (h : RnBad s i d) : d.file = [] ∧ ∃ p, p < s.length ∧ d.line = (posF s p).1 ∧ d.col = (posF s p).2 := by
  induction h with
  | @bad i e h1 h2 => exact ⟨rfl, i, h1, rfl, rfl⟩
  | skip _ _ _ ih => exact ih
  | tok _ _ _ ih => exact ih
theorem rno_ne {s : List UInt8} {i : Nat} {l : List Tok} (h : RnOk s i l) : l ≠ [] := by
  induction h with
  | fin => simp
  | skip _ _ _ ih => exact ih
  | tok _ _ _ ih => simp
/-- what 'readF' answers -/
theorem read_ok {s : List UInt8} {l : List Tok} (hs : s.length ≤ 16384) (h : RnOk s 0 l) : readF s = (l, .ok) := by
  rw [readF, if_neg (by omega), rn_ok h _ _ (by omega)]; rfl
theorem read_no {s : List UInt8} {d : Diag} (hs : s.length ≤ 16384) (h : RnBad s 0 d) : readF s = ([], d) := by
  rw [readF, if_neg (by omega), rn_bad h _ _ (by omega)]
theorem read_is {s : List UInt8} {l : List Tok} {d : Diag} (h : readF s = (l, d)) : (16384 < s.length ∧ l = [] ∧ d = ⟨[], 1, 1, 10⟩) ∨ (s.length ≤ 16384 ∧ ((d = .ok ∧ RnOk s 0 l) ∨ (l = [] ∧ RnBad s 0 d))) := by
  by_cases hs : 16384 < s.length
  · rw [readF, if_pos hs] at h; cases h; exact .inl ⟨hs, rfl, rfl⟩
  · refine .inr ⟨by omega, ?_⟩
    rcases rn_tot s (s.length + 1) 0 (by omega) (by omega) with ⟨l', hl⟩ | ⟨d', hd⟩
    · rw [read_ok (by omega) hl] at h; cases h; exact .inl ⟨rfl, hl⟩
    · rw [read_no (by omega) hd] at h; cases h; exact .inr ⟨rfl, hd⟩
/-! places -/
theorem pos_ge (s : List UInt8) : ∀ i, 1 ≤ (posF s i).1 ∧ 1 ≤ (posF s i).2
  | 0 => ⟨by simp [posF], by simp [posF]⟩
  | i + 1 => by
    have := pos_ge s i
    rw [posF]; split
    · exact ⟨by simp, by simp⟩
    · exact ⟨this.1, by simp⟩
/-- stands a place ahead of another one? -/
def Ahead (p q : Nat × Nat) : Prop := p.1 < q.1 ∨ (p.1 = q.1 ∧ p.2 < q.2)
theorem pos_step (s : List UInt8) (i : Nat) : Ahead (posF s i) (posF s (i + 1)) := by
  rw [posF]; split
  · exact .inl (Nat.lt_succ_self _)
  · exact .inr ⟨rfl, Nat.lt_succ_self _⟩
theorem pos_lt (s : List UInt8) (i : Nat) : ∀ k, Ahead (posF s i) (posF s (i + (k + 1)))
  | 0 => pos_step s i
  | k + 1 => by
    have h1 := pos_lt s i k
    have h2 := pos_step s (i + (k + 1))
    unfold Ahead at h1 h2 ⊢
    show _ < (posF s (i + (k + 1) + 1)).1 ∨ _ = (posF s (i + (k + 1) + 1)).1 ∧ _ < (posF s (i + (k + 1) + 1)).2
    omega
theorem pos_lt2 (s : List UInt8) {i j : Nat} (h : i < j) : Ahead (posF s i) (posF s j) := by
  obtain ⟨k, rfl⟩ : ∃ k, j = i + (k + 1) := ⟨j - i - 1, by omega⟩
  exact pos_lt s i k
theorem pos_app {s r : List UInt8} : ∀ {i : Nat}, i ≤ s.length → posF (s ++ r) i = posF s i
  | 0, _ => rfl
  | i + 1, h => by
    rw [posF, posF, gt_app (by omega), pos_app (by omega)]
theorem pos_join (a b : List UInt8) : ∀ k, posF (a ++ 10 :: b) (a.length + 1 + k) = ((posF a a.length).1 + (posF b k).1, (posF b k).2)
  | 0 => by
    show posF (a ++ 10 :: b) (a.length + 1) = _
    rw [show posF b 0 = (1, 1) from rfl, posF, gt_mid, if_pos rfl, pos_app (Nat.le_refl _)]
  | k + 1 => by
    have e : gt (a ++ 10 :: b) (a.length + 1 + k) = gt b k := by
      have : a ++ 10 :: b = (a ++ [10]) ++ b := by simp
      rw [this]
      unfold gt
      rw [List.getD_eq_getElem?_getD, List.getElem?_append_right (by simp), List.getD_eq_getElem?_getD]
      simp
    show posF (a ++ 10 :: b) (a.length + 1 + k + 1) = _
    rw [posF, e, pos_join a b k, posF]
    split
    · rfl
    · rfl
end Go.Proofs.YtanpeofnlihhoaaDoor
