/- PLAIN: what the lexer's laws ask: of texts behind, ahead of, and beside one another, and of places. -/
import Derived.Test.YtanpeofnlihhoaaDoorLx3
namespace Go.Proofs.YtanpeofnlihhoaaDoor
open Go
theorem drop_pre (p t : List UInt8) (k : Nat) : (p ++ t).drop (p.length + k) = t.drop k := by rw [← List.drop_drop, List.drop_left]
theorem drop_pos {a : List UInt8} {i : Nat} (h : i < a.length) : a.drop i ≠ [] := fun e => by
  have := congrArg List.length e
  rw [drop_len, List.length_nil] at this
  omega
theorem lex_join {a : List UInt8} (b : List UInt8) {i : Nat} (h : i < a.length) (hb : ∀ e, lexF a i = .bad e → e ≠ 14) : lexF (a ++ 10 :: b) i = lexF a i := by
  rw [← lexF_drop (a ++ 10 :: b), List.drop_append_of_le_length (Nat.le_of_lt h), lexF_app b (drop_pos h) (by rw [lexF_drop]; exact hb), lexF_drop]
theorem lex_join14 {a : List UInt8} {i : Nat} (h : i < a.length) (hb : lexF a i = .bad 14) : lexF (a ++ [10]) i = .bad 14 := by
  rw [← lexF_drop (a ++ [10]), List.drop_append_of_le_length (Nat.le_of_lt h)]
  exact lexF_app14 (drop_pos h) (by rw [lexF_drop]; exact hb)
theorem lex_mid (a b : List UInt8) : lexF (a ++ 10 :: b) a.length = .skip 1 := by
  unfold lexF; dsimp only; rw [gt_mid, if_pos (.inr rfl)]
theorem lex_after (a b : List UInt8) (k : Nat) : lexF (a ++ 10 :: b) (a.length + 1 + k) = lexF b k := by
  have e : a ++ 10 :: b = (a ++ [10]) ++ b := by simp
  have e2 : a.length + 1 + k = (a ++ [10]).length + k := by simp
  rw [← lexF_drop, e, e2, drop_pre, lexF_drop]
theorem lex_ahead (p t : List UInt8) (k : Nat) : lexF (p ++ t) (p.length + k) = lexF t k := by rw [← lexF_drop, drop_pre, lexF_drop]
theorem len_mid (a b : List UInt8) : (a ++ 10 :: b).length = a.length + 1 + b.length := by rw [List.length_append, List.length_cons]; omega
theorem rno_skip {s : List UInt8} {i n : Nat} {m : List Tok} (h : i < s.length) (hx : lexF s i = .skip n) (hm : RnOk s i m) : RnOk s (i + n) m := by
  cases hm with
  | fin => omega
  | skip _ h2 h3 => rw [hx] at h2; cases h2; exact h3
  | tok _ h2 h3 => rw [hx] at h2; cases h2
theorem rno_tok {s : List UInt8} {i n : Nat} {k v : Int} {t : List UInt8} {m : List Tok} (h : i < s.length) (hx : lexF s i = .tok k t v n) (hm : RnOk s i m) : ∃ m', m = ⟨k, t, v, (posF s i).1, (posF s i).2⟩ :: m' ∧ RnOk s (i + n) m' := by
  cases hm with
  | fin => omega
  | skip _ h2 h3 => rw [hx] at h2; cases h2
  | tok _ h2 h3 => rw [hx] at h2; cases h2; exact ⟨_, rfl, h3⟩
/-! LexFirst -/
section
variable {t b : List UInt8} {i : Nat}
theorem mid_eq (t b : List UInt8) : t ++ 10 :: b = (t ++ [10]) ++ b := by simp
theorem lex_first (h : i < (t ++ [10]).length) (hb : lexF (t ++ [10]) i ≠ .bad 14) : lexF (t ++ 10 :: b) i = lexF (t ++ [10]) i := by
  by_cases hi : i < t.length
  · have h14 : ∀ e, lexF t i = .bad e → e ≠ 14 := fun e he h14 => hb (lex_join14 hi (by rw [he, h14]))
    rw [lex_join b hi h14, lex_join [] hi h14]
  · obtain rfl : i = t.length := by rw [List.length_append, List.length_singleton] at h; omega
    rw [lex_mid, lex_mid]
theorem pos_first (h : i ≤ (t ++ [10]).length) : posF (t ++ 10 :: b) i = posF (t ++ [10]) i := by rw [mid_eq t b, pos_app h]
theorem lt_first (h : i < (t ++ [10]).length) : i < (t ++ 10 :: b).length := by rw [mid_eq t b, List.length_append]; omega
theorem first_bad {d : Diag} (h : RnBad (t ++ [10]) i d) (hn : d.number ≠ 14) : RnBad (t ++ 10 :: b) i d := by
  induction h with
  | @bad i e h1 h2 =>
    have := RnBad.bad (lt_first (b := b) h1) ((lex_first h1 (fun h => by rw [h2] at h; cases h; exact hn rfl)).trans h2)
    rwa [pos_first (Nat.le_of_lt h1)] at this
  | skip h1 h2 _ ih => exact .skip (lt_first h1) ((lex_first h1 (fun h => by rw [h2] at h; cases h)).trans h2) (ih hn)
  | tok h1 h2 _ ih => exact .tok (lt_first h1) ((lex_first h1 (fun h => by rw [h2] at h; cases h)).trans h2) (ih hn)
theorem first_ok {l : List Tok} (h : RnOk (t ++ [10]) i l) : ∀ m, RnOk (t ++ 10 :: b) i m → ∃ r, m = l.dropLast ++ r ∧ r ≠ [] := by
  induction h with
  | fin => intro m hm; exact ⟨m, rfl, rno_ne hm⟩
  | skip h1 h2 _ ih =>
    intro m hm
    exact ih m (rno_skip (lt_first h1) ((lex_first h1 (fun h => by rw [h2] at h; cases h)).trans h2) hm)
  | @tok i n k v x l h1 h2 h3 ih =>
    intro m hm
    obtain ⟨m', rfl, hm'⟩ := rno_tok (lt_first h1) ((lex_first h1 (fun h => by rw [h2] at h; cases h)).trans h2) hm
    obtain ⟨r, rfl, hr⟩ := ih m' hm'
    refine ⟨r, ?_, hr⟩
    rw [List.dropLast_cons_of_ne_nil (rno_ne h3), pos_first (Nat.le_of_lt h1)]; rfl
end
/-! LexJoins -/
def downT (c : Int) (t : Tok) : Tok := { t with line := c + t.line }
section
variable {a b : List UInt8}
theorem join_aft {k : Nat} {m : List Tok} (h : RnOk b k m) : RnOk (a ++ 10 :: b) (a.length + 1 + k) (m.map (downT (posF a a.length).1)) := by
  induction h with
  | fin =>
    have h := RnOk.fin (s := a ++ 10 :: b)
    rw [endT, len_mid, pos_join] at h
    exact h
  | @skip k n l h1 h2 _ ih =>
    exact .skip (by rw [len_mid]; omega) ((lex_after a b k).trans h2) (by rw [Nat.add_assoc]; exact ih)
  | @tok k n kd v t l h1 h2 _ ih =>
    have h := RnOk.tok (s := a ++ 10 :: b) (i := a.length + 1 + k) (by rw [len_mid]; omega) ((lex_after a b k).trans h2) (by rw [Nat.add_assoc]; exact ih)
    rw [pos_join] at h
    exact h
theorem join_ok {i : Nat} {l m : List Tok} (h : RnOk a i l) (hm : RnOk b 0 m) : RnOk (a ++ 10 :: b) i (l.dropLast ++ m.map (downT (posF a a.length).1)) := by
  induction h with
  | fin => exact .skip (by rw [len_mid]; omega) (lex_mid a b) (join_aft hm)
  | @skip i n l h1 h2 _ ih => exact .skip (by rw [len_mid]; omega) ((lex_join b h1 (fun e he => by rw [h2] at he; cases he)).trans h2) ih
  | @tok i n k v t l h1 h2 h3 ih =>
    rw [List.dropLast_cons_of_ne_nil (rno_ne h3)]
    have h := RnOk.tok (s := a ++ 10 :: b) (by rw [len_mid]; omega) ((lex_join b h1 (fun e he => by rw [h2] at he; cases he)).trans h2) ih
    rw [pos_app (Nat.le_of_lt h1)] at h
    exact h
end
/-! LexShifts -/
def aheadL (m n : Nat) : List UInt8 := List.replicate m 10 ++ List.replicate n 32
def moveP (m n : Nat) (p : Nat × Nat) : Nat × Nat := (m + p.1, if p.1 = 1 then p.2 + n else p.2)
def moveT (m n : Nat) (t : Tok) : Tok := { t with line := m + t.line, col := if t.line = 1 then t.col + n else t.col }
def moveD (m n : Nat) (d : Diag) : Diag := { d with line := m + d.line, col := if d.line = 1 then d.col + n else d.col }
section
variable {m n : Nat} {t : List UInt8}
theorem ahead_len (m n : Nat) : (aheadL m n).length = m + n := by simp [aheadL]
theorem gt_ahead (m n : Nat) (t : List UInt8) {i : Nat} (h : i < m + n) : gt (aheadL m n ++ t) i = if i < m then 10 else 32 := by
  rw [gt_app (by rw [ahead_len]; exact h)]
  unfold aheadL
  by_cases hi : i < m
  · rw [if_pos hi, gt_app (by simpa using hi)]
    unfold gt
    rw [List.getD_eq_getElem?_getD, List.getElem?_replicate, if_pos hi]; rfl
  · rw [if_neg hi]
    unfold gt
    rw [List.getD_eq_getElem?_getD, List.getElem?_append_right (by simp; omega), List.getElem?_replicate, if_pos (by simp; omega)]; rfl
theorem pos_lines (n : Nat) (t : List UInt8) : ∀ i, i ≤ m → posF (aheadL m n ++ t) i = (1 + i, 1)
  | 0, _ => rfl
  | i + 1, h => by rw [posF, gt_ahead m n t (by omega), if_pos (show i < m by omega), if_pos rfl, pos_lines n t i (by omega)]; rfl
theorem pos_blanks (t : List UInt8) : ∀ i, i ≤ n → posF (aheadL m n ++ t) (m + i) = (1 + m, 1 + i)
  | 0, _ => pos_lines n t m (Nat.le_refl _)
  | i + 1, h => by
    show posF _ (m + i + 1) = _
    rw [posF, gt_ahead m n t (by omega), if_neg (show ¬ m + i < m by omega), if_neg (by decide), pos_blanks t i (by omega)]; rfl
theorem pos_ahead (m n : Nat) (t : List UInt8) : ∀ k, posF (aheadL m n ++ t) (m + n + k) = moveP m n (posF t k)
  | 0 => by rw [Nat.add_zero, pos_blanks t n (Nat.le_refl _)]; simp [moveP, posF]; omega
  | k + 1 => by
    have e : gt (aheadL m n ++ t) (m + n + k) = gt t k := by
      unfold gt
      rw [List.getD_eq_getElem?_getD, List.getElem?_append_right (by rw [ahead_len]; omega), List.getD_eq_getElem?_getD, ahead_len, Nat.add_sub_cancel_left]
    show posF _ (m + n + k + 1) = _
    have hp := pos_ge t k
    rw [posF, e, pos_ahead m n t k, posF]
    split
    · unfold moveP
      rw [if_neg (show ¬ (posF t k).1 + 1 = 1 by omega)]; rfl
    · unfold moveP
      dsimp only
      split
      · congr 1; omega
      · rfl
theorem lex_ahead2 (m n : Nat) (t : List UInt8) (k : Nat) : lexF (aheadL m n ++ t) (m + n + k) = lexF t k := by
  have := lex_ahead (aheadL m n) t k
  rwa [ahead_len] at this
theorem lex_blanks (m n : Nat) (t : List UInt8) {i : Nat} (h : i < m + n) : lexF (aheadL m n ++ t) i = .skip 1 := by
  unfold lexF; dsimp only; rw [gt_ahead m n t h, if_pos]
  split
  · exact .inr rfl
  · exact .inl rfl
theorem len_ahead (m n : Nat) (t : List UInt8) : (aheadL m n ++ t).length = m + n + t.length := by rw [List.length_append, ahead_len]
theorem move_eq (m n : Nat) (k v : Int) (x : List UInt8) (p : Nat × Nat) : (⟨k, x, v, (moveP m n p).1, (moveP m n p).2⟩ : Tok) = moveT m n ⟨k, x, v, p.1, p.2⟩ := by
  unfold moveP moveT
  dsimp only
  by_cases h : p.1 = 1
  · rw [if_pos h, if_pos (by omega)]; congr 1
  · rw [if_neg h, if_neg (by omega)]; congr 1
theorem moveD_eq (m n : Nat) (e : Int) (p : Nat × Nat) : (⟨[], (moveP m n p).1, (moveP m n p).2, e⟩ : Diag) = moveD m n ⟨[], p.1, p.2, e⟩ := by
  unfold moveP moveD
  dsimp only
  by_cases h : p.1 = 1
  · rw [if_pos h, if_pos (by omega)]; congr 1
  · rw [if_neg h, if_neg (by omega)]; congr 1
theorem move_ok {k : Nat} {l : List Tok} (h : RnOk t k l) : RnOk (aheadL m n ++ t) (m + n + k) (l.map (moveT m n)) := by
  induction h with
  | fin =>
    have h := RnOk.fin (s := aheadL m n ++ t)
    rw [endT, len_ahead, pos_ahead, move_eq] at h
    exact h
  | @skip k n' l h1 h2 _ ih => exact .skip (by rw [len_ahead]; omega) ((lex_ahead2 m n t k).trans h2) (by rw [Nat.add_assoc]; exact ih)
  | @tok k n' kd v x l h1 h2 _ ih =>
    have h := RnOk.tok (s := aheadL m n ++ t) (i := m + n + k) (by rw [len_ahead]; omega) ((lex_ahead2 m n t k).trans h2) (by rw [Nat.add_assoc]; exact ih)
    rw [pos_ahead, move_eq] at h
    exact h
theorem move_bad {k : Nat} {d : Diag} (h : RnBad t k d) : RnBad (aheadL m n ++ t) (m + n + k) (moveD m n d) := by
  induction h with
  | @bad k e h1 h2 =>
    have h := RnBad.bad (s := aheadL m n ++ t) (i := m + n + k) (by rw [len_ahead]; omega) ((lex_ahead2 m n t k).trans h2)
    rw [pos_ahead, moveD_eq] at h
    exact h
  | @skip k n' l h1 h2 _ ih => exact .skip (by rw [len_ahead]; omega) ((lex_ahead2 m n t k).trans h2) (by rw [Nat.add_assoc]; exact ih)
  | @tok k n' kd v x l h1 h2 _ ih => exact .tok (by rw [len_ahead]; omega) ((lex_ahead2 m n t k).trans h2) (by rw [Nat.add_assoc]; exact ih)
theorem ahead_ok {l : List Tok} (h : RnOk (aheadL m n ++ t) (m + n) l) : ∀ j, j ≤ m + n → RnOk (aheadL m n ++ t) (m + n - j) l
  | 0, _ => h
  | j + 1, hj => .skip (by rw [len_ahead]; omega) (lex_blanks m n t (by omega)) (by rw [show m + n - (j + 1) + 1 = m + n - j by omega]; exact ahead_ok h j (by omega))
theorem ahead_bad {d : Diag} (h : RnBad (aheadL m n ++ t) (m + n) d) : ∀ j, j ≤ m + n → RnBad (aheadL m n ++ t) (m + n - j) d
  | 0, _ => h
  | j + 1, hj => .skip (by rw [len_ahead]; omega) (lex_blanks m n t (by omega)) (by rw [show m + n - (j + 1) + 1 = m + n - j by omega]; exact ahead_bad h j (by omega))
theorem moved {l : List Tok} {d : Diag} (hs : (aheadL m n ++ t).length ≤ 16384) (h : readF t = (l, d)) : (d = .ok ∧ readF (aheadL m n ++ t) = (l.map (moveT m n), .ok)) ∨ (l = [] ∧ 11 ≤ d.number ∧ readF (aheadL m n ++ t) = ([], moveD m n d)) := by
  rcases read_is h with ⟨h1, _, _⟩ | ⟨_, ⟨rfl, h2⟩ | ⟨rfl, h2⟩⟩
  · rw [len_ahead] at hs; omega
  · have h3 := ahead_ok (move_ok (m := m) (n := n) h2) (m + n) (Nat.le_refl _)
    rw [Nat.sub_self] at h3
    exact .inl ⟨rfl, read_ok hs h3⟩
  · have h3 := ahead_bad (move_bad (m := m) (n := n) h2) (m + n) (Nat.le_refl _)
    rw [Nat.sub_self] at h3
    exact .inr ⟨rfl, (rnb_num h2).1, read_no hs h3⟩
end
/-! LexPlaces -/
theorem place_tok {s : List UInt8} {p : Nat} {l : List Tok} (h : RnOk s p l) : ∀ t r, l = t :: r → ∃ q, p ≤ q ∧ q ≤ s.length ∧ t.line = (posF s q).1 ∧ t.col = (posF s q).2 ∧
    ((r = [] ∧ t.kind = 9 ∧ q = s.length) ∨ (r ≠ [] ∧ t.kind ≠ 9 ∧ q < s.length ∧ (t.kind = 6 → gt s q = 34) ∧ (t.kind ≠ 6 → ∃ n, 1 ≤ n ∧ q + n ≤ s.length ∧ t.text = cutF s q n) ∧ ∃ q', q ≤ q' ∧ RnOk s q' r)) := by
  induction h with
  | fin => intro t r e; cases e; exact ⟨s.length, Nat.le_refl _, Nat.le_refl _, rfl, rfl, .inl ⟨rfl, rfl, rfl⟩⟩
  | @skip i n l h1 h2 _ ih =>
    intro t r e
    obtain ⟨q, hq, rest⟩ := ih t r e
    exact ⟨q, by omega, rest⟩
  | @tok i n k v x l h1 h2 h3 ih =>
    intro t r e
    cases e
    have hs := lexF_ok h1
    rw [h2] at hs
    obtain ⟨g1, g2, g3, g4, g5⟩ := hs
    exact ⟨i, Nat.le_refl _, Nat.le_of_lt h1, rfl, rfl, .inr ⟨rno_ne h3, g3, h1, g5, fun hk => ⟨n, g1, g2, g4 hk⟩, i + n, by omega, h3⟩⟩
theorem last_end {s : List UInt8} {p : Nat} {l : List Tok} (h : RnOk s p l) : ∃ t, l[l.length - 1]? = some t ∧ t.kind = 9 := by
  induction h with
  | fin => exact ⟨_, rfl, rfl⟩
  | skip _ _ _ ih => exact ih
  | @tok i n k v x l h1 h2 h3 ih =>
    obtain ⟨t, ht, hk⟩ := ih
    have := List.length_pos_iff.2 (rno_ne h3)
    refine ⟨t, ?_, hk⟩
    rw [List.length_cons, Nat.add_sub_cancel, show l.length = (l.length - 1) + 1 by omega, List.getElem?_cons_succ]
    exact ht
end Go.Proofs.YtanpeofnlihhoaaDoor
