import Derived.Test.YtanpeofnlihhoaaDoorRd
import Derived.Test.YtanpeofnlihhoaaDoorPl1
import Derived.Test.YtanpeofnlihhoaaDoorGw8
namespace Go.Proofs.YtanpeofnlihhoaaDoor
open Go
set_option maxRecDepth 100000

theorem gt_iff {s : List UInt8} {i : Nat} {n : Int} (c : UInt8) (hc : (c.toNat : Int) = n) : ((s.getD i 0).toNat : Int) = n ↔ gt s i = c :=
  ⟨fun h => gt_eq c hc h, fun h => by have e : s.getD i 0 = c := h; rw [e]; exact hc⟩
theorem le_iff8 {s : List UInt8} {i : Nat} (a b : UInt8) : ((a.toNat : Int) ≤ (s.getD i 0).toNat ∧ ((s.getD i 0).toNat : Int) ≤ b.toNat) ↔ (a ≤ gt s i ∧ gt s i ≤ b) := by
  unfold gt
  rw [UInt8.le_iff_toNat_le, UInt8.le_iff_toNat_le]; omega
section
variable {s : List UInt8} {at_ : Nat}
abbrev H3 (s : List UInt8) (at_ : Nat) : Prop := ((s.getD at_ 0).toNat : Int) = 32 ∨ ((s.getD at_ 0).toNat : Int) = 10
abbrev H4 (s : List UInt8) (at_ : Nat) : Prop := (((s.getD at_ 0).toNat : Int) = 123 ∧ (at_ : Int) + 1 < s.length) ∧ ((s.getD (at_ + 1) 0).toNat : Int) = 45
abbrev H6 (s : List UInt8) (at_ : Nat) : Prop := letterB (s.getD at_ 0) = true ∨ ((s.getD at_ 0).toNat : Int) = 95
theorem i3 : H3 s at_ ↔ (gt s at_ = 32 ∨ gt s at_ = 10) := by unfold H3; rw [gt_iff (n := 32) 32 rfl, gt_iff (n := 10) 10 rfl]
theorem i4 : H4 s at_ ↔ (gt s at_ = 123 ∧ at_ + 1 < s.length ∧ gt s (at_ + 1) = 45) := by
  unfold H4; rw [gt_iff (n := 123) 123 rfl, gt_iff (n := 45) 45 rfl, and_assoc]
  have : (at_ : Int) + 1 < s.length ↔ at_ + 1 < s.length := by omega
  rw [this]
theorem i6 : H6 s at_ ↔ (letterB (gt s at_) = true ∨ gt s at_ = 95) := by unfold H6; rw [gt_iff (n := 95) 95 rfl]; exact Iff.rfl
theorem lex_blank (h3 : H3 s at_) : lexF s at_ = .skip 1 := by
  unfold lexF; dsimp only; rw [if_pos (i3.1 h3)]
theorem lex_rem (h3 : ¬ H3 s at_) (h4 : H4 s at_) : lexF s at_ = match remarkF s at_ with | none => .bad 14 | some k => .skip k := by
  unfold lexF; dsimp only; rw [if_neg (fun h => h3 (i3.2 h)), if_pos (i4.1 h4)]
  rfl
theorem lex_word (h3 : ¬ H3 s at_) (h4 : ¬ H4 s at_) (h6 : H6 s at_) {k : Int}
    (hk : (if wordsL.contains (cutF s at_ (rowF s at_ 0)) then 7 else if cutF s at_ (rowF s at_ 0) = [95] then 8 else if 65 ≤ gt s at_ ∧ gt s at_ ≤ 90 then 2 else 1) = k) : lexF s at_ = .tok k (cutF s at_ (rowF s at_ 0)) 0 (rowF s at_ 0) := by
  unfold lexF; dsimp only; rw [if_neg (fun h => h3 (i3.2 h)), if_neg (fun h => h4 (i4.2 h)), if_pos (i6.1 h6), hk]
theorem lex_int (h3 : ¬ H3 s at_) (h4 : ¬ H4 s at_) (h6 : ¬ H6 s at_) (h10 : digitB (s.getD at_ 0) = true) :
    lexF s at_ = match numF (cutF s at_ (rowF s at_ 1)) 0 with | none => .bad 12 | some v => .tok 5 (cutF s at_ (rowF s at_ 1)) v (rowF s at_ 1) := by
  unfold lexF; dsimp only; rw [if_neg (fun h => h3 (i3.2 h)), if_neg (fun h => h4 (i4.2 h)), if_neg (fun h => h6 (i6.2 h)), if_pos (show digitB (gt s at_) = true from h10)]
  rfl
theorem lex_mark (h3 : ¬ H3 s at_) (h4 : ¬ H4 s at_) (h6 : ¬ H6 s at_) (h10 : ¬ digitB (s.getD at_ 0) = true) (h13 : markB (s.getD at_ 0) = true) (hm : ¬ ((cutF s at_ (rowF s at_ 2)).all (fun c => c = 45) = true ∧ 2 ≤ rowF s at_ 2)) {k : Int}
    (hk : (if signsL.contains (cutF s at_ (rowF s at_ 2)) then 8 else if gt s at_ = 58 then 4 else 3) = k) : lexF s at_ = .tok k (cutF s at_ (rowF s at_ 2)) 0 (rowF s at_ 2) := by
  unfold lexF; dsimp only; rw [if_neg (fun h => h3 (i3.2 h)), if_neg (fun h => h4 (i4.2 h)), if_neg (fun h => h6 (i6.2 h)), if_neg (show ¬ digitB (gt s at_) = true from h10), if_pos (show markB (gt s at_) = true from h13), if_neg hm, hk]
theorem lex_line (h3 : ¬ H3 s at_) (h4 : ¬ H4 s at_) (h6 : ¬ H6 s at_) (h10 : ¬ digitB (s.getD at_ 0) = true) (h13 : markB (s.getD at_ 0) = true) (hm : (cutF s at_ (rowF s at_ 2)).all (fun c => c = 45) = true ∧ 2 ≤ rowF s at_ 2) :
    lexF s at_ = .skip (rowF s at_ 3) := by
  unfold lexF; dsimp only; rw [if_neg (fun h => h3 (i3.2 h)), if_neg (fun h => h4 (i4.2 h)), if_neg (fun h => h6 (i6.2 h)), if_neg (show ¬ digitB (gt s at_) = true from h10), if_pos (show markB (gt s at_) = true from h13), if_pos hm]
theorem lex_single (h3 : ¬ H3 s at_) (h4 : ¬ H4 s at_) (h6 : ¬ H6 s at_) (h10 : ¬ digitB (s.getD at_ 0) = true) (h13 : ¬ markB (s.getD at_ 0) = true) (h18 : singlesL.contains (s.getD at_ 0) = true) : lexF s at_ = .tok 8 (cutF s at_ 1) 0 1 := by
  unfold lexF; dsimp only; rw [if_neg (fun h => h3 (i3.2 h)), if_neg (fun h => h4 (i4.2 h)), if_neg (fun h => h6 (i6.2 h)), if_neg (show ¬ digitB (gt s at_) = true from h10), if_neg (show ¬ markB (gt s at_) = true from h13), if_pos (show singlesL.contains (gt s at_) = true from h18)]
theorem lex_text (h3 : ¬ H3 s at_) (h4 : ¬ H4 s at_) (h6 : ¬ H6 s at_) (h10 : ¬ digitB (s.getD at_ 0) = true) (h13 : ¬ markB (s.getD at_ 0) = true) (h18 : ¬ singlesL.contains (s.getD at_ 0) = true) (h19 : ((s.getD at_ 0).toNat : Int) = 34) :
    lexF s at_ = match textF s at_ with | none => .bad 13 | some (t, n) => .tok 6 t 0 n := by
  unfold lexF; dsimp only; rw [if_neg (fun h => h3 (i3.2 h)), if_neg (fun h => h4 (i4.2 h)), if_neg (fun h => h6 (i6.2 h)), if_neg (show ¬ digitB (gt s at_) = true from h10), if_neg (show ¬ markB (gt s at_) = true from h13), if_neg (show ¬ singlesL.contains (gt s at_) = true from h18), if_pos (gt_eq 34 rfl h19)]
  rfl
theorem lex_byte (h3 : ¬ H3 s at_) (h4 : ¬ H4 s at_) (h6 : ¬ H6 s at_) (h10 : ¬ digitB (s.getD at_ 0) = true) (h13 : ¬ markB (s.getD at_ 0) = true) (h18 : ¬ singlesL.contains (s.getD at_ 0) = true) (h19 : ¬ ((s.getD at_ 0).toNat : Int) = 34) : lexF s at_ = .bad 11 := by
  unfold lexF; dsimp only; rw [if_neg (fun h => h3 (i3.2 h)), if_neg (fun h => h4 (i4.2 h)), if_neg (fun h => h6 (i6.2 h)), if_neg (show ¬ digitB (gt s at_) = true from h10), if_neg (show ¬ markB (gt s at_) = true from h13), if_neg (show ¬ singlesL.contains (gt s at_) = true from h18), if_neg (gt_ne 34 rfl h19)]

theorem rl_skip {g n : Nat} {out : List Tok} (h : at_ < s.length) (hl : lexF s at_ = .skip n) : readLoop s (g + 1) at_ out = readLoop s g (at_ + n) out := by rw [readLoop, if_pos h, hl]
theorem rl_tok {g n : Nat} {out : List Tok} {k v : Int} {t : List UInt8} (h : at_ < s.length) (hl : lexF s at_ = .tok k t v n) : readLoop s (g + 1) at_ out = readLoop s g (at_ + n) (out ++ [⟨k, t, v, (posF s at_).1, (posF s at_).2⟩]) := by rw [readLoop, if_pos h, hl]
theorem rl_tok2 {g n : Nat} {out : List Tok} {t : Tok} (h : at_ < s.length) (hl : lexF s at_ = .tok t.kind t.text t.num n) (h1 : t.line = (posF s at_).1) (h2 : t.col = (posF s at_).2) : readLoop s (g + 1) at_ out = readLoop s g (at_ + n) (out ++ [t]) := by
  rw [rl_tok h hl, ← h1, ← h2]
theorem rd_bad {g : Nat} {out : List Tok} {e : Int} (h : at_ < s.length) (hr : readLoop s (g + 1) at_ out = readLoop s (s.length + 1) 0 []) (hs : s.length ≤ 16384) (hl : lexF s at_ = .bad e) : readF s = ([], ⟨[], (posF s at_).1, (posF s at_).2, e⟩) := by
  rw [readF, if_neg (by omega), ← hr, readLoop, if_pos h, hl]
theorem rd_end {f : Nat} {out : List Tok} (h : ¬ (at_ : Int) < s.length) (hf : s.length < at_ + f) (hal : at_ ≤ s.length) (hr : readLoop s f at_ out = readLoop s (s.length + 1) 0 []) (hs : s.length ≤ 16384) :
    readF s = (out ++ [⟨9, [], 0, (posF s at_).1, (posF s at_).2⟩], .ok) := by
  obtain ⟨g, rfl⟩ : ∃ g, f = g + 1 := ⟨f - 1, by omega⟩
  rw [readF, if_neg (by omega), ← hr, readLoop, if_neg (by omega)]

theorem remF_le : ∀ (f : Nat) (d : Int) (i k : Nat), remF s at_ f d i = some k → at_ ≤ i → at_ + k ≤ s.length ∧ i + 2 ≤ at_ + k
  | 0, _, _, _, h, _ => by cases h
  | f + 1, d, i, k, h, hi => by
    unfold remF at h
    by_cases h1 : i + 1 < s.length
    · rw [if_pos h1] at h
      by_cases h2 : gt s i = 123 ∧ gt s (i + 1) = 45
      · rw [if_pos h2] at h
        have := remF_le f _ _ _ h (by omega); omega
      · rw [if_neg h2] at h
        by_cases h3 : gt s i = 45 ∧ gt s (i + 1) = 125
        · rw [if_pos h3] at h
          by_cases h4 : d - 1 = 0
          · rw [if_pos h4] at h; cases h; omega
          · rw [if_neg h4] at h
            have := remF_le f _ _ _ h (by omega); omega
        · rw [if_neg h3] at h
          have := remF_le f _ _ _ h (by omega); omega
    · rw [if_neg h1] at h; cases h
theorem rem_le {k : Nat} (h : remarkF s at_ = some k) : at_ + k ≤ s.length ∧ 2 ≤ k := by
  have := remF_le _ _ _ _ h (Nat.le_refl _); omega
theorem decF_le : ∀ (f n i : Nat), i ≤ s.length → i ≤ (decF s f n i).2 ∧ (decF s f n i).2 ≤ s.length
  | 0, n, i, h => ⟨Nat.le_refl _, h⟩
  | f + 1, n, i, h => by
    unfold decF
    by_cases h1 : i < s.length ∧ digitB (gt s i) = true
    · rw [if_pos h1]
      have := decF_le f (min (10 * n + ((gt s i).toNat - 48)) 1000) (i + 1) (by omega); omega
    · rw [if_neg h1]; exact ⟨Nat.le_refl _, h⟩
theorem txtF_le : ∀ (f : Nat) (out : List UInt8) (i : Nat) (t : List UInt8) (k : Nat), txtF s f out i = some (t, k) → i < k ∧ k ≤ s.length
  | 0, _, _, _, _, h => by cases h
  | f + 1, out, i, t, k, h => by
    unfold txtF at h
    by_cases h1 : i < s.length
    · rw [if_pos h1] at h
      by_cases h2 : gt s i = 34
      · rw [if_pos h2] at h; cases h; omega
      · rw [if_neg h2] at h
        by_cases h3 : ¬ gt s i = 92
        · rw [if_pos h3] at h
          by_cases h4 : gt s i < 32 ∨ 126 < gt s i
          · rw [if_pos h4] at h; cases h
          · rw [if_neg h4] at h
            have := txtF_le f _ _ _ _ h; omega
        · rw [if_neg h3] at h
          by_cases h4 : i + 1 < s.length ∧ digitB (gt s (i + 1)) = true
          · rw [if_pos h4] at h
            dsimp only at h
            have hd := decF_le (s := s) s.length 0 (i + 1) (by omega)
            by_cases h5 : 255 < (decF s s.length 0 (i + 1)).1
            · rw [if_pos h5] at h; cases h
            · rw [if_neg h5] at h
              have := txtF_le f _ _ _ _ h; omega
          · rw [if_neg h4] at h
            by_cases h5 : s.length ≤ i + 1 ∨ escsL.contains (gt s (i + 1)) = false
            · rw [if_pos h5] at h; cases h
            · rw [if_neg h5] at h
              have := txtF_le f _ _ _ _ h; omega
    · rw [if_neg h1] at h; cases h
theorem text_le {t : List UInt8} {k : Nat} (h : textF s at_ = some (t, k)) : at_ + k ≤ s.length ∧ 1 ≤ k := by
  unfold textF at h
  cases h1 : txtF s (s.length + 1) [] (at_ + 1) with
  | none => rw [h1] at h; cases h
  | some p =>
    rw [h1] at h
    simp only [Option.map_some, Option.some.injEq, Prod.mk.injEq] at h
    have := txtF_le _ _ _ _ _ (show txtF s (s.length + 1) [] (at_ + 1) = some (p.1, p.2) from h1)
    omega
theorem row_pos {kd : Nat} (h : at_ < s.length) (hg : goesB kd (s.getD at_ 0) = true) : 1 ≤ rowF s at_ kd :=
  row_yes (k := 0) (Nat.zero_le _) (by omega) (by simpa using hg)
theorem row0 (h : at_ < s.length) (h6 : H6 s at_) : 1 ≤ rowF s at_ 0 := row_pos h (by
  rw [goes0 rfl]
  rcases h6 with h | h
  · simp only [h, true_or, decide_true]
  · simp only [h, or_true, true_or, decide_true])
theorem row1 (h : at_ < s.length) (h10 : digitB (s.getD at_ 0) = true) : 1 ≤ rowF s at_ 1 := row_pos h (by rw [goes1 rfl]; exact h10)
theorem row2 (h : at_ < s.length) (h13 : markB (s.getD at_ 0) = true) : 1 ≤ rowF s at_ 2 := row_pos h (by rw [goes2 rfl]; exact h13)
theorem row3 (h : at_ < s.length) (h13 : markB (s.getD at_ 0) = true) : 1 ≤ rowF s at_ 3 := row_pos h (by
  rw [goes3 (by omega) (by omega) (by omega)]
  refine decide_eq_true fun e => ?_
  rw [gt_iff (n := 10) 10 rfl] at e
  have e2 : s.getD at_ 0 = 10 := e
  rw [e2] at h13
  exact absurd h13 (by decide))
theorem tw_all (p : UInt8 → Bool) : ∀ (l : List UInt8) (k : Nat), k < (l.takeWhile p).length → p (l.getD k 0) = true
  | [], k, h => by simp at h
  | c :: l, k, h => by
    by_cases hc : p c = true
    · cases k with
      | zero => simpa using hc
      | succ k =>
        simp only [List.takeWhile_cons, hc, if_true, List.length_cons] at h
        simpa using tw_all p l k (by omega)
    · simp [hc] at h
theorem row_all {kd k : Nat} (h : k < rowF s at_ kd) : goesB kd (s.getD (at_ + k) 0) = true := by
  rw [← drop_getD]; exact tw_all _ _ _ h
theorem cut_len {n : Nat} (h : at_ + n ≤ s.length) : (cutF s at_ n).length = n := by unfold cutF; simp; omega
theorem cut_lt {n k : Nat} (h : at_ + n ≤ s.length) (hk : k < n) : k < (cutF s at_ n).length := by rw [cut_len h]; exact hk
theorem cut_get {n k : Nat} (hk : k < n) : (cutF s at_ n).getD k 0 = s.getD (at_ + k) 0 := by
  unfold cutF
  simp only [List.getD_eq_getElem?_getD, List.getElem?_drop]
  rw [List.getElem?_take, if_pos (by omega)]
theorem row_dig {k : Nat} (h : k < rowF s at_ 1) : (48 : Int) ≤ ((cutF s at_ (rowF s at_ 1)).getD k 0).toNat ∧ (((cutF s at_ (rowF s at_ 1)).getD k 0).toNat : Int) ≤ 57 := by
  rw [cut_get h]
  have := row_all h
  rw [goes1 rfl] at this
  exact digit_iff this
end
section
variable {l : List UInt8} {k N : Nat}
theorem drop_cons (hk : k < l.length) : l.drop k = l.getD k 0 :: l.drop (k + 1) := by
  rw [List.drop_eq_getElem_cons hk]; simp [List.getElem?_eq_getElem hk]
theorem num_hi {c : UInt8} (hd : (48 : Int) ≤ c.toNat ∧ (c.toNat : Int) ≤ 57) : (9223372036854775807 - ((c.toNat : Int) - 48)).tdiv 10 = (((9223372036854775807 - (c.toNat - 48)) / 10 : Nat) : Int) := by
  rw [Int.tdiv_eq_ediv_of_nonneg (by omega)]; omega
theorem num_rng {c : UInt8} (hd : (48 : Int) ≤ c.toNat ∧ (c.toNat : Int) ≤ 57) : -9223372036854775808 ≤ (9223372036854775807 - ((c.toNat : Int) - 48)).tdiv 10 ∧ (9223372036854775807 - ((c.toNat : Int) - 48)).tdiv 10 ≤ 9223372036854775807 := by
  rw [num_hi hd]; omega
theorem num_bad (hk : k < l.length) (hd : (48 : Int) ≤ (l.getD k 0).toNat ∧ ((l.getD k 0).toNat : Int) ≤ 57) (h : (9223372036854775807 - (((l.getD k 0).toNat : Int) - 48)).tdiv 10 < (N : Int)) : numF (l.drop k) N = none := by
  rw [num_hi hd] at h
  rw [drop_cons hk, numF, if_pos (by omega)]
theorem num_go (hk : k < l.length) (hd : (48 : Int) ≤ (l.getD k 0).toNat ∧ ((l.getD k 0).toNat : Int) ≤ 57) (h : ¬ (9223372036854775807 - (((l.getD k 0).toNat : Int) - 48)).tdiv 10 < (N : Int)) :
    numF (l.drop k) N = numF (l.drop (k + 1)) (10 * N + ((l.getD k 0).toNat - 48)) := by
  rw [num_hi hd] at h
  rw [drop_cons hk, numF, if_neg (by omega)]
theorem num_lo {c : UInt8} (hd : (48 : Int) ≤ c.toNat ∧ (c.toNat : Int) ≤ 57) (h : ¬ (9223372036854775807 - ((c.toNat : Int) - 48)).tdiv 10 < (N : Int)) : 10 * (N : Int) + ((c.toNat : Int) - 48) ≤ 9223372036854775807 := by
  rw [num_hi hd] at h; omega
theorem num_cast {c : UInt8} (hd : (48 : Int) ≤ c.toNat ∧ (c.toNat : Int) ≤ 57) : 10 * (N : Int) + ((c.toNat : Int) - 48) = ((10 * N + (c.toNat - 48) : Nat) : Int) := by omega
theorem num_end (hk : l.length ≤ k) : numF (l.drop k) N = some N := by rw [List.drop_of_length_le hk]; rfl
theorem all_on {m : Bool} (hk : k < l.length) (hm : m = (l.take k).all (fun c => c = 45)) : decide (m = true ∧ ((l.getD k 0).toNat : Int) = 45) = (l.take (k + 1)).all (fun c => c = 45) := by
  rw [List.take_add_one, getD_some hk, List.all_append, ← hm]
  have : (((l.getD k 0).toNat : Int) = 45) ↔ l.getD k 0 = 45 := by
    rw [show (45 : Int) = ((45 : UInt8).toNat : Int) from rfl, u8_eq]
  rw [Bool.decide_and]
  simp only [Option.toList_some, List.all_cons, List.all_nil, Bool.and_true, Bool.decide_eq_true]
  rw [decide_eq_decide.2 this]
theorem all_end {m : Bool} (hk : l.length ≤ k) (hm : m = (l.take k).all (fun c => c = 45)) : m = l.all (fun c => c = 45) := by rw [hm, List.take_of_length_le hk]
theorem setOk {n : Int} (s : List UInt8) (i : Nat) (h : RemR s i n) (hn : ¬ n < 0) : ∃ k : Nat, remarkF s i = some k ∧ n = k := by
  rcases h with ⟨_, h⟩ | h
  · omega
  · exact h
theorem setTx {n : Int} {t : List UInt8} (s : List UInt8) (i : Nat) (h : TextR s i t n) (hn : ¬ n < 0) : ∃ k : Nat, textF s i = some (t, k) ∧ n = k := by
  rcases h with ⟨_, h⟩ | h
  · omega
  · exact h
theorem remNo {n : Int} {s : List UInt8} {i : Nat} (h : RemR s i n) (hn : n < 0) : remarkF s i = none := by
  rcases h with ⟨h, _⟩ | ⟨k, _, h⟩
  · exact h
  · omega
theorem txNo {n : Int} {t : List UInt8} {s : List UInt8} {i : Nat} (h : TextR s i t n) (hn : n < 0) : textF s i = none := by
  rcases h with ⟨h, _⟩ | ⟨k, _, h⟩
  · exact h
  · omega
end
set_option maxHeartbeats 4000000 in
theorem read_r (w0 : World) (s : List UInt8) (hlen : s.length ≤ 9223372036854775807) : Ret Tryd.prog 9 #[str s] w0 (fun v w' => ∃ va l d, readF s = (l, d) ∧ v = .tuple #[va, .agg (diagCells d).toArray] ∧ St w0 [] w' [slT va 32 tokE l]) := by
  have hO := St.init0 w0
  refine ret_of (m := 276) Tryd.func9 rfl Tryd.ntmps9 [(0, str s)] rfl ⟨rfl, trivial⟩ fun a hF => ?_
  refine wp_seq ?_
  refine wp_region_lit ?_
  refine wl_v hF rfl rfl rfl (q_assign rfl (hF.eval rfl)) fun a hF => ?_
  refine wl_e hF rfl rfl rfl (e_alloc hO Tryd.zeroValue25 rfl rfl) ?_
  rintro a _ w ⟨dg, rfl, hO⟩ hF
  refine wl_nil ?_
  refine k_n ?_
  refine wp_seq ?_
  refine wp_seq ?_
  refine wp_region_lit ?_
  refine wl_v hF rfl rfl rfl (q_move rfl (hF.eval rfl)) fun a hF => ?_
  refine wl_v hF rfl rfl rfl (q_len Tryd.underlying9 rfl (hF.eval rfl)) fun a hF => ?_
  refine wl_v hF rfl rfl rfl (q_gt rfl (hF.eval rfl) (hF.eval rfl)) fun a hF => ?_
  refine wl_nil ?_
  refine k_n ?_
  refine wp_ifD hF rfl rfl (fun hc1 => ?_) (fun hc1 => ?_)
  · skip
    refine wp_seq ?_
    refine wp_region_lit ?_
    refine wl_v hF rfl rfl rfl (c_build hF Tryd.underlying25 Tryd.zeroValue25 Tryd_places25 rfl rfl rfl rfl) fun a hF => ?_
    refine wl_v hF rfl rfl rfl (q_assign rfl (hF.eval rfl)) fun a hF => ?_
    refine wl_s hF rfl rfl (e_storeAll hO (i := 0) rfl Tryd.sizeOf25 rfl (hF.eval rfl) (hF.eval rfl) rfl rfl) ?_
    rintro a _ w ⟨-, hO⟩ hF
    have hO : St _ _ _ [_] := hO
    refine wl_nil ?_
    refine k_n ?_
    refine wp_ret ?_
    refine k_r ?_
    refine r_tc hF rfl rfl rfl Tryd.isAgg25 Tryd.sizeOf25 (hO.cells 0 rfl) rfl ?_
    exact ⟨_, [], _, by rw [readF, if_pos (by omega)], rfl, by exact ((hO.nilSl 32 5).only)⟩
  · skip
    have hs : s.length ≤ 16384 := by omega
    refine wp_skip ?_
    refine k_n ?_
    refine wp_seq ?_
    refine wp_region_lit ?_
    refine wl_v hF rfl rfl rfl (q_move rfl (hF.eval rfl)) fun a hF => ?_
    refine wl_v hF rfl rfl rfl (c_build hF Tryd.underlying44 Tryd.zeroValue44 Tryd_places44 rfl rfl rfl rfl) fun a hF => ?_
    refine wl_e hF rfl rfl rfl (e_box hO rfl (hF.eval rfl) rfl) ?_
    rintro a _ w ⟨br, rfl, hO⟩ hF
    refine wl_v hF rfl rfl rfl (q_assign rfl (hF.eval rfl)) fun a hF => ?_
    refine wl_nil ?_
    refine k_n ?_
    refine wp_seq ?_
    refine wp_region_lit ?_
    refine wl_v hF rfl rfl rfl (q_assign rfl (hF.eval rfl)) fun a hF => ?_
    have hO := hO.nilSl 32 5
    refine wl_nil ?_
    refine k_n ?_
    refine wp_seq ?_
    refine wp_block ?_
    have hO := hO.pull 2 rfl
    have hO := hO.pull 1 rfl
    have hO := hO.pull 2 rfl
    have hO : St _ _ _ [_, _, _] := hO
    refine wp_loopS (fun (x : Nat × Nat × List Tok × Value) a w' => match x with | (f, at_, out, v) => (readLoop s f at_ out = readLoop s (s.length + 1) 0 [] ∧ at_ ≤ s.length ∧ s.length < at_ + f ∧ out.length ≤ at_) ∧ St w0 [] w' [.ob br 44 (rdr s at_), slT v 32 tokE out, .ob dg 25 [str [], i64 0, i64 0, i64 0]] ∧ Fr a 276 [(0, str s), (3, ptr (adr dg)), (4, ptr (adr br)), (5, v)]) (fun (x : Nat × Nat × List Tok × Value) => match x with | (f, at_, out, v) => f) (s.length + 1, 0, [], _) ⟨⟨rfl, by omega, by omega, by simp⟩, hO, hF.sub ⟨rfl, rfl, rfl, rfl, trivial⟩⟩ ?_
    rintro ⟨f, at_, out, v⟩ a w ⟨⟨hr, hal, hf, hol⟩, hO, hF⟩
    have hrl0 := rowF_le s at_ 0
    have hrl1 := rowF_le s at_ 1
    have hrl2 := rowF_le s at_ 2
    have hrl3 := rowF_le s at_ 3
    refine wp_seq ?_
    refine wp_seq ?_
    refine wp_region_lit ?_
    refine wl_v hF rfl rfl rfl (q_move rfl (hF.eval rfl)) fun a hF => ?_
    refine wl_v hF rfl rfl rfl (q_nilCheck rfl (hF.eval rfl)) fun a hF => ?_
    refine wl_v hF rfl rfl rfl (q_fieldAddr0 (d := 1) Tryd.underlying44 rfl (hF.eval rfl) rfl Tryd.sizeOf3 (by decide) rfl) fun a hF => ?_
    refine wl_v hF rfl rfl rfl (q_load Tryd.isAgg3 rfl (hF.eval rfl) (hO.cell 0 rfl rfl)) fun a hF => ?_
    refine wl_v hF rfl rfl rfl (q_move rfl (hF.eval rfl)) fun a hF => ?_
    refine wl_v hF rfl rfl rfl (q_len Tryd.underlying9 rfl (hF.eval rfl)) fun a hF => ?_
    refine wl_v hF rfl rfl rfl (q_lt rfl (hF.eval rfl) (hF.eval rfl)) fun a hF => ?_
    refine wl_nil ?_
    refine k_n ?_
    refine wp_ifD hF rfl rfl (fun hc2 => ?_) (fun hc2 => ?_)
    · skip
      refine wp_skip ?_
      refine k_n ?_
      refine wp_block ?_
      refine wp_seq ?_
      refine wp_region_lit ?_
      refine wl_v hF rfl rfl rfl (q_move rfl (hF.eval rfl)) fun a hF => ?_
      refine wl_v hF rfl rfl rfl (q_move rfl (hF.eval rfl)) fun a hF => ?_
      refine wl_v hF rfl rfl rfl (q_nilCheck rfl (hF.eval rfl)) fun a hF => ?_
      refine wl_v hF rfl rfl rfl (q_fieldAddr0 (d := 1) Tryd.underlying44 rfl (hF.eval rfl) rfl Tryd.sizeOf3 (by decide) rfl) fun a hF => ?_
      refine wl_v hF rfl rfl rfl (q_load Tryd.isAgg3 rfl (hF.eval rfl) (hO.cell 0 rfl rfl)) fun a hF => ?_
      refine wl_v hF rfl rfl rfl (q_indexD (m := at_) Tryd.underlying9 rfl (hF.eval rfl) (hF.eval rfl) (by omega)) fun a hF => ?_
      refine wl_v hF rfl rfl rfl (q_assign rfl (hF.eval rfl)) fun a hF => ?_
      refine wl_nil ?_
      refine k_n ?_
      refine wp_seq ?_
      have hO := hO.drew
      refine wp_region_D [0, 0, 0, 1, 0, 0, 0, 1, 0, 2, 3] (fun w => St _ _ w _) Tryd_mixed (by kernel_rfl) hO ?_
      refine wd_p hF rfl rfl rfl (fun w => q_move rfl (hF.eval rfl)) fun a hF => ?_
      refine wd_p hF rfl rfl rfl (fun w => q_nilCheck rfl (hF.eval rfl)) fun a hF => ?_
      refine wd_p hF rfl rfl rfl (fun w => q_fieldAddr0 (d := 2) Tryd.underlying44 rfl (hF.eval rfl) rfl Tryd.sizeOf3 (by decide) rfl) fun a hF => ?_
      refine wd_r hF rfl rfl rfl (fun w hO => q_load Tryd.isAgg3 rfl (hF.eval rfl) (hO.cell 0 rfl rfl)) fun a hF => ?_
      refine wd_p hF rfl rfl rfl (fun w => q_move rfl (hF.eval rfl)) fun a hF => ?_
      refine wd_p hF rfl rfl rfl (fun w => q_nilCheck rfl (hF.eval rfl)) fun a hF => ?_
      refine wd_p hF rfl rfl rfl (fun w => q_fieldAddr0 (d := 3) Tryd.underlying44 rfl (hF.eval rfl) rfl Tryd.sizeOf3 (by decide) rfl) fun a hF => ?_
      refine wd_r hF rfl rfl rfl (fun w hO => q_load Tryd.isAgg3 rfl (hF.eval rfl) (hO.cell 0 rfl rfl)) fun a hF => ?_
      refine wd_p hF rfl rfl rfl (fun w => c_build hF Tryd.underlying32 Tryd.zeroValue32 Tryd_places32 rfl rfl rfl rfl) fun a hF => ?_
      refine wd_e hF rfl rfl rfl (e_alloc hO Tryd.zeroValue32 rfl rfl) (fun _ _ ⟨_, _, hO⟩ => hO.tail) ?_
      rintro a _ w ⟨tk, rfl, hO⟩ hF
      refine wd_s hF rfl rfl (e_storeAll hO (i := 0) rfl Tryd.sizeOf32 rfl (hF.eval rfl) (hF.eval rfl) rfl rfl) ?_
      rintro a _ w ⟨-, hO⟩ hF
      have hO : St _ _ _ [_, _, _, _] := hO
      refine wd_nil ?_
      refine k_n ?_
      refine wp_seq ?_
      refine wp_region_lit ?_
      refine wl_v hF rfl rfl rfl (q_assign rfl (hF.eval rfl)) fun a hF => ?_
      refine wl_nil ?_
      refine k_n ?_
      refine wp_seqJ (fun (z : Tok × Nat) a w' => match z with | (t, n) => (lexF s at_ = .tok t.kind t.text t.num n ∧ t.line = (posF s at_).1 ∧ t.col = (posF s at_).2 ∧ 1 ≤ n ∧ at_ + n ≤ s.length) ∧ St w0 [] w' [.ob tk 32 (tokE.cells t), .ob br 44 (rdr s at_), slT v 32 tokE out, .ob dg 25 [str [], i64 0, i64 0, i64 0]] ∧ Fr a 276 [(0, str s), (3, ptr (adr dg)), (4, ptr (adr br)), (5, v), (7, ptr (adr tk)), (8, i64 n)]) ?_ ?_
      · skip
        refine wp_block ?_
        refine wp_seq ?_
        refine wp_region_lit ?_
        refine wl_v hF rfl rfl rfl (q_move rfl (hF.eval rfl)) fun a hF => ?_
        refine wl_v hF rfl rfl rfl (q_eq rfl (hF.eval rfl) (hF.eval rfl)) fun a hF => ?_
        refine wl_v hF rfl rfl rfl (q_move rfl (hF.eval rfl)) fun a hF => ?_
        refine wl_g hF rfl rfl rfl rfl rfl rfl (fun hg => q_move rfl (hF.eval rfl)) fun a hF => ?_
        refine wl_g hF rfl rfl rfl rfl rfl rfl (fun hg => q_eq rfl ((hF.eval rfl).trans (gv_of hg)) (hF.eval rfl)) fun a hF => ?_
        refine wl_v hF rfl rfl rfl (q_or rfl (hF.eval rfl) rfl (fun hg2 => ((hF.eval rfl).trans (gv_of hg2))) rfl) fun a hF => ?_
        refine wl_v hF rfl rfl rfl (q_assign rfl (hF.eval rfl)) fun a hF => ?_
        refine wl_nil ?_
        refine k_n ?_
        refine wp_ifD hF rfl rfl (fun hc3 => ?_) (fun hc3 => ?_)
        · skip
          refine wp_seq ?_
          refine wp_region_lit ?_
          refine wl_v hF rfl rfl rfl (q_move rfl (hF.eval rfl)) fun a hF => ?_
          have hO := hO.pull 1 rfl
          have hO : St _ _ _ [_, _, _, _] := hO
          refine wl_e hF rfl rfl rfl (c_call hF rfl rfl Tryd.call15 (on_r _ _ _ _ (1) hO.own1 (by omega) hs)) ?_
          rintro a _ w ⟨-, hS⟩ hF
          have hO := hO.call1 hS
          have hO : St _ _ _ [_, _, _, _] := hO
          refine wl_nil ?_
          refine k_n ?_
          refine wp_exit ?_
          refine b_o rfl ?_
          refine k_x ?_
          refine b_x ?_
          refine k_n ?_
          have hO := hO.drop1 1
          have hO : St _ _ _ [_, _, _] := hO
          obtain ⟨g, rfl⟩ : ∃ g, f = g + 1 := ⟨f - 1, by omega⟩
          exact ⟨(g, at_ + 1, out, v), ⟨⟨(rl_skip (by omega) (lex_blank hc3)).symm.trans hr, by omega, by omega, by omega⟩, hO, hF.sub ⟨rfl, rfl, rfl, rfl, trivial⟩⟩, by dsimp only; omega⟩
        · skip
          refine wp_seq ?_
          refine wp_region_lit ?_
          refine wl_v hF rfl rfl rfl (q_move rfl (hF.eval rfl)) fun a hF => ?_
          refine wl_v hF rfl rfl rfl (q_eq rfl (hF.eval rfl) (hF.eval rfl)) fun a hF => ?_
          refine wl_v hF rfl rfl rfl (q_move rfl (hF.eval rfl)) fun a hF => ?_
          refine wl_g hF rfl rfl rfl rfl rfl rfl (fun hg => q_move rfl (hF.eval rfl)) fun a hF => ?_
          refine wl_g hF rfl rfl rfl rfl rfl rfl (fun hg => q_nilCheck rfl ((hF.eval rfl).trans (gv_of hg))) fun a hF => ?_
          refine wl_g hF rfl rfl rfl rfl rfl rfl (fun hg => q_fieldAddr0 (d := 1) Tryd.underlying44 rfl ((hF.eval rfl).trans (gv_of hg)) rfl Tryd.sizeOf3 (by decide) rfl) fun a hF => ?_
          refine wl_g hF rfl rfl rfl rfl rfl rfl (fun hg => q_load Tryd.isAgg3 rfl ((hF.eval rfl).trans (gv_of hg)) (hO.cell 1 rfl rfl)) fun a hF => ?_
          refine wl_g hF rfl rfl rfl rfl rfl rfl (fun hg => q_add rfl ((hF.eval rfl).trans (gv_of hg)) (hF.eval rfl) (by omega)) fun a hF => ?_
          refine wl_g hF rfl rfl rfl rfl rfl rfl (fun hg => q_move rfl (hF.eval rfl)) fun a hF => ?_
          refine wl_g hF rfl rfl rfl rfl rfl rfl (fun hg => q_len Tryd.underlying9 rfl ((hF.eval rfl).trans (gv_of hg))) fun a hF => ?_
          refine wl_g hF rfl rfl rfl rfl rfl rfl (fun hg => q_lt rfl ((hF.eval rfl).trans (gv_of hg)) ((hF.eval rfl).trans (gv_of hg))) fun a hF => ?_
          refine wl_v hF rfl rfl rfl (q_and rfl (hF.eval rfl) rfl (fun hg2 => ((hF.eval rfl).trans (gv_of hg2))) rfl) fun a hF => ?_
          refine wl_v hF rfl rfl rfl (q_move rfl (hF.eval rfl)) fun a hF => ?_
          refine wl_g hF rfl rfl rfl rfl rfl rfl (fun hg => q_move rfl (hF.eval rfl)) fun a hF => ?_
          refine wl_g hF rfl rfl rfl rfl rfl rfl (fun hg => q_move rfl (hF.eval rfl)) fun a hF => ?_
          refine wl_g hF rfl rfl rfl rfl rfl rfl (fun hg => q_nilCheck rfl ((hF.eval rfl).trans (gv_of hg))) fun a hF => ?_
          refine wl_g hF rfl rfl rfl rfl rfl rfl (fun hg => q_fieldAddr0 (d := 1) Tryd.underlying44 rfl ((hF.eval rfl).trans (gv_of hg)) rfl Tryd.sizeOf3 (by decide) rfl) fun a hF => ?_
          refine wl_g hF rfl rfl rfl rfl rfl rfl (fun hg => q_load Tryd.isAgg3 rfl ((hF.eval rfl).trans (gv_of hg)) (hO.cell 1 rfl rfl)) fun a hF => ?_
          refine wl_g hF rfl rfl rfl rfl rfl rfl (fun hg => q_add rfl ((hF.eval rfl).trans (gv_of hg)) (hF.eval rfl) (by omega)) fun a hF => ?_
          refine wl_g hF rfl rfl rfl rfl rfl rfl (fun hg => q_indexD (m := at_ + 1) Tryd.underlying9 rfl ((hF.eval rfl).trans (gv_of hg)) ((hF.eval rfl).trans (gv_of hg)) (by have := of_g hg; omega)) fun a hF => ?_
          refine wl_g hF rfl rfl rfl rfl rfl rfl (fun hg => q_eq rfl ((hF.eval rfl).trans (gv_of hg)) (hF.eval rfl)) fun a hF => ?_
          refine wl_v hF rfl rfl rfl (q_and rfl (hF.eval rfl) rfl (fun hg2 => ((hF.eval rfl).trans (gv_of hg2))) rfl) fun a hF => ?_
          refine wl_v hF rfl rfl rfl (q_assign rfl (hF.eval rfl)) fun a hF => ?_
          refine wl_nil ?_
          refine k_n ?_
          refine wp_ifD hF rfl rfl (fun hc4 => ?_) (fun hc4 => ?_)
          · skip
            refine wp_seq ?_
            refine wp_region_lit ?_
            refine wl_v hF rfl rfl rfl (q_move rfl (hF.eval rfl)) fun a hF => ?_
            have hO := hO.pull 1 rfl
            have hO : St _ _ _ [_, _, _, _] := hO
            refine wl_e hF rfl rfl rfl (c_call hF rfl rfl Tryd.call16 (remark_r2 _ _ _ _ hO.own1 hs (by omega))) ?_
            rintro a _ w ⟨rn, rfl, hrm, hS⟩ hF
            have hO := hO.call1 hS
            have hO : St _ _ _ [_, _, _, _] := hO
            refine wl_v hF rfl rfl rfl (q_assign rfl (hF.eval rfl)) fun a hF => ?_
            refine wl_nil ?_
            refine k_n ?_
            refine wp_seq ?_
            refine wp_seq ?_
            refine wp_region_lit ?_
            refine wl_v hF rfl rfl rfl (q_move rfl (hF.eval rfl)) fun a hF => ?_
            refine wl_v hF rfl rfl rfl (q_lt rfl (hF.eval rfl) (hF.eval rfl)) fun a hF => ?_
            refine wl_nil ?_
            refine k_n ?_
            refine wp_ifD hF rfl rfl (fun hc5 => ?_) (fun hc5 => ?_)
            · skip
              refine wp_seq ?_
              refine wp_region_lit ?_
              refine wl_v hF rfl rfl rfl (q_move rfl (hF.eval rfl)) fun a hF => ?_
              have hO : St _ _ _ [_, _, _, _] := hO
              refine wl_e hF rfl rfl rfl (c_call hF rfl rfl Tryd.call17 (bad_r _ _ _ _ hO.own1 _)) ?_
              rintro a _ w ⟨rfl, hS⟩ hF
              have hO := hO.call1 hS
              have hO : St _ _ _ [_, _, _, _] := hO
              refine wl_v hF rfl rfl rfl (q_extract rfl (hF.eval rfl) rfl) fun a hF => ?_
              refine wl_v hF rfl rfl rfl (q_extract rfl (hF.eval rfl) rfl) fun a hF => ?_
              refine wl_v hF rfl rfl rfl (q_assign rfl (hF.eval rfl)) fun a hF => ?_
              refine wl_s hF rfl rfl (e_storeAll hO (i := 3) rfl Tryd.sizeOf25 rfl (hF.eval rfl) (hF.eval rfl) rfl rfl) ?_
              rintro a _ w ⟨-, hO⟩ hF
              have hO : St _ _ _ [_, _, _, _] := hO
              refine wl_nil ?_
              refine k_n ?_
              refine wp_ret ?_
              refine k_r ?_
              refine b_r ?_
              refine k_r ?_
              refine b_r ?_
              refine k_r ?_
              refine b_r ?_
              refine k_r ?_
              refine r_tc hF rfl rfl rfl Tryd.isAgg25 Tryd.sizeOf25 (hO.cells 3 rfl) rfl ?_
              obtain ⟨g, rfl⟩ : ∃ g, f = g + 1 := ⟨f - 1, by omega⟩
              exact ⟨_, [], _, rd_bad (by omega) hr (by omega) (by rw [lex_rem hc3 hc4, remNo hrm hc5]), rfl, (hO.nilSl 32 5).only⟩
            · skip
              obtain ⟨k, hkm, rfl⟩ := setOk s at_ hrm hc5
              have hk1 := rem_le hkm
              refine wp_skip ?_
              refine k_n ?_
              refine wp_seq ?_
              refine wp_region_lit ?_
              refine wl_v hF rfl rfl rfl (q_move rfl (hF.eval rfl)) fun a hF => ?_
              refine wl_v hF rfl rfl rfl (q_move rfl (hF.eval rfl)) fun a hF => ?_
              have hO : St _ _ _ [_, _, _, _] := hO
              refine wl_e hF rfl rfl rfl (c_call hF rfl rfl Tryd.call15 (on_r _ _ _ _ (k) hO.own1 (by omega) hs)) ?_
              rintro a _ w ⟨-, hS⟩ hF
              have hO := hO.call1 hS
              have hO : St _ _ _ [_, _, _, _] := hO
              refine wl_nil ?_
              refine k_n ?_
              refine wp_exit ?_
              refine b_o rfl ?_
              refine k_x ?_
              refine b_x ?_
              refine k_n ?_
              have hO := hO.drop1 1
              have hO : St _ _ _ [_, _, _] := hO
              obtain ⟨g, rfl⟩ : ∃ g, f = g + 1 := ⟨f - 1, by omega⟩
              have hk1 := rem_le hkm
              exact ⟨(g, at_ + k, out, v), ⟨⟨(rl_skip (by omega) (by rw [lex_rem hc3 hc4, hkm])).symm.trans hr, by omega, by omega, by omega⟩, hO, hF.sub ⟨rfl, rfl, rfl, rfl, trivial⟩⟩, by dsimp only; omega⟩
          · skip
            refine wp_seq ?_
            refine wp_region_lit ?_
            refine wl_v hF rfl rfl rfl (q_move rfl (hF.eval rfl)) fun a hF => ?_
            refine wl_e hF rfl rfl rfl (c_call hF rfl rfl Tryd.call18 (letter_r _ _)) ?_
            rintro a _ w ⟨rfl, hS⟩ hF
            have hO := hO.call0 hS
            have hO : St _ _ _ [_, _, _, _] := hO
            refine wl_v hF rfl rfl rfl (q_move rfl (hF.eval rfl)) fun a hF => ?_
            refine wl_g hF rfl rfl rfl rfl rfl rfl (fun hg => q_move rfl (hF.eval rfl)) fun a hF => ?_
            refine wl_g hF rfl rfl rfl rfl rfl rfl (fun hg => q_eq rfl ((hF.eval rfl).trans (gv_of hg)) (hF.eval rfl)) fun a hF => ?_
            refine wl_v hF rfl rfl rfl (q_or rfl (hF.eval rfl) (dec_b _) (fun hg2 => ((hF.eval rfl).trans (gv_of hg2))) rfl) fun a hF => ?_
            refine wl_v hF rfl rfl rfl (q_assign rfl (hF.eval rfl)) fun a hF => ?_
            refine wl_nil ?_
            refine k_n ?_
            refine wp_ifD hF rfl rfl (fun hc6 => ?_) (fun hc6 => ?_)
            · skip
              refine wp_seq ?_
              refine wp_region_lit ?_
              refine wl_v hF rfl rfl rfl (q_move rfl (hF.eval rfl)) fun a hF => ?_
              have hO := hO.pull 1 rfl
              have hO : St _ _ _ [_, _, _, _] := hO
              refine wl_e hF rfl rfl rfl (c_call hF rfl rfl Tryd.call19 (row_r _ _ _ _ 0 hO.own1 hs (by omega))) ?_
              rintro a _ w ⟨rfl, hS⟩ hF
              have hO := hO.call1 hS
              have hO : St _ _ _ [_, _, _, _] := hO
              refine wl_v hF rfl rfl rfl (q_assign rfl (hF.eval rfl)) fun a hF => ?_
              refine wl_nil ?_
              refine k_n ?_
              refine wp_seq ?_
              have hO := hO.drew
              refine wp_region_D [0, 0, 0, 0, 1, 0, 0, 0, 1, 0, 0, 0, 0, 3] (fun w => St _ _ w _) Tryd_mixed (by kernel_rfl) hO ?_
              refine wd_p hF rfl rfl rfl (fun w => q_move rfl (hF.eval rfl)) fun a hF => ?_
              refine wd_p hF rfl rfl rfl (fun w => q_move rfl (hF.eval rfl)) fun a hF => ?_
              refine wd_p hF rfl rfl rfl (fun w => q_nilCheck rfl (hF.eval rfl)) fun a hF => ?_
              refine wd_p hF rfl rfl rfl (fun w => q_fieldAddr0 (d := 1) Tryd.underlying44 rfl (hF.eval rfl) rfl Tryd.sizeOf3 (by decide) rfl) fun a hF => ?_
              refine wd_r hF rfl rfl rfl (fun w hO => q_load Tryd.isAgg3 rfl (hF.eval rfl) (hO.cell 0 rfl rfl)) fun a hF => ?_
              refine wd_p hF rfl rfl rfl (fun w => q_move rfl (hF.eval rfl)) fun a hF => ?_
              refine wd_p hF rfl rfl rfl (fun w => q_nilCheck rfl (hF.eval rfl)) fun a hF => ?_
              refine wd_p hF rfl rfl rfl (fun w => q_fieldAddr0 (d := 1) Tryd.underlying44 rfl (hF.eval rfl) rfl Tryd.sizeOf3 (by decide) rfl) fun a hF => ?_
              refine wd_r hF rfl rfl rfl (fun w hO => q_load Tryd.isAgg3 rfl (hF.eval rfl) (hO.cell 0 rfl rfl)) fun a hF => ?_
              refine wd_p hF rfl rfl rfl (fun w => q_move rfl (hF.eval rfl)) fun a hF => ?_
              refine wd_p hF rfl rfl rfl (fun w => q_add rfl (hF.eval rfl) (hF.eval rfl) (by omega)) fun a hF => ?_
              refine wd_p hF rfl rfl rfl (fun w => q_cut (i := at_) (j := at_ + rowF s at_ 0) Tryd.underlying9 rfl (hF.eval rfl) (hF.eval rfl) (hF.eval rfl) (by omega) (by omega)) fun a hF => ?_
              refine wd_p hF rfl rfl rfl (fun w => q_fieldAddr0 (d := 1) Tryd.underlying32 rfl (hF.eval rfl) rfl Tryd.sizeOf9 (by decide) rfl) fun a hF => ?_
              refine wd_s hF rfl rfl (e_store1 hO (i := 1) rfl Tryd.sizeOf9 rfl (hF.eval rfl) (hF.eval rfl) rfl rfl rfl) ?_
              rintro a _ w ⟨-, hO⟩ hF
              have hO : St _ _ _ [_, _, _, _] := hO
              refine wd_nil ?_
              refine k_n ?_
              refine wp_seq ?_
              refine wp_region_lit ?_
              refine wl_v hF rfl rfl rfl (q_fieldAddr0 (d := 0) Tryd.underlying32 rfl (hF.eval rfl) rfl Tryd.sizeOf3 (by decide) rfl) fun a hF => ?_
              refine wl_s hF rfl rfl (e_store1 hO (i := 1) rfl Tryd.sizeOf3 rfl (hF.eval rfl) (hF.eval rfl) rfl rfl rfl) ?_
              rintro a _ w ⟨-, hO⟩ hF
              have hO : St _ _ _ [_, _, _, _] := hO
              refine wl_nil ?_
              refine k_n ?_
              refine wp_seq ?_
              have hO := hO.drew
              refine wp_region_D [0, 1, 2, 3] (fun w => St _ _ w _) Tryd_mixed (by kernel_rfl) hO ?_
              refine wd_p hF rfl rfl rfl (fun w => q_fieldAddr0 (d := 1) Tryd.underlying32 rfl (hF.eval rfl) rfl Tryd.sizeOf9 (by decide) rfl) fun a hF => ?_
              refine wd_r hF rfl rfl rfl (fun w hO => q_load Tryd.isAgg9 rfl (hF.eval rfl) (hO.cell 1 rfl rfl)) fun a hF => ?_
              refine wd_e hF rfl rfl rfl (c_call hF rfl rfl Tryd.call21 (words_r _)) (fun _ _ ⟨_, _, hS⟩ => (hO.call0 hS).tail) ?_
              rintro a _ w ⟨vws, rfl, hS⟩ hF
              have hO := hO.call0 hS
              have hO : St _ _ _ [_, _, _, _, _] := hO
              refine wd_f hF rfl rfl rfl (c_call hF rfl rfl Tryd.call20 (one_r _ _ _ _ (by decide) (hO.rdT 0 rfl))) ?_
              rintro a _ w ⟨rfl, hS⟩ hF
              have hO := hO.call0 hS
              have hO : St _ _ _ [_, _, _, _, _] := hO
              refine wd_nil ?_
              refine k_n ?_
              refine wp_ifD hF rfl (dec_b _) (fun hc7 => ?_) (fun hc7 => ?_)
              · skip
                refine wp_region_lit ?_
                refine wl_v hF rfl rfl rfl (q_fieldAddr0 (d := 0) Tryd.underlying32 rfl (hF.eval rfl) rfl Tryd.sizeOf3 (by decide) rfl) fun a hF => ?_
                refine wl_s hF rfl rfl (e_store1 hO (i := 2) rfl Tryd.sizeOf3 rfl (hF.eval rfl) (hF.eval rfl) rfl rfl rfl) ?_
                rintro a _ w ⟨-, hO⟩ hF
                have hO : St _ _ _ [_, _, _, _, _] := hO
                refine wl_nil ?_
                refine b_n ?_
                refine k_n ?_
                have hO := hO.drop1 0
                have hO := hO.pull 3 rfl
                have hO := hO.pull 3 rfl
                have hO := hO.pull 2 rfl
                have hO := hO.pull 3 rfl
                have hO : St _ _ _ [_, _, _, _] := hO
                have hr0 := row0 (by omega) hc6
                exact ⟨(⟨7, cutF s at_ (rowF s at_ 0), 0, _, _⟩, rowF s at_ 0), ⟨⟨lex_word hc3 hc4 hc6 (if_pos hc7), rfl, rfl, by omega, by omega⟩, hO, hF.sub ⟨rfl, rfl, rfl, rfl, rfl, rfl, trivial⟩⟩⟩
              · skip
                refine wp_seq ?_
                refine wp_region_lit ?_
                refine wl_v hF rfl rfl rfl (q_fieldAddr0 (d := 1) Tryd.underlying32 rfl (hF.eval rfl) rfl Tryd.sizeOf9 (by decide) rfl) fun a hF => ?_
                refine wl_v hF rfl rfl rfl (q_load Tryd.isAgg9 rfl (hF.eval rfl) (hO.cell 2 rfl rfl)) fun a hF => ?_
                refine wl_v hF rfl rfl rfl (q_seq rfl (hF.eval rfl) (hF.eval rfl)) fun a hF => ?_
                refine wl_nil ?_
                refine k_n ?_
                refine wp_ifD hF rfl rfl (fun hc8 => ?_) (fun hc8 => ?_)
                · skip
                  refine wp_region_lit ?_
                  refine wl_v hF rfl rfl rfl (q_fieldAddr0 (d := 0) Tryd.underlying32 rfl (hF.eval rfl) rfl Tryd.sizeOf3 (by decide) rfl) fun a hF => ?_
                  refine wl_s hF rfl rfl (e_store1 hO (i := 2) rfl Tryd.sizeOf3 rfl (hF.eval rfl) (hF.eval rfl) rfl rfl rfl) ?_
                  rintro a _ w ⟨-, hO⟩ hF
                  have hO : St _ _ _ [_, _, _, _, _] := hO
                  refine wl_nil ?_
                  refine b_n ?_
                  refine k_n ?_
                  have hO := hO.drop1 0
                  have hO := hO.pull 3 rfl
                  have hO := hO.pull 3 rfl
                  have hO := hO.pull 2 rfl
                  have hO := hO.pull 3 rfl
                  have hO : St _ _ _ [_, _, _, _] := hO
                  have hr0 := row0 (by omega) hc6
                  exact ⟨(⟨8, cutF s at_ (rowF s at_ 0), 0, _, _⟩, rowF s at_ 0), ⟨⟨lex_word hc3 hc4 hc6 ((if_neg hc7).trans (if_pos hc8)), rfl, rfl, by omega, by omega⟩, hO, hF.sub ⟨rfl, rfl, rfl, rfl, rfl, rfl, trivial⟩⟩⟩
                · skip
                  refine wp_seq ?_
                  refine wp_region_lit ?_
                  refine wl_v hF rfl rfl rfl (q_move rfl (hF.eval rfl)) fun a hF => ?_
                  refine wl_v hF rfl rfl rfl (q_ge rfl (hF.eval rfl) (hF.eval rfl)) fun a hF => ?_
                  refine wl_v hF rfl rfl rfl (q_move rfl (hF.eval rfl)) fun a hF => ?_
                  refine wl_g hF rfl rfl rfl rfl rfl rfl (fun hg => q_move rfl (hF.eval rfl)) fun a hF => ?_
                  refine wl_g hF rfl rfl rfl rfl rfl rfl (fun hg => q_le rfl ((hF.eval rfl).trans (gv_of hg)) (hF.eval rfl)) fun a hF => ?_
                  refine wl_v hF rfl rfl rfl (q_and rfl (hF.eval rfl) rfl (fun hg2 => ((hF.eval rfl).trans (gv_of hg2))) rfl) fun a hF => ?_
                  refine wl_nil ?_
                  refine k_n ?_
                  refine wp_ifD hF rfl rfl (fun hc9 => ?_) (fun hc9 => ?_)
                  · skip
                    refine wp_region_lit ?_
                    refine wl_v hF rfl rfl rfl (q_fieldAddr0 (d := 0) Tryd.underlying32 rfl (hF.eval rfl) rfl Tryd.sizeOf3 (by decide) rfl) fun a hF => ?_
                    refine wl_s hF rfl rfl (e_store1 hO (i := 2) rfl Tryd.sizeOf3 rfl (hF.eval rfl) (hF.eval rfl) rfl rfl rfl) ?_
                    rintro a _ w ⟨-, hO⟩ hF
                    have hO : St _ _ _ [_, _, _, _, _] := hO
                    refine wl_nil ?_
                    refine b_n ?_
                    refine k_n ?_
                    have hO := hO.drop1 0
                    have hO := hO.pull 3 rfl
                    have hO := hO.pull 3 rfl
                    have hO := hO.pull 2 rfl
                    have hO := hO.pull 3 rfl
                    have hO : St _ _ _ [_, _, _, _] := hO
                    have hr0 := row0 (by omega) hc6
                    exact ⟨(⟨2, cutF s at_ (rowF s at_ 0), 0, _, _⟩, rowF s at_ 0), ⟨⟨lex_word hc3 hc4 hc6 ((if_neg hc7).trans ((if_neg hc8).trans (if_pos ((le_iff8 65 90).1 hc9)))), rfl, rfl, by omega, by omega⟩, hO, hF.sub ⟨rfl, rfl, rfl, rfl, rfl, rfl, trivial⟩⟩⟩
                  · skip
                    refine wp_skip ?_
                    refine b_n ?_
                    refine k_n ?_
                    have hO := hO.drop1 0
                    have hO := hO.pull 3 rfl
                    have hO := hO.pull 3 rfl
                    have hO := hO.pull 2 rfl
                    have hO := hO.pull 3 rfl
                    have hO : St _ _ _ [_, _, _, _] := hO
                    have hr0 := row0 (by omega) hc6
                    exact ⟨(⟨1, cutF s at_ (rowF s at_ 0), 0, _, _⟩, rowF s at_ 0), ⟨⟨lex_word hc3 hc4 hc6 ((if_neg hc7).trans ((if_neg hc8).trans (if_neg (fun h => hc9 ((le_iff8 65 90).2 h))))), rfl, rfl, by omega, by omega⟩, hO, hF.sub ⟨rfl, rfl, rfl, rfl, rfl, rfl, trivial⟩⟩⟩
            · skip
              refine wp_seq ?_
              refine wp_region_lit ?_
              refine wl_v hF rfl rfl rfl (q_move rfl (hF.eval rfl)) fun a hF => ?_
              refine wl_e hF rfl rfl rfl (c_call hF rfl rfl Tryd.call22 (digit_r _ _)) ?_
              rintro a _ w ⟨rfl, hS⟩ hF
              have hO := hO.call0 hS
              have hO : St _ _ _ [_, _, _, _] := hO
              refine wl_v hF rfl rfl rfl (q_assign rfl (hF.eval rfl)) fun a hF => ?_
              refine wl_nil ?_
              refine k_n ?_
              refine wp_ifD hF rfl (dec_b _) (fun hc10 => ?_) (fun hc10 => ?_)
              · skip
                refine wp_seq ?_
                refine wp_region_lit ?_
                refine wl_v hF rfl rfl rfl (q_move rfl (hF.eval rfl)) fun a hF => ?_
                have hO := hO.pull 1 rfl
                have hO : St _ _ _ [_, _, _, _] := hO
                refine wl_e hF rfl rfl rfl (c_call hF rfl rfl Tryd.call19 (row_r _ _ _ _ 1 hO.own1 hs (by omega))) ?_
                rintro a _ w ⟨rfl, hS⟩ hF
                have hO := hO.call1 hS
                have hO : St _ _ _ [_, _, _, _] := hO
                refine wl_v hF rfl rfl rfl (q_assign rfl (hF.eval rfl)) fun a hF => ?_
                refine wl_nil ?_
                refine k_n ?_
                refine wp_seq ?_
                refine wp_region_lit ?_
                refine wl_v hF rfl rfl rfl (q_fieldAddr0 (d := 0) Tryd.underlying32 rfl (hF.eval rfl) rfl Tryd.sizeOf3 (by decide) rfl) fun a hF => ?_
                refine wl_s hF rfl rfl (e_store1 hO (i := 1) rfl Tryd.sizeOf3 rfl (hF.eval rfl) (hF.eval rfl) rfl rfl rfl) ?_
                rintro a _ w ⟨-, hO⟩ hF
                have hO : St _ _ _ [_, _, _, _] := hO
                refine wl_nil ?_
                refine k_n ?_
                refine wp_seq ?_
                have hO := hO.drew
                refine wp_region_D [0, 0, 0, 0, 1, 0, 0, 0, 1, 0, 0, 0, 0, 3] (fun w => St _ _ w _) Tryd_mixed (by kernel_rfl) hO ?_
                refine wd_p hF rfl rfl rfl (fun w => q_move rfl (hF.eval rfl)) fun a hF => ?_
                refine wd_p hF rfl rfl rfl (fun w => q_move rfl (hF.eval rfl)) fun a hF => ?_
                refine wd_p hF rfl rfl rfl (fun w => q_nilCheck rfl (hF.eval rfl)) fun a hF => ?_
                refine wd_p hF rfl rfl rfl (fun w => q_fieldAddr0 (d := 1) Tryd.underlying44 rfl (hF.eval rfl) rfl Tryd.sizeOf3 (by decide) rfl) fun a hF => ?_
                refine wd_r hF rfl rfl rfl (fun w hO => q_load Tryd.isAgg3 rfl (hF.eval rfl) (hO.cell 0 rfl rfl)) fun a hF => ?_
                refine wd_p hF rfl rfl rfl (fun w => q_move rfl (hF.eval rfl)) fun a hF => ?_
                refine wd_p hF rfl rfl rfl (fun w => q_nilCheck rfl (hF.eval rfl)) fun a hF => ?_
                refine wd_p hF rfl rfl rfl (fun w => q_fieldAddr0 (d := 1) Tryd.underlying44 rfl (hF.eval rfl) rfl Tryd.sizeOf3 (by decide) rfl) fun a hF => ?_
                refine wd_r hF rfl rfl rfl (fun w hO => q_load Tryd.isAgg3 rfl (hF.eval rfl) (hO.cell 0 rfl rfl)) fun a hF => ?_
                refine wd_p hF rfl rfl rfl (fun w => q_move rfl (hF.eval rfl)) fun a hF => ?_
                refine wd_p hF rfl rfl rfl (fun w => q_add rfl (hF.eval rfl) (hF.eval rfl) (by omega)) fun a hF => ?_
                refine wd_p hF rfl rfl rfl (fun w => q_cut (i := at_) (j := at_ + rowF s at_ 1) Tryd.underlying9 rfl (hF.eval rfl) (hF.eval rfl) (hF.eval rfl) (by omega) (by omega)) fun a hF => ?_
                refine wd_p hF rfl rfl rfl (fun w => q_fieldAddr0 (d := 1) Tryd.underlying32 rfl (hF.eval rfl) rfl Tryd.sizeOf9 (by decide) rfl) fun a hF => ?_
                refine wd_s hF rfl rfl (e_store1 hO (i := 1) rfl Tryd.sizeOf9 rfl (hF.eval rfl) (hF.eval rfl) rfl rfl rfl) ?_
                rintro a _ w ⟨-, hO⟩ hF
                have hO : St _ _ _ [_, _, _, _] := hO
                refine wd_nil ?_
                refine k_n ?_
                refine wp_seq ?_
                refine wp_region_lit ?_
                refine wl_v hF rfl rfl rfl (q_assign rfl (hF.eval rfl)) fun a hF => ?_
                refine wl_nil ?_
                refine k_n ?_
                refine wp_block ?_
                have hO := hO.pull 3 rfl
                have hO := hO.pull 3 rfl
                have hO := hO.pull 2 rfl
                have hO := hO.pull 3 rfl
                have hO : St _ _ _ [_, _, _, _] := hO
                refine wp_loopS (fun (y : Nat × Nat) a w' => match y with | (k, N) => (k ≤ rowF s at_ 1 ∧ numF ((cutF s at_ (rowF s at_ 1)).drop k) N = numF (cutF s at_ (rowF s at_ 1)) 0 ∧ N ≤ 9223372036854775807) ∧ St w0 [] w' [.ob tk 32 [i64 5, str (cutF s at_ (rowF s at_ 1)), i64 N, i64 (posF s at_).1, i64 (posF s at_).2], .ob br 44 (rdr s at_), slT v 32 tokE out, .ob dg 25 [str [], i64 0, i64 0, i64 0]] ∧ Fr a 276 [(0, str s), (3, ptr (adr dg)), (4, ptr (adr br)), (5, v), (7, ptr (adr tk)), (8, i64 (rowF s at_ 1 : Nat)), (10, i64 k)]) (fun (y : Nat × Nat) => match y with | (k, N) => rowF s at_ 1 - k) (0, 0) ⟨⟨by omega, rfl, by omega⟩, hO, hF.sub ⟨rfl, rfl, rfl, rfl, rfl, rfl, rfl, trivial⟩⟩ ?_
                rintro ⟨k, N⟩ a w ⟨⟨hk, hN, hNm⟩, hO, hF⟩
                refine wp_seq ?_
                refine wp_seq ?_
                refine wp_region_lit ?_
                refine wl_v hF rfl rfl rfl (q_move rfl (hF.eval rfl)) fun a hF => ?_
                refine wl_v hF rfl rfl rfl (q_move rfl (hF.eval rfl)) fun a hF => ?_
                refine wl_v hF rfl rfl rfl (q_lt rfl (hF.eval rfl) (hF.eval rfl)) fun a hF => ?_
                refine wl_nil ?_
                refine k_n ?_
                refine wp_ifD hF rfl rfl (fun hc11 => ?_) (fun hc11 => ?_)
                · skip
                  have hdg := row_dig (s := s) (at_ := at_) (k := k) (by omega)
                  refine wp_skip ?_
                  refine k_n ?_
                  refine wp_seq ?_
                  refine wp_block ?_
                  refine wp_seq ?_
                  refine wp_region_lit ?_
                  refine wl_v hF rfl rfl rfl (q_fieldAddr0 (d := 1) Tryd.underlying32 rfl (hF.eval rfl) rfl Tryd.sizeOf9 (by decide) rfl) fun a hF => ?_
                  refine wl_v hF rfl rfl rfl (q_load Tryd.isAgg9 rfl (hF.eval rfl) (hO.cell 0 rfl rfl)) fun a hF => ?_
                  refine wl_v hF rfl rfl rfl (q_move rfl (hF.eval rfl)) fun a hF => ?_
                  refine wl_v hF rfl rfl rfl (q_indexD (m := k) Tryd.underlying9 rfl (hF.eval rfl) (hF.eval rfl) (cut_lt (by omega) (by omega))) fun a hF => ?_
                  refine wl_v hF rfl rfl rfl (q_u8sub rfl (hF.eval rfl) (hF.eval rfl) (by omega)) fun a hF => ?_
                  refine wl_v hF rfl rfl rfl (q_conv Tryd.underlying5 Tryd.underlying3 rfl (hF.eval rfl) (IntWalk.i64_in _ (by omega))) fun a hF => ?_
                  refine wl_v hF rfl rfl rfl (q_assign rfl (hF.eval rfl)) fun a hF => ?_
                  refine wl_nil ?_
                  refine k_n ?_
                  refine wp_seq ?_
                  refine wp_seq ?_
                  refine wp_region_lit ?_
                  refine wl_v hF rfl rfl rfl (q_fieldAddr0 (d := 2) Tryd.underlying32 rfl (hF.eval rfl) rfl Tryd.sizeOf3 (by decide) rfl) fun a hF => ?_
                  refine wl_v hF rfl rfl rfl (q_load Tryd.isAgg3 rfl (hF.eval rfl) (hO.cell 0 rfl rfl)) fun a hF => ?_
                  refine wl_v hF rfl rfl rfl (q_move rfl (hF.eval rfl)) fun a hF => ?_
                  refine wl_v hF rfl rfl rfl (q_sub rfl (hF.eval rfl) (hF.eval rfl) (by omega)) fun a hF => ?_
                  refine wl_v hF rfl rfl rfl (q_quo rfl (hF.eval rfl) (hF.eval rfl) (by decide) (num_rng hdg)) fun a hF => ?_
                  refine wl_v hF rfl rfl rfl (q_gt rfl (hF.eval rfl) (hF.eval rfl)) fun a hF => ?_
                  refine wl_nil ?_
                  refine k_n ?_
                  refine wp_ifD hF rfl rfl (fun hc12 => ?_) (fun hc12 => ?_)
                  · skip
                    refine wp_seq ?_
                    refine wp_region_lit ?_
                    refine wl_v hF rfl rfl rfl (q_move rfl (hF.eval rfl)) fun a hF => ?_
                    have hO := hO.pull 1 rfl
                    have hO : St _ _ _ [_, _, _, _] := hO
                    refine wl_e hF rfl rfl rfl (c_call hF rfl rfl Tryd.call17 (bad_r _ _ _ _ hO.own1 _)) ?_
                    rintro a _ w ⟨rfl, hS⟩ hF
                    have hO := hO.call1 hS
                    have hO : St _ _ _ [_, _, _, _] := hO
                    refine wl_v hF rfl rfl rfl (q_extract rfl (hF.eval rfl) rfl) fun a hF => ?_
                    refine wl_v hF rfl rfl rfl (q_extract rfl (hF.eval rfl) rfl) fun a hF => ?_
                    refine wl_v hF rfl rfl rfl (q_assign rfl (hF.eval rfl)) fun a hF => ?_
                    refine wl_s hF rfl rfl (e_storeAll hO (i := 3) rfl Tryd.sizeOf25 rfl (hF.eval rfl) (hF.eval rfl) rfl rfl) ?_
                    rintro a _ w ⟨-, hO⟩ hF
                    have hO : St _ _ _ [_, _, _, _] := hO
                    refine wl_nil ?_
                    refine k_n ?_
                    refine wp_ret ?_
                    refine k_r ?_
                    refine b_r ?_
                    refine k_r ?_
                    refine k_r ?_
                    refine b_r ?_
                    refine b_r ?_
                    refine k_r ?_
                    refine b_r ?_
                    refine k_r ?_
                    refine b_r ?_
                    refine k_r ?_
                    refine r_tc hF rfl rfl rfl Tryd.isAgg25 Tryd.sizeOf25 (hO.cells 3 rfl) rfl ?_
                    obtain ⟨g, rfl⟩ : ∃ g, f = g + 1 := ⟨f - 1, by omega⟩
                    exact ⟨_, [], _, rd_bad (by omega) hr (by omega) (by rw [lex_int hc3 hc4 hc6 hc10, ← hN, num_bad (cut_lt (by omega) (by omega)) hdg hc12]), rfl, (hO.nilSl 32 5).only⟩
                  · skip
                    have hN2 := num_lo hdg hc12
                    refine wp_skip ?_
                    refine k_n ?_
                    refine wp_region_lit ?_
                    refine wl_v hF rfl rfl rfl (q_fieldAddr0 (d := 2) Tryd.underlying32 rfl (hF.eval rfl) rfl Tryd.sizeOf3 (by decide) rfl) fun a hF => ?_
                    refine wl_v hF rfl rfl rfl (q_load Tryd.isAgg3 rfl (hF.eval rfl) (hO.cell 0 rfl rfl)) fun a hF => ?_
                    refine wl_v hF rfl rfl rfl (q_mul rfl (hF.eval rfl) (hF.eval rfl) (by omega)) fun a hF => ?_
                    refine wl_v hF rfl rfl rfl (q_move rfl (hF.eval rfl)) fun a hF => ?_
                    refine wl_v hF rfl rfl rfl (q_add rfl (hF.eval rfl) (hF.eval rfl) (by omega)) fun a hF => ?_
                    refine wl_v hF rfl rfl rfl (q_fieldAddr0 (d := 2) Tryd.underlying32 rfl (hF.eval rfl) rfl Tryd.sizeOf3 (by decide) rfl) fun a hF => ?_
                    refine wl_s hF rfl rfl (e_store1 hO (i := 0) rfl Tryd.sizeOf3 rfl (hF.eval rfl) (hF.eval rfl) rfl rfl rfl) ?_
                    rintro a _ w ⟨-, hO⟩ hF
                    have hO : St _ _ _ [_, _, _, _] := hO
                    refine wl_nil ?_
                    refine b_n ?_
                    refine k_n ?_
                    refine wp_region_lit ?_
                    refine wl_v hF rfl rfl rfl (q_move rfl (hF.eval rfl)) fun a hF => ?_
                    refine wl_v hF rfl rfl rfl (q_add rfl (hF.eval rfl) (hF.eval rfl) (by omega)) fun a hF => ?_
                    refine wl_v hF rfl rfl rfl (q_assign rfl (hF.eval rfl)) fun a hF => ?_
                    refine wl_nil ?_
                    refine k_n ?_
                    have hO : St _ _ _ [_, _, _, _] := hO
                    have hO := hO.eq (congrArg (fun x : Int => [Ent.ob tk 32 [i64 5, str (cutF s at_ (rowF s at_ 1)), i64 x, i64 (posF s at_).1, i64 (posF s at_).2], .ob br 44 (rdr s at_), slT v 32 tokE out, .ob dg 25 [str [], i64 0, i64 0, i64 0]]) (num_cast hdg))
                    exact ⟨(k + 1, 10 * N + (((cutF s at_ (rowF s at_ 1)).getD k 0).toNat - 48)), ⟨⟨by omega, (num_go (cut_lt (by omega) (by omega)) hdg hc12).symm.trans hN, by omega⟩, hO, hF.sub ⟨rfl, rfl, rfl, rfl, rfl, rfl, rfl, trivial⟩⟩, by dsimp only; omega⟩
                · skip
                  refine wp_exit ?_
                  refine k_x ?_
                  refine k_x ?_
                  refine b_x ?_
                  refine b_n ?_
                  refine k_n ?_
                  have hO : St _ _ _ [_, _, _, _] := hO
                  have hr0 := row1 (by omega) hc10
                  exact ⟨(⟨5, cutF s at_ (rowF s at_ 1), N, _, _⟩, rowF s at_ 1), ⟨⟨(by rw [lex_int hc3 hc4 hc6 hc10, ← hN, num_end (by rw [cut_len (by omega)]; omega)]), rfl, rfl, by omega, by omega⟩, hO, hF.sub ⟨rfl, rfl, rfl, rfl, rfl, rfl, trivial⟩⟩⟩
              · skip
                refine wp_seq ?_
                refine wp_region_lit ?_
                refine wl_v hF rfl rfl rfl (q_move rfl (hF.eval rfl)) fun a hF => ?_
                refine wl_e hF rfl rfl rfl (c_call hF rfl rfl Tryd.call23 (mark_r _ _)) ?_
                rintro a _ w ⟨rfl, hS⟩ hF
                have hO := hO.call0 hS
                have hO : St _ _ _ [_, _, _, _] := hO
                refine wl_v hF rfl rfl rfl (q_assign rfl (hF.eval rfl)) fun a hF => ?_
                refine wl_nil ?_
                refine k_n ?_
                refine wp_ifD hF rfl (dec_b _) (fun hc13 => ?_) (fun hc13 => ?_)
                · skip
                  refine wp_seq ?_
                  refine wp_region_lit ?_
                  refine wl_v hF rfl rfl rfl (q_move rfl (hF.eval rfl)) fun a hF => ?_
                  have hO := hO.pull 1 rfl
                  have hO : St _ _ _ [_, _, _, _] := hO
                  refine wl_e hF rfl rfl rfl (c_call hF rfl rfl Tryd.call19 (row_r _ _ _ _ 2 hO.own1 hs (by omega))) ?_
                  rintro a _ w ⟨rfl, hS⟩ hF
                  have hO := hO.call1 hS
                  have hO : St _ _ _ [_, _, _, _] := hO
                  refine wl_v hF rfl rfl rfl (q_assign rfl (hF.eval rfl)) fun a hF => ?_
                  refine wl_nil ?_
                  refine k_n ?_
                  refine wp_seq ?_
                  have hO := hO.drew
                  refine wp_region_D [0, 0, 0, 0, 1, 0, 0, 0, 1, 0, 0, 0, 0, 3] (fun w => St _ _ w _) Tryd_mixed (by kernel_rfl) hO ?_
                  refine wd_p hF rfl rfl rfl (fun w => q_move rfl (hF.eval rfl)) fun a hF => ?_
                  refine wd_p hF rfl rfl rfl (fun w => q_move rfl (hF.eval rfl)) fun a hF => ?_
                  refine wd_p hF rfl rfl rfl (fun w => q_nilCheck rfl (hF.eval rfl)) fun a hF => ?_
                  refine wd_p hF rfl rfl rfl (fun w => q_fieldAddr0 (d := 1) Tryd.underlying44 rfl (hF.eval rfl) rfl Tryd.sizeOf3 (by decide) rfl) fun a hF => ?_
                  refine wd_r hF rfl rfl rfl (fun w hO => q_load Tryd.isAgg3 rfl (hF.eval rfl) (hO.cell 0 rfl rfl)) fun a hF => ?_
                  refine wd_p hF rfl rfl rfl (fun w => q_move rfl (hF.eval rfl)) fun a hF => ?_
                  refine wd_p hF rfl rfl rfl (fun w => q_nilCheck rfl (hF.eval rfl)) fun a hF => ?_
                  refine wd_p hF rfl rfl rfl (fun w => q_fieldAddr0 (d := 1) Tryd.underlying44 rfl (hF.eval rfl) rfl Tryd.sizeOf3 (by decide) rfl) fun a hF => ?_
                  refine wd_r hF rfl rfl rfl (fun w hO => q_load Tryd.isAgg3 rfl (hF.eval rfl) (hO.cell 0 rfl rfl)) fun a hF => ?_
                  refine wd_p hF rfl rfl rfl (fun w => q_move rfl (hF.eval rfl)) fun a hF => ?_
                  refine wd_p hF rfl rfl rfl (fun w => q_add rfl (hF.eval rfl) (hF.eval rfl) (by omega)) fun a hF => ?_
                  refine wd_p hF rfl rfl rfl (fun w => q_cut (i := at_) (j := at_ + rowF s at_ 2) Tryd.underlying9 rfl (hF.eval rfl) (hF.eval rfl) (hF.eval rfl) (by omega) (by omega)) fun a hF => ?_
                  refine wd_p hF rfl rfl rfl (fun w => q_fieldAddr0 (d := 1) Tryd.underlying32 rfl (hF.eval rfl) rfl Tryd.sizeOf9 (by decide) rfl) fun a hF => ?_
                  refine wd_s hF rfl rfl (e_store1 hO (i := 1) rfl Tryd.sizeOf9 rfl (hF.eval rfl) (hF.eval rfl) rfl rfl rfl) ?_
                  rintro a _ w ⟨-, hO⟩ hF
                  have hO : St _ _ _ [_, _, _, _] := hO
                  refine wd_nil ?_
                  refine k_n ?_
                  refine wp_seq ?_
                  refine wp_region_lit ?_
                  refine wl_v hF rfl rfl rfl (q_assign rfl (hF.eval rfl)) fun a hF => ?_
                  refine wl_nil ?_
                  refine k_n ?_
                  refine wp_seq ?_
                  refine wp_seq ?_
                  refine wp_region_lit ?_
                  refine wl_v hF rfl rfl rfl (q_assign rfl (hF.eval rfl)) fun a hF => ?_
                  refine wl_nil ?_
                  refine k_n ?_
                  refine wp_block ?_
                  have hO := hO.pull 3 rfl
                  have hO := hO.pull 3 rfl
                  have hO := hO.pull 2 rfl
                  have hO := hO.pull 3 rfl
                  have hO : St _ _ _ [_, _, _, _] := hO
                  refine wp_loopS (fun (y : Nat × Bool) a w' => match y with | (k, m) => (k ≤ rowF s at_ 2 ∧ m = ((cutF s at_ (rowF s at_ 2)).take k).all (fun c => c = 45)) ∧ St w0 [] w' [.ob tk 32 [i64 0, str (cutF s at_ (rowF s at_ 2)), i64 0, i64 (posF s at_).1, i64 (posF s at_).2], .ob br 44 (rdr s at_), slT v 32 tokE out, .ob dg 25 [str [], i64 0, i64 0, i64 0]] ∧ Fr a 276 [(0, str s), (3, ptr (adr dg)), (4, ptr (adr br)), (5, v), (6, .int .u8 (gt s at_).toNat), (7, ptr (adr tk)), (8, i64 (rowF s at_ 2 : Nat)), (12, .bool m), (13, i64 k)]) (fun (y : Nat × Bool) => match y with | (k, m) => rowF s at_ 2 - k) (0, true) ⟨⟨by omega, by simp⟩, hO, hF.sub ⟨rfl, rfl, rfl, rfl, rfl, rfl, rfl, rfl, rfl, trivial⟩⟩ ?_
                  rintro ⟨k, m⟩ a w ⟨⟨hk, hm⟩, hO, hF⟩
                  refine wp_seq ?_
                  refine wp_seq ?_
                  refine wp_region_lit ?_
                  refine wl_v hF rfl rfl rfl (q_move rfl (hF.eval rfl)) fun a hF => ?_
                  refine wl_v hF rfl rfl rfl (q_move rfl (hF.eval rfl)) fun a hF => ?_
                  refine wl_v hF rfl rfl rfl (q_lt rfl (hF.eval rfl) (hF.eval rfl)) fun a hF => ?_
                  refine wl_nil ?_
                  refine k_n ?_
                  refine wp_ifD hF rfl rfl (fun hc14 => ?_) (fun hc14 => ?_)
                  · skip
                    refine wp_skip ?_
                    refine k_n ?_
                    refine wp_seq ?_
                    refine wp_block ?_
                    refine wp_region_lit ?_
                    refine wl_v hF rfl rfl rfl (q_move rfl (hF.eval rfl)) fun a hF => ?_
                    refine wl_v hF rfl rfl rfl (q_move rfl (hF.eval rfl)) fun a hF => ?_
                    refine wl_g hF rfl rfl rfl rfl rfl rfl (fun hg => q_fieldAddr0 (d := 1) Tryd.underlying32 rfl (hF.eval rfl) rfl Tryd.sizeOf9 (by decide) rfl) fun a hF => ?_
                    refine wl_g hF rfl rfl rfl rfl rfl rfl (fun hg => q_load Tryd.isAgg9 rfl ((hF.eval rfl).trans (gv_of hg)) (hO.cell 0 rfl rfl)) fun a hF => ?_
                    refine wl_g hF rfl rfl rfl rfl rfl rfl (fun hg => q_move rfl (hF.eval rfl)) fun a hF => ?_
                    refine wl_g hF rfl rfl rfl rfl rfl rfl (fun hg => q_indexD (m := k) Tryd.underlying9 rfl ((hF.eval rfl).trans (gv_of hg)) ((hF.eval rfl).trans (gv_of hg)) (cut_lt (by omega) (by omega))) fun a hF => ?_
                    refine wl_g hF rfl rfl rfl rfl rfl rfl (fun hg => q_eq rfl ((hF.eval rfl).trans (gv_of hg)) (hF.eval rfl)) fun a hF => ?_
                    refine wl_v hF rfl rfl rfl (q_and rfl (hF.eval rfl) (dec_b _) (fun hg2 => ((hF.eval rfl).trans (gv_of hg2))) rfl) fun a hF => ?_
                    refine wl_v hF rfl rfl rfl (q_assign rfl (hF.eval rfl)) fun a hF => ?_
                    refine wl_nil ?_
                    refine b_n ?_
                    refine k_n ?_
                    refine wp_region_lit ?_
                    refine wl_v hF rfl rfl rfl (q_move rfl (hF.eval rfl)) fun a hF => ?_
                    refine wl_v hF rfl rfl rfl (q_add rfl (hF.eval rfl) (hF.eval rfl) (by omega)) fun a hF => ?_
                    refine wl_v hF rfl rfl rfl (q_assign rfl (hF.eval rfl)) fun a hF => ?_
                    refine wl_nil ?_
                    refine k_n ?_
                    have hO : St _ _ _ [_, _, _, _] := hO
                    exact ⟨(k + 1, decide (m = true ∧ (((cutF s at_ (rowF s at_ 2)).getD k 0).toNat : Int) = 45)), ⟨⟨by omega, all_on (cut_lt (by omega) (by omega)) hm⟩, hO, hF.sub ⟨rfl, rfl, rfl, rfl, rfl, rfl, rfl, rfl, rfl, trivial⟩⟩, by dsimp only; omega⟩
                  · skip
                    refine wp_exit ?_
                    refine k_x ?_
                    refine k_x ?_
                    refine b_x ?_
                    refine k_n ?_
                    refine wp_seq ?_
                    refine wp_seq ?_
                    refine wp_region_lit ?_
                    refine wl_v hF rfl rfl rfl (q_move rfl (hF.eval rfl)) fun a hF => ?_
                    refine wl_v hF rfl rfl rfl (q_move rfl (hF.eval rfl)) fun a hF => ?_
                    refine wl_g hF rfl rfl rfl rfl rfl rfl (fun hg => q_move rfl (hF.eval rfl)) fun a hF => ?_
                    refine wl_g hF rfl rfl rfl rfl rfl rfl (fun hg => q_ge rfl ((hF.eval rfl).trans (gv_of hg)) (hF.eval rfl)) fun a hF => ?_
                    refine wl_v hF rfl rfl rfl (q_and rfl (hF.eval rfl) (dec_b _) (fun hg2 => ((hF.eval rfl).trans (gv_of hg2))) rfl) fun a hF => ?_
                    refine wl_nil ?_
                    refine k_n ?_
                    refine wp_ifD hF rfl rfl (fun hc15 => ?_) (fun hc15 => ?_)
                    · skip
                      refine wp_seq ?_
                      refine wp_region_lit ?_
                      refine wl_v hF rfl rfl rfl (q_move rfl (hF.eval rfl)) fun a hF => ?_
                      refine wl_v hF rfl rfl rfl (q_move rfl (hF.eval rfl)) fun a hF => ?_
                      have hO := hO.pull 1 rfl
                      have hO : St _ _ _ [_, _, _, _] := hO
                      refine wl_e hF rfl rfl rfl (c_call hF rfl rfl Tryd.call19 (row_r _ _ _ _ 3 hO.own1 hs (by omega))) ?_
                      rintro a _ w ⟨rfl, hS⟩ hF
                      have hO := hO.call1 hS
                      have hO : St _ _ _ [_, _, _, _] := hO
                      have hO : St _ _ _ [_, _, _, _] := hO
                      refine wl_e hF rfl rfl rfl (c_call hF rfl rfl Tryd.call15 (on_r _ _ _ _ (rowF s at_ 3) hO.own1 (by omega) hs)) ?_
                      rintro a _ w ⟨-, hS⟩ hF
                      have hO := hO.call1 hS
                      have hO : St _ _ _ [_, _, _, _] := hO
                      refine wl_nil ?_
                      refine k_n ?_
                      refine wp_exit ?_
                      refine k_x ?_
                      refine b_o rfl ?_
                      refine k_x ?_
                      refine b_x ?_
                      refine k_n ?_
                      have hO := hO.drop1 1
                      have hO : St _ _ _ [_, _, _] := hO
                      obtain ⟨g, rfl⟩ : ∃ g, f = g + 1 := ⟨f - 1, by omega⟩
                      have hr3 := row3 (by omega) hc13
                      exact ⟨(g, at_ + rowF s at_ 3, out, v), ⟨⟨(rl_skip (by omega) (lex_line hc3 hc4 hc6 hc10 hc13 ⟨(all_end (by rw [cut_len (by omega)]; omega) hm).symm.trans hc15.1, by have := hc15.2; omega⟩)).symm.trans hr, by omega, by omega, by omega⟩, hO, hF.sub ⟨rfl, rfl, rfl, rfl, trivial⟩⟩, by dsimp only; omega⟩
                    · skip
                      refine wp_skip ?_
                      refine k_n ?_
                      refine wp_seq ?_
                      refine wp_region_lit ?_
                      refine wl_v hF rfl rfl rfl (q_fieldAddr0 (d := 0) Tryd.underlying32 rfl (hF.eval rfl) rfl Tryd.sizeOf3 (by decide) rfl) fun a hF => ?_
                      refine wl_s hF rfl rfl (e_store1 hO (i := 0) rfl Tryd.sizeOf3 rfl (hF.eval rfl) (hF.eval rfl) rfl rfl rfl) ?_
                      rintro a _ w ⟨-, hO⟩ hF
                      have hO : St _ _ _ [_, _, _, _] := hO
                      refine wl_nil ?_
                      refine k_n ?_
                      refine wp_seq ?_
                      have hO := hO.drew
                      refine wp_region_D [0, 1, 2, 3] (fun w => St _ _ w _) Tryd_mixed (by kernel_rfl) hO ?_
                      refine wd_p hF rfl rfl rfl (fun w => q_fieldAddr0 (d := 1) Tryd.underlying32 rfl (hF.eval rfl) rfl Tryd.sizeOf9 (by decide) rfl) fun a hF => ?_
                      refine wd_r hF rfl rfl rfl (fun w hO => q_load Tryd.isAgg9 rfl (hF.eval rfl) (hO.cell 0 rfl rfl)) fun a hF => ?_
                      refine wd_e hF rfl rfl rfl (c_call hF rfl rfl Tryd.call24 (signs_r _)) (fun _ _ ⟨_, _, hS⟩ => (hO.call0 hS).tail) ?_
                      rintro a _ w ⟨vws, rfl, hS⟩ hF
                      have hO := hO.call0 hS
                      have hO : St _ _ _ [_, _, _, _, _] := hO
                      refine wd_f hF rfl rfl rfl (c_call hF rfl rfl Tryd.call20 (one_r _ _ _ _ (by decide) (hO.rdT 0 rfl))) ?_
                      rintro a _ w ⟨rfl, hS⟩ hF
                      have hO := hO.call0 hS
                      have hO : St _ _ _ [_, _, _, _, _] := hO
                      refine wd_nil ?_
                      refine k_n ?_
                      refine wp_ifD hF rfl (dec_b _) (fun hc16 => ?_) (fun hc16 => ?_)
                      · skip
                        refine wp_region_lit ?_
                        refine wl_v hF rfl rfl rfl (q_fieldAddr0 (d := 0) Tryd.underlying32 rfl (hF.eval rfl) rfl Tryd.sizeOf3 (by decide) rfl) fun a hF => ?_
                        refine wl_s hF rfl rfl (e_store1 hO (i := 1) rfl Tryd.sizeOf3 rfl (hF.eval rfl) (hF.eval rfl) rfl rfl rfl) ?_
                        rintro a _ w ⟨-, hO⟩ hF
                        have hO : St _ _ _ [_, _, _, _, _] := hO
                        refine wl_nil ?_
                        refine b_n ?_
                        refine k_n ?_
                        have hO := hO.drop1 0
                        have hO : St _ _ _ [_, _, _, _] := hO
                        have hr0 := row2 (by omega) hc13
                        have hnm : ¬ ((cutF s at_ (rowF s at_ 2)).all (fun c => c = 45) = true ∧ 2 ≤ rowF s at_ 2) := fun h => hc15 ⟨(all_end (by rw [cut_len (by omega)]; omega) hm).trans h.1, by have := h.2; omega⟩
                        exact ⟨(⟨8, cutF s at_ (rowF s at_ 2), 0, _, _⟩, rowF s at_ 2), ⟨⟨lex_mark hc3 hc4 hc6 hc10 hc13 hnm (if_pos hc16), rfl, rfl, by omega, by omega⟩, hO, hF.sub ⟨rfl, rfl, rfl, rfl, rfl, rfl, trivial⟩⟩⟩
                      · skip
                        refine wp_seq ?_
                        refine wp_region_lit ?_
                        refine wl_v hF rfl rfl rfl (q_move rfl (hF.eval rfl)) fun a hF => ?_
                        refine wl_v hF rfl rfl rfl (q_eq rfl (hF.eval rfl) (hF.eval rfl)) fun a hF => ?_
                        refine wl_nil ?_
                        refine k_n ?_
                        refine wp_ifD hF rfl rfl (fun hc17 => ?_) (fun hc17 => ?_)
                        · skip
                          refine wp_region_lit ?_
                          refine wl_v hF rfl rfl rfl (q_fieldAddr0 (d := 0) Tryd.underlying32 rfl (hF.eval rfl) rfl Tryd.sizeOf3 (by decide) rfl) fun a hF => ?_
                          refine wl_s hF rfl rfl (e_store1 hO (i := 1) rfl Tryd.sizeOf3 rfl (hF.eval rfl) (hF.eval rfl) rfl rfl rfl) ?_
                          rintro a _ w ⟨-, hO⟩ hF
                          have hO : St _ _ _ [_, _, _, _, _] := hO
                          refine wl_nil ?_
                          refine b_n ?_
                          refine k_n ?_
                          have hO := hO.drop1 0
                          have hO : St _ _ _ [_, _, _, _] := hO
                          have hr0 := row2 (by omega) hc13
                          have hnm : ¬ ((cutF s at_ (rowF s at_ 2)).all (fun c => c = 45) = true ∧ 2 ≤ rowF s at_ 2) := fun h => hc15 ⟨(all_end (by rw [cut_len (by omega)]; omega) hm).trans h.1, by have := h.2; omega⟩
                          exact ⟨(⟨4, cutF s at_ (rowF s at_ 2), 0, _, _⟩, rowF s at_ 2), ⟨⟨lex_mark hc3 hc4 hc6 hc10 hc13 hnm ((if_neg hc16).trans (if_pos (gt_eq 58 rfl hc17))), rfl, rfl, by omega, by omega⟩, hO, hF.sub ⟨rfl, rfl, rfl, rfl, rfl, rfl, trivial⟩⟩⟩
                        · skip
                          refine wp_skip ?_
                          refine b_n ?_
                          refine k_n ?_
                          have hO := hO.drop1 0
                          have hO : St _ _ _ [_, _, _, _] := hO
                          have hr0 := row2 (by omega) hc13
                          have hnm : ¬ ((cutF s at_ (rowF s at_ 2)).all (fun c => c = 45) = true ∧ 2 ≤ rowF s at_ 2) := fun h => hc15 ⟨(all_end (by rw [cut_len (by omega)]; omega) hm).trans h.1, by have := h.2; omega⟩
                          exact ⟨(⟨3, cutF s at_ (rowF s at_ 2), 0, _, _⟩, rowF s at_ 2), ⟨⟨lex_mark hc3 hc4 hc6 hc10 hc13 hnm ((if_neg hc16).trans (if_neg (gt_ne 58 rfl hc17))), rfl, rfl, by omega, by omega⟩, hO, hF.sub ⟨rfl, rfl, rfl, rfl, rfl, rfl, trivial⟩⟩⟩
                · skip
                  refine wp_seq ?_
                  refine wp_region_lit ?_
                  refine wl_v hF rfl rfl rfl (q_move rfl (hF.eval rfl)) fun a hF => ?_
                  refine wl_e hF rfl rfl rfl (c_call hF rfl rfl Tryd.call25 (has_r _ _ _ (by decide))) ?_
                  rintro a _ w ⟨rfl, hS⟩ hF
                  have hO := hO.call0 hS
                  have hO : St _ _ _ [_, _, _, _] := hO
                  refine wl_v hF rfl rfl rfl (q_assign rfl (hF.eval rfl)) fun a hF => ?_
                  refine wl_nil ?_
                  refine k_n ?_
                  refine wp_ifD hF rfl (dec_b _) (fun hc18 => ?_) (fun hc18 => ?_)
                  · skip
                    refine wp_seq ?_
                    refine wp_region_lit ?_
                    refine wl_v hF rfl rfl rfl (q_fieldAddr0 (d := 0) Tryd.underlying32 rfl (hF.eval rfl) rfl Tryd.sizeOf3 (by decide) rfl) fun a hF => ?_
                    refine wl_s hF rfl rfl (e_store1 hO (i := 0) rfl Tryd.sizeOf3 rfl (hF.eval rfl) (hF.eval rfl) rfl rfl rfl) ?_
                    rintro a _ w ⟨-, hO⟩ hF
                    have hO : St _ _ _ [_, _, _, _] := hO
                    refine wl_nil ?_
                    refine k_n ?_
                    have hO := hO.drew
                    refine wp_region_D [0, 0, 0, 0, 1, 0, 0, 0, 1, 0, 0, 0, 3] (fun w => St _ _ w _) Tryd_mixed (by kernel_rfl) hO ?_
                    refine wd_p hF rfl rfl rfl (fun w => q_move rfl (hF.eval rfl)) fun a hF => ?_
                    refine wd_p hF rfl rfl rfl (fun w => q_move rfl (hF.eval rfl)) fun a hF => ?_
                    refine wd_p hF rfl rfl rfl (fun w => q_nilCheck rfl (hF.eval rfl)) fun a hF => ?_
                    refine wd_p hF rfl rfl rfl (fun w => q_fieldAddr0 (d := 1) Tryd.underlying44 rfl (hF.eval rfl) rfl Tryd.sizeOf3 (by decide) rfl) fun a hF => ?_
                    refine wd_r hF rfl rfl rfl (fun w hO => q_load Tryd.isAgg3 rfl (hF.eval rfl) (hO.cell 1 rfl rfl)) fun a hF => ?_
                    refine wd_p hF rfl rfl rfl (fun w => q_move rfl (hF.eval rfl)) fun a hF => ?_
                    refine wd_p hF rfl rfl rfl (fun w => q_nilCheck rfl (hF.eval rfl)) fun a hF => ?_
                    refine wd_p hF rfl rfl rfl (fun w => q_fieldAddr0 (d := 1) Tryd.underlying44 rfl (hF.eval rfl) rfl Tryd.sizeOf3 (by decide) rfl) fun a hF => ?_
                    refine wd_r hF rfl rfl rfl (fun w hO => q_load Tryd.isAgg3 rfl (hF.eval rfl) (hO.cell 1 rfl rfl)) fun a hF => ?_
                    refine wd_p hF rfl rfl rfl (fun w => q_add rfl (hF.eval rfl) (hF.eval rfl) (by omega)) fun a hF => ?_
                    refine wd_p hF rfl rfl rfl (fun w => q_cut (i := at_) (j := at_ + 1) Tryd.underlying9 rfl (hF.eval rfl) (hF.eval rfl) (hF.eval rfl) (by omega) (by omega)) fun a hF => ?_
                    refine wd_p hF rfl rfl rfl (fun w => q_fieldAddr0 (d := 1) Tryd.underlying32 rfl (hF.eval rfl) rfl Tryd.sizeOf9 (by decide) rfl) fun a hF => ?_
                    refine wd_s hF rfl rfl (e_store1 hO (i := 0) rfl Tryd.sizeOf9 rfl (hF.eval rfl) (hF.eval rfl) rfl rfl rfl) ?_
                    rintro a _ w ⟨-, hO⟩ hF
                    have hO : St _ _ _ [_, _, _, _] := hO
                    refine wd_nil ?_
                    refine b_n ?_
                    refine k_n ?_
                    have hO : St _ _ _ [_, _, _, _] := hO
                    exact ⟨(⟨8, cutF s at_ 1, 0, _, _⟩, 1), ⟨⟨lex_single hc3 hc4 hc6 hc10 hc13 hc18, rfl, rfl, by omega, by omega⟩, hO, hF.sub ⟨rfl, rfl, rfl, rfl, rfl, rfl, trivial⟩⟩⟩
                  · skip
                    refine wp_seq ?_
                    refine wp_region_lit ?_
                    refine wl_v hF rfl rfl rfl (q_move rfl (hF.eval rfl)) fun a hF => ?_
                    refine wl_v hF rfl rfl rfl (q_eq rfl (hF.eval rfl) (hF.eval rfl)) fun a hF => ?_
                    refine wl_v hF rfl rfl rfl (q_assign rfl (hF.eval rfl)) fun a hF => ?_
                    refine wl_nil ?_
                    refine k_n ?_
                    refine wp_ifD hF rfl rfl (fun hc19 => ?_) (fun hc19 => ?_)
                    · skip
                      refine wp_seq ?_
                      refine wp_region_lit ?_
                      refine wl_v hF rfl rfl rfl (q_fieldAddr0 (d := 0) Tryd.underlying32 rfl (hF.eval rfl) rfl Tryd.sizeOf3 (by decide) rfl) fun a hF => ?_
                      refine wl_s hF rfl rfl (e_store1 hO (i := 0) rfl Tryd.sizeOf3 rfl (hF.eval rfl) (hF.eval rfl) rfl rfl rfl) ?_
                      rintro a _ w ⟨-, hO⟩ hF
                      have hO : St _ _ _ [_, _, _, _] := hO
                      refine wl_nil ?_
                      refine k_n ?_
                      refine wp_seq ?_
                      refine wp_region_lit ?_
                      refine wl_v hF rfl rfl rfl (q_move rfl (hF.eval rfl)) fun a hF => ?_
                      have hO := hO.pull 1 rfl
                      have hO : St _ _ _ [_, _, _, _] := hO
                      refine wl_e hF rfl rfl rfl (c_call hF rfl rfl Tryd.call26 (text_r2 _ _ _ _ hO.own1 hs (by omega))) ?_
                      rintro a _ w ⟨tt, tn, rfl, htx, hS⟩ hF
                      have hO := hO.call1 hS
                      have hO : St _ _ _ [_, _, _, _] := hO
                      refine wl_v hF rfl rfl rfl (q_move rfl (hF.eval rfl)) fun a hF => ?_
                      refine wl_v hF rfl rfl rfl (q_extract rfl (hF.eval rfl) rfl) fun a hF => ?_
                      refine wl_v hF rfl rfl rfl (q_extract rfl (hF.eval rfl) rfl) fun a hF => ?_
                      refine wl_v hF rfl rfl rfl (q_fieldAddr0 (d := 1) Tryd.underlying32 rfl (hF.eval rfl) rfl Tryd.sizeOf9 (by decide) rfl) fun a hF => ?_
                      refine wl_s hF rfl rfl (e_store1 hO (i := 1) rfl Tryd.sizeOf9 rfl (hF.eval rfl) (hF.eval rfl) rfl rfl rfl) ?_
                      rintro a _ w ⟨-, hO⟩ hF
                      have hO : St _ _ _ [_, _, _, _] := hO
                      refine wl_v hF rfl rfl rfl (q_assign rfl (hF.eval rfl)) fun a hF => ?_
                      refine wl_nil ?_
                      refine k_n ?_
                      refine wp_seq ?_
                      refine wp_region_lit ?_
                      refine wl_v hF rfl rfl rfl (q_move rfl (hF.eval rfl)) fun a hF => ?_
                      refine wl_v hF rfl rfl rfl (q_lt rfl (hF.eval rfl) (hF.eval rfl)) fun a hF => ?_
                      refine wl_nil ?_
                      refine k_n ?_
                      refine wp_ifD hF rfl rfl (fun hc20 => ?_) (fun hc20 => ?_)
                      · skip
                        refine wp_seq ?_
                        refine wp_region_lit ?_
                        refine wl_v hF rfl rfl rfl (q_move rfl (hF.eval rfl)) fun a hF => ?_
                        have hO : St _ _ _ [_, _, _, _] := hO
                        refine wl_e hF rfl rfl rfl (c_call hF rfl rfl Tryd.call17 (bad_r _ _ _ _ hO.own1 _)) ?_
                        rintro a _ w ⟨rfl, hS⟩ hF
                        have hO := hO.call1 hS
                        have hO : St _ _ _ [_, _, _, _] := hO
                        refine wl_v hF rfl rfl rfl (q_extract rfl (hF.eval rfl) rfl) fun a hF => ?_
                        refine wl_v hF rfl rfl rfl (q_extract rfl (hF.eval rfl) rfl) fun a hF => ?_
                        refine wl_v hF rfl rfl rfl (q_assign rfl (hF.eval rfl)) fun a hF => ?_
                        refine wl_s hF rfl rfl (e_storeAll hO (i := 3) rfl Tryd.sizeOf25 rfl (hF.eval rfl) (hF.eval rfl) rfl rfl) ?_
                        rintro a _ w ⟨-, hO⟩ hF
                        have hO : St _ _ _ [_, _, _, _] := hO
                        refine wl_nil ?_
                        refine k_n ?_
                        refine wp_ret ?_
                        refine b_r ?_
                        refine k_r ?_
                        refine b_r ?_
                        refine k_r ?_
                        refine b_r ?_
                        refine k_r ?_
                        refine r_tc hF rfl rfl rfl Tryd.isAgg25 Tryd.sizeOf25 (hO.cells 3 rfl) rfl ?_
                        obtain ⟨g, rfl⟩ : ∃ g, f = g + 1 := ⟨f - 1, by omega⟩
                        exact ⟨_, [], _, rd_bad (by omega) hr (by omega) (by rw [lex_text hc3 hc4 hc6 hc10 hc13 hc18 hc19, txNo htx hc20]), rfl, (hO.nilSl 32 5).only⟩
                      · skip
                        obtain ⟨k, hkm, rfl⟩ := setTx s at_ htx hc20
                        refine wp_skip ?_
                        refine b_n ?_
                        refine k_n ?_
                        have hO := hO.pull 3 rfl
                        have hO := hO.pull 3 rfl
                        have hO := hO.pull 2 rfl
                        have hO := hO.pull 3 rfl
                        have hO : St _ _ _ [_, _, _, _] := hO
                        have hk1 := text_le hkm
                        exact ⟨(⟨6, tt, 0, _, _⟩, k), ⟨⟨(by rw [lex_text hc3 hc4 hc6 hc10 hc13 hc18 hc19, hkm]), rfl, rfl, by omega, by omega⟩, hO, hF.sub ⟨rfl, rfl, rfl, rfl, rfl, rfl, trivial⟩⟩⟩
                    · skip
                      refine wp_seq ?_
                      refine wp_region_lit ?_
                      refine wl_v hF rfl rfl rfl (q_move rfl (hF.eval rfl)) fun a hF => ?_
                      have hO := hO.pull 1 rfl
                      have hO : St _ _ _ [_, _, _, _] := hO
                      refine wl_e hF rfl rfl rfl (c_call hF rfl rfl Tryd.call17 (bad_r _ _ _ _ hO.own1 _)) ?_
                      rintro a _ w ⟨rfl, hS⟩ hF
                      have hO := hO.call1 hS
                      have hO : St _ _ _ [_, _, _, _] := hO
                      refine wl_v hF rfl rfl rfl (q_extract rfl (hF.eval rfl) rfl) fun a hF => ?_
                      refine wl_v hF rfl rfl rfl (q_extract rfl (hF.eval rfl) rfl) fun a hF => ?_
                      refine wl_v hF rfl rfl rfl (q_assign rfl (hF.eval rfl)) fun a hF => ?_
                      refine wl_s hF rfl rfl (e_storeAll hO (i := 3) rfl Tryd.sizeOf25 rfl (hF.eval rfl) (hF.eval rfl) rfl rfl) ?_
                      rintro a _ w ⟨-, hO⟩ hF
                      have hO : St _ _ _ [_, _, _, _] := hO
                      refine wl_nil ?_
                      refine k_n ?_
                      refine wp_ret ?_
                      refine b_r ?_
                      refine k_r ?_
                      refine b_r ?_
                      refine k_r ?_
                      refine b_r ?_
                      refine k_r ?_
                      refine r_tc hF rfl rfl rfl Tryd.isAgg25 Tryd.sizeOf25 (hO.cells 3 rfl) rfl ?_
                      obtain ⟨g, rfl⟩ : ∃ g, f = g + 1 := ⟨f - 1, by omega⟩
                      exact ⟨_, [], _, rd_bad (by omega) hr (by omega) (lex_byte hc3 hc4 hc6 hc10 hc13 hc18 hc19), rfl, (hO.nilSl 32 5).only⟩
      · skip
        rintro ⟨t, n⟩ a w ⟨⟨hlex, hline, hcol, hn1, hn2⟩, hO, hF⟩
        refine wp_seq ?_
        refine wp_region_lit ?_
        refine wl_v hF rfl rfl rfl (q_move rfl (hF.eval rfl)) fun a hF => ?_
        refine wl_v hF rfl rfl rfl (q_move rfl (hF.eval rfl)) fun a hF => ?_
        have hO := hO.pull 1 rfl
        have hO : St _ _ _ [_, _, _, _] := hO
        refine wl_e hF rfl rfl rfl (c_call hF rfl rfl Tryd.call15 (on_r _ _ _ _ (n) hO.own1 (by omega) hs)) ?_
        rintro a _ w ⟨-, hS⟩ hF
        have hO := hO.call1 hS
        have hO : St _ _ _ [_, _, _, _] := hO
        refine wl_nil ?_
        refine k_n ?_
        refine wp_region_lit ?_
        refine wl_v hF rfl rfl rfl (q_move rfl (hF.eval rfl)) fun a hF => ?_
        refine wl_v hF rfl rfl rfl (q_loadAgg Tryd.isAgg32 Tryd.sizeOf32 rfl (hF.eval rfl) (hO.cells 1 rfl) rfl) fun a hF => ?_
        refine wl_e hF rfl rfl rfl (c_buildSlice hF hO Tryd.underlying22 Tryd.sizeOf32 Tryd.zeroValue32 rfl rfl rfl rfl rfl rfl rfl) ?_
        rintro a _ w ⟨b1, rfl, hO⟩ hF
        refine wl_e hF rfl rfl rfl (e_appendT (bytes := 48) (r := [t]) hO (i := 3) rfl (hO.rd 0 rfl) Tryd.underlying22 Tryd_info32 rfl rfl rfl rfl rfl rfl (hF.eval rfl) (hF.eval rfl) (by show (List.length _ + 1) * 48 ≤ _; omega) (by show List.length _ + 1 ≤ _; omega)) ?_
        rintro a v262 w hO hF
        have hO : St _ _ _ [_, _, _, _, _] := hO
        refine wl_v hF rfl rfl rfl (q_assign rfl (hF.eval rfl)) fun a hF => ?_
        refine wl_nil ?_
        refine b_n ?_
        refine k_n ?_
        have hO := hO.drop1 0
        have hO := hO.drop1 1
        have hO : St _ _ _ [_, _, _] := hO
        obtain ⟨g, rfl⟩ : ∃ g, f = g + 1 := ⟨f - 1, by omega⟩
        exact ⟨(g, at_ + n, out ++ [t], _), ⟨⟨(rl_tok2 (by omega) hlex hline hcol).symm.trans hr, by omega, by omega, by simp; omega⟩, hO, hF.sub ⟨rfl, rfl, rfl, rfl, trivial⟩⟩, by dsimp only; omega⟩
    · skip
      refine wp_exit ?_
      refine k_x ?_
      refine k_x ?_
      refine b_x ?_
      refine k_n ?_
      refine wp_seq ?_
      have hO := hO.drew
      refine wp_region_D [0, 0, 0, 0, 1, 0, 0, 0, 1, 0, 2, 3, 0, 0, 3] (fun w => St _ _ w _) Tryd_mixed (by kernel_rfl) hO ?_
      refine wd_p hF rfl rfl rfl (fun w => q_move rfl (hF.eval rfl)) fun a hF => ?_
      refine wd_p hF rfl rfl rfl (fun w => q_move rfl (hF.eval rfl)) fun a hF => ?_
      refine wd_p hF rfl rfl rfl (fun w => q_nilCheck rfl (hF.eval rfl)) fun a hF => ?_
      refine wd_p hF rfl rfl rfl (fun w => q_fieldAddr0 (d := 2) Tryd.underlying44 rfl (hF.eval rfl) rfl Tryd.sizeOf3 (by decide) rfl) fun a hF => ?_
      refine wd_r hF rfl rfl rfl (fun w hO => q_load Tryd.isAgg3 rfl (hF.eval rfl) (hO.cell 0 rfl rfl)) fun a hF => ?_
      refine wd_p hF rfl rfl rfl (fun w => q_move rfl (hF.eval rfl)) fun a hF => ?_
      refine wd_p hF rfl rfl rfl (fun w => q_nilCheck rfl (hF.eval rfl)) fun a hF => ?_
      refine wd_p hF rfl rfl rfl (fun w => q_fieldAddr0 (d := 3) Tryd.underlying44 rfl (hF.eval rfl) rfl Tryd.sizeOf3 (by decide) rfl) fun a hF => ?_
      refine wd_r hF rfl rfl rfl (fun w hO => q_load Tryd.isAgg3 rfl (hF.eval rfl) (hO.cell 0 rfl rfl)) fun a hF => ?_
      refine wd_p hF rfl rfl rfl (fun w => c_build hF Tryd.underlying32 Tryd.zeroValue32 Tryd_places32 rfl rfl rfl rfl) fun a hF => ?_
      refine wd_e hF rfl rfl rfl (c_buildSlice hF hO Tryd.underlying22 Tryd.sizeOf32 Tryd.zeroValue32 rfl rfl rfl rfl rfl rfl rfl) (fun _ _ ⟨_, _, hO⟩ => hO.tail) ?_
      rintro a _ w ⟨b2, rfl, hO⟩ hF
      refine wd_f hF rfl rfl rfl (e_appendT (bytes := 48) (r := [⟨9, [], 0, (posF s at_).1, (posF s at_).2⟩]) hO (i := 2) rfl (hO.rd 0 rfl) Tryd.underlying22 Tryd_info32 rfl rfl rfl rfl rfl rfl (hF.eval rfl) (hF.eval rfl) (by show (List.length _ + 1) * 48 ≤ _; omega) (by show List.length _ + 1 ≤ _; omega)) ?_
      rintro a v274 w hO hF
      have hO : St _ _ _ [_, _, _, _] := hO
      refine wd_p hF rfl rfl rfl (fun w => c_build hF Tryd.underlying25 Tryd.zeroValue25 Tryd_places25 rfl rfl rfl rfl) fun a hF => ?_
      refine wd_p hF rfl rfl rfl (fun w => q_assign rfl (hF.eval rfl)) fun a hF => ?_
      refine wd_s hF rfl rfl (e_storeAll hO (i := 3) rfl Tryd.sizeOf25 rfl (hF.eval rfl) (hF.eval rfl) rfl rfl) ?_
      rintro a _ w ⟨-, hO⟩ hF
      have hO : St _ _ _ [_, _, _, _] := hO
      refine wd_nil ?_
      refine k_n ?_
      refine wp_ret ?_
      refine r_tc hF rfl rfl rfl Tryd.isAgg25 Tryd.sizeOf25 (hO.cells 3 rfl) rfl ?_
      exact ⟨_, _, _, rd_end hc2 hf hal hr hs, rfl, (hO.pull 2 rfl).only⟩

end Go.Proofs.YtanpeofnlihhoaaDoor
