/- PLAIN: the program's lexer goes over what is left of a text: the same as the reference's at a place. -/
import Derived.Test.YtanpeofnlihhoaaDoorRe
import Derived.Test.YtanpeofnlihhoaaDoorGw19
import Derived.Lib.Bytealg
import Derived.Lib.TrimByte
import Derived.Lib.ParseIntB
import Derived.KernelRfl
namespace Go.Proofs.YtanpeofnlihhoaaDoor
open Go
theorem u8_all {p : UInt8 → Prop} (h : ∀ n : Fin 256, p (UInt8.ofNat n.val)) (b : UInt8) : p b := by
  have := h ⟨b.toNat, b.toNat_lt⟩
  simpa using this
theorem or32 (b : UInt8) : IntKind.u8.wrap ((BitVec.ofInt IntKind.u8.bits (b.toNat : Int) ||| BitVec.ofInt IntKind.u8.bits 32).toNat : Int) = ((b ||| 32).toNat : Int) :=
  u8_all (p := fun b => IntKind.u8.wrap ((BitVec.ofInt IntKind.u8.bits (b.toNat : Int) ||| BitVec.ofInt IntKind.u8.bits 32).toNat : Int) = ((b ||| 32).toNat : Int)) (by decide +kernel) b
theorem letter_or (b : UInt8) : decide ((97 : Int) ≤ ((b ||| 32).toNat : Int) ∧ ((b ||| 32).toNat : Int) ≤ 122) = letterB b :=
  u8_all (p := fun b => decide ((97 : Int) ≤ ((b ||| 32).toNat : Int) ∧ ((b ||| 32).toNat : Int) ≤ 122) = letterB b) (by decide +kernel) b
def marks18 : List UInt8 := [33, 35, 36, 37, 38, 42, 43, 46, 47, 60, 61, 62, 63, 64, 92, 94, 124, 45, 58]
theorem mark_ix (b : UInt8) : decide ((0 : Int) ≤ Lib.indexByte marks18 b) = markB b :=
  u8_all (p := fun b => decide ((0 : Int) ≤ Lib.indexByte marks18 b) = markB b) (by decide +kernel) b
theorem single_ix (b : UInt8) : decide ((0 : Int) ≤ Lib.indexByte singlesL b) = singlesL.contains b :=
  u8_all (p := fun b => decide ((0 : Int) ≤ Lib.indexByte singlesL b) = singlesL.contains b) (by decide +kernel) b
theorem q_u8or {P : Program} {o : Oper} {a : Act} {w : World} {x y : Operand} {t t' : TypeId} {b : UInt8} (ho : o.op = .binOp .or t x y t') (hx : a.eval x = .int .u8 b.toNat) (hy : a.eval y = .int .u8 32) : QV P o a w (.int .u8 ((b ||| 32).toNat : Int)) :=
  q_binInt ho hx hy (by
    show Op.intBits .or .u8 _ _ = _
    unfold Op.intBits
    show pure (Value.int .u8 (IntKind.u8.wrap _)) = _
    rw [or32])
/-! rows -/
theorem drop_len (s : List UInt8) (i : Nat) : (s.drop i).length = s.length - i := by simp
theorem tw_le (p : UInt8 → Bool) (l : List UInt8) : (l.takeWhile p).length ≤ l.length := (List.takeWhile_sublist p).length_le
theorem tw_stop {p : UInt8 → Bool} {l : List UInt8} {k : Nat} (hk : k ≤ (l.takeWhile p).length) (h : ¬ ((k : Int) < l.length ∧ p (l.getD k 0) = true)) : (l.takeWhile p).length = k := by
  refine tw_no p l k hk ?_
  by_cases h1 : k < l.length
  · right
    cases hp : p (l.getD k 0) with
    | false => rfl
    | true => exact absurd ⟨by omega, hp⟩ h
  · left; omega
theorem cut_take (s : List UInt8) (i n : Nat) : (s.drop i).take n = cutF s i n := by
  unfold cutF; rw [List.drop_take, Nat.add_sub_cancel_left]
/-! remarks -/
theorem remF_shift (s : List UInt8) (i : Nat) : ∀ (f : Nat) (d : Int) (j : Nat), remF (s.drop i) 0 f d j = remF s i f d (i + j)
  | 0, _, _ => rfl
  | f + 1, d, j => by
    have e1 : gt (s.drop i) j = gt s (i + j) := drop_getD s i j
    have e2 : gt (s.drop i) (j + 1) = gt s (i + j + 1) := drop_getD s i (j + 1)
    unfold remF
    rw [drop_len, e1, e2, remF_shift s i f (d + 1) (j + 2), remF_shift s i f (d - 1) (j + 2), remF_shift s i f d (j + 1)]
    have e4 : j + 2 - 0 = i + j + 2 - i := by omega
    by_cases h : i + j + 1 < s.length
    · rw [if_pos (show j + 1 < s.length - i by omega), if_pos h, e4]; rfl
    · rw [if_neg (show ¬ j + 1 < s.length - i by omega), if_neg h]
theorem remark_shift (s : List UInt8) (i : Nat) : remF (s.drop i) 0 (s.length + 1) 0 0 = remarkF s i := remF_shift s i _ _ _
/-! decimal numbers behind a backslash -/
/-- the value of digits, capped -/
def capF : List UInt8 → Nat → Nat
  | [], n => n
  | c :: r, n => capF r (min (10 * n + (c.toNat - 48)) 1000)
theorem decF_cap (s : List UInt8) : ∀ (f n i : Nat), s.length ≤ i + f → decF s f n i = (capF ((s.drop i).takeWhile digitB) n, i + ((s.drop i).takeWhile digitB).length)
  | 0, n, i, h => by
    rw [List.drop_of_length_le (by omega)]
    rfl
  | f + 1, n, i, h => by
    unfold decF
    by_cases hi : i < s.length
    · have e : s.drop i = gt s i :: s.drop (i + 1) := by unfold gt; exact drop_cons hi
      by_cases hd : digitB (gt s i) = true
      · rw [if_pos ⟨hi, hd⟩, decF_cap s f _ (i + 1) (by omega), e, List.takeWhile_cons, if_pos hd]
        refine Prod.ext rfl ?_
        simp only [List.length_cons]; omega
      · rw [if_neg (fun h => hd h.2), e, List.takeWhile_cons, if_neg hd]
        rfl
    · rw [if_neg (fun h => hi h.1), List.drop_of_length_le (by omega)]
      rfl
theorem decF_shift (s : List UInt8) (i j n : Nat) (hj : i + j ≤ s.length) : decF (s.drop i) (s.drop i).length n j = ((decF s s.length n (i + j)).1, (decF s s.length n (i + j)).2 - i) := by
  rw [decF_cap _ _ _ _ (by omega), decF_cap _ _ _ _ (by omega), List.drop_drop]
  refine Prod.ext rfl ?_
  simp only; omega
theorem capF_ge : ∀ (l : List UInt8) (n : Nat), 255 < n → n ≤ 1000 → 255 < capF l n
  | [], _, h, _ => h
  | c :: r, n, h, h2 => capF_ge r _ (by omega) (by omega)
theorem capF_ok : ∀ (l : List UInt8) (n : Nat), n ≤ 255 → (∀ c ∈ l, digitB c = true) → (Lib.parseUintM 255 n l = .ok (capF l n) ∧ capF l n ≤ 255) ∨ (Lib.parseUintM 255 n l = .range ∧ 255 < capF l n)
  | [], n, h, _ => .inl ⟨rfl, h⟩
  | c :: r, n, h, hd => by
    have hc := digit_iff (hd c List.mem_cons_self)
    unfold Lib.parseUintM capF
    rw [if_pos (by omega), if_neg (by omega)]
    by_cases hr : 255 < n * 10 + (c.toNat - 48)
    · rw [if_pos hr]
      exact .inr ⟨rfl, capF_ge r _ (by omega) (by omega)⟩
    · rw [if_neg hr, show min (10 * n + (c.toNat - 48)) 1000 = n * 10 + (c.toNat - 48) by omega]
      exact capF_ok r _ (by omega) (fun c h => hd c (List.mem_cons_of_mem _ h))
theorem tw_dig {l : List UInt8} {p : UInt8 → Bool} : ∀ c ∈ l.takeWhile p, p c = true := fun c hc => by
  have := List.all_takeWhile (l := l) (p := p)
  exact List.all_eq_true.1 this c hc
/-- a number behind a backslash, as ParseUint says -/
theorem num8 {l : List UInt8} (h0 : l ≠ []) (hd : ∀ c ∈ l, digitB c = true) : (Lib.parseUintB 8 l = .ok (capF l 0) ∧ capF l 0 ≤ 255) ∨ (Lib.parseUintB 8 l = .range ∧ 255 < capF l 0) := by
  unfold Lib.parseUintB
  rw [if_neg h0]
  exact capF_ok l 0 (by omega) hd
/-! numbers -/
theorem num_uint : ∀ (l : List UInt8) (n : Nat), n ≤ 9223372036854775807 → (∀ c ∈ l, digitB c = true) →
    (∃ v, numF l n = some v ∧ Lib.parseUintM 18446744073709551615 n l = .ok v ∧ v ≤ 9223372036854775807) ∨ (numF l n = none ∧ (Lib.parseUintM 18446744073709551615 n l = .range ∨ ∃ v, Lib.parseUintM 18446744073709551615 n l = .ok v ∧ 9223372036854775807 < v))
  | [], n, h, _ => .inl ⟨n, rfl, rfl, h⟩
  | c :: r, n, h, hd => by
    have hc := digit_iff (hd c List.mem_cons_self)
    have hr := fun c h => hd c (List.mem_cons_of_mem _ h)
    have big : ∀ (l : List UInt8) (n : Nat), 9223372036854775807 < n → (∀ c ∈ l, digitB c = true) → (Lib.parseUintM 18446744073709551615 n l = .range ∨ ∃ v, Lib.parseUintM 18446744073709551615 n l = .ok v ∧ 9223372036854775807 < v) := by
      intro l
      induction l with
      | nil => intro n hn _; exact .inr ⟨n, rfl, hn⟩
      | cons c r ih =>
        intro n hn hd
        have hc := digit_iff (hd c List.mem_cons_self)
        unfold Lib.parseUintM
        rw [if_pos (by omega), if_pos (by omega)]
        exact .inl rfl
    have c0 : 48 ≤ c.toNat ∧ c.toNat ≤ 57 := by omega
    unfold numF Lib.parseUintM
    rw [if_pos c0]
    by_cases h1 : (9223372036854775807 - (c.toNat - 48)) / 10 < n
    · rw [if_pos h1]
      refine .inr ⟨rfl, ?_⟩
      split
      · exact .inl rfl
      · split
        · exact .inl rfl
        · exact big r _ (by omega) hr
    · rw [if_neg h1, if_neg (by omega), if_neg (by omega), show 10 * n + (c.toNat - 48) = n * 10 + (c.toNat - 48) by omega]
      exact num_uint r _ (by omega) hr
theorem num64 {l : List UInt8} (h0 : l ≠ []) (hd : ∀ c ∈ l, digitB c = true) : (∃ v : Nat, numF l 0 = some v ∧ Lib.parseIntB 64 l = .ok (v : Int) ∧ v ≤ 9223372036854775807) ∨ (numF l 0 = none ∧ Lib.parseIntB 64 l = .range) := by
  cases l with
  | nil => exact absurd rfl h0
  | cons c r =>
    have hc := digit_iff (hd c List.mem_cons_self)
    have e1 : ¬ c.toNat = 43 := by omega
    have e2 : ¬ c.toNat = 45 := by omega
    have e3 : Lib.parseUintB 64 (c :: r) = Lib.parseUintM 18446744073709551615 0 (c :: r) := by
      unfold Lib.parseUintB
      rw [if_neg (by simp)]
    unfold Lib.parseIntB
    simp only [e1, e2, or_self, if_false, e3, false_and, not_false_eq_true, true_and]
    rcases num_uint (c :: r) 0 (by omega) hd with ⟨v, h1, h2, h3⟩ | ⟨h1, h2 | ⟨v, h2, h3⟩⟩
    · rw [h2]
      refine .inl ⟨v, h1, ?_, h3⟩
      simp only
      rw [if_neg (by omega)]
    · rw [h2]; exact .inr ⟨h1, rfl⟩
    · rw [h2]
      refine .inr ⟨h1, ?_⟩
      simp only
      rw [if_pos (by omega)]
/-! Trim -/
theorem trim_all (l : List UInt8) : Lib.trimB l 45 = [] ↔ l.all (fun c => c = 45) = true := by
  unfold Lib.trimB Lib.trimLeftB Lib.trimRightB
  have hdw : ∀ l : List UInt8, l.dropWhile (fun x => x == 45) = [] ↔ ∀ c ∈ l, c = 45 := by
    intro l
    induction l with
    | nil => simp
    | cons c r ih =>
      rw [List.dropWhile_cons]
      by_cases hc : (c == 45) = true
      · rw [if_pos hc, ih]
        simp only [beq_iff_eq] at hc
        simp [hc]
      · rw [if_neg hc]
        simp only [beq_iff_eq] at hc
        simp [hc]
  rw [hdw, List.all_eq_true]
  constructor
  · intro h c hc
    have h1 : ∀ c ∈ (l.reverse.dropWhile fun x => x == 45), c = 45 := fun c hc => h c (List.mem_reverse.2 hc)
    have h2 : (l.reverse.dropWhile fun x => x == 45) = [] := by
      cases hl : l.reverse.dropWhile (fun x => x == 45) with
      | nil => rfl
      | cons x r =>
        have hx := h1 x (by rw [hl]; exact List.mem_cons_self)
        have := List.head?_dropWhile_not (fun x => x == (45 : UInt8)) l.reverse
        rw [hl] at this
        simp [hx] at this
    exact decide_eq_true ((hdw _).1 h2 c (List.mem_reverse.2 hc))
  · intro h c hc
    have h1 := List.mem_reverse.1 hc
    have h2 : c ∈ l := List.mem_reverse.1 ((List.dropWhile_sublist _).subset h1)
    exact of_decide_eq_true (h c h2)
end Go.Proofs.YtanpeofnlihhoaaDoor
