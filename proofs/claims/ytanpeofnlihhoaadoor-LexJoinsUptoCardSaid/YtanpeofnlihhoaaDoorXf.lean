import Derived.Test.YtanpeofnlihhoaaDoorGf
import Derived.Test.YtanpeofnlihhoaaDoorXe
namespace Go.Proofs.YtanpeofnlihhoaaDoor
open Go
set_option maxRecDepth 100000
set_option linter.unusedVariables false

/-- what 'next' has done -/
def NextR (s : List UInt8) (at_ : Nat) (out : List Tok) (e : Int) (n2 : Nat) (out2 : List Tok) : Prop :=
  (match lexF s at_ with
    | .skip n => e = 0 ∧ n2 = n ∧ out2 = out
    | .tok k t v n => e = 0 ∧ n2 = n ∧ out2 = out ++ [⟨k, t, v, (posF s at_).1, (posF s at_).2⟩]
    | .bad x => e = x ∧ e ≠ 0 ∧ n2 = 0 ∧ out2 = out) ∧ at_ + n2 ≤ s.length ∧ (e = 0 → 1 ≤ n2) ∧ out2.length ≤ at_ + n2
section
variable {s : List UInt8} {at_ n : Nat} {out : List Tok}
theorem next_skip (h : lexF s at_ = .skip n) (h1 : 1 ≤ n) (h2 : at_ + n ≤ s.length) (h3 : out.length ≤ at_) : NextR s at_ out 0 n out := by
  unfold NextR; rw [h]; exact ⟨⟨rfl, rfl, rfl⟩, h2, fun _ => h1, by omega⟩
theorem next_tok {k v : Int} {t : List UInt8} (h : lexF s at_ = .tok k t v n) (h1 : 1 ≤ n) (h2 : at_ + n ≤ s.length) (h3 : out.length ≤ at_) : NextR s at_ out 0 n (out ++ [⟨k, t, v, (posF s at_).1, (posF s at_).2⟩]) := by
  unfold NextR; rw [h]; exact ⟨⟨rfl, rfl, rfl⟩, h2, fun _ => h1, by rw [List.length_append, List.length_singleton]; omega⟩
theorem next_bad {e : Int} (h : lexF s at_ = .bad e) (h1 : e ≠ 0) (h2 : at_ ≤ s.length) (h3 : out.length ≤ at_) : NextR s at_ out e 0 out := by
  unfold NextR; rw [h]; exact ⟨⟨rfl, h1, rfl, rfl⟩, h2, fun h => absurd h h1, h3⟩
theorem next_ok {g n2 : Nat} {out2 : List Tok} (h1 : at_ < s.length) (h : NextR s at_ out 0 n2 out2) : readLoop s (g + 1) at_ out = readLoop s g (at_ + n2) out2 ∧ at_ + n2 ≤ s.length ∧ out2.length ≤ at_ + n2 ∧ 1 ≤ n2 := by
  obtain ⟨h2, h3, h4, h5⟩ := h
  refine ⟨?_, h3, h5, h4 rfl⟩
  rw [readLoop, if_pos h1]
  cases hl : lexF s at_ with
  | skip n => rw [hl] at h2; obtain ⟨_, rfl, rfl⟩ := h2; rfl
  | tok k t v n => rw [hl] at h2; obtain ⟨_, rfl, rfl⟩ := h2; rfl
  | bad x => rw [hl] at h2; exact absurd rfl h2.2.1
theorem next_er {e : Int} {n2 : Nat} {out2 : List Tok} (h : NextR s at_ out e n2 out2) (he : ¬ e = 0) : lexF s at_ = .bad e ∧ n2 = 0 ∧ out2 = out := by
  obtain ⟨h2, h3, h4, h5⟩ := h
  cases hl : lexF s at_ with
  | skip n => rw [hl] at h2; exact absurd h2.1 he
  | tok k t v n => rw [hl] at h2; exact absurd h2.1 he
  | bad x => rw [hl] at h2; obtain ⟨rfl, _, rfl, rfl⟩ := h2; exact ⟨rfl, rfl, rfl⟩
theorem pre_iff : ((2 ≤ (s.drop at_).length) ∧ (s.drop at_).take 2 = [123, 45]) ↔ H4 s at_ := by
  rw [i4]
  have e : (s.drop at_).take 2 = (s.take (at_ + 2)).drop at_ := by rw [List.drop_take, Nat.add_sub_cancel_left]
  rw [e, drop_len]
  constructor
  · rintro ⟨h, h2⟩
    have h3 := (two_eq (s := s) (i := at_) (by omega) 123 45).1 h2
    exact ⟨h3.1, by omega, h3.2⟩
  · rintro ⟨h, h2, h3⟩
    exact ⟨by omega, (two_eq h2 123 45).2 ⟨h, h3⟩⟩
theorem single_iff {b : UInt8} : (0 : Int) ≤ Lib.indexByte singlesL b ↔ singlesL.contains b = true := by
  have := single_ix b
  rw [← this, decide_eq_true_iff]
theorem cut_ne (h : 1 ≤ n) (h2 : at_ + n ≤ s.length) : cutF s at_ n ≠ [] := fun e => by
  have := cut_len h2
  rw [e] at this; simp at this; omega
theorem cut_dig : ∀ c ∈ cutF s at_ (rowF s at_ 1), digitB c = true := by
  have e : cutF s at_ (rowF s at_ 1) = (s.drop at_).takeWhile digitB := by
    have h : ∀ l : List UInt8, l.take (l.takeWhile digitB).length = l.takeWhile digitB := by
      intro l
      induction l with
      | nil => rfl
      | cons c r ih =>
        rw [List.takeWhile_cons]
        split
        · rw [List.length_cons, List.take_succ_cons, ih]
        · rfl
    rw [← cut_take]
    have h2 : rowF s at_ 1 = ((s.drop at_).takeWhile digitB).length := by
      unfold rowF
      rw [show goesB 1 = digitB from funext fun c => goes1 rfl]
    rw [h2, h]
  rw [e]
  exact fun c hc => tw_dig c hc
theorem num_no {l : List UInt8} {nv : Int} {er : Option (TypeId × Value)} (h : (∃ k : Nat, numF l 0 = some k ∧ nv = k ∧ er = none) ∨ (numF l 0 = none ∧ er.isSome = true)) (he : er.isSome = true) : numF l 0 = none := by
  rcases h with ⟨_, _, _, rfl⟩ | h
  · cases he
  · exact h.1
theorem num_yes {l : List UInt8} {nv : Int} {er : Option (TypeId × Value)} (h : (∃ k : Nat, numF l 0 = some k ∧ nv = k ∧ er = none) ∨ (numF l 0 = none ∧ er.isSome = true)) (he : ¬ er.isSome = true) : ∃ k : Nat, numF l 0 = some k ∧ nv = k := by
  rcases h with ⟨k, h1, h2, _⟩ | h
  · exact ⟨k, h1, h2⟩
  · exact absurd h.2 he
theorem txtF_shift (s : List UInt8) (i : Nat) : ∀ (f : Nat) (out : List UInt8) (j : Nat), txtF (s.drop i) f out j = (txtF s f out (i + j)).map fun p => (p.1, p.2 - i)
  | 0, _, _ => rfl
  | f + 1, out, j => by
    have e1 : gt (s.drop i) j = gt s (i + j) := drop_getD s i j
    have e2 : gt (s.drop i) (j + 1) = gt s (i + j + 1) := drop_getD s i (j + 1)
    unfold txtF
    rw [e1, e2, txtF_shift s i f _ (j + 1), txtF_shift s i f _ (j + 2)]
    by_cases h1 : i + j < s.length
    · rw [if_pos (show j < (s.drop i).length by rw [drop_len]; omega), if_pos h1]
      split
      · simp only [Option.map_some]; congr 2; omega
      · split
        · split
          · rfl
          · rfl
        · by_cases h2 : i + j + 1 < s.length ∧ digitB (gt s (i + j + 1)) = true
          · rw [if_pos (show j + 1 < (s.drop i).length ∧ _ from ⟨by rw [drop_len]; omega, h2.2⟩), if_pos h2]
            have hd := decF_shift s i (j + 1) 0 (by omega)
            rw [hd]
            have hle := decF_le (s := s) s.length 0 (i + (j + 1)) (by omega)
            show (if 255 < (decF s s.length 0 (i + (j + 1))).1 then none else txtF (s.drop i) f _ ((decF s s.length 0 (i + (j + 1))).2 - i)) = Option.map _ (if 255 < (decF s s.length 0 (i + j + 1)).1 then none else _)
            rw [txtF_shift s i f, show i + ((decF s s.length 0 (i + (j + 1))).2 - i) = (decF s s.length 0 (i + (j + 1))).2 by omega]
            show (if 255 < (decF s s.length 0 (i + j + 1)).1 then none else _) = _
            split
            · rfl
            · rfl
          · rw [if_neg (show ¬ (j + 1 < (s.drop i).length ∧ _) from fun h => h2 ⟨by have := h.1; rw [drop_len] at this; omega, h.2⟩), if_neg h2]
            by_cases h3 : s.length ≤ i + j + 1 ∨ escsL.contains (gt s (i + j + 1)) = false
            · rw [if_pos (show (s.drop i).length ≤ j + 1 ∨ _ from h3.imp (fun h => by rw [drop_len]; omega) id), if_pos h3]; rfl
            · rw [if_neg (show ¬ ((s.drop i).length ≤ j + 1 ∨ _) from fun h => h3 (h.imp (fun h => by rw [drop_len] at h; omega) id)), if_neg h3]; rfl
    · rw [if_neg (show ¬ j < (s.drop i).length by rw [drop_len]; omega), if_neg h1]; rfl
theorem text_shift (s : List UInt8) (i : Nat) : txtF (s.drop i) (s.length + 1) [] 1 = textF s i := txtF_shift s i _ _ _
end
theorem closed_r2 (w0 : World) (s : List UInt8) (at_ : Nat) (hs : s.length ≤ 16384) : Ret Tryd.prog 29 #[str (s.drop at_)] w0 (fun v w' => ∃ n : Int, v = i64 n ∧ RemR s at_ n ∧ St w0 [] w' []) :=
  (closed_r w0 (s.drop at_) (by rw [drop_len]; omega) (s.length + 1) (by rw [drop_len]; omega)).mono fun v w' ⟨hv, hS⟩ => by
    rw [remark_shift] at hv
    cases h : remarkF s at_ with
    | none => rw [h] at hv; exact ⟨_, hv, .inl ⟨h, rfl⟩, hS⟩
    | some k => rw [h] at hv; exact ⟨_, hv, .inr ⟨k, h, rfl⟩, hS⟩
theorem pstr_r2 (w0 : World) (s : List UInt8) (at_ : Nat) (hs : s.length ≤ 16384) (h1 : at_ < s.length) (hG : GlE w0 []) : Ret Tryd.prog 38 #[str (s.drop at_)] w0 (fun v w' => ∃ t, ∃ n : Int, v = .tuple #[str t, i64 n] ∧ TextR s at_ t n ∧ St w0 [] w' []) :=
  (pstr_r w0 (s.drop at_) (by rw [drop_len]; omega) (by rw [drop_len]; omega) (s.length + 1) (by rw [drop_len]; omega) hG).mono fun v w' ⟨hv, hS⟩ => by
    rw [text_shift] at hv
    cases h : textF s at_ with
    | none => rw [h] at hv; exact ⟨_, _, hv, .inl ⟨h, rfl⟩, hS⟩
    | some p => rw [h] at hv; exact ⟨_, _, hv, .inr ⟨p.2, h, rfl⟩, hS⟩
set_option maxHeartbeats 4000000 in
theorem next_r (w0 : World) (bs : Nat) (s : List UInt8) (at_ : Nat) (vo : Value) (out : List Tok) (hs : s.length ≤ 16384) (hol : out.length ≤ at_) (hA : Owns w0 [.ob bs 39 (scC s (at_) vo), slT vo 32 tokE out]) (h1 : at_ < s.length) (hG : GlE w0 (blks [.ob bs 39 (scC s (at_) vo), slT vo 32 tokE out])) : Ret Tryd.prog 13 #[ptr (adr bs)] w0 (fun v w' => ∃ vo2 e n2 out2, v = i64 e ∧ NextR s at_ out (e) (n2) (out2) ∧ St w0 (blks [.ob bs 39 (scC s (at_) vo), slT vo 32 tokE out]) w' [.ob bs 39 (scC s (at_ + n2) vo2), slT vo2 32 tokE out2]) := by
  have hO := St.init hA
  have hb := posF_le s at_
  have hrl1 := rowF_le s at_ 1
  have hol2 := hol
  refine ret_of (m := 109) Tryd.func13 rfl Tryd.ntmps13 [(0, ptr (adr bs))] rfl ⟨rfl, trivial⟩ fun a hF => ?_
  refine wp_seq ?_
  refine wp_region_lit ?_
  refine wl_v hF rfl rfl rfl (q_assign rfl (hF.eval rfl)) fun a hF => ?_
  refine wl_nil ?_
  refine k_n ?_
  refine wp_seq ?_
  refine wp_region_lit ?_
  refine wl_v hF rfl rfl rfl (q_move rfl (hF.eval rfl)) fun a hF => ?_
  refine wl_v hF rfl rfl rfl (q_nilCheck rfl (hF.eval rfl)) fun a hF => ?_
  refine wl_v hF rfl rfl rfl (q_fieldAddr0 (d := 0) Tryd.underlying39 rfl (hF.eval rfl) rfl Tryd.sizeOf9 (by decide) rfl) fun a hF => ?_
  refine wl_v hF rfl rfl rfl (q_load Tryd.isAgg9 rfl (hF.eval rfl) (hO.cell 0 rfl rfl)) fun a hF => ?_
  refine wl_v hF rfl rfl rfl (q_indexD (m := 0) Tryd.underlying9 rfl (hF.eval rfl) (hF.eval rfl) (by rw [drop_len]; omega)) fun a hF => ?_
  rw [show (s.drop at_).getD 0 0 = s.getD at_ 0 from drop_getD s at_ 0] at hF
  refine wl_v hF rfl rfl rfl (q_assign rfl (hF.eval rfl)) fun a hF => ?_
  refine wl_nil ?_
  refine k_n ?_
  refine wp_seq ?_
  refine wp_block ?_
  refine wp_seq ?_
  refine wp_region_lit ?_
  refine wl_v hF rfl rfl rfl (q_move rfl (hF.eval rfl)) fun a hF => ?_
  refine wl_v hF rfl rfl rfl (q_eq rfl (hF.eval rfl) (hF.eval rfl)) fun a hF => ?_
  refine wl_v hF rfl rfl rfl (q_move rfl (hF.eval rfl)) fun a hF => ?_
  refine wl_g hF rfl rfl rfl rfl rfl rfl (fun hg => q_move rfl (hF.eval rfl)) fun a hF => ?_
  refine wl_g hF rfl rfl rfl rfl rfl rfl (fun hg => q_eq rfl ((hF.eval rfl).trans (gv_of hg)) (hF.eval rfl)) fun a hF => ?_
  refine wl_v hF rfl rfl rfl (q_or rfl (hF.eval rfl) rfl (fun hg2 => ((hF.eval rfl).trans (gv_of hg2))) rfl) fun a hF => ?_
  refine wl_v hF rfl rfl rfl (q_assign rfl (hF.eval rfl)) fun a hF => ?_
  refine wl_nil ?_
  refine k_n ?_
  refine wp_ifD hF rfl rfl (fun hc1 => ?_) (fun hc1 => ?_)
  · skip
    refine wp_region_lit ?_
    refine wl_v hF rfl rfl rfl (q_move rfl (hF.eval rfl)) fun a hF => ?_
    have hO : St _ _ _ [_, _] := hO
    refine wl_e hF rfl rfl rfl (c_call hF rfl rfl Tryd.call27 (pass_r _ _ _ _ _ hs hO.own1 (1) (by omega))) ?_
    rintro a _ w ⟨-, hS⟩ hF
    have hO := hO.call1 hS
    have hO : St _ _ _ [_, _] := hO
    refine wl_nil ?_
    refine b_n ?_
    refine k_n ?_
    refine wp_seq ?_
    refine wp_region_lit ?_
    refine wl_v hF rfl rfl rfl (q_assign rfl (hF.eval rfl)) fun a hF => ?_
    refine wl_nil ?_
    refine k_n ?_
    refine wp_ret ?_
    refine r_1 hF rfl rfl ?_
    have hO : St _ _ _ [_, _] := hO
    exact ⟨_, 0, 1, out, rfl, next_skip (lex_blank hc1) (by omega) (by omega) (by omega), hO⟩
  · skip
    refine wp_seq ?_
    refine wp_region_lit ?_
    refine wl_v hF rfl rfl rfl (q_move rfl (hF.eval rfl)) fun a hF => ?_
    refine wl_v hF rfl rfl rfl (q_nilCheck rfl (hF.eval rfl)) fun a hF => ?_
    refine wl_v hF rfl rfl rfl (q_fieldAddr0 (d := 0) Tryd.underlying39 rfl (hF.eval rfl) rfl Tryd.sizeOf9 (by decide) rfl) fun a hF => ?_
    refine wl_v hF rfl rfl rfl (q_load Tryd.isAgg9 rfl (hF.eval rfl) (hO.cell 0 rfl rfl)) fun a hF => ?_
    refine wl_e hF rfl rfl rfl (c_call hF rfl rfl Tryd.call28 (hpre_r _ _ _ (by rw [drop_len]; omega) (by decide))) ?_
    rintro a _ w ⟨rfl, hS⟩ hF
    have hO := hO.call0 hS
    have hO : St _ _ _ [_, _] := hO
    refine wl_v hF rfl rfl rfl (q_assign rfl (hF.eval rfl)) fun a hF => ?_
    refine wl_nil ?_
    refine k_n ?_
    refine wp_ifD hF rfl (dec_b _) (fun hc2 => ?_) (fun hc2 => ?_)
    · skip
      have h4 := pre_iff.1 (of_decide_eq_true hc2)
      refine wp_seq ?_
      refine wp_region_lit ?_
      refine wl_v hF rfl rfl rfl (q_move rfl (hF.eval rfl)) fun a hF => ?_
      refine wl_v hF rfl rfl rfl (q_nilCheck rfl (hF.eval rfl)) fun a hF => ?_
      refine wl_v hF rfl rfl rfl (q_fieldAddr0 (d := 0) Tryd.underlying39 rfl (hF.eval rfl) rfl Tryd.sizeOf9 (by decide) rfl) fun a hF => ?_
      refine wl_v hF rfl rfl rfl (q_load Tryd.isAgg9 rfl (hF.eval rfl) (hO.cell 0 rfl rfl)) fun a hF => ?_
      refine wl_e hF rfl rfl rfl (c_call hF rfl rfl Tryd.call29 (closed_r2 _ _ _ hs)) ?_
      rintro a _ w ⟨rn, rfl, hrm, hS⟩ hF
      have hO := hO.call0 hS
      have hO : St _ _ _ [_, _] := hO
      refine wl_v hF rfl rfl rfl (q_assign rfl (hF.eval rfl)) fun a hF => ?_
      refine wl_nil ?_
      refine k_n ?_
      refine wp_seq ?_
      refine wp_seq ?_
      refine wp_region_lit ?_
      refine wl_v hF rfl rfl rfl (q_move rfl (hF.eval rfl)) fun a hF => ?_
      refine wl_v hF rfl rfl rfl (q_lt rfl (hF.eval rfl) (hF.eval rfl)) fun a hF => ?_
      refine wl_nil ?_
      refine k_n ?_
      refine wp_ifD hF rfl rfl (fun hc3 => ?_) (fun hc3 => ?_)
      · skip
        refine wp_seq ?_
        refine wp_region_lit ?_
        refine wl_v hF rfl rfl rfl (q_assign rfl (hF.eval rfl)) fun a hF => ?_
        refine wl_nil ?_
        refine k_n ?_
        refine wp_ret ?_
        refine k_r ?_
        refine b_r ?_
        refine k_r ?_
        refine r_1 hF rfl rfl ?_
        have hO : St _ _ _ [_, _] := hO
        exact ⟨_, 14, 0, out, rfl, next_bad (by rw [lex_rem hc1 h4, remNo hrm hc3]) (by decide) (by omega) (by omega), hO⟩
      · skip
        obtain ⟨k, hkm, rfl⟩ := setOk s at_ hrm hc3
        have hk1 := rem_le hkm
        refine wp_skip ?_
        refine k_n ?_
        refine wp_region_lit ?_
        refine wl_v hF rfl rfl rfl (q_move rfl (hF.eval rfl)) fun a hF => ?_
        refine wl_v hF rfl rfl rfl (q_move rfl (hF.eval rfl)) fun a hF => ?_
        have hO : St _ _ _ [_, _] := hO
        refine wl_e hF rfl rfl rfl (c_call hF rfl rfl Tryd.call27 (pass_r _ _ _ _ _ hs hO.own1 (k) (by omega))) ?_
        rintro a _ w ⟨-, hS⟩ hF
        have hO := hO.call1 hS
        have hO : St _ _ _ [_, _] := hO
        refine wl_nil ?_
        refine b_n ?_
        refine k_n ?_
        refine wp_seq ?_
        refine wp_region_lit ?_
        refine wl_v hF rfl rfl rfl (q_assign rfl (hF.eval rfl)) fun a hF => ?_
        refine wl_nil ?_
        refine k_n ?_
        refine wp_ret ?_
        refine r_1 hF rfl rfl ?_
        have hO : St _ _ _ [_, _] := hO
        exact ⟨_, 0, k, out, rfl, next_skip (by rw [lex_rem hc1 h4, hkm]) (by omega) (by omega) (by omega), hO⟩
    · skip
      have h4 := fun h => hc2 (decide_eq_true (pre_iff.2 h))
      refine wp_seq ?_
      refine wp_region_lit ?_
      refine wl_v hF rfl rfl rfl (q_move rfl (hF.eval rfl)) fun a hF => ?_
      refine wl_e hF rfl rfl rfl (c_call hF rfl rfl Tryd.call30 (pletter_r _ _)) ?_
      rintro a _ w ⟨rfl, hS⟩ hF
      have hO := hO.call0 hS
      have hO : St _ _ _ [_, _] := hO
      refine wl_v hF rfl rfl rfl (q_move rfl (hF.eval rfl)) fun a hF => ?_
      refine wl_g hF rfl rfl rfl rfl rfl rfl (fun hg => q_move rfl (hF.eval rfl)) fun a hF => ?_
      refine wl_g hF rfl rfl rfl rfl rfl rfl (fun hg => q_eq rfl ((hF.eval rfl).trans (gv_of hg)) (hF.eval rfl)) fun a hF => ?_
      refine wl_v hF rfl rfl rfl (q_or rfl (hF.eval rfl) (dec_b _) (fun hg2 => ((hF.eval rfl).trans (gv_of hg2))) rfl) fun a hF => ?_
      refine wl_v hF rfl rfl rfl (q_assign rfl (hF.eval rfl)) fun a hF => ?_
      refine wl_nil ?_
      refine k_n ?_
      refine wp_ifD hF rfl rfl (fun hc4 => ?_) (fun hc4 => ?_)
      · skip
        refine wp_seq ?_
        refine wp_region_lit ?_
        refine wl_v hF rfl rfl rfl (q_move rfl (hF.eval rfl)) fun a hF => ?_
        have hO := hO.pull 1 rfl
        have hO := hO.pull 1 rfl
        have hO : St _ _ _ [_, _] := hO
        refine wl_e hF rfl rfl rfl (c_call hF rfl rfl Tryd.call31 (word_r _ _ _ _ _ _ hs (by omega) hO.own2 h1 hc4)) ?_
        rintro a _ w ⟨vo2, rfl, hS⟩ hF
        have hO := hO.call2 hS
        have hO : St _ _ _ [_, _] := hO
        refine wl_v hF rfl rfl rfl (q_assign rfl (hF.eval rfl)) fun a hF => ?_
        refine wl_nil ?_
        refine k_n ?_
        refine wp_ret ?_
        refine b_r ?_
        refine k_r ?_
        refine r_1 hF rfl rfl ?_
        have hO : St _ _ _ [_, _] := hO
        exact ⟨_, 0, (rowF s at_ 0), _, rfl, next_tok (lex_word hc1 h4 hc4 rfl) (row0 h1 hc4) (by have := rowF_le s at_ 0; omega) (by omega), hO⟩
      · skip
        refine wp_seq ?_
        refine wp_region_lit ?_
        refine wl_v hF rfl rfl rfl (q_move rfl (hF.eval rfl)) fun a hF => ?_
        refine wl_e hF rfl rfl rfl (c_call hF rfl rfl Tryd.call32 (pdigit_r _ _)) ?_
        rintro a _ w ⟨rfl, hS⟩ hF
        have hO := hO.call0 hS
        have hO : St _ _ _ [_, _] := hO
        refine wl_v hF rfl rfl rfl (q_assign rfl (hF.eval rfl)) fun a hF => ?_
        refine wl_nil ?_
        refine k_n ?_
        refine wp_ifD hF rfl (dec_b _) (fun hc5 => ?_) (fun hc5 => ?_)
        · skip
          have hr1 := row1 h1 hc5
          refine wp_seq ?_
          refine wp_region_lit ?_
          refine wl_v hF rfl rfl rfl (q_move rfl (hF.eval rfl)) fun a hF => ?_
          refine wl_e hF rfl rfl rfl (c_call hF rfl rfl Tryd.call33 (run1_r _ _ _ _ hs _ _ _ (hO.rdOb 0 rfl))) ?_
          rintro a _ w ⟨rfl, hS⟩ hF
          have hO := hO.call0 hS
          have hO : St _ _ _ [_, _] := hO
          refine wl_v hF rfl rfl rfl (q_assign rfl (hF.eval rfl)) fun a hF => ?_
          refine wl_nil ?_
          refine k_n ?_
          refine wp_seq ?_
          refine wp_region_lit ?_
          refine wl_v hF rfl rfl rfl (q_move rfl (hF.eval rfl)) fun a hF => ?_
          refine wl_v hF rfl rfl rfl (q_nilCheck rfl (hF.eval rfl)) fun a hF => ?_
          refine wl_v hF rfl rfl rfl (q_fieldAddr0 (d := 0) Tryd.underlying39 rfl (hF.eval rfl) rfl Tryd.sizeOf9 (by decide) rfl) fun a hF => ?_
          refine wl_v hF rfl rfl rfl (q_load Tryd.isAgg9 rfl (hF.eval rfl) (hO.cell 0 rfl rfl)) fun a hF => ?_
          refine wl_v hF rfl rfl rfl (q_move rfl (hF.eval rfl)) fun a hF => ?_
          refine wl_v hF rfl rfl rfl (q_cutTo (j := (rowF s at_ 1)) Tryd.underlying9 rfl (hF.eval rfl) (hF.eval rfl) (by rw [drop_len]; omega)) fun a hF => ?_
          rw [cut_take] at hF
          refine wl_e hF rfl rfl rfl (c_call hF rfl rfl Tryd.call34 (parseInt_r _ _ (by rw [cut_len (by omega)]; omega) (cut_ne hr1 (by omega)) cut_dig (hG.at0 hO))) ?_
          rintro a _ w ⟨nv, er, rfl, hnum, hS⟩ hF
          have hO := hO.call0 hS
          have hO : St _ _ _ [_, _] := hO
          refine wl_v hF rfl rfl rfl (q_move rfl (hF.eval rfl)) fun a hF => ?_
          refine wl_v hF rfl rfl rfl (q_extract rfl (hF.eval rfl) rfl) fun a hF => ?_
          refine wl_v hF rfl rfl rfl (q_extract rfl (hF.eval rfl) rfl) fun a hF => ?_
          refine wl_v hF rfl rfl rfl (q_assign rfl (hF.eval rfl)) fun a hF => ?_
          refine wl_v hF rfl rfl rfl (q_assign rfl (hF.eval rfl)) fun a hF => ?_
          refine wl_nil ?_
          refine k_n ?_
          refine wp_seq ?_
          refine wp_seq ?_
          refine wp_region_lit ?_
          refine wl_v hF rfl rfl rfl (q_move rfl (hF.eval rfl)) fun a hF => ?_
          refine wl_v hF rfl rfl rfl (q_errne Tryd.underlying59 rfl (hF.eval rfl)) fun a hF => ?_
          refine wl_nil ?_
          refine k_n ?_
          refine wp_ifD hF rfl (dec_b _) (fun hc6 => ?_) (fun hc6 => ?_)
          · skip
            refine wp_seq ?_
            refine wp_region_lit ?_
            refine wl_v hF rfl rfl rfl (q_assign rfl (hF.eval rfl)) fun a hF => ?_
            refine wl_nil ?_
            refine k_n ?_
            refine wp_ret ?_
            refine k_r ?_
            refine b_r ?_
            refine k_r ?_
            refine r_1 hF rfl rfl ?_
            have hO : St _ _ _ [_, _] := hO
            exact ⟨_, 12, 0, out, rfl, next_bad (by rw [lex_int hc1 h4 hc4 hc5, num_no hnum hc6]) (by decide) (by omega) (by omega), hO⟩
          · skip
            refine wp_skip ?_
            refine k_n ?_
            refine wp_seq ?_
            refine wp_region_lit ?_
            refine wl_v hF rfl rfl rfl (q_move rfl (hF.eval rfl)) fun a hF => ?_
            refine wl_v hF rfl rfl rfl (q_move rfl (hF.eval rfl)) fun a hF => ?_
            refine wl_v hF rfl rfl rfl (q_nilCheck rfl (hF.eval rfl)) fun a hF => ?_
            refine wl_v hF rfl rfl rfl (q_fieldAddr0 (d := 0) Tryd.underlying39 rfl (hF.eval rfl) rfl Tryd.sizeOf9 (by decide) rfl) fun a hF => ?_
            refine wl_v hF rfl rfl rfl (q_load Tryd.isAgg9 rfl (hF.eval rfl) (hO.cell 0 rfl rfl)) fun a hF => ?_
            refine wl_v hF rfl rfl rfl (q_move rfl (hF.eval rfl)) fun a hF => ?_
            refine wl_v hF rfl rfl rfl (q_cutTo (j := (rowF s at_ 1)) Tryd.underlying9 rfl (hF.eval rfl) (hF.eval rfl) (by rw [drop_len]; omega)) fun a hF => ?_
            rw [cut_take] at hF
            refine wl_v hF rfl rfl rfl (q_move rfl (hF.eval rfl)) fun a hF => ?_
            refine wl_v hF rfl rfl rfl (q_move rfl (hF.eval rfl)) fun a hF => ?_
            have hO := hO.pull 1 rfl
            have hO := hO.pull 1 rfl
            have hO : St _ _ _ [_, _] := hO
            refine wl_e hF rfl rfl rfl (c_call hF rfl rfl Tryd.call14 (token_r _ _ _ _ _ _ hs (by omega) hO.own2 _ _ _ ((rowF s at_ 1)) (by omega))) ?_
            rintro a _ w ⟨vo2, rfl, hS⟩ hF
            have hO := hO.call2 hS
            have hO : St _ _ _ [_, _] := hO
            refine wl_v hF rfl rfl rfl (q_assign rfl (hF.eval rfl)) fun a hF => ?_
            refine wl_nil ?_
            refine k_n ?_
            refine wp_ret ?_
            refine b_r ?_
            refine k_r ?_
            refine r_1 hF rfl rfl ?_
            have hO : St _ _ _ [_, _] := hO
            obtain ⟨kn, hkn, rfl⟩ := num_yes hnum hc6
            exact ⟨_, 0, (rowF s at_ 1), _, rfl, next_tok (by rw [lex_int hc1 h4 hc4 hc5, hkn]) hr1 (by omega) (by omega), hO⟩
        · skip
          refine wp_seq ?_
          refine wp_region_lit ?_
          refine wl_v hF rfl rfl rfl (q_move rfl (hF.eval rfl)) fun a hF => ?_
          refine wl_e hF rfl rfl rfl (c_call hF rfl rfl Tryd.call35 (pmark_r _ _)) ?_
          rintro a _ w ⟨rfl, hS⟩ hF
          have hO := hO.call0 hS
          have hO : St _ _ _ [_, _] := hO
          refine wl_v hF rfl rfl rfl (q_assign rfl (hF.eval rfl)) fun a hF => ?_
          refine wl_nil ?_
          refine k_n ?_
          refine wp_ifD hF rfl (dec_b _) (fun hc7 => ?_) (fun hc7 => ?_)
          · skip
            refine wp_seq ?_
            refine wp_region_lit ?_
            refine wl_v hF rfl rfl rfl (q_move rfl (hF.eval rfl)) fun a hF => ?_
            have hO := hO.pull 1 rfl
            have hO := hO.pull 1 rfl
            have hO : St _ _ _ [_, _] := hO
            refine wl_e hF rfl rfl rfl (c_call hF rfl rfl Tryd.call36 (oper_r _ _ _ _ _ _ hs (by omega) hO.own2 h1 hc7)) ?_
            rintro a _ w ⟨vo2, rfl, hop⟩ hF
            refine wl_v hF rfl rfl rfl (q_assign rfl (hF.eval rfl)) fun a hF => ?_
            refine wl_nil ?_
            refine k_n ?_
            refine wp_ret ?_
            refine b_r ?_
            refine k_r ?_
            refine r_1 hF rfl rfl ?_
            have hO : St _ _ _ [_, _] := hO
            rcases hop with ⟨hda, hS⟩ | ⟨hda, hS⟩
            · exact ⟨_, 0, (rowF s at_ 3), out, rfl, next_skip (lex_line hc1 h4 hc4 hc5 hc7 hda) (row3 h1 hc7) (by have := rowF_le s at_ 3; omega) (by omega), hO.call2 hS⟩
            · exact ⟨_, 0, (rowF s at_ 2), _, rfl, next_tok (lex_mark hc1 h4 hc4 hc5 hc7 hda rfl) (row2 h1 hc7) (by have := rowF_le s at_ 2; omega) (by omega), hO.call2 hS⟩
          · skip
            refine wp_seq ?_
            refine wp_region_lit ?_
            refine wl_v hF rfl rfl rfl (q_move rfl (hF.eval rfl)) fun a hF => ?_
            refine wl_e hF rfl rfl rfl (c_call hF rfl rfl Tryd.call37 (index_r _ _ _)) ?_
            rintro a _ w ⟨rfl, hS⟩ hF
            have hO := hO.call0 hS
            have hO : St _ _ _ [_, _] := hO
            refine wl_v hF rfl rfl rfl (q_ge rfl (hF.eval rfl) (hF.eval rfl)) fun a hF => ?_
            refine wl_v hF rfl rfl rfl (q_assign rfl (hF.eval rfl)) fun a hF => ?_
            refine wl_nil ?_
            refine k_n ?_
            refine wp_ifD hF rfl rfl (fun hc8 => ?_) (fun hc8 => ?_)
            · skip
              have h18 := (single_iff (b := s.getD at_ 0)).1 hc8
              refine wp_seq ?_
              refine wp_region_lit ?_
              refine wl_v hF rfl rfl rfl (q_move rfl (hF.eval rfl)) fun a hF => ?_
              refine wl_v hF rfl rfl rfl (q_move rfl (hF.eval rfl)) fun a hF => ?_
              refine wl_v hF rfl rfl rfl (q_nilCheck rfl (hF.eval rfl)) fun a hF => ?_
              refine wl_v hF rfl rfl rfl (q_fieldAddr0 (d := 0) Tryd.underlying39 rfl (hF.eval rfl) rfl Tryd.sizeOf9 (by decide) rfl) fun a hF => ?_
              refine wl_v hF rfl rfl rfl (q_load Tryd.isAgg9 rfl (hF.eval rfl) (hO.cell 0 rfl rfl)) fun a hF => ?_
              refine wl_v hF rfl rfl rfl (q_cutTo (j := 1) Tryd.underlying9 rfl (hF.eval rfl) (hF.eval rfl) (by rw [drop_len]; omega)) fun a hF => ?_
              rw [cut_take] at hF
              have hO := hO.pull 1 rfl
              have hO := hO.pull 1 rfl
              have hO : St _ _ _ [_, _] := hO
              refine wl_e hF rfl rfl rfl (c_call hF rfl rfl Tryd.call14 (token_r _ _ _ _ _ _ hs (by omega) hO.own2 _ _ _ (1) (by omega))) ?_
              rintro a _ w ⟨vo2, rfl, hS⟩ hF
              have hO := hO.call2 hS
              have hO : St _ _ _ [_, _] := hO
              refine wl_v hF rfl rfl rfl (q_assign rfl (hF.eval rfl)) fun a hF => ?_
              refine wl_nil ?_
              refine k_n ?_
              refine wp_ret ?_
              refine b_r ?_
              refine k_r ?_
              refine r_1 hF rfl rfl ?_
              have hO : St _ _ _ [_, _] := hO
              exact ⟨_, 0, 1, _, rfl, next_tok (lex_single hc1 h4 hc4 hc5 hc7 h18) (by omega) (by omega) (by omega), hO⟩
            · skip
              have h18 := fun h => hc8 ((single_iff (b := s.getD at_ 0)).2 h)
              refine wp_seq ?_
              refine wp_region_lit ?_
              refine wl_v hF rfl rfl rfl (q_move rfl (hF.eval rfl)) fun a hF => ?_
              refine wl_v hF rfl rfl rfl (q_eq rfl (hF.eval rfl) (hF.eval rfl)) fun a hF => ?_
              refine wl_v hF rfl rfl rfl (q_assign rfl (hF.eval rfl)) fun a hF => ?_
              refine wl_nil ?_
              refine k_n ?_
              refine wp_ifD hF rfl rfl (fun hc9 => ?_) (fun hc9 => ?_)
              · skip
                refine wp_seq ?_
                refine wp_region_lit ?_
                refine wl_v hF rfl rfl rfl (q_move rfl (hF.eval rfl)) fun a hF => ?_
                refine wl_v hF rfl rfl rfl (q_nilCheck rfl (hF.eval rfl)) fun a hF => ?_
                refine wl_v hF rfl rfl rfl (q_fieldAddr0 (d := 0) Tryd.underlying39 rfl (hF.eval rfl) rfl Tryd.sizeOf9 (by decide) rfl) fun a hF => ?_
                refine wl_v hF rfl rfl rfl (q_load Tryd.isAgg9 rfl (hF.eval rfl) (hO.cell 0 rfl rfl)) fun a hF => ?_
                refine wl_e hF rfl rfl rfl (c_call hF rfl rfl Tryd.call38 (pstr_r2 _ _ _ hs h1 (hG.at0 hO))) ?_
                rintro a _ w ⟨tt, tn, rfl, htx, hS⟩ hF
                have hO := hO.call0 hS
                have hO : St _ _ _ [_, _] := hO
                refine wl_v hF rfl rfl rfl (q_move rfl (hF.eval rfl)) fun a hF => ?_
                refine wl_v hF rfl rfl rfl (q_extract rfl (hF.eval rfl) rfl) fun a hF => ?_
                refine wl_v hF rfl rfl rfl (q_extract rfl (hF.eval rfl) rfl) fun a hF => ?_
                refine wl_v hF rfl rfl rfl (q_assign rfl (hF.eval rfl)) fun a hF => ?_
                refine wl_v hF rfl rfl rfl (q_assign rfl (hF.eval rfl)) fun a hF => ?_
                refine wl_nil ?_
                refine k_n ?_
                refine wp_seq ?_
                refine wp_seq ?_
                refine wp_region_lit ?_
                refine wl_v hF rfl rfl rfl (q_move rfl (hF.eval rfl)) fun a hF => ?_
                refine wl_v hF rfl rfl rfl (q_lt rfl (hF.eval rfl) (hF.eval rfl)) fun a hF => ?_
                refine wl_nil ?_
                refine k_n ?_
                refine wp_ifD hF rfl rfl (fun hc10 => ?_) (fun hc10 => ?_)
                · skip
                  refine wp_seq ?_
                  refine wp_region_lit ?_
                  refine wl_v hF rfl rfl rfl (q_assign rfl (hF.eval rfl)) fun a hF => ?_
                  refine wl_nil ?_
                  refine k_n ?_
                  refine wp_ret ?_
                  refine k_r ?_
                  refine b_r ?_
                  refine k_r ?_
                  refine r_1 hF rfl rfl ?_
                  have hO : St _ _ _ [_, _] := hO
                  exact ⟨_, 13, 0, out, rfl, next_bad (by rw [lex_text hc1 h4 hc4 hc5 hc7 h18 hc9, txNo htx hc10]) (by decide) (by omega) (by omega), hO⟩
                · skip
                  obtain ⟨k, hkm, rfl⟩ := setTx s at_ htx hc10
                  have hk1 := text_le hkm
                  refine wp_skip ?_
                  refine k_n ?_
                  refine wp_seq ?_
                  refine wp_region_lit ?_
                  refine wl_v hF rfl rfl rfl (q_move rfl (hF.eval rfl)) fun a hF => ?_
                  refine wl_v hF rfl rfl rfl (q_move rfl (hF.eval rfl)) fun a hF => ?_
                  refine wl_v hF rfl rfl rfl (q_move rfl (hF.eval rfl)) fun a hF => ?_
                  have hO := hO.pull 1 rfl
                  have hO := hO.pull 1 rfl
                  have hO : St _ _ _ [_, _] := hO
                  refine wl_e hF rfl rfl rfl (c_call hF rfl rfl Tryd.call14 (token_r _ _ _ _ _ _ hs (by omega) hO.own2 _ _ _ (k) (by omega))) ?_
                  rintro a _ w ⟨vo2, rfl, hS⟩ hF
                  have hO := hO.call2 hS
                  have hO : St _ _ _ [_, _] := hO
                  refine wl_v hF rfl rfl rfl (q_assign rfl (hF.eval rfl)) fun a hF => ?_
                  refine wl_nil ?_
                  refine k_n ?_
                  refine wp_ret ?_
                  refine b_r ?_
                  refine k_r ?_
                  refine r_1 hF rfl rfl ?_
                  have hO : St _ _ _ [_, _] := hO
                  exact ⟨_, 0, k, _, rfl, next_tok (by rw [lex_text hc1 h4 hc4 hc5 hc7 h18 hc9, hkm]) (by omega) (by omega) (by omega), hO⟩
              · skip
                refine wp_seq ?_
                refine wp_region_lit ?_
                refine wl_v hF rfl rfl rfl (q_assign rfl (hF.eval rfl)) fun a hF => ?_
                refine wl_nil ?_
                refine k_n ?_
                refine wp_ret ?_
                refine b_r ?_
                refine k_r ?_
                refine r_1 hF rfl rfl ?_
                have hO : St _ _ _ [_, _] := hO
                exact ⟨_, 11, 0, out, rfl, next_bad (lex_byte hc1 h4 hc4 hc5 hc7 h18 hc9) (by decide) (by omega) (by omega), hO⟩

end Go.Proofs.YtanpeofnlihhoaaDoor
