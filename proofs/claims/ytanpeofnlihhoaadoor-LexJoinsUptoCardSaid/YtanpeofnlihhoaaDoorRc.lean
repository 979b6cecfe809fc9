import Derived.Test.YtanpeofnlihhoaaDoorRb
import Derived.Test.YtanpeofnlihhoaaDoorPl1
import Derived.Test.YtanpeofnlihhoaaDoorGw8
namespace Go.Proofs.YtanpeofnlihhoaaDoor
open Go
set_option maxRecDepth 100000

theorem digit_iff {b : UInt8} (h : digitB b = true) : (48 : Int) ≤ b.toNat ∧ (b.toNat : Int) ≤ 57 := of_decide_eq_true h
theorem gt_eq {s : List UInt8} {i : Nat} {n : Int} (c : UInt8) (hc : (c.toNat : Int) = n) (h : ((s.getD i 0).toNat : Int) = n) : gt s i = c := by
  apply UInt8.toNat_inj.1
  show (s.getD i 0).toNat = _
  omega
theorem gt_ne {s : List UInt8} {i : Nat} {n : Int} (c : UInt8) (hc : (c.toNat : Int) = n) (h : ¬ ((s.getD i 0).toNat : Int) = n) : ¬ gt s i = c := fun e => h (by
  have : (s.getD i 0) = c := e
  rw [this]; exact hc)
theorem wrap_ofNat {n : Nat} (h : n ≤ 255) : IntKind.u8.wrap (n : Int) = ((UInt8.ofNat n).toNat : Int) := by
  rw [IntWalk.u8_in _ (by omega), UInt8.toNat_ofNat', Nat.mod_eq_of_lt (by omega)]
section
variable {s out : List UInt8} {g i : Nat}
theorem txt_none (h : ¬ (i : Int) < s.length) {f : Nat} : txtF s f out i = none := by
  cases f with
  | zero => rfl
  | succ f => rw [txtF, if_neg (by omega)]
theorem txt_quote (h : i < s.length) (h2 : ((s.getD i 0).toNat : Int) = 34) : txtF s (g + 1) out i = some (out, i + 1) := by
  rw [txtF, if_pos h, if_pos (gt_eq 34 rfl h2)]
theorem txt_plain (h : i < s.length) (h2 : ¬ ((s.getD i 0).toNat : Int) = 34) (h3 : ¬ ((s.getD i 0).toNat : Int) = 92) (h4 : ¬ (((s.getD i 0).toNat : Int) < 32 ∨ 126 < ((s.getD i 0).toNat : Int))) :
    txtF s (g + 1) out i = txtF s g (out ++ [gt s i]) (i + 1) := by
  rw [txtF, if_pos h, if_neg (gt_ne 34 rfl h2), if_pos (gt_ne 92 rfl h3), if_neg]
  rintro (h5 | h5)
  · exact h4 (.inl (by have := UInt8.lt_iff_toNat_lt.1 h5; have e : (32 : UInt8).toNat = 32 := rfl; unfold gt at this; omega))
  · exact h4 (.inr (by have := UInt8.lt_iff_toNat_lt.1 h5; have e : (126 : UInt8).toNat = 126 := rfl; unfold gt at this; omega))
theorem txt_bad (h : i < s.length) (h2 : ¬ ((s.getD i 0).toNat : Int) = 34) (h3 : ¬ ((s.getD i 0).toNat : Int) = 92) (h4 : (((s.getD i 0).toNat : Int) < 32 ∨ 126 < ((s.getD i 0).toNat : Int))) :
    txtF s (g + 1) out i = none := by
  rw [txtF, if_pos h, if_neg (gt_ne 34 rfl h2), if_pos (gt_ne 92 rfl h3), if_pos]
  rcases h4 with h5 | h5
  · exact .inl (UInt8.lt_iff_toNat_lt.2 (by have e : (32 : UInt8).toNat = 32 := rfl; unfold gt; omega))
  · exact .inr (UInt8.lt_iff_toNat_lt.2 (by have e : (126 : UInt8).toNat = 126 := rfl; unfold gt; omega))
theorem dec_end {h n j : Nat} {r : Nat × Nat} (hD : decF s h n j = r) (hc : ¬ ((j : Int) < s.length ∧ digitB (s.getD j 0) = true)) : r = (n, j) := by
  rw [← hD]
  cases h with
  | zero => rfl
  | succ h => rw [decF, if_neg]; exact fun ⟨h1, h2⟩ => hc ⟨by omega, h2⟩
theorem dec_on {h n j : Nat} (hc : (j : Int) < s.length ∧ digitB (s.getD j 0) = true) : decF s (h + 1) n j = decF s h (min (10 * n + ((gt s j).toNat - 48)) 1000) (j + 1) := by
  rw [decF, if_pos ⟨by have := hc.1; omega, hc.2⟩]
theorem dec_num {b : UInt8} {n : Nat} (h : (48 : Int) ≤ b.toNat ∧ (b.toNat : Int) ≤ 57) : min (10 * (n : Int) + ((b.toNat : Int) - 48)) 1000 = ((min (10 * n + (b.toNat - 48)) 1000 : Nat) : Int) := by omega
theorem txt_dec {n j : Nat} (h : i < s.length) (h2 : ¬ ((s.getD i 0).toNat : Int) = 34) (h3 : ¬ ¬ ((s.getD i 0).toNat : Int) = 92) (h5 : (i : Int) + 1 < s.length ∧ digitB (s.getD (i + 1) 0) = true)
    (hD : decF s s.length 0 (i + 1) = (n, j)) (hn : n ≤ 255) : txtF s (g + 1) out i = txtF s g (out ++ [UInt8.ofNat n]) j := by
  rw [txtF, if_pos h, if_neg (gt_ne 34 rfl h2), if_neg (fun e => h3 fun e2 => e (gt_eq 92 rfl e2)), if_pos ⟨by have := h5.1; omega, h5.2⟩]
  simp only [hD]
  rw [if_neg (by omega)]
theorem txt_big {n j : Nat} (h : i < s.length) (h2 : ¬ ((s.getD i 0).toNat : Int) = 34) (h3 : ¬ ¬ ((s.getD i 0).toNat : Int) = 92) (h5 : (i : Int) + 1 < s.length ∧ digitB (s.getD (i + 1) 0) = true)
    (hD : decF s s.length 0 (i + 1) = (n, j)) (hn : 255 < (n : Int)) : txtF s (g + 1) out i = none := by
  rw [txtF, if_pos h, if_neg (gt_ne 34 rfl h2), if_neg (fun e => h3 fun e2 => e (gt_eq 92 rfl e2)), if_pos ⟨by have := h5.1; omega, h5.2⟩]
  simp only [hD]
  rw [if_pos (by omega)]
theorem txt_not (h : i < s.length) (h2 : ¬ ((s.getD i 0).toNat : Int) = 34) (h3 : ¬ ¬ ((s.getD i 0).toNat : Int) = 92) (h5 : ¬ ((i : Int) + 1 < s.length ∧ digitB (s.getD (i + 1) 0) = true))
    (h8 : ((s.length : Int) ≤ i + 1 ∨ ¬ escsL.contains (s.getD (i + 1) 0) = true)) : txtF s (g + 1) out i = none := by
  rw [txtF, if_pos h, if_neg (gt_ne 34 rfl h2), if_neg (fun e => h3 fun e2 => e (gt_eq 92 rfl e2)), if_neg (fun ⟨a, b⟩ => h5 ⟨by omega, b⟩), if_pos]
  rcases h8 with h | h
  · exact .inl (by omega)
  · exact .inr (by simpa [gt] using h)
theorem txt_esc {c : UInt8} (h : i < s.length) (h2 : ¬ ((s.getD i 0).toNat : Int) = 34) (h3 : ¬ ¬ ((s.getD i 0).toNat : Int) = 92) (h5 : ¬ ((i : Int) + 1 < s.length ∧ digitB (s.getD (i + 1) 0) = true))
    (h8 : ¬ ((s.length : Int) ≤ i + 1 ∨ ¬ escsL.contains (s.getD (i + 1) 0) = true)) (hc : escF (gt s (i + 1)) = c) : txtF s (g + 1) out i = txtF s g (out ++ [c]) (i + 2) := by
  rw [txtF, if_pos h, if_neg (gt_ne 34 rfl h2), if_neg (fun e => h3 fun e2 => e (gt_eq 92 rfl e2)), if_neg (fun ⟨a, b⟩ => h5 ⟨by omega, b⟩), if_neg, hc]
  rintro (h | h)
  · exact h8 (.inl (by omega))
  · exact h8 (.inr (by simpa [gt] using h))
theorem esc_n (h : ((s.getD (i + 1) 0).toNat : Int) = 110) : escF (gt s (i + 1)) = 10 := by
  have := gt_eq 110 rfl h
  rw [this]; rfl
theorem esc_t (h : ¬ ((s.getD (i + 1) 0).toNat : Int) = 110) (h2 : ((s.getD (i + 1) 0).toNat : Int) = 116) : escF (gt s (i + 1)) = 9 := by
  have := gt_eq 116 rfl h2
  rw [this]; rfl
theorem esc_o (h : ¬ ((s.getD (i + 1) 0).toNat : Int) = 110) (h2 : ¬ ((s.getD (i + 1) 0).toNat : Int) = 116) : escF (gt s (i + 1)) = gt s (i + 1) := by
  have a := gt_ne 110 rfl h
  have b := gt_ne 116 rfl h2
  unfold escF
  rw [if_neg a, if_neg b]
end
set_option maxHeartbeats 4000000 in
theorem text_r (w0 : World) (br : Nat) (s : List UInt8) (at_ : Nat) (hA : Owns w0 [.ob br 44 (rdr s at_)]) (hs : s.length ≤ 16384) (ha : at_ < s.length) : Ret Tryd.prog 26 #[ptr (adr br)] w0 (fun v w' => v = (match textF s at_ with | none => .tuple #[str [], i64 (-1)] | some (t, n) => .tuple #[str t, i64 (n : Int)]) ∧ St w0 [br] w' [.ob br 44 (rdr s at_)]) := by
  have hO := St.init hA
  refine ret_of (m := 148) Tryd.func26 rfl Tryd.ntmps26 [(0, ptr (adr br))] rfl ⟨rfl, trivial⟩ fun a hF => ?_
  refine wp_seq ?_
  refine wp_region_lit ?_
  refine wl_v hF rfl rfl rfl (q_assign rfl (hF.eval rfl)) fun a hF => ?_
  refine wl_v hF rfl rfl rfl (q_assign rfl (hF.eval rfl)) fun a hF => ?_
  refine wl_nil ?_
  refine k_n ?_
  refine wp_seq ?_
  refine wp_region_lit ?_
  refine wl_v hF rfl rfl rfl (q_assign rfl (hF.eval rfl)) fun a hF => ?_
  have hO := hO.nilSl 5 1
  refine wl_nil ?_
  refine k_n ?_
  refine wp_seq ?_
  refine wp_region_lit ?_
  refine wl_v hF rfl rfl rfl (q_move rfl (hF.eval rfl)) fun a hF => ?_
  refine wl_v hF rfl rfl rfl (q_nilCheck rfl (hF.eval rfl)) fun a hF => ?_
  refine wl_v hF rfl rfl rfl (q_fieldAddr0 (d := 1) Tryd.underlying44 rfl (hF.eval rfl) rfl Tryd.sizeOf3 (by decide) rfl) fun a hF => ?_
  refine wl_v hF rfl rfl rfl (q_load Tryd.isAgg3 rfl (hF.eval rfl) (hO.cell 1 rfl rfl)) fun a hF => ?_
  refine wl_v hF rfl rfl rfl (q_add rfl (hF.eval rfl) (hF.eval rfl) (by omega)) fun a hF => ?_
  refine wl_v hF rfl rfl rfl (q_assign rfl (hF.eval rfl)) fun a hF => ?_
  refine wl_nil ?_
  refine k_n ?_
  refine wp_seq ?_
  refine wp_block ?_
  have hO := hO.pull 1 rfl
  have hO : St _ _ _ [_, _] := hO
  refine wp_loopS (fun (x : Nat × List UInt8 × Nat × Value) a w' => match x with | (f, out, i, v) => (txtF s f out i = txtF s (s.length + 1) [] (at_ + 1) ∧ s.length < i + f ∧ at_ < i ∧ i ≤ s.length ∧ out.length ≤ i) ∧ St w0 [br] w' [.ob br 44 (rdr s at_), slT v 5 byteE out] ∧ Fr a 148 [(0, ptr (adr br)), (4, v), (5, i64 i)]) (fun (x : Nat × List UInt8 × Nat × Value) => match x with | (f, out, i, v) => f) (s.length + 1, [], at_ + 1, _) ⟨⟨rfl, by omega, by omega, by omega, by simp⟩, hO, hF.sub ⟨rfl, rfl, rfl, trivial⟩⟩ ?_
  rintro ⟨f, out, i, v⟩ a w ⟨⟨hr, hf, hai, hil, hol⟩, hO, hF⟩
  refine wp_seq ?_
  refine wp_seq ?_
  refine wp_region_lit ?_
  refine wl_v hF rfl rfl rfl (q_move rfl (hF.eval rfl)) fun a hF => ?_
  refine wl_v hF rfl rfl rfl (q_move rfl (hF.eval rfl)) fun a hF => ?_
  refine wl_v hF rfl rfl rfl (q_nilCheck rfl (hF.eval rfl)) fun a hF => ?_
  refine wl_v hF rfl rfl rfl (q_fieldAddr0 (d := 0) Tryd.underlying44 rfl (hF.eval rfl) rfl Tryd.sizeOf9 (by decide) rfl) fun a hF => ?_
  refine wl_v hF rfl rfl rfl (q_load Tryd.isAgg9 rfl (hF.eval rfl) (hO.cell 0 rfl rfl)) fun a hF => ?_
  refine wl_v hF rfl rfl rfl (q_len Tryd.underlying9 rfl (hF.eval rfl)) fun a hF => ?_
  refine wl_v hF rfl rfl rfl (q_lt rfl (hF.eval rfl) (hF.eval rfl)) fun a hF => ?_
  refine wl_nil ?_
  refine k_n ?_
  refine wp_ifD hF rfl rfl (fun hc1 => ?_) (fun hc1 => ?_)
  · skip
    refine wp_skip ?_
    refine k_n ?_
    refine wp_block ?_
    refine wp_seq ?_
    refine wp_region_lit ?_
    refine wl_v hF rfl rfl rfl (q_move rfl (hF.eval rfl)) fun a hF => ?_
    refine wl_v hF rfl rfl rfl (q_nilCheck rfl (hF.eval rfl)) fun a hF => ?_
    refine wl_v hF rfl rfl rfl (q_fieldAddr0 (d := 0) Tryd.underlying44 rfl (hF.eval rfl) rfl Tryd.sizeOf9 (by decide) rfl) fun a hF => ?_
    refine wl_v hF rfl rfl rfl (q_load Tryd.isAgg9 rfl (hF.eval rfl) (hO.cell 0 rfl rfl)) fun a hF => ?_
    refine wl_v hF rfl rfl rfl (q_move rfl (hF.eval rfl)) fun a hF => ?_
    refine wl_v hF rfl rfl rfl (q_indexD (m := i) Tryd.underlying9 rfl (hF.eval rfl) (hF.eval rfl) (by omega)) fun a hF => ?_
    refine wl_v hF rfl rfl rfl (q_assign rfl (hF.eval rfl)) fun a hF => ?_
    refine wl_nil ?_
    refine k_n ?_
    refine wp_block ?_
    refine wp_seq ?_
    refine wp_region_lit ?_
    refine wl_v hF rfl rfl rfl (q_move rfl (hF.eval rfl)) fun a hF => ?_
    refine wl_v hF rfl rfl rfl (q_eq rfl (hF.eval rfl) (hF.eval rfl)) fun a hF => ?_
    refine wl_v hF rfl rfl rfl (q_assign rfl (hF.eval rfl)) fun a hF => ?_
    refine wl_nil ?_
    refine k_n ?_
    refine wp_ifD hF rfl rfl (fun hc2 => ?_) (fun hc2 => ?_)
    · skip
      refine wp_seq ?_
      have hO := hO.drew
      refine wp_region_D [0, 1, 0, 0, 0, 0, 0, 1, 0, 0, 0] (fun w => St _ _ w _) Tryd_mixed (by kernel_rfl) hO ?_
      refine wd_p hF rfl rfl rfl (fun w => q_move rfl (hF.eval rfl)) fun a hF => ?_
      refine wd_r hF rfl rfl rfl (fun w hO => q_bytesStr (hO.rdT 1 rfl) Tryd.underlying65 Tryd.underlying9 Tryd.underlying5 rfl (hF.eval rfl)) fun a hF => ?_
      refine wd_p hF rfl rfl rfl (fun w => q_move rfl (hF.eval rfl)) fun a hF => ?_
      refine wd_p hF rfl rfl rfl (fun w => q_add rfl (hF.eval rfl) (hF.eval rfl) (by omega)) fun a hF => ?_
      refine wd_p hF rfl rfl rfl (fun w => q_move rfl (hF.eval rfl)) fun a hF => ?_
      refine wd_p hF rfl rfl rfl (fun w => q_nilCheck rfl (hF.eval rfl)) fun a hF => ?_
      refine wd_p hF rfl rfl rfl (fun w => q_fieldAddr0 (d := 1) Tryd.underlying44 rfl (hF.eval rfl) rfl Tryd.sizeOf3 (by decide) rfl) fun a hF => ?_
      refine wd_r hF rfl rfl rfl (fun w hO => q_load Tryd.isAgg3 rfl (hF.eval rfl) (hO.cell 0 rfl rfl)) fun a hF => ?_
      refine wd_p hF rfl rfl rfl (fun w => q_sub rfl (hF.eval rfl) (hF.eval rfl) (by omega)) fun a hF => ?_
      refine wd_p hF rfl rfl rfl (fun w => q_assign rfl (hF.eval rfl)) fun a hF => ?_
      refine wd_p hF rfl rfl rfl (fun w => q_assign rfl (hF.eval rfl)) fun a hF => ?_
      refine wd_nil ?_
      refine k_n ?_
      refine wp_ret ?_
      refine b_r ?_
      refine b_r ?_
      refine k_r ?_
      refine b_r ?_
      refine k_r ?_
      refine r_2 hF rfl rfl rfl ?_
      obtain ⟨g, rfl⟩ : ∃ g, f = g + 1 := ⟨f - 1, by omega⟩
      refine ⟨?_, hO.drop1 1⟩
      rw [textF, ← hr, txt_quote (by omega) hc2]
      exact congrArg (fun x => Value.tuple #[str out, i64 x]) (show (i : Int) + 1 - at_ = ((i + 1 - at_ : Nat) : Int) by omega)
    · skip
      refine wp_seq ?_
      refine wp_region_lit ?_
      refine wl_v hF rfl rfl rfl (q_move rfl (hF.eval rfl)) fun a hF => ?_
      refine wl_v hF rfl rfl rfl (q_ne rfl (hF.eval rfl) (hF.eval rfl)) fun a hF => ?_
      refine wl_v hF rfl rfl rfl (q_assign rfl (hF.eval rfl)) fun a hF => ?_
      refine wl_nil ?_
      refine k_n ?_
      refine wp_ifD hF rfl rfl (fun hc3 => ?_) (fun hc3 => ?_)
      · skip
        refine wp_seq ?_
        refine wp_seq ?_
        refine wp_region_lit ?_
        refine wl_v hF rfl rfl rfl (q_move rfl (hF.eval rfl)) fun a hF => ?_
        refine wl_v hF rfl rfl rfl (q_lt rfl (hF.eval rfl) (hF.eval rfl)) fun a hF => ?_
        refine wl_v hF rfl rfl rfl (q_move rfl (hF.eval rfl)) fun a hF => ?_
        refine wl_g hF rfl rfl rfl rfl rfl rfl (fun hg => q_move rfl (hF.eval rfl)) fun a hF => ?_
        refine wl_g hF rfl rfl rfl rfl rfl rfl (fun hg => q_gt rfl ((hF.eval rfl).trans (gv_of hg)) (hF.eval rfl)) fun a hF => ?_
        refine wl_v hF rfl rfl rfl (q_or rfl (hF.eval rfl) rfl (fun hg2 => ((hF.eval rfl).trans (gv_of hg2))) rfl) fun a hF => ?_
        refine wl_nil ?_
        refine k_n ?_
        refine wp_ifD hF rfl rfl (fun hc4 => ?_) (fun hc4 => ?_)
        · skip
          refine wp_seq ?_
          refine wp_region_lit ?_
          refine wl_v hF rfl rfl rfl (q_assign rfl (hF.eval rfl)) fun a hF => ?_
          refine wl_v hF rfl rfl rfl (q_assign rfl (hF.eval rfl)) fun a hF => ?_
          refine wl_nil ?_
          refine k_n ?_
          refine wp_ret ?_
          refine k_r ?_
          refine b_r ?_
          refine b_r ?_
          refine k_r ?_
          refine b_r ?_
          refine k_r ?_
          refine r_2 hF rfl rfl rfl ?_
          obtain ⟨g, rfl⟩ : ∃ g, f = g + 1 := ⟨f - 1, by omega⟩
          refine ⟨?_, hO.drop1 1⟩
          rw [textF, ← hr, txt_bad (by omega) hc2 hc3 hc4]
          rfl
        · skip
          refine wp_skip ?_
          refine k_n ?_
          refine wp_seq ?_
          refine wp_region_lit ?_
          refine wl_v hF rfl rfl rfl (q_move rfl (hF.eval rfl)) fun a hF => ?_
          refine wl_v hF rfl rfl rfl (q_move rfl (hF.eval rfl)) fun a hF => ?_
          refine wl_e hF rfl rfl rfl (c_buildSlice hF hO Tryd.underlying65 Tryd.sizeOf5 Tryd.zeroValue5 rfl rfl rfl rfl rfl rfl rfl) ?_
          rintro a _ w ⟨b1, rfl, hO⟩ hF
          refine wl_e hF rfl rfl rfl (e_appendT (bytes := 1) (r := [gt s i]) hO (i := 2) rfl (hO.rd 0 rfl) Tryd.underlying65 Tryd_info5 rfl rfl rfl rfl rfl rfl (hF.eval rfl) (hF.eval rfl) (by show (List.length _ + 1) * 1 ≤ _; omega) (by show List.length _ + 1 ≤ _; omega)) ?_
          rintro a v87 w hO hF
          have hO : St _ _ _ [_, _, _] := hO
          refine wl_v hF rfl rfl rfl (q_assign rfl (hF.eval rfl)) fun a hF => ?_
          refine wl_nil ?_
          refine k_n ?_
          refine wp_region_lit ?_
          refine wl_v hF rfl rfl rfl (q_move rfl (hF.eval rfl)) fun a hF => ?_
          refine wl_v hF rfl rfl rfl (q_add rfl (hF.eval rfl) (hF.eval rfl) (by omega)) fun a hF => ?_
          refine wl_v hF rfl rfl rfl (q_assign rfl (hF.eval rfl)) fun a hF => ?_
          refine wl_nil ?_
          refine b_n ?_
          refine b_n ?_
          refine k_n ?_
          have hO := hO.drop1 0
          have hO : St _ _ _ [_, _] := hO
          obtain ⟨g, rfl⟩ : ∃ g, f = g + 1 := ⟨f - 1, by omega⟩
          exact ⟨(g, out ++ [gt s i], i + 1, _), ⟨⟨(txt_plain (by omega) hc2 hc3 hc4).symm.trans hr, by omega, by omega, by omega, by simp; omega⟩, hO, hF.sub ⟨rfl, rfl, rfl, trivial⟩⟩, by dsimp only; omega⟩
      · skip
        refine wp_seq ?_
        refine wp_region_lit ?_
        refine wl_v hF rfl rfl rfl (q_move rfl (hF.eval rfl)) fun a hF => ?_
        refine wl_v hF rfl rfl rfl (q_add rfl (hF.eval rfl) (hF.eval rfl) (by omega)) fun a hF => ?_
        refine wl_v hF rfl rfl rfl (q_move rfl (hF.eval rfl)) fun a hF => ?_
        refine wl_v hF rfl rfl rfl (q_nilCheck rfl (hF.eval rfl)) fun a hF => ?_
        refine wl_v hF rfl rfl rfl (q_fieldAddr0 (d := 0) Tryd.underlying44 rfl (hF.eval rfl) rfl Tryd.sizeOf9 (by decide) rfl) fun a hF => ?_
        refine wl_v hF rfl rfl rfl (q_load Tryd.isAgg9 rfl (hF.eval rfl) (hO.cell 0 rfl rfl)) fun a hF => ?_
        refine wl_v hF rfl rfl rfl (q_len Tryd.underlying9 rfl (hF.eval rfl)) fun a hF => ?_
        refine wl_v hF rfl rfl rfl (q_lt rfl (hF.eval rfl) (hF.eval rfl)) fun a hF => ?_
        refine wl_v hF rfl rfl rfl (q_move rfl (hF.eval rfl)) fun a hF => ?_
        refine wl_g hF rfl rfl rfl rfl rfl rfl (fun hg => q_move rfl (hF.eval rfl)) fun a hF => ?_
        refine wl_g hF rfl rfl rfl rfl rfl rfl (fun hg => q_nilCheck rfl ((hF.eval rfl).trans (gv_of hg))) fun a hF => ?_
        refine wl_g hF rfl rfl rfl rfl rfl rfl (fun hg => q_fieldAddr0 (d := 0) Tryd.underlying44 rfl ((hF.eval rfl).trans (gv_of hg)) rfl Tryd.sizeOf9 (by decide) rfl) fun a hF => ?_
        refine wl_g hF rfl rfl rfl rfl rfl rfl (fun hg => q_load Tryd.isAgg9 rfl ((hF.eval rfl).trans (gv_of hg)) (hO.cell 0 rfl rfl)) fun a hF => ?_
        refine wl_g hF rfl rfl rfl rfl rfl rfl (fun hg => q_move rfl (hF.eval rfl)) fun a hF => ?_
        refine wl_g hF rfl rfl rfl rfl rfl rfl (fun hg => q_add rfl ((hF.eval rfl).trans (gv_of hg)) (hF.eval rfl) (by omega)) fun a hF => ?_
        refine wl_g hF rfl rfl rfl rfl rfl rfl (fun hg => q_indexD (m := i + 1) Tryd.underlying9 rfl ((hF.eval rfl).trans (gv_of hg)) ((hF.eval rfl).trans (gv_of hg)) (by have := of_g hg; omega)) fun a hF => ?_
        refine wl_gk hO hF rfl rfl rfl rfl rfl rfl (fun hg => c_callG hF rfl rfl (by first | with_reducible rfl | (simp only [gv_of hg]; done) | (simp only [gv_of hg]; rfl)) Tryd.call22 (digit_r _ _)) fun a w hO hF => ?_
        refine wl_v hF rfl rfl rfl (q_and rfl (hF.eval rfl) rfl (fun hg2 => ((hF.eval rfl).trans (gv_of hg2))) (dec_b _)) fun a hF => ?_
        refine wl_v hF rfl rfl rfl (q_assign rfl (hF.eval rfl)) fun a hF => ?_
        refine wl_nil ?_
        refine k_n ?_
        refine wp_ifD hF rfl rfl (fun hc5 => ?_) (fun hc5 => ?_)
        · skip
          refine wp_seq ?_
          refine wp_region_lit ?_
          refine wl_v hF rfl rfl rfl (q_assign rfl (hF.eval rfl)) fun a hF => ?_
          refine wl_nil ?_
          refine k_n ?_
          refine wp_seq ?_
          refine wp_region_lit ?_
          refine wl_v hF rfl rfl rfl (q_move rfl (hF.eval rfl)) fun a hF => ?_
          refine wl_v hF rfl rfl rfl (q_add rfl (hF.eval rfl) (hF.eval rfl) (by omega)) fun a hF => ?_
          refine wl_v hF rfl rfl rfl (q_assign rfl (hF.eval rfl)) fun a hF => ?_
          refine wl_nil ?_
          refine k_n ?_
          refine wp_seq ?_
          refine wp_block ?_
          have hO : St _ _ _ [_, _] := hO
          refine wp_loopS (fun (y : Nat × Nat × Nat) a w' => match y with | (h, n, j) => (decF s h n j = decF s s.length 0 (i + 1) ∧ s.length ≤ j + h ∧ i < j ∧ j ≤ s.length ∧ n ≤ 1000) ∧ St w0 [br] w' [.ob br 44 (rdr s at_), slT v 5 byteE out] ∧ Fr a 148 [(0, ptr (adr br)), (4, v), (5, i64 j), (7, i64 n)]) (fun (y : Nat × Nat × Nat) => match y with | (h, n, j) => h) (s.length, 0, i + 1) ⟨⟨rfl, by omega, by omega, by have := hc5.1; omega, by omega⟩, hO, hF.sub ⟨rfl, rfl, rfl, rfl, trivial⟩⟩ ?_
          rintro ⟨h, n, j⟩ a w ⟨⟨hD, hh, hij, hjl, hn⟩, hO, hF⟩
          refine wp_seq ?_
          refine wp_seq ?_
          refine wp_region_lit ?_
          refine wl_v hF rfl rfl rfl (q_move rfl (hF.eval rfl)) fun a hF => ?_
          refine wl_v hF rfl rfl rfl (q_move rfl (hF.eval rfl)) fun a hF => ?_
          refine wl_v hF rfl rfl rfl (q_nilCheck rfl (hF.eval rfl)) fun a hF => ?_
          refine wl_v hF rfl rfl rfl (q_fieldAddr0 (d := 0) Tryd.underlying44 rfl (hF.eval rfl) rfl Tryd.sizeOf9 (by decide) rfl) fun a hF => ?_
          refine wl_v hF rfl rfl rfl (q_load Tryd.isAgg9 rfl (hF.eval rfl) (hO.cell 0 rfl rfl)) fun a hF => ?_
          refine wl_v hF rfl rfl rfl (q_len Tryd.underlying9 rfl (hF.eval rfl)) fun a hF => ?_
          refine wl_v hF rfl rfl rfl (q_lt rfl (hF.eval rfl) (hF.eval rfl)) fun a hF => ?_
          refine wl_v hF rfl rfl rfl (q_move rfl (hF.eval rfl)) fun a hF => ?_
          refine wl_g hF rfl rfl rfl rfl rfl rfl (fun hg => q_move rfl (hF.eval rfl)) fun a hF => ?_
          refine wl_g hF rfl rfl rfl rfl rfl rfl (fun hg => q_nilCheck rfl ((hF.eval rfl).trans (gv_of hg))) fun a hF => ?_
          refine wl_g hF rfl rfl rfl rfl rfl rfl (fun hg => q_fieldAddr0 (d := 0) Tryd.underlying44 rfl ((hF.eval rfl).trans (gv_of hg)) rfl Tryd.sizeOf9 (by decide) rfl) fun a hF => ?_
          refine wl_g hF rfl rfl rfl rfl rfl rfl (fun hg => q_load Tryd.isAgg9 rfl ((hF.eval rfl).trans (gv_of hg)) (hO.cell 0 rfl rfl)) fun a hF => ?_
          refine wl_g hF rfl rfl rfl rfl rfl rfl (fun hg => q_move rfl (hF.eval rfl)) fun a hF => ?_
          refine wl_g hF rfl rfl rfl rfl rfl rfl (fun hg => q_indexD (m := j) Tryd.underlying9 rfl ((hF.eval rfl).trans (gv_of hg)) ((hF.eval rfl).trans (gv_of hg)) (by have := of_g hg; omega)) fun a hF => ?_
          refine wl_gk hO hF rfl rfl rfl rfl rfl rfl (fun hg => c_callG hF rfl rfl (by first | with_reducible rfl | (simp only [gv_of hg]; done) | (simp only [gv_of hg]; rfl)) Tryd.call22 (digit_r _ _)) fun a w hO hF => ?_
          refine wl_v hF rfl rfl rfl (q_and rfl (hF.eval rfl) rfl (fun hg2 => ((hF.eval rfl).trans (gv_of hg2))) (dec_b _)) fun a hF => ?_
          refine wl_nil ?_
          refine k_n ?_
          refine wp_ifD hF rfl rfl (fun hc6 => ?_) (fun hc6 => ?_)
          · skip
            have hdg := digit_iff hc6.2
            have hjj := hc6.1
            refine wp_skip ?_
            refine k_n ?_
            refine wp_block ?_
            refine wp_seq ?_
            refine wp_region_lit ?_
            refine wl_v hF rfl rfl rfl (q_move rfl (hF.eval rfl)) fun a hF => ?_
            refine wl_v hF rfl rfl rfl (q_mul rfl (hF.eval rfl) (hF.eval rfl) (by omega)) fun a hF => ?_
            refine wl_v hF rfl rfl rfl (q_move rfl (hF.eval rfl)) fun a hF => ?_
            refine wl_v hF rfl rfl rfl (q_nilCheck rfl (hF.eval rfl)) fun a hF => ?_
            refine wl_v hF rfl rfl rfl (q_fieldAddr0 (d := 0) Tryd.underlying44 rfl (hF.eval rfl) rfl Tryd.sizeOf9 (by decide) rfl) fun a hF => ?_
            refine wl_v hF rfl rfl rfl (q_load Tryd.isAgg9 rfl (hF.eval rfl) (hO.cell 0 rfl rfl)) fun a hF => ?_
            refine wl_v hF rfl rfl rfl (q_move rfl (hF.eval rfl)) fun a hF => ?_
            refine wl_v hF rfl rfl rfl (q_indexD (m := j) Tryd.underlying9 rfl (hF.eval rfl) (hF.eval rfl) (by omega)) fun a hF => ?_
            refine wl_v hF rfl rfl rfl (q_u8sub rfl (hF.eval rfl) (hF.eval rfl) (by omega)) fun a hF => ?_
            refine wl_v hF rfl rfl rfl (q_conv Tryd.underlying5 Tryd.underlying3 rfl (hF.eval rfl) (IntWalk.i64_in _ (by omega))) fun a hF => ?_
            refine wl_v hF rfl rfl rfl (q_add rfl (hF.eval rfl) (hF.eval rfl) (by omega)) fun a hF => ?_
            refine wl_v hF rfl rfl rfl (q_min rfl (hF.eval rfl) (hF.eval rfl)) fun a hF => ?_
            refine wl_v hF rfl rfl rfl (q_assign rfl (hF.eval rfl)) fun a hF => ?_
            refine wl_nil ?_
            refine k_n ?_
            refine wp_region_lit ?_
            refine wl_v hF rfl rfl rfl (q_move rfl (hF.eval rfl)) fun a hF => ?_
            refine wl_v hF rfl rfl rfl (q_add rfl (hF.eval rfl) (hF.eval rfl) (by omega)) fun a hF => ?_
            refine wl_v hF rfl rfl rfl (q_assign rfl (hF.eval rfl)) fun a hF => ?_
            refine wl_nil ?_
            refine b_n ?_
            refine k_n ?_
            have hO : St _ _ _ [_, _] := hO
            obtain ⟨g, rfl⟩ : ∃ g, h = g + 1 := ⟨h - 1, by have := hc6.1; omega⟩
            exact ⟨(g, min (10 * n + ((gt s j).toNat - 48)) 1000, j + 1), ⟨⟨(dec_on hc6).symm.trans hD, by omega, by omega, by have := hc6.1; omega, by omega⟩, hO, hF.sub ⟨rfl, rfl, rfl, (congrArg some (congrArg i64 (dec_num hdg))), trivial⟩⟩, by dsimp only; omega⟩
          · skip
            refine wp_exit ?_
            refine k_x ?_
            refine k_x ?_
            refine b_x ?_
            refine k_n ?_
            refine wp_seq ?_
            refine wp_seq ?_
            refine wp_region_lit ?_
            refine wl_v hF rfl rfl rfl (q_move rfl (hF.eval rfl)) fun a hF => ?_
            refine wl_v hF rfl rfl rfl (q_gt rfl (hF.eval rfl) (hF.eval rfl)) fun a hF => ?_
            refine wl_nil ?_
            refine k_n ?_
            refine wp_ifD hF rfl rfl (fun hc7 => ?_) (fun hc7 => ?_)
            · skip
              refine wp_seq ?_
              refine wp_region_lit ?_
              refine wl_v hF rfl rfl rfl (q_assign rfl (hF.eval rfl)) fun a hF => ?_
              refine wl_v hF rfl rfl rfl (q_assign rfl (hF.eval rfl)) fun a hF => ?_
              refine wl_nil ?_
              refine k_n ?_
              refine wp_ret ?_
              refine k_r ?_
              refine b_r ?_
              refine b_r ?_
              refine k_r ?_
              refine b_r ?_
              refine k_r ?_
              refine r_2 hF rfl rfl rfl ?_
              obtain ⟨g, rfl⟩ : ∃ g, f = g + 1 := ⟨f - 1, by omega⟩
              refine ⟨?_, hO.drop1 1⟩
              rw [textF, ← hr, txt_big (by omega) hc2 hc3 hc5 (dec_end hD hc6) hc7]
              rfl
            · skip
              refine wp_skip ?_
              refine k_n ?_
              refine wp_region_lit ?_
              refine wl_v hF rfl rfl rfl (q_move rfl (hF.eval rfl)) fun a hF => ?_
              refine wl_v hF rfl rfl rfl (q_move rfl (hF.eval rfl)) fun a hF => ?_
              refine wl_v hF rfl rfl rfl (q_conv Tryd.underlying3 Tryd.underlying5 rfl (hF.eval rfl) (wrap_ofNat (by omega))) fun a hF => ?_
              refine wl_e hF rfl rfl rfl (c_buildSlice hF hO Tryd.underlying65 Tryd.sizeOf5 Tryd.zeroValue5 rfl rfl rfl rfl rfl rfl rfl) ?_
              rintro a _ w ⟨b2, rfl, hO⟩ hF
              refine wl_e hF rfl rfl rfl (e_appendT (bytes := 1) (r := [UInt8.ofNat n]) hO (i := 2) rfl (hO.rd 0 rfl) Tryd.underlying65 Tryd_info5 rfl rfl rfl rfl rfl rfl (hF.eval rfl) (hF.eval rfl) (by show (List.length _ + 1) * 1 ≤ _; omega) (by show List.length _ + 1 ≤ _; omega)) ?_
              rintro a v147 w hO hF
              have hO : St _ _ _ [_, _, _] := hO
              refine wl_v hF rfl rfl rfl (q_assign rfl (hF.eval rfl)) fun a hF => ?_
              refine wl_nil ?_
              refine b_n ?_
              refine b_n ?_
              refine k_n ?_
              have hO := hO.drop1 0
              have hO : St _ _ _ [_, _] := hO
              obtain ⟨g, rfl⟩ : ∃ g, f = g + 1 := ⟨f - 1, by omega⟩
              exact ⟨(g, out ++ [UInt8.ofNat n], j, _), ⟨⟨(txt_dec (by omega) hc2 hc3 hc5 (dec_end hD hc6) (by omega)).symm.trans hr, by omega, by omega, by omega, by simp; omega⟩, hO, hF.sub ⟨rfl, rfl, rfl, trivial⟩⟩, by dsimp only; omega⟩
        · skip
          refine wp_seq ?_
          refine wp_seq ?_
          refine wp_region_lit ?_
          refine wl_v hF rfl rfl rfl (q_move rfl (hF.eval rfl)) fun a hF => ?_
          refine wl_v hF rfl rfl rfl (q_add rfl (hF.eval rfl) (hF.eval rfl) (by omega)) fun a hF => ?_
          refine wl_v hF rfl rfl rfl (q_move rfl (hF.eval rfl)) fun a hF => ?_
          refine wl_v hF rfl rfl rfl (q_nilCheck rfl (hF.eval rfl)) fun a hF => ?_
          refine wl_v hF rfl rfl rfl (q_fieldAddr0 (d := 0) Tryd.underlying44 rfl (hF.eval rfl) rfl Tryd.sizeOf9 (by decide) rfl) fun a hF => ?_
          refine wl_v hF rfl rfl rfl (q_load Tryd.isAgg9 rfl (hF.eval rfl) (hO.cell 0 rfl rfl)) fun a hF => ?_
          refine wl_v hF rfl rfl rfl (q_len Tryd.underlying9 rfl (hF.eval rfl)) fun a hF => ?_
          refine wl_v hF rfl rfl rfl (q_ge rfl (hF.eval rfl) (hF.eval rfl)) fun a hF => ?_
          refine wl_v hF rfl rfl rfl (q_move rfl (hF.eval rfl)) fun a hF => ?_
          refine wl_g hF rfl rfl rfl rfl rfl rfl (fun hg => q_move rfl (hF.eval rfl)) fun a hF => ?_
          refine wl_g hF rfl rfl rfl rfl rfl rfl (fun hg => q_nilCheck rfl ((hF.eval rfl).trans (gv_of hg))) fun a hF => ?_
          refine wl_g hF rfl rfl rfl rfl rfl rfl (fun hg => q_fieldAddr0 (d := 0) Tryd.underlying44 rfl ((hF.eval rfl).trans (gv_of hg)) rfl Tryd.sizeOf9 (by decide) rfl) fun a hF => ?_
          refine wl_g hF rfl rfl rfl rfl rfl rfl (fun hg => q_load Tryd.isAgg9 rfl ((hF.eval rfl).trans (gv_of hg)) (hO.cell 0 rfl rfl)) fun a hF => ?_
          refine wl_g hF rfl rfl rfl rfl rfl rfl (fun hg => q_move rfl (hF.eval rfl)) fun a hF => ?_
          refine wl_g hF rfl rfl rfl rfl rfl rfl (fun hg => q_add rfl ((hF.eval rfl).trans (gv_of hg)) (hF.eval rfl) (by omega)) fun a hF => ?_
          refine wl_g hF rfl rfl rfl rfl rfl rfl (fun hg => q_indexD (m := i + 1) Tryd.underlying9 rfl ((hF.eval rfl).trans (gv_of hg)) ((hF.eval rfl).trans (gv_of hg)) (by have := of_gn hg; omega)) fun a hF => ?_
          refine wl_gk hO hF rfl rfl rfl rfl rfl rfl (fun hg => c_callG hF rfl rfl (by first | with_reducible rfl | (simp only [gv_of hg]; done) | (simp only [gv_of hg]; rfl)) Tryd.call25 (has_r _ _ _ (by decide))) fun a w hO hF => ?_
          refine wl_g hF rfl rfl rfl rfl rfl rfl (fun hg => q_not rfl ((hF.eval rfl).trans (gv_of hg)) (dec_b _)) fun a hF => ?_
          refine wl_v hF rfl rfl rfl (q_or rfl (hF.eval rfl) rfl (fun hg2 => ((hF.eval rfl).trans (gv_of hg2))) rfl) fun a hF => ?_
          refine wl_nil ?_
          refine k_n ?_
          refine wp_ifD hF rfl rfl (fun hc8 => ?_) (fun hc8 => ?_)
          · skip
            refine wp_seq ?_
            refine wp_region_lit ?_
            refine wl_v hF rfl rfl rfl (q_assign rfl (hF.eval rfl)) fun a hF => ?_
            refine wl_v hF rfl rfl rfl (q_assign rfl (hF.eval rfl)) fun a hF => ?_
            refine wl_nil ?_
            refine k_n ?_
            refine wp_ret ?_
            refine k_r ?_
            refine b_r ?_
            refine b_r ?_
            refine k_r ?_
            refine b_r ?_
            refine k_r ?_
            refine r_2 hF rfl rfl rfl ?_
            obtain ⟨g, rfl⟩ : ∃ g, f = g + 1 := ⟨f - 1, by omega⟩
            refine ⟨?_, hO.drop1 1⟩
            rw [textF, ← hr, txt_not (by omega) hc2 hc3 hc5 hc8]
            rfl
          · skip
            refine wp_skip ?_
            refine k_n ?_
            refine wp_seq ?_
            refine wp_region_lit ?_
            refine wl_v hF rfl rfl rfl (q_move rfl (hF.eval rfl)) fun a hF => ?_
            refine wl_v hF rfl rfl rfl (q_nilCheck rfl (hF.eval rfl)) fun a hF => ?_
            refine wl_v hF rfl rfl rfl (q_fieldAddr0 (d := 0) Tryd.underlying44 rfl (hF.eval rfl) rfl Tryd.sizeOf9 (by decide) rfl) fun a hF => ?_
            refine wl_v hF rfl rfl rfl (q_load Tryd.isAgg9 rfl (hF.eval rfl) (hO.cell 0 rfl rfl)) fun a hF => ?_
            refine wl_v hF rfl rfl rfl (q_move rfl (hF.eval rfl)) fun a hF => ?_
            refine wl_v hF rfl rfl rfl (q_add rfl (hF.eval rfl) (hF.eval rfl) (by omega)) fun a hF => ?_
            refine wl_v hF rfl rfl rfl (q_indexD (m := i + 1) Tryd.underlying9 rfl (hF.eval rfl) (hF.eval rfl) (by have := not_or.1 hc8; omega)) fun a hF => ?_
            refine wl_v hF rfl rfl rfl (q_assign rfl (hF.eval rfl)) fun a hF => ?_
            refine wl_nil ?_
            refine k_n ?_
            refine wp_seq ?_
            refine wp_seq ?_
            refine wp_region_lit ?_
            refine wl_v hF rfl rfl rfl (q_move rfl (hF.eval rfl)) fun a hF => ?_
            refine wl_v hF rfl rfl rfl (q_eq rfl (hF.eval rfl) (hF.eval rfl)) fun a hF => ?_
            refine wl_nil ?_
            refine k_n ?_
            refine wp_ifD hF rfl rfl (fun hc9 => ?_) (fun hc9 => ?_)
            · skip
              refine wp_region_lit ?_
              refine wl_v hF rfl rfl rfl (q_assign rfl (hF.eval rfl)) fun a hF => ?_
              refine wl_nil ?_
              refine k_n ?_
              refine wp_seq ?_
              refine wp_seq ?_
              refine wp_region_lit ?_
              refine wl_v hF rfl rfl rfl (q_move rfl (hF.eval rfl)) fun a hF => ?_
              refine wl_v hF rfl rfl rfl (q_eq rfl (hF.eval rfl) (hF.eval rfl)) fun a hF => ?_
              refine wl_nil ?_
              refine k_n ?_
              refine wp_ifD hF rfl rfl (fun hc10 => ?_) (fun hc10 => ?_)
              · skip
                exact absurd hc10 (by decide)
              · skip
                refine wp_skip ?_
                refine k_n ?_
                refine wp_seq ?_
                refine wp_region_lit ?_
                refine wl_v hF rfl rfl rfl (q_move rfl (hF.eval rfl)) fun a hF => ?_
                refine wl_v hF rfl rfl rfl (q_move rfl (hF.eval rfl)) fun a hF => ?_
                refine wl_e hF rfl rfl rfl (c_buildSlice hF hO Tryd.underlying65 Tryd.sizeOf5 Tryd.zeroValue5 rfl rfl rfl rfl rfl rfl rfl) ?_
                rintro a _ w ⟨b3, rfl, hO⟩ hF
                refine wl_e hF rfl rfl rfl (e_appendT (bytes := 1) (r := [10]) hO (i := 2) rfl (hO.rd 0 rfl) Tryd.underlying65 Tryd_info5 rfl rfl rfl rfl rfl rfl (hF.eval rfl) (hF.eval rfl) (by show (List.length _ + 1) * 1 ≤ _; omega) (by show List.length _ + 1 ≤ _; omega)) ?_
                rintro a v60 w hO hF
                have hO : St _ _ _ [_, _, _] := hO
                refine wl_v hF rfl rfl rfl (q_assign rfl (hF.eval rfl)) fun a hF => ?_
                refine wl_nil ?_
                refine k_n ?_
                refine wp_region_lit ?_
                refine wl_v hF rfl rfl rfl (q_move rfl (hF.eval rfl)) fun a hF => ?_
                refine wl_v hF rfl rfl rfl (q_add rfl (hF.eval rfl) (hF.eval rfl) (by omega)) fun a hF => ?_
                refine wl_v hF rfl rfl rfl (q_assign rfl (hF.eval rfl)) fun a hF => ?_
                refine wl_nil ?_
                refine b_n ?_
                refine b_n ?_
                refine k_n ?_
                have hO := hO.drop1 0
                have hO : St _ _ _ [_, _] := hO
                obtain ⟨g, rfl⟩ : ∃ g, f = g + 1 := ⟨f - 1, by omega⟩
                exact ⟨(g, out ++ [10], i + 2, _), ⟨⟨(txt_esc (c := 10) (by omega) hc2 hc3 hc5 hc8 (esc_n hc9)).symm.trans hr, by omega, by omega, by omega, by simp; omega⟩, hO, hF.sub ⟨rfl, rfl, rfl, trivial⟩⟩, by dsimp only; omega⟩
            · skip
              refine wp_skip ?_
              refine k_n ?_
              refine wp_seq ?_
              refine wp_seq ?_
              refine wp_region_lit ?_
              refine wl_v hF rfl rfl rfl (q_move rfl (hF.eval rfl)) fun a hF => ?_
              refine wl_v hF rfl rfl rfl (q_eq rfl (hF.eval rfl) (hF.eval rfl)) fun a hF => ?_
              refine wl_nil ?_
              refine k_n ?_
              refine wp_ifD hF rfl rfl (fun hc11 => ?_) (fun hc11 => ?_)
              · skip
                refine wp_region_lit ?_
                refine wl_v hF rfl rfl rfl (q_assign rfl (hF.eval rfl)) fun a hF => ?_
                refine wl_nil ?_
                refine k_n ?_
                refine wp_seq ?_
                refine wp_region_lit ?_
                refine wl_v hF rfl rfl rfl (q_move rfl (hF.eval rfl)) fun a hF => ?_
                refine wl_v hF rfl rfl rfl (q_move rfl (hF.eval rfl)) fun a hF => ?_
                refine wl_e hF rfl rfl rfl (c_buildSlice hF hO Tryd.underlying65 Tryd.sizeOf5 Tryd.zeroValue5 rfl rfl rfl rfl rfl rfl rfl) ?_
                rintro a _ w ⟨b4, rfl, hO⟩ hF
                refine wl_e hF rfl rfl rfl (e_appendT (bytes := 1) (r := [9]) hO (i := 2) rfl (hO.rd 0 rfl) Tryd.underlying65 Tryd_info5 rfl rfl rfl rfl rfl rfl (hF.eval rfl) (hF.eval rfl) (by show (List.length _ + 1) * 1 ≤ _; omega) (by show List.length _ + 1 ≤ _; omega)) ?_
                rintro a v60 w hO hF
                have hO : St _ _ _ [_, _, _] := hO
                refine wl_v hF rfl rfl rfl (q_assign rfl (hF.eval rfl)) fun a hF => ?_
                refine wl_nil ?_
                refine k_n ?_
                refine wp_region_lit ?_
                refine wl_v hF rfl rfl rfl (q_move rfl (hF.eval rfl)) fun a hF => ?_
                refine wl_v hF rfl rfl rfl (q_add rfl (hF.eval rfl) (hF.eval rfl) (by omega)) fun a hF => ?_
                refine wl_v hF rfl rfl rfl (q_assign rfl (hF.eval rfl)) fun a hF => ?_
                refine wl_nil ?_
                refine b_n ?_
                refine b_n ?_
                refine k_n ?_
                have hO := hO.drop1 0
                have hO : St _ _ _ [_, _] := hO
                obtain ⟨g, rfl⟩ : ∃ g, f = g + 1 := ⟨f - 1, by omega⟩
                exact ⟨(g, out ++ [9], i + 2, _), ⟨⟨(txt_esc (c := 9) (by omega) hc2 hc3 hc5 hc8 (esc_t hc9 hc11)).symm.trans hr, by omega, by omega, by omega, by simp; omega⟩, hO, hF.sub ⟨rfl, rfl, rfl, trivial⟩⟩, by dsimp only; omega⟩
              · skip
                refine wp_skip ?_
                refine k_n ?_
                refine wp_seq ?_
                refine wp_region_lit ?_
                refine wl_v hF rfl rfl rfl (q_move rfl (hF.eval rfl)) fun a hF => ?_
                refine wl_v hF rfl rfl rfl (q_move rfl (hF.eval rfl)) fun a hF => ?_
                refine wl_e hF rfl rfl rfl (c_buildSlice hF hO Tryd.underlying65 Tryd.sizeOf5 Tryd.zeroValue5 rfl rfl rfl rfl rfl rfl rfl) ?_
                rintro a _ w ⟨b5, rfl, hO⟩ hF
                refine wl_e hF rfl rfl rfl (e_appendT (bytes := 1) (r := [gt s (i + 1)]) hO (i := 2) rfl (hO.rd 0 rfl) Tryd.underlying65 Tryd_info5 rfl rfl rfl rfl rfl rfl (hF.eval rfl) (hF.eval rfl) (by show (List.length _ + 1) * 1 ≤ _; omega) (by show List.length _ + 1 ≤ _; omega)) ?_
                rintro a v60 w hO hF
                have hO : St _ _ _ [_, _, _] := hO
                refine wl_v hF rfl rfl rfl (q_assign rfl (hF.eval rfl)) fun a hF => ?_
                refine wl_nil ?_
                refine k_n ?_
                refine wp_region_lit ?_
                refine wl_v hF rfl rfl rfl (q_move rfl (hF.eval rfl)) fun a hF => ?_
                refine wl_v hF rfl rfl rfl (q_add rfl (hF.eval rfl) (hF.eval rfl) (by omega)) fun a hF => ?_
                refine wl_v hF rfl rfl rfl (q_assign rfl (hF.eval rfl)) fun a hF => ?_
                refine wl_nil ?_
                refine b_n ?_
                refine b_n ?_
                refine k_n ?_
                have hO := hO.drop1 0
                have hO : St _ _ _ [_, _] := hO
                obtain ⟨g, rfl⟩ : ∃ g, f = g + 1 := ⟨f - 1, by omega⟩
                exact ⟨(g, out ++ [gt s (i + 1)], i + 2, _), ⟨⟨(txt_esc (by omega) hc2 hc3 hc5 hc8 (esc_o hc9 hc11)).symm.trans hr, by omega, by omega, by omega, by simp; omega⟩, hO, hF.sub ⟨rfl, rfl, rfl, trivial⟩⟩, by dsimp only; omega⟩
  · skip
    refine wp_exit ?_
    refine k_x ?_
    refine k_x ?_
    refine b_x ?_
    refine k_n ?_
    refine wp_seq ?_
    refine wp_region_lit ?_
    refine wl_v hF rfl rfl rfl (q_assign rfl (hF.eval rfl)) fun a hF => ?_
    refine wl_v hF rfl rfl rfl (q_assign rfl (hF.eval rfl)) fun a hF => ?_
    refine wl_nil ?_
    refine k_n ?_
    refine wp_ret ?_
    refine r_2 hF rfl rfl rfl ?_
    refine ⟨?_, hO.drop1 1⟩
    rw [textF, ← hr, txt_none (by omega)]
    rfl

end Go.Proofs.YtanpeofnlihhoaaDoor
