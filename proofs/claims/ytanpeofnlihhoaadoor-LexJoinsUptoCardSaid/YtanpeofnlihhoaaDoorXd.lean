import Derived.Test.YtanpeofnlihhoaaDoorGf
import Derived.Test.YtanpeofnlihhoaaDoorXc
namespace Go.Proofs.YtanpeofnlihhoaaDoor
open Go
set_option maxRecDepth 100000
set_option linter.unusedVariables false

theorem ik (i k : Nat) : ((i + 1 + k : Nat) : Int) - 1 + 1 = ((i + 1 + k : Nat) : Int) := by omega
section
variable {t : List UInt8} {i k : Nat}
theorem dig_on (hk : k ≤ ((t.drop (i + 1)).takeWhile digitB).length) (h : ((i + 1 + k : Nat) : Int) < t.length ∧ digitB (t.getD (i + 1 + k) 0) = true) : k + 1 ≤ ((t.drop (i + 1)).takeWhile digitB).length :=
  tw_yes digitB _ k hk (by rw [drop_len]; have := h.1; omega) (by rw [drop_getD]; exact h.2)
theorem dig_off (h : ¬ (((i + 1 + k : Nat) : Int) < t.length ∧ digitB (t.getD (i + 1 + k) 0) = true)) : ¬ ((k : Int) < (t.drop (i + 1)).length ∧ digitB ((t.drop (i + 1)).getD k 0) = true) := by
  rw [drop_len, drop_getD]
  exact fun g => h ⟨by have := g.1; omega, g.2⟩
theorem take_tw (hk : ((t.drop (i + 1)).takeWhile digitB).length = k) : (t.take (i + 1 + k)).drop (i + 1) = (t.drop (i + 1)).takeWhile digitB := by
  have : ∀ l : List UInt8, l.take (l.takeWhile digitB).length = l.takeWhile digitB := by
    intro l
    induction l with
    | nil => rfl
    | cons c r ih =>
      rw [List.takeWhile_cons]
      split
      · rw [List.length_cons, List.take_succ_cons, ih]
      · rfl
  rw [List.drop_take, Nat.add_sub_cancel_left, ← hk, this]
theorem no_dig (hk : ((t.drop (i + 1)).takeWhile digitB).length = k) (h : ¬ ((i + 1 : Nat) : Int) < ((i + 1 + k : Nat) : Int)) : ¬ ((i : Int) + 1 < t.length ∧ digitB (t.getD (i + 1) 0) = true) := by
  intro g
  have := dig_on (t := t) (i := i) (k := 0) (by omega) ⟨by have := g.1; omega, g.2⟩
  omega
theorem yes_dig (hk : ((t.drop (i + 1)).takeWhile digitB).length = k) (h : 0 < k) : (i : Int) + 1 < t.length ∧ digitB (t.getD (i + 1) 0) = true := by
  have h1 := tw_all digitB (t.drop (i + 1)) 0 (by omega)
  rw [drop_getD] at h1
  have h2 := tw_le digitB (t.drop (i + 1))
  rw [drop_len] at h2
  exact ⟨by omega, h1⟩
theorem dec_val (h : i + 1 ≤ t.length) : decF t t.length 0 (i + 1) = (capF ((t.drop (i + 1)).takeWhile digitB) 0, i + 1 + ((t.drop (i + 1)).takeWhile digitB).length) := decF_cap _ _ _ _ (by omega)
theorem esc_in (h : i + 1 < t.length) (hc : ((t.getD (i + 1) 0).toNat : Int) = 110 ∨ ((t.getD (i + 1) 0).toNat : Int) = 116 ∨ (((t.getD (i + 1) 0).toNat : Int) = 92 ∨ ((t.getD (i + 1) 0).toNat : Int) = 34)) : ¬ ((t.length : Int) ≤ i + 1 ∨ ¬ escsL.contains (t.getD (i + 1) 0) = true) := by
  rintro (h1 | h1)
  · omega
  · apply h1
    rcases hc with hc | hc | hc | hc
    · rw [show t.getD (i + 1) 0 = 110 from gt_eq 110 rfl hc]; rfl
    · rw [show t.getD (i + 1) 0 = 116 from gt_eq 116 rfl hc]; rfl
    · rw [show t.getD (i + 1) 0 = 92 from gt_eq 92 rfl hc]; rfl
    · rw [show t.getD (i + 1) 0 = 34 from gt_eq 34 rfl hc]; rfl
theorem esc_out (h1 : ¬ ((t.getD (i + 1) 0).toNat : Int) = 110) (h2 : ¬ ((t.getD (i + 1) 0).toNat : Int) = 116) (h3 : ¬ (((t.getD (i + 1) 0).toNat : Int) = 92 ∨ ((t.getD (i + 1) 0).toNat : Int) = 34)) : (t.length : Int) ≤ i + 1 ∨ ¬ escsL.contains (t.getD (i + 1) 0) = true := by
  right
  intro h
  rcases (by simpa [escsL] using h : t.getD (i + 1) 0 = 110 ∨ t.getD (i + 1) 0 = 116 ∨ t.getD (i + 1) 0 = 92 ∨ t.getD (i + 1) 0 = 34) with e | e | e | e
  · exact h1 (by rw [e]; rfl)
  · exact h2 (by rw [e]; rfl)
  · exact h3 (.inl (by rw [e]; rfl))
  · exact h3 (.inr (by rw [e]; rfl))
end
theorem copyCheck_r (w0 : World) (b : Nat) (o : Option Addr) (bv : Value) (ho : o = none ∨ o = some (adr b)) (hA : Owns w0 [.ob b 70 [.pointer o, bv]]) : Ret Tryd.prog 66 #[ptr (adr b)] w0 (fun v w' => v = .tuple #[] ∧ St w0 [b] w' [.ob b 70 [.pointer (some (adr b)), bv]]) := by
  have hO := St.init hA
  refine ret_of (m := 20) Tryd.func66 rfl Tryd.ntmps66 [(0, ptr (adr b))] rfl ⟨rfl, trivial⟩ fun a hF => ?_
  refine wp_seq ?_
  refine wp_region_lit ?_
  refine wl_v hF rfl rfl rfl (q_move rfl (hF.eval rfl)) fun a hF => ?_
  refine wl_v hF rfl rfl rfl (q_nilCheck rfl (hF.eval rfl)) fun a hF => ?_
  refine wl_v hF rfl rfl rfl (q_fieldAddr0 (d := 0) Tryd.underlying70 rfl (hF.eval rfl) rfl Tryd.sizeOf68 (by decide) rfl) fun a hF => ?_
  refine wl_v hF rfl rfl rfl (q_load Tryd.isAgg68 rfl (hF.eval rfl) (hO.cell 0 rfl rfl)) fun a hF => ?_
  refine wl_v hF rfl rfl rfl (q_peq Tryd.underlying68 rfl (hF.eval rfl) (hF.eval rfl)) fun a hF => ?_
  refine wl_nil ?_
  refine k_n ?_
  refine wp_ifD hF rfl rfl (fun hc1 => ?_) (fun hc1 => ?_)
  · skip
    refine wp_region_lit ?_
    refine wl_v hF rfl rfl rfl (q_move rfl (hF.eval rfl)) fun a hF => ?_
    refine wl_v hF rfl rfl rfl (q_move rfl (hF.eval rfl)) fun a hF => ?_
    refine wl_v hF rfl rfl rfl (q_toUnsafe hO (i := 0) rfl rfl rfl (hF.eval rfl)) fun a hF => ?_
    refine wl_v hF rfl rfl rfl (e_noEscape rfl (hF.eval rfl)) fun a hF => ?_
    refine wl_v hF rfl rfl rfl (q_fromUnsafe hO (i := 0) rfl rfl rfl (hF.eval rfl)) fun a hF => ?_
    refine wl_v hF rfl rfl rfl (q_nilCheck rfl (hF.eval rfl)) fun a hF => ?_
    refine wl_v hF rfl rfl rfl (q_fieldAddr0 (d := 0) Tryd.underlying70 rfl (hF.eval rfl) rfl Tryd.sizeOf68 (by decide) rfl) fun a hF => ?_
    refine wl_s hF rfl rfl (e_store1 hO (i := 0) rfl Tryd.sizeOf68 rfl (hF.eval rfl) (hF.eval rfl) rfl rfl rfl) ?_
    rintro a _ w ⟨-, hO⟩ hF
    have hO : St _ _ _ [_] := hO
    refine wl_nil ?_
    refine r_0n hF rfl ?_
    exact ⟨rfl, hO⟩
  · skip
    obtain rfl : o = some (adr b) := ho.resolve_left hc1
    refine wp_seq ?_
    refine wp_region_lit ?_
    refine wl_v hF rfl rfl rfl (q_move rfl (hF.eval rfl)) fun a hF => ?_
    refine wl_v hF rfl rfl rfl (q_nilCheck rfl (hF.eval rfl)) fun a hF => ?_
    refine wl_v hF rfl rfl rfl (q_fieldAddr0 (d := 0) Tryd.underlying70 rfl (hF.eval rfl) rfl Tryd.sizeOf68 (by decide) rfl) fun a hF => ?_
    refine wl_v hF rfl rfl rfl (q_load Tryd.isAgg68 rfl (hF.eval rfl) (hO.cell 0 rfl rfl)) fun a hF => ?_
    refine wl_v hF rfl rfl rfl (q_move rfl (hF.eval rfl)) fun a hF => ?_
    refine wl_v hF rfl rfl rfl (q_pneS Tryd.underlying68 rfl (hF.eval rfl) (hF.eval rfl)) fun a hF => ?_
    refine wl_nil ?_
    refine k_n ?_
    refine wp_ifD hF rfl rfl (fun hc2 => ?_) (fun hc2 => ?_)
    · skip
      exact absurd hc2 (by simp)
    · skip
      refine wp_skip ?_
      refine r_0n hF rfl ?_
      exact ⟨rfl, hO⟩

theorem wbyte_r (w0 : World) (b : Nat) (o : Option Addr) (bv : Value) (l : List UInt8) (c : UInt8) (hl : l.length ≤ 100000) (ho : o = none ∨ o = some (adr b)) (hA : Owns w0 [.ob b 70 [.pointer o, bv], slT bv 5 byteE l]) : Ret Tryd.prog 50 #[ptr (adr b), .int .u8 c.toNat] w0 (fun v w' => ∃ bv2, v = .nilIface ∧ St w0 (blks [.ob b 70 [.pointer o, bv], slT bv 5 byteE l]) w' [.ob b 70 [.pointer (some (adr b)), bv2], slT bv2 5 byteE (l ++ [c])]) := by
  have hO := St.init hA
  refine ret_of (m := 17) Tryd.func50 rfl Tryd.ntmps50 [(0, ptr (adr b)), (1, .int .u8 c.toNat)] rfl ⟨rfl, rfl, trivial⟩ fun a hF => ?_
  refine wp_seq ?_
  refine wp_region_lit ?_
  refine wl_v hF rfl rfl rfl (q_assign rfl (hF.eval rfl)) fun a hF => ?_
  refine wl_nil ?_
  refine k_n ?_
  refine wp_seq ?_
  refine wp_region_lit ?_
  refine wl_v hF rfl rfl rfl (q_move rfl (hF.eval rfl)) fun a hF => ?_
  have hO : St _ _ _ [_, _] := hO
  refine wl_e hF rfl rfl rfl (c_call hF rfl rfl Tryd.call66 (copyCheck_r _ _ _ _ ho hO.own1)) ?_
  rintro a _ w ⟨-, hS⟩ hF
  have hO := hO.call1 hS
  have hO : St _ _ _ [_, _] := hO
  refine wl_nil ?_
  refine k_n ?_
  refine wp_seq ?_
  refine wp_region_lit ?_
  refine wl_v hF rfl rfl rfl (q_move rfl (hF.eval rfl)) fun a hF => ?_
  refine wl_v hF rfl rfl rfl (q_move rfl (hF.eval rfl)) fun a hF => ?_
  refine wl_v hF rfl rfl rfl (q_nilCheck rfl (hF.eval rfl)) fun a hF => ?_
  refine wl_v hF rfl rfl rfl (q_fieldAddr0 (d := 1) Tryd.underlying70 rfl (hF.eval rfl) rfl Tryd.sizeOf65 (by decide) rfl) fun a hF => ?_
  refine wl_v hF rfl rfl rfl (q_load Tryd.isAgg65 rfl (hF.eval rfl) (hO.cell 0 rfl rfl)) fun a hF => ?_
  refine wl_v hF rfl rfl rfl (q_move rfl (hF.eval rfl)) fun a hF => ?_
  refine wl_e hF rfl rfl rfl (c_buildSlice hF hO Tryd.underlying65 Tryd.sizeOf5 Tryd.zeroValue5 rfl rfl rfl rfl rfl rfl rfl) ?_
  rintro a _ w ⟨b1, rfl, hO⟩ hF
  refine wl_e hF rfl rfl rfl (e_appendT (bytes := 1) (r := [c]) hO (i := 2) rfl (hO.rd 0 rfl) Tryd.underlying65 Tryd_info5 rfl rfl rfl rfl rfl rfl (hF.eval rfl) (hF.eval rfl) (by show (List.length _ + 1) * 1 ≤ _; omega) (by show List.length _ + 1 ≤ _; omega)) ?_
  rintro a v14 w hO hF
  have hO : St _ _ _ [_, _, _] := hO
  refine wl_v hF rfl rfl rfl (q_nilCheck rfl (hF.eval rfl)) fun a hF => ?_
  refine wl_v hF rfl rfl rfl (q_fieldAddr0 (d := 1) Tryd.underlying70 rfl (hF.eval rfl) rfl Tryd.sizeOf65 (by decide) rfl) fun a hF => ?_
  refine wl_s hF rfl rfl (e_store1 hO (i := 1) rfl Tryd.sizeOf65 rfl (hF.eval rfl) (hF.eval rfl) (cells_one (hO.slOne 2 rfl)) rfl (hO.slOne 2 rfl)) ?_
  rintro a _ w ⟨-, hO⟩ hF
  have hO : St _ _ _ [_, _, _] := hO
  refine wl_nil ?_
  refine k_n ?_
  refine wp_seq ?_
  refine wp_region_lit ?_
  refine wl_v hF rfl rfl rfl (q_assign rfl (hF.eval rfl)) fun a hF => ?_
  refine wl_nil ?_
  refine k_n ?_
  refine wp_ret ?_
  refine r_1 hF rfl rfl ?_
  have hO := hO.drop1 0
  have hO : St _ _ _ [_, _] := hO
  exact ⟨_, rfl, hO⟩

set_option maxHeartbeats 4000000 in
theorem pstr_r (w0 : World) (t : List UInt8) (ht : t.length ≤ 16384) (h0 : 0 < t.length) (F : Nat) (hF9 : t.length < F) (hG : GlE w0 []) : Ret Tryd.prog 38 #[str t] w0 (fun v w' => v = (match txtF t F [] 1 with | none => .tuple #[str [], i64 (-1)] | some (x, n) => .tuple #[str x, i64 (n : Int)]) ∧ St w0 [] w' []) := by
  have hO := St.init0 w0
  refine ret_of (m := 108) Tryd.func38 rfl Tryd.ntmps38 [(0, str t)] rfl ⟨rfl, trivial⟩ fun a hF => ?_
  refine wp_seq ?_
  refine wp_region_lit ?_
  refine wl_v hF rfl rfl rfl (q_assign rfl (hF.eval rfl)) fun a hF => ?_
  refine wl_v hF rfl rfl rfl (q_assign rfl (hF.eval rfl)) fun a hF => ?_
  refine wl_nil ?_
  refine k_n ?_
  refine wp_seq ?_
  refine wp_region_lit ?_
  refine wl_e hF rfl rfl rfl (e_alloc hO Tryd.zeroValue70 rfl rfl) ?_
  rintro a _ w ⟨bb, rfl, hO⟩ hF
  have hO := hO.nilSl 5 1
  have hO := hO.pull 1 rfl
  refine wl_nil ?_
  refine k_n ?_
  refine wp_seq ?_
  refine wp_seq ?_
  refine wp_region_lit ?_
  refine wl_v hF rfl rfl rfl (q_assign rfl (hF.eval rfl)) fun a hF => ?_
  refine wl_nil ?_
  refine k_n ?_
  refine wp_block ?_
  have hO : St _ _ _ [_, _] := hO
  refine wp_loopS (fun (x : Nat × List UInt8 × Nat × Option Addr × Value) a w' => match x with | (f, out, i, o, bv) => (txtF t f out i = txtF t F [] 1 ∧ t.length < i + f ∧ 1 ≤ i ∧ i ≤ t.length ∧ out.length ≤ i ∧ (o = none ∨ o = some (adr bb))) ∧ St w0 [] w' [.ob bb 70 [.pointer o, bv], slT bv 5 byteE out] ∧ Fr a 108 [(0, str t), (4, ptr (adr bb)), (5, i64 i)]) (fun (x : Nat × List UInt8 × Nat × Option Addr × Value) => match x with | (f, out, i, o, bv) => f) (F, [], 1, none, _) ⟨⟨rfl, by omega, by omega, by omega, by simp, .inl rfl⟩, hO, hF.sub ⟨rfl, rfl, rfl, trivial⟩⟩ ?_
  rintro ⟨f, out, i, o, bv⟩ a w ⟨⟨hr, hf, hi1, hil, hol, ho⟩, hO, hF⟩
  refine wp_seq ?_
  refine wp_seq ?_
  refine wp_region_lit ?_
  refine wl_v hF rfl rfl rfl (q_move rfl (hF.eval rfl)) fun a hF => ?_
  refine wl_v hF rfl rfl rfl (q_move rfl (hF.eval rfl)) fun a hF => ?_
  refine wl_v hF rfl rfl rfl (q_len Tryd.underlying9 rfl (hF.eval rfl)) fun a hF => ?_
  refine wl_v hF rfl rfl rfl (q_lt rfl (hF.eval rfl) (hF.eval rfl)) fun a hF => ?_
  refine wl_nil ?_
  refine k_n ?_
  refine wp_ifD hF rfl rfl (fun hc1 => ?_) (fun hc1 => ?_)
  · skip
    refine wp_skip ?_
    refine k_n ?_
    refine wp_seq ?_
    refine wp_block ?_
    refine wp_seq ?_
    refine wp_region_lit ?_
    refine wl_v hF rfl rfl rfl (q_move rfl (hF.eval rfl)) fun a hF => ?_
    refine wl_v hF rfl rfl rfl (q_move rfl (hF.eval rfl)) fun a hF => ?_
    refine wl_v hF rfl rfl rfl (q_indexD (m := i) Tryd.underlying9 rfl (hF.eval rfl) (hF.eval rfl) (by omega)) fun a hF => ?_
    refine wl_v hF rfl rfl rfl (q_assign rfl (hF.eval rfl)) fun a hF => ?_
    refine wl_nil ?_
    refine k_n ?_
    refine wp_block ?_
    refine wp_seq ?_
    refine wp_region_lit ?_
    refine wl_v hF rfl rfl rfl (q_move rfl (hF.eval rfl)) fun a hF => ?_
    refine wl_v hF rfl rfl rfl (q_eq rfl (hF.eval rfl) (hF.eval rfl)) fun a hF => ?_
    refine wl_v hF rfl rfl rfl (q_assign rfl (hF.eval rfl)) fun a hF => ?_
    refine wl_nil ?_
    refine k_n ?_
    refine wp_ifD hF rfl rfl (fun hc2 => ?_) (fun hc2 => ?_)
    · skip
      refine wp_seq ?_
      refine wp_region_lit ?_
      refine wl_e hF rfl rfl rfl (c_call hF rfl rfl Tryd.call49 (bstr_r ho hO)) ?_
      rintro a _ w ⟨rfl, hO⟩ hF
      refine wl_v hF rfl rfl rfl (q_move rfl (hF.eval rfl)) fun a hF => ?_
      refine wl_v hF rfl rfl rfl (q_add rfl (hF.eval rfl) (hF.eval rfl) (by omega)) fun a hF => ?_
      refine wl_v hF rfl rfl rfl (q_assign rfl (hF.eval rfl)) fun a hF => ?_
      refine wl_v hF rfl rfl rfl (q_assign rfl (hF.eval rfl)) fun a hF => ?_
      refine wl_nil ?_
      refine k_n ?_
      refine wp_ret ?_
      refine b_r ?_
      refine b_r ?_
      refine k_r ?_
      refine k_r ?_
      refine b_r ?_
      refine k_r ?_
      refine r_2 hF rfl rfl rfl ?_
      have hO := hO.drop1 0
      have hO := hO.drop1 0
      have hO : St _ _ _ [] := hO
      obtain ⟨g, rfl⟩ : ∃ g, f = g + 1 := ⟨f - 1, by omega⟩
      refine ⟨?_, hO⟩
      rw [← hr, txt_quote (by omega) hc2]
      exact congrArg (fun x => Value.tuple #[str out, i64 x]) (show (i : Int) + 1 = ((i + 1 : Nat) : Int) by omega)
    · skip
      refine wp_seq ?_
      refine wp_region_lit ?_
      refine wl_v hF rfl rfl rfl (q_move rfl (hF.eval rfl)) fun a hF => ?_
      refine wl_v hF rfl rfl rfl (q_lt rfl (hF.eval rfl) (hF.eval rfl)) fun a hF => ?_
      refine wl_v hF rfl rfl rfl (q_move rfl (hF.eval rfl)) fun a hF => ?_
      refine wl_g hF rfl rfl rfl rfl rfl rfl (fun hg => q_move rfl (hF.eval rfl)) fun a hF => ?_
      refine wl_g hF rfl rfl rfl rfl rfl rfl (fun hg => q_gt rfl ((hF.eval rfl).trans (gv_of hg)) (hF.eval rfl)) fun a hF => ?_
      refine wl_v hF rfl rfl rfl (q_or rfl (hF.eval rfl) rfl (fun hg2 => ((hF.eval rfl).trans (gv_of hg2))) rfl) fun a hF => ?_
      refine wl_v hF rfl rfl rfl (q_assign rfl (hF.eval rfl)) fun a hF => ?_
      refine wl_nil ?_
      refine k_n ?_
      refine wp_ifD hF rfl rfl (fun hc3 => ?_) (fun hc3 => ?_)
      · skip
        refine wp_seq ?_
        refine wp_region_lit ?_
        refine wl_v hF rfl rfl rfl (q_assign rfl (hF.eval rfl)) fun a hF => ?_
        refine wl_v hF rfl rfl rfl (q_assign rfl (hF.eval rfl)) fun a hF => ?_
        refine wl_nil ?_
        refine k_n ?_
        refine wp_ret ?_
        refine b_r ?_
        refine b_r ?_
        refine k_r ?_
        refine k_r ?_
        refine b_r ?_
        refine k_r ?_
        refine r_2 hF rfl rfl rfl ?_
        have hO := hO.drop1 0
        have hO := hO.drop1 0
        have hO : St _ _ _ [] := hO
        obtain ⟨g, rfl⟩ : ∃ g, f = g + 1 := ⟨f - 1, by omega⟩
        refine ⟨?_, hO⟩
        rw [← hr, txt_bad (by omega) hc2 (by omega) hc3]
        rfl
      · skip
        refine wp_seq ?_
        refine wp_region_lit ?_
        refine wl_v hF rfl rfl rfl (q_move rfl (hF.eval rfl)) fun a hF => ?_
        refine wl_v hF rfl rfl rfl (q_ne rfl (hF.eval rfl) (hF.eval rfl)) fun a hF => ?_
        refine wl_v hF rfl rfl rfl (q_assign rfl (hF.eval rfl)) fun a hF => ?_
        refine wl_nil ?_
        refine k_n ?_
        refine wp_ifD hF rfl rfl (fun hc4 => ?_) (fun hc4 => ?_)
        · skip
          refine wp_region_lit ?_
          refine wl_v hF rfl rfl rfl (q_move rfl (hF.eval rfl)) fun a hF => ?_
          have hO := hO.pull 1 rfl
          have hO := hO.pull 1 rfl
          have hO : St _ _ _ [_, _] := hO
          refine wl_e hF rfl rfl rfl (c_call hF rfl rfl Tryd.call50 (wbyte_r _ _ _ _ _ (t.getD i 0) (by omega) ho hO.own2)) ?_
          rintro a _ w ⟨bv2, rfl, hS⟩ hF
          have hO := hO.call2 hS
          have hO : St _ _ _ [_, _] := hO
          refine wl_nil ?_
          refine b_n ?_
          refine b_n ?_
          refine k_n ?_
          refine wp_region_lit ?_
          refine wl_v hF rfl rfl rfl (q_move rfl (hF.eval rfl)) fun a hF => ?_
          refine wl_v hF rfl rfl rfl (q_add rfl (hF.eval rfl) (hF.eval rfl) (by omega)) fun a hF => ?_
          refine wl_v hF rfl rfl rfl (q_assign rfl (hF.eval rfl)) fun a hF => ?_
          refine wl_nil ?_
          refine k_n ?_
          have hO : St _ _ _ [_, _] := hO
          obtain ⟨g, rfl⟩ : ∃ g, f = g + 1 := ⟨f - 1, by omega⟩
          exact ⟨(g, out ++ [gt t i], i + 1, some (adr bb), bv2), ⟨⟨(txt_plain (by omega) hc2 (by omega) hc3).symm.trans hr, by omega, by omega, by omega, by rw [List.length_append, List.length_singleton]; omega, .inr rfl⟩, hO, hF.sub ⟨rfl, rfl, rfl, trivial⟩⟩, by dsimp only; omega⟩
        · skip
          refine wp_seq ?_
          refine wp_region_lit ?_
          refine wl_v hF rfl rfl rfl (q_move rfl (hF.eval rfl)) fun a hF => ?_
          refine wl_v hF rfl rfl rfl (q_add rfl (hF.eval rfl) (hF.eval rfl) (by omega)) fun a hF => ?_
          refine wl_v hF rfl rfl rfl (q_assign rfl (hF.eval rfl)) fun a hF => ?_
          refine wl_nil ?_
          refine k_n ?_
          refine wp_seq ?_
          refine wp_seq ?_
          refine wp_region_lit ?_
          refine wl_v hF rfl rfl rfl (q_move rfl (hF.eval rfl)) fun a hF => ?_
          refine wl_v hF rfl rfl rfl (q_move rfl (hF.eval rfl)) fun a hF => ?_
          refine wl_v hF rfl rfl rfl (q_len Tryd.underlying9 rfl (hF.eval rfl)) fun a hF => ?_
          refine wl_v hF rfl rfl rfl (q_eq rfl (hF.eval rfl) (hF.eval rfl)) fun a hF => ?_
          refine wl_nil ?_
          refine k_n ?_
          refine wp_ifD hF rfl rfl (fun hc5 => ?_) (fun hc5 => ?_)
          · skip
            refine wp_seq ?_
            refine wp_region_lit ?_
            refine wl_v hF rfl rfl rfl (q_assign rfl (hF.eval rfl)) fun a hF => ?_
            refine wl_v hF rfl rfl rfl (q_assign rfl (hF.eval rfl)) fun a hF => ?_
            refine wl_nil ?_
            refine k_n ?_
            refine wp_ret ?_
            refine k_r ?_
            refine b_r ?_
            refine b_r ?_
            refine k_r ?_
            refine k_r ?_
            refine b_r ?_
            refine k_r ?_
            refine r_2 hF rfl rfl rfl ?_
            have hO := hO.drop1 0
            have hO := hO.drop1 0
            have hO : St _ _ _ [] := hO
            obtain ⟨g, rfl⟩ : ∃ g, f = g + 1 := ⟨f - 1, by omega⟩
            refine ⟨?_, hO⟩
            rw [← hr, txt_not (by omega) hc2 hc4 (fun h => by have := h.1; omega) (.inl (by omega))]
            rfl
          · skip
            refine wp_skip ?_
            refine k_n ?_
            refine wp_seq ?_
            refine wp_region_lit ?_
            refine wl_v hF rfl rfl rfl (q_move rfl (hF.eval rfl)) fun a hF => ?_
            refine wl_v hF rfl rfl rfl (q_assign rfl (hF.eval rfl)) fun a hF => ?_
            refine wl_nil ?_
            refine k_n ?_
            refine wp_seq ?_
            refine wp_block ?_
            have hO : St _ _ _ [_, _] := hO
            refine wp_loopS (fun (k : Nat) a w' => (k ≤ ((t.drop (i + 1)).takeWhile digitB).length) ∧ St w0 [] w' [.ob bb 70 [.pointer o, bv], slT bv 5 byteE out] ∧ Fr a 108 [(0, str t), (4, ptr (adr bb)), (5, i64 ((i + 1 : Nat) : Int)), (7, i64 ((i + 1 + k : Nat) : Int))]) (fun (k : Nat) => ((t.drop (i + 1)).takeWhile digitB).length - k) 0 ⟨by omega, hO, hF.sub ⟨rfl, rfl, rfl, rfl, trivial⟩⟩ ?_
            rintro k a w ⟨hk, hO, hF⟩
            have hDl : ((t.drop (i + 1)).takeWhile digitB).length ≤ t.length - (i + 1) := Nat.le_trans (tw_le _ _) (by rw [drop_len]; exact Nat.le_refl _)
            refine wp_seq ?_
            refine wp_seq ?_
            refine wp_region_lit ?_
            refine wl_v hF rfl rfl rfl (q_move rfl (hF.eval rfl)) fun a hF => ?_
            refine wl_v hF rfl rfl rfl (q_move rfl (hF.eval rfl)) fun a hF => ?_
            refine wl_v hF rfl rfl rfl (q_len Tryd.underlying9 rfl (hF.eval rfl)) fun a hF => ?_
            refine wl_v hF rfl rfl rfl (q_lt rfl (hF.eval rfl) (hF.eval rfl)) fun a hF => ?_
            refine wl_v hF rfl rfl rfl (q_move rfl (hF.eval rfl)) fun a hF => ?_
            refine wl_g hF rfl rfl rfl rfl rfl rfl (fun hg => q_move rfl (hF.eval rfl)) fun a hF => ?_
            refine wl_g hF rfl rfl rfl rfl rfl rfl (fun hg => q_move rfl (hF.eval rfl)) fun a hF => ?_
            refine wl_g hF rfl rfl rfl rfl rfl rfl (fun hg => q_indexD (m := i + 1 + k) Tryd.underlying9 rfl ((hF.eval rfl).trans (gv_of hg)) ((hF.eval rfl).trans (gv_of hg)) (by have := of_g hg; omega)) fun a hF => ?_
            refine wl_gk hO hF rfl rfl rfl rfl rfl rfl (fun hg => c_callG hF rfl rfl (by first | with_reducible rfl | (simp only [gv_of hg]; done) | (simp only [gv_of hg]; rfl)) Tryd.call32 (pdigit_r _ _)) fun a w hO hF => ?_
            refine wl_v hF rfl rfl rfl (q_and rfl (hF.eval rfl) rfl (fun hg2 => ((hF.eval rfl).trans (gv_of hg2))) (dec_b _)) fun a hF => ?_
            refine wl_nil ?_
            refine k_n ?_
            refine wp_ifD hF rfl rfl (fun hc6 => ?_) (fun hc6 => ?_)
            · skip
              refine wp_skip ?_
              refine k_n ?_
              refine wp_block ?_
              refine wp_region_lit ?_
              refine wl_v hF rfl rfl rfl (q_move rfl (hF.eval rfl)) fun a hF => ?_
              refine wl_v hF rfl rfl rfl (q_add rfl (hF.eval rfl) (hF.eval rfl) (by omega)) fun a hF => ?_
              refine wl_v hF rfl rfl rfl (q_assign rfl (hF.eval rfl)) fun a hF => ?_
              refine wl_nil ?_
              refine b_n ?_
              refine k_n ?_
              have hO : St _ _ _ [_, _] := hO
              exact ⟨k + 1, ⟨dig_on hk hc6, hO, hF.sub ⟨rfl, rfl, rfl, rfl, trivial⟩⟩, by have := dig_on hk hc6; omega⟩
            · skip
              have hnd := dig_off hc6
              have hkD : ((t.drop (i + 1)).takeWhile digitB).length = k := tw_stop (by omega) hnd
              have hDe := take_tw (i := i) hkD
              have hDn : 0 < k → ((t.drop (i + 1)).takeWhile digitB) ≠ [] := fun h e => by rw [e] at hkD; simp at hkD; omega
              refine wp_exit ?_
              refine k_x ?_
              refine k_x ?_
              refine b_x ?_
              refine k_n ?_
              refine wp_seq ?_
              refine wp_region_lit ?_
              refine wl_v hF rfl rfl rfl (q_move rfl (hF.eval rfl)) fun a hF => ?_
              refine wl_v hF rfl rfl rfl (q_move rfl (hF.eval rfl)) fun a hF => ?_
              refine wl_v hF rfl rfl rfl (q_move rfl (hF.eval rfl)) fun a hF => ?_
              refine wl_v hF rfl rfl rfl (q_cut (i := (i + 1)) (j := (i + 1 + k)) Tryd.underlying9 rfl (hF.eval rfl) (hF.eval rfl) (hF.eval rfl) (by omega) (by omega)) fun a hF => ?_
              rw [hDe] at hF
              refine wl_e hF rfl rfl rfl (c_call hF rfl rfl Tryd.call51 (parseUint_r _ _ (by omega) (fun c hc => tw_dig c hc) (hG.at0 hO))) ?_
              rintro a _ w ⟨n, er, rfl, hpu, hS⟩ hF
              have hO := hO.call0 hS
              have hO : St _ _ _ [_, _] := hO
              refine wl_v hF rfl rfl rfl (q_move rfl (hF.eval rfl)) fun a hF => ?_
              refine wl_v hF rfl rfl rfl (q_extract rfl (hF.eval rfl) rfl) fun a hF => ?_
              refine wl_v hF rfl rfl rfl (q_extract rfl (hF.eval rfl) rfl) fun a hF => ?_
              refine wl_v hF rfl rfl rfl (q_assign rfl (hF.eval rfl)) fun a hF => ?_
              refine wl_v hF rfl rfl rfl (q_assign rfl (hF.eval rfl)) fun a hF => ?_
              refine wl_nil ?_
              refine k_n ?_
              refine wp_block ?_
              refine wp_seq ?_
              refine wp_region_lit ?_
              refine wl_v hF rfl rfl rfl (q_move rfl (hF.eval rfl)) fun a hF => ?_
              refine wl_v hF rfl rfl rfl (q_move rfl (hF.eval rfl)) fun a hF => ?_
              refine wl_v hF rfl rfl rfl (q_gt rfl (hF.eval rfl) (hF.eval rfl)) fun a hF => ?_
              refine wl_v hF rfl rfl rfl (q_move rfl (hF.eval rfl)) fun a hF => ?_
              refine wl_g hF rfl rfl rfl rfl rfl rfl (fun hg => q_move rfl (hF.eval rfl)) fun a hF => ?_
              refine wl_g hF rfl rfl rfl rfl rfl rfl (fun hg => q_errne Tryd.underlying59 rfl ((hF.eval rfl).trans (gv_of hg))) fun a hF => ?_
              refine wl_v hF rfl rfl rfl (q_and rfl (hF.eval rfl) rfl (fun hg2 => ((hF.eval rfl).trans (gv_of hg2))) (dec_b _)) fun a hF => ?_
              refine wl_v hF rfl rfl rfl (q_assign rfl (hF.eval rfl)) fun a hF => ?_
              refine wl_nil ?_
              refine k_n ?_
              refine wp_ifD hF rfl rfl (fun hc7 => ?_) (fun hc7 => ?_)
              · skip
                refine wp_seq ?_
                refine wp_region_lit ?_
                refine wl_v hF rfl rfl rfl (q_assign rfl (hF.eval rfl)) fun a hF => ?_
                refine wl_v hF rfl rfl rfl (q_assign rfl (hF.eval rfl)) fun a hF => ?_
                refine wl_nil ?_
                refine k_n ?_
                refine wp_ret ?_
                refine b_r ?_
                refine b_r ?_
                refine b_r ?_
                refine k_r ?_
                refine k_r ?_
                refine b_r ?_
                refine k_r ?_
                refine r_2 hF rfl rfl rfl ?_
                have hO := hO.drop1 0
                have hO := hO.drop1 0
                have hO : St _ _ _ [] := hO
                obtain ⟨g, rfl⟩ : ∃ g, f = g + 1 := ⟨f - 1, by omega⟩
                refine ⟨?_, hO⟩
                have hbig : 255 < capF ((t.drop (i + 1)).takeWhile digitB) 0 := by rcases hpu (hDn (by omega)) with ⟨_, _, a3⟩ | ⟨a1, _⟩; rw [a3] at hc7; exact absurd hc7.2 (by simp); exact a1
                rw [← hr, txt_big (by omega) hc2 hc4 (yes_dig hkD (by omega)) (dec_val (by omega)) (by omega)]
                rfl
              · skip
                refine wp_seq ?_
                refine wp_region_lit ?_
                refine wl_v hF rfl rfl rfl (q_move rfl (hF.eval rfl)) fun a hF => ?_
                refine wl_v hF rfl rfl rfl (q_move rfl (hF.eval rfl)) fun a hF => ?_
                refine wl_v hF rfl rfl rfl (q_gt rfl (hF.eval rfl) (hF.eval rfl)) fun a hF => ?_
                refine wl_v hF rfl rfl rfl (q_assign rfl (hF.eval rfl)) fun a hF => ?_
                refine wl_nil ?_
                refine k_n ?_
                refine wp_ifD hF rfl rfl (fun hc8 => ?_) (fun hc8 => ?_)
                · skip
                  obtain ⟨hn1, hn3⟩ : n = capF ((t.drop (i + 1)).takeWhile digitB) 0 ∧ n ≤ 255 := by rcases hpu (hDn (by omega)) with ⟨a1, a2, _⟩ | ⟨_, a2⟩; exact ⟨a1, a2⟩; exact absurd ⟨hc8, a2⟩ hc7
                  refine wp_seq ?_
                  refine wp_region_lit ?_
                  refine wl_v hF rfl rfl rfl (q_move rfl (hF.eval rfl)) fun a hF => ?_
                  refine wl_v hF rfl rfl rfl (q_conv Tryd.underlying73 Tryd.underlying5 rfl (hF.eval rfl) (wrap_ofNat hn3)) fun a hF => ?_
                  have hO := hO.pull 1 rfl
                  have hO := hO.pull 1 rfl
                  have hO : St _ _ _ [_, _] := hO
                  refine wl_e hF rfl rfl rfl (c_call hF rfl rfl Tryd.call50 (wbyte_r _ _ _ _ _ (UInt8.ofNat n) (by omega) ho hO.own2)) ?_
                  rintro a _ w ⟨bv2, rfl, hS⟩ hF
                  have hO := hO.call2 hS
                  have hO : St _ _ _ [_, _] := hO
                  refine wl_nil ?_
                  refine k_n ?_
                  refine wp_region_lit ?_
                  refine wl_v hF rfl rfl rfl (q_move rfl (hF.eval rfl)) fun a hF => ?_
                  refine wl_v hF rfl rfl rfl (q_sub rfl (hF.eval rfl) (hF.eval rfl) (by omega)) fun a hF => ?_
                  refine wl_v hF rfl rfl rfl (q_assign rfl (hF.eval rfl)) fun a hF => ?_
                  refine wl_nil ?_
                  refine b_n ?_
                  refine b_n ?_
                  refine b_n ?_
                  refine k_n ?_
                  refine wp_region_lit ?_
                  refine wl_v hF rfl rfl rfl (q_move rfl (hF.eval rfl)) fun a hF => ?_
                  refine wl_v hF rfl rfl rfl (q_add rfl (hF.eval rfl) (hF.eval rfl) (by omega)) fun a hF => ?_
                  refine wl_v hF rfl rfl rfl (q_assign rfl (hF.eval rfl)) fun a hF => ?_
                  refine wl_nil ?_
                  refine k_n ?_
                  have hO : St _ _ _ [_, _] := hO
                  obtain ⟨g, rfl⟩ : ∃ g, f = g + 1 := ⟨f - 1, by omega⟩
                  exact ⟨(g, out ++ [UInt8.ofNat n], i + 1 + k, some (adr bb), bv2), ⟨⟨(txt_dec (by omega) hc2 hc4 (yes_dig hkD (by omega)) (by rw [dec_val (by omega), hkD, ← hn1]) hn3).symm.trans hr, by omega, by omega, by omega, by rw [List.length_append, List.length_singleton]; omega, .inr rfl⟩, hO, hF.sub ⟨rfl, rfl, (congrArg some (congrArg i64 (ik i k))), trivial⟩⟩, by dsimp only; omega⟩
                · skip
                  have hn5 : ¬ ((i : Int) + 1 < t.length ∧ digitB (t.getD (i + 1) 0) = true) := no_dig hkD hc8
                  refine wp_seq ?_
                  refine wp_region_lit ?_
                  refine wl_v hF rfl rfl rfl (q_move rfl (hF.eval rfl)) fun a hF => ?_
                  refine wl_v hF rfl rfl rfl (q_move rfl (hF.eval rfl)) fun a hF => ?_
                  refine wl_v hF rfl rfl rfl (q_indexD (m := i + 1) Tryd.underlying9 rfl (hF.eval rfl) (hF.eval rfl) (by omega)) fun a hF => ?_
                  refine wl_v hF rfl rfl rfl (q_eq rfl (hF.eval rfl) (hF.eval rfl)) fun a hF => ?_
                  refine wl_v hF rfl rfl rfl (q_assign rfl (hF.eval rfl)) fun a hF => ?_
                  refine wl_nil ?_
                  refine k_n ?_
                  refine wp_ifD hF rfl rfl (fun hc9 => ?_) (fun hc9 => ?_)
                  · skip
                    refine wp_region_lit ?_
                    have hO := hO.pull 1 rfl
                    have hO := hO.pull 1 rfl
                    have hO : St _ _ _ [_, _] := hO
                    refine wl_e hF rfl rfl rfl (c_call hF rfl rfl Tryd.call50 (wbyte_r _ _ _ _ _ 10 (by omega) ho hO.own2)) ?_
                    rintro a _ w ⟨bv2, rfl, hS⟩ hF
                    have hO := hO.call2 hS
                    have hO : St _ _ _ [_, _] := hO
                    refine wl_nil ?_
                    refine b_n ?_
                    refine b_n ?_
                    refine b_n ?_
                    refine k_n ?_
                    refine wp_region_lit ?_
                    refine wl_v hF rfl rfl rfl (q_move rfl (hF.eval rfl)) fun a hF => ?_
                    refine wl_v hF rfl rfl rfl (q_add rfl (hF.eval rfl) (hF.eval rfl) (by omega)) fun a hF => ?_
                    refine wl_v hF rfl rfl rfl (q_assign rfl (hF.eval rfl)) fun a hF => ?_
                    refine wl_nil ?_
                    refine k_n ?_
                    have hO : St _ _ _ [_, _] := hO
                    obtain ⟨g, rfl⟩ : ∃ g, f = g + 1 := ⟨f - 1, by omega⟩
                    exact ⟨(g, out ++ [10], i + 2, some (adr bb), bv2), ⟨⟨(txt_esc (c := 10) (by omega) hc2 hc4 hn5 (esc_in (by omega) (.inl hc9)) (esc_n hc9)).symm.trans hr, by omega, by omega, by omega, by rw [List.length_append, List.length_singleton]; omega, .inr rfl⟩, hO, hF.sub ⟨rfl, rfl, rfl, trivial⟩⟩, by dsimp only; omega⟩
                  · skip
                    refine wp_seq ?_
                    refine wp_region_lit ?_
                    refine wl_v hF rfl rfl rfl (q_move rfl (hF.eval rfl)) fun a hF => ?_
                    refine wl_v hF rfl rfl rfl (q_move rfl (hF.eval rfl)) fun a hF => ?_
                    refine wl_v hF rfl rfl rfl (q_indexD (m := i + 1) Tryd.underlying9 rfl (hF.eval rfl) (hF.eval rfl) (by omega)) fun a hF => ?_
                    refine wl_v hF rfl rfl rfl (q_eq rfl (hF.eval rfl) (hF.eval rfl)) fun a hF => ?_
                    refine wl_v hF rfl rfl rfl (q_assign rfl (hF.eval rfl)) fun a hF => ?_
                    refine wl_nil ?_
                    refine k_n ?_
                    refine wp_ifD hF rfl rfl (fun hc10 => ?_) (fun hc10 => ?_)
                    · skip
                      refine wp_region_lit ?_
                      have hO := hO.pull 1 rfl
                      have hO := hO.pull 1 rfl
                      have hO : St _ _ _ [_, _] := hO
                      refine wl_e hF rfl rfl rfl (c_call hF rfl rfl Tryd.call50 (wbyte_r _ _ _ _ _ 9 (by omega) ho hO.own2)) ?_
                      rintro a _ w ⟨bv2, rfl, hS⟩ hF
                      have hO := hO.call2 hS
                      have hO : St _ _ _ [_, _] := hO
                      refine wl_nil ?_
                      refine b_n ?_
                      refine b_n ?_
                      refine b_n ?_
                      refine k_n ?_
                      refine wp_region_lit ?_
                      refine wl_v hF rfl rfl rfl (q_move rfl (hF.eval rfl)) fun a hF => ?_
                      refine wl_v hF rfl rfl rfl (q_add rfl (hF.eval rfl) (hF.eval rfl) (by omega)) fun a hF => ?_
                      refine wl_v hF rfl rfl rfl (q_assign rfl (hF.eval rfl)) fun a hF => ?_
                      refine wl_nil ?_
                      refine k_n ?_
                      have hO : St _ _ _ [_, _] := hO
                      obtain ⟨g, rfl⟩ : ∃ g, f = g + 1 := ⟨f - 1, by omega⟩
                      exact ⟨(g, out ++ [9], i + 2, some (adr bb), bv2), ⟨⟨(txt_esc (c := 9) (by omega) hc2 hc4 hn5 (esc_in (by omega) (.inr (.inl hc10))) (esc_t hc9 hc10)).symm.trans hr, by omega, by omega, by omega, by rw [List.length_append, List.length_singleton]; omega, .inr rfl⟩, hO, hF.sub ⟨rfl, rfl, rfl, trivial⟩⟩, by dsimp only; omega⟩
                    · skip
                      refine wp_seq ?_
                      refine wp_region_lit ?_
                      refine wl_v hF rfl rfl rfl (q_move rfl (hF.eval rfl)) fun a hF => ?_
                      refine wl_v hF rfl rfl rfl (q_move rfl (hF.eval rfl)) fun a hF => ?_
                      refine wl_v hF rfl rfl rfl (q_indexD (m := i + 1) Tryd.underlying9 rfl (hF.eval rfl) (hF.eval rfl) (by omega)) fun a hF => ?_
                      refine wl_v hF rfl rfl rfl (q_eq rfl (hF.eval rfl) (hF.eval rfl)) fun a hF => ?_
                      refine wl_v hF rfl rfl rfl (q_move rfl (hF.eval rfl)) fun a hF => ?_
                      refine wl_g hF rfl rfl rfl rfl rfl rfl (fun hg => q_move rfl (hF.eval rfl)) fun a hF => ?_
                      refine wl_g hF rfl rfl rfl rfl rfl rfl (fun hg => q_move rfl (hF.eval rfl)) fun a hF => ?_
                      refine wl_g hF rfl rfl rfl rfl rfl rfl (fun hg => q_indexD (m := i + 1) Tryd.underlying9 rfl ((hF.eval rfl).trans (gv_of hg)) ((hF.eval rfl).trans (gv_of hg)) (by omega)) fun a hF => ?_
                      refine wl_g hF rfl rfl rfl rfl rfl rfl (fun hg => q_eq rfl ((hF.eval rfl).trans (gv_of hg)) (hF.eval rfl)) fun a hF => ?_
                      refine wl_v hF rfl rfl rfl (q_or rfl (hF.eval rfl) rfl (fun hg2 => ((hF.eval rfl).trans (gv_of hg2))) rfl) fun a hF => ?_
                      refine wl_v hF rfl rfl rfl (q_assign rfl (hF.eval rfl)) fun a hF => ?_
                      refine wl_nil ?_
                      refine k_n ?_
                      refine wp_ifD hF rfl rfl (fun hc11 => ?_) (fun hc11 => ?_)
                      · skip
                        refine wp_region_lit ?_
                        refine wl_v hF rfl rfl rfl (q_move rfl (hF.eval rfl)) fun a hF => ?_
                        refine wl_v hF rfl rfl rfl (q_move rfl (hF.eval rfl)) fun a hF => ?_
                        refine wl_v hF rfl rfl rfl (q_indexD (m := i + 1) Tryd.underlying9 rfl (hF.eval rfl) (hF.eval rfl) (by omega)) fun a hF => ?_
                        have hO := hO.pull 1 rfl
                        have hO := hO.pull 1 rfl
                        have hO : St _ _ _ [_, _] := hO
                        refine wl_e hF rfl rfl rfl (c_call hF rfl rfl Tryd.call50 (wbyte_r _ _ _ _ _ (t.getD (i + 1) 0) (by omega) ho hO.own2)) ?_
                        rintro a _ w ⟨bv2, rfl, hS⟩ hF
                        have hO := hO.call2 hS
                        have hO : St _ _ _ [_, _] := hO
                        refine wl_nil ?_
                        refine b_n ?_
                        refine b_n ?_
                        refine b_n ?_
                        refine k_n ?_
                        refine wp_region_lit ?_
                        refine wl_v hF rfl rfl rfl (q_move rfl (hF.eval rfl)) fun a hF => ?_
                        refine wl_v hF rfl rfl rfl (q_add rfl (hF.eval rfl) (hF.eval rfl) (by omega)) fun a hF => ?_
                        refine wl_v hF rfl rfl rfl (q_assign rfl (hF.eval rfl)) fun a hF => ?_
                        refine wl_nil ?_
                        refine k_n ?_
                        have hO : St _ _ _ [_, _] := hO
                        obtain ⟨g, rfl⟩ : ∃ g, f = g + 1 := ⟨f - 1, by omega⟩
                        exact ⟨(g, out ++ [gt t (i + 1)], i + 2, some (adr bb), bv2), ⟨⟨(txt_esc (by omega) hc2 hc4 hn5 (esc_in (by omega) (.inr (.inr hc11))) (esc_o hc9 hc10)).symm.trans hr, by omega, by omega, by omega, by rw [List.length_append, List.length_singleton]; omega, .inr rfl⟩, hO, hF.sub ⟨rfl, rfl, rfl, trivial⟩⟩, by dsimp only; omega⟩
                      · skip
                        refine wp_seq ?_
                        refine wp_region_lit ?_
                        refine wl_v hF rfl rfl rfl (q_assign rfl (hF.eval rfl)) fun a hF => ?_
                        refine wl_v hF rfl rfl rfl (q_assign rfl (hF.eval rfl)) fun a hF => ?_
                        refine wl_nil ?_
                        refine k_n ?_
                        refine wp_ret ?_
                        refine b_r ?_
                        refine b_r ?_
                        refine b_r ?_
                        refine k_r ?_
                        refine k_r ?_
                        refine b_r ?_
                        refine k_r ?_
                        refine r_2 hF rfl rfl rfl ?_
                        have hO := hO.drop1 0
                        have hO := hO.drop1 0
                        have hO : St _ _ _ [] := hO
                        obtain ⟨g, rfl⟩ : ∃ g, f = g + 1 := ⟨f - 1, by omega⟩
                        refine ⟨?_, hO⟩
                        rw [← hr, txt_not (by omega) hc2 hc4 hn5 (esc_out hc9 hc10 hc11)]
                        rfl
  · skip
    refine wp_exit ?_
    refine k_x ?_
    refine k_x ?_
    refine b_x ?_
    refine k_n ?_
    refine wp_seq ?_
    refine wp_region_lit ?_
    refine wl_v hF rfl rfl rfl (q_assign rfl (hF.eval rfl)) fun a hF => ?_
    refine wl_v hF rfl rfl rfl (q_assign rfl (hF.eval rfl)) fun a hF => ?_
    refine wl_nil ?_
    refine k_n ?_
    refine wp_ret ?_
    refine r_2 hF rfl rfl rfl ?_
    have hO := hO.drop1 0
    have hO := hO.drop1 0
    have hO : St _ _ _ [] := hO
    refine ⟨?_, hO⟩
    rw [← hr, txt_none hc1]
    rfl

end Go.Proofs.YtanpeofnlihhoaaDoor
