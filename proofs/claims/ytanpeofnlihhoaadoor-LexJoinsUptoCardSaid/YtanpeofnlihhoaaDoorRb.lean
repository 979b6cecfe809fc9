import Derived.Test.YtanpeofnlihhoaaDoorRa
import Derived.Test.YtanpeofnlihhoaaDoorPl1
import Derived.Test.YtanpeofnlihhoaaDoorGw8
namespace Go.Proofs.YtanpeofnlihhoaaDoor
open Go
set_option maxRecDepth 100000


theorem rowF_le (s : List UInt8) (i k : Nat) : rowF s i k ≤ s.length - i := by
  unfold rowF
  have := (List.takeWhile_sublist (goesB k) (l := s.drop i)).length_le
  simpa using this
theorem tw_yes (p : UInt8 → Bool) : ∀ (l : List UInt8) (k : Nat), k ≤ (l.takeWhile p).length → k < l.length → p (l.getD k 0) = true → k + 1 ≤ (l.takeWhile p).length
  | [], k, _, h, _ => by simp at h
  | c :: l, 0, _, _, h => by
    have : p c = true := by simpa using h
    simp [this]
  | c :: l, k + 1, hk, hl, h => by
    by_cases hc : p c = true
    · simp only [List.takeWhile_cons, hc, if_true, List.length_cons] at hk ⊢
      have := tw_yes p l k (by omega) (by simpa using hl) (by simpa using h)
      omega
    · simp [hc] at hk
theorem tw_no (p : UInt8 → Bool) : ∀ (l : List UInt8) (k : Nat), k ≤ (l.takeWhile p).length → (l.length ≤ k ∨ p (l.getD k 0) = false) → (l.takeWhile p).length = k
  | [], k, hk, _ => by simp at hk ⊢; omega
  | c :: l, 0, _, h => by
    rcases h with h | h
    · simp at h
    · have : p c = false := by simpa using h
      simp [this]
  | c :: l, k + 1, hk, h => by
    by_cases hc : p c = true
    · simp only [List.takeWhile_cons, hc, if_true, List.length_cons] at hk ⊢
      have := tw_no p l k (by omega) (by
        rcases h with h | h
        · simp at h; exact .inl h
        · exact .inr (by simpa using h))
      omega
    · simp [hc] at hk
theorem drop_getD (s : List UInt8) (i k : Nat) : (s.drop i).getD k 0 = s.getD (i + k) 0 := by simp [List.getD_eq_getElem?_getD]
theorem row_yes {s : List UInt8} {i kd k : Nat} (hk : k ≤ rowF s i kd) (hl : i + k < s.length) (h : goesB kd (s.getD (i + k) 0) = true) : k + 1 ≤ rowF s i kd :=
  tw_yes _ _ _ hk (by simp; omega) (by rw [drop_getD]; exact h)
theorem row_no {s : List UInt8} {i kd k : Nat} (_ha : i ≤ s.length) (hk : k ≤ rowF s i kd) (h : ¬ ((i : Int) + k < s.length ∧ goesB kd (s.getD (i + k) 0) = true)) : rowF s i kd = k :=
  tw_no _ _ _ hk (by
    by_cases hl : i + k < s.length
    · right
      rw [drop_getD]
      cases hg : goesB kd (s.getD (i + k) 0) with
      | false => rfl
      | true => exact absurd ⟨by omega, hg⟩ h
    · left; simp; omega)
theorem two_eq {s : List UInt8} {i : Nat} (h : i + 1 < s.length) (a b : UInt8) : ((s.take (i + 2)).drop i = [a, b]) ↔ (gt s i = a ∧ gt s (i + 1) = b) := by
  have e : (s.take (i + 2)).drop i = [gt s i, gt s (i + 1)] := by
    apply List.ext_getElem?
    intro j
    rw [List.getElem?_drop, List.getElem?_take]
    match j with
    | 0 => simp [gt, List.getElem?_eq_getElem (show i < s.length by omega)]
    | 1 => simp [gt, List.getElem?_eq_getElem h]
    | j + 2 => simp; omega
  rw [e]; simp
section
variable {s : List UInt8} {at_ g i : Nat} {d : Int}
theorem rem_none (h : ¬ ((i : Int) + 1 < s.length)) {f : Nat} : remF s at_ f d i = none := by
  cases f with
  | zero => rfl
  | succ f => unfold remF; rw [if_neg (by omega)]
theorem rem_open (h : i + 1 < s.length) (h2 : (s.take (i + 2)).drop i = [123, 45]) : remF s at_ (g + 1) d i = remF s at_ g (d + 1) (i + 2) := by
  rw [two_eq h] at h2
  rw [remF, if_pos h, if_pos h2]
theorem rem_on (h : i + 1 < s.length) (h2 : ¬ (s.take (i + 2)).drop i = [123, 45]) (h3 : ¬ (s.take (i + 2)).drop i = [45, 125]) : remF s at_ (g + 1) d i = remF s at_ g d (i + 1) := by
  rw [two_eq h] at h2 h3
  rw [remF, if_pos h, if_neg h2, if_neg h3]
theorem rem_shut (h : i + 1 < s.length) (h2 : ¬ (s.take (i + 2)).drop i = [123, 45]) (h3 : (s.take (i + 2)).drop i = [45, 125]) (h4 : ¬ d - 1 = 0) : remF s at_ (g + 1) d i = remF s at_ g (d - 1) (i + 2) := by
  rw [two_eq h] at h2 h3
  rw [remF, if_pos h, if_neg h2, if_pos h3, if_neg h4]
theorem rem_end (h : i + 1 < s.length) (h2 : ¬ (s.take (i + 2)).drop i = [123, 45]) (h3 : (s.take (i + 2)).drop i = [45, 125]) (h4 : d - 1 = 0) : remF s at_ (g + 1) d i = some (i + 2 - at_) := by
  rw [two_eq h] at h2 h3
  rw [remF, if_pos h, if_neg h2, if_pos h3, if_pos h4]
end
theorem bad_r (w0 : World) (br : Nat) (s : List UInt8) (at_ : Nat) (hA : Owns w0 [.ob br 44 (rdr s at_)]) (e : Int) : Ret Tryd.prog 17 #[ptr (adr br), i64 e] w0 (fun v w' => v = .tuple #[.slice none 0 0, .agg (diagCells ⟨[], (posF s at_).1, (posF s at_).2, e⟩).toArray] ∧ St w0 [br] w' [.ob br 44 (rdr s at_)]) := by
  have hO := St.init hA
  refine ret_of (m := 16) Tryd.func17 rfl Tryd.ntmps17 [(0, ptr (adr br)), (1, i64 e)] rfl ⟨rfl, rfl, trivial⟩ fun a hF => ?_
  refine wp_seq ?_
  refine wp_region_lit ?_
  refine wl_v hF rfl rfl rfl (q_assign rfl (hF.eval rfl)) fun a hF => ?_
  refine wl_e hF rfl rfl rfl (e_alloc hO Tryd.zeroValue25 rfl rfl) ?_
  rintro a _ w ⟨b1, rfl, hO⟩ hF
  refine wl_nil ?_
  refine k_n ?_
  refine wp_seq ?_
  have hO := hO.drew
  refine wp_region_D [0, 0, 0, 1, 0, 0, 0, 1, 0, 0, 0, 3] (fun w => St _ _ w _) Tryd_mixed (by kernel_rfl) hO ?_
  refine wd_p hF rfl rfl rfl (fun w => q_move rfl (hF.eval rfl)) fun a hF => ?_
  refine wd_p hF rfl rfl rfl (fun w => q_nilCheck rfl (hF.eval rfl)) fun a hF => ?_
  refine wd_p hF rfl rfl rfl (fun w => q_fieldAddr0 (d := 2) Tryd.underlying44 rfl (hF.eval rfl) rfl Tryd.sizeOf3 (by decide) rfl) fun a hF => ?_
  refine wd_r hF rfl rfl rfl (fun w hO => q_load Tryd.isAgg3 rfl (hF.eval rfl) (hO.cell 1 rfl rfl)) fun a hF => ?_
  refine wd_p hF rfl rfl rfl (fun w => q_move rfl (hF.eval rfl)) fun a hF => ?_
  refine wd_p hF rfl rfl rfl (fun w => q_nilCheck rfl (hF.eval rfl)) fun a hF => ?_
  refine wd_p hF rfl rfl rfl (fun w => q_fieldAddr0 (d := 3) Tryd.underlying44 rfl (hF.eval rfl) rfl Tryd.sizeOf3 (by decide) rfl) fun a hF => ?_
  refine wd_r hF rfl rfl rfl (fun w hO => q_load Tryd.isAgg3 rfl (hF.eval rfl) (hO.cell 1 rfl rfl)) fun a hF => ?_
  refine wd_p hF rfl rfl rfl (fun w => q_move rfl (hF.eval rfl)) fun a hF => ?_
  refine wd_p hF rfl rfl rfl (fun w => c_build hF Tryd.underlying25 Tryd.zeroValue25 Tryd_places25 rfl rfl rfl rfl) fun a hF => ?_
  refine wd_p hF rfl rfl rfl (fun w => q_assign rfl (hF.eval rfl)) fun a hF => ?_
  refine wd_s hF rfl rfl (e_storeAll hO (i := 0) rfl Tryd.sizeOf25 rfl (hF.eval rfl) (hF.eval rfl) rfl rfl) ?_
  rintro a _ w ⟨-, hO⟩ hF
  have hO : St _ _ _ [_, _] := hO
  refine wd_nil ?_
  refine k_n ?_
  refine wp_ret ?_
  refine r_tc hF rfl rfl rfl Tryd.isAgg25 Tryd.sizeOf25 (hO.cells 0 rfl) rfl ?_
  exact ⟨rfl, hO.tail⟩

theorem row_r (w0 : World) (br : Nat) (s : List UInt8) (at_ kind : Nat) (hA : Owns w0 [.ob br 44 (rdr s at_)]) (hs : s.length ≤ 16384) (ha : at_ ≤ s.length) : Ret Tryd.prog 19 #[ptr (adr br), i64 kind] w0 (fun v w' => v = i64 (rowF s at_ kind) ∧ St w0 [br] w' [.ob br 44 (rdr s at_)]) := by
  have hO := St.init hA
  refine ret_of (m := 36) Tryd.func19 rfl Tryd.ntmps19 [(0, ptr (adr br)), (1, i64 kind)] rfl ⟨rfl, rfl, trivial⟩ fun a hF => ?_
  refine wp_seq ?_
  refine wp_region_lit ?_
  refine wl_v hF rfl rfl rfl (q_assign rfl (hF.eval rfl)) fun a hF => ?_
  refine wl_nil ?_
  refine k_n ?_
  refine wp_seq ?_
  refine wp_region_lit ?_
  refine wl_v hF rfl rfl rfl (q_assign rfl (hF.eval rfl)) fun a hF => ?_
  refine wl_nil ?_
  refine k_n ?_
  refine wp_seq ?_
  refine wp_block ?_
  have hO : St _ _ _ [_] := hO
  refine wp_loopS (fun (k : Nat) a w' => (k ≤ rowF s at_ kind) ∧ St w0 [br] w' [.ob br 44 (rdr s at_)] ∧ Fr a 36 [(0, ptr (adr br)), (1, i64 kind), (5, i64 k)]) (fun (k : Nat) => rowF s at_ kind - k) 0 ⟨by omega, hO, hF.sub ⟨rfl, rfl, rfl, trivial⟩⟩ ?_
  rintro k a w ⟨hk, hO, hF⟩
  have hrl := rowF_le s at_ kind
  refine wp_seq ?_
  refine wp_seq ?_
  have hO := hO.drew
  refine wp_region_D [0, 0, 0, 1, 0, 0, 0, 0, 0, 1, 0, 0, 0, 0, 0, 0, 0, 1, 0, 0, 0, 1, 0, 0, 0, 3, 0] (fun w => St _ _ w _) Tryd_mixed (by kernel_rfl) hO ?_
  refine wd_p hF rfl rfl rfl (fun w => q_move rfl (hF.eval rfl)) fun a hF => ?_
  refine wd_p hF rfl rfl rfl (fun w => q_nilCheck rfl (hF.eval rfl)) fun a hF => ?_
  refine wd_p hF rfl rfl rfl (fun w => q_fieldAddr0 (d := 1) Tryd.underlying44 rfl (hF.eval rfl) rfl Tryd.sizeOf3 (by decide) rfl) fun a hF => ?_
  refine wd_r hF rfl rfl rfl (fun w hO => q_load Tryd.isAgg3 rfl (hF.eval rfl) (hO.cell 0 rfl rfl)) fun a hF => ?_
  refine wd_p hF rfl rfl rfl (fun w => q_move rfl (hF.eval rfl)) fun a hF => ?_
  refine wd_p hF rfl rfl rfl (fun w => q_add rfl (hF.eval rfl) (hF.eval rfl) (by omega)) fun a hF => ?_
  refine wd_p hF rfl rfl rfl (fun w => q_move rfl (hF.eval rfl)) fun a hF => ?_
  refine wd_p hF rfl rfl rfl (fun w => q_nilCheck rfl (hF.eval rfl)) fun a hF => ?_
  refine wd_p hF rfl rfl rfl (fun w => q_fieldAddr0 (d := 0) Tryd.underlying44 rfl (hF.eval rfl) rfl Tryd.sizeOf9 (by decide) rfl) fun a hF => ?_
  refine wd_r hF rfl rfl rfl (fun w hO => q_load Tryd.isAgg9 rfl (hF.eval rfl) (hO.cell 0 rfl rfl)) fun a hF => ?_
  refine wd_p hF rfl rfl rfl (fun w => q_len Tryd.underlying9 rfl (hF.eval rfl)) fun a hF => ?_
  refine wd_p hF rfl rfl rfl (fun w => q_lt rfl (hF.eval rfl) (hF.eval rfl)) fun a hF => ?_
  refine wd_p hF rfl rfl rfl (fun w => q_move rfl (hF.eval rfl)) fun a hF => ?_
  refine wd_gp hF rfl rfl rfl rfl rfl rfl (fun hg w => q_move rfl (hF.eval rfl)) fun a hF => ?_
  refine wd_gp hF rfl rfl rfl rfl rfl rfl (fun hg w => q_move rfl (hF.eval rfl)) fun a hF => ?_
  refine wd_gp hF rfl rfl rfl rfl rfl rfl (fun hg w => q_nilCheck rfl ((hF.eval rfl).trans (gv_of hg))) fun a hF => ?_
  refine wd_gp hF rfl rfl rfl rfl rfl rfl (fun hg w => q_fieldAddr0 (d := 0) Tryd.underlying44 rfl ((hF.eval rfl).trans (gv_of hg)) rfl Tryd.sizeOf9 (by decide) rfl) fun a hF => ?_
  refine wd_gr hF rfl rfl rfl rfl rfl rfl (fun hg w hO => q_load Tryd.isAgg9 rfl ((hF.eval rfl).trans (gv_of hg)) (hO.cell 0 rfl rfl)) fun a hF => ?_
  refine wd_gp hF rfl rfl rfl rfl rfl rfl (fun hg w => q_move rfl (hF.eval rfl)) fun a hF => ?_
  refine wd_gp hF rfl rfl rfl rfl rfl rfl (fun hg w => q_nilCheck rfl ((hF.eval rfl).trans (gv_of hg))) fun a hF => ?_
  refine wd_gp hF rfl rfl rfl rfl rfl rfl (fun hg w => q_fieldAddr0 (d := 1) Tryd.underlying44 rfl ((hF.eval rfl).trans (gv_of hg)) rfl Tryd.sizeOf3 (by decide) rfl) fun a hF => ?_
  refine wd_gr hF rfl rfl rfl rfl rfl rfl (fun hg w hO => q_load Tryd.isAgg3 rfl ((hF.eval rfl).trans (gv_of hg)) (hO.cell 0 rfl rfl)) fun a hF => ?_
  refine wd_gp hF rfl rfl rfl rfl rfl rfl (fun hg w => q_move rfl (hF.eval rfl)) fun a hF => ?_
  refine wd_gp hF rfl rfl rfl rfl rfl rfl (fun hg w => q_add rfl ((hF.eval rfl).trans (gv_of hg)) ((hF.eval rfl).trans (gv_of hg)) (by omega)) fun a hF => ?_
  refine wd_gp hF rfl rfl rfl rfl rfl rfl (fun hg w => q_indexD (m := at_ + k) Tryd.underlying9 rfl ((hF.eval rfl).trans (gv_of hg)) ((hF.eval rfl).trans (gv_of hg)) (by have := of_g hg; omega)) fun a hF => ?_
  refine wd_gk hO hF rfl rfl rfl rfl rfl rfl (fun hg => c_callG hF rfl rfl (by first | with_reducible rfl | (simp only [gv_of hg]; done) | (simp only [gv_of hg]; rfl)) Tryd.call39 (goes_r _ _ _)) fun a w hO hF => ?_
  refine wd_p hF rfl rfl rfl (fun w => q_and rfl (hF.eval rfl) rfl (fun hg2 => ((hF.eval rfl).trans (gv_of hg2))) (dec_b _)) fun a hF => ?_
  refine wd_nil ?_
  refine k_n ?_
  refine wp_ifD hF rfl rfl (fun hc1 => ?_) (fun hc1 => ?_)
  · skip
    refine wp_skip ?_
    refine k_n ?_
    refine wp_block ?_
    refine wp_region_lit ?_
    refine wl_v hF rfl rfl rfl (q_move rfl (hF.eval rfl)) fun a hF => ?_
    refine wl_v hF rfl rfl rfl (q_add rfl (hF.eval rfl) (hF.eval rfl) (by omega)) fun a hF => ?_
    refine wl_v hF rfl rfl rfl (q_assign rfl (hF.eval rfl)) fun a hF => ?_
    refine wl_nil ?_
    refine b_n ?_
    refine k_n ?_
    have hO : St _ _ _ [_] := hO
    exact ⟨k + 1, ⟨row_yes hk (by have := hc1.1; omega) hc1.2, hO, hF.sub ⟨rfl, rfl, rfl, trivial⟩⟩, by have := row_yes hk (by have := hc1.1; omega) hc1.2; omega⟩
  · skip
    refine wp_exit ?_
    refine k_x ?_
    refine k_x ?_
    refine b_x ?_
    refine k_n ?_
    refine wp_seq ?_
    refine wp_region_lit ?_
    refine wl_v hF rfl rfl rfl (q_move rfl (hF.eval rfl)) fun a hF => ?_
    refine wl_v hF rfl rfl rfl (q_assign rfl (hF.eval rfl)) fun a hF => ?_
    refine wl_nil ?_
    refine k_n ?_
    refine wp_ret ?_
    refine r_1 hF rfl rfl ?_
    rw [row_no (by omega) hk hc1]
    exact ⟨rfl, hO⟩

theorem remark_r (w0 : World) (br : Nat) (s : List UInt8) (at_ : Nat) (hA : Owns w0 [.ob br 44 (rdr s at_)]) (hs : s.length ≤ 16384) (ha : at_ < s.length) : Ret Tryd.prog 16 #[ptr (adr br)] w0 (fun v w' => v = i64 (match remarkF s at_ with | none => -1 | some k => (k : Int)) ∧ St w0 [br] w' [.ob br 44 (rdr s at_)]) := by
  have hO := St.init hA
  refine ret_of (m := 48) Tryd.func16 rfl Tryd.ntmps16 [(0, ptr (adr br))] rfl ⟨rfl, trivial⟩ fun a hF => ?_
  refine wp_seq ?_
  refine wp_region_lit ?_
  refine wl_v hF rfl rfl rfl (q_assign rfl (hF.eval rfl)) fun a hF => ?_
  refine wl_nil ?_
  refine k_n ?_
  refine wp_seq ?_
  refine wp_region_lit ?_
  refine wl_v hF rfl rfl rfl (q_assign rfl (hF.eval rfl)) fun a hF => ?_
  refine wl_nil ?_
  refine k_n ?_
  refine wp_seq ?_
  refine wp_seq ?_
  refine wp_region_lit ?_
  refine wl_v hF rfl rfl rfl (q_move rfl (hF.eval rfl)) fun a hF => ?_
  refine wl_v hF rfl rfl rfl (q_nilCheck rfl (hF.eval rfl)) fun a hF => ?_
  refine wl_v hF rfl rfl rfl (q_fieldAddr0 (d := 1) Tryd.underlying44 rfl (hF.eval rfl) rfl Tryd.sizeOf3 (by decide) rfl) fun a hF => ?_
  refine wl_v hF rfl rfl rfl (q_load Tryd.isAgg3 rfl (hF.eval rfl) (hO.cell 0 rfl rfl)) fun a hF => ?_
  refine wl_v hF rfl rfl rfl (q_assign rfl (hF.eval rfl)) fun a hF => ?_
  refine wl_nil ?_
  refine k_n ?_
  refine wp_block ?_
  have hO : St _ _ _ [_] := hO
  refine wp_loopS (fun (x : Nat × Int × Nat) a w' => match x with | (f, d, i) => (remF s at_ f d i = remarkF s at_ ∧ s.length < i + f ∧ at_ ≤ i ∧ i ≤ s.length ∧ -16384 ≤ d ∧ d ≤ i ∧ -(i : Int) ≤ d) ∧ St w0 [br] w' [.ob br 44 (rdr s at_)] ∧ Fr a 48 [(0, ptr (adr br)), (3, i64 d), (4, i64 i)]) (fun (x : Nat × Int × Nat) => match x with | (f, d, i) => f) (s.length + 1, 0, at_) ⟨⟨rfl, by omega, by omega, by omega, by omega, by omega, by omega⟩, hO, hF.sub ⟨rfl, rfl, rfl, trivial⟩⟩ ?_
  rintro ⟨f, d, i⟩ a w ⟨⟨hr, hf, hai, hil, hd1, hd2, hd3⟩, hO, hF⟩
  skip
  refine wp_seq ?_
  refine wp_seq ?_
  refine wp_region_lit ?_
  refine wl_v hF rfl rfl rfl (q_move rfl (hF.eval rfl)) fun a hF => ?_
  refine wl_v hF rfl rfl rfl (q_add rfl (hF.eval rfl) (hF.eval rfl) (by omega)) fun a hF => ?_
  refine wl_v hF rfl rfl rfl (q_move rfl (hF.eval rfl)) fun a hF => ?_
  refine wl_v hF rfl rfl rfl (q_nilCheck rfl (hF.eval rfl)) fun a hF => ?_
  refine wl_v hF rfl rfl rfl (q_fieldAddr0 (d := 0) Tryd.underlying44 rfl (hF.eval rfl) rfl Tryd.sizeOf9 (by decide) rfl) fun a hF => ?_
  refine wl_v hF rfl rfl rfl (q_load Tryd.isAgg9 rfl (hF.eval rfl) (hO.cell 0 rfl rfl)) fun a hF => ?_
  refine wl_v hF rfl rfl rfl (q_len Tryd.underlying9 rfl (hF.eval rfl)) fun a hF => ?_
  refine wl_v hF rfl rfl rfl (q_lt rfl (hF.eval rfl) (hF.eval rfl)) fun a hF => ?_
  refine wl_nil ?_
  refine k_n ?_
  refine wp_ifD hF rfl rfl (fun hc1 => ?_) (fun hc1 => ?_)
  · skip
    refine wp_skip ?_
    refine k_n ?_
    refine wp_block ?_
    refine wp_seq ?_
    refine wp_region_lit ?_
    refine wl_v hF rfl rfl rfl (q_move rfl (hF.eval rfl)) fun a hF => ?_
    refine wl_v hF rfl rfl rfl (q_nilCheck rfl (hF.eval rfl)) fun a hF => ?_
    refine wl_v hF rfl rfl rfl (q_fieldAddr0 (d := 0) Tryd.underlying44 rfl (hF.eval rfl) rfl Tryd.sizeOf9 (by decide) rfl) fun a hF => ?_
    refine wl_v hF rfl rfl rfl (q_load Tryd.isAgg9 rfl (hF.eval rfl) (hO.cell 0 rfl rfl)) fun a hF => ?_
    refine wl_v hF rfl rfl rfl (q_move rfl (hF.eval rfl)) fun a hF => ?_
    refine wl_v hF rfl rfl rfl (q_move rfl (hF.eval rfl)) fun a hF => ?_
    refine wl_v hF rfl rfl rfl (q_add rfl (hF.eval rfl) (hF.eval rfl) (by omega)) fun a hF => ?_
    refine wl_v hF rfl rfl rfl (q_cut (i := i) (j := i + 2) Tryd.underlying9 rfl (hF.eval rfl) (hF.eval rfl) (hF.eval rfl) (by omega) (by omega)) fun a hF => ?_
    refine wl_v hF rfl rfl rfl (q_assign rfl (hF.eval rfl)) fun a hF => ?_
    refine wl_nil ?_
    refine k_n ?_
    refine wp_seq ?_
    refine wp_region_lit ?_
    refine wl_v hF rfl rfl rfl (q_move rfl (hF.eval rfl)) fun a hF => ?_
    refine wl_v hF rfl rfl rfl (q_seq rfl (hF.eval rfl) (hF.eval rfl)) fun a hF => ?_
    refine wl_nil ?_
    refine k_n ?_
    refine wp_ifD hF rfl rfl (fun hc2 => ?_) (fun hc2 => ?_)
    · skip
      refine wp_seq ?_
      refine wp_region_lit ?_
      refine wl_v hF rfl rfl rfl (q_move rfl (hF.eval rfl)) fun a hF => ?_
      refine wl_v hF rfl rfl rfl (q_add rfl (hF.eval rfl) (hF.eval rfl) (by omega)) fun a hF => ?_
      refine wl_v hF rfl rfl rfl (q_assign rfl (hF.eval rfl)) fun a hF => ?_
      refine wl_nil ?_
      refine k_n ?_
      refine wp_region_lit ?_
      refine wl_v hF rfl rfl rfl (q_move rfl (hF.eval rfl)) fun a hF => ?_
      refine wl_v hF rfl rfl rfl (q_add rfl (hF.eval rfl) (hF.eval rfl) (by omega)) fun a hF => ?_
      refine wl_v hF rfl rfl rfl (q_assign rfl (hF.eval rfl)) fun a hF => ?_
      refine wl_nil ?_
      refine b_n ?_
      refine k_n ?_
      have hO : St _ _ _ [_] := hO
      obtain ⟨g, rfl⟩ : ∃ g, f = g + 1 := ⟨f - 1, by omega⟩
      exact ⟨(g, d + 1, i + 2), ⟨⟨(rem_open (by omega) hc2).symm.trans hr, by omega, by omega, by omega, by omega, by omega, by omega⟩, hO, hF.sub ⟨rfl, rfl, rfl, trivial⟩⟩, by dsimp only; omega⟩
    · skip
      refine wp_seq ?_
      refine wp_region_lit ?_
      refine wl_v hF rfl rfl rfl (q_move rfl (hF.eval rfl)) fun a hF => ?_
      refine wl_v hF rfl rfl rfl (q_seq rfl (hF.eval rfl) (hF.eval rfl)) fun a hF => ?_
      refine wl_nil ?_
      refine k_n ?_
      refine wp_ifD hF rfl rfl (fun hc3 => ?_) (fun hc3 => ?_)
      · skip
        refine wp_seq ?_
        refine wp_region_lit ?_
        refine wl_v hF rfl rfl rfl (q_move rfl (hF.eval rfl)) fun a hF => ?_
        refine wl_v hF rfl rfl rfl (q_sub rfl (hF.eval rfl) (hF.eval rfl) (by omega)) fun a hF => ?_
        refine wl_v hF rfl rfl rfl (q_assign rfl (hF.eval rfl)) fun a hF => ?_
        refine wl_nil ?_
        refine k_n ?_
        refine wp_seq ?_
        refine wp_region_lit ?_
        refine wl_v hF rfl rfl rfl (q_move rfl (hF.eval rfl)) fun a hF => ?_
        refine wl_v hF rfl rfl rfl (q_add rfl (hF.eval rfl) (hF.eval rfl) (by omega)) fun a hF => ?_
        refine wl_v hF rfl rfl rfl (q_assign rfl (hF.eval rfl)) fun a hF => ?_
        refine wl_nil ?_
        refine k_n ?_
        refine wp_seq ?_
        refine wp_region_lit ?_
        refine wl_v hF rfl rfl rfl (q_move rfl (hF.eval rfl)) fun a hF => ?_
        refine wl_v hF rfl rfl rfl (q_eq rfl (hF.eval rfl) (hF.eval rfl)) fun a hF => ?_
        refine wl_nil ?_
        refine k_n ?_
        refine wp_ifD hF rfl rfl (fun hc4 => ?_) (fun hc4 => ?_)
        · skip
          refine wp_seq ?_
          refine wp_region_lit ?_
          refine wl_v hF rfl rfl rfl (q_move rfl (hF.eval rfl)) fun a hF => ?_
          refine wl_v hF rfl rfl rfl (q_move rfl (hF.eval rfl)) fun a hF => ?_
          refine wl_v hF rfl rfl rfl (q_nilCheck rfl (hF.eval rfl)) fun a hF => ?_
          refine wl_v hF rfl rfl rfl (q_fieldAddr0 (d := 1) Tryd.underlying44 rfl (hF.eval rfl) rfl Tryd.sizeOf3 (by decide) rfl) fun a hF => ?_
          refine wl_v hF rfl rfl rfl (q_load Tryd.isAgg3 rfl (hF.eval rfl) (hO.cell 0 rfl rfl)) fun a hF => ?_
          refine wl_v hF rfl rfl rfl (q_sub rfl (hF.eval rfl) (hF.eval rfl) (by omega)) fun a hF => ?_
          refine wl_v hF rfl rfl rfl (q_assign rfl (hF.eval rfl)) fun a hF => ?_
          refine wl_nil ?_
          refine k_n ?_
          refine wp_ret ?_
          refine b_r ?_
          refine k_r ?_
          refine b_r ?_
          refine k_r ?_
          refine r_1 hF rfl rfl ?_
          obtain ⟨g, rfl⟩ : ∃ g, f = g + 1 := ⟨f - 1, by omega⟩
          refine ⟨?_, hO⟩
          rw [← hr, rem_end (by omega) hc2 hc3 hc4]
          exact congrArg i64 (show (i : Int) + 2 - at_ = ((i + 2 - at_ : Nat) : Int) by omega)
        · skip
          refine wp_skip ?_
          refine b_n ?_
          refine k_n ?_
          have hO : St _ _ _ [_] := hO
          obtain ⟨g, rfl⟩ : ∃ g, f = g + 1 := ⟨f - 1, by omega⟩
          exact ⟨(g, d - 1, i + 2), ⟨⟨(rem_shut (by omega) hc2 hc3 hc4).symm.trans hr, by omega, by omega, by omega, by omega, by omega, by omega⟩, hO, hF.sub ⟨rfl, rfl, rfl, trivial⟩⟩, by dsimp only; omega⟩
      · skip
        refine wp_region_lit ?_
        refine wl_v hF rfl rfl rfl (q_move rfl (hF.eval rfl)) fun a hF => ?_
        refine wl_v hF rfl rfl rfl (q_add rfl (hF.eval rfl) (hF.eval rfl) (by omega)) fun a hF => ?_
        refine wl_v hF rfl rfl rfl (q_assign rfl (hF.eval rfl)) fun a hF => ?_
        refine wl_nil ?_
        refine b_n ?_
        refine k_n ?_
        have hO : St _ _ _ [_] := hO
        obtain ⟨g, rfl⟩ : ∃ g, f = g + 1 := ⟨f - 1, by omega⟩
        exact ⟨(g, d, i + 1), ⟨⟨(rem_on (by omega) hc2 hc3).symm.trans hr, by omega, by omega, by omega, by omega, by omega, by omega⟩, hO, hF.sub ⟨rfl, rfl, rfl, trivial⟩⟩, by dsimp only; omega⟩
  · skip
    refine wp_exit ?_
    refine k_x ?_
    refine k_x ?_
    refine b_x ?_
    refine k_n ?_
    refine wp_seq ?_
    refine wp_region_lit ?_
    refine wl_v hF rfl rfl rfl (q_assign rfl (hF.eval rfl)) fun a hF => ?_
    refine wl_nil ?_
    refine k_n ?_
    refine wp_ret ?_
    refine r_1 hF rfl rfl ?_
    refine ⟨?_, hO⟩
    rw [← hr, rem_none (by omega)]
    rfl

end Go.Proofs.YtanpeofnlihhoaaDoor
