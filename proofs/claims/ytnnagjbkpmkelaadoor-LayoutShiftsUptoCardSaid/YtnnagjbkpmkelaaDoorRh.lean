import Derived.Test.YtnnagjbkpmkelaaDoorRg
import Derived.Test.YtnnagjbkpmkelaaDoorPl2
import Derived.Test.YtnnagjbkpmkelaaDoorGw9
namespace Go.Proofs.YtnnagjbkpmkelaaDoor
open Go
set_option maxRecDepth 100000

section
variable {t : Tok} {w : List UInt8} {k : Nat} {out o2 : List Tok} {st : List Thg}
theorem pass_on (h : 0 ≤ (k : Int) - 1 ∧ ((st.getD (k - 1) thg0).sort = [] ∨ (st.getD (k - 1) thg0).sort = wLet ∧ ¬ w = wIn)) : passF st w k = passF st w (k - 1) := by
  obtain ⟨m, rfl⟩ : ∃ m, k = m + 1 := ⟨k - 1, by omega⟩
  rw [passF]; exact if_pos h.2
theorem pass_end (h : ¬ (0 ≤ (k : Int) - 1 ∧ ((st.getD (k - 1) thg0).sort = [] ∨ (st.getD (k - 1) thg0).sort = wLet ∧ ¬ w = wIn))) : passF st w k = k := by
  cases k with
  | zero => rfl
  | succ m => rw [passF]; exact if_neg fun h2 => h ⟨by omega, h2⟩
theorem clos_0 (h : ¬ closeP (wordF t)) : closF t out st = (out, st) := by unfold closF; simp only []; rw [if_pos h]
theorem clos_1 (h : ¬ ¬ closeP (wordF t)) (hp : passF st (wordF t) st.length = k) (h3 : (k : Int) - 1 < 0 ∨ ¬ fitsP (st.getD (k - 1) thg0).sort (wordF t) = true) : closF t out st = (out, st) := by
  unfold closF; simp only [hp]; rw [if_neg h, if_pos]
  rcases h3 with h | h
  · exact .inl (by omega)
  · exact .inr (by simpa using h)
def shutL (t : Tok) (l : List Thg) : List Tok := (l.filter fun x => decide (x.sort = [])).map fun _ => laidT [125] t
theorem shut_len (t : Tok) (l : List Thg) : (shutL t l).length ≤ l.length := by
  unfold shutL; rw [List.length_map]; exact List.length_filter_le _ _
theorem shut_yes {i : Nat} {x : Thg} (hk : k ≤ i) (hx : st[i]? = some x) (h : x.sort = []) (ho : o2 = out ++ shutL t ((st.take i).drop k)) : o2 ++ [laidT [125] t] = out ++ shutL t ((st.take (i + 1)).drop k) := by
  have hkl : i < st.length := (List.getElem?_eq_some_iff.1 hx).1
  rw [List.take_add_one, hx, List.drop_append_of_le_length (by rw [List.length_take]; omega), ho]
  simp [shutL, h]
theorem shut_no {i : Nat} {x : Thg} (hk : k ≤ i) (hx : st[i]? = some x) (h : ¬ x.sort = []) (ho : o2 = out ++ shutL t ((st.take i).drop k)) : o2 = out ++ shutL t ((st.take (i + 1)).drop k) := by
  have hkl : i < st.length := (List.getElem?_eq_some_iff.1 hx).1
  rw [List.take_add_one, hx, List.drop_append_of_le_length (by rw [List.length_take]; omega), ho]
  simp [shutL, h]
variable (h : ¬ ¬ closeP (wordF t)) (hp : passF st (wordF t) st.length = k) (h3 : ¬ ((k : Int) - 1 < 0 ∨ ¬ fitsP (st.getD (k - 1) thg0).sort (wordF t) = true)) (ho : o2 = out ++ shutL t (st.drop k))
include h hp h3 ho
theorem clos_x : closF t out st = (if wordF t = wThen then (o2, (st.take k).set (k - 1) ⟨wThen, (st.getD (k - 1) thg0).col⟩) else if ¬ wordF t = [44] then (o2, st.take (k - 1)) else (o2, st.take k)) := by
  unfold closF; simp only [hp]; rw [if_neg h, if_neg]
  · rw [ho]; rfl
  · rintro (h | h)
    · exact h3 (.inl (by omega))
    · exact h3 (.inr (by simpa using h))
theorem clos_2 (h4 : wordF t = wThen) (hk : k ≤ st.length) : closF t out st = (o2, (st.take k).set (k - 1) ⟨wThen, ((st.take k).getD (k - 1) thg0).col⟩) := by
  rw [clos_x h hp h3 ho, if_pos h4]
  congr 3
  rw [List.getD_eq_getElem?_getD, List.getD_eq_getElem?_getD, List.getElem?_take, if_pos (by have := not_or.1 h3; omega)]
theorem clos_3 (h4 : ¬ wordF t = wThen) (h5 : ¬ wordF t = [44]) : closF t out st = (o2, (st.take k).take (k - 1)) := by
  rw [clos_x h hp h3 ho, if_neg h4, if_pos h5, List.take_take, Nat.min_eq_left (by omega)]
theorem clos_4 (h4 : ¬ wordF t = wThen) (h5 : ¬ ¬ wordF t = [44]) : closF t out st = (o2, st.take k) := by
  rw [clos_x h hp h3 ho, if_neg h4, if_neg h5]
end
theorem clos_len (t : Tok) (out : List Tok) (st : List Thg) : (closF t out st).1.length + (closF t out st).2.length ≤ out.length + st.length := by
  have e : ∀ k, passF st (wordF t) st.length = k → (closF t out st).1.length + (closF t out st).2.length ≤ out.length + st.length := by
    intro k hp
    by_cases h : closeP (wordF t)
    · by_cases h3 : (k : Int) - 1 < 0 ∨ ¬ fitsP (st.getD (k - 1) thg0).sort (wordF t) = true
      · rw [clos_1 (fun e => e h) hp h3]; exact Nat.le_refl _
      · rw [clos_x (fun e => e h) hp h3 rfl]
        have := shut_len t (st.drop k)
        rw [List.length_drop] at this
        have hkk : k ≤ st.length ∨ st.length ≤ k := by omega
        split
        · simp; omega
        · split <;> simp <;> omega
    · rw [clos_0 h]; exact Nat.le_refl _
  exact e _ rfl
set_option maxHeartbeats 1000000 in
theorem closes_r (w0 : World) (bs : Nat) (vo0 vs0 : Value) (out0 : List Tok) (st0 : List Thg) (dd : Diag) (hA : Owns w0 [.ob bs 68 (vo0 :: vs0 :: diagCells dd), slT vo0 33 tokE out0, slT vs0 79 thgE st0]) (hn : out0.length + st0.length ≤ 1000000000000) (t : Tok) : Ret Tryd.prog 47 #[ptr (adr bs), .agg (tokE.cells t).toArray] w0 (fun v w' => ∃ (vo vs : Value) (out : List Tok) (st : List Thg), v = .tuple #[] ∧ closF t out0 st0 = (out, st) ∧ St w0 (blks [.ob bs 68 (vo0 :: vs0 :: diagCells dd), slT vo0 33 tokE out0, slT vs0 79 thgE st0]) w' [.ob bs 68 (vo :: vs :: diagCells dd), slT vo 33 tokE out, slT vs 79 thgE st]) := by
  have hO := St.init hA
  refine ret_of (m := 116) Tryd.func47 rfl Tryd.ntmps47 [(0, ptr (adr bs)), (1, .agg (tokE.cells t).toArray)] rfl ⟨rfl, rfl, trivial⟩ fun a hF => ?_
  refine wp_seq ?_
  refine wp_region_lit ?_
  refine wl_e hF rfl rfl rfl (e_box hO rfl (hF.eval rfl) rfl) ?_
  rintro a _ w ⟨tk, rfl, hO⟩ hF
  refine wl_nil ?_
  refine k_n ?_
  refine wp_seq ?_
  refine wp_region_lit ?_
  refine wl_v hF rfl rfl rfl (q_loadAgg Tryd.isAgg33 Tryd.sizeOf33 rfl (hF.eval rfl) (hO.cells 0 rfl) rfl) fun a hF => ?_
  refine wl_e hF rfl rfl rfl (c_call hF rfl rfl Tryd.call38 (word_r _ _)) ?_
  rintro a _ w ⟨rfl, hS⟩ hF
  have hO := hO.call0 hS
  have hO : St _ _ _ [_, _, _, _] := hO
  refine wl_v hF rfl rfl rfl (q_assign rfl (hF.eval rfl)) fun a hF => ?_
  refine wl_nil ?_
  refine k_n ?_
  refine wp_seq ?_
  refine wp_seq ?_
  refine wp_region_lit ?_
  refine wl_v hF rfl rfl rfl (q_move rfl (hF.eval rfl)) fun a hF => ?_
  refine wl_e hF rfl rfl rfl (c_call hF rfl rfl Tryd.call48 (closer_r _ _)) ?_
  rintro a _ w ⟨rfl, hS⟩ hF
  have hO := hO.call0 hS
  have hO : St _ _ _ [_, _, _, _] := hO
  refine wl_v hF rfl rfl rfl (q_not rfl (hF.eval rfl) rfl) fun a hF => ?_
  refine wl_nil ?_
  refine k_n ?_
  refine wp_ifD hF rfl rfl (fun hc1 => ?_) (fun hc1 => ?_)
  · skip
    refine wp_ret ?_
    refine k_r ?_
    refine r_0 hF rfl ?_
    have hO := hO.drop1 0
    have hO : St _ _ _ [_, _, _] := hO
    exact ⟨_, _, _, _, rfl, clos_0 hc1, hO⟩
  · skip
    refine wp_skip ?_
    refine k_n ?_
    refine wp_seq ?_
    refine wp_region_lit ?_
    refine wl_v hF rfl rfl rfl (q_move rfl (hF.eval rfl)) fun a hF => ?_
    refine wl_v hF rfl rfl rfl (q_nilCheck rfl (hF.eval rfl)) fun a hF => ?_
    refine wl_v hF rfl rfl rfl (q_fieldAddr0 (d := 1) Tryd.underlying68 rfl (hF.eval rfl) rfl Tryd.sizeOf66 (by decide) rfl) fun a hF => ?_
    refine wl_v hF rfl rfl rfl (q_load Tryd.isAgg66 rfl (hF.eval rfl) (hO.cell 1 rfl rfl)) fun a hF => ?_
    refine wl_v hF rfl rfl rfl (q_lenRd (hO.rd 3 rfl) Tryd.underlying66 rfl (hF.eval rfl)) fun a hF => ?_
    refine wl_v hF rfl rfl rfl (q_sub rfl (hF.eval rfl) (hF.eval rfl) (by omega)) fun a hF => ?_
    refine wl_v hF rfl rfl rfl (q_assign rfl (hF.eval rfl)) fun a hF => ?_
    refine wl_nil ?_
    refine k_n ?_
    refine wp_seq ?_
    refine wp_block ?_
    have hO : St _ _ _ [_, _, _, _] := hO
    refine wp_loopS (fun (k : Nat) a w' => (k ≤ st0.length ∧ passF st0 (wordF t) k = passF st0 (wordF t) st0.length) ∧ St w0 (blks [.ob bs 68 (vo0 :: vs0 :: diagCells dd), slT vo0 33 tokE out0, slT vs0 79 thgE st0]) w' [.ob tk 33 (tokE.cells t), .ob bs 68 (vo0 :: vs0 :: diagCells dd), slT vo0 33 tokE out0, slT vs0 79 thgE st0] ∧ Fr a 116 [(0, ptr (adr bs)), (3, ptr (adr tk)), (4, str (wordF t)), (5, i64 ((k : Int) - 1))]) (fun (k : Nat) => k) st0.length ⟨⟨by omega, rfl⟩, hO, hF.sub ⟨rfl, rfl, rfl, rfl, trivial⟩⟩ ?_
    rintro k a w ⟨⟨hk, hr⟩, hO, hF⟩
    refine wp_seq ?_
    refine wp_seq ?_
    refine wp_region_lit ?_
    refine wl_v hF rfl rfl rfl (q_move rfl (hF.eval rfl)) fun a hF => ?_
    refine wl_v hF rfl rfl rfl (q_ge rfl (hF.eval rfl) (hF.eval rfl)) fun a hF => ?_
    refine wl_v hF rfl rfl rfl (q_move rfl (hF.eval rfl)) fun a hF => ?_
    refine wl_g hF rfl rfl rfl rfl rfl rfl (fun hg => q_move rfl (hF.eval rfl)) fun a hF => ?_
    refine wl_g hF rfl rfl rfl rfl rfl rfl (fun hg => q_nilCheck rfl ((hF.eval rfl).trans (gv_of hg))) fun a hF => ?_
    refine wl_g hF rfl rfl rfl rfl rfl rfl (fun hg => q_fieldAddr0 (d := 1) Tryd.underlying68 rfl ((hF.eval rfl).trans (gv_of hg)) rfl Tryd.sizeOf66 (by decide) rfl) fun a hF => ?_
    refine wl_g hF rfl rfl rfl rfl rfl rfl (fun hg => q_load Tryd.isAgg66 rfl ((hF.eval rfl).trans (gv_of hg)) (hO.cell 1 rfl rfl)) fun a hF => ?_
    refine wl_g hF rfl rfl rfl rfl rfl rfl (fun hg => q_move rfl (hF.eval rfl)) fun a hF => ?_
    refine wl_g hF rfl rfl rfl rfl rfl rfl (fun hg => q_at (i := k - 1) (hO.rd 3 rfl) Tryd.underlying66 Tryd.sizeOf79 rfl ((hF.eval rfl).trans (gv_of hg)) (((hF.eval rfl).trans (gv_of hg)).trans (congrArg i64 (show (k : Int) - 1 = ((k - 1 : Nat) : Int) by have := (of_g hg); omega))) (by have := (of_g hg); omega)) fun a hF => ?_
    refine wl_g hF rfl rfl rfl rfl rfl rfl (fun hg => q_fieldAddr0 (d := 0) Tryd.underlying79 rfl ((hF.eval rfl).trans (gv_of hg)) rfl Tryd.sizeOf9 (by decide) rfl) fun a hF => ?_
    refine wl_g hF rfl rfl rfl rfl rfl rfl (fun hg => q_load Tryd.isAgg9 rfl ((hF.eval rfl).trans (gv_of hg)) (RdT.cells (hO.rdT 3 rfl) (get_D (d := thg0) (by have := (of_g hg); omega)) _ _ rfl)) fun a hF => ?_
    refine wl_g hF rfl rfl rfl rfl rfl rfl (fun hg => q_seq rfl ((hF.eval rfl).trans (gv_of hg)) (hF.eval rfl)) fun a hF => ?_
    refine wl_g hF rfl rfl rfl rfl rfl rfl (fun hg => q_move rfl ((hF.eval rfl).trans (gv_of hg))) fun a hF => ?_
    refine wl_g hF rfl rfl rfl rfl rfl rfl (fun hg => q_move rfl (hF.eval rfl)) fun a hF => ?_
    refine wl_g hF rfl rfl rfl rfl rfl rfl (fun hg => q_nilCheck rfl ((hF.eval rfl).trans (gv_of hg))) fun a hF => ?_
    refine wl_g hF rfl rfl rfl rfl rfl rfl (fun hg => q_fieldAddr0 (d := 1) Tryd.underlying68 rfl ((hF.eval rfl).trans (gv_of hg)) rfl Tryd.sizeOf66 (by decide) rfl) fun a hF => ?_
    refine wl_g hF rfl rfl rfl rfl rfl rfl (fun hg => q_load Tryd.isAgg66 rfl ((hF.eval rfl).trans (gv_of hg)) (hO.cell 1 rfl rfl)) fun a hF => ?_
    refine wl_g hF rfl rfl rfl rfl rfl rfl (fun hg => q_move rfl (hF.eval rfl)) fun a hF => ?_
    refine wl_g hF rfl rfl rfl rfl rfl rfl (fun hg => q_at (i := k - 1) (hO.rd 3 rfl) Tryd.underlying66 Tryd.sizeOf79 rfl ((hF.eval rfl).trans (gv_of hg)) (((hF.eval rfl).trans (gv_of hg)).trans (congrArg i64 (show (k : Int) - 1 = ((k - 1 : Nat) : Int) by have := (of_g (isB_gv hg).1); omega))) (by have := (of_g (isB_gv hg).1); omega)) fun a hF => ?_
    refine wl_g hF rfl rfl rfl rfl rfl rfl (fun hg => q_fieldAddr0 (d := 0) Tryd.underlying79 rfl ((hF.eval rfl).trans (gv_of hg)) rfl Tryd.sizeOf9 (by decide) rfl) fun a hF => ?_
    refine wl_g hF rfl rfl rfl rfl rfl rfl (fun hg => q_load Tryd.isAgg9 rfl ((hF.eval rfl).trans (gv_of hg)) (RdT.cells (hO.rdT 3 rfl) (get_D (d := thg0) (by have := (of_g (isB_gv hg).1); omega)) _ _ rfl)) fun a hF => ?_
    refine wl_g hF rfl rfl rfl rfl rfl rfl (fun hg => q_seq rfl ((hF.eval rfl).trans (gv_of hg)) (hF.eval rfl)) fun a hF => ?_
    refine wl_g hF rfl rfl rfl rfl rfl rfl (fun hg => q_move rfl ((hF.eval rfl).trans (gv_of hg))) fun a hF => ?_
    refine wl_g hF rfl rfl rfl rfl rfl rfl (fun hg => q_move rfl (hF.eval rfl)) fun a hF => ?_
    refine wl_g hF rfl rfl rfl rfl rfl rfl (fun hg => q_sne rfl ((hF.eval rfl).trans (gv_of hg)) (hF.eval rfl)) fun a hF => ?_
    refine wl_g hF rfl rfl rfl rfl rfl rfl (fun hg => q_and rfl ((hF.eval rfl).trans (gv_of hg)) rfl (fun hg2 => ((hF.eval rfl).trans (gv_of2 hg hg2))) rfl) fun a hF => ?_
    refine wl_g hF rfl rfl rfl rfl rfl rfl (fun hg => q_or rfl ((hF.eval rfl).trans (gv_of hg)) rfl (fun hg2 => ((hF.eval rfl).trans (gv_of2 hg hg2))) rfl) fun a hF => ?_
    refine wl_v hF rfl rfl rfl (q_and rfl (hF.eval rfl) rfl (fun hg2 => ((hF.eval rfl).trans (gv_of hg2))) rfl) fun a hF => ?_
    refine wl_nil ?_
    refine k_n ?_
    refine wp_ifD hF rfl rfl (fun hc2 => ?_) (fun hc2 => ?_)
    · skip
      refine wp_skip ?_
      refine k_n ?_
      refine wp_block ?_
      refine wp_region_lit ?_
      refine wl_v hF rfl rfl rfl (q_move rfl (hF.eval rfl)) fun a hF => ?_
      refine wl_v hF rfl rfl rfl (q_sub rfl (hF.eval rfl) (hF.eval rfl) (by omega)) fun a hF => ?_
      refine wl_v hF rfl rfl rfl (q_assign rfl (hF.eval rfl)) fun a hF => ?_
      refine wl_nil ?_
      refine b_n ?_
      refine k_n ?_
      have hO : St _ _ _ [_, _, _, _] := hO
      exact ⟨k - 1, ⟨⟨by omega, (pass_on hc2).symm.trans hr⟩, hO, hF.sub ⟨rfl, rfl, rfl, (congrArg some (congrArg i64 (show (k : Int) - 1 - 1 = ((k - 1 : Nat) : Int) - 1 by have := hc2.1; omega))), trivial⟩⟩, by have := hc2.1; omega⟩
    · skip
      have hpe : passF st0 (wordF t) st0.length = k := hr.symm.trans (pass_end hc2)
      refine wp_exit ?_
      refine k_x ?_
      refine k_x ?_
      refine b_x ?_
      refine k_n ?_
      refine wp_seq ?_
      refine wp_seq ?_
      refine wp_region_lit ?_
      refine wl_v hF rfl rfl rfl (q_move rfl (hF.eval rfl)) fun a hF => ?_
      refine wl_v hF rfl rfl rfl (q_lt rfl (hF.eval rfl) (hF.eval rfl)) fun a hF => ?_
      refine wl_v hF rfl rfl rfl (q_move rfl (hF.eval rfl)) fun a hF => ?_
      refine wl_g hF rfl rfl rfl rfl rfl rfl (fun hg => q_move rfl (hF.eval rfl)) fun a hF => ?_
      refine wl_g hF rfl rfl rfl rfl rfl rfl (fun hg => q_nilCheck rfl ((hF.eval rfl).trans (gv_of hg))) fun a hF => ?_
      refine wl_g hF rfl rfl rfl rfl rfl rfl (fun hg => q_fieldAddr0 (d := 1) Tryd.underlying68 rfl ((hF.eval rfl).trans (gv_of hg)) rfl Tryd.sizeOf66 (by decide) rfl) fun a hF => ?_
      refine wl_g hF rfl rfl rfl rfl rfl rfl (fun hg => q_load Tryd.isAgg66 rfl ((hF.eval rfl).trans (gv_of hg)) (hO.cell 1 rfl rfl)) fun a hF => ?_
      refine wl_g hF rfl rfl rfl rfl rfl rfl (fun hg => q_move rfl (hF.eval rfl)) fun a hF => ?_
      refine wl_g hF rfl rfl rfl rfl rfl rfl (fun hg => q_at (i := k - 1) (hO.rd 3 rfl) Tryd.underlying66 Tryd.sizeOf79 rfl ((hF.eval rfl).trans (gv_of hg)) (((hF.eval rfl).trans (gv_of hg)).trans (congrArg i64 (show (k : Int) - 1 = ((k - 1 : Nat) : Int) by have := (of_gn hg); omega))) (by have := (of_gn hg); omega)) fun a hF => ?_
      refine wl_g hF rfl rfl rfl rfl rfl rfl (fun hg => q_fieldAddr0 (d := 0) Tryd.underlying79 rfl ((hF.eval rfl).trans (gv_of hg)) rfl Tryd.sizeOf9 (by decide) rfl) fun a hF => ?_
      refine wl_g hF rfl rfl rfl rfl rfl rfl (fun hg => q_load Tryd.isAgg9 rfl ((hF.eval rfl).trans (gv_of hg)) (RdT.cells (hO.rdT 3 rfl) (get_D (d := thg0) (by have := (of_gn hg); omega)) _ _ rfl)) fun a hF => ?_
      refine wl_g hF rfl rfl rfl rfl rfl rfl (fun hg => q_move rfl (hF.eval rfl)) fun a hF => ?_
      refine wl_gk hO hF rfl rfl rfl rfl rfl rfl (fun hg => c_callG hF rfl rfl (by first | (simp only [gv_of hg]; done) | (simp only [gv_of hg]; rfl)) Tryd.call53 (fits_r _ _ _)) fun a w hO hF => ?_
      refine wl_g hF rfl rfl rfl rfl rfl rfl (fun hg => q_not rfl ((hF.eval rfl).trans (gv_of hg)) (dec_b _)) fun a hF => ?_
      refine wl_v hF rfl rfl rfl (q_or rfl (hF.eval rfl) rfl (fun hg2 => ((hF.eval rfl).trans (gv_of hg2))) rfl) fun a hF => ?_
      refine wl_nil ?_
      refine k_n ?_
      refine wp_ifD hF rfl rfl (fun hc3 => ?_) (fun hc3 => ?_)
      · skip
        refine wp_ret ?_
        refine k_r ?_
        refine r_0 hF rfl ?_
        have hO := hO.drop1 0
        have hO : St _ _ _ [_, _, _] := hO
        exact ⟨_, _, _, _, rfl, clos_1 hc1 hpe hc3, hO⟩
      · skip
        refine wp_skip ?_
        refine k_n ?_
        refine wp_seq ?_
        refine wp_seq ?_
        refine wp_region_lit ?_
        refine wl_v hF rfl rfl rfl (q_move rfl (hF.eval rfl)) fun a hF => ?_
        refine wl_v hF rfl rfl rfl (q_add rfl (hF.eval rfl) (hF.eval rfl) (by omega)) fun a hF => ?_
        refine wl_v hF rfl rfl rfl (q_assign rfl (hF.eval rfl)) fun a hF => ?_
        refine wl_nil ?_
        refine k_n ?_
        refine wp_block ?_
        have hO : St _ _ _ [_, _, _, _] := hO
        refine wp_loopS (fun (y : Nat × List Tok × Value) a w' => match y with | (i, o2, vo) => (k ≤ i ∧ i ≤ st0.length ∧ o2 = out0 ++ shutL t ((st0.take i).drop k) ∧ o2.length ≤ out0.length + (i - k)) ∧ St w0 (blks [.ob bs 68 (vo0 :: vs0 :: diagCells dd), slT vo0 33 tokE out0, slT vs0 79 thgE st0]) w' [.ob tk 33 (tokE.cells t), .ob bs 68 (vo :: vs0 :: diagCells dd), slT vo 33 tokE o2, slT vs0 79 thgE st0] ∧ Fr a 116 [(0, ptr (adr bs)), (3, ptr (adr tk)), (4, str (wordF t)), (5, i64 ((k : Int) - 1)), (6, i64 i)]) (fun (y : Nat × List Tok × Value) => match y with | (i, o2, vo) => st0.length - i) (k, out0, vo0) ⟨⟨by omega, by omega, by rw [List.drop_of_length_le (by rw [List.length_take]; omega)]; simp [shutL], by omega⟩, hO, hF.sub ⟨rfl, rfl, rfl, rfl, (congrArg some (congrArg i64 (show (k : Int) - 1 + 1 = (k : Int) by omega))), trivial⟩⟩ ?_
        rintro ⟨i, o2, vo⟩ a w ⟨⟨hki, hi, ho2, hol⟩, hO, hF⟩
        refine wp_seq ?_
        refine wp_seq ?_
        refine wp_region_lit ?_
        refine wl_v hF rfl rfl rfl (q_move rfl (hF.eval rfl)) fun a hF => ?_
        refine wl_v hF rfl rfl rfl (q_move rfl (hF.eval rfl)) fun a hF => ?_
        refine wl_v hF rfl rfl rfl (q_nilCheck rfl (hF.eval rfl)) fun a hF => ?_
        refine wl_v hF rfl rfl rfl (q_fieldAddr0 (d := 1) Tryd.underlying68 rfl (hF.eval rfl) rfl Tryd.sizeOf66 (by decide) rfl) fun a hF => ?_
        refine wl_v hF rfl rfl rfl (q_load Tryd.isAgg66 rfl (hF.eval rfl) (hO.cell 1 rfl rfl)) fun a hF => ?_
        refine wl_v hF rfl rfl rfl (q_lenRd (hO.rd 3 rfl) Tryd.underlying66 rfl (hF.eval rfl)) fun a hF => ?_
        refine wl_v hF rfl rfl rfl (q_lt rfl (hF.eval rfl) (hF.eval rfl)) fun a hF => ?_
        refine wl_nil ?_
        refine k_n ?_
        refine wp_ifD hF rfl rfl (fun hc4 => ?_) (fun hc4 => ?_)
        · skip
          refine wp_skip ?_
          refine k_n ?_
          refine wp_seq ?_
          refine wp_block ?_
          refine wp_seq ?_
          refine wp_region_lit ?_
          refine wl_v hF rfl rfl rfl (q_move rfl (hF.eval rfl)) fun a hF => ?_
          refine wl_v hF rfl rfl rfl (q_nilCheck rfl (hF.eval rfl)) fun a hF => ?_
          refine wl_v hF rfl rfl rfl (q_fieldAddr0 (d := 1) Tryd.underlying68 rfl (hF.eval rfl) rfl Tryd.sizeOf66 (by decide) rfl) fun a hF => ?_
          refine wl_v hF rfl rfl rfl (q_load Tryd.isAgg66 rfl (hF.eval rfl) (hO.cell 1 rfl rfl)) fun a hF => ?_
          refine wl_v hF rfl rfl rfl (q_move rfl (hF.eval rfl)) fun a hF => ?_
          obtain ⟨x, hx⟩ := get_ex (l := st0) (i := i) (by omega)
          refine wl_v hF rfl rfl rfl (q_at (i := i) (hO.rd 3 rfl) Tryd.underlying66 Tryd.sizeOf79 rfl (hF.eval rfl) (hF.eval rfl) (by omega)) fun a hF => ?_
          refine wl_v hF rfl rfl rfl (q_fieldAddr0 (d := 0) Tryd.underlying79 rfl (hF.eval rfl) rfl Tryd.sizeOf9 (by decide) rfl) fun a hF => ?_
          refine wl_v hF rfl rfl rfl (q_load Tryd.isAgg9 rfl (hF.eval rfl) (RdT.cells (hO.rdT 3 rfl) hx _ _ rfl)) fun a hF => ?_
          refine wl_v hF rfl rfl rfl (q_seq rfl (hF.eval rfl) (hF.eval rfl)) fun a hF => ?_
          refine wl_nil ?_
          refine k_n ?_
          refine wp_ifD hF rfl rfl (fun hc5 => ?_) (fun hc5 => ?_)
          · skip
            refine wp_region_lit ?_
            refine wl_v hF rfl rfl rfl (q_move rfl (hF.eval rfl)) fun a hF => ?_
            refine wl_v hF rfl rfl rfl (q_loadAgg Tryd.isAgg33 Tryd.sizeOf33 rfl (hF.eval rfl) (hO.cells 0 rfl) rfl) fun a hF => ?_
            have hO := hO.pull 2 rfl
            have hO := hO.pull 2 rfl
            have hO : St _ _ _ [_, _, _, _] := hO
            refine wl_e hF rfl rfl rfl (c_call hF rfl rfl Tryd.call39 (lay_r _ _ _ _ _ _ hO.own2 _ _ (by omega))) ?_
            rintro a _ w ⟨vo, rfl, hS⟩ hF
            have hO := hO.call2 hS
            have hO : St _ _ _ [_, _, _, _] := hO
            refine wl_nil ?_
            refine b_n ?_
            refine k_n ?_
            refine wp_region_lit ?_
            refine wl_v hF rfl rfl rfl (q_move rfl (hF.eval rfl)) fun a hF => ?_
            refine wl_v hF rfl rfl rfl (q_add rfl (hF.eval rfl) (hF.eval rfl) (by omega)) fun a hF => ?_
            refine wl_v hF rfl rfl rfl (q_assign rfl (hF.eval rfl)) fun a hF => ?_
            refine wl_nil ?_
            refine k_n ?_
            have hO := hO.pull 3 rfl
            have hO := hO.pull 2 rfl
            have hO := hO.pull 2 rfl
            have hO := hO.pull 3 rfl
            have hO : St _ _ _ [_, _, _, _] := hO
            exact ⟨(i + 1, o2 ++ [laidT [125] t], _), ⟨⟨by omega, by omega, shut_yes hki hx hc5 ho2, by simp; omega⟩, hO, hF.sub ⟨rfl, rfl, rfl, rfl, rfl, trivial⟩⟩, by dsimp only; omega⟩
          · skip
            refine wp_skip ?_
            refine b_n ?_
            refine k_n ?_
            refine wp_region_lit ?_
            refine wl_v hF rfl rfl rfl (q_move rfl (hF.eval rfl)) fun a hF => ?_
            refine wl_v hF rfl rfl rfl (q_add rfl (hF.eval rfl) (hF.eval rfl) (by omega)) fun a hF => ?_
            refine wl_v hF rfl rfl rfl (q_assign rfl (hF.eval rfl)) fun a hF => ?_
            refine wl_nil ?_
            refine k_n ?_
            have hO : St _ _ _ [_, _, _, _] := hO
            exact ⟨(i + 1, o2, vo), ⟨⟨by omega, by omega, shut_no hki hx hc5 ho2, by omega⟩, hO, hF.sub ⟨rfl, rfl, rfl, rfl, rfl, trivial⟩⟩, by dsimp only; omega⟩
        · skip
          obtain rfl : i = st0.length := by omega
          rw [List.take_length] at ho2
          refine wp_exit ?_
          refine k_x ?_
          refine k_x ?_
          refine b_x ?_
          refine k_n ?_
          refine wp_seq ?_
          refine wp_region_lit ?_
          refine wl_v hF rfl rfl rfl (q_move rfl (hF.eval rfl)) fun a hF => ?_
          refine wl_v hF rfl rfl rfl (q_move rfl (hF.eval rfl)) fun a hF => ?_
          refine wl_v hF rfl rfl rfl (q_nilCheck rfl (hF.eval rfl)) fun a hF => ?_
          refine wl_v hF rfl rfl rfl (q_fieldAddr0 (d := 1) Tryd.underlying68 rfl (hF.eval rfl) rfl Tryd.sizeOf66 (by decide) rfl) fun a hF => ?_
          refine wl_v hF rfl rfl rfl (q_load Tryd.isAgg66 rfl (hF.eval rfl) (hO.cell 1 rfl rfl)) fun a hF => ?_
          refine wl_v hF rfl rfl rfl (q_move rfl (hF.eval rfl)) fun a hF => ?_
          refine wl_v hF rfl rfl rfl (q_add rfl (hF.eval rfl) (hF.eval rfl) (by omega)) fun a hF => ?_
          refine wl_v hF rfl rfl rfl (q_resl (j := k) (hO.rd 3 rfl) Tryd.underlying66 Tryd.sizeOf79 rfl (hF.eval rfl) ((hF.eval rfl).trans (congrArg i64 (show (k : Int) - 1 + 1 = ((k : Nat) : Int) by omega))) (by omega)) fun a hF => ?_
          have hO := hO.reslT (i := 3) (j := k) rfl (by omega)
          have hO : St _ _ _ [_, _, _, _] := hO
          refine wl_v hF rfl rfl rfl (q_nilCheck rfl (hF.eval rfl)) fun a hF => ?_
          refine wl_v hF rfl rfl rfl (q_fieldAddr0 (d := 1) Tryd.underlying68 rfl (hF.eval rfl) rfl Tryd.sizeOf66 (by decide) rfl) fun a hF => ?_
          refine wl_s hF rfl rfl (e_store1 hO (i := 1) rfl Tryd.sizeOf66 rfl (hF.eval rfl) (hF.eval rfl) (cells_one (hO.slOne 3 rfl)) rfl (hO.slOne 3 rfl)) ?_
          rintro a _ w ⟨-, hO⟩ hF
          have hO : St _ _ _ [_, _, _, _] := hO
          refine wl_nil ?_
          refine k_n ?_
          refine wp_seq ?_
          refine wp_region_lit ?_
          refine wl_v hF rfl rfl rfl (q_move rfl (hF.eval rfl)) fun a hF => ?_
          refine wl_v hF rfl rfl rfl (q_seq rfl (hF.eval rfl) (hF.eval rfl)) fun a hF => ?_
          refine wl_nil ?_
          refine k_n ?_
          refine wp_ifD hF rfl rfl (fun hc6 => ?_) (fun hc6 => ?_)
          · skip
            refine wp_region_lit ?_
            refine wl_v hF rfl rfl rfl (q_move rfl (hF.eval rfl)) fun a hF => ?_
            refine wl_v hF rfl rfl rfl (q_nilCheck rfl (hF.eval rfl)) fun a hF => ?_
            refine wl_v hF rfl rfl rfl (q_fieldAddr0 (d := 1) Tryd.underlying68 rfl (hF.eval rfl) rfl Tryd.sizeOf66 (by decide) rfl) fun a hF => ?_
            refine wl_v hF rfl rfl rfl (q_load Tryd.isAgg66 rfl (hF.eval rfl) (hO.cell 1 rfl rfl)) fun a hF => ?_
            refine wl_v hF rfl rfl rfl (q_move rfl (hF.eval rfl)) fun a hF => ?_
            refine wl_v hF rfl rfl rfl (q_at (i := k - 1) (hO.rd 3 rfl) Tryd.underlying66 Tryd.sizeOf79 rfl (hF.eval rfl) ((hF.eval rfl).trans (congrArg i64 (show (k : Int) - 1 = ((k - 1 : Nat) : Int) by have := not_or.1 hc3; omega))) (by have := not_or.1 hc3; rw [List.length_take]; omega)) fun a hF => ?_
            refine wl_v hF rfl rfl rfl (q_fieldAddr0 (d := 0) Tryd.underlying79 rfl (hF.eval rfl) rfl Tryd.sizeOf9 (by decide) rfl) fun a hF => ?_
            refine wl_s hF rfl rfl (e_storeElT (m := k - 1) (off := 0) (q := ⟨wThen, ((st0.take k).getD (k - 1) thg0).col⟩) hO (i := 3) rfl Tryd.sizeOf9 rfl ((hF.eval rfl).trans (congrArg ptr (add_add' _ _ _))) rfl (hF.eval rfl) rfl (get_D (d := thg0) (by rw [List.length_take]; have := not_or.1 hc3; omega)) rfl (Nat.le_of_ble_eq_true rfl) rfl (all1 rfl)) ?_
            rintro a _ w ⟨-, hO⟩ hF
            have hO : St _ _ _ [_, _, _, _] := hO
            refine wl_nil ?_
            refine r_0n hF rfl ?_
            have hO := hO.drop1 0
            have hO : St _ _ _ [_, _, _] := hO
            exact ⟨_, _, _, _, rfl, clos_2 hc1 hpe hc3 ho2 hc6 hk, hO⟩
          · skip
            refine wp_seq ?_
            refine wp_region_lit ?_
            refine wl_v hF rfl rfl rfl (q_move rfl (hF.eval rfl)) fun a hF => ?_
            refine wl_v hF rfl rfl rfl (q_sne rfl (hF.eval rfl) (hF.eval rfl)) fun a hF => ?_
            refine wl_nil ?_
            refine k_n ?_
            refine wp_ifD hF rfl rfl (fun hc7 => ?_) (fun hc7 => ?_)
            · skip
              refine wp_region_lit ?_
              refine wl_v hF rfl rfl rfl (q_move rfl (hF.eval rfl)) fun a hF => ?_
              refine wl_v hF rfl rfl rfl (q_move rfl (hF.eval rfl)) fun a hF => ?_
              refine wl_v hF rfl rfl rfl (q_nilCheck rfl (hF.eval rfl)) fun a hF => ?_
              refine wl_v hF rfl rfl rfl (q_fieldAddr0 (d := 1) Tryd.underlying68 rfl (hF.eval rfl) rfl Tryd.sizeOf66 (by decide) rfl) fun a hF => ?_
              refine wl_v hF rfl rfl rfl (q_load Tryd.isAgg66 rfl (hF.eval rfl) (hO.cell 1 rfl rfl)) fun a hF => ?_
              refine wl_v hF rfl rfl rfl (q_move rfl (hF.eval rfl)) fun a hF => ?_
              refine wl_v hF rfl rfl rfl (q_resl (j := k - 1) (hO.rd 3 rfl) Tryd.underlying66 Tryd.sizeOf79 rfl (hF.eval rfl) ((hF.eval rfl).trans (congrArg i64 (show (k : Int) - 1 = ((k - 1 : Nat) : Int) by have := not_or.1 hc3; omega))) (by rw [List.length_take]; omega)) fun a hF => ?_
              have hO := hO.reslT (i := 3) (j := k - 1) rfl (by rw [List.length_take]; omega)
              have hO : St _ _ _ [_, _, _, _] := hO
              refine wl_v hF rfl rfl rfl (q_nilCheck rfl (hF.eval rfl)) fun a hF => ?_
              refine wl_v hF rfl rfl rfl (q_fieldAddr0 (d := 1) Tryd.underlying68 rfl (hF.eval rfl) rfl Tryd.sizeOf66 (by decide) rfl) fun a hF => ?_
              refine wl_s hF rfl rfl (e_store1 hO (i := 1) rfl Tryd.sizeOf66 rfl (hF.eval rfl) (hF.eval rfl) (cells_one (hO.slOne 3 rfl)) rfl (hO.slOne 3 rfl)) ?_
              rintro a _ w ⟨-, hO⟩ hF
              have hO : St _ _ _ [_, _, _, _] := hO
              refine wl_nil ?_
              refine r_0n hF rfl ?_
              have hO := hO.drop1 0
              have hO : St _ _ _ [_, _, _] := hO
              exact ⟨_, _, _, _, rfl, clos_3 hc1 hpe hc3 ho2 hc6 hc7, hO⟩
            · skip
              refine wp_skip ?_
              refine r_0n hF rfl ?_
              have hO := hO.drop1 0
              have hO : St _ _ _ [_, _, _] := hO
              exact ⟨_, _, _, _, rfl, clos_4 hc1 hpe hc3 ho2 hc6 hc7, hO⟩

end Go.Proofs.YtnnagjbkpmkelaaDoor
