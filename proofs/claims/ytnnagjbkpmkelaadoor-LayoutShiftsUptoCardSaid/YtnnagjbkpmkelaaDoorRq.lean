import Derived.Test.YtnnagjbkpmkelaaDoorRp
import Derived.Test.YtnnagjbkpmkelaaDoorPl3
import Derived.Test.YtnnagjbkpmkelaaDoorGw13
namespace Go.Proofs.YtnnagjbkpmkelaaDoor
open Go
set_option maxRecDepth 100000

theorem fin_iff {st : List Thg} {t : Tok} {k : Nat} (hk : okS st) (hkl : k ≤ st.length) : (0 ≤ (k : Int) - 1 ∧ ((st.getD (k - 1) thg0).sort = [] ∨ (itm (st.getD (k - 1) thg0).sort = itm letT.sort ∧ (st.getD (k - 1) thg0).col = letT.col) ∧ ¬ isP t [wIn])) ↔
    (0 ≤ (k : Int) - 1 ∧ ((st.getD (k - 1) thg0).sort = [] ∨ (st.getD (k - 1) thg0).sort = wLet ∧ ¬ wordF t = wIn)) := by
  refine and_congr_right fun h0 => or_congr Iff.rfl (and_congr ?_ (not_congr ((isP_iff (by decide)).trans List.mem_singleton)))
  exact itm_is (hk.at (get_D (d := thg0) (by omega))) (s := wLet) (by decide) (by decide)
theorem fin_col {st : List Thg} {t : Tok} {k : Nat} (hk : okS st) (hkl : k ≤ st.length) (h : ¬ ((k : Int) - 1 < 0 ∨ ¬ fitsP (st.getD (k - 1) thg0).sort (wordF t) = true)) : ((st.take k).getD (k - 1) thg0).col = 0 := by
  have h1 := not_or.1 h
  have e : (st.take k).getD (k - 1) thg0 = st.getD (k - 1) thg0 := by
    rw [List.getD_eq_getElem?_getD, List.getD_eq_getElem?_getD, List.getElem?_take, if_pos (by have := h1.1; omega)]
  rw [e]
  have ho := hk.at (get_D (d := thg0) (show k - 1 < st.length by have := h1.1; omega))
  refine ho.2 fun e => ?_
  have h2 := Classical.not_not.1 h1.2
  rw [fits_of ho.1, e] at h2
  exact absurd h2 (by simp [wIf, wThen, wCase, wLet])
set_option maxHeartbeats 2000000 in
theorem finish_r (w0 : World) (bs : Nat) (vo0 vs0 : Value) (out0 : List Tok) (st0 : List Thg) (hA : Owns w0 [.ob bs 56 [vo0, vs0], slT vo0 33 tokE out0, slT vs0 63 itmE st0]) (hn : out0.length + st0.length ≤ 100000000000) (hk0 : okS st0) (hG : GlB w0 (blks [.ob bs 56 [vo0, vs0], slT vo0 33 tokE out0, slT vs0 63 itmE st0])) (t : Tok) (hcp : closeP (wordF t)) : Ret Tryd.prog 33 #[ptr (adr bs), .agg (tokE.cells t).toArray] w0 (fun v w' => ∃ (vo vs : Value) (out : List Tok) (st : List Thg), v = .tuple #[] ∧ closF t out0 st0 = (out, st) ∧ okS st ∧ out.length + st.length ≤ out0.length + st0.length ∧ St w0 (blks [.ob bs 56 [vo0, vs0], slT vo0 33 tokE out0, slT vs0 63 itmE st0]) w' [.ob bs 56 [vo, vs], slT vo 33 tokE out, slT vs 63 itmE st]) := by
  have hO := St.init hA
  refine ret_of (m := 111) Tryd.func33 rfl Tryd.ntmps33 [(0, ptr (adr bs)), (1, .agg (tokE.cells t).toArray)] rfl ⟨rfl, rfl, trivial⟩ fun a hF => ?_
  refine wp_seq ?_
  refine wp_region_lit ?_
  refine wl_e hF rfl rfl rfl (e_box hO rfl (hF.eval rfl) rfl) ?_
  rintro a _ w ⟨tk, rfl, hO⟩ hF
  refine wl_nil ?_
  refine k_n ?_
  refine wp_seq ?_
  refine wp_region_lit ?_
  refine wl_v hF rfl rfl rfl (q_move rfl (hF.eval rfl)) fun a hF => ?_
  refine wl_v hF rfl rfl rfl (q_nilCheck rfl (hF.eval rfl)) fun a hF => ?_
  refine wl_v hF rfl rfl rfl (q_fieldAddr0 (d := 1) Tryd.underlying56 rfl (hF.eval rfl) rfl Tryd.sizeOf54 (by decide) rfl) fun a hF => ?_
  refine wl_v hF rfl rfl rfl (q_load Tryd.isAgg54 rfl (hF.eval rfl) (hO.cell 1 rfl rfl)) fun a hF => ?_
  refine wl_v hF rfl rfl rfl (q_lenRd (hO.rd 3 rfl) Tryd.underlying54 rfl (hF.eval rfl)) fun a hF => ?_
  refine wl_v hF rfl rfl rfl (q_sub rfl (hF.eval rfl) (hF.eval rfl) (by omega)) fun a hF => ?_
  refine wl_v hF rfl rfl rfl (q_assign rfl (hF.eval rfl)) fun a hF => ?_
  refine wl_nil ?_
  refine k_n ?_
  refine wp_seq ?_
  refine wp_block ?_
  have hO : St _ _ _ [_, _, _, _] := hO
  refine wp_loopS (fun (k : Nat) a w' => (k ≤ st0.length ∧ passF st0 (wordF t) k = passF st0 (wordF t) st0.length) ∧ St w0 (blks [.ob bs 56 [vo0, vs0], slT vo0 33 tokE out0, slT vs0 63 itmE st0]) w' [.ob tk 33 (tokE.cells t), .ob bs 56 [vo0, vs0], slT vo0 33 tokE out0, slT vs0 63 itmE st0] ∧ Fr a 111 [(0, ptr (adr bs)), (3, ptr (adr tk)), (4, i64 ((k : Int) - 1))]) (fun (k : Nat) => k) st0.length ⟨⟨by omega, rfl⟩, hO, hF.sub ⟨rfl, rfl, rfl, trivial⟩⟩ ?_
  rintro k a w ⟨⟨hk, hr⟩, hO, hF⟩
  refine wp_seq ?_
  refine wp_seq ?_
  have hO := hO.drew
  refine wp_region_D [0, 0, 0, 0, 0, 0, 1, 0, 0, 1, 2, 0, 0, 0, 0, 1, 0, 0, 1, 1, 0, 0, 1, 2, 2, 0, 0, 0, 0] (fun w => St _ _ w _) Tryd_mixed (by kernel_rfl) hO ?_
  refine wd_p hF rfl rfl rfl (fun w => q_move rfl (hF.eval rfl)) fun a hF => ?_
  refine wd_p hF rfl rfl rfl (fun w => q_ge rfl (hF.eval rfl) (hF.eval rfl)) fun a hF => ?_
  refine wd_p hF rfl rfl rfl (fun w => q_move rfl (hF.eval rfl)) fun a hF => ?_
  refine wd_gp hF rfl rfl rfl rfl rfl rfl (fun hg w => q_move rfl (hF.eval rfl)) fun a hF => ?_
  refine wd_gp hF rfl rfl rfl rfl rfl rfl (fun hg w => q_nilCheck rfl ((hF.eval rfl).trans (gv_of hg))) fun a hF => ?_
  refine wd_gp hF rfl rfl rfl rfl rfl rfl (fun hg w => q_fieldAddr0 (d := 1) Tryd.underlying56 rfl ((hF.eval rfl).trans (gv_of hg)) rfl Tryd.sizeOf54 (by decide) rfl) fun a hF => ?_
  refine wd_gr hF rfl rfl rfl rfl rfl rfl (fun hg w hO => q_load Tryd.isAgg54 rfl ((hF.eval rfl).trans (gv_of hg)) (hO.cell 1 rfl rfl)) fun a hF => ?_
  refine wd_gp hF rfl rfl rfl rfl rfl rfl (fun hg w => q_move rfl (hF.eval rfl)) fun a hF => ?_
  refine wd_gp hF rfl rfl rfl rfl rfl rfl (fun hg w => q_at (i := k - 1) (hO.rd 3 rfl) Tryd.underlying54 Tryd.sizeOf63 rfl ((hF.eval rfl).trans (gv_of hg)) (((hF.eval rfl).trans (gv_of hg)).trans (congrArg i64 (show (k : Int) - 1 = ((k - 1 : Nat) : Int) by have := (of_g hg); omega))) (by have := (of_g hg); omega)) fun a hF => ?_
  refine wd_gr hF rfl rfl rfl rfl rfl rfl (fun hg w hO => q_loadAgg Tryd.isAgg63 Tryd.sizeOf63 rfl ((hF.eval rfl).trans (gv_of hg)) (RdT.cells (hO.rdT 3 rfl) (get_D (d := thg0) (by have := (of_g hg); omega))) rfl) fun a hF => ?_
  refine wd_gk2 hO hF rfl rfl rfl rfl rfl rfl (fun hg => c_callG hF rfl rfl (by first | (simp only [gv_of hg]; done) | (simp only [gv_of hg]; rfl)) Tryd.call43 (iblock_r _ _)) (fun _ hS => hS) fun a w hO hF => ?_
  refine wd_gp hF rfl rfl rfl rfl rfl rfl (fun hg w => q_move rfl ((hF.eval rfl).trans (gv_of hg))) fun a hF => ?_
  refine wd_gp hF rfl rfl rfl rfl rfl rfl (fun hg w => q_move rfl (hF.eval rfl)) fun a hF => ?_
  refine wd_gp hF rfl rfl rfl rfl rfl rfl (fun hg w => q_nilCheck rfl ((hF.eval rfl).trans (gv_of hg))) fun a hF => ?_
  refine wd_gp hF rfl rfl rfl rfl rfl rfl (fun hg w => q_fieldAddr0 (d := 1) Tryd.underlying56 rfl ((hF.eval rfl).trans (gv_of hg)) rfl Tryd.sizeOf54 (by decide) rfl) fun a hF => ?_
  refine wd_gr hF rfl rfl rfl rfl rfl rfl (fun hg w hO => q_load Tryd.isAgg54 rfl ((hF.eval rfl).trans (gv_of hg)) (hO.cell 1 rfl rfl)) fun a hF => ?_
  refine wd_gp hF rfl rfl rfl rfl rfl rfl (fun hg w => q_move rfl (hF.eval rfl)) fun a hF => ?_
  refine wd_gp hF rfl rfl rfl rfl rfl rfl (fun hg w => q_at (i := k - 1) (hO.rd 3 rfl) Tryd.underlying54 Tryd.sizeOf63 rfl ((hF.eval rfl).trans (gv_of hg)) (((hF.eval rfl).trans (gv_of hg)).trans (congrArg i64 (show (k : Int) - 1 = ((k - 1 : Nat) : Int) by have := (of_g (isB_gv hg).1); omega))) (by have := (of_g (isB_gv hg).1); omega)) fun a hF => ?_
  refine wd_gr hF rfl rfl rfl rfl rfl rfl (fun hg w hO => q_loadAgg Tryd.isAgg63 Tryd.sizeOf63 rfl ((hF.eval rfl).trans (gv_of hg)) (RdT.cells (hO.rdT 3 rfl) (get_D (d := thg0) (by have := (of_g (isB_gv hg).1); omega))) rfl) fun a hF => ?_
  refine wd_gr hF rfl rfl rfl rfl rfl rfl (fun hg w hO => q_loadAgg Tryd.isAgg63 Tryd.sizeOf63 rfl (hF.eval rfl) ((hG.now hO).cl) rfl) fun a hF => ?_
  refine wd_gp hF rfl rfl rfl rfl rfl rfl (fun hg w => q_eqS Tryd.underlying63 Tryd.stoodInHeld63 Tryd.eqGuardType63 rfl ((hF.eval rfl).trans (gv_of hg)) ((hF.eval rfl).trans (gv_of hg)) (ef_str (by decide) Tryd.isAgg9 Tryd.underlying9 rfl rfl (ef_int (by decide) Tryd.isAgg3 Tryd.underlying3 rfl rfl ef_nil)) (itm_eq _ _ _ _)) fun a hF => ?_
  refine wd_gp hF rfl rfl rfl rfl rfl rfl (fun hg w => q_move rfl ((hF.eval rfl).trans (gv_of hg))) fun a hF => ?_
  refine wd_gr hF rfl rfl rfl rfl rfl rfl (fun hg w hO => q_loadAgg Tryd.isAgg33 Tryd.sizeOf33 rfl (hF.eval rfl) (hO.cells 0 rfl) rfl) fun a hF => ?_
  refine wd_gS2 (fun tt (_ : Unit) u w' => St w0 (blks [.ob bs 56 [vo0, vs0], slT vo0 33 tokE out0, slT vs0 63 itmE st0]) w' [.ob tk 33 (tokE.cells t), .ob bs 56 [vo0, vs0], slT vo0 33 tokE out0, slT vs0 63 itmE st0] ∧ (tt = true → RdT w' [] u strE [wIn])) hF rfl rfl rfl rfl rfl rfl (fun hg => Eff.mono (c_buildSlice hF hO Tryd.underlying45 Tryd.sizeOf9 Tryd.zeroValue9 rfl rfl rfl rfl rfl rfl rfl) ?_) (fun hg => ?_) (fun _ _ _ h => h.1) ?_
  · skip
    rintro u w' ⟨b, rfl, hS⟩
    exact ⟨(), hS.tail, fun _ => hS.rdT 0 rfl⟩
  · skip
    exact ⟨(), undef, hO, fun h => by cases h⟩
  rintro _ u a w ⟨hO, hws⟩ hF
  refine wd_gk2 hO hF rfl rfl rfl rfl rfl rfl (fun hg => c_callG hF rfl rfl (by first | (simp only [gv_of hg]; done) | (simp only [gv_of hg]; rfl)) Tryd.call34 (is_r _ _ _ [wIn] (by decide) (hws hg))) (fun _ hS => hS) fun a w hO hF => ?_
  refine wd_gp hF rfl rfl rfl rfl rfl rfl (fun hg w => q_not rfl ((hF.eval rfl).trans (gv_of hg)) rfl) fun a hF => ?_
  refine wd_gp hF rfl rfl rfl rfl rfl rfl (fun hg w => q_and rfl ((hF.eval rfl).trans (gv_of hg)) rfl (fun hg2 => ((hF.eval rfl).trans (gv_of2 hg hg2))) rfl) fun a hF => ?_
  refine wd_gp hF rfl rfl rfl rfl rfl rfl (fun hg w => q_or rfl ((hF.eval rfl).trans (gv_of hg)) rfl (fun hg2 => ((hF.eval rfl).trans (gv_of2 hg hg2))) rfl) fun a hF => ?_
  refine wd_p hF rfl rfl rfl (fun w => q_and rfl (hF.eval rfl) rfl (fun hg2 => ((hF.eval rfl).trans (gv_of hg2))) rfl) fun a hF => ?_
  refine wd_nil ?_
  refine k_n ?_
  refine wp_ifD hF rfl rfl (fun hc1 => ?_) (fun hc1 => ?_)
  · skip
    refine wp_skip ?_
    refine k_n ?_
    refine wp_block ?_
    refine wp_region_lit ?_
    refine wl_v hF rfl rfl rfl (q_move rfl (hF.eval rfl)) fun a hF => ?_
    refine wl_v hF rfl rfl rfl (q_sub rfl (hF.eval rfl) (hF.eval rfl) (by omega)) fun a hF => ?_
    refine wl_v hF rfl rfl rfl (q_assign rfl (hF.eval rfl)) fun a hF => ?_
    refine wl_nil ?_
    refine b_n ?_
    refine k_n ?_
    have hO : St _ _ _ [_, _, _, _] := hO
    exact ⟨k - 1, ⟨⟨by omega, (pass_on ((fin_iff hk0 hk).1 hc1)).symm.trans hr⟩, hO, hF.sub ⟨rfl, rfl, (congrArg some (congrArg i64 (show (k : Int) - 1 - 1 = ((k - 1 : Nat) : Int) - 1 by have := hc1.1; omega))), trivial⟩⟩, by have := hc1.1; omega⟩
  · skip
    have hpe : passF st0 (wordF t) st0.length = k := hr.symm.trans (pass_end fun h => hc1 ((fin_iff hk0 hk).2 h))
    refine wp_exit ?_
    refine k_x ?_
    refine k_x ?_
    refine b_x ?_
    refine k_n ?_
    refine wp_seq ?_
    refine wp_seq ?_
    have hO := hO.drew
    refine wp_region_D [0, 0, 0, 0, 0, 0, 1, 0, 0, 1, 1, 3, 0, 0] (fun w => St _ _ w _) Tryd_mixed (by kernel_rfl) hO ?_
    refine wd_p hF rfl rfl rfl (fun w => q_move rfl (hF.eval rfl)) fun a hF => ?_
    refine wd_p hF rfl rfl rfl (fun w => q_lt rfl (hF.eval rfl) (hF.eval rfl)) fun a hF => ?_
    refine wd_p hF rfl rfl rfl (fun w => q_move rfl (hF.eval rfl)) fun a hF => ?_
    refine wd_gp hF rfl rfl rfl rfl rfl rfl (fun hg w => q_move rfl (hF.eval rfl)) fun a hF => ?_
    refine wd_gp hF rfl rfl rfl rfl rfl rfl (fun hg w => q_nilCheck rfl ((hF.eval rfl).trans (gv_of hg))) fun a hF => ?_
    refine wd_gp hF rfl rfl rfl rfl rfl rfl (fun hg w => q_fieldAddr0 (d := 1) Tryd.underlying56 rfl ((hF.eval rfl).trans (gv_of hg)) rfl Tryd.sizeOf54 (by decide) rfl) fun a hF => ?_
    refine wd_gr hF rfl rfl rfl rfl rfl rfl (fun hg w hO => q_load Tryd.isAgg54 rfl ((hF.eval rfl).trans (gv_of hg)) (hO.cell 1 rfl rfl)) fun a hF => ?_
    refine wd_gp hF rfl rfl rfl rfl rfl rfl (fun hg w => q_move rfl (hF.eval rfl)) fun a hF => ?_
    refine wd_gp hF rfl rfl rfl rfl rfl rfl (fun hg w => q_at (i := k - 1) (hO.rd 3 rfl) Tryd.underlying54 Tryd.sizeOf63 rfl ((hF.eval rfl).trans (gv_of hg)) (((hF.eval rfl).trans (gv_of hg)).trans (congrArg i64 (show (k : Int) - 1 = ((k - 1 : Nat) : Int) by have := (of_gn hg); omega))) (by have := (of_gn hg); omega)) fun a hF => ?_
    refine wd_gr hF rfl rfl rfl rfl rfl rfl (fun hg w hO => q_loadAgg Tryd.isAgg63 Tryd.sizeOf63 rfl ((hF.eval rfl).trans (gv_of hg)) (RdT.cells (hO.rdT 3 rfl) (get_D (d := thg0) (by have := (of_gn hg); omega))) rfl) fun a hF => ?_
    refine wd_gr hF rfl rfl rfl rfl rfl rfl (fun hg w hO => q_loadAgg Tryd.isAgg33 Tryd.sizeOf33 rfl (hF.eval rfl) (hO.cells 0 rfl) rfl) fun a hF => ?_
    refine wd_gk hO hF rfl rfl rfl rfl rfl rfl (fun hg => c_callG hF rfl rfl (by first | (simp only [gv_of hg]; done) | (simp only [gv_of hg]; rfl)) Tryd.call44 (partner_r _ _ _ (hk0.at (get_D (d := thg0) (by have := of_gn hg; omega))) (hG.at0 hO))) fun a w hO hF => ?_
    refine wd_gp hF rfl rfl rfl rfl rfl rfl (fun hg w => q_not rfl ((hF.eval rfl).trans (gv_of hg)) (dec_b _)) fun a hF => ?_
    refine wd_p hF rfl rfl rfl (fun w => q_or rfl (hF.eval rfl) rfl (fun hg2 => ((hF.eval rfl).trans (gv_of hg2))) rfl) fun a hF => ?_
    refine wd_nil ?_
    refine k_n ?_
    refine wp_ifD hF rfl rfl (fun hc2 => ?_) (fun hc2 => ?_)
    · skip
      refine wp_ret ?_
      refine k_r ?_
      refine r_0 hF rfl ?_
      have hO := hO.drop1 0
      have hO : St _ _ _ [_, _, _] := hO
      have e := clos_1 (out := out0) (fun e => e hcp) hpe hc2
      have hl := clos_len t out0 st0
      rw [e] at hl
      exact ⟨_, _, _, _, rfl, e, hk0, hl, hO⟩
    · skip
      refine wp_skip ?_
      refine k_n ?_
      refine wp_seq ?_
      refine wp_seq ?_
      refine wp_region_lit ?_
      refine wl_v hF rfl rfl rfl (q_move rfl (hF.eval rfl)) fun a hF => ?_
      refine wl_v hF rfl rfl rfl (q_nilCheck rfl (hF.eval rfl)) fun a hF => ?_
      refine wl_v hF rfl rfl rfl (q_fieldAddr0 (d := 1) Tryd.underlying56 rfl (hF.eval rfl) rfl Tryd.sizeOf54 (by decide) rfl) fun a hF => ?_
      refine wl_v hF rfl rfl rfl (q_load Tryd.isAgg54 rfl (hF.eval rfl) (hO.cell 1 rfl rfl)) fun a hF => ?_
      refine wl_v hF rfl rfl rfl (q_move rfl (hF.eval rfl)) fun a hF => ?_
      refine wl_v hF rfl rfl rfl (q_add rfl (hF.eval rfl) (hF.eval rfl) (by omega)) fun a hF => ?_
      refine wl_v hF rfl rfl rfl (q_drop (j := k) (hO.rd 3 rfl) Tryd.underlying54 Tryd.sizeOf63 rfl (hF.eval rfl) ((hF.eval rfl).trans (congrArg i64 (show (k : Int) - 1 + 1 = ((k : Nat) : Int) by omega))) (by omega)) fun a hF => ?_
      refine wl_v hF rfl rfl rfl (q_lenDrop (hO.rd 3 rfl) Tryd.underlying54 rfl (hF.eval rfl)) fun a hF => ?_
      refine wl_v hF rfl rfl rfl (q_move rfl (hF.eval rfl)) fun a hF => ?_
      refine wl_nil ?_
      refine k_n ?_
      refine wp_block ?_
      have hO : St _ _ _ [_, _, _, _] := hO
      refine wp_loopS (fun (y : Nat × List Tok × Value) a w' => match y with | (i, o2, vo) => (k + i ≤ st0.length ∧ o2 = out0 ++ shutL t ((st0.take (k + i)).drop k) ∧ o2.length ≤ out0.length + i) ∧ St w0 (blks [.ob bs 56 [vo0, vs0], slT vo0 33 tokE out0, slT vs0 63 itmE st0]) w' [.ob tk 33 (tokE.cells t), .ob bs 56 [vo, vs0], slT vo 33 tokE o2, slT vs0 63 itmE st0] ∧ Fr a 111 [(0, ptr (adr bs)), (3, ptr (adr tk)), (4, i64 ((k : Int) - 1)), (64, dropV vs0 k itmE.size), (65, i64 ((st0.length - k : Nat) : Int)), (66, i64 i)]) (fun (y : Nat × List Tok × Value) => match y with | (i, o2, vo) => st0.length - k - i) (0, out0, vo0) ⟨⟨by omega, by rw [List.drop_of_length_le (by rw [List.length_take]; omega)]; simp [shutL], by omega⟩, hO, hF.sub ⟨rfl, rfl, rfl, rfl, rfl, rfl, trivial⟩⟩ ?_
      rintro ⟨i, o2, vo⟩ a w ⟨⟨hi, ho2, hol⟩, hO, hF⟩
      refine wp_seq ?_
      refine wp_region_lit ?_
      refine wl_v hF rfl rfl rfl (q_lt rfl (hF.eval rfl) (hF.eval rfl)) fun a hF => ?_
      refine wl_nil ?_
      refine k_n ?_
      refine wp_seq ?_
      refine wp_ifD hF rfl rfl (fun hc3 => ?_) (fun hc3 => ?_)
      · skip
        refine wp_skip ?_
        refine k_n ?_
        refine wp_seq ?_
        refine wp_block ?_
        refine wp_seq ?_
        refine wp_region_lit ?_
        obtain ⟨x, hx⟩ := get_ex (l := st0) (i := k + i) (by omega)
        refine wl_v hF rfl rfl rfl (q_atDrop (i := i) (j := k) (hO.rd 3 rfl) Tryd.underlying54 Tryd.sizeOf63 rfl (hF.eval rfl) (hF.eval rfl) (by omega)) fun a hF => ?_
        refine wl_v hF rfl rfl rfl (q_loadAgg Tryd.isAgg63 Tryd.sizeOf63 rfl (hF.eval rfl) (RdT.cells (hO.rdT 3 rfl) hx) rfl) fun a hF => ?_
        refine wl_e hF rfl rfl rfl (e_alloc hO Tryd.zeroValue63 rfl rfl) ?_
        rintro a _ w ⟨t6, rfl, hO⟩ hF
        refine wl_s hF rfl rfl (e_storeAll hO (i := 0) rfl Tryd.sizeOf63 rfl (hF.eval rfl) (hF.eval rfl) rfl rfl) ?_
        rintro a _ w ⟨-, hO⟩ hF
        have hO : St _ _ _ [_, _, _, _, _] := hO
        refine wl_nil ?_
        refine k_n ?_
        refine wp_seq ?_
        refine wp_region_lit ?_
        refine wl_v hF rfl rfl rfl (q_loadAgg Tryd.isAgg63 Tryd.sizeOf63 rfl (hF.eval rfl) (hO.cells 0 rfl) rfl) fun a hF => ?_
        refine wl_e hF rfl rfl rfl (c_call hF rfl rfl Tryd.call43 (iblock_r _ _)) ?_
        rintro a _ w ⟨rfl, hS⟩ hF
        have hO := hO.call0 hS
        have hO : St _ _ _ [_, _, _, _, _] := hO
        refine wl_nil ?_
        refine k_n ?_
        refine wp_ifD hF rfl rfl (fun hc4 => ?_) (fun hc4 => ?_)
        · skip
          refine wp_region_lit ?_
          refine wl_v hF rfl rfl rfl (q_move rfl (hF.eval rfl)) fun a hF => ?_
          refine wl_v hF rfl rfl rfl (q_loadAgg Tryd.isAgg33 Tryd.sizeOf33 rfl (hF.eval rfl) (hO.cells 1 rfl) rfl) fun a hF => ?_
          refine wl_e hF rfl rfl rfl (c_buildSlice hF hO Tryd.underlying45 Tryd.sizeOf9 Tryd.zeroValue9 rfl rfl rfl rfl rfl rfl rfl) ?_
          rintro a _ w ⟨ws, rfl, hO⟩ hF
          have hO := hO.pull 4 rfl
          have hO := hO.pull 4 rfl
          have hO : St _ _ _ [_, _, _, _, _, _] := hO
          refine wl_e hF rfl rfl rfl (c_call hF rfl rfl Tryd.call35 (llay_r _ _ _ _ _ hO.own2 _ _ [[125]] (by decide) (by omega) (hO.rdT2 0 rfl))) ?_
          rintro a _ w ⟨vo, rfl, hS⟩ hF
          have hO := hO.call2 hS
          have hO : St _ _ _ [_, _, _, _, _, _] := hO
          refine wl_nil ?_
          refine b_n ?_
          refine k_n ?_
          refine wp_region_lit ?_
          refine wl_v hF rfl rfl rfl (q_add rfl (hF.eval rfl) (hF.eval rfl) (by omega)) fun a hF => ?_
          refine wl_v hF rfl rfl rfl (q_move rfl (hF.eval rfl)) fun a hF => ?_
          refine wl_nil ?_
          refine k_n ?_
          have hO := hO.drop1 2
          have hO := hO.drop1 2
          have hO := hO.pull 3 rfl
          have hO := hO.pull 2 rfl
          have hO := hO.pull 2 rfl
          have hO := hO.pull 3 rfl
          have hO : St _ _ _ [_, _, _, _] := hO
          exact ⟨(i + 1, o2 ++ [laidT [125] t], _), ⟨⟨by omega, shut_yes (i := k + i) (Nat.le_add_right k i) hx hc4 ho2, by simp; omega⟩, hO, hF.sub ⟨rfl, rfl, rfl, rfl, rfl, rfl, trivial⟩⟩, by dsimp only; omega⟩
        · skip
          refine wp_skip ?_
          refine b_n ?_
          refine k_n ?_
          refine wp_region_lit ?_
          refine wl_v hF rfl rfl rfl (q_add rfl (hF.eval rfl) (hF.eval rfl) (by omega)) fun a hF => ?_
          refine wl_v hF rfl rfl rfl (q_move rfl (hF.eval rfl)) fun a hF => ?_
          refine wl_nil ?_
          refine k_n ?_
          have hO := hO.drop1 0
          have hO : St _ _ _ [_, _, _, _] := hO
          exact ⟨(i + 1, o2, vo), ⟨⟨by omega, shut_no (i := k + i) (Nat.le_add_right k i) hx hc4 ho2, by omega⟩, hO, hF.sub ⟨rfl, rfl, rfl, rfl, rfl, rfl, trivial⟩⟩, by dsimp only; omega⟩
      · skip
        obtain rfl : i = st0.length - k := by omega
        rw [show k + (st0.length - k) = st0.length by omega, List.take_length] at ho2
        refine wp_exit ?_
        refine k_x ?_
        refine k_x ?_
        refine b_x ?_
        refine k_n ?_
        refine wp_seq ?_
        refine wp_region_lit ?_
        refine wl_v hF rfl rfl rfl (q_move rfl (hF.eval rfl)) fun a hF => ?_
        refine wl_v hF rfl rfl rfl (q_move rfl (hF.eval rfl)) fun a hF => ?_
        refine wl_v hF rfl rfl rfl (q_nilCheck rfl (hF.eval rfl)) fun a hF => ?_
        refine wl_v hF rfl rfl rfl (q_fieldAddr0 (d := 1) Tryd.underlying56 rfl (hF.eval rfl) rfl Tryd.sizeOf54 (by decide) rfl) fun a hF => ?_
        refine wl_v hF rfl rfl rfl (q_load Tryd.isAgg54 rfl (hF.eval rfl) (hO.cell 1 rfl rfl)) fun a hF => ?_
        refine wl_v hF rfl rfl rfl (q_move rfl (hF.eval rfl)) fun a hF => ?_
        refine wl_v hF rfl rfl rfl (q_add rfl (hF.eval rfl) (hF.eval rfl) (by omega)) fun a hF => ?_
        refine wl_v hF rfl rfl rfl (q_resl (j := k) (hO.rd 3 rfl) Tryd.underlying54 Tryd.sizeOf63 rfl (hF.eval rfl) ((hF.eval rfl).trans (congrArg i64 (show (k : Int) - 1 + 1 = ((k : Nat) : Int) by omega))) (by omega)) fun a hF => ?_
        have hO := hO.reslT (i := 3) (j := k) rfl (by omega)
        have hO : St _ _ _ [_, _, _, _] := hO
        refine wl_v hF rfl rfl rfl (q_nilCheck rfl (hF.eval rfl)) fun a hF => ?_
        refine wl_v hF rfl rfl rfl (q_fieldAddr0 (d := 1) Tryd.underlying56 rfl (hF.eval rfl) rfl Tryd.sizeOf54 (by decide) rfl) fun a hF => ?_
        refine wl_s hF rfl rfl (e_store1 hO (i := 1) rfl Tryd.sizeOf54 rfl (hF.eval rfl) (hF.eval rfl) (cells_one (hO.slOne 3 rfl)) rfl (hO.slOne 3 rfl)) ?_
        rintro a _ w ⟨-, hO⟩ hF
        have hO : St _ _ _ [_, _, _, _] := hO
        refine wl_nil ?_
        refine k_n ?_
        refine wp_block ?_
        refine wp_seq ?_
        refine wp_region_lit ?_
        refine wl_v hF rfl rfl rfl (q_loadAgg Tryd.isAgg33 Tryd.sizeOf33 rfl (hF.eval rfl) (hO.cells 0 rfl) rfl) fun a hF => ?_
        refine wl_e hF rfl rfl rfl (c_buildSlice hF hO Tryd.underlying45 Tryd.sizeOf9 Tryd.zeroValue9 rfl rfl rfl rfl rfl rfl rfl) ?_
        rintro a _ w ⟨ws, rfl, hO⟩ hF
        refine wl_e hF rfl rfl rfl (c_call hF rfl rfl Tryd.call34 (is_r _ _ _ [[44]] (by decide) (hO.rdT 0 rfl))) ?_
        rintro a _ w ⟨rfl, hS⟩ hF
        have hO := hO.call0 hS
        have hO : St _ _ _ [_, _, _, _, _] := hO
        refine wl_v hF rfl rfl rfl (q_assign rfl (hF.eval rfl)) fun a hF => ?_
        refine wl_nil ?_
        refine k_n ?_
        refine wp_ifD hF rfl rfl (fun hc5 => ?_) (fun hc5 => ?_)
        · skip
          have h44 : wordF t = [44] := List.mem_singleton.1 ((isP_iff (by decide)).1 hc5)
          refine wp_skip ?_
          refine b_n ?_
          refine r_0n hF rfl ?_
          have hO := hO.drop1 0
          have hO := hO.drop1 0
          have hO : St _ _ _ [_, _, _] := hO
          have e := clos_4 (fun e => e hcp) hpe hc2 ho2 (by rw [h44]; decide) (fun h => h h44)
          have hl := clos_len t out0 st0
          rw [e] at hl
          exact ⟨_, _, _, _, rfl, e, hk0.take _, hl, hO⟩
        · skip
          have h44 : ¬ wordF t = [44] := fun h => hc5 ((isP_iff (by decide)).2 (List.mem_singleton.2 h))
          refine wp_seq ?_
          refine wp_region_lit ?_
          refine wl_v hF rfl rfl rfl (q_loadAgg Tryd.isAgg33 Tryd.sizeOf33 rfl (hF.eval rfl) (hO.cells 1 rfl) rfl) fun a hF => ?_
          refine wl_e hF rfl rfl rfl (c_buildSlice hF hO Tryd.underlying45 Tryd.sizeOf9 Tryd.zeroValue9 rfl rfl rfl rfl rfl rfl rfl) ?_
          rintro a _ w ⟨ws2, rfl, hO⟩ hF
          refine wl_e hF rfl rfl rfl (c_call hF rfl rfl Tryd.call34 (is_r _ _ _ [wThen] (by decide) (hO.rdT 0 rfl))) ?_
          rintro a _ w ⟨rfl, hS⟩ hF
          have hO := hO.call0 hS
          have hO : St _ _ _ [_, _, _, _, _, _] := hO
          refine wl_v hF rfl rfl rfl (q_assign rfl (hF.eval rfl)) fun a hF => ?_
          refine wl_nil ?_
          refine k_n ?_
          refine wp_ifD hF rfl rfl (fun hc6 => ?_) (fun hc6 => ?_)
          · skip
            have hth : wordF t = wThen := List.mem_singleton.1 ((isP_iff (by decide)).1 hc6)
            refine wp_region_lit ?_
            refine wl_v hF rfl rfl rfl (q_move rfl (hF.eval rfl)) fun a hF => ?_
            refine wl_v hF rfl rfl rfl (q_nilCheck rfl (hF.eval rfl)) fun a hF => ?_
            refine wl_v hF rfl rfl rfl (q_fieldAddr0 (d := 1) Tryd.underlying56 rfl (hF.eval rfl) rfl Tryd.sizeOf54 (by decide) rfl) fun a hF => ?_
            refine wl_v hF rfl rfl rfl (q_load Tryd.isAgg54 rfl (hF.eval rfl) (hO.cell 3 rfl rfl)) fun a hF => ?_
            refine wl_v hF rfl rfl rfl (q_move rfl (hF.eval rfl)) fun a hF => ?_
            refine wl_v hF rfl rfl rfl (c_build hF Tryd.underlying63 Tryd.zeroValue63 Tryd_places63 rfl rfl rfl rfl) fun a hF => ?_
            refine wl_v hF rfl rfl rfl (q_at (i := k - 1) (hO.rd 5 rfl) Tryd.underlying54 Tryd.sizeOf63 rfl (hF.eval rfl) ((hF.eval rfl).trans (congrArg i64 (show (k : Int) - 1 = ((k - 1 : Nat) : Int) by have := not_or.1 hc2; omega))) (by have := not_or.1 hc2; rw [List.length_take]; omega)) fun a hF => ?_
            refine wl_s hF rfl rfl (e_storeElT (m := k - 1) (off := 0) (q := ⟨wThen, 0⟩) hO (i := 5) rfl Tryd.sizeOf63 rfl (hF.eval rfl) rfl (hF.eval rfl) rfl (get_D (d := thg0) (by rw [List.length_take]; have := not_or.1 hc2; omega)) rfl (Nat.le_of_ble_eq_true rfl) rfl (all1 rfl)) ?_
            rintro a _ w ⟨-, hO⟩ hF
            have hO : St _ _ _ [_, _, _, _, _, _] := hO
            refine wl_nil ?_
            refine b_n ?_
            refine r_0n hF rfl ?_
            have hO := hO.drop1 0
            have hO := hO.drop1 0
            have hO := hO.drop1 0
            have hO : St _ _ _ [_, _, _] := hO
            have hz := fin_col hk0 hk hc2
            have e := (clos_2 (fun e => e hcp) hpe hc2 ho2 hth hk).trans (by rw [hz])
            have hl := clos_len t out0 st0
            rw [e] at hl
            exact ⟨_, _, _, _, rfl, e, (hk0.take _).set _ ⟨by decide, fun _ => rfl⟩, hl, hO⟩
          · skip
            have hth : ¬ wordF t = wThen := fun h => hc6 ((isP_iff (by decide)).2 (List.mem_singleton.2 h))
            refine wp_region_lit ?_
            refine wl_v hF rfl rfl rfl (q_move rfl (hF.eval rfl)) fun a hF => ?_
            refine wl_v hF rfl rfl rfl (q_move rfl (hF.eval rfl)) fun a hF => ?_
            refine wl_v hF rfl rfl rfl (q_nilCheck rfl (hF.eval rfl)) fun a hF => ?_
            refine wl_v hF rfl rfl rfl (q_fieldAddr0 (d := 1) Tryd.underlying56 rfl (hF.eval rfl) rfl Tryd.sizeOf54 (by decide) rfl) fun a hF => ?_
            refine wl_v hF rfl rfl rfl (q_load Tryd.isAgg54 rfl (hF.eval rfl) (hO.cell 3 rfl rfl)) fun a hF => ?_
            refine wl_v hF rfl rfl rfl (q_move rfl (hF.eval rfl)) fun a hF => ?_
            refine wl_v hF rfl rfl rfl (q_resl (j := k - 1) (hO.rd 5 rfl) Tryd.underlying54 Tryd.sizeOf63 rfl (hF.eval rfl) ((hF.eval rfl).trans (congrArg i64 (show (k : Int) - 1 = ((k - 1 : Nat) : Int) by have := not_or.1 hc2; omega))) (by rw [List.length_take]; omega)) fun a hF => ?_
            have hO := hO.reslT (i := 5) (j := k - 1) rfl (by rw [List.length_take]; omega)
            have hO : St _ _ _ [_, _, _, _, _, _] := hO
            refine wl_v hF rfl rfl rfl (q_nilCheck rfl (hF.eval rfl)) fun a hF => ?_
            refine wl_v hF rfl rfl rfl (q_fieldAddr0 (d := 1) Tryd.underlying56 rfl (hF.eval rfl) rfl Tryd.sizeOf54 (by decide) rfl) fun a hF => ?_
            refine wl_s hF rfl rfl (e_store1 hO (i := 3) rfl Tryd.sizeOf54 rfl (hF.eval rfl) (hF.eval rfl) (cells_one (hO.slOne 5 rfl)) rfl (hO.slOne 5 rfl)) ?_
            rintro a _ w ⟨-, hO⟩ hF
            have hO : St _ _ _ [_, _, _, _, _, _] := hO
            refine wl_nil ?_
            refine b_n ?_
            refine r_0n hF rfl ?_
            have hO := hO.drop1 0
            have hO := hO.drop1 0
            have hO := hO.drop1 0
            have hO : St _ _ _ [_, _, _] := hO
            have e := clos_3 (fun e => e hcp) hpe hc2 ho2 hth h44
            have hl := clos_len t out0 st0
            rw [e] at hl
            exact ⟨_, _, _, _, rfl, e, (hk0.take _).take _, hl, hO⟩

end Go.Proofs.YtnnagjbkpmkelaaDoor
