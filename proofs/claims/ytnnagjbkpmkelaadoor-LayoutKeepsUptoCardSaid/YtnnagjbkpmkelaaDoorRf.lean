import Derived.Test.YtnnagjbkpmkelaaDoorRe
import Derived.Test.YtnnagjbkpmkelaaDoorPl2
import Derived.Test.YtnnagjbkpmkelaaDoorGw9
namespace Go.Proofs.YtnnagjbkpmkelaaDoor
open Go
set_option maxRecDepth 100000
theorem word_r (w0 : World) (t : Tok) : Ret Tryd.prog 38 #[.agg (tokE.cells t).toArray] w0 (fun v w' => v = str (wordF t) ∧ St w0 [] w' []) := by
  have hO := St.init0 w0
  refine ret_of (m := 13) Tryd.func38 rfl Tryd.ntmps38 [(0, .agg (tokE.cells t).toArray)] rfl ⟨rfl, trivial⟩ fun a hF => ?_
  refine wp_seq ?_
  refine wp_region_lit ?_
  refine wl_e hF rfl rfl rfl (e_box hO rfl (hF.eval rfl) rfl) ?_
  rintro a _ w ⟨b1, rfl, hO⟩ hF
  refine wl_v hF rfl rfl rfl (q_assign rfl (hF.eval rfl)) fun a hF => ?_
  refine wl_nil ?_
  refine k_n ?_
  refine wp_seq ?_
  refine wp_seq ?_
  refine wp_region_lit ?_
  refine wl_v hF rfl rfl rfl (q_fieldAddr0 (d := 0) Tryd.underlying33 rfl (hF.eval rfl) rfl Tryd.sizeOf3 (by decide) rfl) fun a hF => ?_
  refine wl_v hF rfl rfl rfl (q_load Tryd.isAgg3 rfl (hF.eval rfl) (hO.cell 0 rfl rfl)) fun a hF => ?_
  refine wl_v hF rfl rfl rfl (q_eq rfl (hF.eval rfl) (hF.eval rfl)) fun a hF => ?_
  refine wl_v hF rfl rfl rfl (q_move rfl (hF.eval rfl)) fun a hF => ?_
  refine wl_g hF rfl rfl rfl rfl rfl rfl (fun hg => q_fieldAddr0 (d := 0) Tryd.underlying33 rfl (hF.eval rfl) rfl Tryd.sizeOf3 (by decide) rfl) fun a hF => ?_
  refine wl_g hF rfl rfl rfl rfl rfl rfl (fun hg => q_load Tryd.isAgg3 rfl ((hF.eval rfl).trans (gv_of hg)) (hO.cell 0 rfl rfl)) fun a hF => ?_
  refine wl_g hF rfl rfl rfl rfl rfl rfl (fun hg => q_eq rfl ((hF.eval rfl).trans (gv_of hg)) (hF.eval rfl)) fun a hF => ?_
  refine wl_v hF rfl rfl rfl (q_or rfl (hF.eval rfl) rfl (fun hg2 => ((hF.eval rfl).trans (gv_of hg2))) rfl) fun a hF => ?_
  refine wl_nil ?_
  refine k_n ?_
  refine wp_ifD hF rfl rfl (fun hc1 => ?_) (fun hc1 => ?_)
  · skip
    refine wp_seq ?_
    refine wp_region_lit ?_
    refine wl_v hF rfl rfl rfl (q_fieldAddr0 (d := 1) Tryd.underlying33 rfl (hF.eval rfl) rfl Tryd.sizeOf9 (by decide) rfl) fun a hF => ?_
    refine wl_v hF rfl rfl rfl (q_load Tryd.isAgg9 rfl (hF.eval rfl) (hO.cell 0 rfl rfl)) fun a hF => ?_
    refine wl_v hF rfl rfl rfl (q_assign rfl (hF.eval rfl)) fun a hF => ?_
    refine wl_nil ?_
    refine k_n ?_
    refine wp_ret ?_
    refine k_r ?_
    refine r_1 hF rfl rfl ?_
    have hO := hO.drop1 0
    have hO : St _ _ _ [] := hO
    exact ⟨congrArg str (if_pos hc1).symm, hO⟩
  · skip
    refine wp_skip ?_
    refine k_n ?_
    refine wp_seq ?_
    refine wp_region_lit ?_
    refine wl_v hF rfl rfl rfl (q_assign rfl (hF.eval rfl)) fun a hF => ?_
    refine wl_nil ?_
    refine k_n ?_
    refine wp_ret ?_
    refine r_1 hF rfl rfl ?_
    have hO := hO.drop1 0
    have hO : St _ _ _ [] := hO
    exact ⟨congrArg str (if_neg hc1).symm, hO⟩

theorem opener_r (w0 : World) (w : List UInt8) : Ret Tryd.prog 37 #[str w] w0 (fun v w' => v = .bool (decide (openP w)) ∧ St w0 [] w' []) := by
  have hO := St.init0 w0
  refine ret_of (m := 17) Tryd.func37 rfl Tryd.ntmps37 [(0, str w)] rfl ⟨rfl, trivial⟩ fun a hF => ?_
  refine wp_seq ?_
  refine wp_region_lit ?_
  refine wl_v hF rfl rfl rfl (q_assign rfl (hF.eval rfl)) fun a hF => ?_
  refine wl_nil ?_
  refine k_n ?_
  refine wp_seq ?_
  refine wp_region_lit ?_
  refine wl_v hF rfl rfl rfl (q_move rfl (hF.eval rfl)) fun a hF => ?_
  refine wl_v hF rfl rfl rfl (q_seq rfl (hF.eval rfl) (hF.eval rfl)) fun a hF => ?_
  refine wl_v hF rfl rfl rfl (q_move rfl (hF.eval rfl)) fun a hF => ?_
  refine wl_g hF rfl rfl rfl rfl rfl rfl (fun hg => q_move rfl (hF.eval rfl)) fun a hF => ?_
  refine wl_g hF rfl rfl rfl rfl rfl rfl (fun hg => q_seq rfl ((hF.eval rfl).trans (gv_of hg)) (hF.eval rfl)) fun a hF => ?_
  refine wl_v hF rfl rfl rfl (q_or rfl (hF.eval rfl) rfl (fun hg2 => ((hF.eval rfl).trans (gv_of hg2))) rfl) fun a hF => ?_
  refine wl_v hF rfl rfl rfl (q_move rfl (hF.eval rfl)) fun a hF => ?_
  refine wl_g hF rfl rfl rfl rfl rfl rfl (fun hg => q_move rfl (hF.eval rfl)) fun a hF => ?_
  refine wl_g hF rfl rfl rfl rfl rfl rfl (fun hg => q_seq rfl ((hF.eval rfl).trans (gv_of hg)) (hF.eval rfl)) fun a hF => ?_
  refine wl_v hF rfl rfl rfl (q_or rfl (hF.eval rfl) rfl (fun hg2 => ((hF.eval rfl).trans (gv_of hg2))) rfl) fun a hF => ?_
  refine wl_v hF rfl rfl rfl (q_move rfl (hF.eval rfl)) fun a hF => ?_
  refine wl_g hF rfl rfl rfl rfl rfl rfl (fun hg => q_move rfl (hF.eval rfl)) fun a hF => ?_
  refine wl_g hF rfl rfl rfl rfl rfl rfl (fun hg => q_seq rfl ((hF.eval rfl).trans (gv_of hg)) (hF.eval rfl)) fun a hF => ?_
  refine wl_v hF rfl rfl rfl (q_or rfl (hF.eval rfl) rfl (fun hg2 => ((hF.eval rfl).trans (gv_of hg2))) rfl) fun a hF => ?_
  refine wl_v hF rfl rfl rfl (q_assign rfl (hF.eval rfl)) fun a hF => ?_
  refine wl_nil ?_
  refine k_n ?_
  refine wp_ret ?_
  refine r_1 hF rfl rfl ?_
  exact ⟨congrArg Value.bool (decide_eq_decide.2 Iff.rfl), hO⟩

theorem closer_r (w0 : World) (w : List UInt8) : Ret Tryd.prog 48 #[str w] w0 (fun v w' => v = .bool (decide (closeP w)) ∧ St w0 [] w' []) := by
  have hO := St.init0 w0
  refine ret_of (m := 33) Tryd.func48 rfl Tryd.ntmps48 [(0, str w)] rfl ⟨rfl, trivial⟩ fun a hF => ?_
  refine wp_seq ?_
  refine wp_region_lit ?_
  refine wl_v hF rfl rfl rfl (q_assign rfl (hF.eval rfl)) fun a hF => ?_
  refine wl_nil ?_
  refine k_n ?_
  refine wp_seq ?_
  refine wp_region_lit ?_
  refine wl_v hF rfl rfl rfl (q_move rfl (hF.eval rfl)) fun a hF => ?_
  refine wl_v hF rfl rfl rfl (q_seq rfl (hF.eval rfl) (hF.eval rfl)) fun a hF => ?_
  refine wl_v hF rfl rfl rfl (q_move rfl (hF.eval rfl)) fun a hF => ?_
  refine wl_g hF rfl rfl rfl rfl rfl rfl (fun hg => q_move rfl (hF.eval rfl)) fun a hF => ?_
  refine wl_g hF rfl rfl rfl rfl rfl rfl (fun hg => q_seq rfl ((hF.eval rfl).trans (gv_of hg)) (hF.eval rfl)) fun a hF => ?_
  refine wl_v hF rfl rfl rfl (q_or rfl (hF.eval rfl) rfl (fun hg2 => ((hF.eval rfl).trans (gv_of hg2))) rfl) fun a hF => ?_
  refine wl_v hF rfl rfl rfl (q_move rfl (hF.eval rfl)) fun a hF => ?_
  refine wl_g hF rfl rfl rfl rfl rfl rfl (fun hg => q_move rfl (hF.eval rfl)) fun a hF => ?_
  refine wl_g hF rfl rfl rfl rfl rfl rfl (fun hg => q_seq rfl ((hF.eval rfl).trans (gv_of hg)) (hF.eval rfl)) fun a hF => ?_
  refine wl_v hF rfl rfl rfl (q_or rfl (hF.eval rfl) rfl (fun hg2 => ((hF.eval rfl).trans (gv_of hg2))) rfl) fun a hF => ?_
  refine wl_v hF rfl rfl rfl (q_move rfl (hF.eval rfl)) fun a hF => ?_
  refine wl_g hF rfl rfl rfl rfl rfl rfl (fun hg => q_move rfl (hF.eval rfl)) fun a hF => ?_
  refine wl_g hF rfl rfl rfl rfl rfl rfl (fun hg => q_seq rfl ((hF.eval rfl).trans (gv_of hg)) (hF.eval rfl)) fun a hF => ?_
  refine wl_v hF rfl rfl rfl (q_or rfl (hF.eval rfl) rfl (fun hg2 => ((hF.eval rfl).trans (gv_of hg2))) rfl) fun a hF => ?_
  refine wl_v hF rfl rfl rfl (q_move rfl (hF.eval rfl)) fun a hF => ?_
  refine wl_g hF rfl rfl rfl rfl rfl rfl (fun hg => q_move rfl (hF.eval rfl)) fun a hF => ?_
  refine wl_g hF rfl rfl rfl rfl rfl rfl (fun hg => q_seq rfl ((hF.eval rfl).trans (gv_of hg)) (hF.eval rfl)) fun a hF => ?_
  refine wl_v hF rfl rfl rfl (q_or rfl (hF.eval rfl) rfl (fun hg2 => ((hF.eval rfl).trans (gv_of hg2))) rfl) fun a hF => ?_
  refine wl_v hF rfl rfl rfl (q_move rfl (hF.eval rfl)) fun a hF => ?_
  refine wl_g hF rfl rfl rfl rfl rfl rfl (fun hg => q_move rfl (hF.eval rfl)) fun a hF => ?_
  refine wl_g hF rfl rfl rfl rfl rfl rfl (fun hg => q_seq rfl ((hF.eval rfl).trans (gv_of hg)) (hF.eval rfl)) fun a hF => ?_
  refine wl_v hF rfl rfl rfl (q_or rfl (hF.eval rfl) rfl (fun hg2 => ((hF.eval rfl).trans (gv_of hg2))) rfl) fun a hF => ?_
  refine wl_v hF rfl rfl rfl (q_move rfl (hF.eval rfl)) fun a hF => ?_
  refine wl_g hF rfl rfl rfl rfl rfl rfl (fun hg => q_move rfl (hF.eval rfl)) fun a hF => ?_
  refine wl_g hF rfl rfl rfl rfl rfl rfl (fun hg => q_seq rfl ((hF.eval rfl).trans (gv_of hg)) (hF.eval rfl)) fun a hF => ?_
  refine wl_v hF rfl rfl rfl (q_or rfl (hF.eval rfl) rfl (fun hg2 => ((hF.eval rfl).trans (gv_of hg2))) rfl) fun a hF => ?_
  refine wl_v hF rfl rfl rfl (q_move rfl (hF.eval rfl)) fun a hF => ?_
  refine wl_g hF rfl rfl rfl rfl rfl rfl (fun hg => q_move rfl (hF.eval rfl)) fun a hF => ?_
  refine wl_g hF rfl rfl rfl rfl rfl rfl (fun hg => q_seq rfl ((hF.eval rfl).trans (gv_of hg)) (hF.eval rfl)) fun a hF => ?_
  refine wl_v hF rfl rfl rfl (q_or rfl (hF.eval rfl) rfl (fun hg2 => ((hF.eval rfl).trans (gv_of hg2))) rfl) fun a hF => ?_
  refine wl_v hF rfl rfl rfl (q_assign rfl (hF.eval rfl)) fun a hF => ?_
  refine wl_nil ?_
  refine k_n ?_
  refine wp_ret ?_
  refine r_1 hF rfl rfl ?_
  exact ⟨congrArg Value.bool (decide_eq_decide.2 Iff.rfl), hO⟩

theorem loose_r (w0 : World) (x : Thg) : Ret Tryd.prog 54 #[.agg (thgE.cells x).toArray] w0 (fun v w' => v = .bool (decide (looseP x)) ∧ St w0 [] w' []) := by
  have hO := St.init0 w0
  refine ret_of (m := 11) Tryd.func54 rfl Tryd.ntmps54 [(0, .agg (thgE.cells x).toArray)] rfl ⟨rfl, trivial⟩ fun a hF => ?_
  refine wp_seq ?_
  refine wp_region_lit ?_
  refine wl_e hF rfl rfl rfl (e_box hO rfl (hF.eval rfl) rfl) ?_
  rintro a _ w ⟨b1, rfl, hO⟩ hF
  refine wl_v hF rfl rfl rfl (q_assign rfl (hF.eval rfl)) fun a hF => ?_
  refine wl_nil ?_
  refine k_n ?_
  refine wp_seq ?_
  refine wp_region_lit ?_
  refine wl_v hF rfl rfl rfl (q_fieldAddr0 (d := 0) Tryd.underlying79 rfl (hF.eval rfl) rfl Tryd.sizeOf9 (by decide) rfl) fun a hF => ?_
  refine wl_v hF rfl rfl rfl (q_load Tryd.isAgg9 rfl (hF.eval rfl) (hO.cell 0 rfl rfl)) fun a hF => ?_
  refine wl_v hF rfl rfl rfl (q_seq rfl (hF.eval rfl) (hF.eval rfl)) fun a hF => ?_
  refine wl_v hF rfl rfl rfl (q_move rfl (hF.eval rfl)) fun a hF => ?_
  refine wl_g hF rfl rfl rfl rfl rfl rfl (fun hg => q_fieldAddr0 (d := 0) Tryd.underlying79 rfl (hF.eval rfl) rfl Tryd.sizeOf9 (by decide) rfl) fun a hF => ?_
  refine wl_g hF rfl rfl rfl rfl rfl rfl (fun hg => q_load Tryd.isAgg9 rfl ((hF.eval rfl).trans (gv_of hg)) (hO.cell 0 rfl rfl)) fun a hF => ?_
  refine wl_g hF rfl rfl rfl rfl rfl rfl (fun hg => q_seq rfl ((hF.eval rfl).trans (gv_of hg)) (hF.eval rfl)) fun a hF => ?_
  refine wl_v hF rfl rfl rfl (q_or rfl (hF.eval rfl) rfl (fun hg2 => ((hF.eval rfl).trans (gv_of hg2))) rfl) fun a hF => ?_
  refine wl_v hF rfl rfl rfl (q_assign rfl (hF.eval rfl)) fun a hF => ?_
  refine wl_nil ?_
  refine k_n ?_
  refine wp_ret ?_
  refine r_1 hF rfl rfl ?_
  have hO := hO.drop1 0
  have hO : St _ _ _ [] := hO
  exact ⟨congrArg Value.bool (decide_eq_decide.2 Iff.rfl), hO⟩

theorem fits_r (w0 : World) (x w : List UInt8) : Ret Tryd.prog 53 #[str x, str w] w0 (fun v w' => v = .bool (fitsP x w) ∧ St w0 [] w' []) := by
  have hO := St.init0 w0
  refine ret_of (m := 52) Tryd.func53 rfl Tryd.ntmps53 [(0, str x), (1, str w)] rfl ⟨rfl, rfl, trivial⟩ fun a hF => ?_
  refine wp_seq ?_
  refine wp_region_lit ?_
  refine wl_v hF rfl rfl rfl (q_assign rfl (hF.eval rfl)) fun a hF => ?_
  refine wl_nil ?_
  refine k_n ?_
  refine wp_seq ?_
  refine wp_seq ?_
  refine wp_region_lit ?_
  refine wl_v hF rfl rfl rfl (q_move rfl (hF.eval rfl)) fun a hF => ?_
  refine wl_nil ?_
  refine k_n ?_
  refine wp_block ?_
  refine wp_seq ?_
  refine wp_region_lit ?_
  refine wl_v hF rfl rfl rfl (q_seq rfl (hF.eval rfl) (hF.eval rfl)) fun a hF => ?_
  refine wl_v hF rfl rfl rfl (q_assign rfl (hF.eval rfl)) fun a hF => ?_
  refine wl_nil ?_
  refine k_n ?_
  refine wp_ifD hF rfl rfl (fun hc1 => ?_) (fun hc1 => ?_)
  · skip
    refine wp_seq ?_
    refine wp_region_lit ?_
    refine wl_v hF rfl rfl rfl (q_move rfl (hF.eval rfl)) fun a hF => ?_
    refine wl_v hF rfl rfl rfl (q_seq rfl (hF.eval rfl) (hF.eval rfl)) fun a hF => ?_
    refine wl_v hF rfl rfl rfl (q_assign rfl (hF.eval rfl)) fun a hF => ?_
    refine wl_nil ?_
    refine k_n ?_
    refine wp_ret ?_
    refine b_r ?_
    refine k_r ?_
    refine r_1 hF rfl rfl ?_
    have e : fitsP x w = _ := (if_pos hc1)
    exact ⟨congrArg Value.bool (e.trans (decide_eq_decide.2 Iff.rfl)).symm, hO⟩
  · skip
    refine wp_seq ?_
    refine wp_region_lit ?_
    refine wl_v hF rfl rfl rfl (q_seq rfl (hF.eval rfl) (hF.eval rfl)) fun a hF => ?_
    refine wl_v hF rfl rfl rfl (q_assign rfl (hF.eval rfl)) fun a hF => ?_
    refine wl_nil ?_
    refine k_n ?_
    refine wp_ifD hF rfl rfl (fun hc2 => ?_) (fun hc2 => ?_)
    · skip
      refine wp_seq ?_
      refine wp_region_lit ?_
      refine wl_v hF rfl rfl rfl (q_move rfl (hF.eval rfl)) fun a hF => ?_
      refine wl_v hF rfl rfl rfl (q_seq rfl (hF.eval rfl) (hF.eval rfl)) fun a hF => ?_
      refine wl_v hF rfl rfl rfl (q_assign rfl (hF.eval rfl)) fun a hF => ?_
      refine wl_nil ?_
      refine k_n ?_
      refine wp_ret ?_
      refine b_r ?_
      refine k_r ?_
      refine r_1 hF rfl rfl ?_
      have e : fitsP x w = _ := (if_neg hc1).trans ((if_pos hc2))
      exact ⟨congrArg Value.bool (e.trans (decide_eq_decide.2 Iff.rfl)).symm, hO⟩
    · skip
      refine wp_seq ?_
      refine wp_region_lit ?_
      refine wl_v hF rfl rfl rfl (q_seq rfl (hF.eval rfl) (hF.eval rfl)) fun a hF => ?_
      refine wl_v hF rfl rfl rfl (q_assign rfl (hF.eval rfl)) fun a hF => ?_
      refine wl_nil ?_
      refine k_n ?_
      refine wp_ifD hF rfl rfl (fun hc3 => ?_) (fun hc3 => ?_)
      · skip
        refine wp_seq ?_
        refine wp_region_lit ?_
        refine wl_v hF rfl rfl rfl (q_move rfl (hF.eval rfl)) fun a hF => ?_
        refine wl_v hF rfl rfl rfl (q_seq rfl (hF.eval rfl) (hF.eval rfl)) fun a hF => ?_
        refine wl_v hF rfl rfl rfl (q_move rfl (hF.eval rfl)) fun a hF => ?_
        refine wl_g hF rfl rfl rfl rfl rfl rfl (fun hg => q_move rfl (hF.eval rfl)) fun a hF => ?_
        refine wl_g hF rfl rfl rfl rfl rfl rfl (fun hg => q_seq rfl ((hF.eval rfl).trans (gv_of hg)) (hF.eval rfl)) fun a hF => ?_
        refine wl_v hF rfl rfl rfl (q_or rfl (hF.eval rfl) rfl (fun hg2 => ((hF.eval rfl).trans (gv_of hg2))) rfl) fun a hF => ?_
        refine wl_v hF rfl rfl rfl (q_assign rfl (hF.eval rfl)) fun a hF => ?_
        refine wl_nil ?_
        refine k_n ?_
        refine wp_ret ?_
        refine b_r ?_
        refine k_r ?_
        refine r_1 hF rfl rfl ?_
        have e : fitsP x w = _ := (if_neg hc1).trans ((if_neg hc2).trans ((if_pos hc3)))
        exact ⟨congrArg Value.bool (e.trans (decide_eq_decide.2 Iff.rfl)).symm, hO⟩
      · skip
        refine wp_seq ?_
        refine wp_region_lit ?_
        refine wl_v hF rfl rfl rfl (q_seq rfl (hF.eval rfl) (hF.eval rfl)) fun a hF => ?_
        refine wl_v hF rfl rfl rfl (q_assign rfl (hF.eval rfl)) fun a hF => ?_
        refine wl_nil ?_
        refine k_n ?_
        refine wp_ifD hF rfl rfl (fun hc4 => ?_) (fun hc4 => ?_)
        · skip
          refine wp_seq ?_
          refine wp_region_lit ?_
          refine wl_v hF rfl rfl rfl (q_move rfl (hF.eval rfl)) fun a hF => ?_
          refine wl_v hF rfl rfl rfl (q_seq rfl (hF.eval rfl) (hF.eval rfl)) fun a hF => ?_
          refine wl_v hF rfl rfl rfl (q_move rfl (hF.eval rfl)) fun a hF => ?_
          refine wl_g hF rfl rfl rfl rfl rfl rfl (fun hg => q_move rfl (hF.eval rfl)) fun a hF => ?_
          refine wl_g hF rfl rfl rfl rfl rfl rfl (fun hg => q_seq rfl ((hF.eval rfl).trans (gv_of hg)) (hF.eval rfl)) fun a hF => ?_
          refine wl_v hF rfl rfl rfl (q_or rfl (hF.eval rfl) rfl (fun hg2 => ((hF.eval rfl).trans (gv_of hg2))) rfl) fun a hF => ?_
          refine wl_v hF rfl rfl rfl (q_move rfl (hF.eval rfl)) fun a hF => ?_
          refine wl_g hF rfl rfl rfl rfl rfl rfl (fun hg => q_move rfl (hF.eval rfl)) fun a hF => ?_
          refine wl_g hF rfl rfl rfl rfl rfl rfl (fun hg => q_seq rfl ((hF.eval rfl).trans (gv_of hg)) (hF.eval rfl)) fun a hF => ?_
          refine wl_v hF rfl rfl rfl (q_or rfl (hF.eval rfl) rfl (fun hg2 => ((hF.eval rfl).trans (gv_of hg2))) rfl) fun a hF => ?_
          refine wl_v hF rfl rfl rfl (q_assign rfl (hF.eval rfl)) fun a hF => ?_
          refine wl_nil ?_
          refine k_n ?_
          refine wp_ret ?_
          refine b_r ?_
          refine k_r ?_
          refine r_1 hF rfl rfl ?_
          have e : fitsP x w = _ := (if_neg hc1).trans ((if_neg hc2).trans ((if_neg hc3).trans ((if_pos hc4))))
          exact ⟨congrArg Value.bool (e.trans (decide_eq_decide.2 Iff.rfl)).symm, hO⟩
        · skip
          refine wp_seq ?_
          refine wp_region_lit ?_
          refine wl_v hF rfl rfl rfl (q_seq rfl (hF.eval rfl) (hF.eval rfl)) fun a hF => ?_
          refine wl_v hF rfl rfl rfl (q_assign rfl (hF.eval rfl)) fun a hF => ?_
          refine wl_nil ?_
          refine k_n ?_
          refine wp_ifD hF rfl rfl (fun hc5 => ?_) (fun hc5 => ?_)
          · skip
            refine wp_seq ?_
            refine wp_region_lit ?_
            refine wl_v hF rfl rfl rfl (q_move rfl (hF.eval rfl)) fun a hF => ?_
            refine wl_v hF rfl rfl rfl (q_seq rfl (hF.eval rfl) (hF.eval rfl)) fun a hF => ?_
            refine wl_v hF rfl rfl rfl (q_assign rfl (hF.eval rfl)) fun a hF => ?_
            refine wl_nil ?_
            refine k_n ?_
            refine wp_ret ?_
            refine b_r ?_
            refine k_r ?_
            refine r_1 hF rfl rfl ?_
            have e : fitsP x w = _ := (if_neg hc1).trans ((if_neg hc2).trans ((if_neg hc3).trans ((if_neg hc4).trans ((if_pos hc5)))))
            exact ⟨congrArg Value.bool (e.trans (decide_eq_decide.2 Iff.rfl)).symm, hO⟩
          · skip
            refine wp_seq ?_
            refine wp_region_lit ?_
            refine wl_v hF rfl rfl rfl (q_seq rfl (hF.eval rfl) (hF.eval rfl)) fun a hF => ?_
            refine wl_v hF rfl rfl rfl (q_assign rfl (hF.eval rfl)) fun a hF => ?_
            refine wl_nil ?_
            refine k_n ?_
            refine wp_ifD hF rfl rfl (fun hc6 => ?_) (fun hc6 => ?_)
            · skip
              refine wp_seq ?_
              refine wp_region_lit ?_
              refine wl_v hF rfl rfl rfl (q_move rfl (hF.eval rfl)) fun a hF => ?_
              refine wl_v hF rfl rfl rfl (q_seq rfl (hF.eval rfl) (hF.eval rfl)) fun a hF => ?_
              refine wl_v hF rfl rfl rfl (q_assign rfl (hF.eval rfl)) fun a hF => ?_
              refine wl_nil ?_
              refine k_n ?_
              refine wp_ret ?_
              refine b_r ?_
              refine k_r ?_
              refine r_1 hF rfl rfl ?_
              have e : fitsP x w = _ := (if_neg hc1).trans ((if_neg hc2).trans ((if_neg hc3).trans ((if_neg hc4).trans ((if_neg hc5).trans ((if_pos hc6))))))
              exact ⟨congrArg Value.bool (e.trans (decide_eq_decide.2 Iff.rfl)).symm, hO⟩
            · skip
              refine wp_seq ?_
              refine wp_region_lit ?_
              refine wl_v hF rfl rfl rfl (q_seq rfl (hF.eval rfl) (hF.eval rfl)) fun a hF => ?_
              refine wl_v hF rfl rfl rfl (q_assign rfl (hF.eval rfl)) fun a hF => ?_
              refine wl_nil ?_
              refine k_n ?_
              refine wp_ifD hF rfl rfl (fun hc7 => ?_) (fun hc7 => ?_)
              · skip
                refine wp_seq ?_
                refine wp_region_lit ?_
                refine wl_v hF rfl rfl rfl (q_move rfl (hF.eval rfl)) fun a hF => ?_
                refine wl_v hF rfl rfl rfl (q_seq rfl (hF.eval rfl) (hF.eval rfl)) fun a hF => ?_
                refine wl_v hF rfl rfl rfl (q_assign rfl (hF.eval rfl)) fun a hF => ?_
                refine wl_nil ?_
                refine k_n ?_
                refine wp_ret ?_
                refine b_r ?_
                refine k_r ?_
                refine r_1 hF rfl rfl ?_
                have e : fitsP x w = _ := (if_neg hc1).trans ((if_neg hc2).trans ((if_neg hc3).trans ((if_neg hc4).trans ((if_neg hc5).trans ((if_neg hc6).trans ((if_pos hc7)))))))
                exact ⟨congrArg Value.bool (e.trans (decide_eq_decide.2 Iff.rfl)).symm, hO⟩
              · skip
                refine wp_skip ?_
                refine b_n ?_
                refine k_n ?_
                refine wp_seq ?_
                refine wp_region_lit ?_
                refine wl_v hF rfl rfl rfl (q_move rfl (hF.eval rfl)) fun a hF => ?_
                refine wl_v hF rfl rfl rfl (q_seq rfl (hF.eval rfl) (hF.eval rfl)) fun a hF => ?_
                refine wl_v hF rfl rfl rfl (q_move rfl (hF.eval rfl)) fun a hF => ?_
                refine wl_g hF rfl rfl rfl rfl rfl rfl (fun hg => q_move rfl (hF.eval rfl)) fun a hF => ?_
                refine wl_g hF rfl rfl rfl rfl rfl rfl (fun hg => q_seq rfl ((hF.eval rfl).trans (gv_of hg)) (hF.eval rfl)) fun a hF => ?_
                refine wl_v hF rfl rfl rfl (q_and rfl (hF.eval rfl) rfl (fun hg2 => ((hF.eval rfl).trans (gv_of hg2))) rfl) fun a hF => ?_
                refine wl_v hF rfl rfl rfl (q_assign rfl (hF.eval rfl)) fun a hF => ?_
                refine wl_nil ?_
                refine k_n ?_
                refine wp_ret ?_
                refine r_1 hF rfl rfl ?_
                have e : fitsP x w = _ := (if_neg hc1).trans ((if_neg hc2).trans ((if_neg hc3).trans ((if_neg hc4).trans ((if_neg hc5).trans ((if_neg hc6).trans ((if_neg hc7)))))))
                exact ⟨congrArg Value.bool (e.trans (decide_eq_decide.2 Iff.rfl)).symm, hO⟩

theorem lay_r (w0 : World) (bs : Nat) (vo vs : Value) (out : List Tok) (dd : Diag) (hA : Owns w0 [.ob bs 68 (vo :: vs :: diagCells dd), slT vo 33 tokE out]) (text : List UInt8) (t : Tok) (hn : out.length ≤ 2000000000000) : Ret Tryd.prog 39 #[ptr (adr bs), str text, .agg (tokE.cells t).toArray] w0 (fun v w' => ∃ v2, v = .tuple #[] ∧ St w0 (blks [.ob bs 68 (vo :: vs :: diagCells dd), slT vo 33 tokE out]) w' [.ob bs 68 (v2 :: vs :: diagCells dd), slT v2 33 tokE (out ++ [laidT text t])]) := by
  have hO := St.init hA
  refine ret_of (m := 21) Tryd.func39 rfl Tryd.ntmps39 [(0, ptr (adr bs)), (1, str text), (2, .agg (tokE.cells t).toArray)] rfl ⟨rfl, rfl, rfl, trivial⟩ fun a hF => ?_
  refine wp_seq ?_
  refine wp_region_lit ?_
  refine wl_e hF rfl rfl rfl (e_box hO rfl (hF.eval rfl) rfl) ?_
  rintro a _ w ⟨b1, rfl, hO⟩ hF
  refine wl_nil ?_
  refine k_n ?_
  have hO := hO.drew
  refine wp_region_D [0, 0, 0, 0, 1, 0, 0, 1, 0, 1, 0, 2, 3, 0, 0, 3] (fun w => St _ _ w _) Tryd_mixed (by kernel_rfl) hO ?_
  refine wd_p hF rfl rfl rfl (fun w => q_move rfl (hF.eval rfl)) fun a hF => ?_
  refine wd_p hF rfl rfl rfl (fun w => q_move rfl (hF.eval rfl)) fun a hF => ?_
  refine wd_p hF rfl rfl rfl (fun w => q_nilCheck rfl (hF.eval rfl)) fun a hF => ?_
  refine wd_p hF rfl rfl rfl (fun w => q_fieldAddr0 (d := 0) Tryd.underlying68 rfl (hF.eval rfl) rfl Tryd.sizeOf22 (by decide) rfl) fun a hF => ?_
  refine wd_r hF rfl rfl rfl (fun w hO => q_load Tryd.isAgg22 rfl (hF.eval rfl) (hO.cell 1 rfl rfl)) fun a hF => ?_
  refine wd_p hF rfl rfl rfl (fun w => q_move rfl (hF.eval rfl)) fun a hF => ?_
  refine wd_p hF rfl rfl rfl (fun w => q_fieldAddr0 (d := 3) Tryd.underlying33 rfl (hF.eval rfl) rfl Tryd.sizeOf3 (by decide) rfl) fun a hF => ?_
  refine wd_r hF rfl rfl rfl (fun w hO => q_load Tryd.isAgg3 rfl (hF.eval rfl) (hO.cell 0 rfl rfl)) fun a hF => ?_
  refine wd_p hF rfl rfl rfl (fun w => q_fieldAddr0 (d := 4) Tryd.underlying33 rfl (hF.eval rfl) rfl Tryd.sizeOf3 (by decide) rfl) fun a hF => ?_
  refine wd_r hF rfl rfl rfl (fun w hO => q_load Tryd.isAgg3 rfl (hF.eval rfl) (hO.cell 0 rfl rfl)) fun a hF => ?_
  refine wd_p hF rfl rfl rfl (fun w => c_build hF Tryd.underlying33 Tryd.zeroValue33 Tryd_places33 rfl rfl rfl rfl) fun a hF => ?_
  refine wd_e hF rfl rfl rfl (c_buildSlice hF hO Tryd.underlying22 Tryd.sizeOf33 Tryd.zeroValue33 rfl rfl rfl rfl rfl rfl rfl) (fun _ _ ⟨_, _, hO⟩ => hO.tail) ?_
  rintro a _ w ⟨b2, rfl, hO⟩ hF
  refine wd_f hF rfl rfl rfl (e_appendT (bytes := 48) (r := [laidT text t]) hO (i := 3) rfl (hO.rd 0 rfl) Tryd.underlying22 Tryd_info33 rfl rfl rfl rfl rfl rfl (hF.eval rfl) (hF.eval rfl) (by show (List.length _ + 1) * 48 ≤ _; omega) (by show List.length _ + 1 ≤ _; omega)) ?_
  rintro a v18 w hO hF
  have hO : St _ _ _ [_, _, _, _] := hO
  refine wd_p hF rfl rfl rfl (fun w => q_nilCheck rfl (hF.eval rfl)) fun a hF => ?_
  refine wd_p hF rfl rfl rfl (fun w => q_fieldAddr0 (d := 0) Tryd.underlying68 rfl (hF.eval rfl) rfl Tryd.sizeOf22 (by decide) rfl) fun a hF => ?_
  refine wd_s hF rfl rfl (e_store1 hO (i := 2) rfl Tryd.sizeOf22 rfl (hF.eval rfl) (hF.eval rfl) (cells_one (hO.slOne 3 rfl)) rfl (hO.slOne 3 rfl)) ?_
  rintro a _ w ⟨-, hO⟩ hF
  have hO : St _ _ _ [_, _, _, _] := hO
  refine wd_nil ?_
  refine r_0n hF rfl ?_
  have hO := hO.drop1 0
  have hO := hO.drop1 0
  have hO : St _ _ _ [_, _] := hO
  exact ⟨_, rfl, hO⟩


theorem blk_le (st : List Thg) : ∀ n, blkF st n < n
  | 0 => by simp [blkF]
  | n + 1 => by
    unfold blkF
    have := blk_le st n
    split
    · omega
    · split <;> omega
theorem blk_nat {st : List Thg} {b : Nat} (h : blkF st st.length = (b : Int)) : b < st.length := by have := blk_le st st.length; omega
theorem blk_1 {st : List Thg} {k : Nat} {x : Thg} (h0 : 0 < k) (hx : st[k - 1]? = some x) (h : x.sort = []) : blkF st k = (k : Int) - 1 := by
  obtain ⟨m, rfl⟩ : ∃ m, k = m + 1 := ⟨k - 1, by omega⟩
  have e : st.getD m thg0 = x := by rw [List.getD_eq_getElem?_getD]; rw [Nat.add_sub_cancel] at hx; rw [hx]; rfl
  rw [blkF, e, if_pos h]; omega
theorem blk_2 {st : List Thg} {k : Nat} {x : Thg} (h0 : 0 < k) (hx : st[k - 1]? = some x) (h : ¬ x.sort = []) (h2 : x.sort = [123, 125]) : blkF st k = -1 := by
  obtain ⟨m, rfl⟩ : ∃ m, k = m + 1 := ⟨k - 1, by omega⟩
  have e : st.getD m thg0 = x := by rw [List.getD_eq_getElem?_getD]; rw [Nat.add_sub_cancel] at hx; rw [hx]; rfl
  rw [blkF, e, if_neg h, if_pos h2]
theorem blk_3 {st : List Thg} {k : Nat} {x : Thg} (h0 : 0 < k) (hx : st[k - 1]? = some x) (h : ¬ x.sort = []) (h2 : ¬ x.sort = [123, 125]) : blkF st k = blkF st (k - 1) := by
  obtain ⟨m, rfl⟩ : ∃ m, k = m + 1 := ⟨k - 1, by omega⟩
  have e : st.getD m thg0 = x := by rw [List.getD_eq_getElem?_getD]; rw [Nat.add_sub_cancel] at hx; rw [hx]; rfl
  rw [blkF, e, if_neg h, if_neg h2]; rfl
theorem block_r (w0 : World) (bs : Nat) (vo vs : Value) (st : List Thg) (dd : Diag) (hA : Owns w0 [.ob bs 68 (vo :: vs :: diagCells dd), slT vs 79 thgE st]) (hn : st.length ≤ 2000000000000) : Ret Tryd.prog 46 #[ptr (adr bs)] w0 (fun v w' => v = i64 (blkF st st.length) ∧ St w0 (blks [.ob bs 68 (vo :: vs :: diagCells dd), slT vs 79 thgE st]) w' [.ob bs 68 (vo :: vs :: diagCells dd), slT vs 79 thgE st]) := by
  have hO := St.init hA
  refine ret_of (m := 33) Tryd.func46 rfl Tryd.ntmps46 [(0, ptr (adr bs))] rfl ⟨rfl, trivial⟩ fun a hF => ?_
  refine wp_seq ?_
  refine wp_region_lit ?_
  refine wl_v hF rfl rfl rfl (q_assign rfl (hF.eval rfl)) fun a hF => ?_
  refine wl_nil ?_
  refine k_n ?_
  refine wp_seq ?_
  refine wp_seq ?_
  refine wp_region_lit ?_
  refine wl_v hF rfl rfl rfl (q_move rfl (hF.eval rfl)) fun a hF => ?_
  refine wl_v hF rfl rfl rfl (q_nilCheck rfl (hF.eval rfl)) fun a hF => ?_
  refine wl_v hF rfl rfl rfl (q_fieldAddr0 (d := 1) Tryd.underlying68 rfl (hF.eval rfl) rfl Tryd.sizeOf66 (by decide) rfl) fun a hF => ?_
  refine wl_v hF rfl rfl rfl (q_load Tryd.isAgg66 rfl (hF.eval rfl) (hO.cell 0 rfl rfl)) fun a hF => ?_
  refine wl_v hF rfl rfl rfl (q_lenRd (hO.rd 1 rfl) Tryd.underlying66 rfl (hF.eval rfl)) fun a hF => ?_
  refine wl_v hF rfl rfl rfl (q_sub rfl (hF.eval rfl) (hF.eval rfl) (by omega)) fun a hF => ?_
  refine wl_v hF rfl rfl rfl (q_assign rfl (hF.eval rfl)) fun a hF => ?_
  refine wl_nil ?_
  refine k_n ?_
  refine wp_block ?_
  have hO : St _ _ _ [_, _] := hO
  refine wp_loopS (fun (k : Nat) a w' => (k ≤ st.length ∧ blkF st k = blkF st st.length) ∧ St w0 (blks [.ob bs 68 (vo :: vs :: diagCells dd), slT vs 79 thgE st]) w' [.ob bs 68 (vo :: vs :: diagCells dd), slT vs 79 thgE st] ∧ Fr a 33 [(0, ptr (adr bs)), (3, i64 ((k : Int) - 1))]) (fun (k : Nat) => k) st.length ⟨⟨by omega, rfl⟩, hO, hF.sub ⟨rfl, rfl, trivial⟩⟩ ?_
  rintro k a w ⟨⟨hk, hr⟩, hO, hF⟩
  refine wp_seq ?_
  refine wp_seq ?_
  refine wp_region_lit ?_
  refine wl_v hF rfl rfl rfl (q_move rfl (hF.eval rfl)) fun a hF => ?_
  refine wl_v hF rfl rfl rfl (q_ge rfl (hF.eval rfl) (hF.eval rfl)) fun a hF => ?_
  refine wl_nil ?_
  refine k_n ?_
  refine wp_ifD hF rfl rfl (fun hc1 => ?_) (fun hc1 => ?_)
  · skip
    refine wp_skip ?_
    refine k_n ?_
    refine wp_seq ?_
    refine wp_block ?_
    refine wp_seq ?_
    refine wp_seq ?_
    refine wp_region_lit ?_
    refine wl_v hF rfl rfl rfl (q_move rfl (hF.eval rfl)) fun a hF => ?_
    refine wl_v hF rfl rfl rfl (q_nilCheck rfl (hF.eval rfl)) fun a hF => ?_
    refine wl_v hF rfl rfl rfl (q_fieldAddr0 (d := 1) Tryd.underlying68 rfl (hF.eval rfl) rfl Tryd.sizeOf66 (by decide) rfl) fun a hF => ?_
    refine wl_v hF rfl rfl rfl (q_load Tryd.isAgg66 rfl (hF.eval rfl) (hO.cell 0 rfl rfl)) fun a hF => ?_
    refine wl_v hF rfl rfl rfl (q_move rfl (hF.eval rfl)) fun a hF => ?_
    obtain ⟨x, hx⟩ := get_ex (l := st) (i := k - 1) (by omega)
    refine wl_v hF rfl rfl rfl (q_at (i := k - 1) (hO.rd 1 rfl) Tryd.underlying66 Tryd.sizeOf79 rfl (hF.eval rfl) ((hF.eval rfl).trans (congrArg i64 (show (k : Int) - 1 = ((k - 1 : Nat) : Int) by omega))) (by omega)) fun a hF => ?_
    refine wl_v hF rfl rfl rfl (q_fieldAddr0 (d := 0) Tryd.underlying79 rfl (hF.eval rfl) rfl Tryd.sizeOf9 (by decide) rfl) fun a hF => ?_
    refine wl_v hF rfl rfl rfl (q_load Tryd.isAgg9 rfl (hF.eval rfl) (RdT.cells (hO.rdT 1 rfl) hx _ _ rfl)) fun a hF => ?_
    refine wl_v hF rfl rfl rfl (q_seq rfl (hF.eval rfl) (hF.eval rfl)) fun a hF => ?_
    refine wl_nil ?_
    refine k_n ?_
    refine wp_ifD hF rfl rfl (fun hc2 => ?_) (fun hc2 => ?_)
    · skip
      refine wp_seq ?_
      refine wp_region_lit ?_
      refine wl_v hF rfl rfl rfl (q_move rfl (hF.eval rfl)) fun a hF => ?_
      refine wl_v hF rfl rfl rfl (q_assign rfl (hF.eval rfl)) fun a hF => ?_
      refine wl_nil ?_
      refine k_n ?_
      refine wp_ret ?_
      refine k_r ?_
      refine b_r ?_
      refine k_r ?_
      refine k_r ?_
      refine b_r ?_
      refine k_r ?_
      refine r_1 hF rfl rfl ?_
      exact ⟨congrArg i64 ((blk_1 (by omega) hx hc2).symm.trans hr), hO⟩
    · skip
      refine wp_skip ?_
      refine k_n ?_
      refine wp_seq ?_
      refine wp_region_lit ?_
      refine wl_v hF rfl rfl rfl (q_move rfl (hF.eval rfl)) fun a hF => ?_
      refine wl_v hF rfl rfl rfl (q_nilCheck rfl (hF.eval rfl)) fun a hF => ?_
      refine wl_v hF rfl rfl rfl (q_fieldAddr0 (d := 1) Tryd.underlying68 rfl (hF.eval rfl) rfl Tryd.sizeOf66 (by decide) rfl) fun a hF => ?_
      refine wl_v hF rfl rfl rfl (q_load Tryd.isAgg66 rfl (hF.eval rfl) (hO.cell 0 rfl rfl)) fun a hF => ?_
      refine wl_v hF rfl rfl rfl (q_move rfl (hF.eval rfl)) fun a hF => ?_
      refine wl_v hF rfl rfl rfl (q_at (i := k - 1) (hO.rd 1 rfl) Tryd.underlying66 Tryd.sizeOf79 rfl (hF.eval rfl) ((hF.eval rfl).trans (congrArg i64 (show (k : Int) - 1 = ((k - 1 : Nat) : Int) by omega))) (by omega)) fun a hF => ?_
      refine wl_v hF rfl rfl rfl (q_fieldAddr0 (d := 0) Tryd.underlying79 rfl (hF.eval rfl) rfl Tryd.sizeOf9 (by decide) rfl) fun a hF => ?_
      refine wl_v hF rfl rfl rfl (q_load Tryd.isAgg9 rfl (hF.eval rfl) (RdT.cells (hO.rdT 1 rfl) hx _ _ rfl)) fun a hF => ?_
      refine wl_v hF rfl rfl rfl (q_seq rfl (hF.eval rfl) (hF.eval rfl)) fun a hF => ?_
      refine wl_nil ?_
      refine k_n ?_
      refine wp_ifD hF rfl rfl (fun hc3 => ?_) (fun hc3 => ?_)
      · skip
        refine wp_seq ?_
        refine wp_region_lit ?_
        refine wl_v hF rfl rfl rfl (q_assign rfl (hF.eval rfl)) fun a hF => ?_
        refine wl_nil ?_
        refine k_n ?_
        refine wp_ret ?_
        refine b_r ?_
        refine k_r ?_
        refine k_r ?_
        refine b_r ?_
        refine k_r ?_
        refine r_1 hF rfl rfl ?_
        exact ⟨congrArg i64 ((blk_2 (by omega) hx hc2 hc3).symm.trans hr), hO⟩
      · skip
        refine wp_skip ?_
        refine b_n ?_
        refine k_n ?_
        refine wp_region_lit ?_
        refine wl_v hF rfl rfl rfl (q_move rfl (hF.eval rfl)) fun a hF => ?_
        refine wl_v hF rfl rfl rfl (q_sub rfl (hF.eval rfl) (hF.eval rfl) (by omega)) fun a hF => ?_
        refine wl_v hF rfl rfl rfl (q_assign rfl (hF.eval rfl)) fun a hF => ?_
        refine wl_nil ?_
        refine k_n ?_
        have hO : St _ _ _ [_, _] := hO
        exact ⟨k - 1, ⟨⟨by omega, (blk_3 (by omega) hx hc2 hc3).symm.trans hr⟩, hO, hF.sub ⟨rfl, (congrArg some (congrArg i64 (show (k : Int) - 1 - 1 = ((k - 1 : Nat) : Int) - 1 by omega))), trivial⟩⟩, by omega⟩
  · skip
    refine wp_exit ?_
    refine k_x ?_
    refine k_x ?_
    refine b_x ?_
    refine k_n ?_
    refine wp_seq ?_
    refine wp_region_lit ?_
    refine wl_v hF rfl rfl rfl (q_assign rfl (hF.eval rfl)) fun a hF => ?_
    refine wl_nil ?_
    refine k_n ?_
    refine wp_ret ?_
    refine r_1 hF rfl rfl ?_
    obtain rfl : k = 0 := by omega
    exact ⟨congrArg i64 hr, hO⟩


theorem only_no {st : List Thg} {k at_ : Nat} {x : Thg} (hk : at_ < k) (hx : st[k]? = some x) (h : ¬ looseP x) : onlyF st at_ = false := by
  unfold onlyF
  rw [List.all_eq_false]
  refine ⟨x, ?_, by simpa using h⟩
  have : (st.drop (at_ + 1))[k - (at_ + 1)]? = some x := by rw [List.getElem?_drop, show at_ + 1 + (k - (at_ + 1)) = k by omega, hx]
  exact List.mem_of_getElem? this
theorem only_on {st : List Thg} {k at_ : Nat} {x : Thg} (hk : at_ < k) (hx : st[k]? = some x) (h : ¬ ¬ looseP x) (hn : ((st.take k).drop (at_ + 1)).all (fun x => decide (looseP x)) = true) : ((st.take (k + 1)).drop (at_ + 1)).all (fun x => decide (looseP x)) = true := by
  have hkl : k < st.length := (List.getElem?_eq_some_iff.1 hx).1
  rw [List.take_add_one, hx, List.drop_append_of_le_length (by rw [List.length_take]; omega), List.all_append, hn]
  simpa using Classical.not_not.1 h
theorem only_r (w0 : World) (bs : Nat) (vo vs : Value) (st : List Thg) (dd : Diag) (hA : Owns w0 [.ob bs 68 (vo :: vs :: diagCells dd), slT vs 79 thgE st]) (hn : st.length ≤ 2000000000000) (at_ : Nat) (ha : at_ < st.length) : Ret Tryd.prog 49 #[ptr (adr bs), i64 at_] w0 (fun v w' => v = .bool (onlyF st at_) ∧ St w0 (blks [.ob bs 68 (vo :: vs :: diagCells dd), slT vs 79 thgE st]) w' [.ob bs 68 (vo :: vs :: diagCells dd), slT vs 79 thgE st]) := by
  have hO := St.init hA
  refine ret_of (m := 26) Tryd.func49 rfl Tryd.ntmps49 [(0, ptr (adr bs)), (1, i64 at_)] rfl ⟨rfl, rfl, trivial⟩ fun a hF => ?_
  refine wp_seq ?_
  refine wp_region_lit ?_
  refine wl_v hF rfl rfl rfl (q_assign rfl (hF.eval rfl)) fun a hF => ?_
  refine wl_nil ?_
  refine k_n ?_
  refine wp_seq ?_
  refine wp_seq ?_
  refine wp_region_lit ?_
  refine wl_v hF rfl rfl rfl (q_move rfl (hF.eval rfl)) fun a hF => ?_
  refine wl_v hF rfl rfl rfl (q_add rfl (hF.eval rfl) (hF.eval rfl) (by omega)) fun a hF => ?_
  refine wl_v hF rfl rfl rfl (q_assign rfl (hF.eval rfl)) fun a hF => ?_
  refine wl_nil ?_
  refine k_n ?_
  refine wp_block ?_
  have hO : St _ _ _ [_, _] := hO
  refine wp_loopS (fun (k : Nat) a w' => (at_ < k ∧ k ≤ st.length ∧ ((st.take k).drop (at_ + 1)).all (fun x => decide (looseP x)) = true) ∧ St w0 (blks [.ob bs 68 (vo :: vs :: diagCells dd), slT vs 79 thgE st]) w' [.ob bs 68 (vo :: vs :: diagCells dd), slT vs 79 thgE st] ∧ Fr a 26 [(0, ptr (adr bs)), (5, i64 k)]) (fun (k : Nat) => st.length - k) (at_ + 1) ⟨⟨by omega, by omega, by rw [List.drop_of_length_le (by rw [List.length_take]; omega)]; rfl⟩, hO, hF.sub ⟨rfl, rfl, trivial⟩⟩ ?_
  rintro k a w ⟨⟨hak, hk, hr⟩, hO, hF⟩
  refine wp_seq ?_
  refine wp_seq ?_
  refine wp_region_lit ?_
  refine wl_v hF rfl rfl rfl (q_move rfl (hF.eval rfl)) fun a hF => ?_
  refine wl_v hF rfl rfl rfl (q_move rfl (hF.eval rfl)) fun a hF => ?_
  refine wl_v hF rfl rfl rfl (q_nilCheck rfl (hF.eval rfl)) fun a hF => ?_
  refine wl_v hF rfl rfl rfl (q_fieldAddr0 (d := 1) Tryd.underlying68 rfl (hF.eval rfl) rfl Tryd.sizeOf66 (by decide) rfl) fun a hF => ?_
  refine wl_v hF rfl rfl rfl (q_load Tryd.isAgg66 rfl (hF.eval rfl) (hO.cell 0 rfl rfl)) fun a hF => ?_
  refine wl_v hF rfl rfl rfl (q_lenRd (hO.rd 1 rfl) Tryd.underlying66 rfl (hF.eval rfl)) fun a hF => ?_
  refine wl_v hF rfl rfl rfl (q_lt rfl (hF.eval rfl) (hF.eval rfl)) fun a hF => ?_
  refine wl_nil ?_
  refine k_n ?_
  refine wp_ifD hF rfl rfl (fun hc1 => ?_) (fun hc1 => ?_)
  · skip
    refine wp_skip ?_
    refine k_n ?_
    refine wp_seq ?_
    refine wp_block ?_
    refine wp_seq ?_
    refine wp_region_lit ?_
    refine wl_v hF rfl rfl rfl (q_move rfl (hF.eval rfl)) fun a hF => ?_
    refine wl_v hF rfl rfl rfl (q_nilCheck rfl (hF.eval rfl)) fun a hF => ?_
    refine wl_v hF rfl rfl rfl (q_fieldAddr0 (d := 1) Tryd.underlying68 rfl (hF.eval rfl) rfl Tryd.sizeOf66 (by decide) rfl) fun a hF => ?_
    refine wl_v hF rfl rfl rfl (q_load Tryd.isAgg66 rfl (hF.eval rfl) (hO.cell 0 rfl rfl)) fun a hF => ?_
    refine wl_v hF rfl rfl rfl (q_move rfl (hF.eval rfl)) fun a hF => ?_
    obtain ⟨x, hx⟩ := get_ex (l := st) (i := k) (by omega)
    refine wl_v hF rfl rfl rfl (q_at (i := k) (hO.rd 1 rfl) Tryd.underlying66 Tryd.sizeOf79 rfl (hF.eval rfl) (hF.eval rfl) (by omega)) fun a hF => ?_
    refine wl_v hF rfl rfl rfl (q_loadAgg Tryd.isAgg79 Tryd.sizeOf79 rfl (hF.eval rfl) (RdT.cells (hO.rdT 1 rfl) hx) rfl) fun a hF => ?_
    refine wl_e hF rfl rfl rfl (c_call hF rfl rfl Tryd.call54 (loose_r _ _)) ?_
    rintro a _ w ⟨rfl, hS⟩ hF
    have hO := hO.call0 hS
    have hO : St _ _ _ [_, _] := hO
    refine wl_v hF rfl rfl rfl (q_not rfl (hF.eval rfl) rfl) fun a hF => ?_
    refine wl_nil ?_
    refine k_n ?_
    refine wp_ifD hF rfl rfl (fun hc2 => ?_) (fun hc2 => ?_)
    · skip
      refine wp_seq ?_
      refine wp_region_lit ?_
      refine wl_v hF rfl rfl rfl (q_assign rfl (hF.eval rfl)) fun a hF => ?_
      refine wl_nil ?_
      refine k_n ?_
      refine wp_ret ?_
      refine b_r ?_
      refine k_r ?_
      refine k_r ?_
      refine b_r ?_
      refine k_r ?_
      refine r_1 hF rfl rfl ?_
      exact ⟨congrArg Value.bool (only_no hak hx hc2).symm, hO⟩
    · skip
      refine wp_skip ?_
      refine b_n ?_
      refine k_n ?_
      refine wp_region_lit ?_
      refine wl_v hF rfl rfl rfl (q_move rfl (hF.eval rfl)) fun a hF => ?_
      refine wl_v hF rfl rfl rfl (q_add rfl (hF.eval rfl) (hF.eval rfl) (by omega)) fun a hF => ?_
      refine wl_v hF rfl rfl rfl (q_assign rfl (hF.eval rfl)) fun a hF => ?_
      refine wl_nil ?_
      refine k_n ?_
      have hO : St _ _ _ [_, _] := hO
      exact ⟨k + 1, ⟨⟨by omega, by omega, only_on hak hx hc2 hr⟩, hO, hF.sub ⟨rfl, rfl, trivial⟩⟩, by omega⟩
  · skip
    refine wp_exit ?_
    refine k_x ?_
    refine k_x ?_
    refine b_x ?_
    refine k_n ?_
    refine wp_seq ?_
    refine wp_region_lit ?_
    refine wl_v hF rfl rfl rfl (q_assign rfl (hF.eval rfl)) fun a hF => ?_
    refine wl_nil ?_
    refine k_n ?_
    refine wp_ret ?_
    refine r_1 hF rfl rfl ?_
    obtain rfl : k = st.length := by omega
    rw [List.take_of_length_le (by omega)] at hr
    exact ⟨congrArg Value.bool hr.symm, hO⟩

end Go.Proofs.YtnnagjbkpmkelaaDoor
