import Derived.Test.YtglienidnffnjaaIe
import Derived.Test.YtglienidnffnjaaQc
import Derived.Test.YtglienidnffnjaaQd
import Derived.Test.YtglienidnffnjaaQh
import Derived.Test.YtglienidnffnjaaQi
import Derived.Test.YtglienidnffnjaaPl25
namespace Go.Proofs.Ytglienidnffnjaa
open Go
set_option maxRecDepth 100000
set_option linter.unusedVariables false
set_option maxHeartbeats 1000000 in
theorem same_r (w0 : World) (ka ia kb ib : Int) (Aa Ab : Option Addr) (ca cb : Nat) (fa fb : List Wd) (hA : RdT w0 [] (.slice Aa fa.length ca) wordE fa) (hB : RdT w0 [] (.slice Ab fb.length cb) wordE fb) : Ret Try.prog 35 #[.agg #[i64 ka, i64 ia, .slice Aa fa.length ca], .agg #[i64 kb, i64 ib, .slice Ab fb.length cb]] w0 (fun v w' => v = .bool (decide (ka = kb ∧ ia = ib ∧ fa = fb)) ∧ St w0 [] w' []) := by
  have hO := St.init0 w0
  have hla := RdT.lenle hA
  have hlb := RdT.lenle hB
  refine ret_of (m := 45) Try.func35 rfl Try.ntmps35 [(0, .agg #[i64 ka, i64 ia, .slice Aa fa.length ca]), (1, .agg #[i64 kb, i64 ib, .slice Ab fb.length cb])] rfl ⟨rfl, rfl, trivial⟩ fun a hF => ?_
  refine wp_seq ?_
  refine wp_region_lit ?_
  refine wl_e hF rfl rfl rfl (e_box hO rfl (hF.eval rfl) rfl) ?_
  rintro a _ w ⟨xa, rfl, hO⟩ hF
  refine wl_e hF rfl rfl rfl (e_box hO rfl (hF.eval rfl) rfl) ?_
  rintro a _ w ⟨xb, rfl, hO⟩ hF
  refine wl_v hF rfl rfl rfl (q_assign rfl (hF.eval rfl)) fun a hF => ?_
  refine wl_nil ?_
  refine k_n ?_
  refine wp_seq ?_
  refine wp_seq ?_
  refine wp_region_lit ?_
  refine wl_v hF rfl rfl rfl (q_fieldAddr0 (d := 0) Try.underlying42 rfl (hF.eval rfl) rfl Try.sizeOf3 (by decide) rfl) fun a hF => ?_
  refine wl_v hF rfl rfl rfl (q_load Try.isAgg3 rfl (hF.eval rfl) (hO.cell 1 rfl rfl)) fun a hF => ?_
  refine wl_v hF rfl rfl rfl (q_fieldAddr0 (d := 0) Try.underlying42 rfl (hF.eval rfl) rfl Try.sizeOf3 (by decide) rfl) fun a hF => ?_
  refine wl_v hF rfl rfl rfl (q_load Try.isAgg3 rfl (hF.eval rfl) (hO.cell 0 rfl rfl)) fun a hF => ?_
  refine wl_v hF rfl rfl rfl (q_ne rfl (hF.eval rfl) (hF.eval rfl)) fun a hF => ?_
  refine wl_v hF rfl rfl rfl (q_move rfl (hF.eval rfl)) fun a hF => ?_
  refine wl_g hF rfl rfl rfl rfl rfl rfl (fun hg => q_fieldAddr0 (d := 1) Try.underlying42 rfl (hF.eval rfl) rfl Try.sizeOf3 (by decide) rfl) fun a hF => ?_
  refine wl_g hF rfl rfl rfl rfl rfl rfl (fun hg => q_load Try.isAgg3 rfl ((hF.eval rfl).trans (gv_of hg)) (hO.cell 1 rfl rfl)) fun a hF => ?_
  refine wl_g hF rfl rfl rfl rfl rfl rfl (fun hg => q_fieldAddr0 (d := 1) Try.underlying42 rfl (hF.eval rfl) rfl Try.sizeOf3 (by decide) rfl) fun a hF => ?_
  refine wl_g hF rfl rfl rfl rfl rfl rfl (fun hg => q_load Try.isAgg3 rfl ((hF.eval rfl).trans (gv_of hg)) (hO.cell 0 rfl rfl)) fun a hF => ?_
  refine wl_g hF rfl rfl rfl rfl rfl rfl (fun hg => q_ne rfl ((hF.eval rfl).trans (gv_of hg)) ((hF.eval rfl).trans (gv_of hg))) fun a hF => ?_
  refine wl_v hF rfl rfl rfl (q_or rfl (hF.eval rfl) rfl (fun hg2 => ((hF.eval rfl).trans (gv_of hg2))) rfl) fun a hF => ?_
  refine wl_v hF rfl rfl rfl (q_move rfl (hF.eval rfl)) fun a hF => ?_
  refine wl_g hF rfl rfl rfl rfl rfl rfl (fun hg => q_fieldAddr0 (d := 2) Try.underlying42 rfl (hF.eval rfl) rfl Try.sizeOf37 (by decide) rfl) fun a hF => ?_
  refine wl_g hF rfl rfl rfl rfl rfl rfl (fun hg => q_load Try.isAgg37 rfl ((hF.eval rfl).trans (gv_of hg)) (hO.cell 1 rfl rfl)) fun a hF => ?_
  refine wl_g hF rfl rfl rfl rfl rfl rfl (fun hg => q_lenRd hA Try.underlying37 rfl ((hF.eval rfl).trans (gv_of hg))) fun a hF => ?_
  refine wl_g hF rfl rfl rfl rfl rfl rfl (fun hg => q_fieldAddr0 (d := 2) Try.underlying42 rfl (hF.eval rfl) rfl Try.sizeOf37 (by decide) rfl) fun a hF => ?_
  refine wl_g hF rfl rfl rfl rfl rfl rfl (fun hg => q_load Try.isAgg37 rfl ((hF.eval rfl).trans (gv_of hg)) (hO.cell 0 rfl rfl)) fun a hF => ?_
  refine wl_g hF rfl rfl rfl rfl rfl rfl (fun hg => q_lenRd hB Try.underlying37 rfl ((hF.eval rfl).trans (gv_of hg))) fun a hF => ?_
  refine wl_g hF rfl rfl rfl rfl rfl rfl (fun hg => q_ne rfl ((hF.eval rfl).trans (gv_of hg)) ((hF.eval rfl).trans (gv_of hg))) fun a hF => ?_
  refine wl_v hF rfl rfl rfl (q_or rfl (hF.eval rfl) rfl (fun hg2 => ((hF.eval rfl).trans (gv_of hg2))) rfl) fun a hF => ?_
  refine wl_nil ?_
  refine k_n ?_
  refine wp_ifD hF rfl rfl (fun hc1 => ?_) (fun hc1 => ?_)
  · skip
    refine wp_seq ?_
    refine wp_region_lit ?_
    refine wl_v hF rfl rfl rfl (q_assign rfl (hF.eval rfl)) fun a hF => ?_
    refine wl_nil ?_
    refine k_n ?_
    refine wp_ret ?_
    refine k_r ?_
    refine r_1 hF rfl rfl ?_
    have hO := hO.drop1 0
    have hO := hO.drop1 0
    have hO : St _ _ _ [] := hO
    exact ⟨congrArg Value.bool (decide_eq_false (same_no hc1)).symm, hO⟩
  · skip
    have g1 := not_or.1 hc1
    have g2 := not_or.1 g1.1
    refine wp_skip ?_
    refine k_n ?_
    refine wp_seq ?_
    refine wp_seq ?_
    refine wp_region_lit ?_
    refine wl_v hF rfl rfl rfl (q_assign rfl (hF.eval rfl)) fun a hF => ?_
    refine wl_nil ?_
    refine k_n ?_
    refine wp_block ?_
    have hO := hO.pull 1 rfl
    have hO : St _ _ _ [_, _] := hO
    refine wp_loopS (fun (i : Nat) a w' => (i ≤ fa.length ∧ fa.take i = fb.take i) ∧ St w0 [] w' [.ob xa 42 [i64 ka, i64 ia, .slice Aa fa.length ca], .ob xb 42 [i64 kb, i64 ib, .slice Ab fb.length cb]] ∧ Fr a 45 [(2, ptr (adr xa)), (3, ptr (adr xb)), (5, i64 i)]) (fun (i : Nat) => fa.length - i) 0 ⟨⟨by omega, rfl⟩, hO, hF.sub ⟨rfl, rfl, rfl, trivial⟩⟩ ?_
    rintro i a w ⟨⟨hi, hte⟩, hO, hF⟩
    refine wp_seq ?_
    refine wp_seq ?_
    refine wp_region_lit ?_
    refine wl_v hF rfl rfl rfl (q_move rfl (hF.eval rfl)) fun a hF => ?_
    refine wl_v hF rfl rfl rfl (q_fieldAddr0 (d := 2) Try.underlying42 rfl (hF.eval rfl) rfl Try.sizeOf37 (by decide) rfl) fun a hF => ?_
    refine wl_v hF rfl rfl rfl (q_load Try.isAgg37 rfl (hF.eval rfl) (hO.cell 0 rfl rfl)) fun a hF => ?_
    refine wl_v hF rfl rfl rfl (q_lenRd hA Try.underlying37 rfl (hF.eval rfl)) fun a hF => ?_
    refine wl_v hF rfl rfl rfl (q_lt rfl (hF.eval rfl) (hF.eval rfl)) fun a hF => ?_
    refine wl_nil ?_
    refine k_n ?_
    refine wp_ifD hF rfl rfl (fun hc2 => ?_) (fun hc2 => ?_)
    · skip
      refine wp_skip ?_
      refine k_n ?_
      refine wp_seq ?_
      refine wp_block ?_
      refine wp_seq ?_
      have hO := hO.drew
      refine wp_region_D [0, 1, 0, 0, 1, 0, 1, 0, 0, 1, 0] (fun w => St _ _ w _) Try_mixed (by kernel_rfl) hO ?_
      refine wd_p hF rfl rfl rfl (fun w => q_fieldAddr0 (d := 2) Try.underlying42 rfl (hF.eval rfl) rfl Try.sizeOf37 (by decide) rfl) fun a hF => ?_
      refine wd_r hF rfl rfl rfl (fun w hO => q_load Try.isAgg37 rfl (hF.eval rfl) (hO.cell 0 rfl rfl)) fun a hF => ?_
      refine wd_p hF rfl rfl rfl (fun w => q_move rfl (hF.eval rfl)) fun a hF => ?_
      obtain ⟨x, hx⟩ := get_ex (l := fa) (i := i) (by omega)
      refine wd_p hF rfl rfl rfl (fun w => q_at (i := i) hA Try.underlying37 Try.sizeOf27 rfl (hF.eval rfl) (hF.eval rfl) (by omega)) fun a hF => ?_
      refine wd_r hF rfl rfl rfl (fun w hO => q_loadAgg Try.isAgg27 Try.sizeOf27 rfl (hF.eval rfl) (RdT.cells (hA.now hO) hx) rfl) fun a hF => ?_
      refine wd_p hF rfl rfl rfl (fun w => q_fieldAddr0 (d := 2) Try.underlying42 rfl (hF.eval rfl) rfl Try.sizeOf37 (by decide) rfl) fun a hF => ?_
      refine wd_r hF rfl rfl rfl (fun w hO => q_load Try.isAgg37 rfl (hF.eval rfl) (hO.cell 1 rfl rfl)) fun a hF => ?_
      refine wd_p hF rfl rfl rfl (fun w => q_move rfl (hF.eval rfl)) fun a hF => ?_
      obtain ⟨y, hy⟩ := get_ex (l := fb) (i := i) (by omega)
      refine wd_p hF rfl rfl rfl (fun w => q_at (i := i) hB Try.underlying37 Try.sizeOf27 rfl (hF.eval rfl) (hF.eval rfl) (by omega)) fun a hF => ?_
      refine wd_r hF rfl rfl rfl (fun w hO => q_loadAgg Try.isAgg27 Try.sizeOf27 rfl (hF.eval rfl) (RdT.cells (hB.now hO) hy) rfl) fun a hF => ?_
      refine wd_p hF rfl rfl rfl (fun w => q_neS Try.underlying27 Try.stoodInHeld27 Try.eqGuardType27 rfl (hF.eval rfl) (hF.eval rfl) (ef_bool (by decide) Try.isAgg4 Try.underlying4 rfl rfl (ef_int (by decide) Try.isAgg3 Try.underlying3 rfl rfl ef_nil)) (word_eq _ _)) fun a hF => ?_
      refine wd_nil ?_
      refine k_n ?_
      refine wp_ifD hF rfl rfl (fun hc3 => ?_) (fun hc3 => ?_)
      · skip
        refine wp_seq ?_
        refine wp_region_lit ?_
        refine wl_v hF rfl rfl rfl (q_assign rfl (hF.eval rfl)) fun a hF => ?_
        refine wl_nil ?_
        refine k_n ?_
        refine wp_ret ?_
        refine b_r ?_
        refine k_r ?_
        refine k_r ?_
        refine b_r ?_
        refine k_r ?_
        refine r_1 hF rfl rfl ?_
        have hO := hO.drop1 0
        have hO := hO.drop1 0
        have hO : St _ _ _ [] := hO
        exact ⟨congrArg Value.bool (decide_eq_false fun e => take_ne hx hy hc3 e.2.2).symm, hO⟩
      · skip
        refine wp_skip ?_
        refine b_n ?_
        refine k_n ?_
        refine wp_region_lit ?_
        refine wl_v hF rfl rfl rfl (q_move rfl (hF.eval rfl)) fun a hF => ?_
        refine wl_v hF rfl rfl rfl (q_add rfl (hF.eval rfl) (hF.eval rfl) (by omega)) fun a hF => ?_
        refine wl_v hF rfl rfl rfl (q_assign rfl (hF.eval rfl)) fun a hF => ?_
        refine wl_nil ?_
        refine k_n ?_
        have hO : St _ _ _ [_, _] := hO
        exact ⟨i + 1, ⟨⟨by omega, take_eq hte hx hy (Classical.not_not.1 hc3)⟩, hO, hF.sub ⟨rfl, rfl, rfl, trivial⟩⟩, by omega⟩
    · skip
      refine wp_exit ?_
      refine k_x ?_
      refine k_x ?_
      refine b_x ?_
      refine k_n ?_
      refine wp_seq ?_
      refine wp_region_lit ?_
      refine wl_v hF rfl rfl rfl (q_assign rfl (hF.eval rfl)) fun a hF => ?_
      refine wl_nil ?_
      refine k_n ?_
      refine wp_ret ?_
      refine r_1 hF rfl rfl ?_
      have hO := hO.drop1 0
      have hO := hO.drop1 0
      have hO : St _ _ _ [] := hO
      exact ⟨congrArg Value.bool (decide_eq_true ⟨Classical.not_not.1 g2.1, Classical.not_not.1 g2.2, take_all hte (by omega) (by omega)⟩).symm, hO⟩

theorem ints_r (w0 : World) (va vb : Value) (fa fb : List Int) (hA : RdT w0 [] va intE fa) (hB : RdT w0 [] vb intE fb) : Ret Try.prog 45 #[va, vb] w0 (fun v w' => v = .bool (decide (fa = fb)) ∧ St w0 [] w' []) := by
  have hO := St.init0 w0
  have hla := RdT.lenle hA
  have hlb := RdT.lenle hB
  refine ret_of (m := 26) Try.func45 rfl Try.ntmps45 [(0, va), (1, vb)] rfl ⟨rfl, rfl, trivial⟩ fun a hF => ?_
  refine wp_seq ?_
  refine wp_region_lit ?_
  refine wl_v hF rfl rfl rfl (q_assign rfl (hF.eval rfl)) fun a hF => ?_
  refine wl_nil ?_
  refine k_n ?_
  refine wp_seq ?_
  refine wp_seq ?_
  refine wp_region_lit ?_
  refine wl_v hF rfl rfl rfl (q_move rfl (hF.eval rfl)) fun a hF => ?_
  refine wl_v hF rfl rfl rfl (q_lenRd hA Try.underlying36 rfl (hF.eval rfl)) fun a hF => ?_
  refine wl_v hF rfl rfl rfl (q_move rfl (hF.eval rfl)) fun a hF => ?_
  refine wl_v hF rfl rfl rfl (q_lenRd hB Try.underlying36 rfl (hF.eval rfl)) fun a hF => ?_
  refine wl_v hF rfl rfl rfl (q_ne rfl (hF.eval rfl) (hF.eval rfl)) fun a hF => ?_
  refine wl_nil ?_
  refine k_n ?_
  refine wp_ifD hF rfl rfl (fun hc1 => ?_) (fun hc1 => ?_)
  · skip
    refine wp_seq ?_
    refine wp_region_lit ?_
    refine wl_v hF rfl rfl rfl (q_assign rfl (hF.eval rfl)) fun a hF => ?_
    refine wl_nil ?_
    refine k_n ?_
    refine wp_ret ?_
    refine k_r ?_
    refine r_1 hF rfl rfl ?_
    exact ⟨congrArg Value.bool (decide_eq_false fun e => hc1 (by rw [e])).symm, hO⟩
  · skip
    refine wp_skip ?_
    refine k_n ?_
    refine wp_seq ?_
    refine wp_seq ?_
    refine wp_region_lit ?_
    refine wl_v hF rfl rfl rfl (q_assign rfl (hF.eval rfl)) fun a hF => ?_
    refine wl_nil ?_
    refine k_n ?_
    refine wp_block ?_
    have hO : St _ _ _ [] := hO
    refine wp_loopS (fun (i : Nat) a w' => (i ≤ fa.length ∧ fa.take i = fb.take i) ∧ St w0 [] w' [] ∧ Fr a 26 [(0, va), (1, vb), (5, i64 i)]) (fun (i : Nat) => fa.length - i) 0 ⟨⟨by omega, rfl⟩, hO, hF.sub ⟨rfl, rfl, rfl, trivial⟩⟩ ?_
    rintro i a w ⟨⟨hi, hte⟩, hO, hF⟩
    refine wp_seq ?_
    refine wp_seq ?_
    refine wp_region_lit ?_
    refine wl_v hF rfl rfl rfl (q_move rfl (hF.eval rfl)) fun a hF => ?_
    refine wl_v hF rfl rfl rfl (q_move rfl (hF.eval rfl)) fun a hF => ?_
    refine wl_v hF rfl rfl rfl (q_lenRd hA Try.underlying36 rfl (hF.eval rfl)) fun a hF => ?_
    refine wl_v hF rfl rfl rfl (q_lt rfl (hF.eval rfl) (hF.eval rfl)) fun a hF => ?_
    refine wl_nil ?_
    refine k_n ?_
    refine wp_ifD hF rfl rfl (fun hc2 => ?_) (fun hc2 => ?_)
    · skip
      refine wp_skip ?_
      refine k_n ?_
      refine wp_seq ?_
      refine wp_block ?_
      refine wp_seq ?_
      have hO := hO.drew
      refine wp_region_D [0, 0, 0, 1, 0, 0, 0, 1, 0] (fun w => St _ _ w _) Try_mixed (by kernel_rfl) hO ?_
      refine wd_p hF rfl rfl rfl (fun w => q_move rfl (hF.eval rfl)) fun a hF => ?_
      refine wd_p hF rfl rfl rfl (fun w => q_move rfl (hF.eval rfl)) fun a hF => ?_
      obtain ⟨x, hx⟩ := get_ex (l := fa) (i := i) (by omega)
      refine wd_p hF rfl rfl rfl (fun w => q_at (i := i) hA Try.underlying36 Try.sizeOf3 rfl (hF.eval rfl) (hF.eval rfl) (by omega)) fun a hF => ?_
      refine wd_r hF rfl rfl rfl (fun w hO => q_load Try.isAgg3 rfl (hF.eval rfl) (RdT.cell0 (hA.now hO) hx rfl)) fun a hF => ?_
      refine wd_p hF rfl rfl rfl (fun w => q_move rfl (hF.eval rfl)) fun a hF => ?_
      refine wd_p hF rfl rfl rfl (fun w => q_move rfl (hF.eval rfl)) fun a hF => ?_
      obtain ⟨y, hy⟩ := get_ex (l := fb) (i := i) (by omega)
      refine wd_p hF rfl rfl rfl (fun w => q_at (i := i) hB Try.underlying36 Try.sizeOf3 rfl (hF.eval rfl) (hF.eval rfl) (by omega)) fun a hF => ?_
      refine wd_r hF rfl rfl rfl (fun w hO => q_load Try.isAgg3 rfl (hF.eval rfl) (RdT.cell0 (hB.now hO) hy rfl)) fun a hF => ?_
      refine wd_p hF rfl rfl rfl (fun w => q_ne rfl (hF.eval rfl) (hF.eval rfl)) fun a hF => ?_
      refine wd_nil ?_
      refine k_n ?_
      refine wp_ifD hF rfl rfl (fun hc3 => ?_) (fun hc3 => ?_)
      · skip
        refine wp_seq ?_
        refine wp_region_lit ?_
        refine wl_v hF rfl rfl rfl (q_assign rfl (hF.eval rfl)) fun a hF => ?_
        refine wl_nil ?_
        refine k_n ?_
        refine wp_ret ?_
        refine b_r ?_
        refine k_r ?_
        refine k_r ?_
        refine b_r ?_
        refine k_r ?_
        refine r_1 hF rfl rfl ?_
        exact ⟨congrArg Value.bool (decide_eq_false fun e => take_ne hx hy hc3 e).symm, hO⟩
      · skip
        refine wp_skip ?_
        refine b_n ?_
        refine k_n ?_
        refine wp_region_lit ?_
        refine wl_v hF rfl rfl rfl (q_move rfl (hF.eval rfl)) fun a hF => ?_
        refine wl_v hF rfl rfl rfl (q_add rfl (hF.eval rfl) (hF.eval rfl) (by omega)) fun a hF => ?_
        refine wl_v hF rfl rfl rfl (q_assign rfl (hF.eval rfl)) fun a hF => ?_
        refine wl_nil ?_
        refine k_n ?_
        have hO : St _ _ _ [] := hO
        exact ⟨i + 1, ⟨⟨by omega, take_eq hte hx hy (Classical.not_not.1 hc3)⟩, hO, hF.sub ⟨rfl, rfl, rfl, trivial⟩⟩, by omega⟩
    · skip
      refine wp_exit ?_
      refine k_x ?_
      refine k_x ?_
      refine b_x ?_
      refine k_n ?_
      refine wp_seq ?_
      refine wp_region_lit ?_
      refine wl_v hF rfl rfl rfl (q_assign rfl (hF.eval rfl)) fun a hF => ?_
      refine wl_nil ?_
      refine k_n ?_
      refine wp_ret ?_
      refine r_1 hF rfl rfl ?_
      exact ⟨congrArg Value.bool (decide_eq_true (take_all hte (by omega) (by omega))).symm, hO⟩

end Go.Proofs.Ytglienidnffnjaa
