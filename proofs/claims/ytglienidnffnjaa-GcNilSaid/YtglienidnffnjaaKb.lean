import Derived.Test.YtglienidnffnjaaKa
namespace Go.Proofs.Ytglienidnffnjaa
open Go
set_option maxRecDepth 100000
set_option linter.unusedVariables false
theorem gcnil_r (w0 : World) (x : Wd) : Ret Try.prog 10 #[.agg (wordE.cells x).toArray] w0 (fun v w' => v = .bool true ∧ St w0 [] w' []) := by
  have hO := St.init0 w0
  refine ret_of (m := 29) Try.func10 rfl Try.ntmps10 [(0, .agg (wordE.cells x).toArray)] rfl ⟨rfl, trivial⟩ fun a hF => ?_
  refine wp_seq ?_
  refine wp_region_lit ?_
  refine wl_e hF rfl rfl rfl (e_box hO rfl (hF.eval rfl) rfl) ?_
  rintro a _ w ⟨xb, rfl, hO⟩ hF
  refine wl_v hF rfl rfl rfl (q_assign rfl (hF.eval rfl)) fun a hF => ?_
  refine wl_nil ?_
  refine k_n ?_
  refine wp_seq ?_
  refine wp_region_lit ?_
  refine wl_e hF rfl rfl rfl (c_buildSlice hF hO Try.underlying103 Try.sizeOf70 Try.zeroValue70 rfl rfl rfl rfl rfl rfl rfl) ?_
  rintro a _ w ⟨b1, rfl, hO⟩ hF
  refine wl_e hF rfl rfl rfl (c_call hF rfl rfl Try.call51 (nil_live_r _ _)) ?_
  rintro a _ w ⟨rfl, hS⟩ hF
  have hO := hO.call0 hS
  have hO : St _ _ _ [_, _] := hO
  refine wl_v hF rfl rfl rfl (q_move rfl (hF.eval rfl)) fun a hF => ?_
  refine wl_v hF rfl rfl rfl (q_extract rfl (hF.eval rfl) rfl) fun a hF => ?_
  refine wl_v hF rfl rfl rfl (q_extract rfl (hF.eval rfl) rfl) fun a hF => ?_
  refine wl_v hF rfl rfl rfl (q_assign rfl (hF.eval rfl)) fun a hF => ?_
  refine wl_v hF rfl rfl rfl (q_assign rfl (hF.eval rfl)) fun a hF => ?_
  refine wl_nil ?_
  refine k_n ?_
  refine wp_seq ?_
  refine wp_region_lit ?_
  refine wl_v hF rfl rfl rfl (q_move rfl (hF.eval rfl)) fun a hF => ?_
  refine wl_v hF rfl rfl rfl (q_eq rfl (hF.eval rfl) (hF.eval rfl)) fun a hF => ?_
  refine wl_v hF rfl rfl rfl (q_move rfl (hF.eval rfl)) fun a hF => ?_
  refine wl_un hF rfl rfl rfl rfl (isB_T (by decide)) ?_
  refine wl_v hF rfl rfl rfl (q_move rfl (hF.eval rfl)) fun a hF => ?_
  refine wl_un hF rfl rfl rfl rfl (isB_T (by decide)) ?_
  refine wl_v hF rfl rfl rfl (q_eq rfl (hF.eval rfl) (hF.eval rfl)) fun a hF => ?_
  refine wl_v hF rfl rfl rfl (q_and rfl (hF.eval rfl) rfl (fun hg2 => (hF.eval rfl)) rfl) fun a hF => ?_
  refine wl_v hF rfl rfl rfl (q_move rfl (hF.eval rfl)) fun a hF => ?_
  refine wl_un hF rfl rfl rfl rfl (isB_T (by decide)) ?_
  refine wl_e hF rfl rfl rfl (c_buildSlice hF hO Try.underlying103 Try.sizeOf70 Try.zeroValue70 rfl rfl rfl rfl rfl rfl rfl) ?_
  rintro a _ w ⟨b2, rfl, hO⟩ hF
  refine wl_un hF rfl rfl rfl rfl (isB_T (by decide)) ?_
  refine wl_e hF rfl rfl rfl (c_call hF rfl rfl Try.call48 (nil_minor_r _ _)) ?_
  rintro a _ w ⟨rfl, hS⟩ hF
  have hO := hO.call0 hS
  have hO : St _ _ _ [_, _, _] := hO
  refine wl_un hF rfl rfl rfl rfl (isB_T (by decide)) ?_
  refine wl_v hF rfl rfl rfl (q_eq rfl (hF.eval rfl) (hF.eval rfl)) fun a hF => ?_
  refine wl_v hF rfl rfl rfl (q_and rfl (hF.eval rfl) rfl (fun hg2 => (hF.eval rfl)) rfl) fun a hF => ?_
  refine wl_v hF rfl rfl rfl (q_move rfl (hF.eval rfl)) fun a hF => ?_
  refine wl_un hF rfl rfl rfl rfl (isB_T (by decide)) ?_
  refine wl_e hF rfl rfl rfl (c_buildSlice hF hO Try.underlying103 Try.sizeOf70 Try.zeroValue70 rfl rfl rfl rfl rfl rfl rfl) ?_
  rintro a _ w ⟨b3, rfl, hO⟩ hF
  refine wl_un hF rfl rfl rfl rfl (isB_T (by decide)) ?_
  refine wl_e hF rfl rfl rfl (c_call hF rfl rfl Try.call49 (nil_major_r _ _)) ?_
  rintro a _ w ⟨rfl, hS⟩ hF
  have hO := hO.call0 hS
  have hO : St _ _ _ [_, _, _, _] := hO
  refine wl_un hF rfl rfl rfl rfl (isB_T (by decide)) ?_
  refine wl_v hF rfl rfl rfl (q_eq rfl (hF.eval rfl) (hF.eval rfl)) fun a hF => ?_
  refine wl_v hF rfl rfl rfl (q_and rfl (hF.eval rfl) rfl (fun hg2 => (hF.eval rfl)) rfl) fun a hF => ?_
  refine wl_v hF rfl rfl rfl (q_move rfl (hF.eval rfl)) fun a hF => ?_
  refine wl_un hF rfl rfl rfl rfl (isB_T (by decide)) ?_
  refine wl_e hF rfl rfl rfl (c_call hF rfl rfl Try.call50 (gawake_r _)) ?_
  rintro a _ w ⟨rfl, hS⟩ hF
  have hO := hO.call0 hS
  have hO : St _ _ _ [_, _, _, _] := hO
  refine wl_v hF rfl rfl rfl (q_and rfl (hF.eval rfl) rfl (fun hg2 => (hF.eval rfl)) (dec_b _)) fun a hF => ?_
  refine wl_v hF rfl rfl rfl (q_assign rfl (hF.eval rfl)) fun a hF => ?_
  refine wl_nil ?_
  refine k_n ?_
  refine wp_ret ?_
  refine r_1 hF rfl rfl ?_
  have hO := hO.drop1 0
  have hO := hO.drop1 0
  have hO := hO.drop1 0
  have hO := hO.drop1 0
  have hO : St _ _ _ [] := hO
  exact ⟨congrArg Value.bool (by decide), hO⟩

end Go.Proofs.Ytglienidnffnjaa
