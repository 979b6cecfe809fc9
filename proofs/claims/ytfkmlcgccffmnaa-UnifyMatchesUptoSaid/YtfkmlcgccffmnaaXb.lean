import Derived.Test.YtfkmlcgccffmnaaXa
namespace Go.Proofs.Ytfkmlcgccffmnaa
open Go
set_option maxRecDepth 100000
set_option linter.unusedVariables false
set_option maxHeartbeats 2000000 in
theorem solves_r (w0 : World) (vp : Value) (ps : List TN2) (hR : RdT w0 [] vp prE ps) (hRd : ∀ p ∈ ps, RdN w0 [] p.1 ∧ RdN w0 [] p.2) (hFt : ∀ p ∈ ps, Fit p.1.er ∧ Fit p.2.er) (hlen : ps.length ≤ 2097152) : Ret Try.prog 3 #[vp] w0 (fun v w' => v = .bool true ∧ St w0 [] w' []) := by
  have hO := St.init0 w0
  refine ret_of (m := 28) Try.func3 rfl Try.ntmps3 [(0, vp)] rfl ⟨rfl, trivial⟩ fun a hF => ?_
  refine wp_seq ?_
  refine wp_region_lit ?_
  refine wl_v hF rfl rfl rfl (q_assign rfl (hF.eval rfl)) fun a hF => ?_
  refine wl_nil ?_
  refine k_n ?_
  refine wp_seq ?_
  refine wp_region_lit ?_
  refine wl_v hF rfl rfl rfl (q_move rfl (hF.eval rfl)) fun a hF => ?_
  refine wl_e hF rfl rfl rfl (c_call hF rfl rfl Try.call9 (unify_r _ _ ps (hR.at0 hO) (fun p hp => ⟨(hRd p hp).1.at0 hO, (hRd p hp).2.at0 hO⟩) hFt hlen)) ?_
  rintro a _ w ⟨q1, l1, e1, rfl, hU1, hS⟩ hF
  have hO := hO.call0 hS
  have hO : St _ _ _ [_, _] := hO
  refine wl_v hF rfl rfl rfl (q_move rfl (hF.eval rfl)) fun a hF => ?_
  refine wl_v hF rfl rfl rfl (q_extract rfl (hF.eval rfl) rfl) fun a hF => ?_
  refine wl_v hF rfl rfl rfl (q_extract rfl (hF.eval rfl) rfl) fun a hF => ?_
  refine wl_v hF rfl rfl rfl (q_assign rfl (hF.eval rfl)) fun a hF => ?_
  refine wl_v hF rfl rfl rfl (q_assign rfl (hF.eval rfl)) fun a hF => ?_
  refine wl_nil ?_
  refine k_n ?_
  refine wp_seq ?_
  refine wp_region_lit ?_
  refine wl_v hF rfl rfl rfl (q_move rfl (hF.eval rfl)) fun a hF => ?_
  refine wl_e hF rfl rfl rfl (c_call hF rfl rfl Try.call10 (unifyR_r _ _ ps (hR.at0 hO) (fun p hp => ⟨(hRd p hp).1.at0 hO, (hRd p hp).2.at0 hO⟩) hFt hlen)) ?_
  rintro a _ w ⟨q2, l2, e2, rfl, hU2, hS⟩ hF
  have hO := hO.call0 hS
  have hO : St _ _ _ [_, _, _, _] := hO
  obtain ⟨hl, rfl⟩ := UniSpec.same hU1 hU2
  refine wl_v hF rfl rfl rfl (q_move rfl (hF.eval rfl)) fun a hF => ?_
  refine wl_v hF rfl rfl rfl (q_extract rfl (hF.eval rfl) rfl) fun a hF => ?_
  refine wl_v hF rfl rfl rfl (q_extract rfl (hF.eval rfl) rfl) fun a hF => ?_
  refine wl_v hF rfl rfl rfl (q_assign rfl (hF.eval rfl)) fun a hF => ?_
  refine wl_v hF rfl rfl rfl (q_assign rfl (hF.eval rfl)) fun a hF => ?_
  refine wl_nil ?_
  refine k_n ?_
  refine wp_seq ?_
  refine wp_region_lit ?_
  refine wl_v hF rfl rfl rfl (q_move rfl (hF.eval rfl)) fun a hF => ?_
  refine wl_v hF rfl rfl rfl (q_move rfl (hF.eval rfl)) fun a hF => ?_
  refine wl_v hF rfl rfl rfl (q_eq rfl (hF.eval rfl) (hF.eval rfl)) fun a hF => ?_
  refine wl_v hF rfl rfl rfl (q_move rfl (hF.eval rfl)) fun a hF => ?_
  refine wl_un hF rfl rfl rfl rfl (isB_T rfl) ?_
  refine wl_v hF rfl rfl rfl (q_move rfl (hF.eval rfl)) fun a hF => ?_
  refine wl_un hF rfl rfl rfl rfl (isB_T rfl) ?_
  refine wl_v hF rfl rfl rfl (q_move rfl (hF.eval rfl)) fun a hF => ?_
  refine wl_un hF rfl rfl rfl rfl (isB_T rfl) ?_
  refine wl_e hF rfl rfl rfl (c_call hF rfl rfl Try.call11 (sameSubs_r _ _ _ l1 l2 (hO.rdT 2 rfl) (hO.rdT 0 rfl) (hO.rdSb 3 rfl) (hO.rdSb 1 rfl))) ?_
  rintro a _ w ⟨rfl, hS⟩ hF
  have hO := hO.call0 hS
  have hO : St _ _ _ [_, _, _, _] := hO
  have hq : decide (l1.map SbN.er = l2.map SbN.er) = true := decide_eq_true hl
  refine wl_v hF rfl rfl rfl (q_and rfl (hF.eval rfl) rfl (fun hg2 => (hF.eval rfl)) (dec_b _)) fun a hF => ?_
  refine wl_v hF rfl rfl rfl (q_move rfl (hF.eval rfl)) fun a hF => ?_
  refine wl_un hF rfl rfl rfl rfl (isB_T ⟨rfl, hq⟩) ?_
  refine wl_e hF rfl rfl rfl (c_call hF rfl rfl Try.call12 (awake_r _)) ?_
  rintro a _ w ⟨rfl, hS⟩ hF
  have hO := hO.call0 hS
  have hO : St _ _ _ [_, _, _, _] := hO
  refine wl_v hF rfl rfl rfl (q_and rfl (hF.eval rfl) rfl (fun hg2 => (hF.eval rfl)) (dec_b _)) fun a hF => ?_
  refine wl_v hF rfl rfl rfl (q_assign rfl (hF.eval rfl)) fun a hF => ?_
  refine wl_nil ?_
  refine k_n ?_
  refine wp_ret ?_
  refine r_1 hF rfl rfl ?_
  have hO := hO.drop1 0
  have hO := hO.drop1 0
  have hO := hO.drop1 0
  have hO := hO.drop1 0
  have hO : St _ _ _ [] := hO
  refine ⟨congrArg Value.bool (decide_eq_true ?_), hO⟩
  exact ⟨⟨rfl, hq⟩, rfl⟩

end Go.Proofs.Ytfkmlcgccffmnaa
