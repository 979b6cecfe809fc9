import Derived.Test.YtglienidnffnjaaJa
namespace Go.Proofs.Ytglienidnffnjaa
open Go
set_option maxRecDepth 100000
set_option linter.unusedVariables false
theorem size_r (w0 : World) (q : Qo) (hfl : q.fs.length ≤ 4194304) (hR : RdT w0 [] q.h.v wordE q.fs) : Ret Try.prog 96 #[.agg (qoE.cells q).toArray] w0 (fun v w' => v = i64 (obSize q.ob) ∧ St w0 [] w' []) := by
  have hO := St.init0 w0
  have hl := RdT.lenle hR
  refine ret_of (m := 8) Try.func96 rfl Try.ntmps96 [(0, .agg (qoE.cells q).toArray)] rfl ⟨rfl, trivial⟩ fun a hF => ?_
  refine wp_seq ?_
  refine wp_region_lit ?_
  refine wl_e hF rfl rfl rfl (e_box hO rfl (hF.eval rfl) rfl) ?_
  rintro a _ w ⟨ob, rfl, hO⟩ hF
  refine wl_v hF rfl rfl rfl (q_assign rfl (hF.eval rfl)) fun a hF => ?_
  refine wl_nil ?_
  refine k_n ?_
  refine wp_seq ?_
  refine wp_region_lit ?_
  refine wl_v hF rfl rfl rfl (q_fieldAddr0 (d := 2) Try.underlying42 rfl (hF.eval rfl) rfl Try.sizeOf37 (by decide) rfl) fun a hF => ?_
  refine wl_v hF rfl rfl rfl (q_load Try.isAgg37 rfl (hF.eval rfl) (hO.cell 0 rfl rfl)) fun a hF => ?_
  refine wl_v hF rfl rfl rfl (q_lenRd hR Try.underlying37 rfl (hF.eval rfl)) fun a hF => ?_
  refine wl_v hF rfl rfl rfl (q_max rfl (hF.eval rfl) (hF.eval rfl)) fun a hF => ?_
  refine wl_v hF rfl rfl rfl (q_add rfl (hF.eval rfl) (hF.eval rfl) (by omega)) fun a hF => ?_
  refine wl_v hF rfl rfl rfl (q_assign rfl (hF.eval rfl)) fun a hF => ?_
  refine wl_nil ?_
  refine k_n ?_
  refine wp_ret ?_
  refine r_1 hF rfl rfl ?_
  have hO := hO.drop1 0
  have hO : St _ _ _ [] := hO
  exact ⟨rfl, hO⟩

set_option maxHeartbeats 1000000 in
theorem find_r (w0 : World) (bh : Nat) (vw vh vr : Value) (h : Hp) (hH : HR w0 [] bh vw vh vr h) (hw : Wf h) (bw : Nat) (cs : List Value) (young : Bool) (hB : Rd w0 [] (gl1 bw) cs.length 1 cs) (h0 : cs[0]? = some (ptr (adr bh))) (h1 : cs[1]? = some (.bool young)) (x : Wd) : Ret Try.prog 95 #[ptr (adr bw), .agg (wordE.cells x).toArray] w0 (fun v w' => ∃ q : Qo, v = .tuple #[i64 (findF h young x).1.1, .agg (qoE.cells q).toArray, .bool (findF h young x).2] ∧ q.ob = (findF h young x).1.2 ∧ St w0 [] w' [slT q.h.v 27 wordE q.fs]) := by
  have hO := St.init0 w0
  refine ret_of (m := 50) Try.func95 rfl Try.ntmps95 [(0, ptr (adr bw)), (1, .agg (wordE.cells x).toArray)] rfl ⟨rfl, rfl, trivial⟩ fun a hF => ?_
  refine wp_seq ?_
  refine wp_region_lit ?_
  refine wl_e hF rfl rfl rfl (e_box hO rfl (hF.eval rfl) rfl) ?_
  rintro a _ w ⟨xb, rfl, hO⟩ hF
  refine wl_v hF rfl rfl rfl (q_assign rfl (hF.eval rfl)) fun a hF => ?_
  refine wl_e hF rfl rfl rfl (e_alloc hO Try.zeroValue42 rfl rfl) ?_
  rintro a _ w ⟨ob, rfl, hO⟩ hF
  refine wl_v hF rfl rfl rfl (q_assign rfl (hF.eval rfl)) fun a hF => ?_
  refine wl_nil ?_
  refine k_n ?_
  refine wp_seq ?_
  have hO := hO.drew
  refine wp_region_D [0, 0, 0, 1, 1, 3, 3] (fun w => St _ _ w _) Try_mixed (by kernel_rfl) hO ?_
  refine wd_p hF rfl rfl rfl (fun w => q_move rfl (hF.eval rfl)) fun a hF => ?_
  refine wd_p hF rfl rfl rfl (fun w => q_nilCheck rfl (hF.eval rfl)) fun a hF => ?_
  refine wd_p hF rfl rfl rfl (fun w => q_fieldAddr0 (d := 0) Try.underlying117 rfl (hF.eval rfl) rfl Try.sizeOf22 (by decide) rfl) fun a hF => ?_
  refine wd_r hF rfl rfl rfl (fun w hO => q_load Try.isAgg22 rfl (hF.eval rfl) (rdB_cell (Rd.now hB hO) h0)) fun a hF => ?_
  refine wd_r hF rfl rfl rfl (fun w hO => q_loadAgg Try.isAgg27 Try.sizeOf27 rfl (hF.eval rfl) (hO.cells 1 rfl) rfl) fun a hF => ?_
  refine wd_f hF rfl rfl rfl (c_call hF rfl rfl Try.call14 (chase_r _ _ _ _ _ _ (hH.at0 hO) hw x)) ?_
  rintro a _ w ⟨rfl, hS⟩ hF
  have hO := hO.call0 hS
  have hO : St _ _ _ [_, _] := hO
  refine wd_s hF rfl rfl (e_storeAll hO (i := 1) rfl Try.sizeOf27 rfl (hF.eval rfl) (hF.eval rfl) rfl rfl) ?_
  rintro a _ w ⟨-, hO⟩ hF
  have hO : St _ _ _ [_, _] := hO
  replace hO : St _ _ _ [_, .ob xb 27 (wordE.cells (chaseH h x))] := hO
  refine wd_nil ?_
  refine k_n ?_
  refine wp_seq ?_
  refine wp_seq ?_
  have hO := hO.drew
  refine wp_region_D [0, 1, 0, 0, 0, 0, 0, 1, 0, 0, 0, 0, 1, 0, 1, 3, 0, 0, 0] (fun w => St _ _ w _) Try_mixed (by kernel_rfl) hO ?_
  refine wd_p hF rfl rfl rfl (fun w => q_fieldAddr0 (d := 0) Try.underlying27 rfl (hF.eval rfl) rfl Try.sizeOf4 (by decide) rfl) fun a hF => ?_
  refine wd_r hF rfl rfl rfl (fun w hO => q_load Try.isAgg4 rfl (hF.eval rfl) (hO.cell 1 rfl rfl)) fun a hF => ?_
  refine wd_p hF rfl rfl rfl (fun w => q_not rfl (hF.eval rfl) (dec_b _)) fun a hF => ?_
  refine wd_p hF rfl rfl rfl (fun w => q_move rfl (hF.eval rfl)) fun a hF => ?_
  refine wd_gp hF rfl rfl rfl rfl rfl rfl (fun hg w => q_move rfl (hF.eval rfl)) fun a hF => ?_
  refine wd_gp hF rfl rfl rfl rfl rfl rfl (fun hg w => q_nilCheck rfl ((hF.eval rfl).trans (gv_of hg))) fun a hF => ?_
  refine wd_gp hF rfl rfl rfl rfl rfl rfl (fun hg w => q_fieldAddr0 (d := 1) Try.underlying117 rfl ((hF.eval rfl).trans (gv_of hg)) rfl Try.sizeOf4 (by decide) rfl) fun a hF => ?_
  refine wd_gr hF rfl rfl rfl rfl rfl rfl (fun hg w hO => q_load Try.isAgg4 rfl ((hF.eval rfl).trans (gv_of hg)) (rdB_cell (Rd.now hB hO) h1)) fun a hF => ?_
  refine wd_gp hF rfl rfl rfl rfl rfl rfl (fun hg w => q_move rfl ((hF.eval rfl).trans (gv_of hg))) fun a hF => ?_
  refine wd_gp hF rfl rfl rfl rfl rfl rfl (fun hg w => q_move rfl (hF.eval rfl)) fun a hF => ?_
  refine wd_gp hF rfl rfl rfl rfl rfl rfl (fun hg w => q_nilCheck rfl ((hF.eval rfl).trans (gv_of hg))) fun a hF => ?_
  refine wd_gp hF rfl rfl rfl rfl rfl rfl (fun hg w => q_fieldAddr0 (d := 0) Try.underlying117 rfl ((hF.eval rfl).trans (gv_of hg)) rfl Try.sizeOf22 (by decide) rfl) fun a hF => ?_
  refine wd_gr hF rfl rfl rfl rfl rfl rfl (fun hg w hO => q_load Try.isAgg22 rfl ((hF.eval rfl).trans (gv_of hg)) (rdB_cell (Rd.now hB hO) h0)) fun a hF => ?_
  refine wd_gp hF rfl rfl rfl rfl rfl rfl (fun hg w => q_fieldAddr0 (d := 1) Try.underlying27 rfl (hF.eval rfl) rfl Try.sizeOf3 (by decide) rfl) fun a hF => ?_
  refine wd_gr hF rfl rfl rfl rfl rfl rfl (fun hg w hO => q_load Try.isAgg3 rfl ((hF.eval rfl).trans (gv_of hg)) (hO.cell 1 rfl rfl)) fun a hF => ?_
  refine wd_gk hO hF rfl rfl rfl rfl rfl rfl (fun hg => c_callG hF rfl rfl (by first | with_reducible rfl | (simp only [gv_of hg]; done) | (simp only [gv_of hg]; rfl)) Try.call26 (young_r _ _ _ _ _ _ (hH.at0 hO) _)) fun a w hO hF => ?_
  refine wd_gp hF rfl rfl rfl rfl rfl rfl (fun hg w => q_not rfl ((hF.eval rfl).trans (gv_of hg)) rfl) fun a hF => ?_
  refine wd_gp hF rfl rfl rfl rfl rfl rfl (fun hg w => q_and rfl ((hF.eval rfl).trans (gv_of hg)) (dec_b _) (fun hg2 => ((hF.eval rfl).trans (gv_of2 hg hg2))) rfl) fun a hF => ?_
  refine wd_p hF rfl rfl rfl (fun w => q_or rfl (hF.eval rfl) rfl (fun hg2 => ((hF.eval rfl).trans (gv_of hg2))) rfl) fun a hF => ?_
  refine wd_nil ?_
  refine k_n ?_
  refine wp_ifD hF rfl rfl (fun hc1 => ?_) (fun hc1 => ?_)
  · skip
    refine wp_seq ?_
    refine wp_region_lit ?_
    refine wl_v hF rfl rfl rfl (c_build hF Try.underlying42 Try.zeroValue42 Try_places42 rfl rfl rfl rfl) fun a hF => ?_
    refine wl_v hF rfl rfl rfl (q_assign rfl (hF.eval rfl)) fun a hF => ?_
    refine wl_s hF rfl rfl (e_storeAll hO (i := 0) rfl Try.sizeOf42 rfl (hF.eval rfl) (hF.eval rfl) rfl rfl) ?_
    rintro a _ w ⟨-, hO⟩ hF
    have hO : St _ _ _ [_, _] := hO
    refine wl_v hF rfl rfl rfl (q_assign rfl (hF.eval rfl)) fun a hF => ?_
    refine wl_nil ?_
    refine k_n ?_
    refine wp_ret ?_
    refine k_r ?_
    refine r_tct hF rfl rfl rfl rfl Try.isAgg42 Try.sizeOf42 (hO.cells 0 rfl) rfl ?_
    have hO := (hO.nilSl 27 2).only
    have hn : foundNo h young x := hc1
    refine ⟨⟨0, 0, ⟨none, 0, 0⟩, []⟩, ?_, ?_, hO⟩ <;> unfold findF <;> rw [if_pos hn] <;> rfl
  · skip
    refine wp_skip ?_
    refine k_n ?_
    refine wp_seq ?_
    refine wp_region_5 [0, 0, 0, 1, 0, 1, 5, 0, 0, 0, 4, 3, 0] (fun u A => ∃ (q : Hdr) (r : Ob × Int), objH h (chaseH h x).n = r ∧ u = .tuple #[.agg #[i64 r.1.kind, i64 r.1.info, q.v], i64 r.2] ∧ A = [slT q.v 27 wordE r.1.fields]) Try_mixed (by kernel_rfl) hO ?_
    refine w5_p hF rfl rfl rfl (fun w => q_move rfl (hF.eval rfl)) fun a hF => ?_
    refine w5_p hF rfl rfl rfl (fun w => q_nilCheck rfl (hF.eval rfl)) fun a hF => ?_
    refine w5_p hF rfl rfl rfl (fun w => q_fieldAddr0 (d := 0) Try.underlying117 rfl (hF.eval rfl) rfl Try.sizeOf22 (by decide) rfl) fun a hF => ?_
    refine w5_r hF rfl rfl rfl (fun w hO => q_load Try.isAgg22 rfl (hF.eval rfl) (rdB_cell (Rd.now hB hO) h0)) fun a hF => ?_
    refine w5_p hF rfl rfl rfl (fun w => q_fieldAddr0 (d := 1) Try.underlying27 rfl (hF.eval rfl) rfl Try.sizeOf3 (by decide) rfl) fun a hF => ?_
    refine w5_r hF rfl rfl rfl (fun w hO => q_load Try.isAgg3 rfl (hF.eval rfl) (hO.cell 1 rfl rfl)) fun a hF => ?_
    refine w5_c hF rfl rfl rfl (fun w hO => Eff.mono (c_call hF rfl rfl Try.call18 (object_r _ _ _ _ _ _ (hH.at0 hO) hw _)) (fun u w2 ⟨vf, r, h1, h2, hS⟩ => by obtain ⟨q, rfl⟩ := Rd.hdr (hS.rd 0 rfl); exact ⟨_, ⟨q, r, h1, h2, rfl⟩, hS⟩)) ?_
    rintro _ _ a ⟨hq, ro, hro, rfl, rfl⟩ hF
    refine w5_p hF rfl rfl rfl (fun w => q_move rfl (hF.eval rfl)) fun a hF => ?_
    refine w5_p hF rfl rfl rfl (fun w => q_extract rfl (hF.eval rfl) rfl) fun a hF => ?_
    refine w5_p hF rfl rfl rfl (fun w => q_extract rfl (hF.eval rfl) rfl) fun a hF => ?_
    refine w5_m hF rfl rfl rfl (m_alloc Try.zeroValue42 rfl rfl) fun b_o2 a hF => ?_
    refine w5_w (fun w hO => ?_) rfl
    have hO : St _ _ _ [_, _, _, _] := hO
    have hO := hO.asOb (i := 0) rfl
    have hO : St _ _ _ [_, _, _, _] := hO
    refine w5_s hF rfl rfl (e_storeAll hO (i := 0) rfl Try.sizeOf42 rfl (hF.eval rfl) (hF.eval rfl) rfl rfl) ?_
    rintro a _ w ⟨-, hO⟩ hF
    have hO : St _ _ _ [_, _, _, _] := hO
    refine w5_p hF rfl rfl rfl (fun w => q_assign rfl (hF.eval rfl)) fun a hF => ?_
    refine w5_nilw ?_
    refine k_n ?_
    refine wp_seq ?_
    have hO := hO.drew
    refine wp_region_D [0, 1, 1, 0, 0, 0, 3, 0] (fun w => St _ _ w _) Try_mixed (by kernel_rfl) hO ?_
    refine wd_p hF rfl rfl rfl (fun w => q_fieldAddr0 (d := 1) Try.underlying27 rfl (hF.eval rfl) rfl Try.sizeOf3 (by decide) rfl) fun a hF => ?_
    refine wd_r hF rfl rfl rfl (fun w hO => q_load Try.isAgg3 rfl (hF.eval rfl) (hO.cell 3 rfl rfl)) fun a hF => ?_
    refine wd_r hF rfl rfl rfl (fun w hO => q_loadAgg Try.isAgg42 Try.sizeOf42 rfl (hF.eval rfl) (hO.cells 0 rfl) rfl) fun a hF => ?_
    refine wd_p hF rfl rfl rfl (fun w => q_move rfl (hF.eval rfl)) fun a hF => ?_
    refine wd_p hF rfl rfl rfl (fun w => q_eq rfl (hF.eval rfl) (hF.eval rfl)) fun a hF => ?_
    refine wd_p hF rfl rfl rfl (fun w => q_assign rfl (hF.eval rfl)) fun a hF => ?_
    refine wd_s hF rfl rfl (e_storeAll hO (i := 2) rfl Try.sizeOf42 rfl (hF.eval rfl) (hF.eval rfl) rfl rfl) ?_
    rintro a _ w ⟨-, hO⟩ hF
    have hO : St _ _ _ [_, _, _, _] := hO
    refine wd_p hF rfl rfl rfl (fun w => q_assign rfl (hF.eval rfl)) fun a hF => ?_
    refine wd_nil ?_
    refine k_n ?_
    refine wp_ret ?_
    refine r_tct hF rfl rfl rfl rfl Try.isAgg42 Try.sizeOf42 (hO.cells 2 rfl) rfl ?_
    have hO := (hO.pull 1 rfl).only
    have hn : ¬ foundNo h young x := hc1
    refine ⟨⟨ro.1.kind, ro.1.info, hq, ro.1.fields⟩, ?_, ?_, hO⟩ <;> unfold findF <;> rw [if_neg hn, hro] <;> rfl

end Go.Proofs.Ytglienidnffnjaa
