import Derived.Test.YtglienidnffnjaaJf
import Derived.Test.YtglienidnffnjaaIa
import Derived.Test.YtglienidnffnjaaPl16
namespace Go.Proofs.Ytglienidnffnjaa
open Go
set_option maxRecDepth 100000
set_option linter.unusedVariables false
set_option maxHeartbeats 4000000 in
theorem gawake_r (w0 : World) : Ret Try.prog 50 #[] w0 (fun v w' => v = .bool true ∧ St w0 [] w' []) := by
  have hO := St.init0 w0
  refine ret_of (m := 132) Try.func50 rfl Try.ntmps50 [] rfl trivial fun a hF => ?_
  refine wp_seq ?_
  refine wp_region_lit ?_
  refine wl_v hF rfl rfl rfl (q_assign rfl (hF.eval rfl)) fun a hF => ?_
  refine wl_nil ?_
  refine k_n ?_
  refine wp_seq ?_
  refine wp_region_lit ?_
  refine wl_e hF rfl rfl rfl (c_call hF rfl rfl Try.call11 (newOk_r _ _ _ (by decide))) ?_
  rintro a _ w ⟨bh, vw, vh, vr, rfl, hS⟩ hF
  have hO := hO.call0 hS
  have hO : St _ _ _ [_, _, _, _] := hO
  replace hO : St _ _ _ [.ob bh 77 (hpC vw vh vr gw0), slT vw 27 wordE gw0.words, slT vh 84 headE gw0.heads, slT vr 3 intE gw0.rem] := hO
  refine wl_v hF rfl rfl rfl (q_move rfl (hF.eval rfl)) fun a hF => ?_
  refine wl_v hF rfl rfl rfl (q_extract rfl (hF.eval rfl) rfl) fun a hF => ?_
  refine wl_v hF rfl rfl rfl (q_extract rfl (hF.eval rfl) rfl) fun a hF => ?_
  refine wl_v hF rfl rfl rfl (q_assign rfl (hF.eval rfl)) fun a hF => ?_
  refine wl_v hF rfl rfl rfl (q_assign rfl (hF.eval rfl)) fun a hF => ?_
  refine wl_nil ?_
  refine k_n ?_
  refine wp_seq ?_
  refine wp_seq ?_
  refine wp_region_lit ?_
  refine wl_v hF rfl rfl rfl (q_move rfl (hF.eval rfl)) fun a hF => ?_
  refine wl_v hF rfl rfl rfl (q_ne rfl (hF.eval rfl) (hF.eval rfl)) fun a hF => ?_
  refine wl_v hF rfl rfl rfl (q_move rfl (hF.eval rfl)) fun a hF => ?_
  refine wl_g hF rfl rfl rfl rfl rfl rfl (fun hg => q_move rfl (hF.eval rfl)) fun a hF => ?_
  refine wl_g hF rfl rfl rfl rfl rfl rfl (fun hg => q_peq Try.underlying22 rfl ((hF.eval rfl).trans (gv_of hg)) (hF.eval rfl)) fun a hF => ?_
  refine wl_v hF rfl rfl rfl (q_or rfl (hF.eval rfl) rfl (fun hg2 => ((hF.eval rfl).trans (gv_of hg2))) rfl) fun a hF => ?_
  refine wl_nil ?_
  refine k_n ?_
  refine wp_ifD hF rfl rfl (fun hc1 => ?_) (fun hc1 => ?_)
  · skip
    exact absurd hc1 (by simp)
  · skip
    refine wp_skip ?_
    refine k_n ?_
    refine wp_seq ?_
    refine wp_region_lit ?_
    refine wl_v hF rfl rfl rfl (q_move rfl (hF.eval rfl)) fun a hF => ?_
    refine wl_v hF rfl rfl rfl (c_build hF Try.underlying27 Try.zeroValue27 Try_places27 rfl rfl rfl rfl) fun a hF => ?_
    refine wl_e hF rfl rfl rfl (c_buildSlice hF hO Try.underlying37 Try.sizeOf27 Try.zeroValue27 rfl rfl rfl rfl rfl rfl rfl) ?_
    rintro a _ w ⟨b1, rfl, hO⟩ hF
    have hO := hO.pull 4 rfl
    have hO := hO.pull 4 rfl
    have hO := hO.pull 4 rfl
    have hO := hO.pull 4 rfl
    have hO : St _ _ _ [_, _, _, _, _] := hO
    refine wl_e hF rfl rfl rfl (c_call hF rfl rfl Try.call12 (alloc_r _ _ _ _ _ _ hO.own4 gw_w0 (by rw [gw_r0]; decide) _ _ _ [⟨false, 5⟩] (hO.rdT4 0 rfl))) ?_
    rintro a _ w ⟨vr, r1, h1, hl1, rfl, hS⟩ hF
    have hO := hO.call4 hS
    have hO : St _ _ _ [_, _, _, _, _] := hO
    obtain rfl : r1 = (0, 0) := (congrArg Prod.fst hl1).symm.trans gw_1
    obtain rfl : h1 = gw1 := (congrArg Prod.snd hl1).symm
    refine wl_v hF rfl rfl rfl (q_move rfl (hF.eval rfl)) fun a hF => ?_
    refine wl_v hF rfl rfl rfl (q_extract rfl (hF.eval rfl) rfl) fun a hF => ?_
    refine wl_v hF rfl rfl rfl (q_extract rfl (hF.eval rfl) rfl) fun a hF => ?_
    refine wl_v hF rfl rfl rfl (q_assign rfl (hF.eval rfl)) fun a hF => ?_
    refine wl_v hF rfl rfl rfl (q_assign rfl (hF.eval rfl)) fun a hF => ?_
    refine wl_nil ?_
    refine k_n ?_
    refine wp_seq ?_
    refine wp_region_lit ?_
    refine wl_v hF rfl rfl rfl (q_move rfl (hF.eval rfl)) fun a hF => ?_
    refine wl_v hF rfl rfl rfl (q_move rfl (hF.eval rfl)) fun a hF => ?_
    refine wl_v hF rfl rfl rfl (c_build hF Try.underlying27 Try.zeroValue27 Try_places27 rfl rfl rfl rfl) fun a hF => ?_
    refine wl_e hF rfl rfl rfl (c_buildSlice hF hO Try.underlying37 Try.sizeOf27 Try.zeroValue27 rfl rfl rfl rfl rfl rfl rfl) ?_
    rintro a _ w ⟨b2, rfl, hO⟩ hF
    have hO := hO.pull 4 rfl
    have hO := hO.pull 4 rfl
    have hO := hO.pull 4 rfl
    have hO := hO.pull 4 rfl
    have hO : St _ _ _ [_, _, _, _, _, _] := hO
    refine wl_e hF rfl rfl rfl (c_call hF rfl rfl Try.call12 (alloc_r _ _ _ _ _ _ hO.own4 gw_w1 (by rw [gw_r1]; decide) _ _ _ [⟨true, 0⟩] (hO.rdT4 0 rfl))) ?_
    rintro a _ w ⟨vr, r2, h2, hl2, rfl, hS⟩ hF
    have hO := hO.call4 hS
    have hO : St _ _ _ [_, _, _, _, _, _] := hO
    obtain rfl : r2 = (2, 0) := (congrArg Prod.fst hl2).symm.trans gw_2
    obtain rfl : h2 = gw2 := (congrArg Prod.snd hl2).symm
    refine wl_v hF rfl rfl rfl (q_move rfl (hF.eval rfl)) fun a hF => ?_
    refine wl_v hF rfl rfl rfl (q_extract rfl (hF.eval rfl) rfl) fun a hF => ?_
    refine wl_v hF rfl rfl rfl (q_extract rfl (hF.eval rfl) rfl) fun a hF => ?_
    refine wl_v hF rfl rfl rfl (q_assign rfl (hF.eval rfl)) fun a hF => ?_
    refine wl_v hF rfl rfl rfl (q_assign rfl (hF.eval rfl)) fun a hF => ?_
    refine wl_nil ?_
    refine k_n ?_
    refine wp_seq ?_
    refine wp_region_lit ?_
    refine wl_v hF rfl rfl rfl (q_move rfl (hF.eval rfl)) fun a hF => ?_
    have hO := hO.pull 3 rfl
    have hO := hO.pull 3 rfl
    have hO := hO.pull 3 rfl
    have hO := hO.pull 3 rfl
    have hO : St _ _ _ [_, _, _, _, _, _] := hO
    refine wl_e hF rfl rfl rfl (c_call hF rfl rfl Try.call12 (alloc_r _ _ _ _ _ _ hO.own4 gw_w2 (by rw [gw_r2]; decide) _ _ _ [] (Rd.nil _ _ 2))) ?_
    rintro a _ w ⟨vr, r3, h3, hl3, rfl, hS⟩ hF
    have hO := hO.call4 hS
    have hO : St _ _ _ [_, _, _, _, _, _] := hO
    obtain rfl : r3 = (4, 0) := (congrArg Prod.fst hl3).symm.trans gw_3
    obtain rfl : h3 = gw3 := (congrArg Prod.snd hl3).symm
    refine wl_v hF rfl rfl rfl (q_move rfl (hF.eval rfl)) fun a hF => ?_
    refine wl_v hF rfl rfl rfl (q_extract rfl (hF.eval rfl) rfl) fun a hF => ?_
    refine wl_v hF rfl rfl rfl (q_extract rfl (hF.eval rfl) rfl) fun a hF => ?_
    refine wl_v hF rfl rfl rfl (q_assign rfl (hF.eval rfl)) fun a hF => ?_
    refine wl_v hF rfl rfl rfl (q_assign rfl (hF.eval rfl)) fun a hF => ?_
    refine wl_nil ?_
    refine k_n ?_
    refine wp_seq ?_
    refine wp_region_lit ?_
    refine wl_v hF rfl rfl rfl (q_move rfl (hF.eval rfl)) fun a hF => ?_
    refine wl_v hF rfl rfl rfl (q_move rfl (hF.eval rfl)) fun a hF => ?_
    refine wl_v hF rfl rfl rfl (q_move rfl (hF.eval rfl)) fun a hF => ?_
    refine wl_v hF rfl rfl rfl (c_build hF Try.underlying27 Try.zeroValue27 Try_places27 rfl rfl rfl rfl) fun a hF => ?_
    have hO := hO.pull 3 rfl
    have hO := hO.pull 3 rfl
    have hO := hO.pull 3 rfl
    have hO := hO.pull 3 rfl
    have hO : St _ _ _ [_, _, _, _, _, _] := hO
    refine wl_e hF rfl rfl rfl (c_call hF rfl rfl Try.call13 (link_r _ _ _ _ _ _ hO.own4 gw_w3 (by rw [gw_r3]; decide) _ ⟨true, 2⟩)) ?_
    rintro a _ w ⟨vr, r4, h4, hl4, rfl, hS⟩ hF
    have hO := hO.call4 hS
    have hO : St _ _ _ [_, _, _, _, _, _] := hO
    obtain rfl : r4 = 0 := (congrArg Prod.fst hl4).symm.trans gw_4
    obtain rfl : h4 = gw4 := (congrArg Prod.snd hl4).symm
    refine wl_nil ?_
    refine k_n ?_
    refine wp_seq ?_
    refine wp_region_lit ?_
    refine wl_v hF rfl rfl rfl (q_move rfl (hF.eval rfl)) fun a hF => ?_
    refine wl_v hF rfl rfl rfl (c_build hF Try.underlying27 Try.zeroValue27 Try_places27 rfl rfl rfl rfl) fun a hF => ?_
    refine wl_e hF rfl rfl rfl (e_alloc hO Try.zeroValue27 rfl rfl) ?_
    rintro a _ w ⟨rt, rfl, hO⟩ hF
    refine wl_s hF rfl rfl (e_storeAll hO (i := 0) rfl Try.sizeOf27 rfl (hF.eval rfl) (hF.eval rfl) rfl rfl) ?_
    rintro a _ w ⟨-, hO⟩ hF
    have hO : St _ _ _ [_, _, _, _, _, _, _] := hO
    have hO := hO.pull 0 rfl
    replace hO : St _ _ _ (.ob rt 27 (wordE.cells gx) :: [_, _, _, _, _, _]) := hO
    refine wl_nil ?_
    refine k_n ?_
    refine wp_seq ?_
    refine wp_region_lit ?_
    refine wl_v hF rfl rfl rfl (q_move rfl (hF.eval rfl)) fun a hF => ?_
    refine wl_e hF rfl rfl rfl (c_buildSlice hF hO Try.underlying103 Try.sizeOf70 Try.zeroValue70 rfl rfl rfl rfl rfl rfl rfl) ?_
    rintro a _ w ⟨b3, rfl, hO⟩ hF
    refine wl_e hF rfl rfl rfl (c_call hF rfl rfl Try.call51 (live_r _ _ _ _ _ _ (hO.hr 2 3 4 5 rfl rfl rfl rfl) gw_w4 gw_r4 _ [(rt, gx)] (hO.rdT 0 rfl) (fun p hp => by obtain rfl := List.mem_singleton.1 hp; exact hO.rdOb 1 rfl) (by simp) 10 (by decide) 4 4 gw_m1 gw_m2)) ?_
    rintro a _ w ⟨rfl, hS⟩ hF
    have hO := hO.call0 hS
    have hO : St _ _ _ [_, _, _, _, _, _, _, _] := hO
    refine wl_v hF rfl rfl rfl (q_move rfl (hF.eval rfl)) fun a hF => ?_
    refine wl_v hF rfl rfl rfl (q_extract rfl (hF.eval rfl) rfl) fun a hF => ?_
    refine wl_v hF rfl rfl rfl (q_extract rfl (hF.eval rfl) rfl) fun a hF => ?_
    refine wl_v hF rfl rfl rfl (q_assign rfl (hF.eval rfl)) fun a hF => ?_
    refine wl_v hF rfl rfl rfl (q_assign rfl (hF.eval rfl)) fun a hF => ?_
    refine wl_nil ?_
    refine k_n ?_
    refine wp_seq ?_
    refine wp_region_lit ?_
    refine wl_v hF rfl rfl rfl (q_move rfl (hF.eval rfl)) fun a hF => ?_
    refine wl_e hF rfl rfl rfl (c_buildSlice hF hO Try.underlying103 Try.sizeOf70 Try.zeroValue70 rfl rfl rfl rfl rfl rfl rfl) ?_
    rintro a _ w ⟨b4, rfl, hO⟩ hF
    have hO := hO.pull 2 rfl
    have hO := hO.pull 6 rfl
    have hO := hO.pull 6 rfl
    have hO := hO.pull 6 rfl
    have hO := hO.pull 6 rfl
    have hO : St _ _ _ [_, _, _, _, _, _, _, _, _] := hO
    refine wl_e hF rfl rfl rfl (c_call hF rfl rfl Try.call48 (minor1_r _ _ _ _ _ _ _ gx hO.own5 gw_w4 gw_r4 _ (St.rdB (A := [_, _, _, _, _]) hO 0 rfl) 10 (by decide) 4 gw_m1 gw_f1 _ gw_q1)) ?_
    rintro a _ w ⟨vr, rfl, hwm, hS⟩ hF
    have hO := hO.call5 hS
    have hO : St _ _ _ [_, _, _, _, _, _, _, _, _] := hO
    rw [gw_y1] at hO
    refine wl_v hF rfl rfl rfl (q_assign rfl (hF.eval rfl)) fun a hF => ?_
    refine wl_nil ?_
    refine k_n ?_
    refine wp_seq ?_
    refine wp_region_lit ?_
    refine wl_v hF rfl rfl rfl (q_move rfl (hF.eval rfl)) fun a hF => ?_
    refine wl_e hF rfl rfl rfl (c_call hF rfl rfl Try.call18 (object_r _ _ _ _ _ _ (hO.hr 0 1 2 3 rfl rfl rfl rfl) hwm.clear _)) ?_
    rintro a _ w ⟨vo, ro, hro, rfl, hS⟩ hF
    have hO := hO.call0 hS
    have hO : St _ _ _ [_, _, _, _, _, _, _, _, _, _] := hO
    obtain rfl : ro = (⟨1, 2, [⟨true, 66⟩]⟩, 0) := hro.symm.trans gw_o
    obtain ⟨Ao, co, rfl, _⟩ := Rd.is (hO.rd 0 rfl)
    refine wl_v hF rfl rfl rfl (q_move rfl (hF.eval rfl)) fun a hF => ?_
    refine wl_v hF rfl rfl rfl (q_extract rfl (hF.eval rfl) rfl) fun a hF => ?_
    refine wl_v hF rfl rfl rfl (q_extract rfl (hF.eval rfl) rfl) fun a hF => ?_
    refine wl_e hF rfl rfl rfl (e_alloc hO Try.zeroValue42 rfl rfl) ?_
    rintro a _ w ⟨o1, rfl, hO⟩ hF
    refine wl_s hF rfl rfl (e_storeAll hO (i := 0) rfl Try.sizeOf42 rfl (hF.eval rfl) (hF.eval rfl) rfl rfl) ?_
    rintro a _ w ⟨-, hO⟩ hF
    have hO : St _ _ _ [_, _, _, _, _, _, _, _, _, _, _] := hO
    refine wl_v hF rfl rfl rfl (q_assign rfl (hF.eval rfl)) fun a hF => ?_
    refine wl_nil ?_
    refine k_n ?_
    refine wp_seq ?_
    refine wp_region_lit ?_
    refine wl_v hF rfl rfl rfl (q_move rfl (hF.eval rfl)) fun a hF => ?_
    refine wl_e hF rfl rfl rfl (c_call hF rfl rfl Try.call19 (used_r _ _ _ _ _ _ (hO.hr 2 3 4 5 rfl rfl rfl rfl) hwm.clear)) ?_
    rintro a _ w ⟨rfl, hS⟩ hF
    have hO := hO.call0 hS
    have hO : St _ _ _ [_, _, _, _, _, _, _, _, _, _, _] := hO
    rw [gw_u] at hF
    refine wl_v hF rfl rfl rfl (q_move rfl (hF.eval rfl)) fun a hF => ?_
    refine wl_v hF rfl rfl rfl (q_extract rfl (hF.eval rfl) rfl) fun a hF => ?_
    refine wl_v hF rfl rfl rfl (q_extract rfl (hF.eval rfl) rfl) fun a hF => ?_
    refine wl_v hF rfl rfl rfl (q_assign rfl (hF.eval rfl)) fun a hF => ?_
    refine wl_v hF rfl rfl rfl (q_assign rfl (hF.eval rfl)) fun a hF => ?_
    refine wl_nil ?_
    refine k_n ?_
    refine wp_seq ?_
    refine wp_region_lit ?_
    refine wl_v hF rfl rfl rfl (q_move rfl (hF.eval rfl)) fun a hF => ?_
    refine wl_e hF rfl rfl rfl (c_buildSlice hF hO Try.underlying103 Try.sizeOf70 Try.zeroValue70 rfl rfl rfl rfl rfl rfl rfl) ?_
    rintro a _ w ⟨b5, rfl, hO⟩ hF
    have hO := hO.pull 7 rfl
    have hO := hO.pull 7 rfl
    have hO := hO.pull 7 rfl
    have hO := hO.pull 7 rfl
    have hO := hO.pull 7 rfl
    have hO : St _ _ _ [_, _, _, _, _, _, _, _, _, _, _, _] := hO
    refine wl_e hF rfl rfl rfl (c_call hF rfl rfl Try.call49 (major1_r _ _ _ _ _ _ _ gy hO.own5 hwm.clear rfl _ (St.rdB (A := [_, _, _, _, _]) hO 0 rfl) 10 (by decide) gw_l 4 gw_m3 gw_f2 _ gw_q2 gw_rm2)) ?_
    rintro a _ w ⟨vr, rfl, hS⟩ hF
    have hO := hO.call5 hS
    have hO : St _ _ _ [_, _, _, _, _, _, _, _, _, _, _, _] := hO
    rw [gw_y2] at hO
    refine wl_v hF rfl rfl rfl (q_assign rfl (hF.eval rfl)) fun a hF => ?_
    refine wl_nil ?_
    refine k_n ?_
    refine wp_seq ?_
    refine wp_region_lit ?_
    refine wl_v hF rfl rfl rfl (q_move rfl (hF.eval rfl)) fun a hF => ?_
    refine wl_v hF rfl rfl rfl (q_eq rfl (hF.eval rfl) (hF.eval rfl)) fun a hF => ?_
    refine wl_v hF rfl rfl rfl (q_move rfl (hF.eval rfl)) fun a hF => ?_
    refine wl_un hF rfl rfl rfl rfl (isB_T (by decide)) ?_
    refine wl_v hF rfl rfl rfl (q_move rfl (hF.eval rfl)) fun a hF => ?_
    refine wl_un hF rfl rfl rfl rfl (isB_T (by decide)) ?_
    refine wl_v hF rfl rfl rfl (q_eq rfl (hF.eval rfl) (hF.eval rfl)) fun a hF => ?_
    refine wl_v hF rfl rfl rfl (q_and rfl (hF.eval rfl) rfl (fun hg2 => (hF.eval rfl)) rfl) fun a hF => ?_
    refine wl_v hF rfl rfl rfl (q_move rfl (hF.eval rfl)) fun a hF => ?_
    refine wl_un hF rfl rfl rfl rfl (isB_T (by decide)) ?_
    refine wl_v hF rfl rfl rfl (q_move rfl (hF.eval rfl)) fun a hF => ?_
    refine wl_un hF rfl rfl rfl rfl (isB_T (by decide)) ?_
    refine wl_v hF rfl rfl rfl (q_eq rfl (hF.eval rfl) (hF.eval rfl)) fun a hF => ?_
    refine wl_v hF rfl rfl rfl (q_and rfl (hF.eval rfl) rfl (fun hg2 => (hF.eval rfl)) rfl) fun a hF => ?_
    refine wl_v hF rfl rfl rfl (q_move rfl (hF.eval rfl)) fun a hF => ?_
    refine wl_un hF rfl rfl rfl rfl (isB_T (by decide)) ?_
    refine wl_v hF rfl rfl rfl (q_move rfl (hF.eval rfl)) fun a hF => ?_
    refine wl_un hF rfl rfl rfl rfl (isB_T (by decide)) ?_
    refine wl_v hF rfl rfl rfl (q_eq rfl (hF.eval rfl) (hF.eval rfl)) fun a hF => ?_
    refine wl_v hF rfl rfl rfl (q_and rfl (hF.eval rfl) rfl (fun hg2 => (hF.eval rfl)) rfl) fun a hF => ?_
    refine wl_v hF rfl rfl rfl (q_move rfl (hF.eval rfl)) fun a hF => ?_
    refine wl_un hF rfl rfl rfl rfl (isB_T (by decide)) ?_
    refine wl_v hF rfl rfl rfl (q_move rfl (hF.eval rfl)) fun a hF => ?_
    refine wl_un hF rfl rfl rfl rfl (isB_T (by decide)) ?_
    refine wl_v hF rfl rfl rfl (q_eq rfl (hF.eval rfl) (hF.eval rfl)) fun a hF => ?_
    refine wl_v hF rfl rfl rfl (q_and rfl (hF.eval rfl) rfl (fun hg2 => (hF.eval rfl)) rfl) fun a hF => ?_
    refine wl_v hF rfl rfl rfl (q_move rfl (hF.eval rfl)) fun a hF => ?_
    refine wl_un hF rfl rfl rfl rfl (isB_T (by decide)) ?_
    refine wl_v hF rfl rfl rfl (q_fieldAddr0 (d := 0) Try.underlying42 rfl (hF.eval rfl) rfl Try.sizeOf3 (by decide) rfl) fun a hF => ?_
    refine wl_un hF rfl rfl rfl rfl (isB_T (by decide)) ?_
    refine wl_v hF rfl rfl rfl (q_load Try.isAgg3 rfl (hF.eval rfl) (hO.cell 6 rfl rfl)) fun a hF => ?_
    refine wl_un hF rfl rfl rfl rfl (isB_T (by decide)) ?_
    refine wl_v hF rfl rfl rfl (q_eq rfl (hF.eval rfl) (hF.eval rfl)) fun a hF => ?_
    refine wl_v hF rfl rfl rfl (q_and rfl (hF.eval rfl) rfl (fun hg2 => (hF.eval rfl)) rfl) fun a hF => ?_
    refine wl_v hF rfl rfl rfl (q_move rfl (hF.eval rfl)) fun a hF => ?_
    refine wl_un hF rfl rfl rfl rfl (isB_T (by decide)) ?_
    refine wl_v hF rfl rfl rfl (q_fieldAddr0 (d := 1) Try.underlying42 rfl (hF.eval rfl) rfl Try.sizeOf3 (by decide) rfl) fun a hF => ?_
    refine wl_un hF rfl rfl rfl rfl (isB_T (by decide)) ?_
    refine wl_v hF rfl rfl rfl (q_load Try.isAgg3 rfl (hF.eval rfl) (hO.cell 6 rfl rfl)) fun a hF => ?_
    refine wl_un hF rfl rfl rfl rfl (isB_T (by decide)) ?_
    refine wl_v hF rfl rfl rfl (q_eq rfl (hF.eval rfl) (hF.eval rfl)) fun a hF => ?_
    refine wl_v hF rfl rfl rfl (q_and rfl (hF.eval rfl) rfl (fun hg2 => (hF.eval rfl)) rfl) fun a hF => ?_
    refine wl_v hF rfl rfl rfl (q_move rfl (hF.eval rfl)) fun a hF => ?_
    refine wl_un hF rfl rfl rfl rfl (isB_T (by decide)) ?_
    refine wl_v hF rfl rfl rfl (q_fieldAddr0 (d := 2) Try.underlying42 rfl (hF.eval rfl) rfl Try.sizeOf37 (by decide) rfl) fun a hF => ?_
    refine wl_un hF rfl rfl rfl rfl (isB_T (by decide)) ?_
    refine wl_v hF rfl rfl rfl (q_load Try.isAgg37 rfl (hF.eval rfl) (hO.cell 6 rfl rfl)) fun a hF => ?_
    refine wl_un hF rfl rfl rfl rfl (isB_T (by decide)) ?_
    refine wl_v hF rfl rfl rfl (q_lenRd (hO.rd 7 rfl) Try.underlying37 rfl (hF.eval rfl)) fun a hF => ?_
    refine wl_un hF rfl rfl rfl rfl (isB_T (by decide)) ?_
    refine wl_v hF rfl rfl rfl (q_eq rfl (hF.eval rfl) (hF.eval rfl)) fun a hF => ?_
    refine wl_v hF rfl rfl rfl (q_and rfl (hF.eval rfl) rfl (fun hg2 => (hF.eval rfl)) rfl) fun a hF => ?_
    refine wl_v hF rfl rfl rfl (q_move rfl (hF.eval rfl)) fun a hF => ?_
    refine wl_un hF rfl rfl rfl rfl (isB_T (by decide)) ?_
    refine wl_v hF rfl rfl rfl (q_fieldAddr0 (d := 2) Try.underlying42 rfl (hF.eval rfl) rfl Try.sizeOf37 (by decide) rfl) fun a hF => ?_
    refine wl_un hF rfl rfl rfl rfl (isB_T (by decide)) ?_
    refine wl_v hF rfl rfl rfl (q_load Try.isAgg37 rfl (hF.eval rfl) (hO.cell 6 rfl rfl)) fun a hF => ?_
    refine wl_un hF rfl rfl rfl rfl (isB_T (by decide)) ?_
    refine wl_v hF rfl rfl rfl (q_at (i := 0) (hO.rd 7 rfl) Try.underlying37 Try.sizeOf27 rfl (hF.eval rfl) (hF.eval rfl) (by decide)) fun a hF => ?_
    refine wl_un hF rfl rfl rfl rfl (isB_T (by decide)) ?_
    refine wl_v hF rfl rfl rfl (q_loadAgg Try.isAgg27 Try.sizeOf27 rfl (hF.eval rfl) (RdT.cells (hO.rdT 7 rfl) (rfl : ([⟨true, 66⟩] : List Wd)[0]? = some ⟨true, 66⟩)) rfl) fun a hF => ?_
    refine wl_un hF rfl rfl rfl rfl (isB_T (by decide)) ?_
    refine wl_v hF rfl rfl rfl (c_build hF Try.underlying27 Try.zeroValue27 Try_places27 rfl rfl rfl rfl) fun a hF => ?_
    refine wl_un hF rfl rfl rfl rfl (isB_T (by decide)) ?_
    refine wl_v hF rfl rfl rfl (q_eqS Try.underlying27 Try.stoodInHeld27 Try.eqGuardType27 rfl (hF.eval rfl) (hF.eval rfl) (ef_bool (by decide) Try.isAgg4 Try.underlying4 rfl rfl (ef_int (by decide) Try.isAgg3 Try.underlying3 rfl rfl ef_nil)) (word_eq ⟨true, 66⟩ ⟨true, 66⟩)) fun a hF => ?_
    refine wl_v hF rfl rfl rfl (q_and rfl (hF.eval rfl) rfl (fun hg2 => (hF.eval rfl)) rfl) fun a hF => ?_
    refine wl_v hF rfl rfl rfl (q_move rfl (hF.eval rfl)) fun a hF => ?_
    refine wl_un hF rfl rfl rfl rfl (isB_T (by decide)) ?_
    refine wl_v hF rfl rfl rfl (q_move rfl (hF.eval rfl)) fun a hF => ?_
    refine wl_un hF rfl rfl rfl rfl (isB_T (by decide)) ?_
    refine wl_v hF rfl rfl rfl (q_eq rfl (hF.eval rfl) (hF.eval rfl)) fun a hF => ?_
    refine wl_v hF rfl rfl rfl (q_and rfl (hF.eval rfl) rfl (fun hg2 => (hF.eval rfl)) rfl) fun a hF => ?_
    refine wl_v hF rfl rfl rfl (q_move rfl (hF.eval rfl)) fun a hF => ?_
    refine wl_un hF rfl rfl rfl rfl (isB_T (by decide)) ?_
    refine wl_v hF rfl rfl rfl (q_move rfl (hF.eval rfl)) fun a hF => ?_
    refine wl_un hF rfl rfl rfl rfl (isB_T (by decide)) ?_
    refine wl_v hF rfl rfl rfl (q_eq rfl (hF.eval rfl) (hF.eval rfl)) fun a hF => ?_
    refine wl_v hF rfl rfl rfl (q_and rfl (hF.eval rfl) rfl (fun hg2 => (hF.eval rfl)) rfl) fun a hF => ?_
    refine wl_v hF rfl rfl rfl (q_move rfl (hF.eval rfl)) fun a hF => ?_
    refine wl_un hF rfl rfl rfl rfl (isB_T (by decide)) ?_
    refine wl_v hF rfl rfl rfl (q_loadAgg Try.isAgg27 Try.sizeOf27 rfl (hF.eval rfl) (hO.cells 4 rfl) rfl) fun a hF => ?_
    refine wl_un hF rfl rfl rfl rfl (isB_T (by decide)) ?_
    refine wl_v hF rfl rfl rfl (c_build hF Try.underlying27 Try.zeroValue27 Try_places27 rfl rfl rfl rfl) fun a hF => ?_
    refine wl_un hF rfl rfl rfl rfl (isB_T (by decide)) ?_
    refine wl_v hF rfl rfl rfl (q_eqS Try.underlying27 Try.stoodInHeld27 Try.eqGuardType27 rfl (hF.eval rfl) (hF.eval rfl) (ef_bool (by decide) Try.isAgg4 Try.underlying4 rfl rfl (ef_int (by decide) Try.isAgg3 Try.underlying3 rfl rfl ef_nil)) (word_eq ⟨true, 128⟩ ⟨true, 128⟩)) fun a hF => ?_
    refine wl_v hF rfl rfl rfl (q_and rfl (hF.eval rfl) rfl (fun hg2 => (hF.eval rfl)) rfl) fun a hF => ?_
    refine wl_v hF rfl rfl rfl (q_assign rfl (hF.eval rfl)) fun a hF => ?_
    refine wl_nil ?_
    refine k_n ?_
    refine wp_ret ?_
    refine r_1 hF rfl rfl ?_
    have hO := hO.drop1 0
    have hO := hO.drop1 0
    have hO := hO.drop1 0
    have hO := hO.drop1 0
    have hO := hO.drop1 0
    have hO := hO.drop1 0
    have hO := hO.drop1 0
    have hO := hO.drop1 0
    have hO := hO.drop1 0
    have hO := hO.drop1 0
    have hO := hO.drop1 0
    have hO := hO.drop1 0
    have hO : St _ _ _ [] := hO
    exact ⟨congrArg Value.bool (by decide), hO⟩

end Go.Proofs.Ytglienidnffnjaa
