import Derived.Test.YtfkmlcgccffmnaaVb
import Derived.Test.YtfkmlcgccffmnaaPu12
namespace Go.Proofs.Ytfkmlcgccffmnaa
open Go
set_option maxRecDepth 100000
set_option linter.unusedVariables false

theorem len_nodes : ∀ l : List TN, l.length ≤ nodesL (l.map TN.er)
  | [] => Nat.le_refl _
  | t :: l => by
    show l.length + 1 ≤ nodesF t.er + nodesL (l.map TN.er)
    have := nodes_pos t.er; have := len_nodes l; omega
set_option maxHeartbeats 1000000 in
theorem copy_i (k : Int) (n : List UInt8) (hd : Hdr) (l : List TN) (ih : ∀ t ∈ l, ∀ (w0 : World), RdN w0 [] t → nodesF t.er ≤ 1099511627776 → Ret Try.prog 13 #[.agg (tnE.cells t).toArray] w0 (fun v w' => ∃ z : TN, v = .agg (tnE.cells z).toArray ∧ z.er = t.er ∧ St w0 [] w' [tE 33 z])) (w0 : World) (hR : RdN w0 [] (TN.mk k n hd l)) (hN : nodesF (TN.mk k n hd l).er ≤ 1099511627776) : Ret Try.prog 13 #[.agg (tnE.cells (TN.mk k n hd l)).toArray] w0 (fun v w' => ∃ z : TN, v = .agg (tnE.cells z).toArray ∧ z.er = (TN.mk k n hd l).er ∧ St w0 [] w' [tE 33 z]) := by
  have hO := St.init0 w0
  have hnm : nodesF (TN.mk k n hd l).er = 1 + nodesL (l.map TN.er) := nodes_mk
  have hlN : l.length ≤ nodesL (l.map TN.er) := len_nodes l
  refine ret_of (m := 24) Try.func13 rfl Try.ntmps13 [(0, .agg (tnE.cells (TN.mk k n hd l)).toArray)] rfl ⟨rfl, trivial⟩ fun a hF => ?_
  refine wp_seq ?_
  refine wp_region_lit ?_
  refine wl_e hF rfl rfl rfl (e_box hO rfl (hF.eval rfl) rfl) ?_
  rintro a _ w ⟨tk, rfl, hO⟩ hF
  refine wl_e hF rfl rfl rfl (e_alloc hO Try.zeroValue33 rfl rfl) ?_
  rintro a _ w ⟨rs, rfl, hO⟩ hF
  refine wl_nil ?_
  refine k_n ?_
  refine wp_seq ?_
  refine wp_region_lit ?_
  refine wl_v hF rfl rfl rfl (q_assign rfl (hF.eval rfl)) fun a hF => ?_
  have hO := hO.nilSl 33 3
  refine wl_nil ?_
  refine k_n ?_
  refine wp_seq ?_
  refine wp_seq ?_
  refine wp_region_lit ?_
  refine wl_v hF rfl rfl rfl (q_assign rfl (hF.eval rfl)) fun a hF => ?_
  have hO : St _ _ _ (Ent.grp (([] : List TN).map (tE 33)) :: _) := hO.grp0
  have hO : St _ _ _ [_, _, _, _] := hO
  refine wl_nil ?_
  refine k_n ?_
  refine wp_block ?_
  have hO := hO.pull 1 rfl
  have hO := hO.pull 2 rfl
  have hO := hO.pull 3 rfl
  have hO : St _ _ _ [_, _, _, _] := hO
  refine wp_loopS (fun (s : Nat × Value × List TN) a w' => match s with | (i, vo, zs) => (i ≤ l.length ∧ zs.map TN.er = (l.take i).map TN.er) ∧ St w0 [] w' [.ob tk 33 (tnE.cells (TN.mk k n hd l)), .ob rs 33 [i64 0, str [], .slice none 0 0], slT vo 33 tnE zs, Ent.grp (zs.map (tE 33))] ∧ Fr a 24 [(1, ptr (adr tk)), (2, ptr (adr rs)), (3, vo), (4, i64 i)]) (fun (s : Nat × Value × List TN) => match s with | (i, vo, zs) => l.length - i) (0, _, []) ⟨⟨by omega, rfl⟩, hO, hF.sub ⟨rfl, rfl, rfl, rfl, trivial⟩⟩ ?_
  rintro ⟨i, vo, zs⟩ a w ⟨⟨hi, hz⟩, hO, hF⟩
  have hzl : zs.length = i := by have := congrArg List.length hz; rw [List.length_map, List.length_map, List.length_take] at this; omega
  refine wp_seq ?_
  refine wp_seq ?_
  refine wp_region_lit ?_
  refine wl_v hF rfl rfl rfl (q_move rfl (hF.eval rfl)) fun a hF => ?_
  refine wl_v hF rfl rfl rfl (q_fieldAddr0 (d := 2) Try.underlying33 rfl (hF.eval rfl) rfl Try.sizeOf31 (by decide) rfl) fun a hF => ?_
  refine wl_v hF rfl rfl rfl (q_load Try.isAgg31 rfl (hF.eval rfl) (hO.cell 0 rfl rfl)) fun a hF => ?_
  refine wl_v hF rfl rfl rfl (q_lenRd hR.sl Try.underlying31 rfl (hF.eval rfl)) fun a hF => ?_
  refine wl_v hF rfl rfl rfl (q_lt rfl (hF.eval rfl) (hF.eval rfl)) fun a hF => ?_
  refine wl_nil ?_
  refine k_n ?_
  refine wp_ifD hF rfl rfl (fun hc1 => ?_) (fun hc1 => ?_)
  · skip
    refine wp_skip ?_
    refine k_n ?_
    refine wp_seq ?_
    refine wp_block ?_
    refine wp_region_lit ?_
    refine wl_v hF rfl rfl rfl (q_move rfl (hF.eval rfl)) fun a hF => ?_
    refine wl_v hF rfl rfl rfl (q_fieldAddr0 (d := 2) Try.underlying33 rfl (hF.eval rfl) rfl Try.sizeOf31 (by decide) rfl) fun a hF => ?_
    refine wl_v hF rfl rfl rfl (q_load Try.isAgg31 rfl (hF.eval rfl) (hO.cell 0 rfl rfl)) fun a hF => ?_
    refine wl_v hF rfl rfl rfl (q_move rfl (hF.eval rfl)) fun a hF => ?_
    obtain ⟨x, hx⟩ := get_ex (l := l) (i := i) (by omega)
    refine wl_v hF rfl rfl rfl (q_at (i := i) hR.sl Try.underlying31 Try.sizeOf33 rfl (hF.eval rfl) (hF.eval rfl) (by omega)) fun a hF => ?_
    refine wl_v hF rfl rfl rfl (q_loadAgg Try.isAgg33 Try.sizeOf33 rfl (hF.eval rfl) (RdT.cells (hR.sl.now hO) hx) rfl) fun a hF => ?_
    refine wl_e hF rfl rfl rfl (c_call hF rfl rfl Try.call13 (ih x (List.mem_of_getElem? hx) _ ((hR.sub x (List.mem_of_getElem? hx)).at0 hO) (by have := nodes_in (k := k) (n := n) (hd := hd) (List.mem_of_getElem? hx); omega))) ?_
    rintro a _ w ⟨tz, rfl, htz, hS⟩ hF
    have hO := hO.call0 hS
    have hO : St _ _ _ [_, _, _, _, _] := hO
    refine wl_e hF rfl rfl rfl (c_buildSlice hF hO Try.underlying31 Try.sizeOf33 Try.zeroValue33 rfl rfl rfl rfl rfl rfl rfl) ?_
    rintro a _ w ⟨b1, rfl, hO⟩ hF
    refine wl_e hF rfl rfl rfl (e_appendT (bytes := 48) (r := [tz]) hO (i := 4) rfl (hO.rd 0 rfl) Try.underlying31 Try_info33 rfl rfl rfl rfl rfl rfl (hF.eval rfl) (hF.eval rfl) (by show (List.length _ + 1) * 48 ≤ _; omega) (by show List.length _ + 1 ≤ _; omega)) ?_
    rintro a v20 w hO hF
    have hO : St _ _ _ [_, _, _, _, _, _] := hO
    have hO := hO.pull 1 rfl
    have hO := St.intoT hO 4 rfl
    have hO : St _ _ _ [_, _, _, _, _] := hO
    refine wl_v hF rfl rfl rfl (q_assign rfl (hF.eval rfl)) fun a hF => ?_
    refine wl_nil ?_
    refine b_n ?_
    refine k_n ?_
    refine wp_region_lit ?_
    refine wl_v hF rfl rfl rfl (q_move rfl (hF.eval rfl)) fun a hF => ?_
    refine wl_v hF rfl rfl rfl (q_add rfl (hF.eval rfl) (hF.eval rfl) (by omega)) fun a hF => ?_
    refine wl_v hF rfl rfl rfl (q_assign rfl (hF.eval rfl)) fun a hF => ?_
    refine wl_nil ?_
    refine k_n ?_
    have hO := hO.drop1 0
    have hO : St _ _ _ [_, _, _, _] := hO
    exact ⟨(i + 1, _, zs ++ [tz]), ⟨⟨by omega, by rw [takeAt hx, List.map_append, List.map_append, hz, List.map_singleton, List.map_singleton, htz]⟩, hO, hF.sub ⟨rfl, rfl, rfl, rfl, trivial⟩⟩, by dsimp only; omega⟩
  · skip
    refine wp_exit ?_
    refine k_x ?_
    refine k_x ?_
    refine b_x ?_
    refine k_n ?_
    refine wp_seq ?_
    refine wp_region_lit ?_
    refine wl_v hF rfl rfl rfl (q_move rfl (hF.eval rfl)) fun a hF => ?_
    refine wl_v hF rfl rfl rfl (q_fieldAddr0 (d := 2) Try.underlying33 rfl (hF.eval rfl) rfl Try.sizeOf31 (by decide) rfl) fun a hF => ?_
    refine wl_s hF rfl rfl (e_store1 hO (i := 0) rfl Try.sizeOf31 rfl (hF.eval rfl) (hF.eval rfl) (cells_one (hO.slOne 2 rfl)) rfl (hO.slOne 2 rfl)) ?_
    rintro a _ w ⟨-, hO⟩ hF
    have hO : St _ _ _ [_, _, _, _] := hO
    refine wl_nil ?_
    refine k_n ?_
    refine wp_seq ?_
    refine wp_region_lit ?_
    obtain ⟨q, rfl⟩ := Rd.hdr (hO.rd 2 rfl)
    refine wl_v hF rfl rfl rfl (q_loadAgg Try.isAgg33 Try.sizeOf33 rfl (hF.eval rfl) (hO.cells 0 rfl) rfl) fun a hF => ?_
    refine wl_s hF rfl rfl (e_storeAll hO (i := 1) rfl Try.sizeOf33 rfl (hF.eval rfl) (hF.eval rfl) rfl rfl) ?_
    rintro a _ w ⟨-, hO⟩ hF
    have hO : St _ _ _ [_, _, _, _] := hO
    refine wl_nil ?_
    refine k_n ?_
    refine wp_ret ?_
    refine r_c1 hF rfl rfl Try.isAgg33 Try.sizeOf33 (hO.cells 1 rfl) rfl ?_
    have hO := hO.drop1 0
    have hO := hO.drop1 0
    have hO : St _ _ _ [_, _] := hO
    have hO := hO.mkT k n
    refine ⟨.mk k n q zs, rfl, ?_, hO⟩
    rw [er_mk, er_mk, hz, List.take_of_length_le (by omega)]


theorem copy_r (t : TN) : ∀ (w0 : World), RdN w0 [] t → nodesF t.er ≤ 1099511627776 → Ret Try.prog 13 #[.agg (tnE.cells t).toArray] w0 (fun v w' => ∃ z : TN, v = .agg (tnE.cells z).toArray ∧ z.er = t.er ∧ St w0 [] w' [tE 33 z]) :=
  TN.ind (P := fun t => ∀ (w0 : World), RdN w0 [] t → nodesF t.er ≤ 1099511627776 → Ret Try.prog 13 #[.agg (tnE.cells t).toArray] w0 (fun v w' => ∃ z : TN, v = .agg (tnE.cells z).toArray ∧ z.er = t.er ∧ St w0 [] w' [tE 33 z])) (fun k n hd l ih w0 hR hN => copy_i k n hd l ih w0 hR hN) t
set_option maxHeartbeats 1000000 in
theorem ownL_r (w0 : World) (vs : Value) (ss : List SbN) (hSs : RdT w0 [] vs sbE ss) (hSn : ∀ s ∈ ss, RdN w0 [] s.t) (hN : ∀ s ∈ ss, nodesF s.t.er ≤ 1099511627776) (hlen : ss.length ≤ 1099511627776) : Ret Try.prog 14 #[vs] w0 (fun v w' => ∃ (h : Hdr) (zs : List SbN), v = h.v ∧ zs.map SbN.er = ss.map SbN.er ∧ St w0 [] w' [slT h.v 45 sbE zs, sbG 33 zs]) := by
  have hO := St.init0 w0
  refine ret_of (m := 27) Try.func14 rfl Try.ntmps14 [(0, vs)] rfl ⟨rfl, trivial⟩ fun a hF => ?_
  refine wp_seq ?_
  refine wp_region_lit ?_
  refine wl_v hF rfl rfl rfl (q_assign rfl (hF.eval rfl)) fun a hF => ?_
  refine wl_nil ?_
  refine k_n ?_
  refine wp_seq ?_
  refine wp_region_lit ?_
  refine wl_v hF rfl rfl rfl (q_assign rfl (hF.eval rfl)) fun a hF => ?_
  have hO := hO.nilSl 45 4
  refine wl_nil ?_
  refine k_n ?_
  refine wp_seq ?_
  refine wp_seq ?_
  refine wp_region_lit ?_
  refine wl_v hF rfl rfl rfl (q_assign rfl (hF.eval rfl)) fun a hF => ?_
  have hO : St _ _ _ (sbG 33 [] :: _) := hO.grp0
  have hO : St _ _ _ [_, _] := hO
  refine wl_nil ?_
  refine k_n ?_
  refine wp_block ?_
  have hO := hO.pull 1 rfl
  have hO : St _ _ _ [_, _] := hO
  refine wp_loopS (fun (s : Nat × Value × List SbN) a w' => match s with | (i, vo, zs) => (i ≤ ss.length ∧ zs.map SbN.er = (ss.take i).map SbN.er) ∧ St w0 [] w' [slT vo 45 sbE zs, sbG 33 zs] ∧ Fr a 27 [(0, vs), (3, vo), (4, i64 i)]) (fun (s : Nat × Value × List SbN) => match s with | (i, vo, zs) => ss.length - i) (0, _, []) ⟨⟨by omega, rfl⟩, hO, hF.sub ⟨rfl, rfl, rfl, trivial⟩⟩ ?_
  rintro ⟨i, vo, zs⟩ a w ⟨⟨hi, hz⟩, hO, hF⟩
  have hzl : zs.length = i := by have := congrArg List.length hz; rw [List.length_map, List.length_map, List.length_take] at this; omega
  refine wp_seq ?_
  refine wp_seq ?_
  refine wp_region_lit ?_
  refine wl_v hF rfl rfl rfl (q_move rfl (hF.eval rfl)) fun a hF => ?_
  refine wl_v hF rfl rfl rfl (q_move rfl (hF.eval rfl)) fun a hF => ?_
  refine wl_v hF rfl rfl rfl (q_lenRd hSs Try.underlying23 rfl (hF.eval rfl)) fun a hF => ?_
  refine wl_v hF rfl rfl rfl (q_lt rfl (hF.eval rfl) (hF.eval rfl)) fun a hF => ?_
  refine wl_nil ?_
  refine k_n ?_
  refine wp_ifD hF rfl rfl (fun hc1 => ?_) (fun hc1 => ?_)
  · skip
    refine wp_skip ?_
    refine k_n ?_
    refine wp_seq ?_
    refine wp_block ?_
    have hO := hO.drew
    refine wp_region_D [0, 0, 0, 0, 0, 1, 0, 0, 0, 0, 1, 2, 0, 3, 3, 0] (fun w => St _ _ w _) Try_mixed (by kernel_rfl) hO ?_
    refine wd_p hF rfl rfl rfl (fun w => q_move rfl (hF.eval rfl)) fun a hF => ?_
    refine wd_p hF rfl rfl rfl (fun w => q_move rfl (hF.eval rfl)) fun a hF => ?_
    refine wd_p hF rfl rfl rfl (fun w => q_move rfl (hF.eval rfl)) fun a hF => ?_
    obtain ⟨x, hx⟩ := get_ex (l := ss) (i := i) (by omega)
    refine wd_p hF rfl rfl rfl (fun w => q_at (i := i) hSs Try.underlying23 Try.sizeOf45 rfl (hF.eval rfl) (hF.eval rfl) (by omega)) fun a hF => ?_
    refine wd_p hF rfl rfl rfl (fun w => q_fieldAddr0 (d := 0) Try.underlying45 rfl (hF.eval rfl) rfl Try.sizeOf9 (by decide) rfl) fun a hF => ?_
    refine wd_r hF rfl rfl rfl (fun w hO => q_load Try.isAgg9 rfl (hF.eval rfl) (RdT.cells (hSs.now hO) hx _ _ rfl)) fun a hF => ?_
    refine wd_p hF rfl rfl rfl (fun w => q_move rfl (hF.eval rfl)) fun a hF => ?_
    refine wd_p hF rfl rfl rfl (fun w => q_move rfl (hF.eval rfl)) fun a hF => ?_
    refine wd_p hF rfl rfl rfl (fun w => q_at (i := i) hSs Try.underlying23 Try.sizeOf45 rfl (hF.eval rfl) (hF.eval rfl) (by omega)) fun a hF => ?_
    refine wd_p hF rfl rfl rfl (fun w => q_fieldAddr0 (d := 1) Try.underlying45 rfl (hF.eval rfl) rfl Try.sizeOf33 (by decide) rfl) fun a hF => ?_
    refine wd_r hF rfl rfl rfl (fun w hO => q_loadAgg Try.isAgg33 Try.sizeOf33 rfl (hF.eval rfl) (RdT.cellsK (hSs.now hO) hx 1 3 rfl) rfl) fun a hF => ?_
    refine wd_e hF rfl rfl rfl (c_call hF rfl rfl Try.call13 (copy_r x.t _ ((hSn x (List.mem_of_getElem? hx)).at0 hO) (hN x (List.mem_of_getElem? hx)))) (fun _ _ ⟨_, _, _, hS⟩ => (hO.call0 hS).tail) ?_
    rintro a _ w ⟨tz, rfl, htz, hS⟩ hF
    have hO := hO.call0 hS
    have hO : St _ _ _ [_, _, _] := hO
    refine wd_p hF rfl rfl rfl (fun w => c_buildG hF Try.underlying45 Try.zeroValue45 Try_placesG45 rfl rfl rfl rfl) fun a hF => ?_
    refine wd_f hF rfl rfl rfl (c_buildSlice hF hO Try.underlying23 Try.sizeOf45 Try.zeroValue45 rfl rfl rfl rfl rfl rfl rfl) ?_
    rintro a _ w ⟨b1, rfl, hO⟩ hF
    refine wd_f hF rfl rfl rfl (e_appendT (bytes := 64) (r := [⟨x.name, tz⟩]) hO (i := 2) rfl (hO.rd 0 rfl) Try.underlying23 Try_info45 rfl rfl rfl rfl rfl rfl (hF.eval rfl) (hF.eval rfl) (by show (List.length _ + 1) * 64 ≤ _; omega) (by show List.length _ + 1 ≤ _; omega)) ?_
    rintro a v25 w hO hF
    have hO : St _ _ _ [_, _, _, _] := hO
    have hO := hO.pull 1 rfl
    have hO := St.intoS (s := ⟨x.name, tz⟩) hO 2 rfl
    have hO : St _ _ _ [_, _, _] := hO
    refine wd_p hF rfl rfl rfl (fun w => q_assign rfl (hF.eval rfl)) fun a hF => ?_
    refine wd_nil ?_
    refine b_n ?_
    refine k_n ?_
    refine wp_region_lit ?_
    refine wl_v hF rfl rfl rfl (q_move rfl (hF.eval rfl)) fun a hF => ?_
    refine wl_v hF rfl rfl rfl (q_add rfl (hF.eval rfl) (hF.eval rfl) (by omega)) fun a hF => ?_
    refine wl_v hF rfl rfl rfl (q_assign rfl (hF.eval rfl)) fun a hF => ?_
    refine wl_nil ?_
    refine k_n ?_
    have hO := hO.drop1 0
    have hO : St _ _ _ [_, _] := hO
    exact ⟨(i + 1, _, zs ++ [⟨x.name, tz⟩]), ⟨⟨by omega, by rw [takeAt hx, List.map_append, List.map_append, hz, List.map_singleton, List.map_singleton]; unfold SbN.er; rw [htz]⟩, hO, hF.sub ⟨rfl, rfl, rfl, trivial⟩⟩, by dsimp only; omega⟩
  · skip
    refine wp_exit ?_
    refine k_x ?_
    refine k_x ?_
    refine b_x ?_
    refine k_n ?_
    refine wp_seq ?_
    refine wp_region_lit ?_
    refine wl_v hF rfl rfl rfl (q_move rfl (hF.eval rfl)) fun a hF => ?_
    refine wl_v hF rfl rfl rfl (q_assign rfl (hF.eval rfl)) fun a hF => ?_
    refine wl_nil ?_
    refine k_n ?_
    refine wp_ret ?_
    refine r_1 hF rfl rfl ?_
    have hO : St _ _ _ [_, _] := hO
    obtain ⟨q, rfl⟩ := Rd.hdr (hO.rd 0 rfl)
    exact ⟨q, zs, rfl, by rw [hz, List.take_of_length_le (by omega)], hO⟩

set_option maxHeartbeats 2000000 in
theorem applyR_i (vs : Value) (ss : List SbN) (hNs : ∀ s ∈ ss, nodesF s.t.er ≤ 1099511627776) (r : RT) (ih : ∀ r' : RT, r'.nodes < r.nodes → ∀ t : TN, ∀ (w0 : World), RdT w0 [] vs sbE ss → (∀ s ∈ ss, RdN w0 [] s.t) → RdN w0 [] t → t.er = r'.ty → Ret Try.prog 47 #[.agg (tnE.cells t).toArray, vs] w0 (fun v w' => ∃ z : TN, v = .agg (tnE.cells z).toArray ∧ z.er = substF (sgT (subOf ss)) r'.ty ∧ St w0 [] w' [tE 33 z])) (k : Int) (n : List UInt8) (hd : Hdr) (l : List TN) (w0 : World) (hSs : RdT w0 [] vs sbE ss) (hSn : ∀ s ∈ ss, RdN w0 [] s.t) (hR : RdN w0 [] (TN.mk k n hd l)) (her : (TN.mk k n hd l).er = r.ty) : Ret Try.prog 47 #[.agg (tnE.cells (TN.mk k n hd l)).toArray, vs] w0 (fun v w' => ∃ z : TN, v = .agg (tnE.cells z).toArray ∧ z.er = substF (sgT (subOf ss)) r.ty ∧ St w0 [] w' [tE 33 z]) := by
  have hO := St.init0 w0
  have hlen := RdT.lenle hSs
  refine ret_of (m := 47) Try.func47 rfl Try.ntmps47 [(0, .agg (tnE.cells (TN.mk k n hd l)).toArray), (1, vs)] rfl ⟨rfl, rfl, trivial⟩ fun a hF => ?_
  refine wp_seq ?_
  refine wp_region_lit ?_
  refine wl_e hF rfl rfl rfl (e_box hO rfl (hF.eval rfl) rfl) ?_
  rintro a _ w ⟨tk, rfl, hO⟩ hF
  refine wl_e hF rfl rfl rfl (e_alloc hO Try.zeroValue33 rfl rfl) ?_
  rintro a _ w ⟨rs, rfl, hO⟩ hF
  refine wl_nil ?_
  refine k_n ?_
  refine wp_seq ?_
  refine wp_seq ?_
  refine wp_region_lit ?_
  refine wl_v hF rfl rfl rfl (q_fieldAddr0 (d := 0) Try.underlying33 rfl (hF.eval rfl) rfl Try.sizeOf3 (by decide) rfl) fun a hF => ?_
  refine wl_v hF rfl rfl rfl (q_load Try.isAgg3 rfl (hF.eval rfl) (hO.cell 1 rfl rfl)) fun a hF => ?_
  refine wl_v hF rfl rfl rfl (q_eq rfl (hF.eval rfl) (hF.eval rfl)) fun a hF => ?_
  refine wl_nil ?_
  refine k_n ?_
  refine wp_ifD hF rfl rfl (fun hc1 => ?_) (fun hc1 => ?_)
  · skip
    obtain ⟨rfl, rfl⟩ := er_var her hc1
    obtain rfl : k = 52 := hc1
    refine wp_seq ?_
    refine wp_region_lit ?_
    refine wl_v hF rfl rfl rfl (q_assign rfl (hF.eval rfl)) fun a hF => ?_
    refine wl_nil ?_
    refine k_n ?_
    refine wp_block ?_
    have hO := hO.pull 1 rfl
    have hO : St _ _ _ [_, _] := hO
    refine wp_loopS (fun (i : Nat) a w' => (i ≤ ss.length ∧ ∀ q ∈ ss.take i, ¬ q.name = n) ∧ St w0 [] w' [.ob tk 33 (tnE.cells (TN.mk 52 n hd [])), .ob rs 33 [i64 0, str [], .slice none 0 0]] ∧ Fr a 47 [(1, vs), (2, ptr (adr tk)), (4, ptr (adr rs)), (5, i64 i)]) (fun (i : Nat) => ss.length - i) 0 ⟨⟨by omega, fun q hq => by simp at hq⟩, hO, hF.sub ⟨rfl, rfl, rfl, rfl, trivial⟩⟩ ?_
    rintro i a w ⟨⟨hi, hq⟩, hO, hF⟩
    refine wp_seq ?_
    refine wp_seq ?_
    refine wp_region_lit ?_
    refine wl_v hF rfl rfl rfl (q_move rfl (hF.eval rfl)) fun a hF => ?_
    refine wl_v hF rfl rfl rfl (q_move rfl (hF.eval rfl)) fun a hF => ?_
    refine wl_v hF rfl rfl rfl (q_lenRd hSs Try.underlying23 rfl (hF.eval rfl)) fun a hF => ?_
    refine wl_v hF rfl rfl rfl (q_lt rfl (hF.eval rfl) (hF.eval rfl)) fun a hF => ?_
    refine wl_nil ?_
    refine k_n ?_
    refine wp_ifD hF rfl rfl (fun hc2 => ?_) (fun hc2 => ?_)
    · skip
      refine wp_skip ?_
      refine k_n ?_
      refine wp_seq ?_
      refine wp_block ?_
      refine wp_seq ?_
      have hO := hO.drew
      refine wp_region_D [0, 0, 0, 0, 1, 0, 1, 0] (fun w => St _ _ w _) Try_mixed (by kernel_rfl) hO ?_
      refine wd_p hF rfl rfl rfl (fun w => q_move rfl (hF.eval rfl)) fun a hF => ?_
      refine wd_p hF rfl rfl rfl (fun w => q_move rfl (hF.eval rfl)) fun a hF => ?_
      obtain ⟨x, hx⟩ := get_ex (l := ss) (i := i) (by omega)
      refine wd_p hF rfl rfl rfl (fun w => q_at (i := i) hSs Try.underlying23 Try.sizeOf45 rfl (hF.eval rfl) (hF.eval rfl) (by omega)) fun a hF => ?_
      refine wd_p hF rfl rfl rfl (fun w => q_fieldAddr0 (d := 0) Try.underlying45 rfl (hF.eval rfl) rfl Try.sizeOf9 (by decide) rfl) fun a hF => ?_
      refine wd_r hF rfl rfl rfl (fun w hO => q_load Try.isAgg9 rfl (hF.eval rfl) (RdT.cells (hSs.now hO) hx _ _ rfl)) fun a hF => ?_
      refine wd_p hF rfl rfl rfl (fun w => q_fieldAddr0 (d := 1) Try.underlying33 rfl (hF.eval rfl) rfl Try.sizeOf9 (by decide) rfl) fun a hF => ?_
      refine wd_r hF rfl rfl rfl (fun w hO => q_load Try.isAgg9 rfl (hF.eval rfl) (hO.cell 0 rfl rfl)) fun a hF => ?_
      refine wd_p hF rfl rfl rfl (fun w => q_seq rfl (hF.eval rfl) (hF.eval rfl)) fun a hF => ?_
      refine wd_nil ?_
      refine k_n ?_
      refine wp_ifD hF rfl rfl (fun hc3 => ?_) (fun hc3 => ?_)
      · skip
        refine wp_seq ?_
        refine wp_region_lit ?_
        refine wl_v hF rfl rfl rfl (q_move rfl (hF.eval rfl)) fun a hF => ?_
        refine wl_v hF rfl rfl rfl (q_move rfl (hF.eval rfl)) fun a hF => ?_
        refine wl_v hF rfl rfl rfl (q_at (i := i) hSs Try.underlying23 Try.sizeOf45 rfl (hF.eval rfl) (hF.eval rfl) (by omega)) fun a hF => ?_
        refine wl_v hF rfl rfl rfl (q_fieldAddr0 (d := 1) Try.underlying45 rfl (hF.eval rfl) rfl Try.sizeOf33 (by decide) rfl) fun a hF => ?_
        refine wl_v hF rfl rfl rfl (q_loadAgg Try.isAgg33 Try.sizeOf33 rfl (hF.eval rfl) (RdT.cellsK (hSs.now hO) hx 1 3 rfl) rfl) fun a hF => ?_
        refine wl_e hF rfl rfl rfl (c_call hF rfl rfl Try.call13 (copy_r x.t _ ((hSn x (List.mem_of_getElem? hx)).at0 hO) (hNs x (List.mem_of_getElem? hx)))) ?_
        rintro a _ w ⟨tz, rfl, htz, hS⟩ hF
        have hO := hO.call0 hS
        have hO : St _ _ _ [_, _, _] := hO
        refine wl_s hF rfl rfl (e_storeAll hO (i := 2) rfl Try.sizeOf33 rfl (hF.eval rfl) (hF.eval rfl) rfl rfl) ?_
        rintro a _ w ⟨-, hO⟩ hF
        have hO : St _ _ _ [_, _, _] := hO
        refine wl_nil ?_
        refine k_n ?_
        refine wp_ret ?_
        refine b_r ?_
        refine k_r ?_
        refine k_r ?_
        refine b_r ?_
        refine k_r ?_
        refine r_c1 hF rfl rfl Try.isAgg33 Try.sizeOf33 (hO.cells 2 rfl) rfl ?_
        have hO := hO.drop1 1
        have hO := hO.drop1 1
        have hO : St _ _ _ [_] := hO
        refine ⟨tz, rfl, ?_, hO⟩
        rw [htz]
        show _ = sgT (subOf ss) n
        unfold sgT; rw [subOf_at hq hx hc3]
      · skip
        refine wp_skip ?_
        refine b_n ?_
        refine k_n ?_
        refine wp_region_lit ?_
        refine wl_v hF rfl rfl rfl (q_move rfl (hF.eval rfl)) fun a hF => ?_
        refine wl_v hF rfl rfl rfl (q_add rfl (hF.eval rfl) (hF.eval rfl) (by omega)) fun a hF => ?_
        refine wl_v hF rfl rfl rfl (q_assign rfl (hF.eval rfl)) fun a hF => ?_
        refine wl_nil ?_
        refine k_n ?_
        have hO : St _ _ _ [_, _] := hO
        exact ⟨i + 1, ⟨⟨by omega, fun q hq2 => by rw [takeAt hx] at hq2; rcases List.mem_append.1 hq2 with h | h; exact hq q h; rw [List.mem_singleton.1 h]; exact hc3⟩, hO, hF.sub ⟨rfl, rfl, rfl, rfl, trivial⟩⟩, by omega⟩
    · skip
      have hno := subOf_no (ss := ss) (n := n) (fun q hq2 => hq q (by rw [List.take_of_length_le (by omega)]; exact hq2))
      refine wp_exit ?_
      refine k_x ?_
      refine k_x ?_
      refine b_x ?_
      refine k_n ?_
      refine wp_seq ?_
      refine wp_seq ?_
      refine wp_region_lit ?_
      refine wl_v hF rfl rfl rfl (q_fieldAddr0 (d := 0) Try.underlying33 rfl (hF.eval rfl) rfl Try.sizeOf3 (by decide) rfl) fun a hF => ?_
      refine wl_v hF rfl rfl rfl (q_load Try.isAgg3 rfl (hF.eval rfl) (hO.cell 0 rfl rfl)) fun a hF => ?_
      refine wl_v hF rfl rfl rfl (q_ne rfl (hF.eval rfl) (hF.eval rfl)) fun a hF => ?_
      refine wl_nil ?_
      refine k_n ?_
      refine wp_ifD hF rfl rfl (fun hc4 => ?_) (fun hc4 => ?_)
      · skip
        refine wp_seq ?_
        refine wp_region_lit ?_
        refine wl_v hF rfl rfl rfl (q_loadAgg Try.isAgg33 Try.sizeOf33 rfl (hF.eval rfl) (hO.cells 0 rfl) rfl) fun a hF => ?_
        refine wl_s hF rfl rfl (e_storeAll hO (i := 1) rfl Try.sizeOf33 rfl (hF.eval rfl) (hF.eval rfl) rfl rfl) ?_
        rintro a _ w ⟨-, hO⟩ hF
        have hO : St _ _ _ [_, _] := hO
        refine wl_nil ?_
        refine k_n ?_
        refine wp_ret ?_
        refine k_r ?_
        refine r_c1 hF rfl rfl Try.isAgg33 Try.sizeOf33 (hO.cells 1 rfl) rfl ?_
        have hO := hO.drop1 0
        have hO := hO.drop1 0
        have hO : St _ _ _ [] := hO
        have hO := hO.leafT (T := 33) (rd0_any hR.sl _ _) 52 n
        refine ⟨TN.mk 52 n hd [], rfl, ?_, hO⟩
        show _ = sgT (subOf ss) n
        unfold sgT; rw [hno]; rfl
      · skip
        exact absurd (show (52 : Int) = 54 from Classical.not_not.1 hc4) (by decide)
  · skip
    refine wp_skip ?_
    refine k_n ?_
    refine wp_seq ?_
    refine wp_seq ?_
    refine wp_region_lit ?_
    refine wl_v hF rfl rfl rfl (q_fieldAddr0 (d := 0) Try.underlying33 rfl (hF.eval rfl) rfl Try.sizeOf3 (by decide) rfl) fun a hF => ?_
    refine wl_v hF rfl rfl rfl (q_load Try.isAgg3 rfl (hF.eval rfl) (hO.cell 1 rfl rfl)) fun a hF => ?_
    refine wl_v hF rfl rfl rfl (q_ne rfl (hF.eval rfl) (hF.eval rfl)) fun a hF => ?_
    refine wl_nil ?_
    refine k_n ?_
    refine wp_ifD hF rfl rfl (fun hc5 => ?_) (fun hc5 => ?_)
    · skip
      have hk3 : k = 53 := by cases r with | var m => rw [er_mk] at her; injection her with h; exact absurd h hc1 | con m => rw [er_mk] at her; injection her with h | app a b => rw [er_mk] at her; injection her with h; exact absurd h hc5
      obtain ⟨rfl, rfl⟩ := er_con her hk3
      subst hk3
      refine wp_seq ?_
      refine wp_region_lit ?_
      refine wl_v hF rfl rfl rfl (q_loadAgg Try.isAgg33 Try.sizeOf33 rfl (hF.eval rfl) (hO.cells 1 rfl) rfl) fun a hF => ?_
      refine wl_s hF rfl rfl (e_storeAll hO (i := 0) rfl Try.sizeOf33 rfl (hF.eval rfl) (hF.eval rfl) rfl rfl) ?_
      rintro a _ w ⟨-, hO⟩ hF
      have hO : St _ _ _ [_, _] := hO
      refine wl_nil ?_
      refine k_n ?_
      refine wp_ret ?_
      refine k_r ?_
      refine r_c1 hF rfl rfl Try.isAgg33 Try.sizeOf33 (hO.cells 0 rfl) rfl ?_
      have hO := hO.drop1 0
      have hO := hO.drop1 0
      have hO : St _ _ _ [] := hO
      have hO := hO.leafT (T := 33) (rd0_any hR.sl _ _) 53 n
      exact ⟨TN.mk 53 n hd [], rfl, rfl, hO⟩
    · skip
      have hk4 : k = 54 := Classical.not_not.1 hc5
      obtain ⟨ra, rb, ta, tb, rfl, -, rfl, rfl, hea, heb⟩ := er_app her hc1 (by omega)
      have hpa := ra.pos
      have hpb := rb.pos
      have hnn : (RT.app ra rb).nodes = 1 + ra.nodes + rb.nodes := rfl
      refine wp_skip ?_
      refine k_n ?_
      refine wp_seq ?_
      have hO := hO.pull 1 rfl
      have hO := hO.drew
      refine wp_region_D [0, 1, 0, 1, 0, 2, 0, 1, 0, 1, 0, 3, 3, 0, 3] (fun w => ∃ L', St w0 [] w (.ob tk 33 (tnE.cells (TN.mk k [] hd [ta, tb])) :: L')) Try_mixed (by kernel_rfl) ⟨_, hO⟩ ?_
      refine wd_p hF rfl rfl rfl (fun w => q_fieldAddr0 (d := 2) Try.underlying33 rfl (hF.eval rfl) rfl Try.sizeOf31 (by decide) rfl) fun a hF => ?_
      refine wd_r hF rfl rfl rfl (fun w ⟨_, hO⟩ => q_load Try.isAgg31 rfl (hF.eval rfl) (hO.cell 0 rfl rfl)) fun a hF => ?_
      refine wd_p hF rfl rfl rfl (fun w => q_at (i := 0) hR.sl Try.underlying31 Try.sizeOf33 rfl (hF.eval rfl) (hF.eval rfl) (by simp)) fun a hF => ?_
      refine wd_r hF rfl rfl rfl (fun w ⟨_, hO⟩ => q_loadAgg Try.isAgg33 Try.sizeOf33 rfl (hF.eval rfl) (RdT.cells (hR.sl.now hO) (show [ta, tb][0]? = some ta from rfl)) rfl) fun a hF => ?_
      refine wd_p hF rfl rfl rfl (fun w => q_move rfl (hF.eval rfl)) fun a hF => ?_
      refine wd_e hF rfl rfl rfl (c_call hF rfl rfl Try.call47 (ih ra (by omega) ta _ (hSs.at0 hO) (fun s hs => (hSn s hs).at0 hO) ((hR.sub ta (by simp)).at0 hO) hea)) (fun _ _ ⟨_, _, _, hS⟩ => ⟨_, (hO.call0 hS).pull 1 rfl⟩) ?_
      rintro a _ w ⟨tl, rfl, htl, hS⟩ hF
      have hO := hO.call0 hS
      have hO : St _ _ _ [_, _, _] := hO
      refine wd_p hF rfl rfl rfl (fun w => q_fieldAddr0 (d := 2) Try.underlying33 rfl (hF.eval rfl) rfl Try.sizeOf31 (by decide) rfl) fun a hF => ?_
      refine wd_r hF rfl rfl rfl (fun w ⟨_, hO⟩ => q_load Try.isAgg31 rfl (hF.eval rfl) (hO.cell 0 rfl rfl)) fun a hF => ?_
      refine wd_p hF rfl rfl rfl (fun w => q_at (i := 1) hR.sl Try.underlying31 Try.sizeOf33 rfl (hF.eval rfl) (hF.eval rfl) (by simp)) fun a hF => ?_
      refine wd_r hF rfl rfl rfl (fun w ⟨_, hO⟩ => q_loadAgg Try.isAgg33 Try.sizeOf33 rfl (hF.eval rfl) (RdT.cells (hR.sl.now hO) (show [ta, tb][1]? = some tb from rfl)) rfl) fun a hF => ?_
      refine wd_p hF rfl rfl rfl (fun w => q_move rfl (hF.eval rfl)) fun a hF => ?_
      refine wd_f hF rfl rfl rfl (c_call hF rfl rfl Try.call47 (ih rb (by omega) tb _ (hSs.at0 hO) (fun s hs => (hSn s hs).at0 hO) ((hR.sub tb (by simp)).at0 hO) heb)) ?_
      rintro a _ w ⟨tr, rfl, htr, hS⟩ hF
      have hO := hO.call0 hS
      have hO : St _ _ _ [_, _, _, _] := hO
      refine wd_f hF rfl rfl rfl (c_buildSlice hF hO Try.underlying31 Try.sizeOf33 Try.zeroValue33 rfl rfl rfl rfl rfl rfl rfl) ?_
      rintro a _ w ⟨sb9, rfl, hO⟩ hF
      have hO : St _ _ _ (slT (.slice (some (adr sb9)) 2 2) 33 tnE [tl, tr] :: [_, _, _, _]) := hO
      have hO := hO.pull 1 rfl
      have hO := hO.pull 2 rfl
      have hO := hO.pull 2 rfl
      have hO := St.node2 (h := ⟨some (adr sb9), 2, 2⟩) hO 54 []
      have hO : St _ _ _ [_, _, _] := hO
      refine wd_p hF rfl rfl rfl (fun w => c_build hF Try.underlying33 Try.zeroValue33 Try_places33 rfl rfl rfl rfl) fun a hF => ?_
      refine wd_s hF rfl rfl (e_storeAll hO (i := 2) rfl Try.sizeOf33 rfl (hF.eval rfl) (hF.eval rfl) rfl rfl) ?_
      rintro a _ w ⟨-, hO⟩ hF
      have hO : St _ _ _ [_, _, _] := hO
      refine wd_nil ?_
      refine k_n ?_
      refine wp_ret ?_
      refine r_c1 hF rfl rfl Try.isAgg33 Try.sizeOf33 (hO.cells 2 rfl) rfl ?_
      have hO := hO.drop1 1
      have hO := hO.drop1 1
      have hO : St _ _ _ [_] := hO
      refine ⟨.mk 54 [] ⟨some (adr sb9), 2, 2⟩ [tl, tr], rfl, ?_, hO⟩
      show Ty.mk 54 [] [tl.er, tr.er] = _
      rw [htl, htr]; rfl


theorem applyR_r (vs : Value) (ss : List SbN) (hNs : ∀ s ∈ ss, nodesF s.t.er ≤ 1099511627776) : ∀ (q : Nat) (r : RT), r.nodes < q → ∀ t : TN, ∀ (w0 : World), RdT w0 [] vs sbE ss → (∀ s ∈ ss, RdN w0 [] s.t) → RdN w0 [] t → t.er = r.ty → Ret Try.prog 47 #[.agg (tnE.cells t).toArray, vs] w0 (fun v w' => ∃ z : TN, v = .agg (tnE.cells z).toArray ∧ z.er = substF (sgT (subOf ss)) r.ty ∧ St w0 [] w' [tE 33 z])
  | 0, _, h => absurd h (Nat.not_lt_zero _)
  | q + 1, r, h => fun t => by
    obtain ⟨k, n', hd, l⟩ := t
    intro w0 h1 h2 h3 h4
    exact applyR_i vs ss hNs r (fun r' hr => applyR_r vs ss hNs q r' (by omega)) k n' hd l w0 h1 h2 h3 h4
set_option maxHeartbeats 1000000 in
theorem ApplyR_r (w0 : World) (t : TN) (vs : Value) (ss : List SbN) (hR : RdN w0 [] t) (hSs : RdT w0 [] vs sbE ss) (hSn : ∀ s ∈ ss, RdN w0 [] s.t) (hN : nodesF t.er ≤ 1099511627776) (hNs : ∀ s ∈ ss, nodesF s.t.er ≤ 1099511627776) : Ret Try.prog 16 #[.agg (tnE.cells t).toArray, vs] w0 (fun v w' => ∃ z : TN, v = .agg (tnE.cells z).toArray ∧ z.er = applyF t.er (ss.map SbN.er) ∧ St w0 [] w' [tE 33 z]) := by
  have hO := St.init0 w0
  have hlen := RdT.lenle hSs
  refine ret_of (m := 27) Try.func16 rfl Try.ntmps16 [(0, .agg (tnE.cells t).toArray), (1, vs)] rfl ⟨rfl, rfl, trivial⟩ fun a hF => ?_
  refine wp_seq ?_
  refine wp_region_lit ?_
  refine wl_e hF rfl rfl rfl (e_box hO rfl (hF.eval rfl) rfl) ?_
  rintro a _ w ⟨tk, rfl, hO⟩ hF
  refine wl_e hF rfl rfl rfl (e_alloc hO Try.zeroValue33 rfl rfl) ?_
  rintro a _ w ⟨rs, rfl, hO⟩ hF
  refine wl_nil ?_
  refine k_n ?_
  refine wp_seq ?_
  refine wp_seq ?_
  refine wp_region_lit ?_
  refine wl_v hF rfl rfl rfl (q_loadAgg Try.isAgg33 Try.sizeOf33 rfl (hF.eval rfl) (hO.cells 1 rfl) rfl) fun a hF => ?_
  refine wl_e hF rfl rfl rfl (c_call hF rfl rfl Try.call32 (right_r t _ (hR.at0 hO) (by omega))) ?_
  rintro a _ w ⟨rfl, hS⟩ hF
  have hO := hO.call0 hS
  have hO : St _ _ _ [_, _] := hO
  refine wl_v hF rfl rfl rfl (q_not rfl (hF.eval rfl) (dec_b _)) fun a hF => ?_
  refine wl_nil ?_
  refine k_n ?_
  refine wp_ifD hF rfl rfl (fun hc1 => ?_) (fun hc1 => ?_)
  · skip
    refine wp_seq ?_
    refine wp_region_lit ?_
    refine wl_v hF rfl rfl rfl (c_build hF Try.underlying33 Try.zeroValue33 Try_places33 rfl rfl rfl rfl) fun a hF => ?_
    refine wl_s hF rfl rfl (e_storeAll hO (i := 0) rfl Try.sizeOf33 rfl (hF.eval rfl) (hF.eval rfl) rfl rfl) ?_
    rintro a _ w ⟨-, hO⟩ hF
    have hO : St _ _ _ [_, _] := hO
    refine wl_nil ?_
    refine k_n ?_
    refine wp_ret ?_
    refine k_r ?_
    refine r_c1 hF rfl rfl Try.isAgg33 Try.sizeOf33 (hO.cells 0 rfl) rfl ?_
    have hO := hO.drop1 0
    have hO := hO.drop1 0
    have hO : St _ _ _ [] := hO
    have hO := hO.leafT (T := 33) (rd_nilT _ _) 0 []
    refine ⟨tn0, rfl, ?_, hO⟩
    unfold applyF
    rw [if_neg]; rfl
    rintro ⟨h, _⟩
    exact absurd h (by simpa using hc1)
  · skip
    have htr : rightF t.er = true := by simpa using hc1
    refine wp_skip ?_
    refine k_n ?_
    refine wp_seq ?_
    refine wp_seq ?_
    refine wp_region_lit ?_
    refine wl_v hF rfl rfl rfl (q_assign rfl (hF.eval rfl)) fun a hF => ?_
    refine wl_nil ?_
    refine k_n ?_
    refine wp_block ?_
    have hO := hO.pull 1 rfl
    have hO : St _ _ _ [_, _] := hO
    refine wp_loopS (fun (i : Nat) a w' => (i ≤ ss.length ∧ ∀ q ∈ ss.take i, rightF q.t.er = true) ∧ St w0 [] w' [.ob tk 33 (tnE.cells t), .ob rs 33 [i64 0, str [], .slice none 0 0]] ∧ Fr a 27 [(1, vs), (2, ptr (adr tk)), (4, ptr (adr rs)), (5, i64 i)]) (fun (i : Nat) => ss.length - i) 0 ⟨⟨by omega, fun q hq => by simp at hq⟩, hO, hF.sub ⟨rfl, rfl, rfl, rfl, trivial⟩⟩ ?_
    rintro i a w ⟨⟨hi, hq⟩, hO, hF⟩
    refine wp_seq ?_
    refine wp_seq ?_
    refine wp_region_lit ?_
    refine wl_v hF rfl rfl rfl (q_move rfl (hF.eval rfl)) fun a hF => ?_
    refine wl_v hF rfl rfl rfl (q_move rfl (hF.eval rfl)) fun a hF => ?_
    refine wl_v hF rfl rfl rfl (q_lenRd hSs Try.underlying23 rfl (hF.eval rfl)) fun a hF => ?_
    refine wl_v hF rfl rfl rfl (q_lt rfl (hF.eval rfl) (hF.eval rfl)) fun a hF => ?_
    refine wl_nil ?_
    refine k_n ?_
    refine wp_ifD hF rfl rfl (fun hc2 => ?_) (fun hc2 => ?_)
    · skip
      refine wp_skip ?_
      refine k_n ?_
      refine wp_seq ?_
      refine wp_block ?_
      refine wp_seq ?_
      refine wp_region_lit ?_
      refine wl_v hF rfl rfl rfl (q_move rfl (hF.eval rfl)) fun a hF => ?_
      refine wl_v hF rfl rfl rfl (q_move rfl (hF.eval rfl)) fun a hF => ?_
      obtain ⟨x, hx⟩ := get_ex (l := ss) (i := i) (by omega)
      refine wl_v hF rfl rfl rfl (q_at (i := i) hSs Try.underlying23 Try.sizeOf45 rfl (hF.eval rfl) (hF.eval rfl) (by omega)) fun a hF => ?_
      refine wl_v hF rfl rfl rfl (q_fieldAddr0 (d := 1) Try.underlying45 rfl (hF.eval rfl) rfl Try.sizeOf33 (by decide) rfl) fun a hF => ?_
      refine wl_v hF rfl rfl rfl (q_loadAgg Try.isAgg33 Try.sizeOf33 rfl (hF.eval rfl) (RdT.cellsK (hSs.now hO) hx 1 3 rfl) rfl) fun a hF => ?_
      refine wl_e hF rfl rfl rfl (c_call hF rfl rfl Try.call32 (right_r x.t _ ((hSn x (List.mem_of_getElem? hx)).at0 hO) (by have := hNs x (List.mem_of_getElem? hx); omega))) ?_
      rintro a _ w ⟨rfl, hS⟩ hF
      have hO := hO.call0 hS
      have hO : St _ _ _ [_, _] := hO
      refine wl_v hF rfl rfl rfl (q_not rfl (hF.eval rfl) (dec_b _)) fun a hF => ?_
      refine wl_nil ?_
      refine k_n ?_
      refine wp_ifD hF rfl rfl (fun hc3 => ?_) (fun hc3 => ?_)
      · skip
        refine wp_seq ?_
        refine wp_region_lit ?_
        refine wl_v hF rfl rfl rfl (c_build hF Try.underlying33 Try.zeroValue33 Try_places33 rfl rfl rfl rfl) fun a hF => ?_
        refine wl_s hF rfl rfl (e_storeAll hO (i := 1) rfl Try.sizeOf33 rfl (hF.eval rfl) (hF.eval rfl) rfl rfl) ?_
        rintro a _ w ⟨-, hO⟩ hF
        have hO : St _ _ _ [_, _] := hO
        refine wl_nil ?_
        refine k_n ?_
        refine wp_ret ?_
        refine b_r ?_
        refine k_r ?_
        refine k_r ?_
        refine b_r ?_
        refine k_r ?_
        refine r_c1 hF rfl rfl Try.isAgg33 Try.sizeOf33 (hO.cells 1 rfl) rfl ?_
        have hO := hO.drop1 0
        have hO := hO.drop1 0
        have hO : St _ _ _ [] := hO
        have hO := hO.leafT (T := 33) (rd_nilT _ _) 0 []
        refine ⟨tn0, rfl, ?_, hO⟩
        unfold applyF
        rw [if_neg]; rfl
        rintro ⟨_, h⟩
        have h := h _ (List.mem_map_of_mem (List.mem_of_getElem? hx))
        exact absurd h (show ¬ rightF x.t.er = true from by simpa using hc3)
      · skip
        refine wp_skip ?_
        refine b_n ?_
        refine k_n ?_
        refine wp_region_lit ?_
        refine wl_v hF rfl rfl rfl (q_move rfl (hF.eval rfl)) fun a hF => ?_
        refine wl_v hF rfl rfl rfl (q_add rfl (hF.eval rfl) (hF.eval rfl) (by omega)) fun a hF => ?_
        refine wl_v hF rfl rfl rfl (q_assign rfl (hF.eval rfl)) fun a hF => ?_
        refine wl_nil ?_
        refine k_n ?_
        have hO : St _ _ _ [_, _] := hO
        exact ⟨i + 1, ⟨⟨by omega, fun q hq2 => by rw [takeAt hx] at hq2; rcases List.mem_append.1 hq2 with h | h; exact hq q h; rw [List.mem_singleton.1 h]; simpa using hc3⟩, hO, hF.sub ⟨rfl, rfl, rfl, rfl, trivial⟩⟩, by omega⟩
    · skip
      have hall : ∀ q ∈ ss, rightF q.t.er = true := fun q hq2 => hq q (by rw [List.take_of_length_le (by omega)]; exact hq2)
      obtain ⟨rt, hrk, hrt⟩ := right_ex _ htr
      refine wp_exit ?_
      refine k_x ?_
      refine k_x ?_
      refine b_x ?_
      refine k_n ?_
      refine wp_seq ?_
      refine wp_region_lit ?_
      refine wl_v hF rfl rfl rfl (q_loadAgg Try.isAgg33 Try.sizeOf33 rfl (hF.eval rfl) (hO.cells 0 rfl) rfl) fun a hF => ?_
      refine wl_v hF rfl rfl rfl (q_move rfl (hF.eval rfl)) fun a hF => ?_
      refine wl_e hF rfl rfl rfl (c_call hF rfl rfl Try.call47 (applyR_r vs ss hNs (rt.nodes + 1) rt (by omega) t _ (hSs.at0 hO) (fun s hs => (hSn s hs).at0 hO) (hR.at0 hO) hrt)) ?_
      rintro a _ w ⟨tz, rfl, htz, hS⟩ hF
      have hO := hO.call0 hS
      have hO : St _ _ _ [_, _, _] := hO
      refine wl_s hF rfl rfl (e_storeAll hO (i := 2) rfl Try.sizeOf33 rfl (hF.eval rfl) (hF.eval rfl) rfl rfl) ?_
      rintro a _ w ⟨-, hO⟩ hF
      have hO : St _ _ _ [_, _, _] := hO
      refine wl_nil ?_
      refine k_n ?_
      refine wp_ret ?_
      refine r_c1 hF rfl rfl Try.isAgg33 Try.sizeOf33 (hO.cells 2 rfl) rfl ?_
      have hO := hO.drop1 1
      have hO := hO.drop1 1
      have hO : St _ _ _ [_] := hO
      refine ⟨tz, rfl, ?_, hO⟩
      rw [htz, sgT_sig, ← hrt]
      unfold applyF
      rw [if_pos]
      refine ⟨htr, fun s hs => ?_⟩
      obtain ⟨q, hq2, rfl⟩ := List.mem_map.1 hs
      exact hall q hq2

end Go.Proofs.Ytfkmlcgccffmnaa
