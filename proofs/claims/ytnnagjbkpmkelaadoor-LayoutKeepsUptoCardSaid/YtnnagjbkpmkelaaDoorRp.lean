import Derived.Test.YtnnagjbkpmkelaaDoorRo
import Derived.Test.YtnnagjbkpmkelaaDoorPl3
import Derived.Test.YtnnagjbkpmkelaaDoorGw12
namespace Go.Proofs.YtnnagjbkpmkelaaDoor
open Go
set_option maxRecDepth 100000
set_option maxHeartbeats 1000000 in
theorem open_r (w0 : World) (bs : Nat) (vo0 vs0 : Value) (out0 : List Tok) (st0 : List Thg) (hA : Owns w0 [.ob bs 56 [vo0, vs0], slT vo0 33 tokE out0, slT vs0 63 itmE st0]) (hn : out0.length + st0.length ≤ 100000000000) (hk0 : okS st0) (hG : GlB w0 (blks [.ob bs 56 [vo0, vs0], slT vo0 33 tokE out0, slT vs0 63 itmE st0])) (t : Tok) : Ret Tryd.prog 30 #[ptr (adr bs), .agg (tokE.cells t).toArray] w0 (fun v w' => ∃ (bg pt : Bool) (vo vs : Value) (out : List Tok) (st : List Thg), v = .tuple #[.bool bg, .bool pt] ∧ (if wordF t = [123] then bg = false ∧ pt = true ∧ out = out0 ++ [t] ∧ st = st0 ++ [⟨[123, 125], 0⟩] else pt = false ∧ openF t out0 st0 = (out, st, bg)) ∧ okS st ∧ out.length + st.length ≤ out0.length + st0.length + 3 ∧ St w0 (blks [.ob bs 56 [vo0, vs0], slT vo0 33 tokE out0, slT vs0 63 itmE st0]) w' [.ob bs 56 [vo, vs], slT vo 33 tokE out, slT vs 63 itmE st]) := by
  have hO := St.init hA
  refine ret_of (m := 71) Tryd.func30 rfl Tryd.ntmps30 [(0, ptr (adr bs)), (1, .agg (tokE.cells t).toArray)] rfl ⟨rfl, rfl, trivial⟩ fun a hF => ?_
  refine wp_seq ?_
  refine wp_region_lit ?_
  refine wl_e hF rfl rfl rfl (e_box hO rfl (hF.eval rfl) rfl) ?_
  rintro a _ w ⟨tk, rfl, hO⟩ hF
  refine wl_v hF rfl rfl rfl (q_assign rfl (hF.eval rfl)) fun a hF => ?_
  refine wl_v hF rfl rfl rfl (q_assign rfl (hF.eval rfl)) fun a hF => ?_
  refine wl_nil ?_
  refine k_n ?_
  refine wp_seq ?_
  refine wp_seq ?_
  refine wp_region_lit ?_
  refine wl_v hF rfl rfl rfl (q_loadAgg Tryd.isAgg33 Tryd.sizeOf33 rfl (hF.eval rfl) (hO.cells 0 rfl) rfl) fun a hF => ?_
  refine wl_e hF rfl rfl rfl (c_buildSlice hF hO Tryd.underlying45 Tryd.sizeOf9 Tryd.zeroValue9 rfl rfl rfl rfl rfl rfl rfl) ?_
  rintro a _ w ⟨ws, rfl, hO⟩ hF
  refine wl_e hF rfl rfl rfl (c_call hF rfl rfl Tryd.call34 (is_r _ _ _ [[123]] (by decide) (hO.rdT 0 rfl))) ?_
  rintro a _ w ⟨rfl, hS⟩ hF
  have hO := hO.call0 hS
  have hO : St _ _ _ [_, _, _, _, _] := hO
  refine wl_nil ?_
  refine k_n ?_
  refine wp_ifD hF rfl rfl (fun hc1 => ?_) (fun hc1 => ?_)
  · skip
    have hw : wordF t = [123] := List.mem_singleton.1 ((isP_iff (by decide)).1 hc1)
    refine wp_seq ?_
    have hO := hO.drew
    refine wp_region_D [0, 0, 0, 0, 1, 1, 2, 3, 0, 0, 3] (fun w => St _ _ w _) Tryd_mixed (by kernel_rfl) hO ?_
    refine wd_p hF rfl rfl rfl (fun w => q_move rfl (hF.eval rfl)) fun a hF => ?_
    refine wd_p hF rfl rfl rfl (fun w => q_move rfl (hF.eval rfl)) fun a hF => ?_
    refine wd_p hF rfl rfl rfl (fun w => q_nilCheck rfl (hF.eval rfl)) fun a hF => ?_
    refine wd_p hF rfl rfl rfl (fun w => q_fieldAddr0 (d := 1) Tryd.underlying56 rfl (hF.eval rfl) rfl Tryd.sizeOf54 (by decide) rfl) fun a hF => ?_
    refine wd_r hF rfl rfl rfl (fun w hO => q_load Tryd.isAgg54 rfl (hF.eval rfl) (hO.cell 2 rfl rfl)) fun a hF => ?_
    refine wd_r hF rfl rfl rfl (fun w hO => q_loadAgg Tryd.isAgg63 Tryd.sizeOf63 rfl (hF.eval rfl) ((hG.now hO).cb) rfl) fun a hF => ?_
    refine wd_e hF rfl rfl rfl (c_buildSlice hF hO Tryd.underlying54 Tryd.sizeOf63 Tryd.zeroValue63 rfl rfl rfl rfl rfl rfl rfl) (fun _ _ ⟨_, _, hO⟩ => hO.tail) ?_
    rintro a _ w ⟨b1, rfl, hO⟩ hF
    refine wd_f hF rfl rfl rfl (e_appendT (bytes := 24) (r := [braceT]) hO (i := 5) rfl (hO.rd 0 rfl) Tryd.underlying54 Tryd_info63 rfl rfl rfl rfl rfl rfl (hF.eval rfl) (hF.eval rfl) (by show (List.length _ + 1) * 24 ≤ _; omega) (by show List.length _ + 1 ≤ _; omega)) ?_
    rintro a v19 w hO hF
    have hO : St _ _ _ [_, _, _, _, _, _] := hO
    refine wd_p hF rfl rfl rfl (fun w => q_nilCheck rfl (hF.eval rfl)) fun a hF => ?_
    refine wd_p hF rfl rfl rfl (fun w => q_fieldAddr0 (d := 1) Tryd.underlying56 rfl (hF.eval rfl) rfl Tryd.sizeOf54 (by decide) rfl) fun a hF => ?_
    refine wd_s hF rfl rfl (e_store1 hO (i := 3) rfl Tryd.sizeOf54 rfl (hF.eval rfl) (hF.eval rfl) (cells_one (hO.slOne 5 rfl)) rfl (hO.slOne 5 rfl)) ?_
    rintro a _ w ⟨-, hO⟩ hF
    have hO : St _ _ _ [_, _, _, _, _, _] := hO
    refine wd_nil ?_
    refine k_n ?_
    refine wp_seq ?_
    have hO := hO.drew
    refine wp_region_D [0, 0, 0, 0, 1, 1, 2, 3, 0, 0, 3] (fun w => St _ _ w _) Tryd_mixed (by kernel_rfl) hO ?_
    refine wd_p hF rfl rfl rfl (fun w => q_move rfl (hF.eval rfl)) fun a hF => ?_
    refine wd_p hF rfl rfl rfl (fun w => q_move rfl (hF.eval rfl)) fun a hF => ?_
    refine wd_p hF rfl rfl rfl (fun w => q_nilCheck rfl (hF.eval rfl)) fun a hF => ?_
    refine wd_p hF rfl rfl rfl (fun w => q_fieldAddr0 (d := 0) Tryd.underlying56 rfl (hF.eval rfl) rfl Tryd.sizeOf22 (by decide) rfl) fun a hF => ?_
    refine wd_r hF rfl rfl rfl (fun w hO => q_load Tryd.isAgg22 rfl (hF.eval rfl) (hO.cell 3 rfl rfl)) fun a hF => ?_
    refine wd_r hF rfl rfl rfl (fun w hO => q_loadAgg Tryd.isAgg33 Tryd.sizeOf33 rfl (hF.eval rfl) (hO.cells 2 rfl) rfl) fun a hF => ?_
    refine wd_e hF rfl rfl rfl (c_buildSlice hF hO Tryd.underlying22 Tryd.sizeOf33 Tryd.zeroValue33 rfl rfl rfl rfl rfl rfl rfl) (fun _ _ ⟨_, _, hO⟩ => hO.tail) ?_
    rintro a _ w ⟨b2, rfl, hO⟩ hF
    refine wd_f hF rfl rfl rfl (e_appendT (bytes := 48) (r := [t]) hO (i := 5) rfl (hO.rd 0 rfl) Tryd.underlying22 Tryd_info33 rfl rfl rfl rfl rfl rfl (hF.eval rfl) (hF.eval rfl) (by show (List.length _ + 1) * 48 ≤ _; omega) (by show List.length _ + 1 ≤ _; omega)) ?_
    rintro a v29 w hO hF
    have hO : St _ _ _ [_, _, _, _, _, _, _] := hO
    refine wd_p hF rfl rfl rfl (fun w => q_nilCheck rfl (hF.eval rfl)) fun a hF => ?_
    refine wd_p hF rfl rfl rfl (fun w => q_fieldAddr0 (d := 0) Tryd.underlying56 rfl (hF.eval rfl) rfl Tryd.sizeOf22 (by decide) rfl) fun a hF => ?_
    refine wd_s hF rfl rfl (e_store1 hO (i := 4) rfl Tryd.sizeOf22 rfl (hF.eval rfl) (hF.eval rfl) (cells_one (hO.slOne 5 rfl)) rfl (hO.slOne 5 rfl)) ?_
    rintro a _ w ⟨-, hO⟩ hF
    have hO : St _ _ _ [_, _, _, _, _, _, _] := hO
    refine wd_nil ?_
    refine k_n ?_
    refine wp_seq ?_
    refine wp_region_lit ?_
    refine wl_v hF rfl rfl rfl (q_assign rfl (hF.eval rfl)) fun a hF => ?_
    refine wl_v hF rfl rfl rfl (q_assign rfl (hF.eval rfl)) fun a hF => ?_
    refine wl_nil ?_
    refine k_n ?_
    refine wp_ret ?_
    refine k_r ?_
    refine r_2 hF rfl rfl rfl ?_
    have hO := hO.drop1 0
    have hO := hO.drop1 0
    have hO := hO.drop1 0
    have hO := hO.drop1 0
    have hO : St _ _ _ [_, _, _] := hO
    exact ⟨false, true, _, _, _, _, rfl, by rw [if_pos hw]; exact ⟨rfl, rfl, rfl, rfl⟩, hk0.app ⟨by decide, fun _ => rfl⟩, by simp; omega, hO⟩
  · skip
    have hw : ¬ wordF t = [123] := fun h => hc1 ((isP_iff (by decide)).2 (List.mem_singleton.2 h))
    refine wp_skip ?_
    refine k_n ?_
    refine wp_seq ?_
    refine wp_region_lit ?_
    refine wl_v hF rfl rfl rfl (q_assign rfl (hF.eval rfl)) fun a hF => ?_
    refine wl_nil ?_
    refine k_n ?_
    refine wp_seqJ (fun (m : Int) a w' => (m = (if 0 ≤ blkF st0 st0.length then (st0.getD (blkF st0 st0.length).toNat thg0).col else 0)) ∧ St w0 (blks [.ob bs 56 [vo0, vs0], slT vo0 33 tokE out0, slT vs0 63 itmE st0]) w' [.ob tk 33 (tokE.cells t), .ob bs 56 [vo0, vs0], slT vo0 33 tokE out0, slT vs0 63 itmE st0] ∧ Fr a 71 [(0, ptr (adr bs)), (3, ptr (adr tk)), (6, i64 m)]) ?_ ?_
    · skip
      refine wp_seq ?_
      refine wp_region_lit ?_
      refine wl_v hF rfl rfl rfl (q_move rfl (hF.eval rfl)) fun a hF => ?_
      have hO := hO.pull 4 rfl
      have hO := hO.pull 3 rfl
      have hO : St _ _ _ [_, _, _, _, _] := hO
      refine wl_e hF rfl rfl rfl (c_call hF rfl rfl Tryd.call42 (last_r _ _ _ _ _ hO.own2 (by omega) hk0 (hG.at2 hO))) ?_
      rintro a _ w ⟨fr, rfl, hfr, hS⟩ hF
      have hO := hO.call2 hS
      have hO : St _ _ _ [_, _, _, _, _] := hO
      refine wl_v hF rfl rfl rfl (q_move rfl (hF.eval rfl)) fun a hF => ?_
      refine wl_v hF rfl rfl rfl (q_extract rfl (hF.eval rfl) rfl) fun a hF => ?_
      refine wl_v hF rfl rfl rfl (q_extract rfl (hF.eval rfl) rfl) fun a hF => ?_
      refine wl_v hF rfl rfl rfl (q_assign rfl (hF.eval rfl)) fun a hF => ?_
      refine wl_v hF rfl rfl rfl (q_assign rfl (hF.eval rfl)) fun a hF => ?_
      refine wl_nil ?_
      refine k_n ?_
      refine wp_seq ?_
      refine wp_region_lit ?_
      refine wl_v hF rfl rfl rfl (q_move rfl (hF.eval rfl)) fun a hF => ?_
      refine wl_v hF rfl rfl rfl (q_ge rfl (hF.eval rfl) (hF.eval rfl)) fun a hF => ?_
      refine wl_nil ?_
      refine k_n ?_
      refine wp_ifD hF rfl rfl (fun hc2 => ?_) (fun hc2 => ?_)
      · skip
        refine wp_region_lit ?_
        refine wl_v hF rfl rfl rfl (q_move rfl (hF.eval rfl)) fun a hF => ?_
        refine wl_v hF rfl rfl rfl (q_nilCheck rfl (hF.eval rfl)) fun a hF => ?_
        refine wl_v hF rfl rfl rfl (q_fieldAddr0 (d := 1) Tryd.underlying56 rfl (hF.eval rfl) rfl Tryd.sizeOf54 (by decide) rfl) fun a hF => ?_
        refine wl_v hF rfl rfl rfl (q_load Tryd.isAgg54 rfl (hF.eval rfl) (hO.cell 0 rfl rfl)) fun a hF => ?_
        refine wl_v hF rfl rfl rfl (q_move rfl (hF.eval rfl)) fun a hF => ?_
        refine wl_v hF rfl rfl rfl (q_at (i := (blkF st0 st0.length).toNat) (hO.rd 1 rfl) Tryd.underlying54 Tryd.sizeOf63 rfl (hF.eval rfl) ((hF.eval rfl).trans (congrArg i64 ((Int.toNat_of_nonneg hc2).symm))) (blk_nat (Int.toNat_of_nonneg hc2).symm)) fun a hF => ?_
        refine wl_v hF rfl rfl rfl (q_fieldAddr0 (d := 1) Tryd.underlying63 rfl (hF.eval rfl) rfl Tryd.sizeOf3 (by decide) rfl) fun a hF => ?_
        refine wl_v hF rfl rfl rfl (q_load Tryd.isAgg3 rfl (hF.eval rfl) (RdT.cells (hO.rdT 1 rfl) (get_D (d := thg0) (blk_nat (Int.toNat_of_nonneg hc2).symm)) _ _ rfl)) fun a hF => ?_
        refine wl_v hF rfl rfl rfl (q_assign rfl (hF.eval rfl)) fun a hF => ?_
        refine wl_nil ?_
        refine k_n ?_
        have hO := hO.drop1 2
        have hO := hO.pull 1 rfl
        have hO := hO.pull 3 rfl
        have hO := hO.pull 2 rfl
        have hO := hO.pull 3 rfl
        have hO : St _ _ _ [_, _, _, _] := hO
        exact ⟨_, ⟨(if_pos hc2).symm, hO, hF.sub ⟨rfl, rfl, rfl, trivial⟩⟩⟩
      · skip
        refine wp_skip ?_
        refine k_n ?_
        have hO := hO.drop1 2
        have hO := hO.pull 1 rfl
        have hO := hO.pull 3 rfl
        have hO := hO.pull 2 rfl
        have hO := hO.pull 3 rfl
        have hO : St _ _ _ [_, _, _, _] := hO
        exact ⟨0, ⟨(if_neg hc2).symm, hO, hF.sub ⟨rfl, rfl, rfl, trivial⟩⟩⟩
    · skip
      rintro m a w ⟨hm, hO, hF⟩
      refine wp_seq ?_
      refine wp_seq ?_
      refine wp_region_lit ?_
      refine wl_v hF rfl rfl rfl (q_fieldAddr0 (d := 4) Tryd.underlying33 rfl (hF.eval rfl) rfl Tryd.sizeOf3 (by decide) rfl) fun a hF => ?_
      refine wl_v hF rfl rfl rfl (q_load Tryd.isAgg3 rfl (hF.eval rfl) (hO.cell 0 rfl rfl)) fun a hF => ?_
      refine wl_v hF rfl rfl rfl (q_move rfl (hF.eval rfl)) fun a hF => ?_
      refine wl_v hF rfl rfl rfl (q_le rfl (hF.eval rfl) (hF.eval rfl)) fun a hF => ?_
      refine wl_nil ?_
      refine k_n ?_
      refine wp_ifD hF rfl rfl (fun hc3 => ?_) (fun hc3 => ?_)
      · skip
        refine wp_seq ?_
        refine wp_region_lit ?_
        refine wl_v hF rfl rfl rfl (q_move rfl (hF.eval rfl)) fun a hF => ?_
        refine wl_v hF rfl rfl rfl (q_loadAgg Tryd.isAgg33 Tryd.sizeOf33 rfl (hF.eval rfl) (hO.cells 0 rfl) rfl) fun a hF => ?_
        refine wl_e hF rfl rfl rfl (c_buildSlice hF hO Tryd.underlying45 Tryd.sizeOf9 Tryd.zeroValue9 rfl rfl rfl rfl rfl rfl rfl) ?_
        rintro a _ w ⟨ws2, rfl, hO⟩ hF
        have hO := hO.pull 3 rfl
        have hO := hO.pull 3 rfl
        have hO : St _ _ _ [_, _, _, _, _] := hO
        refine wl_e hF rfl rfl rfl (c_call hF rfl rfl Tryd.call35 (llay_r _ _ _ _ _ hO.own2 _ _ [[123], [125]] (by decide) (by omega) (hO.rdT2 0 rfl))) ?_
        rintro a _ w ⟨vo, rfl, hS⟩ hF
        have hO := hO.call2 hS
        have hO : St _ _ _ [_, _, _, _, _] := hO
        refine wl_nil ?_
        refine k_n ?_
        refine wp_seq ?_
        refine wp_region_lit ?_
        refine wl_v hF rfl rfl rfl (q_assign rfl (hF.eval rfl)) fun a hF => ?_
        refine wl_v hF rfl rfl rfl (q_assign rfl (hF.eval rfl)) fun a hF => ?_
        refine wl_nil ?_
        refine k_n ?_
        refine wp_ret ?_
        refine k_r ?_
        refine r_2 hF rfl rfl rfl ?_
        have hO := hO.drop1 2
        have hO := hO.drop1 2
        have hO : St _ _ _ [_, _, _] := hO
        exact ⟨false, false, _, _, _, _, rfl, by rw [if_neg hw]; exact ⟨rfl, (open_no hm (Int.not_lt.2 hc3)).trans (by simp)⟩, hk0, by simp; omega, hO⟩
      · skip
        refine wp_skip ?_
        refine k_n ?_
        refine wp_seq ?_
        refine wp_region_lit ?_
        refine wl_v hF rfl rfl rfl (q_move rfl (hF.eval rfl)) fun a hF => ?_
        refine wl_v hF rfl rfl rfl (q_loadAgg Tryd.isAgg33 Tryd.sizeOf33 rfl (hF.eval rfl) (hO.cells 0 rfl) rfl) fun a hF => ?_
        refine wl_e hF rfl rfl rfl (c_buildSlice hF hO Tryd.underlying45 Tryd.sizeOf9 Tryd.zeroValue9 rfl rfl rfl rfl rfl rfl rfl) ?_
        rintro a _ w ⟨ws2, rfl, hO⟩ hF
        have hO := hO.pull 3 rfl
        have hO := hO.pull 3 rfl
        have hO : St _ _ _ [_, _, _, _, _] := hO
        refine wl_e hF rfl rfl rfl (c_call hF rfl rfl Tryd.call35 (llay_r _ _ _ _ _ hO.own2 _ _ [[123]] (by decide) (by omega) (hO.rdT2 0 rfl))) ?_
        rintro a _ w ⟨vo, rfl, hS⟩ hF
        have hO := hO.call2 hS
        have hO : St _ _ _ [_, _, _, _, _] := hO
        refine wl_nil ?_
        refine k_n ?_
        refine wp_seq ?_
        have hO := hO.drew
        refine wp_region_D [0, 0, 0, 0, 1, 0, 1, 0, 2, 3, 0, 0, 3] (fun w => St _ _ w _) Tryd_mixed (by kernel_rfl) hO ?_
        refine wd_p hF rfl rfl rfl (fun w => q_move rfl (hF.eval rfl)) fun a hF => ?_
        refine wd_p hF rfl rfl rfl (fun w => q_move rfl (hF.eval rfl)) fun a hF => ?_
        refine wd_p hF rfl rfl rfl (fun w => q_nilCheck rfl (hF.eval rfl)) fun a hF => ?_
        refine wd_p hF rfl rfl rfl (fun w => q_fieldAddr0 (d := 1) Tryd.underlying56 rfl (hF.eval rfl) rfl Tryd.sizeOf54 (by decide) rfl) fun a hF => ?_
        refine wd_r hF rfl rfl rfl (fun w hO => q_load Tryd.isAgg54 rfl (hF.eval rfl) (hO.cell 0 rfl rfl)) fun a hF => ?_
        refine wd_p hF rfl rfl rfl (fun w => q_fieldAddr0 (d := 4) Tryd.underlying33 rfl (hF.eval rfl) rfl Tryd.sizeOf3 (by decide) rfl) fun a hF => ?_
        refine wd_r hF rfl rfl rfl (fun w hO => q_load Tryd.isAgg3 rfl (hF.eval rfl) (hO.cell 3 rfl rfl)) fun a hF => ?_
        refine wd_p hF rfl rfl rfl (fun w => c_build hF Tryd.underlying63 Tryd.zeroValue63 Tryd_places63 rfl rfl rfl rfl) fun a hF => ?_
        refine wd_e hF rfl rfl rfl (c_buildSlice hF hO Tryd.underlying54 Tryd.sizeOf63 Tryd.zeroValue63 rfl rfl rfl rfl rfl rfl rfl) (fun _ _ ⟨_, _, hO⟩ => hO.tail) ?_
        rintro a _ w ⟨b3, rfl, hO⟩ hF
        refine wd_f hF rfl rfl rfl (e_appendT (bytes := 24) (r := [⟨[], t.col⟩]) hO (i := 5) rfl (hO.rd 0 rfl) Tryd.underlying54 Tryd_info63 rfl rfl rfl rfl rfl rfl (hF.eval rfl) (hF.eval rfl) (by show (List.length _ + 1) * 24 ≤ _; omega) (by show List.length _ + 1 ≤ _; omega)) ?_
        rintro a v68 w hO hF
        have hO : St _ _ _ [_, _, _, _, _, _] := hO
        refine wd_p hF rfl rfl rfl (fun w => q_nilCheck rfl (hF.eval rfl)) fun a hF => ?_
        refine wd_p hF rfl rfl rfl (fun w => q_fieldAddr0 (d := 1) Tryd.underlying56 rfl (hF.eval rfl) rfl Tryd.sizeOf54 (by decide) rfl) fun a hF => ?_
        refine wd_s hF rfl rfl (e_store1 hO (i := 1) rfl Tryd.sizeOf54 rfl (hF.eval rfl) (hF.eval rfl) (cells_one (hO.slOne 5 rfl)) rfl (hO.slOne 5 rfl)) ?_
        rintro a _ w ⟨-, hO⟩ hF
        have hO : St _ _ _ [_, _, _, _, _, _] := hO
        refine wd_nil ?_
        refine k_n ?_
        refine wp_seq ?_
        refine wp_region_lit ?_
        refine wl_v hF rfl rfl rfl (q_assign rfl (hF.eval rfl)) fun a hF => ?_
        refine wl_v hF rfl rfl rfl (q_assign rfl (hF.eval rfl)) fun a hF => ?_
        refine wl_nil ?_
        refine k_n ?_
        refine wp_ret ?_
        refine r_2 hF rfl rfl rfl ?_
        have hO := hO.drop1 0
        have hO := hO.drop1 2
        have hO := hO.drop1 2
        have hO : St _ _ _ [_, _, _] := hO
        exact ⟨true, false, _, _, _, _, rfl, by rw [if_neg hw]; exact ⟨rfl, (open_yes hm (Int.not_le.1 hc3)).trans (by simp)⟩, hk0.app ⟨by simp [sorts], fun h => absurd rfl h⟩, by simp; omega, hO⟩

theorem indexF_r (w0 : World) (vt : Value) (ts : List Tok) (hn : ts.length ≤ 100000000000) (hR : RdT w0 [] vt tokE ts) : Ret Tryd.prog 27 #[vt, .func (.func 28) #[] #[]] w0 (fun v w' => ∃ n : Int, v = i64 n ∧ ((∃ (k : Nat) (x : Tok), n = k ∧ ts[k]? = some x ∧ x.kind = 9 ∧ (ts.take k).all (fun x => decide (¬ x.kind = 9)) = true) ∨ (n = -1 ∧ ts.all (fun x => decide (¬ x.kind = 9)) = true)) ∧ St w0 [] w' []) := by
  have hO := St.init0 w0
  refine ret_of (m := 19) Tryd.func27 rfl Tryd.ntmps27 [(0, vt), (1, .func (.func 28) #[] #[])] rfl ⟨rfl, rfl, trivial⟩ fun a hF => ?_
  refine wp_seq ?_
  refine wp_region_lit ?_
  refine wl_v hF rfl rfl rfl (q_assign rfl (hF.eval rfl)) fun a hF => ?_
  refine wl_nil ?_
  refine k_n ?_
  refine wp_seq ?_
  refine wp_seq ?_
  refine wp_region_lit ?_
  refine wl_v hF rfl rfl rfl (q_move rfl (hF.eval rfl)) fun a hF => ?_
  refine wl_v hF rfl rfl rfl (q_lenRd hR Tryd.underlying22 rfl (hF.eval rfl)) fun a hF => ?_
  refine wl_v hF rfl rfl rfl (q_move rfl (hF.eval rfl)) fun a hF => ?_
  refine wl_nil ?_
  refine k_n ?_
  refine wp_block ?_
  have hO : St _ _ _ [] := hO
  refine wp_loopS (fun (k : Nat) a w' => (k ≤ ts.length ∧ (ts.take k).all (fun x => decide (¬ x.kind = 9)) = true) ∧ St w0 [] w' [] ∧ Fr a 19 [(0, vt), (1, .func (.func 28) #[] #[]), (7, i64 ts.length), (8, i64 k)]) (fun (k : Nat) => ts.length - k) 0 ⟨⟨by omega, by simp⟩, hO, hF.sub ⟨rfl, rfl, rfl, rfl, trivial⟩⟩ ?_
  rintro k a w ⟨⟨hk, hn9⟩, hO, hF⟩
  refine wp_seq ?_
  refine wp_region_lit ?_
  refine wl_v hF rfl rfl rfl (q_lt rfl (hF.eval rfl) (hF.eval rfl)) fun a hF => ?_
  refine wl_nil ?_
  refine k_n ?_
  refine wp_seq ?_
  refine wp_ifD hF rfl rfl (fun hc1 => ?_) (fun hc1 => ?_)
  · skip
    refine wp_skip ?_
    refine k_n ?_
    refine wp_seq ?_
    refine wp_block ?_
    refine wp_seq ?_
    refine wp_region_lit ?_
    refine wl_v hF rfl rfl rfl (q_move rfl (hF.eval rfl)) fun a hF => ?_
    refine wl_v hF rfl rfl rfl (q_assign rfl (hF.eval rfl)) fun a hF => ?_
    refine wl_nil ?_
    refine k_n ?_
    refine wp_seq ?_
    refine wp_region_lit ?_
    refine wl_v hF rfl rfl rfl (q_move rfl (hF.eval rfl)) fun a hF => ?_
    refine wl_v hF rfl rfl rfl (q_move rfl (hF.eval rfl)) fun a hF => ?_
    refine wl_v hF rfl rfl rfl (q_move rfl (hF.eval rfl)) fun a hF => ?_
    obtain ⟨x, hx⟩ := get_ex (l := ts) (i := k) (by omega)
    refine wl_v hF rfl rfl rfl (q_at (i := k) hR Tryd.underlying22 Tryd.sizeOf33 rfl (hF.eval rfl) (hF.eval rfl) (by omega)) fun a hF => ?_
    refine wl_v hF rfl rfl rfl (q_loadAgg Tryd.isAgg33 Tryd.sizeOf33 rfl (hF.eval rfl) (RdT.cells (hR.now hO) hx) rfl) fun a hF => ?_
    refine wl_e hF rfl rfl rfl (c_callV hF rfl (hF.eval rfl) rfl rfl Tryd.call28 (lay1_r _ _)) ?_
    rintro a _ w ⟨rfl, hS⟩ hF
    have hO := hO.call0 hS
    have hO : St _ _ _ [] := hO
    refine wl_nil ?_
    refine k_n ?_
    refine wp_ifD hF rfl rfl (fun hc2 => ?_) (fun hc2 => ?_)
    · skip
      refine wp_seq ?_
      refine wp_region_lit ?_
      refine wl_v hF rfl rfl rfl (q_move rfl (hF.eval rfl)) fun a hF => ?_
      refine wl_v hF rfl rfl rfl (q_assign rfl (hF.eval rfl)) fun a hF => ?_
      refine wl_nil ?_
      refine k_n ?_
      refine wp_ret ?_
      refine b_r ?_
      refine k_r ?_
      refine k_r ?_
      refine b_r ?_
      refine k_r ?_
      refine r_1 hF rfl rfl ?_
      exact ⟨_, rfl, .inl ⟨k, x, rfl, hx, hc2, hn9⟩, hO⟩
    · skip
      refine wp_skip ?_
      refine b_n ?_
      refine k_n ?_
      refine wp_region_lit ?_
      refine wl_v hF rfl rfl rfl (q_add rfl (hF.eval rfl) (hF.eval rfl) (by omega)) fun a hF => ?_
      refine wl_v hF rfl rfl rfl (q_move rfl (hF.eval rfl)) fun a hF => ?_
      refine wl_nil ?_
      refine k_n ?_
      have hO : St _ _ _ [] := hO
      exact ⟨k + 1, ⟨⟨by omega, by rw [List.take_add_one, hx, List.all_append, hn9]; simpa using hc2⟩, hO, hF.sub ⟨rfl, rfl, rfl, rfl, trivial⟩⟩, by omega⟩
  · skip
    refine wp_exit ?_
    refine k_x ?_
    refine k_x ?_
    refine b_x ?_
    refine k_n ?_
    refine wp_seq ?_
    refine wp_region_lit ?_
    refine wl_v hF rfl rfl rfl (q_assign rfl (hF.eval rfl)) fun a hF => ?_
    refine wl_nil ?_
    refine k_n ?_
    refine wp_ret ?_
    refine r_1 hF rfl rfl ?_
    exact ⟨_, rfl, .inr ⟨rfl, by rw [← List.take_length (l := ts), show ts.length = k by omega]; exact hn9⟩, hO⟩

end Go.Proofs.YtnnagjbkpmkelaaDoor
