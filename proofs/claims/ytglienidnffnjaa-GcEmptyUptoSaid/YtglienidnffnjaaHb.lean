import Derived.Test.YtglienidnffnjaaHa
import Derived.Test.YtglienidnffnjaaGw19
import Derived.Test.YtglienidnffnjaaPl7
namespace Go.Proofs.Ytglienidnffnjaa
open Go
set_option maxRecDepth 100000
set_option linter.unusedVariables false
set_option maxHeartbeats 1000000 in
theorem note_r (w0 : World) (bh : Nat) (vw vh vr : Value) (h : Hp) (hA : Owns w0 [.ob bh 77 (hpC vw vh vr h), slT vw 27 wordE h.words, slT vh 84 headE h.heads, slT vr 3 intE h.rem]) (hw : Wf h) (hrl : h.rem.length ≤ 1000000000000) (at_ : Int) (hat : 0 ≤ at_ ∧ at_ < h.heads.length) (x : Wd) : Ret Try.prog 55 #[ptr (adr bh), i64 at_, .agg (wordE.cells x).toArray] w0 (fun v w' => ∃ vr2, v = .tuple #[] ∧ St w0 (blks [.ob bh 77 (hpC vw vh vr h), slT vw 27 wordE h.words, slT vh 84 headE h.heads, slT vr 3 intE h.rem]) w' [.ob bh 77 (hpC vw vh vr2 (noteF h at_ x)), slT vw 27 wordE (noteF h at_ x).words, slT vh 84 headE (noteF h at_ x).heads, slT vr2 3 intE (noteF h at_ x).rem]) := by
  have hO := St.init hA
  have hle := hw.le
  have hlen := hw.len
  refine ret_of (m := 55) Try.func55 rfl Try.ntmps55 [(0, ptr (adr bh)), (1, i64 at_), (2, .agg (wordE.cells x).toArray)] rfl ⟨rfl, rfl, rfl, trivial⟩ fun a hF => ?_
  refine wp_seq ?_
  refine wp_region_lit ?_
  refine wl_e hF rfl rfl rfl (e_box hO rfl (hF.eval rfl) rfl) ?_
  rintro a _ w ⟨tk, rfl, hO⟩ hF
  refine wl_nil ?_
  refine k_n ?_
  refine wp_seq ?_
  refine wp_seq ?_
  have hO := hO.drew
  refine wp_region_E [0, 0, 0, 0, 0, 1, 0, 0, 0, 1, 0, 0, 0, 0, 1, 0, 0, 0, 0, 1, 0, 0, 0, 0, 0, 0, 1, 0, 0, 0, 1, 0] [0, 0, 2, 6, 14, 30, 63, 127, 255, 511, 1023, 2047, 4095, 8191, 16383, 8191, 40959, 106495, 237567, 499711, 1048575, 2097151, 4194303, 8388607, 16777215, 33554431, 67108863, 8388607, 268435455, 536870911, 1073741823, 2147483647] (fun w => St _ _ w _) Try_mixed (by kernel_rfl) hO ?_
  refine wd_p hF rfl rfl rfl (fun w => q_move rfl (hF.eval rfl)) fun a hF => ?_
  refine wd_p hF rfl rfl rfl (fun w => q_move rfl (hF.eval rfl)) fun a hF => ?_
  refine wd_p hF rfl rfl rfl (fun w => q_nilCheck rfl (hF.eval rfl)) fun a hF => ?_
  refine wd_p hF rfl rfl rfl (fun w => q_fieldAddr0 (d := 2) Try.underlying77 rfl (hF.eval rfl) rfl Try.sizeOf74 (by decide) rfl) fun a hF => ?_
  refine wd_p hF rfl rfl rfl (fun w => q_fieldAddr (d := 2) Try.underlying74 rfl (hF.eval rfl) rfl Try.sizeOf3 (by decide) rfl) fun a hF => ?_
  refine wd_r hF rfl rfl rfl (fun w hO => q_load Try.isAgg3 rfl (hF.eval rfl) (hO.cell 1 rfl rfl)) fun a hF => ?_
  refine wd_p hF rfl rfl rfl (fun w => q_lt rfl (hF.eval rfl) (hF.eval rfl)) fun a hF => ?_
  refine wd_p hF rfl rfl rfl (fun w => q_move rfl (hF.eval rfl)) fun a hF => ?_
  refine wd_gp hF rfl rfl rfl rfl rfl rfl (fun hg w => q_fieldAddr0 (d := 0) Try.underlying27 rfl (hF.eval rfl) rfl Try.sizeOf4 (by decide) rfl) fun a hF => ?_
  refine wd_gr hF rfl rfl rfl rfl rfl rfl (fun hg w hO => q_load Try.isAgg4 rfl ((hF.eval rfl).trans (gv_of hg)) (hO.cell 0 rfl rfl)) fun a hF => ?_
  refine wd_gp hF rfl rfl rfl rfl rfl rfl (fun hg w => q_not rfl ((hF.eval rfl).trans (gv_of hg)) (dec_b _)) fun a hF => ?_
  refine wd_p hF rfl rfl rfl (fun w => q_or rfl (hF.eval rfl) rfl (fun hg2 => ((hF.eval rfl).trans (gv_of hg2))) rfl) fun a hF => ?_
  refine wd_p hF rfl rfl rfl (fun w => q_move rfl (hF.eval rfl)) fun a hF => ?_
  refine wd_gp hF rfl rfl rfl rfl rfl rfl (fun hg w => q_fieldAddr0 (d := 1) Try.underlying27 rfl (hF.eval rfl) rfl Try.sizeOf3 (by decide) rfl) fun a hF => ?_
  refine wd_gr hF rfl rfl rfl rfl rfl rfl (fun hg w hO => q_load Try.isAgg3 rfl ((hF.eval rfl).trans (gv_of hg)) (hO.cell 0 rfl rfl)) fun a hF => ?_
  refine wd_gp hF rfl rfl rfl rfl rfl rfl (fun hg w => q_move rfl (hF.eval rfl)) fun a hF => ?_
  refine wd_gp hF rfl rfl rfl rfl rfl rfl (fun hg w => q_nilCheck rfl ((hF.eval rfl).trans (gv_of hg))) fun a hF => ?_
  refine wd_gp hF rfl rfl rfl rfl rfl rfl (fun hg w => q_fieldAddr0 (d := 2) Try.underlying77 rfl ((hF.eval rfl).trans (gv_of hg)) rfl Try.sizeOf74 (by decide) rfl) fun a hF => ?_
  refine wd_gp hF rfl rfl rfl rfl rfl rfl (fun hg w => q_fieldAddr (d := 2) Try.underlying74 rfl ((hF.eval rfl).trans (gv_of hg)) rfl Try.sizeOf3 (by decide) rfl) fun a hF => ?_
  refine wd_gr hF rfl rfl rfl rfl rfl rfl (fun hg w hO => q_load Try.isAgg3 rfl ((hF.eval rfl).trans (gv_of hg)) (hO.cell 1 rfl rfl)) fun a hF => ?_
  refine wd_gp hF rfl rfl rfl rfl rfl rfl (fun hg w => q_ge rfl ((hF.eval rfl).trans (gv_of hg)) ((hF.eval rfl).trans (gv_of hg))) fun a hF => ?_
  refine wd_p hF rfl rfl rfl (fun w => q_or rfl (hF.eval rfl) rfl (fun hg2 => ((hF.eval rfl).trans (gv_of hg2))) rfl) fun a hF => ?_
  refine wd_p hF rfl rfl rfl (fun w => q_move rfl (hF.eval rfl)) fun a hF => ?_
  refine wd_gp hF rfl rfl rfl rfl rfl rfl (fun hg w => q_move rfl (hF.eval rfl)) fun a hF => ?_
  refine wd_gp hF rfl rfl rfl rfl rfl rfl (fun hg w => q_nilCheck rfl ((hF.eval rfl).trans (gv_of hg))) fun a hF => ?_
  refine wd_gp hF rfl rfl rfl rfl rfl rfl (fun hg w => q_fieldAddr0 (d := 1) Try.underlying77 rfl ((hF.eval rfl).trans (gv_of hg)) rfl Try.sizeOf72 (by decide) rfl) fun a hF => ?_
  refine wd_gr hF rfl rfl rfl rfl rfl rfl (fun hg w hO => q_load Try.isAgg72 rfl ((hF.eval rfl).trans (gv_of hg)) (hO.cell 1 rfl rfl)) fun a hF => ?_
  refine wd_gp hF rfl rfl rfl rfl rfl rfl (fun hg w => q_move rfl (hF.eval rfl)) fun a hF => ?_
  refine wd_gp hF rfl rfl rfl rfl rfl rfl (fun hg w => q_at (i := at_.toNat) (hO.rd 3 rfl) Try.underlying72 Try.sizeOf84 rfl ((hF.eval rfl).trans (gv_of hg)) (((hF.eval rfl).trans (gv_of hg)).trans (congrArg i64 ((Int.toNat_of_nonneg (hat.1)).symm))) (by omega)) fun a hF => ?_
  refine wd_gp hF rfl rfl rfl rfl rfl rfl (fun hg w => q_fieldAddr0 (d := 4) Try.underlying84 rfl ((hF.eval rfl).trans (gv_of hg)) rfl Try.sizeOf4 (by decide) rfl) fun a hF => ?_
  refine wd_gr hF rfl rfl rfl rfl rfl rfl (fun hg w hO => q_load Try.isAgg4 rfl ((hF.eval rfl).trans (gv_of hg)) (RdT.cells (hO.rdT 3 rfl) (get_D (d := hd0) (by omega)) _ _ rfl)) fun a hF => ?_
  refine wd_p hF rfl rfl rfl (fun w => q_or rfl (hF.eval rfl) rfl (fun hg2 => ((hF.eval rfl).trans (gv_of hg2))) (dec_b _)) fun a hF => ?_
  refine wd_nil ?_
  refine k_n ?_
  refine wp_ifD hF rfl rfl (fun hc1 => ?_) (fun hc1 => ?_)
  · skip
    refine wp_ret ?_
    refine k_r ?_
    refine r_0 hF rfl ?_
    have hO := hO.drop1 0
    have hO : St _ _ _ [_, _, _, _] := hO
    exact ⟨_, rfl, by rw [note_yes (show knowP h at_ x from hc1)]; exact hO⟩
  · skip
    refine wp_skip ?_
    refine k_n ?_
    refine wp_seq ?_
    refine wp_region_lit ?_
    refine wl_v hF rfl rfl rfl (q_move rfl (hF.eval rfl)) fun a hF => ?_
    refine wl_v hF rfl rfl rfl (q_nilCheck rfl (hF.eval rfl)) fun a hF => ?_
    refine wl_v hF rfl rfl rfl (q_fieldAddr0 (d := 1) Try.underlying77 rfl (hF.eval rfl) rfl Try.sizeOf72 (by decide) rfl) fun a hF => ?_
    refine wl_v hF rfl rfl rfl (q_load Try.isAgg72 rfl (hF.eval rfl) (hO.cell 1 rfl rfl)) fun a hF => ?_
    refine wl_v hF rfl rfl rfl (q_move rfl (hF.eval rfl)) fun a hF => ?_
    refine wl_v hF rfl rfl rfl (q_at (i := at_.toNat) (hO.rd 3 rfl) Try.underlying72 Try.sizeOf84 rfl (hF.eval rfl) ((hF.eval rfl).trans (congrArg i64 ((Int.toNat_of_nonneg (hat.1)).symm))) (by omega)) fun a hF => ?_
    refine wl_v hF rfl rfl rfl (q_fieldAddr0 (d := 4) Try.underlying84 rfl (hF.eval rfl) rfl Try.sizeOf4 (by decide) rfl) fun a hF => ?_
    refine wl_s hF rfl rfl (e_storeElT (m := at_.toNat) (off := 4) (q := setK (h.heads.getD at_.toNat hd0) true) hO (i := 3) rfl Try.sizeOf4 rfl ((hF.eval rfl).trans (congrArg ptr (add_add' _ _ _))) rfl (hF.eval rfl) rfl (get_D (d := hd0) (by omega)) rfl (Nat.le_of_ble_eq_true rfl) rfl (all1 rfl)) ?_
    rintro a _ w ⟨-, hO⟩ hF
    have hO : St _ _ _ [_, _, _, _, _] := hO
    refine wl_nil ?_
    refine k_n ?_
    refine wp_region_lit ?_
    refine wl_v hF rfl rfl rfl (q_move rfl (hF.eval rfl)) fun a hF => ?_
    refine wl_v hF rfl rfl rfl (q_move rfl (hF.eval rfl)) fun a hF => ?_
    refine wl_v hF rfl rfl rfl (q_nilCheck rfl (hF.eval rfl)) fun a hF => ?_
    refine wl_v hF rfl rfl rfl (q_fieldAddr0 (d := 12) Try.underlying77 rfl (hF.eval rfl) rfl Try.sizeOf36 (by decide) rfl) fun a hF => ?_
    refine wl_v hF rfl rfl rfl (q_load Try.isAgg36 rfl (hF.eval rfl) (hO.cell 1 rfl rfl)) fun a hF => ?_
    refine wl_v hF rfl rfl rfl (q_move rfl (hF.eval rfl)) fun a hF => ?_
    refine wl_e hF rfl rfl rfl (c_buildSlice hF hO Try.underlying36 Try.sizeOf3 Try.zeroValue3 rfl rfl rfl rfl rfl rfl rfl) ?_
    rintro a _ w ⟨b1, rfl, hO⟩ hF
    refine wl_e hF rfl rfl rfl (e_appendT (bytes := 8) (r := [at_]) hO (i := 5) rfl (hO.rd 0 rfl) Try.underlying36 Try_info3 rfl rfl rfl rfl rfl rfl (hF.eval rfl) (hF.eval rfl) (by show (List.length _ + 1) * 8 ≤ _; omega) (by show List.length _ + 1 ≤ _; omega)) ?_
    rintro a vr2 w hO hF
    have hO : St _ _ _ [_, _, _, _, _, _] := hO
    refine wl_v hF rfl rfl rfl (q_nilCheck rfl (hF.eval rfl)) fun a hF => ?_
    refine wl_v hF rfl rfl rfl (q_fieldAddr0 (d := 12) Try.underlying77 rfl (hF.eval rfl) rfl Try.sizeOf36 (by decide) rfl) fun a hF => ?_
    refine wl_s hF rfl rfl (e_store1 hO (i := 2) rfl Try.sizeOf36 rfl (hF.eval rfl) (hF.eval rfl) (cells_one (hO.slOne 5 rfl)) rfl (hO.slOne 5 rfl)) ?_
    rintro a _ w ⟨-, hO⟩ hF
    have hO : St _ _ _ [_, _, _, _, _, _] := hO
    refine wl_nil ?_
    refine r_0n hF rfl ?_
    have hO := hO.drop1 0
    have hO := hO.drop1 0
    have hO : St _ _ _ [_, _, _, _] := hO
    exact ⟨_, rfl, by rw [note_no (show ¬ knowP h at_ x from hc1)]; exact hO⟩

end Go.Proofs.Ytglienidnffnjaa
