import Derived.Test.YtglienidnffnjaaHb
import Derived.Test.YtglienidnffnjaaGw19
import Derived.Test.YtglienidnffnjaaPl7
namespace Go.Proofs.Ytglienidnffnjaa
open Go
set_option maxRecDepth 100000
set_option linter.unusedVariables false
set_option maxHeartbeats 2000000 in
theorem lay0_r (w0 : World) (bh : Nat) (vw vh vr : Value) (h : Hp) (hA : Owns w0 [.ob bh 77 (hpC vw vh vr h), slT vw 27 wordE h.words, slT vh 84 headE h.heads, slT vr 3 intE h.rem]) (hw : Wf h) (hrl : h.rem.length ≤ 100000000000) (kind info : Int) (vf : Value) (fs : List Wd) (hR : RdT w0 (blks [.ob bh 77 (hpC vw vh vr h), slT vw 27 wordE h.words, slT vh 84 headE h.heads, slT vr 3 intE h.rem]) vf wordE fs) : Ret Try.prog 52 #[ptr (adr bh), ptr ((adr bh).add 2), i64 kind, i64 info, vf] w0 (fun v w' => ∃ vr2 r h2, layH h 0 kind info fs = (r, h2) ∧ v = .tuple #[i64 r.1, i64 r.2] ∧ St w0 (blks [.ob bh 77 (hpC vw vh vr h), slT vw 27 wordE h.words, slT vh 84 headE h.heads, slT vr 3 intE h.rem]) w' [.ob bh 77 (hpC vw vh vr2 h2), slT vw 27 wordE h2.words, slT vh 84 headE h2.heads, slT vr2 3 intE h2.rem]) := by
  have hO := St.init hA
  have hle := hw.le
  have hlen := hw.len
  obtain ⟨r1, r2, r3, r4⟩ := hw.y
  have hnf := RdT.lenle hR
  obtain ⟨t1, t2, t3⟩ := takes_ge fs
  have etk : takesF fs = 1 + max 1 (fs.length : Int) := rfl
  refine ret_of (m := 108) Try.func52 rfl Try.ntmps52 [(0, ptr (adr bh)), (1, ptr ((adr bh).add 2)), (2, i64 kind), (3, i64 info), (4, vf)] rfl ⟨rfl, rfl, rfl, rfl, rfl, trivial⟩ fun a hF => ?_
  refine wp_seq ?_
  refine wp_region_lit ?_
  refine wl_v hF rfl rfl rfl (q_assign rfl (hF.eval rfl)) fun a hF => ?_
  refine wl_v hF rfl rfl rfl (q_assign rfl (hF.eval rfl)) fun a hF => ?_
  refine wl_nil ?_
  refine k_n ?_
  refine wp_seq ?_
  refine wp_seq ?_
  refine wp_region_lit ?_
  refine wl_v hF rfl rfl rfl (q_move rfl (hF.eval rfl)) fun a hF => ?_
  refine wl_v hF rfl rfl rfl (q_lt rfl (hF.eval rfl) (hF.eval rfl)) fun a hF => ?_
  refine wl_v hF rfl rfl rfl (q_move rfl (hF.eval rfl)) fun a hF => ?_
  refine wl_g hF rfl rfl rfl rfl rfl rfl (fun hg => q_move rfl (hF.eval rfl)) fun a hF => ?_
  refine wl_g hF rfl rfl rfl rfl rfl rfl (fun hg => q_gt rfl ((hF.eval rfl).trans (gv_of hg)) (hF.eval rfl)) fun a hF => ?_
  refine wl_v hF rfl rfl rfl (q_or rfl (hF.eval rfl) rfl (fun hg2 => ((hF.eval rfl).trans (gv_of hg2))) rfl) fun a hF => ?_
  refine wl_v hF rfl rfl rfl (q_move rfl (hF.eval rfl)) fun a hF => ?_
  refine wl_g hF rfl rfl rfl rfl rfl rfl (fun hg => q_move rfl (hF.eval rfl)) fun a hF => ?_
  refine wl_g hF rfl rfl rfl rfl rfl rfl (fun hg => q_lt rfl ((hF.eval rfl).trans (gv_of hg)) (hF.eval rfl)) fun a hF => ?_
  refine wl_v hF rfl rfl rfl (q_or rfl (hF.eval rfl) rfl (fun hg2 => ((hF.eval rfl).trans (gv_of hg2))) rfl) fun a hF => ?_
  refine wl_v hF rfl rfl rfl (q_move rfl (hF.eval rfl)) fun a hF => ?_
  refine wl_g hF rfl rfl rfl rfl rfl rfl (fun hg => q_move rfl (hF.eval rfl)) fun a hF => ?_
  refine wl_g hF rfl rfl rfl rfl rfl rfl (fun hg => q_gt rfl ((hF.eval rfl).trans (gv_of hg)) (hF.eval rfl)) fun a hF => ?_
  refine wl_v hF rfl rfl rfl (q_or rfl (hF.eval rfl) rfl (fun hg2 => ((hF.eval rfl).trans (gv_of hg2))) rfl) fun a hF => ?_
  refine wl_v hF rfl rfl rfl (q_move rfl (hF.eval rfl)) fun a hF => ?_
  refine wl_g hF rfl rfl rfl rfl rfl rfl (fun hg => q_move rfl (hF.eval rfl)) fun a hF => ?_
  refine wl_g hF rfl rfl rfl rfl rfl rfl (fun hg => q_lenRd hR Try.underlying37 rfl ((hF.eval rfl).trans (gv_of hg))) fun a hF => ?_
  refine wl_g hF rfl rfl rfl rfl rfl rfl (fun hg => q_gt rfl ((hF.eval rfl).trans (gv_of hg)) (hF.eval rfl)) fun a hF => ?_
  refine wl_v hF rfl rfl rfl (q_or rfl (hF.eval rfl) rfl (fun hg2 => ((hF.eval rfl).trans (gv_of hg2))) rfl) fun a hF => ?_
  refine wl_v hF rfl rfl rfl (q_move rfl (hF.eval rfl)) fun a hF => ?_
  refine wl_g hF rfl rfl rfl rfl rfl rfl (fun hg => q_move rfl (hF.eval rfl)) fun a hF => ?_
  refine wl_g hF rfl rfl rfl rfl rfl rfl (fun hg => q_eq rfl ((hF.eval rfl).trans (gv_of hg)) (hF.eval rfl)) fun a hF => ?_
  refine wl_g hF rfl rfl rfl rfl rfl rfl (fun hg => q_move rfl ((hF.eval rfl).trans (gv_of hg))) fun a hF => ?_
  refine wl_g hF rfl rfl rfl rfl rfl rfl (fun hg => q_move rfl (hF.eval rfl)) fun a hF => ?_
  refine wl_g hF rfl rfl rfl rfl rfl rfl (fun hg => q_lenRd hR Try.underlying37 rfl ((hF.eval rfl).trans (gv_of hg))) fun a hF => ?_
  refine wl_g hF rfl rfl rfl rfl rfl rfl (fun hg => q_ne rfl ((hF.eval rfl).trans (gv_of hg)) (hF.eval rfl)) fun a hF => ?_
  refine wl_g hF rfl rfl rfl rfl rfl rfl (fun hg => q_and rfl ((hF.eval rfl).trans (gv_of hg)) rfl (fun hg2 => ((hF.eval rfl).trans (gv_of2 hg hg2))) rfl) fun a hF => ?_
  refine wl_v hF rfl rfl rfl (q_or rfl (hF.eval rfl) rfl (fun hg2 => ((hF.eval rfl).trans (gv_of hg2))) rfl) fun a hF => ?_
  refine wl_nil ?_
  refine k_n ?_
  refine wp_ifD hF rfl rfl (fun hc1 => ?_) (fun hc1 => ?_)
  · skip
    refine wp_seq ?_
    refine wp_region_lit ?_
    refine wl_v hF rfl rfl rfl (q_assign rfl (hF.eval rfl)) fun a hF => ?_
    refine wl_v hF rfl rfl rfl (q_assign rfl (hF.eval rfl)) fun a hF => ?_
    refine wl_nil ?_
    refine k_n ?_
    refine wp_ret ?_
    refine k_r ?_
    refine r_2 hF rfl rfl rfl ?_
    have hO : St _ _ _ [_, _, _, _] := hO
    exact ⟨_, (0, 1), h, lay_1 hc1, rfl, hO⟩
  · skip
    have hfl : fs.length ≤ 1000 := by have := (not_or.1 (not_or.1 hc1).1).2; omega
    refine wp_skip ?_
    refine k_n ?_
    refine wp_seq ?_
    refine wp_seq ?_
    refine wp_region_lit ?_
    refine wl_v hF rfl rfl rfl (q_move rfl (hF.eval rfl)) fun a hF => ?_
    refine wl_v hF rfl rfl rfl (q_move rfl (hF.eval rfl)) fun a hF => ?_
    refine wl_e hF rfl rfl rfl (c_call hF rfl rfl Try.call54 (hreal_r _ _ _ _ _ _ (hO.hr 0 1 2 3 rfl rfl rfl rfl) _ _ (hR.at0 hO))) ?_
    rintro a _ w ⟨rfl, hS⟩ hF
    have hO := hO.call0 hS
    have hO : St _ _ _ [_, _, _, _] := hO
    refine wl_v hF rfl rfl rfl (q_not rfl (hF.eval rfl) (dec_b _)) fun a hF => ?_
    refine wl_nil ?_
    refine k_n ?_
    refine wp_ifD hF rfl rfl (fun hc2 => ?_) (fun hc2 => ?_)
    · skip
      refine wp_seq ?_
      refine wp_region_lit ?_
      refine wl_v hF rfl rfl rfl (q_assign rfl (hF.eval rfl)) fun a hF => ?_
      refine wl_v hF rfl rfl rfl (q_assign rfl (hF.eval rfl)) fun a hF => ?_
      refine wl_nil ?_
      refine k_n ?_
      refine wp_ret ?_
      refine k_r ?_
      refine r_2 hF rfl rfl rfl ?_
      have hO : St _ _ _ [_, _, _, _] := hO
      exact ⟨_, (0, 181), h, lay_2 hc1 hc2, rfl, hO⟩
    · skip
      refine wp_skip ?_
      refine k_n ?_
      refine wp_seq ?_
      refine wp_region_lit ?_
      refine wl_v hF rfl rfl rfl (q_move rfl (hF.eval rfl)) fun a hF => ?_
      refine wl_v hF rfl rfl rfl (q_lenRd hR Try.underlying37 rfl (hF.eval rfl)) fun a hF => ?_
      refine wl_v hF rfl rfl rfl (q_max rfl (hF.eval rfl) (hF.eval rfl)) fun a hF => ?_
      refine wl_v hF rfl rfl rfl (q_add rfl (hF.eval rfl) (hF.eval rfl) (by omega)) fun a hF => ?_
      refine wl_v hF rfl rfl rfl (q_assign rfl (hF.eval rfl)) fun a hF => ?_
      refine wl_nil ?_
      refine k_n ?_
      refine wp_seq ?_
      refine wp_seq ?_
      have hO := hO.drew
      refine wp_region_D [0, 0, 0, 0, 1, 0, 0, 0, 1, 0, 0] (fun w => St _ _ w _) Try_mixed (by kernel_rfl) hO ?_
      refine wd_p hF rfl rfl rfl (fun w => q_move rfl (hF.eval rfl)) fun a hF => ?_
      refine wd_p hF rfl rfl rfl (fun w => q_move rfl (hF.eval rfl)) fun a hF => ?_
      refine wd_p hF rfl rfl rfl (fun w => q_nilCheck rfl (hF.eval rfl)) fun a hF => ?_
      refine wd_p hF rfl rfl rfl (fun w => q_fieldAddr (d := 2) Try.underlying74 rfl (hF.eval rfl) rfl Try.sizeOf3 (by decide) rfl) fun a hF => ?_
      refine wd_r hF rfl rfl rfl (fun w hO => q_load Try.isAgg3 rfl (hF.eval rfl) (hO.cell 0 rfl rfl)) fun a hF => ?_
      refine wd_p hF rfl rfl rfl (fun w => q_move rfl (hF.eval rfl)) fun a hF => ?_
      refine wd_p hF rfl rfl rfl (fun w => q_nilCheck rfl (hF.eval rfl)) fun a hF => ?_
      refine wd_p hF rfl rfl rfl (fun w => q_fieldAddr (d := 1) Try.underlying74 rfl (hF.eval rfl) rfl Try.sizeOf3 (by decide) rfl) fun a hF => ?_
      refine wd_r hF rfl rfl rfl (fun w hO => q_load Try.isAgg3 rfl (hF.eval rfl) (hO.cell 0 rfl rfl)) fun a hF => ?_
      refine wd_p hF rfl rfl rfl (fun w => q_sub rfl (hF.eval rfl) (hF.eval rfl) (by omega)) fun a hF => ?_
      refine wd_p hF rfl rfl rfl (fun w => q_gt rfl (hF.eval rfl) (hF.eval rfl)) fun a hF => ?_
      refine wd_nil ?_
      refine k_n ?_
      refine wp_ifD hF rfl rfl (fun hc3 => ?_) (fun hc3 => ?_)
      · skip
        refine wp_seq ?_
        refine wp_region_lit ?_
        refine wl_v hF rfl rfl rfl (q_assign rfl (hF.eval rfl)) fun a hF => ?_
        refine wl_v hF rfl rfl rfl (q_assign rfl (hF.eval rfl)) fun a hF => ?_
        refine wl_nil ?_
        refine k_n ?_
        refine wp_ret ?_
        refine k_r ?_
        refine r_2 hF rfl rfl rfl ?_
        have hO : St _ _ _ [_, _, _, _] := hO
        exact ⟨_, (0, 180), h, lay_3 (k := 0) hc1 hc2 hc3, rfl, hO⟩
      · skip
        have hfit : ¬ h.y.end_ - h.y.next < takesF fs := hc3
        have hl4 := lay_4 (k := 0) hc1 hc2 hc3
        refine wp_skip ?_
        refine k_n ?_
        refine wp_seq ?_
        refine wp_region_lit ?_
        refine wl_v hF rfl rfl rfl (q_move rfl (hF.eval rfl)) fun a hF => ?_
        refine wl_v hF rfl rfl rfl (q_nilCheck rfl (hF.eval rfl)) fun a hF => ?_
        refine wl_v hF rfl rfl rfl (q_fieldAddr (d := 1) Try.underlying74 rfl (hF.eval rfl) rfl Try.sizeOf3 (by decide) rfl) fun a hF => ?_
        refine wl_v hF rfl rfl rfl (q_load Try.isAgg3 rfl (hF.eval rfl) (hO.cell 0 rfl rfl)) fun a hF => ?_
        refine wl_v hF rfl rfl rfl (q_assign rfl (hF.eval rfl)) fun a hF => ?_
        refine wl_nil ?_
        refine k_n ?_
        refine wp_seq ?_
        refine wp_region_lit ?_
        refine wl_v hF rfl rfl rfl (q_move rfl (hF.eval rfl)) fun a hF => ?_
        refine wl_v hF rfl rfl rfl (q_nilCheck rfl (hF.eval rfl)) fun a hF => ?_
        refine wl_v hF rfl rfl rfl (q_fieldAddr (d := 1) Try.underlying74 rfl (hF.eval rfl) rfl Try.sizeOf3 (by decide) rfl) fun a hF => ?_
        refine wl_v hF rfl rfl rfl (q_load Try.isAgg3 rfl (hF.eval rfl) (hO.cell 0 rfl rfl)) fun a hF => ?_
        refine wl_v hF rfl rfl rfl (q_move rfl (hF.eval rfl)) fun a hF => ?_
        refine wl_v hF rfl rfl rfl (q_add rfl (hF.eval rfl) (hF.eval rfl) (by omega)) fun a hF => ?_
        refine wl_v hF rfl rfl rfl (q_nilCheck rfl (hF.eval rfl)) fun a hF => ?_
        refine wl_v hF rfl rfl rfl (q_fieldAddr (d := 1) Try.underlying74 rfl (hF.eval rfl) rfl Try.sizeOf3 (by decide) rfl) fun a hF => ?_
        refine wl_s hF rfl rfl (e_store1 hO (i := 0) rfl Try.sizeOf3 rfl (hF.eval rfl) (hF.eval rfl) rfl rfl rfl) ?_
        rintro a _ w ⟨-, hO⟩ hF
        have hO : St _ _ _ [_, _, _, _] := hO
        replace hO : St _ _ _ [.ob bh 77 (hpC vw vh vr (h.setN 0 (h.y.next + takesF fs))), _, _, _] := hO
        refine wl_nil ?_
        refine k_n ?_
        refine wp_seq ?_
        refine wp_region_lit ?_
        refine wl_v hF rfl rfl rfl (q_move rfl (hF.eval rfl)) fun a hF => ?_
        refine wl_v hF rfl rfl rfl (q_nilCheck rfl (hF.eval rfl)) fun a hF => ?_
        refine wl_v hF rfl rfl rfl (q_fieldAddr0 (d := 1) Try.underlying77 rfl (hF.eval rfl) rfl Try.sizeOf72 (by decide) rfl) fun a hF => ?_
        refine wl_v hF rfl rfl rfl (q_load Try.isAgg72 rfl (hF.eval rfl) (hO.cell 0 rfl rfl)) fun a hF => ?_
        refine wl_v hF rfl rfl rfl (q_move rfl (hF.eval rfl)) fun a hF => ?_
        refine wl_v hF rfl rfl rfl (q_move rfl (hF.eval rfl)) fun a hF => ?_
        refine wl_v hF rfl rfl rfl (q_move rfl (hF.eval rfl)) fun a hF => ?_
        refine wl_v hF rfl rfl rfl (q_move rfl (hF.eval rfl)) fun a hF => ?_
        refine wl_v hF rfl rfl rfl (q_lenRd hR Try.underlying37 rfl (hF.eval rfl)) fun a hF => ?_
        refine wl_v hF rfl rfl rfl (q_move rfl (hF.eval rfl)) fun a hF => ?_
        refine wl_v hF rfl rfl rfl (c_build hF Try.underlying84 Try.zeroValue84 Try_places84 rfl rfl rfl rfl) fun a hF => ?_
        refine wl_v hF rfl rfl rfl (q_at (i := h.y.next.toNat) (hO.rd 2 rfl) Try.underlying72 Try.sizeOf84 rfl (hF.eval rfl) ((hF.eval rfl).trans (congrArg i64 ((Int.toNat_of_nonneg (by omega)).symm))) (by omega)) fun a hF => ?_
        refine wl_s hF rfl rfl (e_storeElT (m := h.y.next.toNat) (off := 0) (q := ⟨kind, info, fs.length, takesF fs, false⟩) hO (i := 2) rfl Try.sizeOf84 rfl (hF.eval rfl) rfl (hF.eval rfl) rfl (get_D (d := hd0) (by omega)) rfl (Nat.le_of_ble_eq_true rfl) rfl (all1 rfl)) ?_
        rintro a _ w ⟨-, hO⟩ hF
        have hO : St _ _ _ [_, _, _, _] := hO
        refine wl_nil ?_
        refine k_n ?_
        refine wp_seq ?_
        refine wp_region_lit ?_
        refine wl_v hF rfl rfl rfl (q_move rfl (hF.eval rfl)) fun a hF => ?_
        refine wl_v hF rfl rfl rfl (q_nilCheck rfl (hF.eval rfl)) fun a hF => ?_
        refine wl_v hF rfl rfl rfl (q_fieldAddr0 (d := 0) Try.underlying77 rfl (hF.eval rfl) rfl Try.sizeOf37 (by decide) rfl) fun a hF => ?_
        refine wl_v hF rfl rfl rfl (q_load Try.isAgg37 rfl (hF.eval rfl) (hO.cell 0 rfl rfl)) fun a hF => ?_
        refine wl_v hF rfl rfl rfl (q_move rfl (hF.eval rfl)) fun a hF => ?_
        refine wl_v hF rfl rfl rfl (q_add rfl (hF.eval rfl) (hF.eval rfl) (by omega)) fun a hF => ?_
        refine wl_v hF rfl rfl rfl (q_drop (j := (h.y.next.toNat + 1)) (hO.rd 1 rfl) Try.underlying37 Try.sizeOf27 rfl (hF.eval rfl) ((hF.eval rfl).trans (congrArg i64 (show h.y.next + 1 = ((h.y.next.toNat + 1 : Nat) : Int) by omega))) (by omega)) fun a hF => ?_
        refine wl_v hF rfl rfl rfl (q_move rfl (hF.eval rfl)) fun a hF => ?_
        refine wl_e hF rfl rfl rfl (e_copyT (k := (h.y.next.toNat + 1)) hO (i := 1) rfl (hR.now hO) Try.underlying37 Try.sizeOf27 rfl (hF.eval rfl) (hF.eval rfl) (by omega) rfl) ?_
        rintro a v95 w hO hF
        have hO : St _ _ _ [_, _, _, _] := hO
        replace hO : St _ _ _ [.ob bh 77 (hpC vw vh vr (laidH h 0 kind info fs)), slT vw 27 wordE (laidH h 0 kind info fs).words, slT vh 84 headE (laidH h 0 kind info fs).heads, slT vr 3 intE (laidH h 0 kind info fs).rem] := hO
        refine wl_nil ?_
        refine k_n ?_
        refine wp_seq ?_
        refine wp_seq ?_
        refine wp_region_lit ?_
        refine wl_v hF rfl rfl rfl (q_move rfl (hF.eval rfl)) fun a hF => ?_
        refine wl_v hF rfl rfl rfl (q_lenRd hR Try.underlying37 rfl (hF.eval rfl)) fun a hF => ?_
        refine wl_v hF rfl rfl rfl (q_move rfl (hF.eval rfl)) fun a hF => ?_
        refine wl_nil ?_
        refine k_n ?_
        refine wp_block ?_
        have hO : St _ _ _ [_, _, _, _] := hO
        refine wp_loopS (fun (q : Nat × Value) a w' => match q with | (j, vr2) => (j ≤ fs.length) ∧ St w0 (blks [.ob bh 77 (hpC vw vh vr h), slT vw 27 wordE h.words, slT vh 84 headE h.heads, slT vr 3 intE h.rem]) w' [.ob bh 77 (hpC vw vh vr2 (notesF (laidH h 0 kind info fs) h.y.next (fs.take j))), slT vw 27 wordE (notesF (laidH h 0 kind info fs) h.y.next (fs.take j)).words, slT vh 84 headE (notesF (laidH h 0 kind info fs) h.y.next (fs.take j)).heads, slT vr2 3 intE (notesF (laidH h 0 kind info fs) h.y.next (fs.take j)).rem] ∧ Fr a 108 [(0, ptr (adr bh)), (13, i64 h.y.next), (96, vf), (97, i64 fs.length), (98, i64 j)]) (fun (q : Nat × Value) => match q with | (j, vr2) => fs.length - j) (0, vr) ⟨by omega, hO, hF.sub ⟨rfl, rfl, rfl, rfl, rfl, trivial⟩⟩ ?_
        rintro ⟨j, vr2⟩ a w ⟨hj, hO, hF⟩
        obtain ⟨hnl, _, _, _, _, _, hnr⟩ := notes_len h.y.next (fs.take j) (laidH h 0 kind info fs)
        obtain ⟨e1, e2⟩ := laid_len h 0 kind info fs
        rw [e1] at hnl
        rw [e2, List.length_take] at hnr
        refine wp_seq ?_
        refine wp_region_lit ?_
        refine wl_v hF rfl rfl rfl (q_lt rfl (hF.eval rfl) (hF.eval rfl)) fun a hF => ?_
        refine wl_nil ?_
        refine k_n ?_
        refine wp_seq ?_
        refine wp_ifD hF rfl rfl (fun hc4 => ?_) (fun hc4 => ?_)
        · skip
          refine wp_skip ?_
          refine k_n ?_
          refine wp_seq ?_
          refine wp_block ?_
          refine wp_seq ?_
          refine wp_region_lit ?_
          obtain ⟨x, hx⟩ := get_ex (l := fs) (i := j) (by omega)
          refine wl_v hF rfl rfl rfl (q_at (i := j) hR Try.underlying37 Try.sizeOf27 rfl (hF.eval rfl) (hF.eval rfl) (by omega)) fun a hF => ?_
          refine wl_v hF rfl rfl rfl (q_loadAgg Try.isAgg27 Try.sizeOf27 rfl (hF.eval rfl) (RdT.cells (hR.now hO) hx) rfl) fun a hF => ?_
          refine wl_e hF rfl rfl rfl (e_alloc hO Try.zeroValue27 rfl rfl) ?_
          rintro a _ w ⟨tk, rfl, hO⟩ hF
          refine wl_s hF rfl rfl (e_storeAll hO (i := 0) rfl Try.sizeOf27 rfl (hF.eval rfl) (hF.eval rfl) rfl rfl) ?_
          rintro a _ w ⟨-, hO⟩ hF
          have hO : St _ _ _ [_, _, _, _, _] := hO
          refine wl_nil ?_
          refine k_n ?_
          refine wp_region_lit ?_
          refine wl_v hF rfl rfl rfl (q_move rfl (hF.eval rfl)) fun a hF => ?_
          refine wl_v hF rfl rfl rfl (q_move rfl (hF.eval rfl)) fun a hF => ?_
          refine wl_v hF rfl rfl rfl (q_loadAgg Try.isAgg27 Try.sizeOf27 rfl (hF.eval rfl) (hO.cells 0 rfl) rfl) fun a hF => ?_
          have hO := hO.pull 4 rfl
          have hO := hO.pull 4 rfl
          have hO := hO.pull 4 rfl
          have hO := hO.pull 4 rfl
          have hO : St _ _ _ [_, _, _, _, _] := hO
          refine wl_e hF rfl rfl rfl (c_call hF rfl rfl Try.call55 (note_r _ _ _ _ _ _ hO.own4 (Wf.notes _ (hw.laid (k := 0) (by decide) hfit) (by omega) (by rw [(laid_len h 0 kind info fs).1]; show h.y.next < _; omega)) (by omega) _ ⟨by omega, by rw [hnl]; show h.y.next < _; omega⟩ _)) ?_
          rintro a _ w ⟨vr2, rfl, hS⟩ hF
          have hO := hO.call4 hS
          have hO : St _ _ _ [_, _, _, _, _] := hO
          refine wl_nil ?_
          refine b_n ?_
          refine k_n ?_
          refine wp_region_lit ?_
          refine wl_v hF rfl rfl rfl (q_add rfl (hF.eval rfl) (hF.eval rfl) (by omega)) fun a hF => ?_
          refine wl_v hF rfl rfl rfl (q_move rfl (hF.eval rfl)) fun a hF => ?_
          refine wl_nil ?_
          refine k_n ?_
          have hO := hO.drop1 4
          have hO : St _ _ _ [_, _, _, _] := hO
          rw [← notes_on, ← takeAt hx] at hO
          exact ⟨(j + 1, _), ⟨by omega, hO, hF.sub ⟨rfl, rfl, rfl, rfl, rfl, trivial⟩⟩, by dsimp only; omega⟩
        · skip
          refine wp_exit ?_
          refine k_x ?_
          refine k_x ?_
          refine b_x ?_
          refine k_n ?_
          refine wp_seq ?_
          refine wp_region_lit ?_
          refine wl_v hF rfl rfl rfl (q_move rfl (hF.eval rfl)) fun a hF => ?_
          refine wl_v hF rfl rfl rfl (q_assign rfl (hF.eval rfl)) fun a hF => ?_
          refine wl_v hF rfl rfl rfl (q_assign rfl (hF.eval rfl)) fun a hF => ?_
          refine wl_nil ?_
          refine k_n ?_
          refine wp_ret ?_
          refine r_2 hF rfl rfl rfl ?_
          have hO : St _ _ _ [_, _, _, _] := hO
          obtain rfl : j = fs.length := by omega
          rw [List.take_length] at hO
          exact ⟨_, _, _, hl4, rfl, hO⟩

set_option maxHeartbeats 2000000 in
theorem lay1_r (w0 : World) (bh : Nat) (vw vh vr : Value) (h : Hp) (hA : Owns w0 [.ob bh 77 (hpC vw vh vr h), slT vw 27 wordE h.words, slT vh 84 headE h.heads, slT vr 3 intE h.rem]) (hw : Wf h) (hrl : h.rem.length ≤ 100000000000) (kind info : Int) (vf : Value) (fs : List Wd) (hR : RdT w0 (blks [.ob bh 77 (hpC vw vh vr h), slT vw 27 wordE h.words, slT vh 84 headE h.heads, slT vr 3 intE h.rem]) vf wordE fs) : Ret Try.prog 52 #[ptr (adr bh), ptr ((adr bh).add 5), i64 kind, i64 info, vf] w0 (fun v w' => ∃ vr2 r h2, layH h 1 kind info fs = (r, h2) ∧ v = .tuple #[i64 r.1, i64 r.2] ∧ St w0 (blks [.ob bh 77 (hpC vw vh vr h), slT vw 27 wordE h.words, slT vh 84 headE h.heads, slT vr 3 intE h.rem]) w' [.ob bh 77 (hpC vw vh vr2 h2), slT vw 27 wordE h2.words, slT vh 84 headE h2.heads, slT vr2 3 intE h2.rem]) := by
  have hO := St.init hA
  have hle := hw.le
  have hlen := hw.len
  obtain ⟨r1, r2, r3, r4⟩ := hw.a
  have hnf := RdT.lenle hR
  obtain ⟨t1, t2, t3⟩ := takes_ge fs
  have etk : takesF fs = 1 + max 1 (fs.length : Int) := rfl
  refine ret_of (m := 108) Try.func52 rfl Try.ntmps52 [(0, ptr (adr bh)), (1, ptr ((adr bh).add 5)), (2, i64 kind), (3, i64 info), (4, vf)] rfl ⟨rfl, rfl, rfl, rfl, rfl, trivial⟩ fun a hF => ?_
  refine wp_seq ?_
  refine wp_region_lit ?_
  refine wl_v hF rfl rfl rfl (q_assign rfl (hF.eval rfl)) fun a hF => ?_
  refine wl_v hF rfl rfl rfl (q_assign rfl (hF.eval rfl)) fun a hF => ?_
  refine wl_nil ?_
  refine k_n ?_
  refine wp_seq ?_
  refine wp_seq ?_
  refine wp_region_lit ?_
  refine wl_v hF rfl rfl rfl (q_move rfl (hF.eval rfl)) fun a hF => ?_
  refine wl_v hF rfl rfl rfl (q_lt rfl (hF.eval rfl) (hF.eval rfl)) fun a hF => ?_
  refine wl_v hF rfl rfl rfl (q_move rfl (hF.eval rfl)) fun a hF => ?_
  refine wl_g hF rfl rfl rfl rfl rfl rfl (fun hg => q_move rfl (hF.eval rfl)) fun a hF => ?_
  refine wl_g hF rfl rfl rfl rfl rfl rfl (fun hg => q_gt rfl ((hF.eval rfl).trans (gv_of hg)) (hF.eval rfl)) fun a hF => ?_
  refine wl_v hF rfl rfl rfl (q_or rfl (hF.eval rfl) rfl (fun hg2 => ((hF.eval rfl).trans (gv_of hg2))) rfl) fun a hF => ?_
  refine wl_v hF rfl rfl rfl (q_move rfl (hF.eval rfl)) fun a hF => ?_
  refine wl_g hF rfl rfl rfl rfl rfl rfl (fun hg => q_move rfl (hF.eval rfl)) fun a hF => ?_
  refine wl_g hF rfl rfl rfl rfl rfl rfl (fun hg => q_lt rfl ((hF.eval rfl).trans (gv_of hg)) (hF.eval rfl)) fun a hF => ?_
  refine wl_v hF rfl rfl rfl (q_or rfl (hF.eval rfl) rfl (fun hg2 => ((hF.eval rfl).trans (gv_of hg2))) rfl) fun a hF => ?_
  refine wl_v hF rfl rfl rfl (q_move rfl (hF.eval rfl)) fun a hF => ?_
  refine wl_g hF rfl rfl rfl rfl rfl rfl (fun hg => q_move rfl (hF.eval rfl)) fun a hF => ?_
  refine wl_g hF rfl rfl rfl rfl rfl rfl (fun hg => q_gt rfl ((hF.eval rfl).trans (gv_of hg)) (hF.eval rfl)) fun a hF => ?_
  refine wl_v hF rfl rfl rfl (q_or rfl (hF.eval rfl) rfl (fun hg2 => ((hF.eval rfl).trans (gv_of hg2))) rfl) fun a hF => ?_
  refine wl_v hF rfl rfl rfl (q_move rfl (hF.eval rfl)) fun a hF => ?_
  refine wl_g hF rfl rfl rfl rfl rfl rfl (fun hg => q_move rfl (hF.eval rfl)) fun a hF => ?_
  refine wl_g hF rfl rfl rfl rfl rfl rfl (fun hg => q_lenRd hR Try.underlying37 rfl ((hF.eval rfl).trans (gv_of hg))) fun a hF => ?_
  refine wl_g hF rfl rfl rfl rfl rfl rfl (fun hg => q_gt rfl ((hF.eval rfl).trans (gv_of hg)) (hF.eval rfl)) fun a hF => ?_
  refine wl_v hF rfl rfl rfl (q_or rfl (hF.eval rfl) rfl (fun hg2 => ((hF.eval rfl).trans (gv_of hg2))) rfl) fun a hF => ?_
  refine wl_v hF rfl rfl rfl (q_move rfl (hF.eval rfl)) fun a hF => ?_
  refine wl_g hF rfl rfl rfl rfl rfl rfl (fun hg => q_move rfl (hF.eval rfl)) fun a hF => ?_
  refine wl_g hF rfl rfl rfl rfl rfl rfl (fun hg => q_eq rfl ((hF.eval rfl).trans (gv_of hg)) (hF.eval rfl)) fun a hF => ?_
  refine wl_g hF rfl rfl rfl rfl rfl rfl (fun hg => q_move rfl ((hF.eval rfl).trans (gv_of hg))) fun a hF => ?_
  refine wl_g hF rfl rfl rfl rfl rfl rfl (fun hg => q_move rfl (hF.eval rfl)) fun a hF => ?_
  refine wl_g hF rfl rfl rfl rfl rfl rfl (fun hg => q_lenRd hR Try.underlying37 rfl ((hF.eval rfl).trans (gv_of hg))) fun a hF => ?_
  refine wl_g hF rfl rfl rfl rfl rfl rfl (fun hg => q_ne rfl ((hF.eval rfl).trans (gv_of hg)) (hF.eval rfl)) fun a hF => ?_
  refine wl_g hF rfl rfl rfl rfl rfl rfl (fun hg => q_and rfl ((hF.eval rfl).trans (gv_of hg)) rfl (fun hg2 => ((hF.eval rfl).trans (gv_of2 hg hg2))) rfl) fun a hF => ?_
  refine wl_v hF rfl rfl rfl (q_or rfl (hF.eval rfl) rfl (fun hg2 => ((hF.eval rfl).trans (gv_of hg2))) rfl) fun a hF => ?_
  refine wl_nil ?_
  refine k_n ?_
  refine wp_ifD hF rfl rfl (fun hc1 => ?_) (fun hc1 => ?_)
  · skip
    refine wp_seq ?_
    refine wp_region_lit ?_
    refine wl_v hF rfl rfl rfl (q_assign rfl (hF.eval rfl)) fun a hF => ?_
    refine wl_v hF rfl rfl rfl (q_assign rfl (hF.eval rfl)) fun a hF => ?_
    refine wl_nil ?_
    refine k_n ?_
    refine wp_ret ?_
    refine k_r ?_
    refine r_2 hF rfl rfl rfl ?_
    have hO : St _ _ _ [_, _, _, _] := hO
    exact ⟨_, (0, 1), h, lay_1 hc1, rfl, hO⟩
  · skip
    have hfl : fs.length ≤ 1000 := by have := (not_or.1 (not_or.1 hc1).1).2; omega
    refine wp_skip ?_
    refine k_n ?_
    refine wp_seq ?_
    refine wp_seq ?_
    refine wp_region_lit ?_
    refine wl_v hF rfl rfl rfl (q_move rfl (hF.eval rfl)) fun a hF => ?_
    refine wl_v hF rfl rfl rfl (q_move rfl (hF.eval rfl)) fun a hF => ?_
    refine wl_e hF rfl rfl rfl (c_call hF rfl rfl Try.call54 (hreal_r _ _ _ _ _ _ (hO.hr 0 1 2 3 rfl rfl rfl rfl) _ _ (hR.at0 hO))) ?_
    rintro a _ w ⟨rfl, hS⟩ hF
    have hO := hO.call0 hS
    have hO : St _ _ _ [_, _, _, _] := hO
    refine wl_v hF rfl rfl rfl (q_not rfl (hF.eval rfl) (dec_b _)) fun a hF => ?_
    refine wl_nil ?_
    refine k_n ?_
    refine wp_ifD hF rfl rfl (fun hc2 => ?_) (fun hc2 => ?_)
    · skip
      refine wp_seq ?_
      refine wp_region_lit ?_
      refine wl_v hF rfl rfl rfl (q_assign rfl (hF.eval rfl)) fun a hF => ?_
      refine wl_v hF rfl rfl rfl (q_assign rfl (hF.eval rfl)) fun a hF => ?_
      refine wl_nil ?_
      refine k_n ?_
      refine wp_ret ?_
      refine k_r ?_
      refine r_2 hF rfl rfl rfl ?_
      have hO : St _ _ _ [_, _, _, _] := hO
      exact ⟨_, (0, 181), h, lay_2 hc1 hc2, rfl, hO⟩
    · skip
      refine wp_skip ?_
      refine k_n ?_
      refine wp_seq ?_
      refine wp_region_lit ?_
      refine wl_v hF rfl rfl rfl (q_move rfl (hF.eval rfl)) fun a hF => ?_
      refine wl_v hF rfl rfl rfl (q_lenRd hR Try.underlying37 rfl (hF.eval rfl)) fun a hF => ?_
      refine wl_v hF rfl rfl rfl (q_max rfl (hF.eval rfl) (hF.eval rfl)) fun a hF => ?_
      refine wl_v hF rfl rfl rfl (q_add rfl (hF.eval rfl) (hF.eval rfl) (by omega)) fun a hF => ?_
      refine wl_v hF rfl rfl rfl (q_assign rfl (hF.eval rfl)) fun a hF => ?_
      refine wl_nil ?_
      refine k_n ?_
      refine wp_seq ?_
      refine wp_seq ?_
      have hO := hO.drew
      refine wp_region_D [0, 0, 0, 0, 1, 0, 0, 0, 1, 0, 0] (fun w => St _ _ w _) Try_mixed (by kernel_rfl) hO ?_
      refine wd_p hF rfl rfl rfl (fun w => q_move rfl (hF.eval rfl)) fun a hF => ?_
      refine wd_p hF rfl rfl rfl (fun w => q_move rfl (hF.eval rfl)) fun a hF => ?_
      refine wd_p hF rfl rfl rfl (fun w => q_nilCheck rfl (hF.eval rfl)) fun a hF => ?_
      refine wd_p hF rfl rfl rfl (fun w => q_fieldAddr (d := 2) Try.underlying74 rfl (hF.eval rfl) rfl Try.sizeOf3 (by decide) rfl) fun a hF => ?_
      refine wd_r hF rfl rfl rfl (fun w hO => q_load Try.isAgg3 rfl (hF.eval rfl) (hO.cell 0 rfl rfl)) fun a hF => ?_
      refine wd_p hF rfl rfl rfl (fun w => q_move rfl (hF.eval rfl)) fun a hF => ?_
      refine wd_p hF rfl rfl rfl (fun w => q_nilCheck rfl (hF.eval rfl)) fun a hF => ?_
      refine wd_p hF rfl rfl rfl (fun w => q_fieldAddr (d := 1) Try.underlying74 rfl (hF.eval rfl) rfl Try.sizeOf3 (by decide) rfl) fun a hF => ?_
      refine wd_r hF rfl rfl rfl (fun w hO => q_load Try.isAgg3 rfl (hF.eval rfl) (hO.cell 0 rfl rfl)) fun a hF => ?_
      refine wd_p hF rfl rfl rfl (fun w => q_sub rfl (hF.eval rfl) (hF.eval rfl) (by omega)) fun a hF => ?_
      refine wd_p hF rfl rfl rfl (fun w => q_gt rfl (hF.eval rfl) (hF.eval rfl)) fun a hF => ?_
      refine wd_nil ?_
      refine k_n ?_
      refine wp_ifD hF rfl rfl (fun hc3 => ?_) (fun hc3 => ?_)
      · skip
        refine wp_seq ?_
        refine wp_region_lit ?_
        refine wl_v hF rfl rfl rfl (q_assign rfl (hF.eval rfl)) fun a hF => ?_
        refine wl_v hF rfl rfl rfl (q_assign rfl (hF.eval rfl)) fun a hF => ?_
        refine wl_nil ?_
        refine k_n ?_
        refine wp_ret ?_
        refine k_r ?_
        refine r_2 hF rfl rfl rfl ?_
        have hO : St _ _ _ [_, _, _, _] := hO
        exact ⟨_, (0, 180), h, lay_3 (k := 1) hc1 hc2 hc3, rfl, hO⟩
      · skip
        have hfit : ¬ h.a.end_ - h.a.next < takesF fs := hc3
        have hl4 := lay_4 (k := 1) hc1 hc2 hc3
        refine wp_skip ?_
        refine k_n ?_
        refine wp_seq ?_
        refine wp_region_lit ?_
        refine wl_v hF rfl rfl rfl (q_move rfl (hF.eval rfl)) fun a hF => ?_
        refine wl_v hF rfl rfl rfl (q_nilCheck rfl (hF.eval rfl)) fun a hF => ?_
        refine wl_v hF rfl rfl rfl (q_fieldAddr (d := 1) Try.underlying74 rfl (hF.eval rfl) rfl Try.sizeOf3 (by decide) rfl) fun a hF => ?_
        refine wl_v hF rfl rfl rfl (q_load Try.isAgg3 rfl (hF.eval rfl) (hO.cell 0 rfl rfl)) fun a hF => ?_
        refine wl_v hF rfl rfl rfl (q_assign rfl (hF.eval rfl)) fun a hF => ?_
        refine wl_nil ?_
        refine k_n ?_
        refine wp_seq ?_
        refine wp_region_lit ?_
        refine wl_v hF rfl rfl rfl (q_move rfl (hF.eval rfl)) fun a hF => ?_
        refine wl_v hF rfl rfl rfl (q_nilCheck rfl (hF.eval rfl)) fun a hF => ?_
        refine wl_v hF rfl rfl rfl (q_fieldAddr (d := 1) Try.underlying74 rfl (hF.eval rfl) rfl Try.sizeOf3 (by decide) rfl) fun a hF => ?_
        refine wl_v hF rfl rfl rfl (q_load Try.isAgg3 rfl (hF.eval rfl) (hO.cell 0 rfl rfl)) fun a hF => ?_
        refine wl_v hF rfl rfl rfl (q_move rfl (hF.eval rfl)) fun a hF => ?_
        refine wl_v hF rfl rfl rfl (q_add rfl (hF.eval rfl) (hF.eval rfl) (by omega)) fun a hF => ?_
        refine wl_v hF rfl rfl rfl (q_nilCheck rfl (hF.eval rfl)) fun a hF => ?_
        refine wl_v hF rfl rfl rfl (q_fieldAddr (d := 1) Try.underlying74 rfl (hF.eval rfl) rfl Try.sizeOf3 (by decide) rfl) fun a hF => ?_
        refine wl_s hF rfl rfl (e_store1 hO (i := 0) rfl Try.sizeOf3 rfl (hF.eval rfl) (hF.eval rfl) rfl rfl rfl) ?_
        rintro a _ w ⟨-, hO⟩ hF
        have hO : St _ _ _ [_, _, _, _] := hO
        replace hO : St _ _ _ [.ob bh 77 (hpC vw vh vr (h.setN 1 (h.a.next + takesF fs))), _, _, _] := hO
        refine wl_nil ?_
        refine k_n ?_
        refine wp_seq ?_
        refine wp_region_lit ?_
        refine wl_v hF rfl rfl rfl (q_move rfl (hF.eval rfl)) fun a hF => ?_
        refine wl_v hF rfl rfl rfl (q_nilCheck rfl (hF.eval rfl)) fun a hF => ?_
        refine wl_v hF rfl rfl rfl (q_fieldAddr0 (d := 1) Try.underlying77 rfl (hF.eval rfl) rfl Try.sizeOf72 (by decide) rfl) fun a hF => ?_
        refine wl_v hF rfl rfl rfl (q_load Try.isAgg72 rfl (hF.eval rfl) (hO.cell 0 rfl rfl)) fun a hF => ?_
        refine wl_v hF rfl rfl rfl (q_move rfl (hF.eval rfl)) fun a hF => ?_
        refine wl_v hF rfl rfl rfl (q_move rfl (hF.eval rfl)) fun a hF => ?_
        refine wl_v hF rfl rfl rfl (q_move rfl (hF.eval rfl)) fun a hF => ?_
        refine wl_v hF rfl rfl rfl (q_move rfl (hF.eval rfl)) fun a hF => ?_
        refine wl_v hF rfl rfl rfl (q_lenRd hR Try.underlying37 rfl (hF.eval rfl)) fun a hF => ?_
        refine wl_v hF rfl rfl rfl (q_move rfl (hF.eval rfl)) fun a hF => ?_
        refine wl_v hF rfl rfl rfl (c_build hF Try.underlying84 Try.zeroValue84 Try_places84 rfl rfl rfl rfl) fun a hF => ?_
        refine wl_v hF rfl rfl rfl (q_at (i := h.a.next.toNat) (hO.rd 2 rfl) Try.underlying72 Try.sizeOf84 rfl (hF.eval rfl) ((hF.eval rfl).trans (congrArg i64 ((Int.toNat_of_nonneg (by omega)).symm))) (by omega)) fun a hF => ?_
        refine wl_s hF rfl rfl (e_storeElT (m := h.a.next.toNat) (off := 0) (q := ⟨kind, info, fs.length, takesF fs, false⟩) hO (i := 2) rfl Try.sizeOf84 rfl (hF.eval rfl) rfl (hF.eval rfl) rfl (get_D (d := hd0) (by omega)) rfl (Nat.le_of_ble_eq_true rfl) rfl (all1 rfl)) ?_
        rintro a _ w ⟨-, hO⟩ hF
        have hO : St _ _ _ [_, _, _, _] := hO
        refine wl_nil ?_
        refine k_n ?_
        refine wp_seq ?_
        refine wp_region_lit ?_
        refine wl_v hF rfl rfl rfl (q_move rfl (hF.eval rfl)) fun a hF => ?_
        refine wl_v hF rfl rfl rfl (q_nilCheck rfl (hF.eval rfl)) fun a hF => ?_
        refine wl_v hF rfl rfl rfl (q_fieldAddr0 (d := 0) Try.underlying77 rfl (hF.eval rfl) rfl Try.sizeOf37 (by decide) rfl) fun a hF => ?_
        refine wl_v hF rfl rfl rfl (q_load Try.isAgg37 rfl (hF.eval rfl) (hO.cell 0 rfl rfl)) fun a hF => ?_
        refine wl_v hF rfl rfl rfl (q_move rfl (hF.eval rfl)) fun a hF => ?_
        refine wl_v hF rfl rfl rfl (q_add rfl (hF.eval rfl) (hF.eval rfl) (by omega)) fun a hF => ?_
        refine wl_v hF rfl rfl rfl (q_drop (j := (h.a.next.toNat + 1)) (hO.rd 1 rfl) Try.underlying37 Try.sizeOf27 rfl (hF.eval rfl) ((hF.eval rfl).trans (congrArg i64 (show h.a.next + 1 = ((h.a.next.toNat + 1 : Nat) : Int) by omega))) (by omega)) fun a hF => ?_
        refine wl_v hF rfl rfl rfl (q_move rfl (hF.eval rfl)) fun a hF => ?_
        refine wl_e hF rfl rfl rfl (e_copyT (k := (h.a.next.toNat + 1)) hO (i := 1) rfl (hR.now hO) Try.underlying37 Try.sizeOf27 rfl (hF.eval rfl) (hF.eval rfl) (by omega) rfl) ?_
        rintro a v95 w hO hF
        have hO : St _ _ _ [_, _, _, _] := hO
        replace hO : St _ _ _ [.ob bh 77 (hpC vw vh vr (laidH h 1 kind info fs)), slT vw 27 wordE (laidH h 1 kind info fs).words, slT vh 84 headE (laidH h 1 kind info fs).heads, slT vr 3 intE (laidH h 1 kind info fs).rem] := hO
        refine wl_nil ?_
        refine k_n ?_
        refine wp_seq ?_
        refine wp_seq ?_
        refine wp_region_lit ?_
        refine wl_v hF rfl rfl rfl (q_move rfl (hF.eval rfl)) fun a hF => ?_
        refine wl_v hF rfl rfl rfl (q_lenRd hR Try.underlying37 rfl (hF.eval rfl)) fun a hF => ?_
        refine wl_v hF rfl rfl rfl (q_move rfl (hF.eval rfl)) fun a hF => ?_
        refine wl_nil ?_
        refine k_n ?_
        refine wp_block ?_
        have hO : St _ _ _ [_, _, _, _] := hO
        refine wp_loopS (fun (q : Nat × Value) a w' => match q with | (j, vr2) => (j ≤ fs.length) ∧ St w0 (blks [.ob bh 77 (hpC vw vh vr h), slT vw 27 wordE h.words, slT vh 84 headE h.heads, slT vr 3 intE h.rem]) w' [.ob bh 77 (hpC vw vh vr2 (notesF (laidH h 1 kind info fs) h.a.next (fs.take j))), slT vw 27 wordE (notesF (laidH h 1 kind info fs) h.a.next (fs.take j)).words, slT vh 84 headE (notesF (laidH h 1 kind info fs) h.a.next (fs.take j)).heads, slT vr2 3 intE (notesF (laidH h 1 kind info fs) h.a.next (fs.take j)).rem] ∧ Fr a 108 [(0, ptr (adr bh)), (13, i64 h.a.next), (96, vf), (97, i64 fs.length), (98, i64 j)]) (fun (q : Nat × Value) => match q with | (j, vr2) => fs.length - j) (0, vr) ⟨by omega, hO, hF.sub ⟨rfl, rfl, rfl, rfl, rfl, trivial⟩⟩ ?_
        rintro ⟨j, vr2⟩ a w ⟨hj, hO, hF⟩
        obtain ⟨hnl, _, _, _, _, _, hnr⟩ := notes_len h.a.next (fs.take j) (laidH h 1 kind info fs)
        obtain ⟨e1, e2⟩ := laid_len h 1 kind info fs
        rw [e1] at hnl
        rw [e2, List.length_take] at hnr
        refine wp_seq ?_
        refine wp_region_lit ?_
        refine wl_v hF rfl rfl rfl (q_lt rfl (hF.eval rfl) (hF.eval rfl)) fun a hF => ?_
        refine wl_nil ?_
        refine k_n ?_
        refine wp_seq ?_
        refine wp_ifD hF rfl rfl (fun hc4 => ?_) (fun hc4 => ?_)
        · skip
          refine wp_skip ?_
          refine k_n ?_
          refine wp_seq ?_
          refine wp_block ?_
          refine wp_seq ?_
          refine wp_region_lit ?_
          obtain ⟨x, hx⟩ := get_ex (l := fs) (i := j) (by omega)
          refine wl_v hF rfl rfl rfl (q_at (i := j) hR Try.underlying37 Try.sizeOf27 rfl (hF.eval rfl) (hF.eval rfl) (by omega)) fun a hF => ?_
          refine wl_v hF rfl rfl rfl (q_loadAgg Try.isAgg27 Try.sizeOf27 rfl (hF.eval rfl) (RdT.cells (hR.now hO) hx) rfl) fun a hF => ?_
          refine wl_e hF rfl rfl rfl (e_alloc hO Try.zeroValue27 rfl rfl) ?_
          rintro a _ w ⟨tk, rfl, hO⟩ hF
          refine wl_s hF rfl rfl (e_storeAll hO (i := 0) rfl Try.sizeOf27 rfl (hF.eval rfl) (hF.eval rfl) rfl rfl) ?_
          rintro a _ w ⟨-, hO⟩ hF
          have hO : St _ _ _ [_, _, _, _, _] := hO
          refine wl_nil ?_
          refine k_n ?_
          refine wp_region_lit ?_
          refine wl_v hF rfl rfl rfl (q_move rfl (hF.eval rfl)) fun a hF => ?_
          refine wl_v hF rfl rfl rfl (q_move rfl (hF.eval rfl)) fun a hF => ?_
          refine wl_v hF rfl rfl rfl (q_loadAgg Try.isAgg27 Try.sizeOf27 rfl (hF.eval rfl) (hO.cells 0 rfl) rfl) fun a hF => ?_
          have hO := hO.pull 4 rfl
          have hO := hO.pull 4 rfl
          have hO := hO.pull 4 rfl
          have hO := hO.pull 4 rfl
          have hO : St _ _ _ [_, _, _, _, _] := hO
          refine wl_e hF rfl rfl rfl (c_call hF rfl rfl Try.call55 (note_r _ _ _ _ _ _ hO.own4 (Wf.notes _ (hw.laid (k := 1) (by decide) hfit) (by omega) (by rw [(laid_len h 1 kind info fs).1]; show h.a.next < _; omega)) (by omega) _ ⟨by omega, by rw [hnl]; show h.a.next < _; omega⟩ _)) ?_
          rintro a _ w ⟨vr2, rfl, hS⟩ hF
          have hO := hO.call4 hS
          have hO : St _ _ _ [_, _, _, _, _] := hO
          refine wl_nil ?_
          refine b_n ?_
          refine k_n ?_
          refine wp_region_lit ?_
          refine wl_v hF rfl rfl rfl (q_add rfl (hF.eval rfl) (hF.eval rfl) (by omega)) fun a hF => ?_
          refine wl_v hF rfl rfl rfl (q_move rfl (hF.eval rfl)) fun a hF => ?_
          refine wl_nil ?_
          refine k_n ?_
          have hO := hO.drop1 4
          have hO : St _ _ _ [_, _, _, _] := hO
          rw [← notes_on, ← takeAt hx] at hO
          exact ⟨(j + 1, _), ⟨by omega, hO, hF.sub ⟨rfl, rfl, rfl, rfl, rfl, trivial⟩⟩, by dsimp only; omega⟩
        · skip
          refine wp_exit ?_
          refine k_x ?_
          refine k_x ?_
          refine b_x ?_
          refine k_n ?_
          refine wp_seq ?_
          refine wp_region_lit ?_
          refine wl_v hF rfl rfl rfl (q_move rfl (hF.eval rfl)) fun a hF => ?_
          refine wl_v hF rfl rfl rfl (q_assign rfl (hF.eval rfl)) fun a hF => ?_
          refine wl_v hF rfl rfl rfl (q_assign rfl (hF.eval rfl)) fun a hF => ?_
          refine wl_nil ?_
          refine k_n ?_
          refine wp_ret ?_
          refine r_2 hF rfl rfl rfl ?_
          have hO : St _ _ _ [_, _, _, _] := hO
          obtain rfl : j = fs.length := by omega
          rw [List.take_length] at hO
          exact ⟨_, _, _, hl4, rfl, hO⟩

set_option maxHeartbeats 2000000 in
theorem lay2_r (w0 : World) (bh : Nat) (vw vh vr : Value) (h : Hp) (hA : Owns w0 [.ob bh 77 (hpC vw vh vr h), slT vw 27 wordE h.words, slT vh 84 headE h.heads, slT vr 3 intE h.rem]) (hw : Wf h) (hrl : h.rem.length ≤ 100000000000) (kind info : Int) (vf : Value) (fs : List Wd) (hR : RdT w0 (blks [.ob bh 77 (hpC vw vh vr h), slT vw 27 wordE h.words, slT vh 84 headE h.heads, slT vr 3 intE h.rem]) vf wordE fs) : Ret Try.prog 52 #[ptr (adr bh), ptr ((adr bh).add 8), i64 kind, i64 info, vf] w0 (fun v w' => ∃ vr2 r h2, layH h 2 kind info fs = (r, h2) ∧ v = .tuple #[i64 r.1, i64 r.2] ∧ St w0 (blks [.ob bh 77 (hpC vw vh vr h), slT vw 27 wordE h.words, slT vh 84 headE h.heads, slT vr 3 intE h.rem]) w' [.ob bh 77 (hpC vw vh vr2 h2), slT vw 27 wordE h2.words, slT vh 84 headE h2.heads, slT vr2 3 intE h2.rem]) := by
  have hO := St.init hA
  have hle := hw.le
  have hlen := hw.len
  obtain ⟨r1, r2, r3, r4⟩ := hw.b
  have hnf := RdT.lenle hR
  obtain ⟨t1, t2, t3⟩ := takes_ge fs
  have etk : takesF fs = 1 + max 1 (fs.length : Int) := rfl
  refine ret_of (m := 108) Try.func52 rfl Try.ntmps52 [(0, ptr (adr bh)), (1, ptr ((adr bh).add 8)), (2, i64 kind), (3, i64 info), (4, vf)] rfl ⟨rfl, rfl, rfl, rfl, rfl, trivial⟩ fun a hF => ?_
  refine wp_seq ?_
  refine wp_region_lit ?_
  refine wl_v hF rfl rfl rfl (q_assign rfl (hF.eval rfl)) fun a hF => ?_
  refine wl_v hF rfl rfl rfl (q_assign rfl (hF.eval rfl)) fun a hF => ?_
  refine wl_nil ?_
  refine k_n ?_
  refine wp_seq ?_
  refine wp_seq ?_
  refine wp_region_lit ?_
  refine wl_v hF rfl rfl rfl (q_move rfl (hF.eval rfl)) fun a hF => ?_
  refine wl_v hF rfl rfl rfl (q_lt rfl (hF.eval rfl) (hF.eval rfl)) fun a hF => ?_
  refine wl_v hF rfl rfl rfl (q_move rfl (hF.eval rfl)) fun a hF => ?_
  refine wl_g hF rfl rfl rfl rfl rfl rfl (fun hg => q_move rfl (hF.eval rfl)) fun a hF => ?_
  refine wl_g hF rfl rfl rfl rfl rfl rfl (fun hg => q_gt rfl ((hF.eval rfl).trans (gv_of hg)) (hF.eval rfl)) fun a hF => ?_
  refine wl_v hF rfl rfl rfl (q_or rfl (hF.eval rfl) rfl (fun hg2 => ((hF.eval rfl).trans (gv_of hg2))) rfl) fun a hF => ?_
  refine wl_v hF rfl rfl rfl (q_move rfl (hF.eval rfl)) fun a hF => ?_
  refine wl_g hF rfl rfl rfl rfl rfl rfl (fun hg => q_move rfl (hF.eval rfl)) fun a hF => ?_
  refine wl_g hF rfl rfl rfl rfl rfl rfl (fun hg => q_lt rfl ((hF.eval rfl).trans (gv_of hg)) (hF.eval rfl)) fun a hF => ?_
  refine wl_v hF rfl rfl rfl (q_or rfl (hF.eval rfl) rfl (fun hg2 => ((hF.eval rfl).trans (gv_of hg2))) rfl) fun a hF => ?_
  refine wl_v hF rfl rfl rfl (q_move rfl (hF.eval rfl)) fun a hF => ?_
  refine wl_g hF rfl rfl rfl rfl rfl rfl (fun hg => q_move rfl (hF.eval rfl)) fun a hF => ?_
  refine wl_g hF rfl rfl rfl rfl rfl rfl (fun hg => q_gt rfl ((hF.eval rfl).trans (gv_of hg)) (hF.eval rfl)) fun a hF => ?_
  refine wl_v hF rfl rfl rfl (q_or rfl (hF.eval rfl) rfl (fun hg2 => ((hF.eval rfl).trans (gv_of hg2))) rfl) fun a hF => ?_
  refine wl_v hF rfl rfl rfl (q_move rfl (hF.eval rfl)) fun a hF => ?_
  refine wl_g hF rfl rfl rfl rfl rfl rfl (fun hg => q_move rfl (hF.eval rfl)) fun a hF => ?_
  refine wl_g hF rfl rfl rfl rfl rfl rfl (fun hg => q_lenRd hR Try.underlying37 rfl ((hF.eval rfl).trans (gv_of hg))) fun a hF => ?_
  refine wl_g hF rfl rfl rfl rfl rfl rfl (fun hg => q_gt rfl ((hF.eval rfl).trans (gv_of hg)) (hF.eval rfl)) fun a hF => ?_
  refine wl_v hF rfl rfl rfl (q_or rfl (hF.eval rfl) rfl (fun hg2 => ((hF.eval rfl).trans (gv_of hg2))) rfl) fun a hF => ?_
  refine wl_v hF rfl rfl rfl (q_move rfl (hF.eval rfl)) fun a hF => ?_
  refine wl_g hF rfl rfl rfl rfl rfl rfl (fun hg => q_move rfl (hF.eval rfl)) fun a hF => ?_
  refine wl_g hF rfl rfl rfl rfl rfl rfl (fun hg => q_eq rfl ((hF.eval rfl).trans (gv_of hg)) (hF.eval rfl)) fun a hF => ?_
  refine wl_g hF rfl rfl rfl rfl rfl rfl (fun hg => q_move rfl ((hF.eval rfl).trans (gv_of hg))) fun a hF => ?_
  refine wl_g hF rfl rfl rfl rfl rfl rfl (fun hg => q_move rfl (hF.eval rfl)) fun a hF => ?_
  refine wl_g hF rfl rfl rfl rfl rfl rfl (fun hg => q_lenRd hR Try.underlying37 rfl ((hF.eval rfl).trans (gv_of hg))) fun a hF => ?_
  refine wl_g hF rfl rfl rfl rfl rfl rfl (fun hg => q_ne rfl ((hF.eval rfl).trans (gv_of hg)) (hF.eval rfl)) fun a hF => ?_
  refine wl_g hF rfl rfl rfl rfl rfl rfl (fun hg => q_and rfl ((hF.eval rfl).trans (gv_of hg)) rfl (fun hg2 => ((hF.eval rfl).trans (gv_of2 hg hg2))) rfl) fun a hF => ?_
  refine wl_v hF rfl rfl rfl (q_or rfl (hF.eval rfl) rfl (fun hg2 => ((hF.eval rfl).trans (gv_of hg2))) rfl) fun a hF => ?_
  refine wl_nil ?_
  refine k_n ?_
  refine wp_ifD hF rfl rfl (fun hc1 => ?_) (fun hc1 => ?_)
  · skip
    refine wp_seq ?_
    refine wp_region_lit ?_
    refine wl_v hF rfl rfl rfl (q_assign rfl (hF.eval rfl)) fun a hF => ?_
    refine wl_v hF rfl rfl rfl (q_assign rfl (hF.eval rfl)) fun a hF => ?_
    refine wl_nil ?_
    refine k_n ?_
    refine wp_ret ?_
    refine k_r ?_
    refine r_2 hF rfl rfl rfl ?_
    have hO : St _ _ _ [_, _, _, _] := hO
    exact ⟨_, (0, 1), h, lay_1 hc1, rfl, hO⟩
  · skip
    have hfl : fs.length ≤ 1000 := by have := (not_or.1 (not_or.1 hc1).1).2; omega
    refine wp_skip ?_
    refine k_n ?_
    refine wp_seq ?_
    refine wp_seq ?_
    refine wp_region_lit ?_
    refine wl_v hF rfl rfl rfl (q_move rfl (hF.eval rfl)) fun a hF => ?_
    refine wl_v hF rfl rfl rfl (q_move rfl (hF.eval rfl)) fun a hF => ?_
    refine wl_e hF rfl rfl rfl (c_call hF rfl rfl Try.call54 (hreal_r _ _ _ _ _ _ (hO.hr 0 1 2 3 rfl rfl rfl rfl) _ _ (hR.at0 hO))) ?_
    rintro a _ w ⟨rfl, hS⟩ hF
    have hO := hO.call0 hS
    have hO : St _ _ _ [_, _, _, _] := hO
    refine wl_v hF rfl rfl rfl (q_not rfl (hF.eval rfl) (dec_b _)) fun a hF => ?_
    refine wl_nil ?_
    refine k_n ?_
    refine wp_ifD hF rfl rfl (fun hc2 => ?_) (fun hc2 => ?_)
    · skip
      refine wp_seq ?_
      refine wp_region_lit ?_
      refine wl_v hF rfl rfl rfl (q_assign rfl (hF.eval rfl)) fun a hF => ?_
      refine wl_v hF rfl rfl rfl (q_assign rfl (hF.eval rfl)) fun a hF => ?_
      refine wl_nil ?_
      refine k_n ?_
      refine wp_ret ?_
      refine k_r ?_
      refine r_2 hF rfl rfl rfl ?_
      have hO : St _ _ _ [_, _, _, _] := hO
      exact ⟨_, (0, 181), h, lay_2 hc1 hc2, rfl, hO⟩
    · skip
      refine wp_skip ?_
      refine k_n ?_
      refine wp_seq ?_
      refine wp_region_lit ?_
      refine wl_v hF rfl rfl rfl (q_move rfl (hF.eval rfl)) fun a hF => ?_
      refine wl_v hF rfl rfl rfl (q_lenRd hR Try.underlying37 rfl (hF.eval rfl)) fun a hF => ?_
      refine wl_v hF rfl rfl rfl (q_max rfl (hF.eval rfl) (hF.eval rfl)) fun a hF => ?_
      refine wl_v hF rfl rfl rfl (q_add rfl (hF.eval rfl) (hF.eval rfl) (by omega)) fun a hF => ?_
      refine wl_v hF rfl rfl rfl (q_assign rfl (hF.eval rfl)) fun a hF => ?_
      refine wl_nil ?_
      refine k_n ?_
      refine wp_seq ?_
      refine wp_seq ?_
      have hO := hO.drew
      refine wp_region_D [0, 0, 0, 0, 1, 0, 0, 0, 1, 0, 0] (fun w => St _ _ w _) Try_mixed (by kernel_rfl) hO ?_
      refine wd_p hF rfl rfl rfl (fun w => q_move rfl (hF.eval rfl)) fun a hF => ?_
      refine wd_p hF rfl rfl rfl (fun w => q_move rfl (hF.eval rfl)) fun a hF => ?_
      refine wd_p hF rfl rfl rfl (fun w => q_nilCheck rfl (hF.eval rfl)) fun a hF => ?_
      refine wd_p hF rfl rfl rfl (fun w => q_fieldAddr (d := 2) Try.underlying74 rfl (hF.eval rfl) rfl Try.sizeOf3 (by decide) rfl) fun a hF => ?_
      refine wd_r hF rfl rfl rfl (fun w hO => q_load Try.isAgg3 rfl (hF.eval rfl) (hO.cell 0 rfl rfl)) fun a hF => ?_
      refine wd_p hF rfl rfl rfl (fun w => q_move rfl (hF.eval rfl)) fun a hF => ?_
      refine wd_p hF rfl rfl rfl (fun w => q_nilCheck rfl (hF.eval rfl)) fun a hF => ?_
      refine wd_p hF rfl rfl rfl (fun w => q_fieldAddr (d := 1) Try.underlying74 rfl (hF.eval rfl) rfl Try.sizeOf3 (by decide) rfl) fun a hF => ?_
      refine wd_r hF rfl rfl rfl (fun w hO => q_load Try.isAgg3 rfl (hF.eval rfl) (hO.cell 0 rfl rfl)) fun a hF => ?_
      refine wd_p hF rfl rfl rfl (fun w => q_sub rfl (hF.eval rfl) (hF.eval rfl) (by omega)) fun a hF => ?_
      refine wd_p hF rfl rfl rfl (fun w => q_gt rfl (hF.eval rfl) (hF.eval rfl)) fun a hF => ?_
      refine wd_nil ?_
      refine k_n ?_
      refine wp_ifD hF rfl rfl (fun hc3 => ?_) (fun hc3 => ?_)
      · skip
        refine wp_seq ?_
        refine wp_region_lit ?_
        refine wl_v hF rfl rfl rfl (q_assign rfl (hF.eval rfl)) fun a hF => ?_
        refine wl_v hF rfl rfl rfl (q_assign rfl (hF.eval rfl)) fun a hF => ?_
        refine wl_nil ?_
        refine k_n ?_
        refine wp_ret ?_
        refine k_r ?_
        refine r_2 hF rfl rfl rfl ?_
        have hO : St _ _ _ [_, _, _, _] := hO
        exact ⟨_, (0, 180), h, lay_3 (k := 2) hc1 hc2 hc3, rfl, hO⟩
      · skip
        have hfit : ¬ h.b.end_ - h.b.next < takesF fs := hc3
        have hl4 := lay_4 (k := 2) hc1 hc2 hc3
        refine wp_skip ?_
        refine k_n ?_
        refine wp_seq ?_
        refine wp_region_lit ?_
        refine wl_v hF rfl rfl rfl (q_move rfl (hF.eval rfl)) fun a hF => ?_
        refine wl_v hF rfl rfl rfl (q_nilCheck rfl (hF.eval rfl)) fun a hF => ?_
        refine wl_v hF rfl rfl rfl (q_fieldAddr (d := 1) Try.underlying74 rfl (hF.eval rfl) rfl Try.sizeOf3 (by decide) rfl) fun a hF => ?_
        refine wl_v hF rfl rfl rfl (q_load Try.isAgg3 rfl (hF.eval rfl) (hO.cell 0 rfl rfl)) fun a hF => ?_
        refine wl_v hF rfl rfl rfl (q_assign rfl (hF.eval rfl)) fun a hF => ?_
        refine wl_nil ?_
        refine k_n ?_
        refine wp_seq ?_
        refine wp_region_lit ?_
        refine wl_v hF rfl rfl rfl (q_move rfl (hF.eval rfl)) fun a hF => ?_
        refine wl_v hF rfl rfl rfl (q_nilCheck rfl (hF.eval rfl)) fun a hF => ?_
        refine wl_v hF rfl rfl rfl (q_fieldAddr (d := 1) Try.underlying74 rfl (hF.eval rfl) rfl Try.sizeOf3 (by decide) rfl) fun a hF => ?_
        refine wl_v hF rfl rfl rfl (q_load Try.isAgg3 rfl (hF.eval rfl) (hO.cell 0 rfl rfl)) fun a hF => ?_
        refine wl_v hF rfl rfl rfl (q_move rfl (hF.eval rfl)) fun a hF => ?_
        refine wl_v hF rfl rfl rfl (q_add rfl (hF.eval rfl) (hF.eval rfl) (by omega)) fun a hF => ?_
        refine wl_v hF rfl rfl rfl (q_nilCheck rfl (hF.eval rfl)) fun a hF => ?_
        refine wl_v hF rfl rfl rfl (q_fieldAddr (d := 1) Try.underlying74 rfl (hF.eval rfl) rfl Try.sizeOf3 (by decide) rfl) fun a hF => ?_
        refine wl_s hF rfl rfl (e_store1 hO (i := 0) rfl Try.sizeOf3 rfl (hF.eval rfl) (hF.eval rfl) rfl rfl rfl) ?_
        rintro a _ w ⟨-, hO⟩ hF
        have hO : St _ _ _ [_, _, _, _] := hO
        replace hO : St _ _ _ [.ob bh 77 (hpC vw vh vr (h.setN 2 (h.b.next + takesF fs))), _, _, _] := hO
        refine wl_nil ?_
        refine k_n ?_
        refine wp_seq ?_
        refine wp_region_lit ?_
        refine wl_v hF rfl rfl rfl (q_move rfl (hF.eval rfl)) fun a hF => ?_
        refine wl_v hF rfl rfl rfl (q_nilCheck rfl (hF.eval rfl)) fun a hF => ?_
        refine wl_v hF rfl rfl rfl (q_fieldAddr0 (d := 1) Try.underlying77 rfl (hF.eval rfl) rfl Try.sizeOf72 (by decide) rfl) fun a hF => ?_
        refine wl_v hF rfl rfl rfl (q_load Try.isAgg72 rfl (hF.eval rfl) (hO.cell 0 rfl rfl)) fun a hF => ?_
        refine wl_v hF rfl rfl rfl (q_move rfl (hF.eval rfl)) fun a hF => ?_
        refine wl_v hF rfl rfl rfl (q_move rfl (hF.eval rfl)) fun a hF => ?_
        refine wl_v hF rfl rfl rfl (q_move rfl (hF.eval rfl)) fun a hF => ?_
        refine wl_v hF rfl rfl rfl (q_move rfl (hF.eval rfl)) fun a hF => ?_
        refine wl_v hF rfl rfl rfl (q_lenRd hR Try.underlying37 rfl (hF.eval rfl)) fun a hF => ?_
        refine wl_v hF rfl rfl rfl (q_move rfl (hF.eval rfl)) fun a hF => ?_
        refine wl_v hF rfl rfl rfl (c_build hF Try.underlying84 Try.zeroValue84 Try_places84 rfl rfl rfl rfl) fun a hF => ?_
        refine wl_v hF rfl rfl rfl (q_at (i := h.b.next.toNat) (hO.rd 2 rfl) Try.underlying72 Try.sizeOf84 rfl (hF.eval rfl) ((hF.eval rfl).trans (congrArg i64 ((Int.toNat_of_nonneg (by omega)).symm))) (by omega)) fun a hF => ?_
        refine wl_s hF rfl rfl (e_storeElT (m := h.b.next.toNat) (off := 0) (q := ⟨kind, info, fs.length, takesF fs, false⟩) hO (i := 2) rfl Try.sizeOf84 rfl (hF.eval rfl) rfl (hF.eval rfl) rfl (get_D (d := hd0) (by omega)) rfl (Nat.le_of_ble_eq_true rfl) rfl (all1 rfl)) ?_
        rintro a _ w ⟨-, hO⟩ hF
        have hO : St _ _ _ [_, _, _, _] := hO
        refine wl_nil ?_
        refine k_n ?_
        refine wp_seq ?_
        refine wp_region_lit ?_
        refine wl_v hF rfl rfl rfl (q_move rfl (hF.eval rfl)) fun a hF => ?_
        refine wl_v hF rfl rfl rfl (q_nilCheck rfl (hF.eval rfl)) fun a hF => ?_
        refine wl_v hF rfl rfl rfl (q_fieldAddr0 (d := 0) Try.underlying77 rfl (hF.eval rfl) rfl Try.sizeOf37 (by decide) rfl) fun a hF => ?_
        refine wl_v hF rfl rfl rfl (q_load Try.isAgg37 rfl (hF.eval rfl) (hO.cell 0 rfl rfl)) fun a hF => ?_
        refine wl_v hF rfl rfl rfl (q_move rfl (hF.eval rfl)) fun a hF => ?_
        refine wl_v hF rfl rfl rfl (q_add rfl (hF.eval rfl) (hF.eval rfl) (by omega)) fun a hF => ?_
        refine wl_v hF rfl rfl rfl (q_drop (j := (h.b.next.toNat + 1)) (hO.rd 1 rfl) Try.underlying37 Try.sizeOf27 rfl (hF.eval rfl) ((hF.eval rfl).trans (congrArg i64 (show h.b.next + 1 = ((h.b.next.toNat + 1 : Nat) : Int) by omega))) (by omega)) fun a hF => ?_
        refine wl_v hF rfl rfl rfl (q_move rfl (hF.eval rfl)) fun a hF => ?_
        refine wl_e hF rfl rfl rfl (e_copyT (k := (h.b.next.toNat + 1)) hO (i := 1) rfl (hR.now hO) Try.underlying37 Try.sizeOf27 rfl (hF.eval rfl) (hF.eval rfl) (by omega) rfl) ?_
        rintro a v95 w hO hF
        have hO : St _ _ _ [_, _, _, _] := hO
        replace hO : St _ _ _ [.ob bh 77 (hpC vw vh vr (laidH h 2 kind info fs)), slT vw 27 wordE (laidH h 2 kind info fs).words, slT vh 84 headE (laidH h 2 kind info fs).heads, slT vr 3 intE (laidH h 2 kind info fs).rem] := hO
        refine wl_nil ?_
        refine k_n ?_
        refine wp_seq ?_
        refine wp_seq ?_
        refine wp_region_lit ?_
        refine wl_v hF rfl rfl rfl (q_move rfl (hF.eval rfl)) fun a hF => ?_
        refine wl_v hF rfl rfl rfl (q_lenRd hR Try.underlying37 rfl (hF.eval rfl)) fun a hF => ?_
        refine wl_v hF rfl rfl rfl (q_move rfl (hF.eval rfl)) fun a hF => ?_
        refine wl_nil ?_
        refine k_n ?_
        refine wp_block ?_
        have hO : St _ _ _ [_, _, _, _] := hO
        refine wp_loopS (fun (q : Nat × Value) a w' => match q with | (j, vr2) => (j ≤ fs.length) ∧ St w0 (blks [.ob bh 77 (hpC vw vh vr h), slT vw 27 wordE h.words, slT vh 84 headE h.heads, slT vr 3 intE h.rem]) w' [.ob bh 77 (hpC vw vh vr2 (notesF (laidH h 2 kind info fs) h.b.next (fs.take j))), slT vw 27 wordE (notesF (laidH h 2 kind info fs) h.b.next (fs.take j)).words, slT vh 84 headE (notesF (laidH h 2 kind info fs) h.b.next (fs.take j)).heads, slT vr2 3 intE (notesF (laidH h 2 kind info fs) h.b.next (fs.take j)).rem] ∧ Fr a 108 [(0, ptr (adr bh)), (13, i64 h.b.next), (96, vf), (97, i64 fs.length), (98, i64 j)]) (fun (q : Nat × Value) => match q with | (j, vr2) => fs.length - j) (0, vr) ⟨by omega, hO, hF.sub ⟨rfl, rfl, rfl, rfl, rfl, trivial⟩⟩ ?_
        rintro ⟨j, vr2⟩ a w ⟨hj, hO, hF⟩
        obtain ⟨hnl, _, _, _, _, _, hnr⟩ := notes_len h.b.next (fs.take j) (laidH h 2 kind info fs)
        obtain ⟨e1, e2⟩ := laid_len h 2 kind info fs
        rw [e1] at hnl
        rw [e2, List.length_take] at hnr
        refine wp_seq ?_
        refine wp_region_lit ?_
        refine wl_v hF rfl rfl rfl (q_lt rfl (hF.eval rfl) (hF.eval rfl)) fun a hF => ?_
        refine wl_nil ?_
        refine k_n ?_
        refine wp_seq ?_
        refine wp_ifD hF rfl rfl (fun hc4 => ?_) (fun hc4 => ?_)
        · skip
          refine wp_skip ?_
          refine k_n ?_
          refine wp_seq ?_
          refine wp_block ?_
          refine wp_seq ?_
          refine wp_region_lit ?_
          obtain ⟨x, hx⟩ := get_ex (l := fs) (i := j) (by omega)
          refine wl_v hF rfl rfl rfl (q_at (i := j) hR Try.underlying37 Try.sizeOf27 rfl (hF.eval rfl) (hF.eval rfl) (by omega)) fun a hF => ?_
          refine wl_v hF rfl rfl rfl (q_loadAgg Try.isAgg27 Try.sizeOf27 rfl (hF.eval rfl) (RdT.cells (hR.now hO) hx) rfl) fun a hF => ?_
          refine wl_e hF rfl rfl rfl (e_alloc hO Try.zeroValue27 rfl rfl) ?_
          rintro a _ w ⟨tk, rfl, hO⟩ hF
          refine wl_s hF rfl rfl (e_storeAll hO (i := 0) rfl Try.sizeOf27 rfl (hF.eval rfl) (hF.eval rfl) rfl rfl) ?_
          rintro a _ w ⟨-, hO⟩ hF
          have hO : St _ _ _ [_, _, _, _, _] := hO
          refine wl_nil ?_
          refine k_n ?_
          refine wp_region_lit ?_
          refine wl_v hF rfl rfl rfl (q_move rfl (hF.eval rfl)) fun a hF => ?_
          refine wl_v hF rfl rfl rfl (q_move rfl (hF.eval rfl)) fun a hF => ?_
          refine wl_v hF rfl rfl rfl (q_loadAgg Try.isAgg27 Try.sizeOf27 rfl (hF.eval rfl) (hO.cells 0 rfl) rfl) fun a hF => ?_
          have hO := hO.pull 4 rfl
          have hO := hO.pull 4 rfl
          have hO := hO.pull 4 rfl
          have hO := hO.pull 4 rfl
          have hO : St _ _ _ [_, _, _, _, _] := hO
          refine wl_e hF rfl rfl rfl (c_call hF rfl rfl Try.call55 (note_r _ _ _ _ _ _ hO.own4 (Wf.notes _ (hw.laid (k := 2) (by decide) hfit) (by omega) (by rw [(laid_len h 2 kind info fs).1]; show h.b.next < _; omega)) (by omega) _ ⟨by omega, by rw [hnl]; show h.b.next < _; omega⟩ _)) ?_
          rintro a _ w ⟨vr2, rfl, hS⟩ hF
          have hO := hO.call4 hS
          have hO : St _ _ _ [_, _, _, _, _] := hO
          refine wl_nil ?_
          refine b_n ?_
          refine k_n ?_
          refine wp_region_lit ?_
          refine wl_v hF rfl rfl rfl (q_add rfl (hF.eval rfl) (hF.eval rfl) (by omega)) fun a hF => ?_
          refine wl_v hF rfl rfl rfl (q_move rfl (hF.eval rfl)) fun a hF => ?_
          refine wl_nil ?_
          refine k_n ?_
          have hO := hO.drop1 4
          have hO : St _ _ _ [_, _, _, _] := hO
          rw [← notes_on, ← takeAt hx] at hO
          exact ⟨(j + 1, _), ⟨by omega, hO, hF.sub ⟨rfl, rfl, rfl, rfl, rfl, trivial⟩⟩, by dsimp only; omega⟩
        · skip
          refine wp_exit ?_
          refine k_x ?_
          refine k_x ?_
          refine b_x ?_
          refine k_n ?_
          refine wp_seq ?_
          refine wp_region_lit ?_
          refine wl_v hF rfl rfl rfl (q_move rfl (hF.eval rfl)) fun a hF => ?_
          refine wl_v hF rfl rfl rfl (q_assign rfl (hF.eval rfl)) fun a hF => ?_
          refine wl_v hF rfl rfl rfl (q_assign rfl (hF.eval rfl)) fun a hF => ?_
          refine wl_nil ?_
          refine k_n ?_
          refine wp_ret ?_
          refine r_2 hF rfl rfl rfl ?_
          have hO : St _ _ _ [_, _, _, _] := hO
          obtain rfl : j = fs.length := by omega
          rw [List.take_length] at hO
          exact ⟨_, _, _, hl4, rfl, hO⟩

end Go.Proofs.Ytglienidnffnjaa
