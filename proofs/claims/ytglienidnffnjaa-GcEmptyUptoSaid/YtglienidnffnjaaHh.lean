import Derived.Test.YtglienidnffnjaaHg
import Derived.Test.YtglienidnffnjaaGw19
import Derived.Test.YtglienidnffnjaaPl7
namespace Go.Proofs.Ytglienidnffnjaa
open Go
set_option maxRecDepth 100000
set_option linter.unusedVariables false
theorem young_r (w0 : World) (bh : Nat) (vw vh vr : Value) (h : Hp) (hH : HR w0 [] bh vw vh vr h) (at_ : Int) : Ret Try.prog 26 #[ptr (adr bh), i64 at_] w0 (fun v w' => v = .bool (decide (youngH h at_)) ∧ St w0 [] w' []) := by
  have hO := St.init0 w0
  refine ret_of (m := 22) Try.func26 rfl Try.ntmps26 [(0, ptr (adr bh)), (1, i64 at_)] rfl ⟨rfl, rfl, trivial⟩ fun a hF => ?_
  refine wp_seq ?_
  refine wp_region_lit ?_
  refine wl_v hF rfl rfl rfl (q_assign rfl (hF.eval rfl)) fun a hF => ?_
  refine wl_nil ?_
  refine k_n ?_
  refine wp_seq ?_
  refine wp_region_lit ?_
  refine wl_v hF rfl rfl rfl (q_move rfl (hF.eval rfl)) fun a hF => ?_
  refine wl_v hF rfl rfl rfl (q_pne Try.underlying22 rfl (hF.eval rfl) (hF.eval rfl)) fun a hF => ?_
  refine wl_v hF rfl rfl rfl (q_move rfl (hF.eval rfl)) fun a hF => ?_
  refine wl_g hF rfl rfl rfl rfl rfl rfl (fun hg => q_move rfl (hF.eval rfl)) fun a hF => ?_
  refine wl_g hF rfl rfl rfl rfl rfl rfl (fun hg => q_move rfl (hF.eval rfl)) fun a hF => ?_
  refine wl_g hF rfl rfl rfl rfl rfl rfl (fun hg => q_nilCheck rfl ((hF.eval rfl).trans (gv_of hg))) fun a hF => ?_
  refine wl_g hF rfl rfl rfl rfl rfl rfl (fun hg => q_fieldAddr0 (d := 2) Try.underlying77 rfl ((hF.eval rfl).trans (gv_of hg)) rfl Try.sizeOf74 (by decide) rfl) fun a hF => ?_
  refine wl_g hF rfl rfl rfl rfl rfl rfl (fun hg => q_fieldAddr (d := 2) Try.underlying74 rfl ((hF.eval rfl).trans (gv_of hg)) rfl Try.sizeOf3 (by decide) rfl) fun a hF => ?_
  refine wl_g hF rfl rfl rfl rfl rfl rfl (fun hg => q_load Try.isAgg3 rfl ((hF.eval rfl).trans (gv_of hg)) (rdB_cell (HR.now hH hO).blk rfl)) fun a hF => ?_
  refine wl_g hF rfl rfl rfl rfl rfl rfl (fun hg => q_lt rfl ((hF.eval rfl).trans (gv_of hg)) ((hF.eval rfl).trans (gv_of hg))) fun a hF => ?_
  refine wl_v hF rfl rfl rfl (q_and rfl (hF.eval rfl) rfl (fun hg2 => ((hF.eval rfl).trans (gv_of hg2))) rfl) fun a hF => ?_
  refine wl_v hF rfl rfl rfl (q_move rfl (hF.eval rfl)) fun a hF => ?_
  refine wl_g hF rfl rfl rfl rfl rfl rfl (fun hg => q_move rfl (hF.eval rfl)) fun a hF => ?_
  refine wl_g hF rfl rfl rfl rfl rfl rfl (fun hg => q_move rfl (hF.eval rfl)) fun a hF => ?_
  refine wl_gk hO hF rfl rfl rfl rfl rfl rfl (fun hg => c_callG hF rfl rfl (by first | with_reducible rfl | (simp only [gv_of hg]; done) | (simp only [gv_of hg]; rfl)) Try.call53 (head_r _ _ _ _ _ _ (hH.at0 hO) _)) fun a w hO hF => ?_
  refine wl_g hF rfl rfl rfl rfl rfl rfl (fun hg => q_pne Try.underlying80 rfl ((hF.eval rfl).trans (gv_of hg)) (hF.eval rfl)) fun a hF => ?_
  refine wl_v hF rfl rfl rfl (q_and rfl (hF.eval rfl) rfl (fun hg2 => ((hF.eval rfl).trans (gv_of hg2))) rfl) fun a hF => ?_
  refine wl_v hF rfl rfl rfl (q_assign rfl (hF.eval rfl)) fun a hF => ?_
  refine wl_nil ?_
  refine k_n ?_
  refine wp_ret ?_
  refine r_1 hF rfl rfl ?_
  have hO : St _ _ _ [] := hO
  exact ⟨congrArg Value.bool (decide_eq_decide.2 ⟨fun g => ⟨g.1.2, fun e => g.2 (hdP_none.2 e)⟩, fun g => ⟨⟨by simp, g.1⟩, fun e => g.2 (hdP_none.1 e)⟩⟩), hO⟩

theorem used0_r (w0 : World) (bh : Nat) (vw vh vr : Value) (h : Hp) (hH : HR w0 [] bh vw vh vr h) (hw : Wf h) (hu : h.use = 0) : Ret Try.prog 19 #[ptr (adr bh)] w0 (fun v w' => v = .tuple #[i64 (h.y.next - h.y.first), i64 (h.a.next - h.a.first)] ∧ St w0 [] w' []) := by
  have hO := St.init0 w0
  obtain ⟨y1, y2, y3, y4⟩ := hw.y
  obtain ⟨r1, r2, r3, r4⟩ := hw.a
  have hle := hw.le
  refine ret_of (m := 32) Try.func19 rfl Try.ntmps19 [(0, ptr (adr bh))] rfl ⟨rfl, trivial⟩ fun a hF => ?_
  refine wp_seq ?_
  refine wp_region_lit ?_
  refine wl_v hF rfl rfl rfl (q_assign rfl (hF.eval rfl)) fun a hF => ?_
  refine wl_v hF rfl rfl rfl (q_assign rfl (hF.eval rfl)) fun a hF => ?_
  refine wl_nil ?_
  refine k_n ?_
  refine wp_seq ?_
  refine wp_seq ?_
  refine wp_region_lit ?_
  refine wl_v hF rfl rfl rfl (q_move rfl (hF.eval rfl)) fun a hF => ?_
  refine wl_v hF rfl rfl rfl (q_peq Try.underlying22 rfl (hF.eval rfl) (hF.eval rfl)) fun a hF => ?_
  refine wl_nil ?_
  refine k_n ?_
  refine wp_ifD hF rfl rfl (fun hc1 => ?_) (fun hc1 => ?_)
  · skip
    exact absurd hc1 (by simp)
  · skip
    refine wp_skip ?_
    refine k_n ?_
    refine wp_seq ?_
    have hO := hO.drew
    refine wp_region_D [0, 0, 0, 0, 1, 0, 0, 0, 1, 2, 3] (fun w => St _ _ w _) Try_mixed (by kernel_rfl) hO ?_
    refine wd_p hF rfl rfl rfl (fun w => q_move rfl (hF.eval rfl)) fun a hF => ?_
    refine wd_p hF rfl rfl rfl (fun w => q_move rfl (hF.eval rfl)) fun a hF => ?_
    refine wd_p hF rfl rfl rfl (fun w => q_nilCheck rfl (hF.eval rfl)) fun a hF => ?_
    refine wd_p hF rfl rfl rfl (fun w => q_fieldAddr0 (d := 11) Try.underlying77 rfl (hF.eval rfl) rfl Try.sizeOf3 (by decide) rfl) fun a hF => ?_
    refine wd_r hF rfl rfl rfl (fun w hO => q_load Try.isAgg3 rfl (hF.eval rfl) (rdB_cell (HR.now hH hO).blk rfl)) fun a hF => ?_
    refine wd_p hF rfl rfl rfl (fun w => q_nilCheck rfl (hF.eval rfl)) fun a hF => ?_
    refine wd_p hF rfl rfl rfl (fun w => q_fieldAddr0 (d := 5) Try.underlying77 rfl (hF.eval rfl) rfl Try.sizeOf75 (by decide) rfl) fun a hF => ?_
    refine wd_p hF rfl rfl rfl (fun w => q_atArrK (i := 0) (d := 5) Try.underlying75 Try.sizeOf74 rfl (hF.eval rfl) ((hF.eval rfl).trans (congrArg (fun n : Nat => i64 (n : Int)) hu)) (by decide)) fun a hF => ?_
    refine wd_r hF rfl rfl rfl (fun w hO => q_loadAgg Try.isAgg74 Try.sizeOf74 rfl (hF.eval rfl) (rdB_cells (HR.now hH hO).blk 5 3 rfl) rfl) fun a hF => ?_
    refine wd_e hF rfl rfl rfl (e_alloc hO Try.zeroValue74 rfl rfl) (fun _ _ ⟨_, _, hO⟩ => hO.tail) ?_
    rintro a _ w ⟨t4, rfl, hO⟩ hF
    refine wd_s hF rfl rfl (e_storeAll hO (i := 0) rfl Try.sizeOf74 rfl (hF.eval rfl) (hF.eval rfl) rfl rfl) ?_
    rintro a _ w ⟨-, hO⟩ hF
    have hO : St _ _ _ [_] := hO
    refine wd_nil ?_
    refine k_n ?_
    refine wp_seq ?_
    have hO := hO.drew
    refine wp_region_D [0, 0, 0, 0, 1, 0, 0, 0, 0, 1, 0, 0, 1, 0, 1, 0, 0, 0] (fun w => St _ _ w _) Try_mixed (by kernel_rfl) hO ?_
    refine wd_p hF rfl rfl rfl (fun w => q_move rfl (hF.eval rfl)) fun a hF => ?_
    refine wd_p hF rfl rfl rfl (fun w => q_nilCheck rfl (hF.eval rfl)) fun a hF => ?_
    refine wd_p hF rfl rfl rfl (fun w => q_fieldAddr0 (d := 2) Try.underlying77 rfl (hF.eval rfl) rfl Try.sizeOf74 (by decide) rfl) fun a hF => ?_
    refine wd_p hF rfl rfl rfl (fun w => q_fieldAddr (d := 1) Try.underlying74 rfl (hF.eval rfl) rfl Try.sizeOf3 (by decide) rfl) fun a hF => ?_
    refine wd_r hF rfl rfl rfl (fun w hO => q_load Try.isAgg3 rfl (hF.eval rfl) (rdB_cell (HR.now hH hO).blk rfl)) fun a hF => ?_
    refine wd_p hF rfl rfl rfl (fun w => q_move rfl (hF.eval rfl)) fun a hF => ?_
    refine wd_p hF rfl rfl rfl (fun w => q_nilCheck rfl (hF.eval rfl)) fun a hF => ?_
    refine wd_p hF rfl rfl rfl (fun w => q_fieldAddr0 (d := 2) Try.underlying77 rfl (hF.eval rfl) rfl Try.sizeOf74 (by decide) rfl) fun a hF => ?_
    refine wd_p hF rfl rfl rfl (fun w => q_fieldAddr (d := 0) Try.underlying74 rfl (hF.eval rfl) rfl Try.sizeOf3 (by decide) rfl) fun a hF => ?_
    refine wd_r hF rfl rfl rfl (fun w hO => q_load Try.isAgg3 rfl (hF.eval rfl) (rdB_cell (HR.now hH hO).blk rfl)) fun a hF => ?_
    refine wd_p hF rfl rfl rfl (fun w => q_sub rfl (hF.eval rfl) (hF.eval rfl) (by omega)) fun a hF => ?_
    refine wd_p hF rfl rfl rfl (fun w => q_fieldAddr0 (d := 1) Try.underlying74 rfl (hF.eval rfl) rfl Try.sizeOf3 (by decide) rfl) fun a hF => ?_
    refine wd_r hF rfl rfl rfl (fun w hO => q_load Try.isAgg3 rfl (hF.eval rfl) (hO.cell 0 rfl rfl)) fun a hF => ?_
    refine wd_p hF rfl rfl rfl (fun w => q_fieldAddr0 (d := 0) Try.underlying74 rfl (hF.eval rfl) rfl Try.sizeOf3 (by decide) rfl) fun a hF => ?_
    refine wd_r hF rfl rfl rfl (fun w hO => q_load Try.isAgg3 rfl (hF.eval rfl) (hO.cell 0 rfl rfl)) fun a hF => ?_
    refine wd_p hF rfl rfl rfl (fun w => q_sub rfl (hF.eval rfl) (hF.eval rfl) (by omega)) fun a hF => ?_
    refine wd_p hF rfl rfl rfl (fun w => q_assign rfl (hF.eval rfl)) fun a hF => ?_
    refine wd_p hF rfl rfl rfl (fun w => q_assign rfl (hF.eval rfl)) fun a hF => ?_
    refine wd_nil ?_
    refine k_n ?_
    refine wp_ret ?_
    refine r_2 hF rfl rfl rfl ?_
    have hO := hO.drop1 0
    have hO : St _ _ _ [] := hO
    exact ⟨rfl, hO⟩

theorem used1_r (w0 : World) (bh : Nat) (vw vh vr : Value) (h : Hp) (hH : HR w0 [] bh vw vh vr h) (hw : Wf h) (hu : h.use = 1) : Ret Try.prog 19 #[ptr (adr bh)] w0 (fun v w' => v = .tuple #[i64 (h.y.next - h.y.first), i64 (h.b.next - h.b.first)] ∧ St w0 [] w' []) := by
  have hO := St.init0 w0
  obtain ⟨y1, y2, y3, y4⟩ := hw.y
  obtain ⟨r1, r2, r3, r4⟩ := hw.b
  have hle := hw.le
  refine ret_of (m := 32) Try.func19 rfl Try.ntmps19 [(0, ptr (adr bh))] rfl ⟨rfl, trivial⟩ fun a hF => ?_
  refine wp_seq ?_
  refine wp_region_lit ?_
  refine wl_v hF rfl rfl rfl (q_assign rfl (hF.eval rfl)) fun a hF => ?_
  refine wl_v hF rfl rfl rfl (q_assign rfl (hF.eval rfl)) fun a hF => ?_
  refine wl_nil ?_
  refine k_n ?_
  refine wp_seq ?_
  refine wp_seq ?_
  refine wp_region_lit ?_
  refine wl_v hF rfl rfl rfl (q_move rfl (hF.eval rfl)) fun a hF => ?_
  refine wl_v hF rfl rfl rfl (q_peq Try.underlying22 rfl (hF.eval rfl) (hF.eval rfl)) fun a hF => ?_
  refine wl_nil ?_
  refine k_n ?_
  refine wp_ifD hF rfl rfl (fun hc1 => ?_) (fun hc1 => ?_)
  · skip
    exact absurd hc1 (by simp)
  · skip
    refine wp_skip ?_
    refine k_n ?_
    refine wp_seq ?_
    have hO := hO.drew
    refine wp_region_D [0, 0, 0, 0, 1, 0, 0, 0, 1, 2, 3] (fun w => St _ _ w _) Try_mixed (by kernel_rfl) hO ?_
    refine wd_p hF rfl rfl rfl (fun w => q_move rfl (hF.eval rfl)) fun a hF => ?_
    refine wd_p hF rfl rfl rfl (fun w => q_move rfl (hF.eval rfl)) fun a hF => ?_
    refine wd_p hF rfl rfl rfl (fun w => q_nilCheck rfl (hF.eval rfl)) fun a hF => ?_
    refine wd_p hF rfl rfl rfl (fun w => q_fieldAddr0 (d := 11) Try.underlying77 rfl (hF.eval rfl) rfl Try.sizeOf3 (by decide) rfl) fun a hF => ?_
    refine wd_r hF rfl rfl rfl (fun w hO => q_load Try.isAgg3 rfl (hF.eval rfl) (rdB_cell (HR.now hH hO).blk rfl)) fun a hF => ?_
    refine wd_p hF rfl rfl rfl (fun w => q_nilCheck rfl (hF.eval rfl)) fun a hF => ?_
    refine wd_p hF rfl rfl rfl (fun w => q_fieldAddr0 (d := 5) Try.underlying77 rfl (hF.eval rfl) rfl Try.sizeOf75 (by decide) rfl) fun a hF => ?_
    refine wd_p hF rfl rfl rfl (fun w => q_atArrK (i := 1) (d := 5) Try.underlying75 Try.sizeOf74 rfl (hF.eval rfl) ((hF.eval rfl).trans (congrArg (fun n : Nat => i64 (n : Int)) hu)) (by decide)) fun a hF => ?_
    refine wd_r hF rfl rfl rfl (fun w hO => q_loadAgg Try.isAgg74 Try.sizeOf74 rfl (hF.eval rfl) (rdB_cells (HR.now hH hO).blk 8 3 rfl) rfl) fun a hF => ?_
    refine wd_e hF rfl rfl rfl (e_alloc hO Try.zeroValue74 rfl rfl) (fun _ _ ⟨_, _, hO⟩ => hO.tail) ?_
    rintro a _ w ⟨t4, rfl, hO⟩ hF
    refine wd_s hF rfl rfl (e_storeAll hO (i := 0) rfl Try.sizeOf74 rfl (hF.eval rfl) (hF.eval rfl) rfl rfl) ?_
    rintro a _ w ⟨-, hO⟩ hF
    have hO : St _ _ _ [_] := hO
    refine wd_nil ?_
    refine k_n ?_
    refine wp_seq ?_
    have hO := hO.drew
    refine wp_region_D [0, 0, 0, 0, 1, 0, 0, 0, 0, 1, 0, 0, 1, 0, 1, 0, 0, 0] (fun w => St _ _ w _) Try_mixed (by kernel_rfl) hO ?_
    refine wd_p hF rfl rfl rfl (fun w => q_move rfl (hF.eval rfl)) fun a hF => ?_
    refine wd_p hF rfl rfl rfl (fun w => q_nilCheck rfl (hF.eval rfl)) fun a hF => ?_
    refine wd_p hF rfl rfl rfl (fun w => q_fieldAddr0 (d := 2) Try.underlying77 rfl (hF.eval rfl) rfl Try.sizeOf74 (by decide) rfl) fun a hF => ?_
    refine wd_p hF rfl rfl rfl (fun w => q_fieldAddr (d := 1) Try.underlying74 rfl (hF.eval rfl) rfl Try.sizeOf3 (by decide) rfl) fun a hF => ?_
    refine wd_r hF rfl rfl rfl (fun w hO => q_load Try.isAgg3 rfl (hF.eval rfl) (rdB_cell (HR.now hH hO).blk rfl)) fun a hF => ?_
    refine wd_p hF rfl rfl rfl (fun w => q_move rfl (hF.eval rfl)) fun a hF => ?_
    refine wd_p hF rfl rfl rfl (fun w => q_nilCheck rfl (hF.eval rfl)) fun a hF => ?_
    refine wd_p hF rfl rfl rfl (fun w => q_fieldAddr0 (d := 2) Try.underlying77 rfl (hF.eval rfl) rfl Try.sizeOf74 (by decide) rfl) fun a hF => ?_
    refine wd_p hF rfl rfl rfl (fun w => q_fieldAddr (d := 0) Try.underlying74 rfl (hF.eval rfl) rfl Try.sizeOf3 (by decide) rfl) fun a hF => ?_
    refine wd_r hF rfl rfl rfl (fun w hO => q_load Try.isAgg3 rfl (hF.eval rfl) (rdB_cell (HR.now hH hO).blk rfl)) fun a hF => ?_
    refine wd_p hF rfl rfl rfl (fun w => q_sub rfl (hF.eval rfl) (hF.eval rfl) (by omega)) fun a hF => ?_
    refine wd_p hF rfl rfl rfl (fun w => q_fieldAddr0 (d := 1) Try.underlying74 rfl (hF.eval rfl) rfl Try.sizeOf3 (by decide) rfl) fun a hF => ?_
    refine wd_r hF rfl rfl rfl (fun w hO => q_load Try.isAgg3 rfl (hF.eval rfl) (hO.cell 0 rfl rfl)) fun a hF => ?_
    refine wd_p hF rfl rfl rfl (fun w => q_fieldAddr0 (d := 0) Try.underlying74 rfl (hF.eval rfl) rfl Try.sizeOf3 (by decide) rfl) fun a hF => ?_
    refine wd_r hF rfl rfl rfl (fun w hO => q_load Try.isAgg3 rfl (hF.eval rfl) (hO.cell 0 rfl rfl)) fun a hF => ?_
    refine wd_p hF rfl rfl rfl (fun w => q_sub rfl (hF.eval rfl) (hF.eval rfl) (by omega)) fun a hF => ?_
    refine wd_p hF rfl rfl rfl (fun w => q_assign rfl (hF.eval rfl)) fun a hF => ?_
    refine wd_p hF rfl rfl rfl (fun w => q_assign rfl (hF.eval rfl)) fun a hF => ?_
    refine wd_nil ?_
    refine k_n ?_
    refine wp_ret ?_
    refine r_2 hF rfl rfl rfl ?_
    have hO := hO.drop1 0
    have hO : St _ _ _ [] := hO
    exact ⟨rfl, hO⟩


theorem used_r (w0 : World) (bh : Nat) (vw vh vr : Value) (h : Hp) (hH : HR w0 [] bh vw vh vr h) (hw : Wf h) : Ret Try.prog 19 #[ptr (adr bh)] w0 (fun v w' => v = .tuple #[i64 (usedH h).1, i64 (usedH h).2] ∧ St w0 [] w' []) := by
  have hu := hw.use
  rcases (by omega : h.use = 0 ∨ h.use = 1) with hu | hu
  · have e : usedH h = (h.y.next - h.y.first, h.a.next - h.a.first) := by unfold usedH; rw [hu]; rfl
    rw [e]; exact used0_r w0 bh vw vh vr h hH hw hu
  · have e : usedH h = (h.y.next - h.y.first, h.b.next - h.b.first) := by unfold usedH; rw [hu]; rfl
    rw [e]; exact used1_r w0 bh vw vh vr h hH hw hu
theorem flip_r (w0 : World) (bh : Nat) (vw vh vr : Value) (h : Hp) (hA : Owns w0 [.ob bh 77 (hpC vw vh vr h), slT vw 27 wordE h.words, slT vh 84 headE h.heads, slT vr 3 intE h.rem]) (hw : Wf h) (hrl : h.rem.length ≤ 100000000000) : Ret Try.prog 24 #[ptr (adr bh)] w0 (fun v w' => ∃ vr2, v = .tuple #[] ∧ St w0 (blks [.ob bh 77 (hpC vw vh vr h), slT vw 27 wordE h.words, slT vh 84 headE h.heads, slT vr 3 intE h.rem]) w' [.ob bh 77 (hpC vw vh vr2 (flipH h)), slT vw 27 wordE (flipH h).words, slT vh 84 headE (flipH h).heads, slT vr2 3 intE (flipH h).rem]) := by
  have hO := St.init hA
  have hle := hw.le
  have hlen := hw.len
  have hus := hw.use
  refine ret_of (m := 12) Try.func24 rfl Try.ntmps24 [(0, ptr (adr bh))] rfl ⟨rfl, trivial⟩ fun a hF => ?_
  refine wp_seq ?_
  refine wp_region_lit ?_
  refine wl_v hF rfl rfl rfl (q_move rfl (hF.eval rfl)) fun a hF => ?_
  refine wl_v hF rfl rfl rfl (q_pne Try.underlying22 rfl (hF.eval rfl) (hF.eval rfl)) fun a hF => ?_
  refine wl_nil ?_
  refine k_n ?_
  refine wp_ifD hF rfl rfl (fun hc1 => ?_) (fun hc1 => ?_)
  · skip
    refine wp_region_lit ?_
    refine wl_v hF rfl rfl rfl (q_move rfl (hF.eval rfl)) fun a hF => ?_
    refine wl_v hF rfl rfl rfl (q_move rfl (hF.eval rfl)) fun a hF => ?_
    refine wl_v hF rfl rfl rfl (q_nilCheck rfl (hF.eval rfl)) fun a hF => ?_
    refine wl_v hF rfl rfl rfl (q_fieldAddr0 (d := 11) Try.underlying77 rfl (hF.eval rfl) rfl Try.sizeOf3 (by decide) rfl) fun a hF => ?_
    refine wl_v hF rfl rfl rfl (q_load Try.isAgg3 rfl (hF.eval rfl) (hO.cell 0 rfl rfl)) fun a hF => ?_
    refine wl_v hF rfl rfl rfl (q_sub rfl (hF.eval rfl) (hF.eval rfl) (by omega)) fun a hF => ?_
    refine wl_v hF rfl rfl rfl (q_nilCheck rfl (hF.eval rfl)) fun a hF => ?_
    refine wl_v hF rfl rfl rfl (q_fieldAddr0 (d := 11) Try.underlying77 rfl (hF.eval rfl) rfl Try.sizeOf3 (by decide) rfl) fun a hF => ?_
    refine wl_s hF rfl rfl (e_store1 hO (i := 0) rfl Try.sizeOf3 rfl (hF.eval rfl) (hF.eval rfl) rfl rfl rfl) ?_
    rintro a _ w ⟨-, hO⟩ hF
    have hO : St _ _ _ [_, _, _, _] := hO
    rw [show (1 : Int) - (h.use : Int) = ((1 - h.use : Nat) : Int) by omega] at hO
    refine wl_nil ?_
    refine r_0n hF rfl ?_
    have hO : St _ _ _ [_, _, _, _] := hO
    exact ⟨vr, rfl, hO⟩
  · skip
    exact absurd (show ¬ some (adr bh) = none by simp) hc1

set_option maxHeartbeats 1000000 in
theorem empty0_r (w0 : World) (bh : Nat) (vw vh vr : Value) (h : Hp) (hA : Owns w0 [.ob bh 77 (hpC vw vh vr h), slT vw 27 wordE h.words, slT vh 84 headE h.heads, slT vr 3 intE h.rem]) (hw : Wf h) (hrl : h.rem.length ≤ 100000000000) : Ret Try.prog 59 #[ptr (adr bh), ptr ((adr bh).add 2)] w0 (fun v w' => v = .tuple #[] ∧ St w0 (blks [.ob bh 77 (hpC vw vh vr h), slT vw 27 wordE h.words, slT vh 84 headE h.heads, slT vr 3 intE h.rem]) w' [.ob bh 77 (hpC vw vh vr (emptyH h 0)), slT vw 27 wordE (emptyH h 0).words, slT vh 84 headE (emptyH h 0).heads, slT vr 3 intE (emptyH h 0).rem]) := by
  have hO := St.init hA
  have hle := hw.le
  have hlen := hw.len
  obtain ⟨r1, r2, r3, r4⟩ := hw.y
  refine ret_of (m := 24) Try.func59 rfl Try.ntmps59 [(0, ptr (adr bh)), (1, ptr ((adr bh).add 2))] rfl ⟨rfl, rfl, trivial⟩ fun a hF => ?_
  refine wp_seq ?_
  have hO := hO.drew
  refine wp_region_D [0, 0, 0, 1, 0, 0, 0, 1, 0, 0, 0, 1, 0, 3] (fun w => St _ _ w _) Try_mixed (by kernel_rfl) hO ?_
  refine wd_p hF rfl rfl rfl (fun w => q_move rfl (hF.eval rfl)) fun a hF => ?_
  refine wd_p hF rfl rfl rfl (fun w => q_nilCheck rfl (hF.eval rfl)) fun a hF => ?_
  refine wd_p hF rfl rfl rfl (fun w => q_fieldAddr0 (d := 1) Try.underlying77 rfl (hF.eval rfl) rfl Try.sizeOf72 (by decide) rfl) fun a hF => ?_
  refine wd_r hF rfl rfl rfl (fun w hO => q_load Try.isAgg72 rfl (hF.eval rfl) (hO.cell 0 rfl rfl)) fun a hF => ?_
  refine wd_p hF rfl rfl rfl (fun w => q_move rfl (hF.eval rfl)) fun a hF => ?_
  refine wd_p hF rfl rfl rfl (fun w => q_nilCheck rfl (hF.eval rfl)) fun a hF => ?_
  refine wd_p hF rfl rfl rfl (fun w => q_fieldAddr (d := 0) Try.underlying74 rfl (hF.eval rfl) rfl Try.sizeOf3 (by decide) rfl) fun a hF => ?_
  refine wd_r hF rfl rfl rfl (fun w hO => q_load Try.isAgg3 rfl (hF.eval rfl) (hO.cell 0 rfl rfl)) fun a hF => ?_
  refine wd_p hF rfl rfl rfl (fun w => q_move rfl (hF.eval rfl)) fun a hF => ?_
  refine wd_p hF rfl rfl rfl (fun w => q_nilCheck rfl (hF.eval rfl)) fun a hF => ?_
  refine wd_p hF rfl rfl rfl (fun w => q_fieldAddr (d := 1) Try.underlying74 rfl (hF.eval rfl) rfl Try.sizeOf3 (by decide) rfl) fun a hF => ?_
  refine wd_r hF rfl rfl rfl (fun w hO => q_load Try.isAgg3 rfl (hF.eval rfl) (hO.cell 0 rfl rfl)) fun a hF => ?_
  refine wd_p hF rfl rfl rfl (fun w => q_cut2 (i := h.y.first.toNat) (j := h.y.next.toNat) (hO.rd 2 rfl) Try.underlying72 Try.sizeOf84 rfl (hF.eval rfl) ((hF.eval rfl).trans (congrArg i64 ((Int.toNat_of_nonneg (by omega)).symm))) ((hF.eval rfl).trans (congrArg i64 ((Int.toNat_of_nonneg (by omega)).symm))) (by omega) (by omega)) fun a hF => ?_
  refine wd_s hF rfl rfl (e_clearT (z0 := hd0) (p := h.y.first.toNat) (q := h.y.next.toNat) hO (i := 2) rfl Try.underlying72 Try.zeroValue84 rfl rfl (hF.eval rfl) (by omega) (by omega) rfl) ?_
  rintro a _ w hO hF
  have hO : St _ _ _ [_, _, _, _] := hO
  refine wd_nil ?_
  refine k_n ?_
  refine wp_region_lit ?_
  refine wl_v hF rfl rfl rfl (q_move rfl (hF.eval rfl)) fun a hF => ?_
  refine wl_v hF rfl rfl rfl (q_move rfl (hF.eval rfl)) fun a hF => ?_
  refine wl_v hF rfl rfl rfl (q_nilCheck rfl (hF.eval rfl)) fun a hF => ?_
  refine wl_v hF rfl rfl rfl (q_fieldAddr (d := 0) Try.underlying74 rfl (hF.eval rfl) rfl Try.sizeOf3 (by decide) rfl) fun a hF => ?_
  refine wl_v hF rfl rfl rfl (q_load Try.isAgg3 rfl (hF.eval rfl) (hO.cell 0 rfl rfl)) fun a hF => ?_
  refine wl_v hF rfl rfl rfl (q_nilCheck rfl (hF.eval rfl)) fun a hF => ?_
  refine wl_v hF rfl rfl rfl (q_fieldAddr (d := 1) Try.underlying74 rfl (hF.eval rfl) rfl Try.sizeOf3 (by decide) rfl) fun a hF => ?_
  refine wl_s hF rfl rfl (e_store1 hO (i := 0) rfl Try.sizeOf3 rfl (hF.eval rfl) (hF.eval rfl) rfl rfl rfl) ?_
  rintro a _ w ⟨-, hO⟩ hF
  have hO : St _ _ _ [_, _, _, _] := hO
  refine wl_nil ?_
  refine r_0n hF rfl ?_
  have hO : St _ _ _ [_, _, _, _] := hO
  exact ⟨rfl, hO⟩

set_option maxHeartbeats 1000000 in
theorem clear_r (w0 : World) (bh : Nat) (vw vh vr : Value) (h : Hp) (hA : Owns w0 [.ob bh 77 (hpC vw vh vr h), slT vw 27 wordE h.words, slT vh 84 headE h.heads, slT vr 3 intE h.rem]) (hw : Wf h) (hrl : h.rem.length ≤ 100000000000) : Ret Try.prog 20 #[ptr (adr bh)] w0 (fun v w' => ∃ vr2, v = .tuple #[] ∧ St w0 (blks [.ob bh 77 (hpC vw vh vr h), slT vw 27 wordE h.words, slT vh 84 headE h.heads, slT vr 3 intE h.rem]) w' [.ob bh 77 (hpC vw vh vr2 (clearH h)), slT vw 27 wordE (clearH h).words, slT vh 84 headE (clearH h).heads, slT vr2 3 intE (clearH h).rem]) := by
  have hO := St.init hA
  have hle := hw.le
  have hlen := hw.len
  have hel := empty_len h hw 0
  refine ret_of (m := 31) Try.func20 rfl Try.ntmps20 [(0, ptr (adr bh))] rfl ⟨rfl, trivial⟩ fun a hF => ?_
  refine wp_seq ?_
  refine wp_seq ?_
  refine wp_region_lit ?_
  refine wl_v hF rfl rfl rfl (q_move rfl (hF.eval rfl)) fun a hF => ?_
  refine wl_v hF rfl rfl rfl (q_peq Try.underlying22 rfl (hF.eval rfl) (hF.eval rfl)) fun a hF => ?_
  refine wl_nil ?_
  refine k_n ?_
  refine wp_ifD hF rfl rfl (fun hc1 => ?_) (fun hc1 => ?_)
  · skip
    exact absurd hc1 (by simp)
  · skip
    refine wp_skip ?_
    refine k_n ?_
    refine wp_seq ?_
    refine wp_region_lit ?_
    refine wl_v hF rfl rfl rfl (q_move rfl (hF.eval rfl)) fun a hF => ?_
    refine wl_v hF rfl rfl rfl (q_move rfl (hF.eval rfl)) fun a hF => ?_
    refine wl_v hF rfl rfl rfl (q_nilCheck rfl (hF.eval rfl)) fun a hF => ?_
    refine wl_v hF rfl rfl rfl (q_fieldAddr0 (d := 2) Try.underlying77 rfl (hF.eval rfl) rfl Try.sizeOf74 (by decide) rfl) fun a hF => ?_
    have hO := hO.pull 3 rfl
    have hO := hO.pull 3 rfl
    have hO := hO.pull 3 rfl
    have hO := hO.pull 3 rfl
    have hO : St _ _ _ [_, _, _, _] := hO
    refine wl_e hF rfl rfl rfl (c_call hF rfl rfl Try.call59 (empty0_r _ _ _ _ _ _ hO.own4 hw hrl)) ?_
    rintro a _ w ⟨rfl, hS⟩ hF
    have hO := hO.call4 hS
    have hO : St _ _ _ [_, _, _, _] := hO
    refine wl_nil ?_
    refine k_n ?_
    refine wp_seq ?_
    refine wp_seq ?_
    refine wp_region_lit ?_
    refine wl_v hF rfl rfl rfl (q_move rfl (hF.eval rfl)) fun a hF => ?_
    refine wl_v hF rfl rfl rfl (q_nilCheck rfl (hF.eval rfl)) fun a hF => ?_
    refine wl_v hF rfl rfl rfl (q_fieldAddr0 (d := 12) Try.underlying77 rfl (hF.eval rfl) rfl Try.sizeOf36 (by decide) rfl) fun a hF => ?_
    refine wl_v hF rfl rfl rfl (q_load Try.isAgg36 rfl (hF.eval rfl) (hO.cell 0 rfl rfl)) fun a hF => ?_
    refine wl_v hF rfl rfl rfl (q_lenRd (hO.rd 3 rfl) Try.underlying36 rfl (hF.eval rfl)) fun a hF => ?_
    refine wl_v hF rfl rfl rfl (q_move rfl (hF.eval rfl)) fun a hF => ?_
    refine wl_nil ?_
    refine k_n ?_
    refine wp_block ?_
    have hO : St _ _ _ [_, _, _, _] := hO
    refine wp_loopS (fun (j : Nat) a w' => (j ≤ h.rem.length) ∧ St w0 (blks [.ob bh 77 (hpC vw vh vr h), slT vw 27 wordE h.words, slT vh 84 headE h.heads, slT vr 3 intE h.rem]) w' [.ob bh 77 (hpC vw vh vr (emptyH h 0)), slT vw 27 wordE h.words, slT vh 84 headE (unknowF (emptyH h 0).heads (h.rem.take j)), slT vr 3 intE h.rem] ∧ Fr a 31 [(0, ptr (adr bh)), (14, vr), (15, i64 h.rem.length), (16, i64 j)]) (fun (j : Nat) => h.rem.length - j) 0 ⟨by omega, hO, hF.sub ⟨rfl, rfl, rfl, rfl, trivial⟩⟩ ?_
    rintro j a w ⟨hj, hO, hF⟩
    have hul := unknow_len (h.rem.take j) (emptyH h 0).heads
    refine wp_seq ?_
    refine wp_region_lit ?_
    refine wl_v hF rfl rfl rfl (q_lt rfl (hF.eval rfl) (hF.eval rfl)) fun a hF => ?_
    refine wl_nil ?_
    refine k_n ?_
    refine wp_seq ?_
    refine wp_ifD hF rfl rfl (fun hc2 => ?_) (fun hc2 => ?_)
    · skip
      refine wp_skip ?_
      refine k_n ?_
      refine wp_seq ?_
      refine wp_block ?_
      refine wp_seq ?_
      refine wp_region_lit ?_
      obtain ⟨x, hx⟩ := get_ex (l := h.rem) (i := j) (by omega)
      refine wl_v hF rfl rfl rfl (q_at (i := j) (hO.rd 3 rfl) Try.underlying36 Try.sizeOf3 rfl (hF.eval rfl) (hF.eval rfl) (by omega)) fun a hF => ?_
      refine wl_v hF rfl rfl rfl (q_load Try.isAgg3 rfl (hF.eval rfl) (RdT.cell0 (hO.rdT 3 rfl) hx rfl)) fun a hF => ?_
      refine wl_v hF rfl rfl rfl (q_assign rfl (hF.eval rfl)) fun a hF => ?_
      have hxr := hw.rem x (List.mem_of_getElem? hx)
      refine wl_nil ?_
      refine k_n ?_
      refine wp_region_lit ?_
      refine wl_v hF rfl rfl rfl (q_move rfl (hF.eval rfl)) fun a hF => ?_
      refine wl_v hF rfl rfl rfl (q_nilCheck rfl (hF.eval rfl)) fun a hF => ?_
      refine wl_v hF rfl rfl rfl (q_fieldAddr0 (d := 1) Try.underlying77 rfl (hF.eval rfl) rfl Try.sizeOf72 (by decide) rfl) fun a hF => ?_
      refine wl_v hF rfl rfl rfl (q_load Try.isAgg72 rfl (hF.eval rfl) (hO.cell 0 rfl rfl)) fun a hF => ?_
      refine wl_v hF rfl rfl rfl (q_move rfl (hF.eval rfl)) fun a hF => ?_
      refine wl_v hF rfl rfl rfl (q_at (i := x.toNat) (hO.rd 2 rfl) Try.underlying72 Try.sizeOf84 rfl (hF.eval rfl) ((hF.eval rfl).trans (congrArg i64 ((Int.toNat_of_nonneg (hxr.1)).symm))) (by omega)) fun a hF => ?_
      refine wl_v hF rfl rfl rfl (q_fieldAddr0 (d := 4) Try.underlying84 rfl (hF.eval rfl) rfl Try.sizeOf4 (by decide) rfl) fun a hF => ?_
      refine wl_s hF rfl rfl (e_storeElT (m := x.toNat) (off := 4) (q := setK ((unknowF (emptyH h 0).heads (h.rem.take j)).getD x.toNat hd0) false) hO (i := 2) rfl Try.sizeOf4 rfl ((hF.eval rfl).trans (congrArg ptr (add_add' _ _ _))) rfl (hF.eval rfl) rfl (get_D (d := hd0) (by omega)) rfl (Nat.le_of_ble_eq_true rfl) rfl (all1 rfl)) ?_
      rintro a _ w ⟨-, hO⟩ hF
      have hO : St _ _ _ [_, _, _, _] := hO
      refine wl_nil ?_
      refine b_n ?_
      refine k_n ?_
      refine wp_region_lit ?_
      refine wl_v hF rfl rfl rfl (q_add rfl (hF.eval rfl) (hF.eval rfl) (by omega)) fun a hF => ?_
      refine wl_v hF rfl rfl rfl (q_move rfl (hF.eval rfl)) fun a hF => ?_
      refine wl_nil ?_
      refine k_n ?_
      have hO : St _ _ _ [_, _, _, _] := hO
      rw [← unknow_on, ← takeAt hx] at hO
      exact ⟨j + 1, ⟨by omega, hO, hF.sub ⟨rfl, rfl, rfl, rfl, trivial⟩⟩, by omega⟩
    · skip
      obtain rfl : j = h.rem.length := by omega
      rw [List.take_length] at hO
      refine wp_exit ?_
      refine k_x ?_
      refine k_x ?_
      refine b_x ?_
      refine k_n ?_
      refine wp_region_lit ?_
      refine wl_v hF rfl rfl rfl (q_move rfl (hF.eval rfl)) fun a hF => ?_
      refine wl_v hF rfl rfl rfl (q_nilCheck rfl (hF.eval rfl)) fun a hF => ?_
      refine wl_v hF rfl rfl rfl (q_fieldAddr0 (d := 12) Try.underlying77 rfl (hF.eval rfl) rfl Try.sizeOf36 (by decide) rfl) fun a hF => ?_
      refine wl_s hF rfl rfl (e_store1 hO (i := 0) rfl Try.sizeOf36 rfl (hF.eval rfl) (hF.eval rfl) rfl rfl rfl) ?_
      rintro a _ w ⟨-, hO⟩ hF
      have hO : St _ _ _ [_, _, _, _] := hO
      have hO := (hO.drop1 3).nilSl 3 1
      have hO := hO.perm (L' := [_, _, _, _]) ((List.perm_append_comm (l₁ := [_]) (l₂ := [_, _, _])).symm)
      refine wl_nil ?_
      refine r_0n hF rfl ?_
      have hO : St _ _ _ [_, _, _, _] := hO
      exact ⟨_, rfl, hO⟩

set_option maxHeartbeats 2000000 in
theorem new_r (w0 : World) (y o : Int) : Ret Try.prog 11 #[i64 y, i64 o] w0 (fun v w' => (newBad y o ∧ v = .tuple #[.pointer none, i64 1] ∧ St w0 [] w' []) ∨ (¬ newBad y o ∧ ∃ bh vw vh vr, v = .tuple #[ptr (adr bh), i64 0] ∧ St w0 [] w' [.ob bh 77 (hpC vw vh vr (newH y o)), slT vw 27 wordE (newH y o).words, slT vh 84 headE (newH y o).heads, slT vr 3 intE (newH y o).rem])) := by
  have hO := St.init0 w0
  refine ret_of (m := 53) Try.func11 rfl Try.ntmps11 [(0, i64 y), (1, i64 o)] rfl ⟨rfl, rfl, trivial⟩ fun a hF => ?_
  refine wp_seq ?_
  refine wp_region_lit ?_
  refine wl_v hF rfl rfl rfl (q_assign rfl (hF.eval rfl)) fun a hF => ?_
  refine wl_v hF rfl rfl rfl (q_assign rfl (hF.eval rfl)) fun a hF => ?_
  refine wl_nil ?_
  refine k_n ?_
  refine wp_seq ?_
  refine wp_seq ?_
  refine wp_region_lit ?_
  refine wl_v hF rfl rfl rfl (q_move rfl (hF.eval rfl)) fun a hF => ?_
  refine wl_v hF rfl rfl rfl (q_lt rfl (hF.eval rfl) (hF.eval rfl)) fun a hF => ?_
  refine wl_v hF rfl rfl rfl (q_move rfl (hF.eval rfl)) fun a hF => ?_
  refine wl_g hF rfl rfl rfl rfl rfl rfl (fun hg => q_move rfl (hF.eval rfl)) fun a hF => ?_
  refine wl_g hF rfl rfl rfl rfl rfl rfl (fun hg => q_gt rfl ((hF.eval rfl).trans (gv_of hg)) (hF.eval rfl)) fun a hF => ?_
  refine wl_v hF rfl rfl rfl (q_or rfl (hF.eval rfl) rfl (fun hg2 => ((hF.eval rfl).trans (gv_of hg2))) rfl) fun a hF => ?_
  refine wl_v hF rfl rfl rfl (q_move rfl (hF.eval rfl)) fun a hF => ?_
  refine wl_g hF rfl rfl rfl rfl rfl rfl (fun hg => q_move rfl (hF.eval rfl)) fun a hF => ?_
  refine wl_g hF rfl rfl rfl rfl rfl rfl (fun hg => q_lt rfl ((hF.eval rfl).trans (gv_of hg)) (hF.eval rfl)) fun a hF => ?_
  refine wl_v hF rfl rfl rfl (q_or rfl (hF.eval rfl) rfl (fun hg2 => ((hF.eval rfl).trans (gv_of hg2))) rfl) fun a hF => ?_
  refine wl_v hF rfl rfl rfl (q_move rfl (hF.eval rfl)) fun a hF => ?_
  refine wl_g hF rfl rfl rfl rfl rfl rfl (fun hg => q_move rfl (hF.eval rfl)) fun a hF => ?_
  refine wl_g hF rfl rfl rfl rfl rfl rfl (fun hg => q_gt rfl ((hF.eval rfl).trans (gv_of hg)) (hF.eval rfl)) fun a hF => ?_
  refine wl_v hF rfl rfl rfl (q_or rfl (hF.eval rfl) rfl (fun hg2 => ((hF.eval rfl).trans (gv_of hg2))) rfl) fun a hF => ?_
  refine wl_nil ?_
  refine k_n ?_
  refine wp_ifD hF rfl rfl (fun hc1 => ?_) (fun hc1 => ?_)
  · skip
    refine wp_seq ?_
    refine wp_region_lit ?_
    refine wl_v hF rfl rfl rfl (q_assign rfl (hF.eval rfl)) fun a hF => ?_
    refine wl_v hF rfl rfl rfl (q_assign rfl (hF.eval rfl)) fun a hF => ?_
    refine wl_nil ?_
    refine k_n ?_
    refine wp_ret ?_
    refine k_r ?_
    refine r_2 hF rfl rfl rfl ?_
    exact .inl ⟨hc1, rfl, hO⟩
  · skip
    have hnb : ¬ newBad y o := hc1
    have g1 := not_or.1 hc1
    have g2 := not_or.1 g1.1
    have g3 := not_or.1 g2.1
    have hN : ((y + 2 * o).toNat : Int) = y + 2 * o := Int.toNat_of_nonneg (by omega)
    refine wp_skip ?_
    refine k_n ?_
    refine wp_seq ?_
    refine wp_region_lit ?_
    refine wl_v hF rfl rfl rfl (q_move rfl (hF.eval rfl)) fun a hF => ?_
    refine wl_v hF rfl rfl rfl (q_move rfl (hF.eval rfl)) fun a hF => ?_
    refine wl_v hF rfl rfl rfl (q_mul rfl (hF.eval rfl) (hF.eval rfl) (by omega)) fun a hF => ?_
    refine wl_v hF rfl rfl rfl (q_add rfl (hF.eval rfl) (hF.eval rfl) (by omega)) fun a hF => ?_
    refine wl_v hF rfl rfl rfl (q_assign rfl (hF.eval rfl)) fun a hF => ?_
    refine wl_nil ?_
    refine k_n ?_
    refine wp_seq ?_
    refine wp_region_C [0, 4, 0, 4, 0, 0, 0, 4, 0] Try_mixed (by kernel_rfl) hO ?_
    refine wc_p hF rfl rfl rfl (fun w => q_move rfl (hF.eval rfl)) fun a hF => ?_
    refine wc_m hF rfl rfl rfl (m_makeT (E := wordE) (z := wd0) (m := (y + 2 * o).toNat) (bytes := 16) Try.underlying37 Try_info27 rfl rfl rfl rfl ((hF.eval rfl).trans (congrArg i64 hN.symm)) ((hF.eval rfl).trans (congrArg i64 hN.symm)) (by omega) (by omega)) fun b_w a hF => ?_
    refine wc_p hF rfl rfl rfl (fun w => q_move rfl (hF.eval rfl)) fun a hF => ?_
    refine wc_m hF rfl rfl rfl (m_makeT (E := headE) (z := hd0) (m := (y + 2 * o).toNat) (bytes := 40) Try.underlying72 Try_info84 rfl rfl rfl rfl ((hF.eval rfl).trans (congrArg i64 hN.symm)) ((hF.eval rfl).trans (congrArg i64 hN.symm)) (by omega) (by omega)) fun b_hd a hF => ?_
    refine wc_p hF rfl rfl rfl (fun w => q_move rfl (hF.eval rfl)) fun a hF => ?_
    refine wc_p hF rfl rfl rfl (fun w => c_build hF Try.underlying74 Try.zeroValue74 Try_places74 rfl rfl rfl rfl) fun a hF => ?_
    refine wc_p hF rfl rfl rfl (fun w => c_buildG hF Try.underlying77 Try.zeroValue77 Try_placesG77 rfl rfl rfl rfl) fun a hF => ?_
    refine wc_m hF rfl rfl rfl (m_box rfl (hF.eval rfl) rfl) fun b_bs a hF => ?_
    refine wc_p hF rfl rfl rfl (fun w => q_assign rfl (hF.eval rfl)) fun a hF => ?_
    refine wc_nil fun w hO => ?_
    have hO : St _ _ _ [_, _, _] := hO
    have hO := hO.asMade (E := wordE) (z := wd0) (i := 2) rfl rfl rfl (by omega)
    have hO := hO.asMade (E := headE) (z := hd0) (i := 1) rfl rfl rfl (by omega)
    have hO := hO.asOb (i := 0) rfl
    have hO : St _ _ _ [_, _, _] := hO
    refine k_n ?_
    refine wp_seq ?_
    refine wp_region_lit ?_
    refine wl_v hF rfl rfl rfl (q_move rfl (hF.eval rfl)) fun a hF => ?_
    refine wl_v hF rfl rfl rfl (q_move rfl (hF.eval rfl)) fun a hF => ?_
    refine wl_v hF rfl rfl rfl (q_move rfl (hF.eval rfl)) fun a hF => ?_
    refine wl_v hF rfl rfl rfl (q_move rfl (hF.eval rfl)) fun a hF => ?_
    refine wl_v hF rfl rfl rfl (q_move rfl (hF.eval rfl)) fun a hF => ?_
    refine wl_v hF rfl rfl rfl (q_add rfl (hF.eval rfl) (hF.eval rfl) (by omega)) fun a hF => ?_
    refine wl_v hF rfl rfl rfl (c_build hF Try.underlying74 Try.zeroValue74 Try_places74 rfl rfl rfl rfl) fun a hF => ?_
    refine wl_v hF rfl rfl rfl (q_move rfl (hF.eval rfl)) fun a hF => ?_
    refine wl_v hF rfl rfl rfl (q_move rfl (hF.eval rfl)) fun a hF => ?_
    refine wl_v hF rfl rfl rfl (q_add rfl (hF.eval rfl) (hF.eval rfl) (by omega)) fun a hF => ?_
    refine wl_v hF rfl rfl rfl (q_move rfl (hF.eval rfl)) fun a hF => ?_
    refine wl_v hF rfl rfl rfl (q_move rfl (hF.eval rfl)) fun a hF => ?_
    refine wl_v hF rfl rfl rfl (q_add rfl (hF.eval rfl) (hF.eval rfl) (by omega)) fun a hF => ?_
    refine wl_v hF rfl rfl rfl (q_move rfl (hF.eval rfl)) fun a hF => ?_
    refine wl_v hF rfl rfl rfl (c_build hF Try.underlying74 Try.zeroValue74 Try_places74 rfl rfl rfl rfl) fun a hF => ?_
    refine wl_v hF rfl rfl rfl (c_buildArr hF Try.underlying75 Try.zeroValue75 Try.sizeOf74 rfl rfl rfl rfl) fun a hF => ?_
    refine wl_v hF rfl rfl rfl (q_nilCheck rfl (hF.eval rfl)) fun a hF => ?_
    refine wl_v hF rfl rfl rfl (q_fieldAddr0 (d := 5) Try.underlying77 rfl (hF.eval rfl) rfl Try.sizeOf75 (by decide) rfl) fun a hF => ?_
    refine wl_s hF rfl rfl (e_store (k := 5) hO (i := 0) rfl Try.sizeOf75 rfl (hF.eval rfl) (hF.eval rfl) rfl (Nat.le_of_ble_eq_true rfl) (all1 rfl)) ?_
    rintro a _ w ⟨-, hO⟩ hF
    have hO : St _ _ _ [_, _, _] := hO
    have hO := hO.nilSl 3 1
    refine wl_nil ?_
    refine k_n ?_
    refine wp_seq ?_
    refine wp_region_lit ?_
    refine wl_v hF rfl rfl rfl (q_move rfl (hF.eval rfl)) fun a hF => ?_
    refine wl_v hF rfl rfl rfl (q_assign rfl (hF.eval rfl)) fun a hF => ?_
    refine wl_v hF rfl rfl rfl (q_assign rfl (hF.eval rfl)) fun a hF => ?_
    refine wl_nil ?_
    refine k_n ?_
    refine wp_ret ?_
    refine r_2 hF rfl rfl rfl ?_
    have hO := hO.pull 2 rfl
    have hO := hO.pull 3 rfl
    have hO := hO.pull 3 rfl
    exact .inr ⟨hnb, _, _, _, _, rfl, hO⟩

end Go.Proofs.Ytglienidnffnjaa
