import Derived.Test.YtglienidnffnjaaHk
import Derived.Test.YtglienidnffnjaaPl15
import Derived.Test.YtglienidnffnjaaGw27
namespace Go.Proofs.Ytglienidnffnjaa
open Go
set_option maxRecDepth 100000
set_option linter.unusedVariables false
theorem left0_r (w0 : World) (bh : Nat) (vw vh vr : Value) (h : Hp) (hH : HR w0 [] bh vw vh vr h) (hw : Wf h) (hu : h.use = 0) : Ret Try.prog 41 #[ptr (adr bh)] w0 (fun v w' => v = i64 (h.b.next - h.b.first) ∧ St w0 [] w' []) := by
  have hO := St.init0 w0
  obtain ⟨r1, r2, r3, r4⟩ := hw.b
  have hle := hw.le
  refine ret_of (m := 21) Try.func41 rfl Try.ntmps41 [(0, ptr (adr bh))] rfl ⟨rfl, trivial⟩ fun a hF => ?_
  refine wp_seq ?_
  refine wp_region_lit ?_
  refine wl_v hF rfl rfl rfl (q_assign rfl (hF.eval rfl)) fun a hF => ?_
  refine wl_nil ?_
  refine k_n ?_
  refine wp_seq ?_
  refine wp_seq ?_
  refine wp_region_lit ?_
  refine wl_v hF rfl rfl rfl (q_move rfl (hF.eval rfl)) fun a hF => ?_
  refine wl_v hF rfl rfl rfl (q_peq Try.underlying22 rfl (hF.eval rfl) (hF.eval rfl)) fun a hF => ?_
  refine wl_nil ?_
  refine k_n ?_
  refine wp_ifD hF rfl rfl (fun hc1 => ?_) (fun hc1 => ?_)
  · skip
    exact absurd hc1 (by simp)
  · skip
    refine wp_skip ?_
    refine k_n ?_
    refine wp_seq ?_
    have hO := hO.drew
    refine wp_region_D [0, 0, 0, 0, 1, 0, 0, 0, 0, 1, 2, 3] (fun w => St _ _ w _) Try_mixed (by kernel_rfl) hO ?_
    refine wd_p hF rfl rfl rfl (fun w => q_move rfl (hF.eval rfl)) fun a hF => ?_
    refine wd_p hF rfl rfl rfl (fun w => q_move rfl (hF.eval rfl)) fun a hF => ?_
    refine wd_p hF rfl rfl rfl (fun w => q_nilCheck rfl (hF.eval rfl)) fun a hF => ?_
    refine wd_p hF rfl rfl rfl (fun w => q_fieldAddr0 (d := 11) Try.underlying77 rfl (hF.eval rfl) rfl Try.sizeOf3 (by decide) rfl) fun a hF => ?_
    refine wd_r hF rfl rfl rfl (fun w hO => q_load Try.isAgg3 rfl (hF.eval rfl) (rdB_cell (HR.now hH hO).blk rfl)) fun a hF => ?_
    refine wd_p hF rfl rfl rfl (fun w => q_sub rfl (hF.eval rfl) (hF.eval rfl) (by rw [hu]; decide)) fun a hF => ?_
    refine wd_p hF rfl rfl rfl (fun w => q_nilCheck rfl (hF.eval rfl)) fun a hF => ?_
    refine wd_p hF rfl rfl rfl (fun w => q_fieldAddr0 (d := 5) Try.underlying77 rfl (hF.eval rfl) rfl Try.sizeOf75 (by decide) rfl) fun a hF => ?_
    refine wd_p hF rfl rfl rfl (fun w => q_atArrK (i := 1) (d := 5) Try.underlying75 Try.sizeOf74 rfl (hF.eval rfl) ((hF.eval rfl).trans (congrArg i64 (show (1 : Int) - (h.use : Int) = ((1 : Nat) : Int) by rw [hu]; rfl))) (by decide)) fun a hF => ?_
    refine wd_r hF rfl rfl rfl (fun w hO => q_loadAgg Try.isAgg74 Try.sizeOf74 rfl (hF.eval rfl) (rdB_cells (HR.now hH hO).blk 8 3 rfl) rfl) fun a hF => ?_
    refine wd_e hF rfl rfl rfl (e_alloc hO Try.zeroValue74 rfl rfl) (fun _ _ ⟨_, _, hO⟩ => hO.tail) ?_
    rintro a _ w ⟨t4, rfl, hO⟩ hF
    refine wd_s hF rfl rfl (e_storeAll hO (i := 0) rfl Try.sizeOf74 rfl (hF.eval rfl) (hF.eval rfl) rfl rfl) ?_
    rintro a _ w ⟨-, hO⟩ hF
    have hO : St _ _ _ [_] := hO
    refine wd_nil ?_
    refine k_n ?_
    refine wp_seq ?_
    refine wp_region_lit ?_
    refine wl_v hF rfl rfl rfl (q_fieldAddr0 (d := 1) Try.underlying74 rfl (hF.eval rfl) rfl Try.sizeOf3 (by decide) rfl) fun a hF => ?_
    refine wl_v hF rfl rfl rfl (q_load Try.isAgg3 rfl (hF.eval rfl) (hO.cell 0 rfl rfl)) fun a hF => ?_
    refine wl_v hF rfl rfl rfl (q_fieldAddr0 (d := 0) Try.underlying74 rfl (hF.eval rfl) rfl Try.sizeOf3 (by decide) rfl) fun a hF => ?_
    refine wl_v hF rfl rfl rfl (q_load Try.isAgg3 rfl (hF.eval rfl) (hO.cell 0 rfl rfl)) fun a hF => ?_
    refine wl_v hF rfl rfl rfl (q_sub rfl (hF.eval rfl) (hF.eval rfl) (by omega)) fun a hF => ?_
    refine wl_v hF rfl rfl rfl (q_assign rfl (hF.eval rfl)) fun a hF => ?_
    refine wl_nil ?_
    refine k_n ?_
    refine wp_ret ?_
    refine r_1 hF rfl rfl ?_
    have hO := hO.drop1 0
    have hO : St _ _ _ [] := hO
    exact ⟨rfl, hO⟩

theorem left1_r (w0 : World) (bh : Nat) (vw vh vr : Value) (h : Hp) (hH : HR w0 [] bh vw vh vr h) (hw : Wf h) (hu : h.use = 1) : Ret Try.prog 41 #[ptr (adr bh)] w0 (fun v w' => v = i64 (h.a.next - h.a.first) ∧ St w0 [] w' []) := by
  have hO := St.init0 w0
  obtain ⟨r1, r2, r3, r4⟩ := hw.a
  have hle := hw.le
  refine ret_of (m := 21) Try.func41 rfl Try.ntmps41 [(0, ptr (adr bh))] rfl ⟨rfl, trivial⟩ fun a hF => ?_
  refine wp_seq ?_
  refine wp_region_lit ?_
  refine wl_v hF rfl rfl rfl (q_assign rfl (hF.eval rfl)) fun a hF => ?_
  refine wl_nil ?_
  refine k_n ?_
  refine wp_seq ?_
  refine wp_seq ?_
  refine wp_region_lit ?_
  refine wl_v hF rfl rfl rfl (q_move rfl (hF.eval rfl)) fun a hF => ?_
  refine wl_v hF rfl rfl rfl (q_peq Try.underlying22 rfl (hF.eval rfl) (hF.eval rfl)) fun a hF => ?_
  refine wl_nil ?_
  refine k_n ?_
  refine wp_ifD hF rfl rfl (fun hc1 => ?_) (fun hc1 => ?_)
  · skip
    exact absurd hc1 (by simp)
  · skip
    refine wp_skip ?_
    refine k_n ?_
    refine wp_seq ?_
    have hO := hO.drew
    refine wp_region_D [0, 0, 0, 0, 1, 0, 0, 0, 0, 1, 2, 3] (fun w => St _ _ w _) Try_mixed (by kernel_rfl) hO ?_
    refine wd_p hF rfl rfl rfl (fun w => q_move rfl (hF.eval rfl)) fun a hF => ?_
    refine wd_p hF rfl rfl rfl (fun w => q_move rfl (hF.eval rfl)) fun a hF => ?_
    refine wd_p hF rfl rfl rfl (fun w => q_nilCheck rfl (hF.eval rfl)) fun a hF => ?_
    refine wd_p hF rfl rfl rfl (fun w => q_fieldAddr0 (d := 11) Try.underlying77 rfl (hF.eval rfl) rfl Try.sizeOf3 (by decide) rfl) fun a hF => ?_
    refine wd_r hF rfl rfl rfl (fun w hO => q_load Try.isAgg3 rfl (hF.eval rfl) (rdB_cell (HR.now hH hO).blk rfl)) fun a hF => ?_
    refine wd_p hF rfl rfl rfl (fun w => q_sub rfl (hF.eval rfl) (hF.eval rfl) (by rw [hu]; decide)) fun a hF => ?_
    refine wd_p hF rfl rfl rfl (fun w => q_nilCheck rfl (hF.eval rfl)) fun a hF => ?_
    refine wd_p hF rfl rfl rfl (fun w => q_fieldAddr0 (d := 5) Try.underlying77 rfl (hF.eval rfl) rfl Try.sizeOf75 (by decide) rfl) fun a hF => ?_
    refine wd_p hF rfl rfl rfl (fun w => q_atArrK (i := 0) (d := 5) Try.underlying75 Try.sizeOf74 rfl (hF.eval rfl) ((hF.eval rfl).trans (congrArg i64 (show (1 : Int) - (h.use : Int) = ((0 : Nat) : Int) by rw [hu]; rfl))) (by decide)) fun a hF => ?_
    refine wd_r hF rfl rfl rfl (fun w hO => q_loadAgg Try.isAgg74 Try.sizeOf74 rfl (hF.eval rfl) (rdB_cells (HR.now hH hO).blk 5 3 rfl) rfl) fun a hF => ?_
    refine wd_e hF rfl rfl rfl (e_alloc hO Try.zeroValue74 rfl rfl) (fun _ _ ⟨_, _, hO⟩ => hO.tail) ?_
    rintro a _ w ⟨t4, rfl, hO⟩ hF
    refine wd_s hF rfl rfl (e_storeAll hO (i := 0) rfl Try.sizeOf74 rfl (hF.eval rfl) (hF.eval rfl) rfl rfl) ?_
    rintro a _ w ⟨-, hO⟩ hF
    have hO : St _ _ _ [_] := hO
    refine wd_nil ?_
    refine k_n ?_
    refine wp_seq ?_
    refine wp_region_lit ?_
    refine wl_v hF rfl rfl rfl (q_fieldAddr0 (d := 1) Try.underlying74 rfl (hF.eval rfl) rfl Try.sizeOf3 (by decide) rfl) fun a hF => ?_
    refine wl_v hF rfl rfl rfl (q_load Try.isAgg3 rfl (hF.eval rfl) (hO.cell 0 rfl rfl)) fun a hF => ?_
    refine wl_v hF rfl rfl rfl (q_fieldAddr0 (d := 0) Try.underlying74 rfl (hF.eval rfl) rfl Try.sizeOf3 (by decide) rfl) fun a hF => ?_
    refine wl_v hF rfl rfl rfl (q_load Try.isAgg3 rfl (hF.eval rfl) (hO.cell 0 rfl rfl)) fun a hF => ?_
    refine wl_v hF rfl rfl rfl (q_sub rfl (hF.eval rfl) (hF.eval rfl) (by omega)) fun a hF => ?_
    refine wl_v hF rfl rfl rfl (q_assign rfl (hF.eval rfl)) fun a hF => ?_
    refine wl_nil ?_
    refine k_n ?_
    refine wp_ret ?_
    refine r_1 hF rfl rfl ?_
    have hO := hO.drop1 0
    have hO : St _ _ _ [] := hO
    exact ⟨rfl, hO⟩


theorem left_r (w0 : World) (bh : Nat) (vw vh vr : Value) (h : Hp) (hH : HR w0 [] bh vw vh vr h) (hw : Wf h) : Ret Try.prog 41 #[ptr (adr bh)] w0 (fun v w' => v = i64 (leftF h) ∧ St w0 [] w' []) := by
  have hu := hw.use
  rcases (by omega : h.use = 0 ∨ h.use = 1) with hu | hu
  · have e : leftF h = h.b.next - h.b.first := by unfold leftF; rw [hu]; rfl
    rw [e]; exact left0_r w0 bh vw vh vr h hH hw hu
  · have e : leftF h = h.a.next - h.a.first := by unfold leftF; rw [hu]; rfl
    rw [e]; exact left1_r w0 bh vw vh vr h hH hw hu
theorem half_r (w0 : World) (bh : Nat) (vw vh vr : Value) (h : Hp) (hH : HR w0 [] bh vw vh vr h) (hw : Wf h) : Ret Try.prog 43 #[ptr (adr bh)] w0 (fun v w' => v = i64 (halfF h) ∧ St w0 [] w' []) := by
  have hO := St.init0 w0
  obtain ⟨r1, r2, r3, r4⟩ := hw.a
  have hle := hw.le
  refine ret_of (m := 18) Try.func43 rfl Try.ntmps43 [(0, ptr (adr bh))] rfl ⟨rfl, trivial⟩ fun a hF => ?_
  refine wp_seq ?_
  refine wp_region_lit ?_
  refine wl_v hF rfl rfl rfl (q_assign rfl (hF.eval rfl)) fun a hF => ?_
  refine wl_nil ?_
  refine k_n ?_
  refine wp_seq ?_
  refine wp_seq ?_
  refine wp_region_lit ?_
  refine wl_v hF rfl rfl rfl (q_move rfl (hF.eval rfl)) fun a hF => ?_
  refine wl_v hF rfl rfl rfl (q_peq Try.underlying22 rfl (hF.eval rfl) (hF.eval rfl)) fun a hF => ?_
  refine wl_nil ?_
  refine k_n ?_
  refine wp_ifD hF rfl rfl (fun hc1 => ?_) (fun hc1 => ?_)
  · skip
    exact absurd hc1 (by simp)
  · skip
    refine wp_skip ?_
    refine k_n ?_
    refine wp_seq ?_
    have hO := hO.drew
    refine wp_region_D [0, 0, 0, 0, 0, 1, 0, 0, 0, 0, 0, 1, 0, 0] (fun w => St _ _ w _) Try_mixed (by kernel_rfl) hO ?_
    refine wd_p hF rfl rfl rfl (fun w => q_move rfl (hF.eval rfl)) fun a hF => ?_
    refine wd_p hF rfl rfl rfl (fun w => q_nilCheck rfl (hF.eval rfl)) fun a hF => ?_
    refine wd_p hF rfl rfl rfl (fun w => q_fieldAddr0 (d := 5) Try.underlying77 rfl (hF.eval rfl) rfl Try.sizeOf75 (by decide) rfl) fun a hF => ?_
    refine wd_p hF rfl rfl rfl (fun w => q_atArrK (i := 0) (d := 5) Try.underlying75 Try.sizeOf74 rfl (hF.eval rfl) (hF.eval rfl) (by decide)) fun a hF => ?_
    refine wd_p hF rfl rfl rfl (fun w => q_fieldAddr (d := 2) Try.underlying74 rfl (hF.eval rfl) rfl Try.sizeOf3 (by decide) rfl) fun a hF => ?_
    refine wd_r hF rfl rfl rfl (fun w hO => q_load Try.isAgg3 rfl (hF.eval rfl) (rdB_cell (HR.now hH hO).blk rfl)) fun a hF => ?_
    refine wd_p hF rfl rfl rfl (fun w => q_move rfl (hF.eval rfl)) fun a hF => ?_
    refine wd_p hF rfl rfl rfl (fun w => q_nilCheck rfl (hF.eval rfl)) fun a hF => ?_
    refine wd_p hF rfl rfl rfl (fun w => q_fieldAddr0 (d := 5) Try.underlying77 rfl (hF.eval rfl) rfl Try.sizeOf75 (by decide) rfl) fun a hF => ?_
    refine wd_p hF rfl rfl rfl (fun w => q_atArrK (i := 0) (d := 5) Try.underlying75 Try.sizeOf74 rfl (hF.eval rfl) (hF.eval rfl) (by decide)) fun a hF => ?_
    refine wd_p hF rfl rfl rfl (fun w => q_fieldAddr (d := 0) Try.underlying74 rfl (hF.eval rfl) rfl Try.sizeOf3 (by decide) rfl) fun a hF => ?_
    refine wd_r hF rfl rfl rfl (fun w hO => q_load Try.isAgg3 rfl (hF.eval rfl) (rdB_cell (HR.now hH hO).blk rfl)) fun a hF => ?_
    refine wd_p hF rfl rfl rfl (fun w => q_sub rfl (hF.eval rfl) (hF.eval rfl) (by omega)) fun a hF => ?_
    refine wd_p hF rfl rfl rfl (fun w => q_assign rfl (hF.eval rfl)) fun a hF => ?_
    refine wd_nil ?_
    refine k_n ?_
    refine wp_ret ?_
    refine r_1 hF rfl rfl ?_
    have hO : St _ _ _ [] := hO
    exact ⟨rfl, hO⟩

set_option maxHeartbeats 1000000 in
theorem empty1_r (w0 : World) (bh : Nat) (vw vh vr : Value) (h : Hp) (hA : Owns w0 [.ob bh 77 (hpC vw vh vr h), slT vw 27 wordE h.words, slT vh 84 headE h.heads, slT vr 3 intE h.rem]) (hw : Wf h) (hrl : h.rem.length ≤ 100000000000) : Ret Try.prog 59 #[ptr (adr bh), ptr ((adr bh).add 5)] w0 (fun v w' => v = .tuple #[] ∧ St w0 (blks [.ob bh 77 (hpC vw vh vr h), slT vw 27 wordE h.words, slT vh 84 headE h.heads, slT vr 3 intE h.rem]) w' [.ob bh 77 (hpC vw vh vr (emptyH h 1)), slT vw 27 wordE (emptyH h 1).words, slT vh 84 headE (emptyH h 1).heads, slT vr 3 intE (emptyH h 1).rem]) := by
  have hO := St.init hA
  have hle := hw.le
  have hlen := hw.len
  obtain ⟨r1, r2, r3, r4⟩ := hw.a
  refine ret_of (m := 24) Try.func59 rfl Try.ntmps59 [(0, ptr (adr bh)), (1, ptr ((adr bh).add 5))] rfl ⟨rfl, rfl, trivial⟩ fun a hF => ?_
  refine wp_seq ?_
  have hO := hO.drew
  refine wp_region_D [0, 0, 0, 1, 0, 0, 0, 1, 0, 0, 0, 1, 0, 3] (fun w => St _ _ w _) Try_mixed (by kernel_rfl) hO ?_
  refine wd_p hF rfl rfl rfl (fun w => q_move rfl (hF.eval rfl)) fun a hF => ?_
  refine wd_p hF rfl rfl rfl (fun w => q_nilCheck rfl (hF.eval rfl)) fun a hF => ?_
  refine wd_p hF rfl rfl rfl (fun w => q_fieldAddr0 (d := 1) Try.underlying77 rfl (hF.eval rfl) rfl Try.sizeOf72 (by decide) rfl) fun a hF => ?_
  refine wd_r hF rfl rfl rfl (fun w hO => q_load Try.isAgg72 rfl (hF.eval rfl) (hO.cell 0 rfl rfl)) fun a hF => ?_
  refine wd_p hF rfl rfl rfl (fun w => q_move rfl (hF.eval rfl)) fun a hF => ?_
  refine wd_p hF rfl rfl rfl (fun w => q_nilCheck rfl (hF.eval rfl)) fun a hF => ?_
  refine wd_p hF rfl rfl rfl (fun w => q_fieldAddr (d := 0) Try.underlying74 rfl (hF.eval rfl) rfl Try.sizeOf3 (by decide) rfl) fun a hF => ?_
  refine wd_r hF rfl rfl rfl (fun w hO => q_load Try.isAgg3 rfl (hF.eval rfl) (hO.cell 0 rfl rfl)) fun a hF => ?_
  refine wd_p hF rfl rfl rfl (fun w => q_move rfl (hF.eval rfl)) fun a hF => ?_
  refine wd_p hF rfl rfl rfl (fun w => q_nilCheck rfl (hF.eval rfl)) fun a hF => ?_
  refine wd_p hF rfl rfl rfl (fun w => q_fieldAddr (d := 1) Try.underlying74 rfl (hF.eval rfl) rfl Try.sizeOf3 (by decide) rfl) fun a hF => ?_
  refine wd_r hF rfl rfl rfl (fun w hO => q_load Try.isAgg3 rfl (hF.eval rfl) (hO.cell 0 rfl rfl)) fun a hF => ?_
  refine wd_p hF rfl rfl rfl (fun w => q_cut2 (i := h.a.first.toNat) (j := h.a.next.toNat) (hO.rd 2 rfl) Try.underlying72 Try.sizeOf84 rfl (hF.eval rfl) ((hF.eval rfl).trans (congrArg i64 ((Int.toNat_of_nonneg (by omega)).symm))) ((hF.eval rfl).trans (congrArg i64 ((Int.toNat_of_nonneg (by omega)).symm))) (by omega) (by omega)) fun a hF => ?_
  refine wd_s hF rfl rfl (e_clearT (z0 := hd0) (p := h.a.first.toNat) (q := h.a.next.toNat) hO (i := 2) rfl Try.underlying72 Try.zeroValue84 rfl rfl (hF.eval rfl) (by omega) (by omega) rfl) ?_
  rintro a _ w hO hF
  have hO : St _ _ _ [_, _, _, _] := hO
  refine wd_nil ?_
  refine k_n ?_
  refine wp_region_lit ?_
  refine wl_v hF rfl rfl rfl (q_move rfl (hF.eval rfl)) fun a hF => ?_
  refine wl_v hF rfl rfl rfl (q_move rfl (hF.eval rfl)) fun a hF => ?_
  refine wl_v hF rfl rfl rfl (q_nilCheck rfl (hF.eval rfl)) fun a hF => ?_
  refine wl_v hF rfl rfl rfl (q_fieldAddr (d := 0) Try.underlying74 rfl (hF.eval rfl) rfl Try.sizeOf3 (by decide) rfl) fun a hF => ?_
  refine wl_v hF rfl rfl rfl (q_load Try.isAgg3 rfl (hF.eval rfl) (hO.cell 0 rfl rfl)) fun a hF => ?_
  refine wl_v hF rfl rfl rfl (q_nilCheck rfl (hF.eval rfl)) fun a hF => ?_
  refine wl_v hF rfl rfl rfl (q_fieldAddr (d := 1) Try.underlying74 rfl (hF.eval rfl) rfl Try.sizeOf3 (by decide) rfl) fun a hF => ?_
  refine wl_s hF rfl rfl (e_store1 hO (i := 0) rfl Try.sizeOf3 rfl (hF.eval rfl) (hF.eval rfl) rfl rfl rfl) ?_
  rintro a _ w ⟨-, hO⟩ hF
  have hO : St _ _ _ [_, _, _, _] := hO
  refine wl_nil ?_
  refine r_0n hF rfl ?_
  have hO : St _ _ _ [_, _, _, _] := hO
  exact ⟨rfl, hO⟩

set_option maxHeartbeats 1000000 in
theorem empty2_r (w0 : World) (bh : Nat) (vw vh vr : Value) (h : Hp) (hA : Owns w0 [.ob bh 77 (hpC vw vh vr h), slT vw 27 wordE h.words, slT vh 84 headE h.heads, slT vr 3 intE h.rem]) (hw : Wf h) (hrl : h.rem.length ≤ 100000000000) : Ret Try.prog 59 #[ptr (adr bh), ptr ((adr bh).add 8)] w0 (fun v w' => v = .tuple #[] ∧ St w0 (blks [.ob bh 77 (hpC vw vh vr h), slT vw 27 wordE h.words, slT vh 84 headE h.heads, slT vr 3 intE h.rem]) w' [.ob bh 77 (hpC vw vh vr (emptyH h 2)), slT vw 27 wordE (emptyH h 2).words, slT vh 84 headE (emptyH h 2).heads, slT vr 3 intE (emptyH h 2).rem]) := by
  have hO := St.init hA
  have hle := hw.le
  have hlen := hw.len
  obtain ⟨r1, r2, r3, r4⟩ := hw.b
  refine ret_of (m := 24) Try.func59 rfl Try.ntmps59 [(0, ptr (adr bh)), (1, ptr ((adr bh).add 8))] rfl ⟨rfl, rfl, trivial⟩ fun a hF => ?_
  refine wp_seq ?_
  have hO := hO.drew
  refine wp_region_D [0, 0, 0, 1, 0, 0, 0, 1, 0, 0, 0, 1, 0, 3] (fun w => St _ _ w _) Try_mixed (by kernel_rfl) hO ?_
  refine wd_p hF rfl rfl rfl (fun w => q_move rfl (hF.eval rfl)) fun a hF => ?_
  refine wd_p hF rfl rfl rfl (fun w => q_nilCheck rfl (hF.eval rfl)) fun a hF => ?_
  refine wd_p hF rfl rfl rfl (fun w => q_fieldAddr0 (d := 1) Try.underlying77 rfl (hF.eval rfl) rfl Try.sizeOf72 (by decide) rfl) fun a hF => ?_
  refine wd_r hF rfl rfl rfl (fun w hO => q_load Try.isAgg72 rfl (hF.eval rfl) (hO.cell 0 rfl rfl)) fun a hF => ?_
  refine wd_p hF rfl rfl rfl (fun w => q_move rfl (hF.eval rfl)) fun a hF => ?_
  refine wd_p hF rfl rfl rfl (fun w => q_nilCheck rfl (hF.eval rfl)) fun a hF => ?_
  refine wd_p hF rfl rfl rfl (fun w => q_fieldAddr (d := 0) Try.underlying74 rfl (hF.eval rfl) rfl Try.sizeOf3 (by decide) rfl) fun a hF => ?_
  refine wd_r hF rfl rfl rfl (fun w hO => q_load Try.isAgg3 rfl (hF.eval rfl) (hO.cell 0 rfl rfl)) fun a hF => ?_
  refine wd_p hF rfl rfl rfl (fun w => q_move rfl (hF.eval rfl)) fun a hF => ?_
  refine wd_p hF rfl rfl rfl (fun w => q_nilCheck rfl (hF.eval rfl)) fun a hF => ?_
  refine wd_p hF rfl rfl rfl (fun w => q_fieldAddr (d := 1) Try.underlying74 rfl (hF.eval rfl) rfl Try.sizeOf3 (by decide) rfl) fun a hF => ?_
  refine wd_r hF rfl rfl rfl (fun w hO => q_load Try.isAgg3 rfl (hF.eval rfl) (hO.cell 0 rfl rfl)) fun a hF => ?_
  refine wd_p hF rfl rfl rfl (fun w => q_cut2 (i := h.b.first.toNat) (j := h.b.next.toNat) (hO.rd 2 rfl) Try.underlying72 Try.sizeOf84 rfl (hF.eval rfl) ((hF.eval rfl).trans (congrArg i64 ((Int.toNat_of_nonneg (by omega)).symm))) ((hF.eval rfl).trans (congrArg i64 ((Int.toNat_of_nonneg (by omega)).symm))) (by omega) (by omega)) fun a hF => ?_
  refine wd_s hF rfl rfl (e_clearT (z0 := hd0) (p := h.b.first.toNat) (q := h.b.next.toNat) hO (i := 2) rfl Try.underlying72 Try.zeroValue84 rfl rfl (hF.eval rfl) (by omega) (by omega) rfl) ?_
  rintro a _ w hO hF
  have hO : St _ _ _ [_, _, _, _] := hO
  refine wd_nil ?_
  refine k_n ?_
  refine wp_region_lit ?_
  refine wl_v hF rfl rfl rfl (q_move rfl (hF.eval rfl)) fun a hF => ?_
  refine wl_v hF rfl rfl rfl (q_move rfl (hF.eval rfl)) fun a hF => ?_
  refine wl_v hF rfl rfl rfl (q_nilCheck rfl (hF.eval rfl)) fun a hF => ?_
  refine wl_v hF rfl rfl rfl (q_fieldAddr (d := 0) Try.underlying74 rfl (hF.eval rfl) rfl Try.sizeOf3 (by decide) rfl) fun a hF => ?_
  refine wl_v hF rfl rfl rfl (q_load Try.isAgg3 rfl (hF.eval rfl) (hO.cell 0 rfl rfl)) fun a hF => ?_
  refine wl_v hF rfl rfl rfl (q_nilCheck rfl (hF.eval rfl)) fun a hF => ?_
  refine wl_v hF rfl rfl rfl (q_fieldAddr (d := 1) Try.underlying74 rfl (hF.eval rfl) rfl Try.sizeOf3 (by decide) rfl) fun a hF => ?_
  refine wl_s hF rfl rfl (e_store1 hO (i := 0) rfl Try.sizeOf3 rfl (hF.eval rfl) (hF.eval rfl) rfl rfl rfl) ?_
  rintro a _ w ⟨-, hO⟩ hF
  have hO : St _ _ _ [_, _, _, _] := hO
  refine wl_nil ?_
  refine r_0n hF rfl ?_
  have hO : St _ _ _ [_, _, _, _] := hO
  exact ⟨rfl, hO⟩

theorem ixf0_r (w0 : World) (vl f : Value) (hR : RdT w0 [] vl intE []) : Ret Try.prog 79 #[vl, f] w0 (fun v w' => v = i64 (-1) ∧ St w0 [] w' []) := by
  have hO := St.init0 w0
  refine ret_of (m := 19) Try.func79 rfl Try.ntmps79 [(0, vl), (1, f)] rfl ⟨rfl, rfl, trivial⟩ fun a hF => ?_
  refine wp_seq ?_
  refine wp_region_lit ?_
  refine wl_v hF rfl rfl rfl (q_assign rfl (hF.eval rfl)) fun a hF => ?_
  refine wl_nil ?_
  refine k_n ?_
  refine wp_seq ?_
  refine wp_seq ?_
  refine wp_region_lit ?_
  refine wl_v hF rfl rfl rfl (q_move rfl (hF.eval rfl)) fun a hF => ?_
  refine wl_v hF rfl rfl rfl (q_lenRd hR Try.underlying36 rfl (hF.eval rfl)) fun a hF => ?_
  refine wl_v hF rfl rfl rfl (q_move rfl (hF.eval rfl)) fun a hF => ?_
  refine wl_nil ?_
  refine k_n ?_
  refine wp_block ?_
  have hO : St _ _ _ [] := hO
  refine wp_loopS (fun (k : Nat) a w' => (k = 0) ∧ St w0 [] w' [] ∧ Fr a 19 [(0, vl), (1, f), (7, i64 (([] : List Int).length)), (8, i64 k)]) (fun (k : Nat) => 0) 0 ⟨rfl, hO, hF.sub ⟨rfl, rfl, rfl, rfl, trivial⟩⟩ ?_
  rintro k a w ⟨hk, hO, hF⟩
  refine wp_seq ?_
  refine wp_region_lit ?_
  refine wl_v hF rfl rfl rfl (q_lt rfl (hF.eval rfl) (hF.eval rfl)) fun a hF => ?_
  refine wl_nil ?_
  refine k_n ?_
  refine wp_seq ?_
  refine wp_ifD hF rfl rfl (fun hc1 => ?_) (fun hc1 => ?_)
  · skip
    exact absurd hc1 (by simp)
  · skip
    refine wp_exit ?_
    refine k_x ?_
    refine k_x ?_
    refine b_x ?_
    refine k_n ?_
    refine wp_seq ?_
    refine wp_region_lit ?_
    refine wl_v hF rfl rfl rfl (q_assign rfl (hF.eval rfl)) fun a hF => ?_
    refine wl_nil ?_
    refine k_n ?_
    refine wp_ret ?_
    refine r_1 hF rfl rfl ?_
    exact ⟨rfl, hO⟩

theorem del0_r (w0 : World) (vl f : Value) (hR : RdT w0 [] vl intE []) : Ret Try.prog 66 #[vl, f] w0 (fun v w' => v = vl ∧ St w0 [] w' []) := by
  have hO := St.init0 w0
  refine ret_of (m := 42) Try.func66 rfl Try.ntmps66 [(0, vl), (1, f)] rfl ⟨rfl, rfl, trivial⟩ fun a hF => ?_
  refine wp_seq ?_
  refine wp_region_lit ?_
  refine wl_v hF rfl rfl rfl (q_assign rfl (hF.eval rfl)) fun a hF => ?_
  refine wl_nil ?_
  refine k_n ?_
  refine wp_seq ?_
  refine wp_region_lit ?_
  refine wl_v hF rfl rfl rfl (q_move rfl (hF.eval rfl)) fun a hF => ?_
  refine wl_v hF rfl rfl rfl (q_move rfl (hF.eval rfl)) fun a hF => ?_
  refine wl_e hF rfl rfl rfl (c_call hF rfl rfl Try.call79 (ixf0_r _ _ _ (hR.at0 hO))) ?_
  rintro a _ w ⟨rfl, hS⟩ hF
  have hO := hO.call0 hS
  have hO : St _ _ _ [] := hO
  refine wl_v hF rfl rfl rfl (q_assign rfl (hF.eval rfl)) fun a hF => ?_
  refine wl_nil ?_
  refine k_n ?_
  refine wp_seq ?_
  refine wp_seq ?_
  refine wp_region_lit ?_
  refine wl_v hF rfl rfl rfl (q_move rfl (hF.eval rfl)) fun a hF => ?_
  refine wl_v hF rfl rfl rfl (q_eq rfl (hF.eval rfl) (hF.eval rfl)) fun a hF => ?_
  refine wl_nil ?_
  refine k_n ?_
  refine wp_ifD hF rfl rfl (fun hc1 => ?_) (fun hc1 => ?_)
  · skip
    refine wp_seq ?_
    refine wp_region_lit ?_
    refine wl_v hF rfl rfl rfl (q_move rfl (hF.eval rfl)) fun a hF => ?_
    refine wl_v hF rfl rfl rfl (q_assign rfl (hF.eval rfl)) fun a hF => ?_
    refine wl_nil ?_
    refine k_n ?_
    refine wp_ret ?_
    refine k_r ?_
    refine r_1 hF rfl rfl ?_
    have hO : St _ _ _ [] := hO
    exact ⟨rfl, hO⟩
  · skip
    exact absurd rfl hc1

set_option maxHeartbeats 1000000 in
theorem drop0_r (w0 : World) (bh : Nat) (vw vh vr : Value) (h : Hp) (hA : Owns w0 [.ob bh 77 (hpC vw vh vr h), slT vw 27 wordE h.words, slT vh 84 headE h.heads, slT vr 3 intE h.rem]) (hw : Wf h) (hrl : h.rem.length ≤ 100000000000) (hu : h.use = 0) (hrm : h.rem = []) : Ret Try.prog 38 #[ptr (adr bh)] w0 (fun v w' => v = .tuple #[] ∧ St w0 (blks [.ob bh 77 (hpC vw vh vr h), slT vw 27 wordE h.words, slT vh 84 headE h.heads, slT vr 3 intE h.rem]) w' [.ob bh 77 (hpC vw vh vr (emptyH h 2)), slT vw 27 wordE (emptyH h 2).words, slT vh 84 headE (emptyH h 2).heads, slT vr 3 intE (emptyH h 2).rem]) := by
  have hO := St.init hA
  have hle := hw.le
  have hlen := hw.len
  refine ret_of (m := 24) Try.func38 rfl Try.ntmps38 [(0, ptr (adr bh))] rfl ⟨rfl, trivial⟩ fun a hF => ?_
  refine wp_seq ?_
  refine wp_region_lit ?_
  refine wl_e hF rfl rfl rfl (e_box hO rfl (hF.eval rfl) rfl) ?_
  rintro a _ w ⟨hb, rfl, hO⟩ hF
  refine wl_nil ?_
  refine k_n ?_
  refine wp_seq ?_
  refine wp_seq ?_
  refine wp_region_lit ?_
  refine wl_v hF rfl rfl rfl (q_load Try.isAgg22 rfl (hF.eval rfl) (hO.cell0 0 rfl rfl)) fun a hF => ?_
  refine wl_v hF rfl rfl rfl (q_peq Try.underlying22 rfl (hF.eval rfl) (hF.eval rfl)) fun a hF => ?_
  refine wl_nil ?_
  refine k_n ?_
  refine wp_ifD hF rfl rfl (fun hc1 => ?_) (fun hc1 => ?_)
  · skip
    exact absurd hc1 (by simp)
  · skip
    refine wp_skip ?_
    refine k_n ?_
    refine wp_seq ?_
    have hO := hO.drew
    refine wp_region_D [1, 1, 1, 0, 0, 1, 0, 0, 0, 0, 3] (fun w => St _ _ w _) Try_mixed (by kernel_rfl) hO ?_
    refine wd_r hF rfl rfl rfl (fun w hO => q_load Try.isAgg22 rfl (hF.eval rfl) (hO.cell0 0 rfl rfl)) fun a hF => ?_
    refine wd_r hF rfl rfl rfl (fun w hO => q_load Try.isAgg22 rfl (hF.eval rfl) (hO.cell0 0 rfl rfl)) fun a hF => ?_
    refine wd_r hF rfl rfl rfl (fun w hO => q_load Try.isAgg22 rfl (hF.eval rfl) (hO.cell0 0 rfl rfl)) fun a hF => ?_
    refine wd_p hF rfl rfl rfl (fun w => q_nilCheck rfl (hF.eval rfl)) fun a hF => ?_
    refine wd_p hF rfl rfl rfl (fun w => q_fieldAddr0 (d := 11) Try.underlying77 rfl (hF.eval rfl) rfl Try.sizeOf3 (by decide) rfl) fun a hF => ?_
    refine wd_r hF rfl rfl rfl (fun w hO => q_load Try.isAgg3 rfl (hF.eval rfl) (hO.cell 1 rfl rfl)) fun a hF => ?_
    refine wd_p hF rfl rfl rfl (fun w => q_sub rfl (hF.eval rfl) (hF.eval rfl) (by rw [hu]; decide)) fun a hF => ?_
    refine wd_p hF rfl rfl rfl (fun w => q_nilCheck rfl (hF.eval rfl)) fun a hF => ?_
    refine wd_p hF rfl rfl rfl (fun w => q_fieldAddr0 (d := 5) Try.underlying77 rfl (hF.eval rfl) rfl Try.sizeOf75 (by decide) rfl) fun a hF => ?_
    refine wd_p hF rfl rfl rfl (fun w => q_atArrK (i := 1) (d := 5) Try.underlying75 Try.sizeOf74 rfl (hF.eval rfl) ((hF.eval rfl).trans (congrArg i64 (show (1 : Int) - (h.use : Int) = ((1 : Nat) : Int) by rw [hu]; rfl))) (by decide)) fun a hF => ?_
    have hO := hO.pull 4 rfl
    have hO := hO.pull 4 rfl
    have hO := hO.pull 4 rfl
    have hO := hO.pull 4 rfl
    have hO : St _ _ _ [_, _, _, _, _] := hO
    refine wd_f hF rfl rfl rfl (c_call hF rfl rfl Try.call59 (empty2_r _ _ _ _ _ _ hO.own4 hw hrl)) ?_
    rintro a _ w ⟨rfl, hS⟩ hF
    have hO := hO.call4 hS
    have hO : St _ _ _ [_, _, _, _, _] := hO
    have hrm2 : (emptyH h 2).rem = [] := hrm
    rw [hrm2] at hO
    clear hS
    refine wd_nil ?_
    refine k_n ?_
    have hO := hO.drew
    refine wp_region_D [1, 1, 0, 0, 1, 0, 2, 0, 0, 3] (fun w => St _ _ w _) Try_mixed (by kernel_rfl) hO ?_
    refine wd_r hF rfl rfl rfl (fun w hO => q_load Try.isAgg22 rfl (hF.eval rfl) (hO.cell0 4 rfl rfl)) fun a hF => ?_
    refine wd_r hF rfl rfl rfl (fun w hO => q_load Try.isAgg22 rfl (hF.eval rfl) (hO.cell0 4 rfl rfl)) fun a hF => ?_
    refine wd_p hF rfl rfl rfl (fun w => q_nilCheck rfl (hF.eval rfl)) fun a hF => ?_
    refine wd_p hF rfl rfl rfl (fun w => q_fieldAddr0 (d := 12) Try.underlying77 rfl (hF.eval rfl) rfl Try.sizeOf36 (by decide) rfl) fun a hF => ?_
    refine wd_r hF rfl rfl rfl (fun w hO => q_load Try.isAgg36 rfl (hF.eval rfl) (hO.cell 0 rfl rfl)) fun a hF => ?_
    refine wd_p hF rfl rfl rfl (fun w => c_makeFunc hF rfl rfl rfl) fun a hF => ?_
    refine wd_e hF rfl rfl rfl (c_call hF rfl rfl Try.call66 (del0_r _ _ _ (hO.rdT 3 rfl))) (fun _ _ ⟨_, hS⟩ => hO.call0 hS) ?_
    rintro a _ w ⟨rfl, hS⟩ hF
    have hO := hO.call0 hS
    have hO : St _ _ _ [_, _, _, _, _] := hO
    refine wd_p hF rfl rfl rfl (fun w => q_nilCheck rfl (hF.eval rfl)) fun a hF => ?_
    refine wd_p hF rfl rfl rfl (fun w => q_fieldAddr0 (d := 12) Try.underlying77 rfl (hF.eval rfl) rfl Try.sizeOf36 (by decide) rfl) fun a hF => ?_
    refine wd_s hF rfl rfl (e_store1 hO (i := 0) rfl Try.sizeOf36 rfl (hF.eval rfl) (hF.eval rfl) (cells_one (hO.slOne 3 rfl)) rfl (hO.slOne 3 rfl)) ?_
    rintro a _ w ⟨-, hO⟩ hF
    have hO : St _ _ _ [_, _, _, _, _] := hO
    refine wd_nil ?_
    refine r_0n hF rfl ?_
    have hO := hO.drop1 4
    have hO : St _ _ _ [_, _, _, _] := hO
    rw [← hrm2] at hO
    exact ⟨rfl, hO⟩

set_option maxHeartbeats 1000000 in
theorem drop1_r (w0 : World) (bh : Nat) (vw vh vr : Value) (h : Hp) (hA : Owns w0 [.ob bh 77 (hpC vw vh vr h), slT vw 27 wordE h.words, slT vh 84 headE h.heads, slT vr 3 intE h.rem]) (hw : Wf h) (hrl : h.rem.length ≤ 100000000000) (hu : h.use = 1) (hrm : h.rem = []) : Ret Try.prog 38 #[ptr (adr bh)] w0 (fun v w' => v = .tuple #[] ∧ St w0 (blks [.ob bh 77 (hpC vw vh vr h), slT vw 27 wordE h.words, slT vh 84 headE h.heads, slT vr 3 intE h.rem]) w' [.ob bh 77 (hpC vw vh vr (emptyH h 1)), slT vw 27 wordE (emptyH h 1).words, slT vh 84 headE (emptyH h 1).heads, slT vr 3 intE (emptyH h 1).rem]) := by
  have hO := St.init hA
  have hle := hw.le
  have hlen := hw.len
  refine ret_of (m := 24) Try.func38 rfl Try.ntmps38 [(0, ptr (adr bh))] rfl ⟨rfl, trivial⟩ fun a hF => ?_
  refine wp_seq ?_
  refine wp_region_lit ?_
  refine wl_e hF rfl rfl rfl (e_box hO rfl (hF.eval rfl) rfl) ?_
  rintro a _ w ⟨hb, rfl, hO⟩ hF
  refine wl_nil ?_
  refine k_n ?_
  refine wp_seq ?_
  refine wp_seq ?_
  refine wp_region_lit ?_
  refine wl_v hF rfl rfl rfl (q_load Try.isAgg22 rfl (hF.eval rfl) (hO.cell0 0 rfl rfl)) fun a hF => ?_
  refine wl_v hF rfl rfl rfl (q_peq Try.underlying22 rfl (hF.eval rfl) (hF.eval rfl)) fun a hF => ?_
  refine wl_nil ?_
  refine k_n ?_
  refine wp_ifD hF rfl rfl (fun hc1 => ?_) (fun hc1 => ?_)
  · skip
    exact absurd hc1 (by simp)
  · skip
    refine wp_skip ?_
    refine k_n ?_
    refine wp_seq ?_
    have hO := hO.drew
    refine wp_region_D [1, 1, 1, 0, 0, 1, 0, 0, 0, 0, 3] (fun w => St _ _ w _) Try_mixed (by kernel_rfl) hO ?_
    refine wd_r hF rfl rfl rfl (fun w hO => q_load Try.isAgg22 rfl (hF.eval rfl) (hO.cell0 0 rfl rfl)) fun a hF => ?_
    refine wd_r hF rfl rfl rfl (fun w hO => q_load Try.isAgg22 rfl (hF.eval rfl) (hO.cell0 0 rfl rfl)) fun a hF => ?_
    refine wd_r hF rfl rfl rfl (fun w hO => q_load Try.isAgg22 rfl (hF.eval rfl) (hO.cell0 0 rfl rfl)) fun a hF => ?_
    refine wd_p hF rfl rfl rfl (fun w => q_nilCheck rfl (hF.eval rfl)) fun a hF => ?_
    refine wd_p hF rfl rfl rfl (fun w => q_fieldAddr0 (d := 11) Try.underlying77 rfl (hF.eval rfl) rfl Try.sizeOf3 (by decide) rfl) fun a hF => ?_
    refine wd_r hF rfl rfl rfl (fun w hO => q_load Try.isAgg3 rfl (hF.eval rfl) (hO.cell 1 rfl rfl)) fun a hF => ?_
    refine wd_p hF rfl rfl rfl (fun w => q_sub rfl (hF.eval rfl) (hF.eval rfl) (by rw [hu]; decide)) fun a hF => ?_
    refine wd_p hF rfl rfl rfl (fun w => q_nilCheck rfl (hF.eval rfl)) fun a hF => ?_
    refine wd_p hF rfl rfl rfl (fun w => q_fieldAddr0 (d := 5) Try.underlying77 rfl (hF.eval rfl) rfl Try.sizeOf75 (by decide) rfl) fun a hF => ?_
    refine wd_p hF rfl rfl rfl (fun w => q_atArrK (i := 0) (d := 5) Try.underlying75 Try.sizeOf74 rfl (hF.eval rfl) ((hF.eval rfl).trans (congrArg i64 (show (1 : Int) - (h.use : Int) = ((0 : Nat) : Int) by rw [hu]; rfl))) (by decide)) fun a hF => ?_
    have hO := hO.pull 4 rfl
    have hO := hO.pull 4 rfl
    have hO := hO.pull 4 rfl
    have hO := hO.pull 4 rfl
    have hO : St _ _ _ [_, _, _, _, _] := hO
    refine wd_f hF rfl rfl rfl (c_call hF rfl rfl Try.call59 (empty1_r _ _ _ _ _ _ hO.own4 hw hrl)) ?_
    rintro a _ w ⟨rfl, hS⟩ hF
    have hO := hO.call4 hS
    have hO : St _ _ _ [_, _, _, _, _] := hO
    have hrm2 : (emptyH h 1).rem = [] := hrm
    rw [hrm2] at hO
    clear hS
    refine wd_nil ?_
    refine k_n ?_
    have hO := hO.drew
    refine wp_region_D [1, 1, 0, 0, 1, 0, 2, 0, 0, 3] (fun w => St _ _ w _) Try_mixed (by kernel_rfl) hO ?_
    refine wd_r hF rfl rfl rfl (fun w hO => q_load Try.isAgg22 rfl (hF.eval rfl) (hO.cell0 4 rfl rfl)) fun a hF => ?_
    refine wd_r hF rfl rfl rfl (fun w hO => q_load Try.isAgg22 rfl (hF.eval rfl) (hO.cell0 4 rfl rfl)) fun a hF => ?_
    refine wd_p hF rfl rfl rfl (fun w => q_nilCheck rfl (hF.eval rfl)) fun a hF => ?_
    refine wd_p hF rfl rfl rfl (fun w => q_fieldAddr0 (d := 12) Try.underlying77 rfl (hF.eval rfl) rfl Try.sizeOf36 (by decide) rfl) fun a hF => ?_
    refine wd_r hF rfl rfl rfl (fun w hO => q_load Try.isAgg36 rfl (hF.eval rfl) (hO.cell 0 rfl rfl)) fun a hF => ?_
    refine wd_p hF rfl rfl rfl (fun w => c_makeFunc hF rfl rfl rfl) fun a hF => ?_
    refine wd_e hF rfl rfl rfl (c_call hF rfl rfl Try.call66 (del0_r _ _ _ (hO.rdT 3 rfl))) (fun _ _ ⟨_, hS⟩ => hO.call0 hS) ?_
    rintro a _ w ⟨rfl, hS⟩ hF
    have hO := hO.call0 hS
    have hO : St _ _ _ [_, _, _, _, _] := hO
    refine wd_p hF rfl rfl rfl (fun w => q_nilCheck rfl (hF.eval rfl)) fun a hF => ?_
    refine wd_p hF rfl rfl rfl (fun w => q_fieldAddr0 (d := 12) Try.underlying77 rfl (hF.eval rfl) rfl Try.sizeOf36 (by decide) rfl) fun a hF => ?_
    refine wd_s hF rfl rfl (e_store1 hO (i := 0) rfl Try.sizeOf36 rfl (hF.eval rfl) (hF.eval rfl) (cells_one (hO.slOne 3 rfl)) rfl (hO.slOne 3 rfl)) ?_
    rintro a _ w ⟨-, hO⟩ hF
    have hO : St _ _ _ [_, _, _, _, _] := hO
    refine wd_nil ?_
    refine r_0n hF rfl ?_
    have hO := hO.drop1 4
    have hO : St _ _ _ [_, _, _, _] := hO
    rw [← hrm2] at hO
    exact ⟨rfl, hO⟩


theorem drop_r (w0 : World) (bh : Nat) (vw vh vr : Value) (h : Hp) (hA : Owns w0 [.ob bh 77 (hpC vw vh vr h), slT vw 27 wordE h.words, slT vh 84 headE h.heads, slT vr 3 intE h.rem]) (hw : Wf h) (hrl : h.rem.length ≤ 100000000000) (hrm : h.rem = []) : Ret Try.prog 38 #[ptr (adr bh)] w0 (fun v w' => v = .tuple #[] ∧ St w0 (blks [.ob bh 77 (hpC vw vh vr h), slT vw 27 wordE h.words, slT vh 84 headE h.heads, slT vr 3 intE h.rem]) w' [.ob bh 77 (hpC vw vh vr (emptyH h (1 + (1 - h.use)))), slT vw 27 wordE (emptyH h (1 + (1 - h.use))).words, slT vh 84 headE (emptyH h (1 + (1 - h.use))).heads, slT vr 3 intE (emptyH h (1 + (1 - h.use))).rem]) := by
  have hu := hw.use
  rcases (by omega : h.use = 0 ∨ h.use = 1) with hu | hu
  · rw [hu]; exact drop0_r w0 bh vw vh vr h hA hw hrl hu hrm
  · rw [hu]; exact drop1_r w0 bh vw vh vr h hA hw hrl hu hrm
end Go.Proofs.Ytglienidnffnjaa
