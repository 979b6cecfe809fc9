import Derived.Test.YtglienidnffnjaaHc
import Derived.Test.YtglienidnffnjaaGw19
import Derived.Test.YtglienidnffnjaaPl7
namespace Go.Proofs.Ytglienidnffnjaa
open Go
set_option maxRecDepth 100000
set_option linter.unusedVariables false
theorem alloc_r (w0 : World) (bh : Nat) (vw vh vr : Value) (h : Hp) (hA : Owns w0 [.ob bh 77 (hpC vw vh vr h), slT vw 27 wordE h.words, slT vh 84 headE h.heads, slT vr 3 intE h.rem]) (hw : Wf h) (hrl : h.rem.length ≤ 100000000000) (kind info : Int) (vf : Value) (fs : List Wd) (hR : RdT w0 (blks [.ob bh 77 (hpC vw vh vr h), slT vw 27 wordE h.words, slT vh 84 headE h.heads, slT vr 3 intE h.rem]) vf wordE fs) : Ret Try.prog 12 #[ptr (adr bh), i64 kind, i64 info, vf] w0 (fun v w' => ∃ vr2 r h2, layH h 0 kind info fs = (r, h2) ∧ v = .tuple #[i64 r.1, i64 r.2] ∧ St w0 (blks [.ob bh 77 (hpC vw vh vr h), slT vw 27 wordE h.words, slT vh 84 headE h.heads, slT vr 3 intE h.rem]) w' [.ob bh 77 (hpC vw vh vr2 h2), slT vw 27 wordE h2.words, slT vh 84 headE h2.heads, slT vr2 3 intE h2.rem]) := by
  have hO := St.init hA
  have hle := hw.le
  have hlen := hw.len
  refine ret_of (m := 22) Try.func12 rfl Try.ntmps12 [(0, ptr (adr bh)), (1, i64 kind), (2, i64 info), (3, vf)] rfl ⟨rfl, rfl, rfl, rfl, trivial⟩ fun a hF => ?_
  refine wp_seq ?_
  refine wp_region_lit ?_
  refine wl_v hF rfl rfl rfl (q_assign rfl (hF.eval rfl)) fun a hF => ?_
  refine wl_v hF rfl rfl rfl (q_assign rfl (hF.eval rfl)) fun a hF => ?_
  refine wl_nil ?_
  refine k_n ?_
  refine wp_seq ?_
  refine wp_seq ?_
  refine wp_region_lit ?_
  refine wl_v hF rfl rfl rfl (q_move rfl (hF.eval rfl)) fun a hF => ?_
  refine wl_v hF rfl rfl rfl (q_peq Try.underlying22 rfl (hF.eval rfl) (hF.eval rfl)) fun a hF => ?_
  refine wl_nil ?_
  refine k_n ?_
  refine wp_ifD hF rfl rfl (fun hc1 => ?_) (fun hc1 => ?_)
  · skip
    exact absurd hc1 (by simp)
  · skip
    refine wp_skip ?_
    refine k_n ?_
    refine wp_seq ?_
    refine wp_region_lit ?_
    refine wl_v hF rfl rfl rfl (q_move rfl (hF.eval rfl)) fun a hF => ?_
    refine wl_v hF rfl rfl rfl (q_move rfl (hF.eval rfl)) fun a hF => ?_
    refine wl_v hF rfl rfl rfl (q_nilCheck rfl (hF.eval rfl)) fun a hF => ?_
    refine wl_v hF rfl rfl rfl (q_fieldAddr0 (d := 2) Try.underlying77 rfl (hF.eval rfl) rfl Try.sizeOf74 (by decide) rfl) fun a hF => ?_
    refine wl_v hF rfl rfl rfl (q_move rfl (hF.eval rfl)) fun a hF => ?_
    refine wl_v hF rfl rfl rfl (q_move rfl (hF.eval rfl)) fun a hF => ?_
    refine wl_v hF rfl rfl rfl (q_move rfl (hF.eval rfl)) fun a hF => ?_
    have hO := hO.pull 3 rfl
    have hO := hO.pull 3 rfl
    have hO := hO.pull 3 rfl
    have hO := hO.pull 3 rfl
    have hO : St _ _ _ [_, _, _, _] := hO
    refine wl_e hF rfl rfl rfl (c_call hF rfl rfl Try.call52 (lay0_r _ _ _ _ _ _ hO.own4 hw hrl _ _ _ _ (hR.at4 hO))) ?_
    rintro a _ w ⟨vr2, r, h2, hly, rfl, hS⟩ hF
    have hO := hO.call4 hS
    have hO : St _ _ _ [_, _, _, _] := hO
    refine wl_v hF rfl rfl rfl (q_extract rfl (hF.eval rfl) rfl) fun a hF => ?_
    refine wl_v hF rfl rfl rfl (q_extract rfl (hF.eval rfl) rfl) fun a hF => ?_
    refine wl_v hF rfl rfl rfl (q_assign rfl (hF.eval rfl)) fun a hF => ?_
    refine wl_v hF rfl rfl rfl (q_assign rfl (hF.eval rfl)) fun a hF => ?_
    refine wl_nil ?_
    refine k_n ?_
    refine wp_ret ?_
    refine r_2 hF rfl rfl rfl ?_
    have hO : St _ _ _ [_, _, _, _] := hO
    exact ⟨_, _, _, hly, rfl, hO⟩

theorem keep0_r (w0 : World) (bh : Nat) (vw vh vr : Value) (h : Hp) (hA : Owns w0 [.ob bh 77 (hpC vw vh vr h), slT vw 27 wordE h.words, slT vh 84 headE h.heads, slT vr 3 intE h.rem]) (hw : Wf h) (hrl : h.rem.length ≤ 100000000000) (hu : h.use = 0) (kind info : Int) (vf : Value) (fs : List Wd) (hR : RdT w0 (blks [.ob bh 77 (hpC vw vh vr h), slT vw 27 wordE h.words, slT vh 84 headE h.heads, slT vr 3 intE h.rem]) vf wordE fs) : Ret Try.prog 16 #[ptr (adr bh), i64 kind, i64 info, vf] w0 (fun v w' => ∃ vr2 r h2, layH h 1 kind info fs = (r, h2) ∧ v = .tuple #[i64 r.1, i64 r.2] ∧ St w0 (blks [.ob bh 77 (hpC vw vh vr h), slT vw 27 wordE h.words, slT vh 84 headE h.heads, slT vr 3 intE h.rem]) w' [.ob bh 77 (hpC vw vh vr2 h2), slT vw 27 wordE h2.words, slT vh 84 headE h2.heads, slT vr2 3 intE h2.rem]) := by
  have hO := St.init hA
  have hle := hw.le
  have hlen := hw.len
  refine ret_of (m := 27) Try.func16 rfl Try.ntmps16 [(0, ptr (adr bh)), (1, i64 kind), (2, i64 info), (3, vf)] rfl ⟨rfl, rfl, rfl, rfl, trivial⟩ fun a hF => ?_
  refine wp_seq ?_
  refine wp_region_lit ?_
  refine wl_v hF rfl rfl rfl (q_assign rfl (hF.eval rfl)) fun a hF => ?_
  refine wl_v hF rfl rfl rfl (q_assign rfl (hF.eval rfl)) fun a hF => ?_
  refine wl_nil ?_
  refine k_n ?_
  refine wp_seq ?_
  refine wp_seq ?_
  refine wp_region_lit ?_
  refine wl_v hF rfl rfl rfl (q_move rfl (hF.eval rfl)) fun a hF => ?_
  refine wl_v hF rfl rfl rfl (q_peq Try.underlying22 rfl (hF.eval rfl) (hF.eval rfl)) fun a hF => ?_
  refine wl_nil ?_
  refine k_n ?_
  refine wp_ifD hF rfl rfl (fun hc1 => ?_) (fun hc1 => ?_)
  · skip
    exact absurd hc1 (by simp)
  · skip
    refine wp_skip ?_
    refine k_n ?_
    refine wp_seq ?_
    have hO := hO.drew
    refine wp_region_D [0, 0, 0, 0, 0, 1, 0, 0, 0, 0, 0, 0, 3, 0, 0, 0, 0] (fun w => St _ _ w _) Try_mixed (by kernel_rfl) hO ?_
    refine wd_p hF rfl rfl rfl (fun w => q_move rfl (hF.eval rfl)) fun a hF => ?_
    refine wd_p hF rfl rfl rfl (fun w => q_move rfl (hF.eval rfl)) fun a hF => ?_
    refine wd_p hF rfl rfl rfl (fun w => q_move rfl (hF.eval rfl)) fun a hF => ?_
    refine wd_p hF rfl rfl rfl (fun w => q_nilCheck rfl (hF.eval rfl)) fun a hF => ?_
    refine wd_p hF rfl rfl rfl (fun w => q_fieldAddr0 (d := 11) Try.underlying77 rfl (hF.eval rfl) rfl Try.sizeOf3 (by decide) rfl) fun a hF => ?_
    refine wd_r hF rfl rfl rfl (fun w hO => q_load Try.isAgg3 rfl (hF.eval rfl) (hO.cell 0 rfl rfl)) fun a hF => ?_
    refine wd_p hF rfl rfl rfl (fun w => q_nilCheck rfl (hF.eval rfl)) fun a hF => ?_
    refine wd_p hF rfl rfl rfl (fun w => q_fieldAddr0 (d := 5) Try.underlying77 rfl (hF.eval rfl) rfl Try.sizeOf75 (by decide) rfl) fun a hF => ?_
    refine wd_p hF rfl rfl rfl (fun w => q_atArrK (i := 0) (d := 5) Try.underlying75 Try.sizeOf74 rfl (hF.eval rfl) ((hF.eval rfl).trans (congrArg (fun n : Nat => i64 (n : Int)) hu)) (by decide)) fun a hF => ?_
    refine wd_p hF rfl rfl rfl (fun w => q_move rfl (hF.eval rfl)) fun a hF => ?_
    refine wd_p hF rfl rfl rfl (fun w => q_move rfl (hF.eval rfl)) fun a hF => ?_
    refine wd_p hF rfl rfl rfl (fun w => q_move rfl (hF.eval rfl)) fun a hF => ?_
    have hO := hO.pull 3 rfl
    have hO := hO.pull 3 rfl
    have hO := hO.pull 3 rfl
    have hO := hO.pull 3 rfl
    have hO : St _ _ _ [_, _, _, _] := hO
    refine wd_f hF rfl rfl rfl (c_call hF rfl rfl Try.call52 (lay1_r _ _ _ _ _ _ hO.own4 hw hrl _ _ _ _ (hR.at4 hO))) ?_
    rintro a _ w ⟨vr2, r, h2, hly, rfl, hS⟩ hF
    have hO := hO.call4 hS
    have hO : St _ _ _ [_, _, _, _] := hO
    refine wd_p hF rfl rfl rfl (fun w => q_extract rfl (hF.eval rfl) rfl) fun a hF => ?_
    refine wd_p hF rfl rfl rfl (fun w => q_extract rfl (hF.eval rfl) rfl) fun a hF => ?_
    refine wd_p hF rfl rfl rfl (fun w => q_assign rfl (hF.eval rfl)) fun a hF => ?_
    refine wd_p hF rfl rfl rfl (fun w => q_assign rfl (hF.eval rfl)) fun a hF => ?_
    refine wd_nil ?_
    refine k_n ?_
    refine wp_ret ?_
    refine r_2 hF rfl rfl rfl ?_
    have hO : St _ _ _ [_, _, _, _] := hO
    exact ⟨_, _, _, hly, rfl, hO⟩

theorem keep1_r (w0 : World) (bh : Nat) (vw vh vr : Value) (h : Hp) (hA : Owns w0 [.ob bh 77 (hpC vw vh vr h), slT vw 27 wordE h.words, slT vh 84 headE h.heads, slT vr 3 intE h.rem]) (hw : Wf h) (hrl : h.rem.length ≤ 100000000000) (hu : h.use = 1) (kind info : Int) (vf : Value) (fs : List Wd) (hR : RdT w0 (blks [.ob bh 77 (hpC vw vh vr h), slT vw 27 wordE h.words, slT vh 84 headE h.heads, slT vr 3 intE h.rem]) vf wordE fs) : Ret Try.prog 16 #[ptr (adr bh), i64 kind, i64 info, vf] w0 (fun v w' => ∃ vr2 r h2, layH h 2 kind info fs = (r, h2) ∧ v = .tuple #[i64 r.1, i64 r.2] ∧ St w0 (blks [.ob bh 77 (hpC vw vh vr h), slT vw 27 wordE h.words, slT vh 84 headE h.heads, slT vr 3 intE h.rem]) w' [.ob bh 77 (hpC vw vh vr2 h2), slT vw 27 wordE h2.words, slT vh 84 headE h2.heads, slT vr2 3 intE h2.rem]) := by
  have hO := St.init hA
  have hle := hw.le
  have hlen := hw.len
  refine ret_of (m := 27) Try.func16 rfl Try.ntmps16 [(0, ptr (adr bh)), (1, i64 kind), (2, i64 info), (3, vf)] rfl ⟨rfl, rfl, rfl, rfl, trivial⟩ fun a hF => ?_
  refine wp_seq ?_
  refine wp_region_lit ?_
  refine wl_v hF rfl rfl rfl (q_assign rfl (hF.eval rfl)) fun a hF => ?_
  refine wl_v hF rfl rfl rfl (q_assign rfl (hF.eval rfl)) fun a hF => ?_
  refine wl_nil ?_
  refine k_n ?_
  refine wp_seq ?_
  refine wp_seq ?_
  refine wp_region_lit ?_
  refine wl_v hF rfl rfl rfl (q_move rfl (hF.eval rfl)) fun a hF => ?_
  refine wl_v hF rfl rfl rfl (q_peq Try.underlying22 rfl (hF.eval rfl) (hF.eval rfl)) fun a hF => ?_
  refine wl_nil ?_
  refine k_n ?_
  refine wp_ifD hF rfl rfl (fun hc1 => ?_) (fun hc1 => ?_)
  · skip
    exact absurd hc1 (by simp)
  · skip
    refine wp_skip ?_
    refine k_n ?_
    refine wp_seq ?_
    have hO := hO.drew
    refine wp_region_D [0, 0, 0, 0, 0, 1, 0, 0, 0, 0, 0, 0, 3, 0, 0, 0, 0] (fun w => St _ _ w _) Try_mixed (by kernel_rfl) hO ?_
    refine wd_p hF rfl rfl rfl (fun w => q_move rfl (hF.eval rfl)) fun a hF => ?_
    refine wd_p hF rfl rfl rfl (fun w => q_move rfl (hF.eval rfl)) fun a hF => ?_
    refine wd_p hF rfl rfl rfl (fun w => q_move rfl (hF.eval rfl)) fun a hF => ?_
    refine wd_p hF rfl rfl rfl (fun w => q_nilCheck rfl (hF.eval rfl)) fun a hF => ?_
    refine wd_p hF rfl rfl rfl (fun w => q_fieldAddr0 (d := 11) Try.underlying77 rfl (hF.eval rfl) rfl Try.sizeOf3 (by decide) rfl) fun a hF => ?_
    refine wd_r hF rfl rfl rfl (fun w hO => q_load Try.isAgg3 rfl (hF.eval rfl) (hO.cell 0 rfl rfl)) fun a hF => ?_
    refine wd_p hF rfl rfl rfl (fun w => q_nilCheck rfl (hF.eval rfl)) fun a hF => ?_
    refine wd_p hF rfl rfl rfl (fun w => q_fieldAddr0 (d := 5) Try.underlying77 rfl (hF.eval rfl) rfl Try.sizeOf75 (by decide) rfl) fun a hF => ?_
    refine wd_p hF rfl rfl rfl (fun w => q_atArrK (i := 1) (d := 5) Try.underlying75 Try.sizeOf74 rfl (hF.eval rfl) ((hF.eval rfl).trans (congrArg (fun n : Nat => i64 (n : Int)) hu)) (by decide)) fun a hF => ?_
    refine wd_p hF rfl rfl rfl (fun w => q_move rfl (hF.eval rfl)) fun a hF => ?_
    refine wd_p hF rfl rfl rfl (fun w => q_move rfl (hF.eval rfl)) fun a hF => ?_
    refine wd_p hF rfl rfl rfl (fun w => q_move rfl (hF.eval rfl)) fun a hF => ?_
    have hO := hO.pull 3 rfl
    have hO := hO.pull 3 rfl
    have hO := hO.pull 3 rfl
    have hO := hO.pull 3 rfl
    have hO : St _ _ _ [_, _, _, _] := hO
    refine wd_f hF rfl rfl rfl (c_call hF rfl rfl Try.call52 (lay2_r _ _ _ _ _ _ hO.own4 hw hrl _ _ _ _ (hR.at4 hO))) ?_
    rintro a _ w ⟨vr2, r, h2, hly, rfl, hS⟩ hF
    have hO := hO.call4 hS
    have hO : St _ _ _ [_, _, _, _] := hO
    refine wd_p hF rfl rfl rfl (fun w => q_extract rfl (hF.eval rfl) rfl) fun a hF => ?_
    refine wd_p hF rfl rfl rfl (fun w => q_extract rfl (hF.eval rfl) rfl) fun a hF => ?_
    refine wd_p hF rfl rfl rfl (fun w => q_assign rfl (hF.eval rfl)) fun a hF => ?_
    refine wd_p hF rfl rfl rfl (fun w => q_assign rfl (hF.eval rfl)) fun a hF => ?_
    refine wd_nil ?_
    refine k_n ?_
    refine wp_ret ?_
    refine r_2 hF rfl rfl rfl ?_
    have hO : St _ _ _ [_, _, _, _] := hO
    exact ⟨_, _, _, hly, rfl, hO⟩


theorem keep_r (w0 : World) (bh : Nat) (vw vh vr : Value) (h : Hp) (hA : Owns w0 [.ob bh 77 (hpC vw vh vr h), slT vw 27 wordE h.words, slT vh 84 headE h.heads, slT vr 3 intE h.rem]) (hw : Wf h) (hrl : h.rem.length ≤ 100000000000) (kind info : Int) (vf : Value) (fs : List Wd) (hR : RdT w0 (blks [.ob bh 77 (hpC vw vh vr h), slT vw 27 wordE h.words, slT vh 84 headE h.heads, slT vr 3 intE h.rem]) vf wordE fs) : Ret Try.prog 16 #[ptr (adr bh), i64 kind, i64 info, vf] w0 (fun v w' => ∃ vr2 r h2, layH h (1 + h.use) kind info fs = (r, h2) ∧ v = .tuple #[i64 r.1, i64 r.2] ∧ St w0 (blks [.ob bh 77 (hpC vw vh vr h), slT vw 27 wordE h.words, slT vh 84 headE h.heads, slT vr 3 intE h.rem]) w' [.ob bh 77 (hpC vw vh vr2 h2), slT vw 27 wordE h2.words, slT vh 84 headE h2.heads, slT vr2 3 intE h2.rem]) := by
  have hu := hw.use
  rcases (by omega : h.use = 0 ∨ h.use = 1) with hu | hu
  · rw [hu]; exact keep0_r w0 bh vw vh vr h hA hw hrl hu kind info vf fs hR
  · rw [hu]; exact keep1_r w0 bh vw vh vr h hA hw hrl hu kind info vf fs hR
end Go.Proofs.Ytglienidnffnjaa
