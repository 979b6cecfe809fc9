import Derived.Test.YtglienidnffnjaaHe
import Derived.Test.YtglienidnffnjaaGw19
import Derived.Test.YtglienidnffnjaaPl7
namespace Go.Proofs.Ytglienidnffnjaa
open Go
set_option maxRecDepth 100000
set_option linter.unusedVariables false
theorem cloneW0_r (w0 : World) (A : Option Addr) (cap : Nat) (fs : List Wd) (hfl : fs.length ≤ 100000000) (hR : RdT w0 [] (.slice A fs.length cap) wordE fs) : Ret Try.prog 58 #[.slice A fs.length cap] w0 (fun v w' => ∃ v2, v = v2 ∧ St w0 [] w' [slT v2 27 wordE fs]) := by
  have hO := St.init0 w0
  refine ret_of (m := 8) Try.func58 rfl Try.ntmps58 [(0, .slice A fs.length cap)] rfl ⟨rfl, trivial⟩ fun a hF => ?_
  refine wp_seq ?_
  refine wp_region_lit ?_
  refine wl_v hF rfl rfl rfl (q_assign rfl (hF.eval rfl)) fun a hF => ?_
  refine wl_nil ?_
  refine k_n ?_
  refine wp_seq ?_
  refine wp_seq ?_
  refine wp_region_lit ?_
  refine wl_v hF rfl rfl rfl (q_move rfl (hF.eval rfl)) fun a hF => ?_
  refine wl_v hF rfl rfl rfl (q_sleq Try.underlying37 rfl (hF.eval rfl) (hF.eval rfl)) fun a hF => ?_
  refine wl_nil ?_
  refine k_n ?_
  refine wp_ifD hF rfl rfl (fun hc1 => ?_) (fun hc1 => ?_)
  · skip
    refine wp_seq ?_
    refine wp_region_lit ?_
    refine wl_v hF rfl rfl rfl (q_assign rfl (hF.eval rfl)) fun a hF => ?_
    refine wl_nil ?_
    refine k_n ?_
    refine wp_ret ?_
    refine k_r ?_
    refine r_1 hF rfl rfl ?_
    obtain rfl : fs = [] := by
      cases fs with
      | nil => rfl
      | cons x r => obtain ⟨_, A2, c2, he, _, _, h0⟩ := hR; obtain ⟨ad, ha, _⟩ := h0 (by simp); simp only [Value.slice.injEq] at he; rw [hc1, ha] at he; exact absurd he.1 (by simp)
    exact ⟨_, rfl, hO.nilSl 27 2⟩
  · skip
    refine wp_skip ?_
    refine k_n ?_
    refine wp_seq ?_
    refine wp_region_lit ?_
    refine wl_e hF rfl rfl rfl (e_build0 hO Try.underlying37 Try.sizeOf27 rfl) ?_
    rintro a _ w ⟨ow, rfl, hO⟩ hF
    replace hO : St _ _ _ [slT _ 27 wordE []] := hO
    refine wl_v hF rfl rfl rfl (q_move rfl (hF.eval rfl)) fun a hF => ?_
    refine wl_e hF rfl rfl rfl (e_appendT (bytes := 16) (r := fs) hO (i := 0) rfl (hR.now hO) Try.underlying37 Try_info27 rfl rfl rfl rfl rfl rfl (hF.eval rfl) (hF.eval rfl) (by show (0 + fs.length) * 16 ≤ _; omega) (by show 0 + fs.length ≤ _; omega)) ?_
    rintro a v2 w hO hF
    have hO : St _ _ _ [_] := hO
    replace hO : St _ _ _ [slT v2 27 wordE fs] := hO
    refine wl_v hF rfl rfl rfl (q_assign rfl (hF.eval rfl)) fun a hF => ?_
    refine wl_nil ?_
    refine k_n ?_
    refine wp_ret ?_
    refine r_1 hF rfl rfl ?_
    exact ⟨_, rfl, hO⟩


theorem cloneW_r (w0 : World) (vf : Value) (fs : List Wd) (hfl : fs.length ≤ 100000000) (hR : RdT w0 [] vf wordE fs) : Ret Try.prog 58 #[vf] w0 (fun v w' => ∃ v2, v = v2 ∧ St w0 [] w' [slT v2 27 wordE fs]) := by
  obtain ⟨A, cap, rfl, _⟩ := Rd.is hR
  exact cloneW0_r w0 A cap fs hfl hR
set_option maxHeartbeats 1000000 in
theorem object_r (w0 : World) (bh : Nat) (vw vh vr : Value) (h : Hp) (hH : HR w0 [] bh vw vh vr h) (hw : Wf h) (at_ : Int) : Ret Try.prog 18 #[ptr (adr bh), i64 at_] w0 (fun v w' => ∃ vf r, objH h at_ = r ∧ v = .tuple #[.agg #[i64 r.1.kind, i64 r.1.info, vf], i64 r.2] ∧ St w0 [] w' [slT vf 27 wordE r.1.fields]) := by
  have hO := St.init0 w0
  have hle := hw.le
  have hlen := hw.len
  refine ret_of (m := 40) Try.func18 rfl Try.ntmps18 [(0, ptr (adr bh)), (1, i64 at_)] rfl ⟨rfl, rfl, trivial⟩ fun a hF => ?_
  refine wp_seq ?_
  refine wp_region_lit ?_
  refine wl_e hF rfl rfl rfl (e_alloc hO Try.zeroValue42 rfl rfl) ?_
  rintro a _ w ⟨ob, rfl, hO⟩ hF
  refine wl_v hF rfl rfl rfl (q_assign rfl (hF.eval rfl)) fun a hF => ?_
  refine wl_nil ?_
  refine k_n ?_
  refine wp_seq ?_
  refine wp_seq ?_
  refine wp_region_lit ?_
  refine wl_v hF rfl rfl rfl (q_move rfl (hF.eval rfl)) fun a hF => ?_
  refine wl_v hF rfl rfl rfl (q_peq Try.underlying22 rfl (hF.eval rfl) (hF.eval rfl)) fun a hF => ?_
  refine wl_nil ?_
  refine k_n ?_
  refine wp_ifD hF rfl rfl (fun hc1 => ?_) (fun hc1 => ?_)
  · skip
    exact absurd hc1 (by simp)
  · skip
    refine wp_skip ?_
    refine k_n ?_
    refine wp_seq ?_
    refine wp_region_lit ?_
    refine wl_v hF rfl rfl rfl (q_move rfl (hF.eval rfl)) fun a hF => ?_
    refine wl_v hF rfl rfl rfl (q_move rfl (hF.eval rfl)) fun a hF => ?_
    refine wl_e hF rfl rfl rfl (c_call hF rfl rfl Try.call53 (head_r _ _ _ _ _ _ (hH.at0 hO) _)) ?_
    rintro a _ w ⟨rfl, hS⟩ hF
    have hO := hO.call0 hS
    have hO : St _ _ _ [_] := hO
    refine wl_v hF rfl rfl rfl (q_assign rfl (hF.eval rfl)) fun a hF => ?_
    refine wl_nil ?_
    refine k_n ?_
    refine wp_seq ?_
    refine wp_seq ?_
    refine wp_region_lit ?_
    refine wl_v hF rfl rfl rfl (q_move rfl (hF.eval rfl)) fun a hF => ?_
    refine wl_v hF rfl rfl rfl (q_peq Try.underlying80 rfl (hF.eval rfl) (hF.eval rfl)) fun a hF => ?_
    refine wl_nil ?_
    refine k_n ?_
    refine wp_ifD hF rfl rfl (fun hc2 => ?_) (fun hc2 => ?_)
    · skip
      refine wp_seq ?_
      refine wp_region_lit ?_
      refine wl_v hF rfl rfl rfl (c_build hF Try.underlying42 Try.zeroValue42 Try_places42 rfl rfl rfl rfl) fun a hF => ?_
      refine wl_s hF rfl rfl (e_storeAll hO (i := 0) rfl Try.sizeOf42 rfl (hF.eval rfl) (hF.eval rfl) rfl rfl) ?_
      rintro a _ w ⟨-, hO⟩ hF
      have hO : St _ _ _ [_] := hO
      refine wl_v hF rfl rfl rfl (q_assign rfl (hF.eval rfl)) fun a hF => ?_
      refine wl_nil ?_
      refine k_n ?_
      refine wp_ret ?_
      refine k_r ?_
      refine r_ct hF rfl rfl rfl Try.isAgg42 Try.sizeOf42 (hO.cells 0 rfl) rfl ?_
      have hO := hO.drop1 0
      exact ⟨_, _, obj_1 hc2, rfl, hO.nilSl 27 2⟩
    · skip
      obtain ⟨k, hk, rfl, hkl, hkk⟩ := head_ne (fun e => hc2 (hdP_none.2 e))
      rw [hk] at hF
      have hob := hw.obj k hkk
      have hdk : hdAt h k = h.heads.getD k hd0 := rfl
      rw [hdk] at hob
      refine wp_skip ?_
      refine k_n ?_
      refine wp_seq ?_
      have hO := hO.drew
      refine wp_region_D [0, 0, 0, 1, 0, 0, 0, 1, 0, 0, 0, 1, 0, 0, 0, 0, 0, 0, 0, 1, 0, 0, 2, 0, 3, 0] (fun w => St _ _ w _) Try_mixed (by kernel_rfl) hO ?_
      refine wd_p hF rfl rfl rfl (fun w => q_move rfl (hF.eval rfl)) fun a hF => ?_
      refine wd_p hF rfl rfl rfl (fun w => q_nilCheck rfl (hF.eval rfl)) fun a hF => ?_
      refine wd_p hF rfl rfl rfl (fun w => q_fieldAddr0 (d := 0) Try.underlying84 rfl (hF.eval rfl) rfl Try.sizeOf3 (by decide) rfl) fun a hF => ?_
      refine wd_r hF rfl rfl rfl (fun w hO => q_load Try.isAgg3 rfl (hF.eval rfl) (RdT.cells (hH.hs.now hO) (get_D (d := hd0) hkl) _ _ rfl)) fun a hF => ?_
      refine wd_p hF rfl rfl rfl (fun w => q_move rfl (hF.eval rfl)) fun a hF => ?_
      refine wd_p hF rfl rfl rfl (fun w => q_nilCheck rfl (hF.eval rfl)) fun a hF => ?_
      refine wd_p hF rfl rfl rfl (fun w => q_fieldAddr0 (d := 1) Try.underlying84 rfl (hF.eval rfl) rfl Try.sizeOf3 (by decide) rfl) fun a hF => ?_
      refine wd_r hF rfl rfl rfl (fun w hO => q_load Try.isAgg3 rfl (hF.eval rfl) (RdT.cells (hH.hs.now hO) (get_D (d := hd0) hkl) _ _ rfl)) fun a hF => ?_
      refine wd_p hF rfl rfl rfl (fun w => q_move rfl (hF.eval rfl)) fun a hF => ?_
      refine wd_p hF rfl rfl rfl (fun w => q_nilCheck rfl (hF.eval rfl)) fun a hF => ?_
      refine wd_p hF rfl rfl rfl (fun w => q_fieldAddr0 (d := 0) Try.underlying77 rfl (hF.eval rfl) rfl Try.sizeOf37 (by decide) rfl) fun a hF => ?_
      refine wd_r hF rfl rfl rfl (fun w hO => q_load Try.isAgg37 rfl (hF.eval rfl) (rdB_cell (HR.now hH hO).blk rfl)) fun a hF => ?_
      refine wd_p hF rfl rfl rfl (fun w => q_move rfl (hF.eval rfl)) fun a hF => ?_
      refine wd_p hF rfl rfl rfl (fun w => q_add rfl (hF.eval rfl) (hF.eval rfl) (by omega)) fun a hF => ?_
      refine wd_p hF rfl rfl rfl (fun w => q_move rfl (hF.eval rfl)) fun a hF => ?_
      refine wd_p hF rfl rfl rfl (fun w => q_add rfl (hF.eval rfl) (hF.eval rfl) (by omega)) fun a hF => ?_
      refine wd_p hF rfl rfl rfl (fun w => q_move rfl (hF.eval rfl)) fun a hF => ?_
      refine wd_p hF rfl rfl rfl (fun w => q_nilCheck rfl (hF.eval rfl)) fun a hF => ?_
      refine wd_p hF rfl rfl rfl (fun w => q_fieldAddr0 (d := 2) Try.underlying84 rfl (hF.eval rfl) rfl Try.sizeOf3 (by decide) rfl) fun a hF => ?_
      refine wd_r hF rfl rfl rfl (fun w hO => q_load Try.isAgg3 rfl (hF.eval rfl) (RdT.cells (hH.hs.now hO) (get_D (d := hd0) hkl) _ _ rfl)) fun a hF => ?_
      refine wd_p hF rfl rfl rfl (fun w => q_add rfl (hF.eval rfl) (hF.eval rfl) (by omega)) fun a hF => ?_
      refine wd_p hF rfl rfl rfl (fun w => q_cut2 (i := k + 1) (j := (k + 1 + (h.heads.getD k hd0).fields.toNat)) hH.ws Try.underlying37 Try.sizeOf27 rfl (hF.eval rfl) ((hF.eval rfl).trans (congrArg i64 (show (k : Int) + 1 = ((k + 1 : Nat) : Int) by omega))) ((hF.eval rfl).trans (congrArg i64 (show (k : Int) + 1 + (h.heads.getD k hd0).fields = ((k + 1 + (h.heads.getD k hd0).fields.toNat : Nat) : Int) by omega))) (by omega) (by omega)) fun a hF => ?_
      refine wd_e hF rfl rfl rfl (c_call hF rfl rfl Try.call58 (cloneW_r _ _ _ (by rw [List.length_take]; omega) ((hH.ws.at0 hO).cut2 (i := k + 1) (j := k + 1 + (h.heads.getD k hd0).fields.toNat) (by omega) (by omega)))) ((fun _ _ ⟨_, _, hS⟩ => (hO.call0 hS).tail)) ?_
      rintro a _ w ⟨vc, rfl, hS⟩ hF
      have hO := hO.call0 hS
      have hO : St _ _ _ [_, _] := hO
      rw [show k + 1 + (h.heads.getD k hd0).fields.toNat - (k + 1) = (h.heads.getD k hd0).fields.toNat by omega] at hO
      obtain ⟨Ac, cc, rfl, _⟩ := Rd.is (hO.rd 0 rfl)
      refine wd_p hF rfl rfl rfl (fun w => c_build hF Try.underlying42 Try.zeroValue42 Try_places42 rfl rfl rfl rfl) fun a hF => ?_
      refine wd_s hF rfl rfl (e_storeAll hO (i := 1) rfl Try.sizeOf42 rfl (hF.eval rfl) (hF.eval rfl) rfl rfl) ?_
      rintro a _ w ⟨-, hO⟩ hF
      have hO : St _ _ _ [_, _] := hO
      refine wd_p hF rfl rfl rfl (fun w => q_assign rfl (hF.eval rfl)) fun a hF => ?_
      refine wd_nil ?_
      refine k_n ?_
      refine wp_ret ?_
      refine r_ct hF rfl rfl rfl Try.isAgg42 Try.sizeOf42 (hO.cells 1 rfl) rfl ?_
      have hO := hO.drop1 1
      exact ⟨_, _, obj_2 hk, rfl, hO⟩

end Go.Proofs.Ytglienidnffnjaa
