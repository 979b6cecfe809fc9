import Derived.Test.YtglienidnffnjaaHi
import Derived.Test.YtglienidnffnjaaHj
import Derived.Test.YtglienidnffnjaaGw19
import Derived.Test.YtglienidnffnjaaPl7
namespace Go.Proofs.Ytglienidnffnjaa
open Go
set_option maxRecDepth 100000
set_option linter.unusedVariables false
theorem cloneI0_r (w0 : World) (A : Option Addr) (cap : Nat) (fs : List Int) (hfl : fs.length ≤ 10000000000000) (hR : RdT w0 [] (.slice A fs.length cap) intE fs) : Ret Try.prog 60 #[.slice A fs.length cap] w0 (fun v w' => ∃ v2, v = v2 ∧ St w0 [] w' [slT v2 3 intE fs]) := by
  have hO := St.init0 w0
  refine ret_of (m := 8) Try.func60 rfl Try.ntmps60 [(0, .slice A fs.length cap)] rfl ⟨rfl, trivial⟩ fun a hF => ?_
  refine wp_seq ?_
  refine wp_region_lit ?_
  refine wl_v hF rfl rfl rfl (q_assign rfl (hF.eval rfl)) fun a hF => ?_
  refine wl_nil ?_
  refine k_n ?_
  refine wp_seq ?_
  refine wp_seq ?_
  refine wp_region_lit ?_
  refine wl_v hF rfl rfl rfl (q_move rfl (hF.eval rfl)) fun a hF => ?_
  refine wl_v hF rfl rfl rfl (q_sleq Try.underlying36 rfl (hF.eval rfl) (hF.eval rfl)) fun a hF => ?_
  refine wl_nil ?_
  refine k_n ?_
  refine wp_ifD hF rfl rfl (fun hc1 => ?_) (fun hc1 => ?_)
  · skip
    refine wp_seq ?_
    refine wp_region_lit ?_
    refine wl_v hF rfl rfl rfl (q_assign rfl (hF.eval rfl)) fun a hF => ?_
    refine wl_nil ?_
    refine k_n ?_
    refine wp_ret ?_
    refine k_r ?_
    refine r_1 hF rfl rfl ?_
    obtain rfl : fs = [] := by
      cases fs with
      | nil => rfl
      | cons x r => obtain ⟨_, A2, c2, he, _, _, h0⟩ := hR; obtain ⟨ad, ha, _⟩ := h0 (by simp); simp only [Value.slice.injEq] at he; rw [hc1, ha] at he; exact absurd he.1 (by simp)
    exact ⟨_, rfl, hO.nilSl 3 1⟩
  · skip
    refine wp_skip ?_
    refine k_n ?_
    refine wp_seq ?_
    refine wp_region_lit ?_
    refine wl_e hF rfl rfl rfl (e_build0 hO Try.underlying36 Try.sizeOf3 rfl) ?_
    rintro a _ w ⟨ow, rfl, hO⟩ hF
    replace hO : St _ _ _ [slT _ 3 intE []] := hO
    refine wl_v hF rfl rfl rfl (q_move rfl (hF.eval rfl)) fun a hF => ?_
    refine wl_e hF rfl rfl rfl (e_appendT (bytes := 8) (r := fs) hO (i := 0) rfl (hR.now hO) Try.underlying36 Try_info3 rfl rfl rfl rfl rfl rfl (hF.eval rfl) (hF.eval rfl) (by show (0 + fs.length) * 8 ≤ _; omega) (by show 0 + fs.length ≤ _; omega)) ?_
    rintro a v2 w hO hF
    have hO : St _ _ _ [_] := hO
    replace hO : St _ _ _ [slT v2 3 intE fs] := hO
    refine wl_v hF rfl rfl rfl (q_assign rfl (hF.eval rfl)) fun a hF => ?_
    refine wl_nil ?_
    refine k_n ?_
    refine wp_ret ?_
    refine r_1 hF rfl rfl ?_
    exact ⟨_, rfl, hO⟩


theorem cloneI_r (w0 : World) (vf : Value) (fs : List Int) (hfl : fs.length ≤ 10000000000000) (hR : RdT w0 [] vf intE fs) : Ret Try.prog 60 #[vf] w0 (fun v w' => ∃ v2, v = v2 ∧ St w0 [] w' [slT v2 3 intE fs]) := by
  obtain ⟨A, cap, rfl, _⟩ := Rd.is hR
  exact cloneI0_r w0 A cap fs hfl hR
theorem remembered_r (w0 : World) (bh : Nat) (vw vh vr : Value) (h : Hp) (hH : HR w0 [] bh vw vh vr h) (hrl : h.rem.length ≤ 1000000000000) : Ret Try.prog 25 #[ptr (adr bh)] w0 (fun v w' => ∃ v2, v = v2 ∧ St w0 [] w' [slT v2 3 intE (sortF h.rem)]) := by
  have hO := St.init0 w0
  refine ret_of (m := 14) Try.func25 rfl Try.ntmps25 [(0, ptr (adr bh))] rfl ⟨rfl, trivial⟩ fun a hF => ?_
  refine wp_seq ?_
  refine wp_region_lit ?_
  refine wl_v hF rfl rfl rfl (q_assign rfl (hF.eval rfl)) fun a hF => ?_
  refine wl_nil ?_
  refine k_n ?_
  refine wp_seq ?_
  refine wp_seq ?_
  refine wp_region_lit ?_
  refine wl_v hF rfl rfl rfl (q_move rfl (hF.eval rfl)) fun a hF => ?_
  refine wl_v hF rfl rfl rfl (q_peq Try.underlying22 rfl (hF.eval rfl) (hF.eval rfl)) fun a hF => ?_
  refine wl_nil ?_
  refine k_n ?_
  refine wp_ifD hF rfl rfl (fun hc1 => ?_) (fun hc1 => ?_)
  · skip
    exact absurd hc1 (by simp)
  · skip
    refine wp_skip ?_
    refine k_n ?_
    refine wp_seq ?_
    refine wp_region_lit ?_
    refine wl_v hF rfl rfl rfl (q_move rfl (hF.eval rfl)) fun a hF => ?_
    refine wl_v hF rfl rfl rfl (q_nilCheck rfl (hF.eval rfl)) fun a hF => ?_
    refine wl_v hF rfl rfl rfl (q_fieldAddr0 (d := 12) Try.underlying77 rfl (hF.eval rfl) rfl Try.sizeOf36 (by decide) rfl) fun a hF => ?_
    refine wl_v hF rfl rfl rfl (q_load Try.isAgg36 rfl (hF.eval rfl) (rdB_cell (HR.now hH hO).blk rfl)) fun a hF => ?_
    refine wl_e hF rfl rfl rfl (c_call hF rfl rfl Try.call60 (cloneI_r _ _ _ (by omega) (hH.rm.at0 hO))) ?_
    rintro a _ w ⟨vc, rfl, hS⟩ hF
    have hO := hO.call0 hS
    have hO : St _ _ _ [_] := hO
    refine wl_v hF rfl rfl rfl (q_assign rfl (hF.eval rfl)) fun a hF => ?_
    refine wl_nil ?_
    refine k_n ?_
    refine wp_seq ?_
    refine wp_region_lit ?_
    refine wl_v hF rfl rfl rfl (q_move rfl (hF.eval rfl)) fun a hF => ?_
    have hO : St _ _ _ [_] := hO
    refine wl_e hF rfl rfl rfl (c_call hF rfl rfl Try.call61 (sortI_r _ _ _ hO.own1 (by omega))) ?_
    rintro a _ w ⟨rfl, hS⟩ hF
    have hO := hO.call1 hS
    have hO : St _ _ _ [_] := hO
    refine wl_nil ?_
    refine k_n ?_
    refine wp_seq ?_
    refine wp_region_lit ?_
    refine wl_v hF rfl rfl rfl (q_move rfl (hF.eval rfl)) fun a hF => ?_
    refine wl_v hF rfl rfl rfl (q_assign rfl (hF.eval rfl)) fun a hF => ?_
    refine wl_nil ?_
    refine k_n ?_
    refine wp_ret ?_
    refine r_1 hF rfl rfl ?_
    exact ⟨_, rfl, hO⟩

end Go.Proofs.Ytglienidnffnjaa
