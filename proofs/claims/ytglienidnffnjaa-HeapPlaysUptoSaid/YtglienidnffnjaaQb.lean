import Derived.Test.YtglienidnffnjaaHk
import Derived.Test.YtglienidnffnjaaPl18
import Derived.Test.YtglienidnffnjaaQa
namespace Go.Proofs.Ytglienidnffnjaa
open Go
set_option maxRecDepth 100000
set_option linter.unusedVariables false
theorem copied_rr (w0 : World) (vf : Value) (fs : List Wd) (hfl : fs.length ≤ 1048576) (hR : RdT w0 [] vf wordE fs) : Ret Try.prog 65 #[vf] w0 (fun v w' => ∃ v2, v = v2 ∧ St w0 [] w' [slT v2 27 wordE fs]) := by
  have hO := St.init0 w0
  refine ret_of (m := 7) Try.func65 rfl Try.ntmps65 [(0, vf)] rfl ⟨rfl, trivial⟩ fun a hF => ?_
  refine wp_seq ?_
  refine wp_region_lit ?_
  refine wl_v hF rfl rfl rfl (q_assign rfl (hF.eval rfl)) fun a hF => ?_
  refine wl_nil ?_
  refine k_n ?_
  refine wp_seq ?_
  refine wp_region_lit ?_
  refine wl_v hF rfl rfl rfl (q_assign rfl (hF.eval rfl)) fun a hF => ?_
  have hO := hO.nilSl 27 2
  replace hO : St _ _ _ [slT _ 27 wordE []] := hO
  refine wl_nil ?_
  refine k_n ?_
  refine wp_seq ?_
  refine wp_region_lit ?_
  refine wl_v hF rfl rfl rfl (q_move rfl (hF.eval rfl)) fun a hF => ?_
  refine wl_v hF rfl rfl rfl (q_move rfl (hF.eval rfl)) fun a hF => ?_
  refine wl_e hF rfl rfl rfl (e_appendT (bytes := 16) (r := fs) hO (i := 0) rfl (hR.now hO) Try.underlying37 Try_info27 rfl rfl rfl rfl rfl rfl (hF.eval rfl) (hF.eval rfl) (by show (0 + fs.length) * 16 ≤ _; omega) (by show 0 + fs.length ≤ _; omega)) ?_
  rintro a v2 w hO hF
  have hO : St _ _ _ [_] := hO
  replace hO : St _ _ _ [slT v2 27 wordE fs] := hO
  refine wl_v hF rfl rfl rfl (q_assign rfl (hF.eval rfl)) fun a hF => ?_
  refine wl_nil ?_
  refine k_n ?_
  refine wp_ret ?_
  refine r_1 hF rfl rfl ?_
  exact ⟨_, rfl, hO⟩

set_option maxHeartbeats 1000000 in
theorem object_rr (w0 : World) (br : Nat) (R : RH) (hR : RR w0 [] br R) (g : RG R) (hfs : ∀ p, p < 3 → ∀ x ∈ R.p p, x.fs.length ≤ 1048576) (at_ : Int) : Ret Try.prog 34 #[ptr (adr br), i64 at_] w0 (fun v w' => ∃ vf r, objR R at_ = r ∧ v = .tuple #[.agg #[i64 r.1.kind, i64 r.1.info, vf], i64 r.2] ∧ St w0 [] w' [slT vf 27 wordE r.1.fields]) := by
  have hO := St.init0 w0
  refine ret_of (m := 23) Try.func34 rfl Try.ntmps34 [(0, ptr (adr br)), (1, i64 at_)] rfl ⟨rfl, rfl, trivial⟩ fun a hF => ?_
  refine wp_seq ?_
  refine wp_region_lit ?_
  refine wl_e hF rfl rfl rfl (e_alloc hO Try.zeroValue42 rfl rfl) ?_
  rintro a _ w ⟨ob, rfl, hO⟩ hF
  refine wl_v hF rfl rfl rfl (q_assign rfl (hF.eval rfl)) fun a hF => ?_
  refine wl_nil ?_
  refine k_n ?_
  refine wp_seq ?_
  refine wp_region_lit ?_
  refine wl_v hF rfl rfl rfl (q_move rfl (hF.eval rfl)) fun a hF => ?_
  refine wl_v hF rfl rfl rfl (q_move rfl (hF.eval rfl)) fun a hF => ?_
  refine wl_e hF rfl rfl rfl (c_call hF rfl rfl Try.call63 (find_rr _ _ _ (hR.at0 hO) g _)) ?_
  rintro a _ w ⟨rfl, hS⟩ hF
  have hO := hO.call0 hS
  have hO : St _ _ _ [_] := hO
  refine wl_v hF rfl rfl rfl (q_assign rfl (hF.eval rfl)) fun a hF => ?_
  refine wl_nil ?_
  refine k_n ?_
  refine wp_seq ?_
  refine wp_seq ?_
  refine wp_region_lit ?_
  refine wl_v hF rfl rfl rfl (q_move rfl (hF.eval rfl)) fun a hF => ?_
  refine wl_v hF rfl rfl rfl (q_peq Try.underlying96 rfl (hF.eval rfl) (hF.eval rfl)) fun a hF => ?_
  refine wl_nil ?_
  refine k_n ?_
  refine wp_ifD hF rfl rfl (fun hc1 => ?_) (fun hc1 => ?_)
  · skip
    refine wp_seq ?_
    refine wp_region_lit ?_
    refine wl_v hF rfl rfl rfl (c_build hF Try.underlying42 Try.zeroValue42 Try_places42 rfl rfl rfl rfl) fun a hF => ?_
    refine wl_s hF rfl rfl (e_storeAll hO (i := 0) rfl Try.sizeOf42 rfl (hF.eval rfl) (hF.eval rfl) rfl rfl) ?_
    rintro a _ w ⟨-, hO⟩ hF
    have hO : St _ _ _ [_] := hO
    refine wl_v hF rfl rfl rfl (q_assign rfl (hF.eval rfl)) fun a hF => ?_
    refine wl_nil ?_
    refine k_n ?_
    refine wp_ret ?_
    refine k_r ?_
    refine r_ct hF rfl rfl rfl Try.isAgg42 Try.sizeOf42 (hO.cells 0 rfl) rfl ?_
    have hO := hO.drop1 0
    exact ⟨_, _, objR_1 hc1, rfl, hO.nilSl 27 2⟩
  · skip
    obtain ⟨q, hq⟩ : ∃ q, findO R at_ = some q := Option.ne_none_iff_exists'.1 (fun e => hc1 (ptrO_none.2 e))
    obtain ⟨q1, q2, q3, q4⟩ := find_is hq
    rw [hq] at hF
    have hfl := hfs q.1 q1 _ (List.mem_of_getElem? q3)
    refine wp_skip ?_
    refine k_n ?_
    refine wp_seq ?_
    refine wp_region_lit ?_
    refine wl_v hF rfl rfl rfl (q_move rfl (hF.eval rfl)) fun a hF => ?_
    refine wl_v hF rfl rfl rfl (q_nilCheck rfl (hF.eval rfl)) fun a hF => ?_
    refine wl_v hF rfl rfl rfl (q_fieldAddr0 (d := 2) Try.underlying99 rfl (hF.eval rfl) rfl Try.sizeOf42 (by decide) rfl) fun a hF => ?_
    refine wl_v hF rfl rfl rfl (q_loadAgg Try.isAgg42 Try.sizeOf42 rfl (hF.eval rfl) (RdT.cellsK ((hR.ps q.1 q1).now hO) q3 2 3 rfl) rfl) fun a hF => ?_
    refine wl_e hF rfl rfl rfl (e_alloc hO Try.zeroValue42 rfl rfl) ?_
    rintro a _ w ⟨o7, rfl, hO⟩ hF
    refine wl_s hF rfl rfl (e_storeAll hO (i := 0) rfl Try.sizeOf42 rfl (hF.eval rfl) (hF.eval rfl) rfl rfl) ?_
    rintro a _ w ⟨-, hO⟩ hF
    have hO : St _ _ _ [_, _] := hO
    refine wl_nil ?_
    refine k_n ?_
    refine wp_seq ?_
    refine wp_region_lit ?_
    refine wl_v hF rfl rfl rfl (q_fieldAddr0 (d := 2) Try.underlying42 rfl (hF.eval rfl) rfl Try.sizeOf37 (by decide) rfl) fun a hF => ?_
    refine wl_v hF rfl rfl rfl (q_load Try.isAgg37 rfl (hF.eval rfl) (hO.cell 0 rfl rfl)) fun a hF => ?_
    refine wl_e hF rfl rfl rfl (c_call hF rfl rfl Try.call65 (copied_rr _ _ _ (hfl) ((hR.fw q.1 q1 _ (List.mem_of_getElem? q3)).at0 hO))) ?_
    rintro a _ w ⟨vc, rfl, hS⟩ hF
    have hO := hO.call0 hS
    have hO : St _ _ _ [_, _, _] := hO
    obtain ⟨Ac, cc, rfl, _⟩ := Rd.is (hO.rd 0 rfl)
    refine wl_v hF rfl rfl rfl (q_fieldAddr0 (d := 2) Try.underlying42 rfl (hF.eval rfl) rfl Try.sizeOf37 (by decide) rfl) fun a hF => ?_
    refine wl_s hF rfl rfl (e_store1 hO (i := 1) rfl Try.sizeOf37 rfl (hF.eval rfl) (hF.eval rfl) (cells_one (hO.slOne 0 rfl)) rfl (hO.slOne 0 rfl)) ?_
    rintro a _ w ⟨-, hO⟩ hF
    have hO : St _ _ _ [_, _, _] := hO
    refine wl_nil ?_
    refine k_n ?_
    refine wp_seq ?_
    refine wp_region_lit ?_
    refine wl_v hF rfl rfl rfl (q_loadAgg Try.isAgg42 Try.sizeOf42 rfl (hF.eval rfl) (hO.cells 1 rfl) rfl) fun a hF => ?_
    refine wl_s hF rfl rfl (e_storeAll hO (i := 2) rfl Try.sizeOf42 rfl (hF.eval rfl) (hF.eval rfl) rfl rfl) ?_
    rintro a _ w ⟨-, hO⟩ hF
    have hO : St _ _ _ [_, _, _] := hO
    refine wl_v hF rfl rfl rfl (q_assign rfl (hF.eval rfl)) fun a hF => ?_
    refine wl_nil ?_
    refine k_n ?_
    refine wp_ret ?_
    refine r_ct hF rfl rfl rfl Try.isAgg42 Try.sizeOf42 (hO.cells 2 rfl) rfl ?_
    have hO := hO.drop1 2
    have hO := hO.drop1 1
    exact ⟨_, _, objR_2 hq, rfl, hO⟩

end Go.Proofs.Ytglienidnffnjaa
