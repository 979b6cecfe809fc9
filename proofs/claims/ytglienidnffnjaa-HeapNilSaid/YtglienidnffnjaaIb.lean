import Derived.Test.YtglienidnffnjaaIa
import Derived.Test.YtglienidnffnjaaGw19
import Derived.Test.YtglienidnffnjaaGw19
import Derived.Test.YtglienidnffnjaaPl7
namespace Go.Proofs.Ytglienidnffnjaa
open Go
set_option maxRecDepth 100000

theorem q_andT {P : Program} {o : Oper} {x y : Operand} {a : Act} {w : World} {b c : Bool} (ho : o.op = .pick x y (.const (.bool false))) (hx : a.eval x = .bool b) (hb : b = true) (hy : a.eval y = .bool c) (hc : c = true) : QV P o a w (.bool true) := by
  subst hb hc
  exact q_pick ho hx hy
set_option maxHeartbeats 4000000 in
theorem hnil_r (w0 : World) (n : Int) : Ret Try.prog 8 #[i64 n] w0 (fun v w' => v = .bool true ∧ St w0 [] w' []) := by
  have hO := St.init0 w0
  refine ret_of (m := 113) Try.func8 rfl Try.ntmps8 [(0, i64 n)] rfl ⟨rfl, trivial⟩ fun a hF => ?_
  refine wp_seq ?_
  refine wp_region_lit ?_
  refine wl_v hF rfl rfl rfl (q_assign rfl (hF.eval rfl)) fun a hF => ?_
  refine wl_nil ?_
  refine k_n ?_
  refine wp_seq ?_
  refine wp_region_lit ?_
  refine wl_v hF rfl rfl rfl (q_assign rfl (hF.eval rfl)) fun a hF => ?_
  refine wl_nil ?_
  refine k_n ?_
  refine wp_seq ?_
  refine wp_region_lit ?_
  refine wl_v hF rfl rfl rfl (q_move rfl (hF.eval rfl)) fun a hF => ?_
  refine wl_e hF rfl rfl rfl (c_call hF rfl rfl Try.call20 (nil_clear_r _)) ?_
  rintro a _ w ⟨rfl, hS⟩ hF
  have hO := hO.call0 hS
  have hO : St _ _ _ [] := hO
  refine wl_nil ?_
  refine k_n ?_
  refine wp_seq ?_
  refine wp_region_lit ?_
  refine wl_v hF rfl rfl rfl (q_move rfl (hF.eval rfl)) fun a hF => ?_
  refine wl_e hF rfl rfl rfl (c_call hF rfl rfl Try.call24 (nil_flip_r _)) ?_
  rintro a _ w ⟨rfl, hS⟩ hF
  have hO := hO.call0 hS
  have hO : St _ _ _ [] := hO
  refine wl_nil ?_
  refine k_n ?_
  refine wp_seq ?_
  refine wp_region_lit ?_
  refine wl_v hF rfl rfl rfl (q_move rfl (hF.eval rfl)) fun a hF => ?_
  refine wl_e hF rfl rfl rfl (c_call hF rfl rfl Try.call38 (nil_drop_r _)) ?_
  rintro a _ w ⟨rfl, hS⟩ hF
  have hO := hO.call0 hS
  have hO : St _ _ _ [] := hO
  refine wl_nil ?_
  refine k_n ?_
  refine wp_seq ?_
  refine wp_region_lit ?_
  refine wl_v hF rfl rfl rfl (q_move rfl (hF.eval rfl)) fun a hF => ?_
  refine wl_v hF rfl rfl rfl (c_build hF Try.underlying27 Try.zeroValue27 Try_places27 rfl rfl rfl rfl) fun a hF => ?_
  refine wl_e hF rfl rfl rfl (e_alloc hO Try.zeroValue27 rfl rfl) ?_
  rintro a _ w ⟨wb, rfl, hO⟩ hF
  refine wl_s hF rfl rfl (e_storeAll hO (i := 0) rfl Try.sizeOf27 rfl (hF.eval rfl) (hF.eval rfl) rfl rfl) ?_
  rintro a _ w ⟨-, hO⟩ hF
  have hO : St _ _ _ [_] := hO
  refine wl_nil ?_
  refine k_n ?_
  refine wp_seq ?_
  refine wp_region_lit ?_
  refine wl_v hF rfl rfl rfl (q_move rfl (hF.eval rfl)) fun a hF => ?_
  refine wl_e hF rfl rfl rfl (c_call hF rfl rfl Try.call12 (nil_alloc_r _ _ _ _)) ?_
  rintro a _ w ⟨rfl, hS⟩ hF
  have hO := hO.call0 hS
  have hO : St _ _ _ [_] := hO
  refine wl_v hF rfl rfl rfl (q_move rfl (hF.eval rfl)) fun a hF => ?_
  refine wl_v hF rfl rfl rfl (q_extract rfl (hF.eval rfl) rfl) fun a hF => ?_
  refine wl_v hF rfl rfl rfl (q_extract rfl (hF.eval rfl) rfl) fun a hF => ?_
  refine wl_v hF rfl rfl rfl (q_assign rfl (hF.eval rfl)) fun a hF => ?_
  refine wl_v hF rfl rfl rfl (q_assign rfl (hF.eval rfl)) fun a hF => ?_
  refine wl_nil ?_
  refine k_n ?_
  refine wp_seq ?_
  refine wp_region_lit ?_
  refine wl_v hF rfl rfl rfl (q_move rfl (hF.eval rfl)) fun a hF => ?_
  refine wl_e hF rfl rfl rfl (c_call hF rfl rfl Try.call16 (nil_keep_r _ _ _ _)) ?_
  rintro a _ w ⟨rfl, hS⟩ hF
  have hO := hO.call0 hS
  have hO : St _ _ _ [_] := hO
  refine wl_v hF rfl rfl rfl (q_move rfl (hF.eval rfl)) fun a hF => ?_
  refine wl_v hF rfl rfl rfl (q_extract rfl (hF.eval rfl) rfl) fun a hF => ?_
  refine wl_v hF rfl rfl rfl (q_extract rfl (hF.eval rfl) rfl) fun a hF => ?_
  refine wl_v hF rfl rfl rfl (q_assign rfl (hF.eval rfl)) fun a hF => ?_
  refine wl_v hF rfl rfl rfl (q_assign rfl (hF.eval rfl)) fun a hF => ?_
  refine wl_nil ?_
  refine k_n ?_
  refine wp_seq ?_
  refine wp_region_lit ?_
  refine wl_v hF rfl rfl rfl (q_move rfl (hF.eval rfl)) fun a hF => ?_
  refine wl_v hF rfl rfl rfl (q_move rfl (hF.eval rfl)) fun a hF => ?_
  refine wl_e hF rfl rfl rfl (c_call hF rfl rfl Try.call18 (nil_object_r _ _)) ?_
  rintro a _ w ⟨rfl, hS⟩ hF
  have hO := hO.call0 hS
  have hO : St _ _ _ [_] := hO
  refine wl_v hF rfl rfl rfl (q_move rfl (hF.eval rfl)) fun a hF => ?_
  refine wl_v hF rfl rfl rfl (q_extract rfl (hF.eval rfl) rfl) fun a hF => ?_
  refine wl_v hF rfl rfl rfl (q_extract rfl (hF.eval rfl) rfl) fun a hF => ?_
  refine wl_e hF rfl rfl rfl (e_alloc hO Try.zeroValue42 rfl rfl) ?_
  rintro a _ w ⟨ob, rfl, hO⟩ hF
  refine wl_s hF rfl rfl (e_storeAll hO (i := 0) rfl Try.sizeOf42 rfl (hF.eval rfl) (hF.eval rfl) rfl rfl) ?_
  rintro a _ w ⟨-, hO⟩ hF
  have hO : St _ _ _ [_, _] := hO
  refine wl_v hF rfl rfl rfl (q_assign rfl (hF.eval rfl)) fun a hF => ?_
  refine wl_nil ?_
  refine k_n ?_
  refine wp_seq ?_
  refine wp_region_lit ?_
  refine wl_v hF rfl rfl rfl (q_move rfl (hF.eval rfl)) fun a hF => ?_
  refine wl_e hF rfl rfl rfl (c_call hF rfl rfl Try.call19 (nil_used_r _)) ?_
  rintro a _ w ⟨rfl, hS⟩ hF
  have hO := hO.call0 hS
  have hO : St _ _ _ [_, _] := hO
  refine wl_v hF rfl rfl rfl (q_move rfl (hF.eval rfl)) fun a hF => ?_
  refine wl_v hF rfl rfl rfl (q_extract rfl (hF.eval rfl) rfl) fun a hF => ?_
  refine wl_v hF rfl rfl rfl (q_extract rfl (hF.eval rfl) rfl) fun a hF => ?_
  refine wl_v hF rfl rfl rfl (q_assign rfl (hF.eval rfl)) fun a hF => ?_
  refine wl_v hF rfl rfl rfl (q_assign rfl (hF.eval rfl)) fun a hF => ?_
  refine wl_nil ?_
  refine k_n ?_
  refine wp_seq ?_
  have hO := hO.drew
  refine wp_region_E [0, 0, 0, 0, 0, 0, 0, 0, 0, 0, 0, 0, 0, 0, 1, 2, 0, 0, 0, 0, 0, 2, 0, 0, 0, 0, 0, 1, 2, 0, 0, 0, 0, 1, 2, 1, 0, 0, 0, 0, 0, 2, 0, 0, 0, 0, 0, 0, 0, 0, 0, 0, 0, 0, 2, 0, 0, 0, 0, 2, 0, 0, 0, 0, 2, 0, 0, 0, 0, 2, 0, 0] [0, 1, 3, 7, 15, 31, 63, 127, 255, 511, 1023, 2047, 2047, 2047, 2047, 32767, 65535, 131071, 262143, 524287, 524287, 2097151, 4194303, 8388607, 16777215, 33554431, 33554431, 33554431, 268435455, 536870911, 1073741823, 2147483647, 4294967295, 4294967295, 17179869183, 4294967295, 68719476735, 137438953471, 274877906943, 549755813887, 549755813887, 2199023255551, 4398046511103, 8796093022207, 17592186044415, 35184372088831, 70368744177663, 140737488355327, 281474976710655, 562949953421311, 1125899906842623, 2251799813685247, 4503599627370495, 9007199254740991, 18014398509481983, 36028797018963967, 72057594037927935, 144115188075855871, 288230376151711743, 576460752303423487, 1152921504606846975, 2305843009213693951, 4611686018427387903, 9223372036854775807, 18446744073709551615, 36893488147419103231, 73786976294838206463, 147573952589676412927, 295147905179352825855, 590295810358705651711, 1180591620717411303423, 2361183241434822606847] (fun w => St _ _ w _) Try_mixed (by kernel_rfl) hO ?_
  refine wd_p hF rfl rfl rfl (fun w => q_move rfl (hF.eval rfl)) fun a hF => ?_
  refine wd_p hF rfl rfl rfl (fun w => q_eq rfl (hF.eval rfl) (hF.eval rfl)) fun a hF => ?_
  refine wd_p hF rfl rfl rfl (fun w => q_move rfl (hF.eval rfl)) fun a hF => ?_
  refine wd_un hF rfl rfl rfl rfl (isB_T (by simp)) ?_
  refine wd_p hF rfl rfl rfl (fun w => q_move rfl (hF.eval rfl)) fun a hF => ?_
  refine wd_un hF rfl rfl rfl rfl (isB_T (by simp)) ?_
  refine wd_p hF rfl rfl rfl (fun w => q_eq rfl (hF.eval rfl) (hF.eval rfl)) fun a hF => ?_
  refine wd_p hF rfl rfl rfl (fun w => q_andT rfl (hF.eval rfl) (by simp) (hF.eval rfl) (by simp)) fun a hF => ?_
  refine wd_p hF rfl rfl rfl (fun w => q_move rfl (hF.eval rfl)) fun a hF => ?_
  refine wd_un hF rfl rfl rfl rfl (rfl) ?_
  refine wd_p hF rfl rfl rfl (fun w => q_move rfl (hF.eval rfl)) fun a hF => ?_
  refine wd_un hF rfl rfl rfl rfl (rfl) ?_
  refine wd_p hF rfl rfl rfl (fun w => q_eq rfl (hF.eval rfl) (hF.eval rfl)) fun a hF => ?_
  refine wd_p hF rfl rfl rfl (fun w => q_andT rfl (hF.eval rfl) (by simp) (hF.eval rfl) (by simp)) fun a hF => ?_
  refine wd_p hF rfl rfl rfl (fun w => q_move rfl (hF.eval rfl)) fun a hF => ?_
  refine wd_un hF rfl rfl rfl rfl (rfl) ?_
  refine wd_p hF rfl rfl rfl (fun w => q_move rfl (hF.eval rfl)) fun a hF => ?_
  refine wd_un hF rfl rfl rfl rfl (rfl) ?_
  refine wd_p hF rfl rfl rfl (fun w => q_move rfl (hF.eval rfl)) fun a hF => ?_
  refine wd_un hF rfl rfl rfl rfl (rfl) ?_
  refine wd_p hF rfl rfl rfl (fun w => q_move rfl (hF.eval rfl)) fun a hF => ?_
  refine wd_un hF rfl rfl rfl rfl (rfl) ?_
  refine wd_r hF rfl rfl rfl (fun w hO => q_loadAgg Try.isAgg27 Try.sizeOf27 rfl (hF.eval rfl) (hO.cells 1 rfl) rfl) fun a hF => ?_
  refine wd_un hF rfl rfl rfl rfl (rfl) ?_
  refine wd_e hF rfl rfl rfl (c_call hF rfl rfl Try.call17 (nil_set_r _ _ _ ⟨true, n⟩)) (fun _ _ ⟨_, hS⟩ => hO.call0 hS) ?_
  rintro a _ w ⟨rfl, hS⟩ hF
  have hO := hO.call0 hS
  have hO : St _ _ _ [_, _] := hO
  refine wd_un hF rfl rfl rfl rfl (rfl) ?_
  refine wd_p hF rfl rfl rfl (fun w => q_eq rfl (hF.eval rfl) (hF.eval rfl)) fun a hF => ?_
  refine wd_p hF rfl rfl rfl (fun w => q_andT rfl (hF.eval rfl) (by simp) (hF.eval rfl) (by simp)) fun a hF => ?_
  refine wd_p hF rfl rfl rfl (fun w => q_move rfl (hF.eval rfl)) fun a hF => ?_
  refine wd_un hF rfl rfl rfl rfl (rfl) ?_
  refine wd_p hF rfl rfl rfl (fun w => q_move rfl (hF.eval rfl)) fun a hF => ?_
  refine wd_un hF rfl rfl rfl rfl (rfl) ?_
  refine wd_p hF rfl rfl rfl (fun w => q_move rfl (hF.eval rfl)) fun a hF => ?_
  refine wd_un hF rfl rfl rfl rfl (rfl) ?_
  refine wd_e hF rfl rfl rfl (c_call hF rfl rfl Try.call23 (nil_hole_r _ _)) (fun _ _ ⟨_, hS⟩ => hO.call0 hS) ?_
  rintro a _ w ⟨rfl, hS⟩ hF
  have hO := hO.call0 hS
  have hO : St _ _ _ [_, _] := hO
  refine wd_un hF rfl rfl rfl rfl (rfl) ?_
  refine wd_p hF rfl rfl rfl (fun w => q_eq rfl (hF.eval rfl) (hF.eval rfl)) fun a hF => ?_
  refine wd_p hF rfl rfl rfl (fun w => q_andT rfl (hF.eval rfl) (by simp) (hF.eval rfl) (by simp)) fun a hF => ?_
  refine wd_p hF rfl rfl rfl (fun w => q_move rfl (hF.eval rfl)) fun a hF => ?_
  refine wd_un hF rfl rfl rfl rfl (rfl) ?_
  refine wd_p hF rfl rfl rfl (fun w => q_move rfl (hF.eval rfl)) fun a hF => ?_
  refine wd_un hF rfl rfl rfl rfl (rfl) ?_
  refine wd_p hF rfl rfl rfl (fun w => q_move rfl (hF.eval rfl)) fun a hF => ?_
  refine wd_un hF rfl rfl rfl rfl (rfl) ?_
  refine wd_r hF rfl rfl rfl (fun w hO => q_loadAgg Try.isAgg27 Try.sizeOf27 rfl (hF.eval rfl) (hO.cells 1 rfl) rfl) fun a hF => ?_
  refine wd_un hF rfl rfl rfl rfl (rfl) ?_
  refine wd_e hF rfl rfl rfl (c_call hF rfl rfl Try.call13 (nil_link_r _ _ ⟨true, n⟩)) (fun _ _ ⟨_, hS⟩ => hO.call0 hS) ?_
  rintro a _ w ⟨rfl, hS⟩ hF
  have hO := hO.call0 hS
  have hO : St _ _ _ [_, _] := hO
  refine wd_un hF rfl rfl rfl rfl (rfl) ?_
  refine wd_p hF rfl rfl rfl (fun w => q_eq rfl (hF.eval rfl) (hF.eval rfl)) fun a hF => ?_
  refine wd_p hF rfl rfl rfl (fun w => q_andT rfl (hF.eval rfl) (by simp) (hF.eval rfl) (by simp)) fun a hF => ?_
  refine wd_p hF rfl rfl rfl (fun w => q_move rfl (hF.eval rfl)) fun a hF => ?_
  refine wd_un hF rfl rfl rfl rfl (rfl) ?_
  refine wd_p hF rfl rfl rfl (fun w => q_move rfl (hF.eval rfl)) fun a hF => ?_
  refine wd_un hF rfl rfl rfl rfl (rfl) ?_
  refine wd_r hF rfl rfl rfl (fun w hO => q_loadAgg Try.isAgg27 Try.sizeOf27 rfl (hF.eval rfl) (hO.cells 1 rfl) rfl) fun a hF => ?_
  refine wd_un hF rfl rfl rfl rfl (rfl) ?_
  refine wd_e hF rfl rfl rfl (c_call hF rfl rfl Try.call14 (nil_chase_r _ ⟨true, n⟩)) (fun _ _ ⟨_, hS⟩ => hO.call0 hS) ?_
  rintro a _ w ⟨rfl, hS⟩ hF
  have hO := hO.call0 hS
  have hO : St _ _ _ [_, _] := hO
  refine wd_un hF rfl rfl rfl rfl (rfl) ?_
  refine wd_r hF rfl rfl rfl (fun w hO => q_loadAgg Try.isAgg27 Try.sizeOf27 rfl (hF.eval rfl) (hO.cells 1 rfl) rfl) fun a hF => ?_
  refine wd_un hF rfl rfl rfl rfl (rfl) ?_
  refine wd_p hF rfl rfl rfl (fun w => q_eqS Try.underlying27 Try.stoodInHeld27 Try.eqGuardType27 rfl (hF.eval rfl) (hF.eval rfl) (ef_bool (by decide) Try.isAgg4 Try.underlying4 rfl rfl (ef_int (by decide) Try.isAgg3 Try.underlying3 rfl rfl ef_nil)) (word_eq ⟨true, n⟩ ⟨true, n⟩)) fun a hF => ?_
  refine wd_p hF rfl rfl rfl (fun w => q_andT rfl (hF.eval rfl) (by simp) (hF.eval rfl) (by simp)) fun a hF => ?_
  refine wd_p hF rfl rfl rfl (fun w => q_move rfl (hF.eval rfl)) fun a hF => ?_
  refine wd_un hF rfl rfl rfl rfl (rfl) ?_
  refine wd_p hF rfl rfl rfl (fun w => q_move rfl (hF.eval rfl)) fun a hF => ?_
  refine wd_un hF rfl rfl rfl rfl (rfl) ?_
  refine wd_p hF rfl rfl rfl (fun w => q_move rfl (hF.eval rfl)) fun a hF => ?_
  refine wd_un hF rfl rfl rfl rfl (rfl) ?_
  refine wd_e hF rfl rfl rfl (c_call hF rfl rfl Try.call26 (nil_young_r _ _)) (fun _ _ ⟨_, hS⟩ => hO.call0 hS) ?_
  rintro a _ w ⟨rfl, hS⟩ hF
  have hO := hO.call0 hS
  have hO : St _ _ _ [_, _] := hO
  refine wd_un hF rfl rfl rfl rfl (rfl) ?_
  refine wd_p hF rfl rfl rfl (fun w => q_not rfl (hF.eval rfl) (dec_b _)) fun a hF => ?_
  refine wd_p hF rfl rfl rfl (fun w => q_andT rfl (hF.eval rfl) (by simp) (hF.eval rfl) (by simp)) fun a hF => ?_
  refine wd_p hF rfl rfl rfl (fun w => q_move rfl (hF.eval rfl)) fun a hF => ?_
  refine wd_un hF rfl rfl rfl rfl (rfl) ?_
  refine wd_p hF rfl rfl rfl (fun w => q_move rfl (hF.eval rfl)) fun a hF => ?_
  refine wd_un hF rfl rfl rfl rfl (rfl) ?_
  refine wd_p hF rfl rfl rfl (fun w => q_eq rfl (hF.eval rfl) (hF.eval rfl)) fun a hF => ?_
  refine wd_p hF rfl rfl rfl (fun w => q_andT rfl (hF.eval rfl) (by simp) (hF.eval rfl) (by simp)) fun a hF => ?_
  refine wd_p hF rfl rfl rfl (fun w => q_move rfl (hF.eval rfl)) fun a hF => ?_
  refine wd_un hF rfl rfl rfl rfl (rfl) ?_
  refine wd_p hF rfl rfl rfl (fun w => q_move rfl (hF.eval rfl)) fun a hF => ?_
  refine wd_un hF rfl rfl rfl rfl (rfl) ?_
  refine wd_p hF rfl rfl rfl (fun w => q_eq rfl (hF.eval rfl) (hF.eval rfl)) fun a hF => ?_
  refine wd_p hF rfl rfl rfl (fun w => q_andT rfl (hF.eval rfl) (by simp) (hF.eval rfl) (by simp)) fun a hF => ?_
  refine wd_p hF rfl rfl rfl (fun w => q_move rfl (hF.eval rfl)) fun a hF => ?_
  refine wd_un hF rfl rfl rfl rfl (rfl) ?_
  refine wd_p hF rfl rfl rfl (fun w => q_move rfl (hF.eval rfl)) fun a hF => ?_
  refine wd_un hF rfl rfl rfl rfl (rfl) ?_
  refine wd_e hF rfl rfl rfl (c_call hF rfl rfl Try.call41 (nil_left_r _)) (fun _ _ ⟨_, hS⟩ => hO.call0 hS) ?_
  rintro a _ w ⟨rfl, hS⟩ hF
  have hO := hO.call0 hS
  have hO : St _ _ _ [_, _] := hO
  refine wd_un hF rfl rfl rfl rfl (rfl) ?_
  refine wd_p hF rfl rfl rfl (fun w => q_eq rfl (hF.eval rfl) (hF.eval rfl)) fun a hF => ?_
  refine wd_p hF rfl rfl rfl (fun w => q_andT rfl (hF.eval rfl) (by simp) (hF.eval rfl) (by simp)) fun a hF => ?_
  refine wd_p hF rfl rfl rfl (fun w => q_move rfl (hF.eval rfl)) fun a hF => ?_
  refine wd_un hF rfl rfl rfl rfl (rfl) ?_
  refine wd_p hF rfl rfl rfl (fun w => q_move rfl (hF.eval rfl)) fun a hF => ?_
  refine wd_un hF rfl rfl rfl rfl (rfl) ?_
  refine wd_e hF rfl rfl rfl (c_call hF rfl rfl Try.call43 (nil_half_r _)) (fun _ _ ⟨_, hS⟩ => hO.call0 hS) ?_
  rintro a _ w ⟨rfl, hS⟩ hF
  have hO := hO.call0 hS
  have hO : St _ _ _ [_, _] := hO
  refine wd_un hF rfl rfl rfl rfl (rfl) ?_
  refine wd_p hF rfl rfl rfl (fun w => q_eq rfl (hF.eval rfl) (hF.eval rfl)) fun a hF => ?_
  refine wd_p hF rfl rfl rfl (fun w => q_andT rfl (hF.eval rfl) (by simp) (hF.eval rfl) (by simp)) fun a hF => ?_
  refine wd_p hF rfl rfl rfl (fun w => q_move rfl (hF.eval rfl)) fun a hF => ?_
  refine wd_un hF rfl rfl rfl rfl (rfl) ?_
  refine wd_p hF rfl rfl rfl (fun w => q_move rfl (hF.eval rfl)) fun a hF => ?_
  refine wd_un hF rfl rfl rfl rfl (rfl) ?_
  refine wd_e hF rfl rfl rfl (c_call hF rfl rfl Try.call25 (nil_remembered_r _)) (fun _ _ ⟨_, hS⟩ => hO.call0 hS) ?_
  rintro a _ w ⟨rfl, hS⟩ hF
  have hO := hO.call0 hS
  have hO : St _ _ _ [_, _] := hO
  refine wd_un hF rfl rfl rfl rfl (rfl) ?_
  refine wd_p hF rfl rfl rfl (fun w => q_lenSl Try.underlying36 rfl (hF.eval rfl)) fun a hF => ?_
  refine wd_un hF rfl rfl rfl rfl (rfl) ?_
  refine wd_p hF rfl rfl rfl (fun w => q_eq rfl (hF.eval rfl) (hF.eval rfl)) fun a hF => ?_
  refine wd_p hF rfl rfl rfl (fun w => q_andT rfl (hF.eval rfl) (by simp) (hF.eval rfl) (by simp)) fun a hF => ?_
  refine wd_p hF rfl rfl rfl (fun w => q_move rfl (hF.eval rfl)) fun a hF => ?_
  refine wd_un hF rfl rfl rfl rfl (rfl) ?_
  refine wd_e hF rfl rfl rfl (c_call hF rfl rfl Try.call15 (awake_r _)) (fun _ _ ⟨_, hS⟩ => hO.call0 hS) ?_
  rintro a _ w ⟨rfl, hS⟩ hF
  have hO := hO.call0 hS
  have hO : St _ _ _ [_, _] := hO
  refine wd_p hF rfl rfl rfl (fun w => q_andT rfl (hF.eval rfl) (by simp) (hF.eval rfl) (by simp)) fun a hF => ?_
  refine wd_p hF rfl rfl rfl (fun w => q_assign rfl (hF.eval rfl)) fun a hF => ?_
  refine wd_nil ?_
  refine k_n ?_
  refine wp_ret ?_
  refine r_1 hF rfl rfl ?_
  have hO := hO.drop1 0
  have hO := hO.drop1 0
  have hO : St _ _ _ [] := hO
  exact ⟨rfl, hO⟩

end Go.Proofs.Ytglienidnffnjaa
