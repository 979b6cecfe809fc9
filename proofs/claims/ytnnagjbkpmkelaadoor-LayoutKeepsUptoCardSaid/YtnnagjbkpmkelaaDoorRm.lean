import Derived.Test.YtnnagjbkpmkelaaDoorRl
import Derived.Test.YtnnagjbkpmkelaaDoorPl3
import Derived.Test.YtnnagjbkpmkelaaDoorGw12
namespace Go.Proofs.YtnnagjbkpmkelaaDoor
open Go
set_option maxRecDepth 100000
theorem backward_r (w0 : World) (v : Value) (st : List Thg) (hv : RdT w0 [] v itmE st) : Ret Tryd.prog 50 #[v] w0 (fun v2 w' => ∃ bx, v2 = .func (.func 55) #[] #[ptr (adr bx)] ∧ St w0 [] w' [.ob bx 54 [v]]) := by
  have hO := St.init0 w0
  refine ret_of (m := 4) Tryd.func50 rfl Tryd.ntmps50 [(0, v)] rfl ⟨rfl, trivial⟩ fun a hF => ?_
  refine wp_seq ?_
  refine wp_region_lit ?_
  refine wl_e hF rfl rfl rfl (e_box hO rfl (hF.eval rfl) (cells_one (RdT.one hv))) ?_
  rintro a _ w ⟨bx, rfl, hO⟩ hF
  refine wl_v hF rfl rfl rfl (q_assign rfl (hF.eval rfl)) fun a hF => ?_
  refine wl_nil ?_
  refine k_n ?_
  refine wp_seq ?_
  refine wp_region_lit ?_
  refine wl_v hF rfl rfl rfl (c_makeFunc hF rfl rfl rfl) fun a hF => ?_
  refine wl_v hF rfl rfl rfl (q_assign rfl (hF.eval rfl)) fun a hF => ?_
  refine wl_nil ?_
  refine k_n ?_
  refine wp_ret ?_
  refine r_1 hF rfl rfl ?_
  exact ⟨_, rfl, hO⟩

theorem llay_r (w0 : World) (bs : Nat) (vo vs : Value) (out : List Tok) (hA : Owns w0 [.ob bs 56 [vo, vs], slT vo 33 tokE out]) (t : Tok) (vl : Value) (ss : List (List UInt8)) (hl : ss.length ≤ 1000) (hn : out.length ≤ 1000000000000) (hR : RdT w0 (blks [.ob bs 56 [vo, vs], slT vo 33 tokE out]) vl strE ss) : Ret Tryd.prog 35 #[ptr (adr bs), .agg (tokE.cells t).toArray, vl] w0 (fun v w' => ∃ v2, v = .tuple #[] ∧ St w0 (blks [.ob bs 56 [vo, vs], slT vo 33 tokE out]) w' [.ob bs 56 [v2, vs], slT v2 33 tokE (out ++ ss.map fun s => laidT s t)]) := by
  have hO := St.init hA
  refine ret_of (m := 30) Tryd.func35 rfl Tryd.ntmps35 [(0, ptr (adr bs)), (1, .agg (tokE.cells t).toArray), (2, vl)] rfl ⟨rfl, rfl, rfl, trivial⟩ fun a hF => ?_
  refine wp_seq ?_
  refine wp_region_lit ?_
  refine wl_e hF rfl rfl rfl (e_box hO rfl (hF.eval rfl) rfl) ?_
  rintro a _ w ⟨tk, rfl, hO⟩ hF
  refine wl_nil ?_
  refine k_n ?_
  refine wp_seq ?_
  refine wp_region_lit ?_
  refine wl_v hF rfl rfl rfl (q_move rfl (hF.eval rfl)) fun a hF => ?_
  refine wl_v hF rfl rfl rfl (q_lenRd hR Tryd.underlying45 rfl (hF.eval rfl)) fun a hF => ?_
  refine wl_v hF rfl rfl rfl (q_move rfl (hF.eval rfl)) fun a hF => ?_
  refine wl_nil ?_
  refine k_n ?_
  refine wp_block ?_
  have hO : St _ _ _ [_, _, _] := hO
  refine wp_loopS (fun (x : Nat × List Tok × Value) a w' => match x with | (k, o2, v2) => (k ≤ ss.length ∧ o2 = out ++ (ss.take k).map (fun s => laidT s t)) ∧ St w0 (blks [.ob bs 56 [vo, vs], slT vo 33 tokE out]) w' [.ob tk 33 (tokE.cells t), .ob bs 56 [v2, vs], slT v2 33 tokE o2] ∧ Fr a 30 [(0, ptr (adr bs)), (4, ptr (adr tk)), (8, vl), (9, i64 ss.length), (10, i64 k)]) (fun (x : Nat × List Tok × Value) => match x with | (k, o2, v2) => ss.length - k) (0, out, vo) ⟨⟨by omega, by simp⟩, hO, hF.sub ⟨rfl, rfl, rfl, rfl, rfl, trivial⟩⟩ ?_
  rintro ⟨k, o2, v2⟩ a w ⟨⟨hk, ho2⟩, hO, hF⟩
  have hol : o2.length = out.length + k := by rw [ho2, List.length_append, List.length_map, List.length_take]; omega
  refine wp_seq ?_
  refine wp_region_lit ?_
  refine wl_v hF rfl rfl rfl (q_lt rfl (hF.eval rfl) (hF.eval rfl)) fun a hF => ?_
  refine wl_nil ?_
  refine k_n ?_
  refine wp_seq ?_
  refine wp_ifD hF rfl rfl (fun hc1 => ?_) (fun hc1 => ?_)
  · skip
    refine wp_skip ?_
    refine k_n ?_
    refine wp_seq ?_
    refine wp_block ?_
    refine wp_seq ?_
    refine wp_region_lit ?_
    obtain ⟨x, hx⟩ := get_ex (l := ss) (i := k) (by omega)
    refine wl_v hF rfl rfl rfl (q_at (i := k) hR Tryd.underlying45 Tryd.sizeOf9 rfl (hF.eval rfl) (hF.eval rfl) (by omega)) fun a hF => ?_
    refine wl_v hF rfl rfl rfl (q_load Tryd.isAgg9 rfl (hF.eval rfl) (RdT.cell0 (hR.now hO) hx rfl)) fun a hF => ?_
    refine wl_v hF rfl rfl rfl (q_assign rfl (hF.eval rfl)) fun a hF => ?_
    refine wl_nil ?_
    refine k_n ?_
    have hO := hO.drew
    refine wp_region_D [0, 0, 0, 0, 1, 0, 0, 1, 0, 1, 0, 2, 3, 0, 0, 3] (fun w => St _ _ w _) Tryd_mixed (by kernel_rfl) hO ?_
    refine wd_p hF rfl rfl rfl (fun w => q_move rfl (hF.eval rfl)) fun a hF => ?_
    refine wd_p hF rfl rfl rfl (fun w => q_move rfl (hF.eval rfl)) fun a hF => ?_
    refine wd_p hF rfl rfl rfl (fun w => q_nilCheck rfl (hF.eval rfl)) fun a hF => ?_
    refine wd_p hF rfl rfl rfl (fun w => q_fieldAddr0 (d := 0) Tryd.underlying56 rfl (hF.eval rfl) rfl Tryd.sizeOf22 (by decide) rfl) fun a hF => ?_
    refine wd_r hF rfl rfl rfl (fun w hO => q_load Tryd.isAgg22 rfl (hF.eval rfl) (hO.cell 1 rfl rfl)) fun a hF => ?_
    refine wd_p hF rfl rfl rfl (fun w => q_move rfl (hF.eval rfl)) fun a hF => ?_
    refine wd_p hF rfl rfl rfl (fun w => q_fieldAddr0 (d := 3) Tryd.underlying33 rfl (hF.eval rfl) rfl Tryd.sizeOf3 (by decide) rfl) fun a hF => ?_
    refine wd_r hF rfl rfl rfl (fun w hO => q_load Tryd.isAgg3 rfl (hF.eval rfl) (hO.cell 0 rfl rfl)) fun a hF => ?_
    refine wd_p hF rfl rfl rfl (fun w => q_fieldAddr0 (d := 4) Tryd.underlying33 rfl (hF.eval rfl) rfl Tryd.sizeOf3 (by decide) rfl) fun a hF => ?_
    refine wd_r hF rfl rfl rfl (fun w hO => q_load Tryd.isAgg3 rfl (hF.eval rfl) (hO.cell 0 rfl rfl)) fun a hF => ?_
    refine wd_p hF rfl rfl rfl (fun w => c_build hF Tryd.underlying33 Tryd.zeroValue33 Tryd_places33 rfl rfl rfl rfl) fun a hF => ?_
    refine wd_e hF rfl rfl rfl (c_buildSlice hF hO Tryd.underlying22 Tryd.sizeOf33 Tryd.zeroValue33 rfl rfl rfl rfl rfl rfl rfl) (fun _ _ ⟨_, _, hO⟩ => hO.tail) ?_
    rintro a _ w ⟨b1, rfl, hO⟩ hF
    refine wd_f hF rfl rfl rfl (e_appendT (bytes := 48) (r := [laidT x t]) hO (i := 3) rfl (hO.rd 0 rfl) Tryd.underlying22 Tryd_info33 rfl rfl rfl rfl rfl rfl (hF.eval rfl) (hF.eval rfl) (by show (List.length _ + 1) * 48 ≤ _; omega) (by show List.length _ + 1 ≤ _; omega)) ?_
    rintro a v26 w hO hF
    have hO : St _ _ _ [_, _, _, _] := hO
    refine wd_p hF rfl rfl rfl (fun w => q_nilCheck rfl (hF.eval rfl)) fun a hF => ?_
    refine wd_p hF rfl rfl rfl (fun w => q_fieldAddr0 (d := 0) Tryd.underlying56 rfl (hF.eval rfl) rfl Tryd.sizeOf22 (by decide) rfl) fun a hF => ?_
    refine wd_s hF rfl rfl (e_store1 hO (i := 2) rfl Tryd.sizeOf22 rfl (hF.eval rfl) (hF.eval rfl) (cells_one (hO.slOne 3 rfl)) rfl (hO.slOne 3 rfl)) ?_
    rintro a _ w ⟨-, hO⟩ hF
    have hO : St _ _ _ [_, _, _, _] := hO
    refine wd_nil ?_
    refine b_n ?_
    refine k_n ?_
    refine wp_region_lit ?_
    refine wl_v hF rfl rfl rfl (q_add rfl (hF.eval rfl) (hF.eval rfl) (by omega)) fun a hF => ?_
    refine wl_v hF rfl rfl rfl (q_move rfl (hF.eval rfl)) fun a hF => ?_
    refine wl_nil ?_
    refine k_n ?_
    have hO := hO.drop1 0
    have hO : St _ _ _ [_, _, _] := hO
    exact ⟨(k + 1, o2 ++ [laidT x t], _), ⟨⟨by omega, by rw [ho2, List.take_add_one, hx]; simp⟩, hO, hF.sub ⟨rfl, rfl, rfl, rfl, rfl, trivial⟩⟩, by dsimp only; omega⟩
  · skip
    refine wp_exit ?_
    refine k_x ?_
    refine k_x ?_
    refine b_x ?_
    refine r_0n hF rfl ?_
    have hO := hO.drop1 0
    have hO : St _ _ _ [_, _] := hO
    obtain rfl : k = ss.length := by omega
    rw [List.take_length] at ho2
    subst ho2
    exact ⟨_, rfl, hO⟩

end Go.Proofs.YtnnagjbkpmkelaaDoor
