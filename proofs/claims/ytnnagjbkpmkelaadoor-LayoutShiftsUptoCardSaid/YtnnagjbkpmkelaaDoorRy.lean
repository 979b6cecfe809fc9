import Derived.Test.YtnnagjbkpmkelaaDoorRv
import Derived.Test.YtnnagjbkpmkelaaDoorGw14
import Derived.Test.YtnnagjbkpmkelaaDoorPl6
namespace Go.Proofs.YtnnagjbkpmkelaaDoor
open Go Lw
set_option maxRecDepth 100000

theorem sh_on {s : Int} {ts : List Tok} {k : Nat} {x : Tok} (hx : ts[k]? = some x) : (ts.take k).map (shT s) ++ [shT s x] = (ts.take (k + 1)).map (shT s) := by rw [take_at hx, List.map_append]; rfl
set_option maxHeartbeats 4000000 in
theorem shifts_r (w0 : World) (vt : Value) (ts : List Tok) (hn : ts.length ≤ 1048576) (hR : RdT w0 [] vt tokE ts) (hG : GlB w0 []) (by_ : Int) (hby : -9223372036854775808 ≤ by_ ∧ by_ ≤ 9223372036854775807) : Ret Tryd.prog 6 #[vt, i64 by_] w0 (fun v w' => v = .bool true ∧ St w0 [] w' []) := by
  have hO := St.init0 w0
  refine ret_of (m := 120) Tryd.func6 rfl Tryd.ntmps6 [(0, vt), (1, i64 by_)] rfl ⟨rfl, rfl, trivial⟩ fun a hF => ?_
  refine wp_seq ?_
  refine wp_region_lit ?_
  refine wl_v hF rfl rfl rfl (q_assign rfl (hF.eval rfl)) fun a hF => ?_
  refine wl_nil ?_
  refine k_n ?_
  refine wp_seq ?_
  refine wp_seq ?_
  refine wp_region_lit ?_
  refine wl_v hF rfl rfl rfl (q_move rfl (hF.eval rfl)) fun a hF => ?_
  refine wl_v hF rfl rfl rfl (q_lt rfl (hF.eval rfl) (hF.eval rfl)) fun a hF => ?_
  refine wl_v hF rfl rfl rfl (q_move rfl (hF.eval rfl)) fun a hF => ?_
  refine wl_g hF rfl rfl rfl rfl rfl rfl (fun hg => q_move rfl (hF.eval rfl)) fun a hF => ?_
  refine wl_g hF rfl rfl rfl rfl rfl rfl (fun hg => q_gt rfl ((hF.eval rfl).trans (gv_of hg)) (hF.eval rfl)) fun a hF => ?_
  refine wl_v hF rfl rfl rfl (q_or rfl (hF.eval rfl) rfl (fun hg2 => ((hF.eval rfl).trans (gv_of hg2))) rfl) fun a hF => ?_
  refine wl_nil ?_
  refine k_n ?_
  refine wp_ifD hF rfl rfl (fun hc1 => ?_) (fun hc1 => ?_)
  · skip
    refine wp_seq ?_
    refine wp_region_lit ?_
    refine wl_e hF rfl rfl rfl (c_call hF rfl rfl Tryd.call10 (awake_r _ (hG.at0 hO))) ?_
    rintro a _ w ⟨rfl, hS⟩ hF
    have hO := hO.call0 hS
    have hO : St _ _ _ [] := hO
    refine wl_v hF rfl rfl rfl (q_assign rfl (hF.eval rfl)) fun a hF => ?_
    refine wl_nil ?_
    refine k_n ?_
    refine wp_ret ?_
    refine k_r ?_
    refine r_1 hF rfl rfl ?_
    have hO : St _ _ _ [] := hO
    exact ⟨rfl, hO⟩
  · skip
    have hb1 : 0 ≤ by_ ∧ by_ ≤ 1099511627776 := by have := not_or.1 hc1; omega
    refine wp_skip ?_
    refine k_n ?_
    refine wp_seq ?_
    refine wp_region_lit ?_
    refine wl_v hF rfl rfl rfl (q_assign rfl (hF.eval rfl)) fun a hF => ?_
    have hO := hO.nilSl 33 5
    refine wl_nil ?_
    refine k_n ?_
    refine wp_seq ?_
    refine wp_seq ?_
    refine wp_region_lit ?_
    refine wl_v hF rfl rfl rfl (q_assign rfl (hF.eval rfl)) fun a hF => ?_
    refine wl_nil ?_
    refine k_n ?_
    refine wp_block ?_
    have hO : St _ _ _ [_] := hO
    refine wp_loopS (fun (y : Nat × Value) a w' => match y with | (k, vw) => (k ≤ ts.length ∧ (∀ x ∈ ts.take k, 1 ≤ x.col ∧ x.col ≤ 1099511627776)) ∧ St w0 [] w' [slT vw 33 tokE ((ts.take k).map (shT by_))] ∧ Fr a 120 [(0, vt), (1, i64 by_), (5, vw), (6, i64 k)]) (fun (y : Nat × Value) => match y with | (k, vw) => ts.length - k) (0, _) ⟨⟨by omega, by simp⟩, hO, hF.sub ⟨rfl, rfl, rfl, rfl, trivial⟩⟩ ?_
    rintro ⟨k, vw⟩ a w ⟨⟨hk, hcs⟩, hO, hF⟩
    have hlk : ((ts.take k).map (shT by_)).length = k := by rw [List.length_map, List.length_take]; omega
    refine wp_seq ?_
    refine wp_seq ?_
    refine wp_region_lit ?_
    refine wl_v hF rfl rfl rfl (q_move rfl (hF.eval rfl)) fun a hF => ?_
    refine wl_v hF rfl rfl rfl (q_move rfl (hF.eval rfl)) fun a hF => ?_
    refine wl_v hF rfl rfl rfl (q_lenRd hR Tryd.underlying22 rfl (hF.eval rfl)) fun a hF => ?_
    refine wl_v hF rfl rfl rfl (q_lt rfl (hF.eval rfl) (hF.eval rfl)) fun a hF => ?_
    refine wl_nil ?_
    refine k_n ?_
    refine wp_ifD hF rfl rfl (fun hc2 => ?_) (fun hc2 => ?_)
    · skip
      refine wp_skip ?_
      refine k_n ?_
      refine wp_seq ?_
      refine wp_block ?_
      refine wp_seq ?_
      refine wp_region_lit ?_
      refine wl_v hF rfl rfl rfl (q_move rfl (hF.eval rfl)) fun a hF => ?_
      refine wl_v hF rfl rfl rfl (q_move rfl (hF.eval rfl)) fun a hF => ?_
      obtain ⟨x, hx⟩ := get_ex (l := ts) (i := k) (by omega)
      refine wl_v hF rfl rfl rfl (q_at (i := k) hR Tryd.underlying22 Tryd.sizeOf33 rfl (hF.eval rfl) (hF.eval rfl) (by omega)) fun a hF => ?_
      refine wl_v hF rfl rfl rfl (q_loadAgg Tryd.isAgg33 Tryd.sizeOf33 rfl (hF.eval rfl) (RdT.cells (hR.now hO) hx) rfl) fun a hF => ?_
      refine wl_e hF rfl rfl rfl (e_alloc hO Tryd.zeroValue33 rfl rfl) ?_
      rintro a _ w ⟨tk, rfl, hO⟩ hF
      refine wl_s hF rfl rfl (e_storeAll hO (i := 0) rfl Tryd.sizeOf33 rfl (hF.eval rfl) (hF.eval rfl) rfl rfl) ?_
      rintro a _ w ⟨-, hO⟩ hF
      have hO : St _ _ _ [_, _] := hO
      refine wl_nil ?_
      refine k_n ?_
      refine wp_seq ?_
      refine wp_seq ?_
      refine wp_region_lit ?_
      refine wl_v hF rfl rfl rfl (q_fieldAddr0 (d := 4) Tryd.underlying33 rfl (hF.eval rfl) rfl Tryd.sizeOf3 (by decide) rfl) fun a hF => ?_
      refine wl_v hF rfl rfl rfl (q_load Tryd.isAgg3 rfl (hF.eval rfl) (hO.cell 0 rfl rfl)) fun a hF => ?_
      refine wl_v hF rfl rfl rfl (q_lt rfl (hF.eval rfl) (hF.eval rfl)) fun a hF => ?_
      refine wl_v hF rfl rfl rfl (q_move rfl (hF.eval rfl)) fun a hF => ?_
      refine wl_g hF rfl rfl rfl rfl rfl rfl (fun hg => q_fieldAddr0 (d := 4) Tryd.underlying33 rfl (hF.eval rfl) rfl Tryd.sizeOf3 (by decide) rfl) fun a hF => ?_
      refine wl_g hF rfl rfl rfl rfl rfl rfl (fun hg => q_load Tryd.isAgg3 rfl ((hF.eval rfl).trans (gv_of hg)) (hO.cell 0 rfl rfl)) fun a hF => ?_
      refine wl_g hF rfl rfl rfl rfl rfl rfl (fun hg => q_gt rfl ((hF.eval rfl).trans (gv_of hg)) (hF.eval rfl)) fun a hF => ?_
      refine wl_v hF rfl rfl rfl (q_or rfl (hF.eval rfl) rfl (fun hg2 => ((hF.eval rfl).trans (gv_of hg2))) rfl) fun a hF => ?_
      refine wl_nil ?_
      refine k_n ?_
      refine wp_ifD hF rfl rfl (fun hc3 => ?_) (fun hc3 => ?_)
      · skip
        refine wp_seq ?_
        refine wp_region_lit ?_
        refine wl_e hF rfl rfl rfl (c_call hF rfl rfl Tryd.call10 (awake_r _ (hG.at0 hO))) ?_
        rintro a _ w ⟨rfl, hS⟩ hF
        have hO := hO.call0 hS
        have hO : St _ _ _ [_, _] := hO
        refine wl_v hF rfl rfl rfl (q_assign rfl (hF.eval rfl)) fun a hF => ?_
        refine wl_nil ?_
        refine k_n ?_
        refine wp_ret ?_
        refine k_r ?_
        refine b_r ?_
        refine k_r ?_
        refine k_r ?_
        refine b_r ?_
        refine k_r ?_
        refine r_1 hF rfl rfl ?_
        have hO := hO.drop1 0
        have hO := hO.drop1 0
        have hO : St _ _ _ [] := hO
        exact ⟨rfl, hO⟩
      · skip
        have hcx : 1 ≤ x.col ∧ x.col ≤ 1099511627776 := by have := not_or.1 hc3; omega
        refine wp_skip ?_
        refine k_n ?_
        refine wp_seq ?_
        refine wp_region_lit ?_
        refine wl_v hF rfl rfl rfl (q_fieldAddr0 (d := 4) Tryd.underlying33 rfl (hF.eval rfl) rfl Tryd.sizeOf3 (by decide) rfl) fun a hF => ?_
        refine wl_v hF rfl rfl rfl (q_load Tryd.isAgg3 rfl (hF.eval rfl) (hO.cell 0 rfl rfl)) fun a hF => ?_
        refine wl_v hF rfl rfl rfl (q_move rfl (hF.eval rfl)) fun a hF => ?_
        refine wl_v hF rfl rfl rfl (q_add rfl (hF.eval rfl) (hF.eval rfl) (by omega)) fun a hF => ?_
        refine wl_v hF rfl rfl rfl (q_fieldAddr0 (d := 4) Tryd.underlying33 rfl (hF.eval rfl) rfl Tryd.sizeOf3 (by decide) rfl) fun a hF => ?_
        refine wl_s hF rfl rfl (e_store1 hO (i := 0) rfl Tryd.sizeOf3 rfl (hF.eval rfl) (hF.eval rfl) rfl rfl rfl) ?_
        rintro a _ w ⟨-, hO⟩ hF
        have hO : St _ _ _ [_, _] := hO
        replace hO : St _ _ _ [.ob tk 33 (tokE.cells (shT by_ x)), _] := hO
        refine wl_nil ?_
        refine k_n ?_
        refine wp_region_lit ?_
        refine wl_v hF rfl rfl rfl (q_move rfl (hF.eval rfl)) fun a hF => ?_
        refine wl_v hF rfl rfl rfl (q_loadAgg Tryd.isAgg33 Tryd.sizeOf33 rfl (hF.eval rfl) (hO.cells 0 rfl) rfl) fun a hF => ?_
        refine wl_e hF rfl rfl rfl (c_buildSlice hF hO Tryd.underlying22 Tryd.sizeOf33 Tryd.zeroValue33 rfl rfl rfl rfl rfl rfl rfl) ?_
        rintro a _ w ⟨b1, rfl, hO⟩ hF
        refine wl_e hF rfl rfl rfl (e_appendT (bytes := 48) (r := [shT by_ x]) hO (i := 2) rfl (hO.rd 0 rfl) Tryd.underlying22 Tryd_info33 rfl rfl rfl rfl rfl rfl (hF.eval rfl) (hF.eval rfl) (by show (List.length _ + 1) * 48 ≤ _; omega) (by show List.length _ + 1 ≤ _; omega)) ?_
        rintro a v49 w hO hF
        have hO : St _ _ _ [_, _, _] := hO
        refine wl_v hF rfl rfl rfl (q_assign rfl (hF.eval rfl)) fun a hF => ?_
        refine wl_nil ?_
        refine b_n ?_
        refine k_n ?_
        refine wp_region_lit ?_
        refine wl_v hF rfl rfl rfl (q_move rfl (hF.eval rfl)) fun a hF => ?_
        refine wl_v hF rfl rfl rfl (q_add rfl (hF.eval rfl) (hF.eval rfl) (by omega)) fun a hF => ?_
        refine wl_v hF rfl rfl rfl (q_assign rfl (hF.eval rfl)) fun a hF => ?_
        refine wl_nil ?_
        refine k_n ?_
        have hO := hO.drop1 0
        have hO := hO.drop1 0
        have hO : St _ _ _ [_] := hO
        have hlx := (List.getElem?_eq_some_iff.1 hx).1
        rw [sh_on hx] at hO
        exact ⟨(k + 1, _), ⟨⟨by omega, allP_on hx hcs hcx⟩, hO, hF.sub ⟨rfl, rfl, rfl, rfl, trivial⟩⟩, by dsimp only; omega⟩
    · skip
      have hkt : k = ts.length := by omega
      rw [hkt, List.take_length] at hcs hO
      refine wp_exit ?_
      refine k_x ?_
      refine k_x ?_
      refine b_x ?_
      refine k_n ?_
      refine wp_seq ?_
      refine wp_region_lit ?_
      refine wl_v hF rfl rfl rfl (q_move rfl (hF.eval rfl)) fun a hF => ?_
      refine wl_e hF rfl rfl rfl (c_call hF rfl rfl Tryd.call11 (play_r _ _ _ (by omega) (hR.at0 hO) (hG.at0 hO))) ?_
      rintro a _ w ⟨va, la, d, ha, rfl, hS⟩ hF
      have hO := hO.call0 hS
      have hO : St _ _ _ [_, _] := hO
      refine wl_v hF rfl rfl rfl (q_move rfl (hF.eval rfl)) fun a hF => ?_
      refine wl_v hF rfl rfl rfl (q_extract rfl (hF.eval rfl) rfl) fun a hF => ?_
      refine wl_v hF rfl rfl rfl (q_extract rfl (hF.eval rfl) rfl) fun a hF => ?_
      refine wl_e hF rfl rfl rfl (e_alloc hO Tryd.zeroValue25 rfl rfl) ?_
      rintro a _ w ⟨e1, rfl, hO⟩ hF
      refine wl_v hF rfl rfl rfl (q_assign rfl (hF.eval rfl)) fun a hF => ?_
      refine wl_s hF rfl rfl (e_storeAll hO (i := 0) rfl Tryd.sizeOf25 rfl (hF.eval rfl) (hF.eval rfl) rfl rfl) ?_
      rintro a _ w ⟨-, hO⟩ hF
      have hO : St _ _ _ [_, _, _] := hO
      refine wl_nil ?_
      refine k_n ?_
      refine wp_seq ?_
      refine wp_region_lit ?_
      refine wl_v hF rfl rfl rfl (q_move rfl (hF.eval rfl)) fun a hF => ?_
      refine wl_e hF rfl rfl rfl (c_call hF rfl rfl Tryd.call11 (play_r _ _ _ (by rw [List.length_map]; omega) (hO.rdT 2 rfl) (hG.at0 hO))) ?_
      rintro a _ w ⟨vb, lb, d2, hb, rfl, hS⟩ hF
      have hO := hO.call0 hS
      have hO : St _ _ _ [_, _, _, _] := hO
      obtain ⟨m1, m2, m3, m4, m5, m6⟩ := shifts_main hb1.1 hcs ha hb
      have hml : lb.length = la.length := by rw [m1]; split <;> simp
      refine wl_v hF rfl rfl rfl (q_move rfl (hF.eval rfl)) fun a hF => ?_
      refine wl_v hF rfl rfl rfl (q_extract rfl (hF.eval rfl) rfl) fun a hF => ?_
      refine wl_v hF rfl rfl rfl (q_extract rfl (hF.eval rfl) rfl) fun a hF => ?_
      refine wl_e hF rfl rfl rfl (e_alloc hO Tryd.zeroValue25 rfl rfl) ?_
      rintro a _ w ⟨e2, rfl, hO⟩ hF
      refine wl_v hF rfl rfl rfl (q_assign rfl (hF.eval rfl)) fun a hF => ?_
      refine wl_s hF rfl rfl (e_storeAll hO (i := 0) rfl Tryd.sizeOf25 rfl (hF.eval rfl) (hF.eval rfl) rfl rfl) ?_
      rintro a _ w ⟨-, hO⟩ hF
      have hO : St _ _ _ [_, _, _, _, _] := hO
      refine wl_nil ?_
      refine k_n ?_
      refine wp_seq ?_
      refine wp_seq ?_
      refine wp_region_lit ?_
      refine wl_v hF rfl rfl rfl (q_move rfl (hF.eval rfl)) fun a hF => ?_
      refine wl_v hF rfl rfl rfl (q_lenRd (hO.rd 3 rfl) Tryd.underlying22 rfl (hF.eval rfl)) fun a hF => ?_
      refine wl_v hF rfl rfl rfl (q_move rfl (hF.eval rfl)) fun a hF => ?_
      refine wl_v hF rfl rfl rfl (q_lenRd (hO.rd 1 rfl) Tryd.underlying22 rfl (hF.eval rfl)) fun a hF => ?_
      refine wl_v hF rfl rfl rfl (q_ne rfl (hF.eval rfl) (hF.eval rfl)) fun a hF => ?_
      refine wl_v hF rfl rfl rfl (q_move rfl (hF.eval rfl)) fun a hF => ?_
      refine wl_g hF rfl rfl rfl rfl rfl rfl (fun hg => q_fieldAddr0 (d := 3) Tryd.underlying25 rfl (hF.eval rfl) rfl Tryd.sizeOf23 (by decide) rfl) fun a hF => ?_
      refine wl_g hF rfl rfl rfl rfl rfl rfl (fun hg => q_load Tryd.isAgg23 rfl ((hF.eval rfl).trans (gv_of hg)) (hO.cell 2 rfl rfl)) fun a hF => ?_
      refine wl_g hF rfl rfl rfl rfl rfl rfl (fun hg => q_fieldAddr0 (d := 3) Tryd.underlying25 rfl (hF.eval rfl) rfl Tryd.sizeOf23 (by decide) rfl) fun a hF => ?_
      refine wl_g hF rfl rfl rfl rfl rfl rfl (fun hg => q_load Tryd.isAgg23 rfl ((hF.eval rfl).trans (gv_of hg)) (hO.cell 0 rfl rfl)) fun a hF => ?_
      refine wl_g hF rfl rfl rfl rfl rfl rfl (fun hg => q_ne rfl ((hF.eval rfl).trans (gv_of hg)) ((hF.eval rfl).trans (gv_of hg))) fun a hF => ?_
      refine wl_v hF rfl rfl rfl (q_or rfl (hF.eval rfl) rfl (fun hg2 => ((hF.eval rfl).trans (gv_of hg2))) rfl) fun a hF => ?_
      refine wl_v hF rfl rfl rfl (q_move rfl (hF.eval rfl)) fun a hF => ?_
      refine wl_g hF rfl rfl rfl rfl rfl rfl (fun hg => q_fieldAddr0 (d := 1) Tryd.underlying25 rfl (hF.eval rfl) rfl Tryd.sizeOf3 (by decide) rfl) fun a hF => ?_
      refine wl_g hF rfl rfl rfl rfl rfl rfl (fun hg => q_load Tryd.isAgg3 rfl ((hF.eval rfl).trans (gv_of hg)) (hO.cell 2 rfl rfl)) fun a hF => ?_
      refine wl_g hF rfl rfl rfl rfl rfl rfl (fun hg => q_fieldAddr0 (d := 1) Tryd.underlying25 rfl (hF.eval rfl) rfl Tryd.sizeOf3 (by decide) rfl) fun a hF => ?_
      refine wl_g hF rfl rfl rfl rfl rfl rfl (fun hg => q_load Tryd.isAgg3 rfl ((hF.eval rfl).trans (gv_of hg)) (hO.cell 0 rfl rfl)) fun a hF => ?_
      refine wl_g hF rfl rfl rfl rfl rfl rfl (fun hg => q_ne rfl ((hF.eval rfl).trans (gv_of hg)) ((hF.eval rfl).trans (gv_of hg))) fun a hF => ?_
      refine wl_v hF rfl rfl rfl (q_or rfl (hF.eval rfl) rfl (fun hg2 => ((hF.eval rfl).trans (gv_of hg2))) rfl) fun a hF => ?_
      refine wl_v hF rfl rfl rfl (q_move rfl (hF.eval rfl)) fun a hF => ?_
      refine wl_g hF rfl rfl rfl rfl rfl rfl (fun hg => q_fieldAddr0 (d := 3) Tryd.underlying25 rfl (hF.eval rfl) rfl Tryd.sizeOf23 (by decide) rfl) fun a hF => ?_
      refine wl_g hF rfl rfl rfl rfl rfl rfl (fun hg => q_load Tryd.isAgg23 rfl ((hF.eval rfl).trans (gv_of hg)) (hO.cell 2 rfl rfl)) fun a hF => ?_
      refine wl_g hF rfl rfl rfl rfl rfl rfl (fun hg => q_ne rfl ((hF.eval rfl).trans (gv_of hg)) (hF.eval rfl)) fun a hF => ?_
      refine wl_g hF rfl rfl rfl rfl rfl rfl (fun hg => q_move rfl ((hF.eval rfl).trans (gv_of hg))) fun a hF => ?_
      refine wl_g hF rfl rfl rfl rfl rfl rfl (fun hg => q_fieldAddr0 (d := 2) Tryd.underlying25 rfl (hF.eval rfl) rfl Tryd.sizeOf3 (by decide) rfl) fun a hF => ?_
      refine wl_g hF rfl rfl rfl rfl rfl rfl (fun hg => q_load Tryd.isAgg3 rfl ((hF.eval rfl).trans (gv_of hg)) (hO.cell 2 rfl rfl)) fun a hF => ?_
      refine wl_g hF rfl rfl rfl rfl rfl rfl (fun hg => q_move rfl (hF.eval rfl)) fun a hF => ?_
      refine wl_g hF rfl rfl rfl rfl rfl rfl (fun hg => q_add rfl ((hF.eval rfl).trans (gv_of hg)) ((hF.eval rfl).trans (gv_of hg)) (by have := of_g (isB_gv hg).2; rcases m6 with h | h; exact absurd h this; omega)) fun a hF => ?_
      refine wl_g hF rfl rfl rfl rfl rfl rfl (fun hg => q_fieldAddr0 (d := 2) Tryd.underlying25 rfl (hF.eval rfl) rfl Tryd.sizeOf3 (by decide) rfl) fun a hF => ?_
      refine wl_g hF rfl rfl rfl rfl rfl rfl (fun hg => q_load Tryd.isAgg3 rfl ((hF.eval rfl).trans (gv_of hg)) (hO.cell 0 rfl rfl)) fun a hF => ?_
      refine wl_g hF rfl rfl rfl rfl rfl rfl (fun hg => q_ne rfl ((hF.eval rfl).trans (gv_of hg)) ((hF.eval rfl).trans (gv_of hg))) fun a hF => ?_
      refine wl_g hF rfl rfl rfl rfl rfl rfl (fun hg => q_and rfl ((hF.eval rfl).trans (gv_of hg)) rfl (fun hg2 => ((hF.eval rfl).trans (gv_of2 hg hg2))) rfl) fun a hF => ?_
      refine wl_v hF rfl rfl rfl (q_or rfl (hF.eval rfl) rfl (fun hg2 => ((hF.eval rfl).trans (gv_of hg2))) rfl) fun a hF => ?_
      refine wl_nil ?_
      refine k_n ?_
      refine wp_ifD hF rfl rfl (fun hc4 => ?_) (fun hc4 => ?_)
      · skip
        rcases hc4 with ((h | h) | h) | ⟨h1, h2⟩
        · exact absurd h (fun h => h (by rw [m1]; split <;> simp))
        · exact absurd m2 h
        · exact absurd m3 h
        · exact absurd (m4 h1) h2
        done
      · skip
        refine wp_skip ?_
        refine k_n ?_
        refine wp_seq ?_
        refine wp_region_lit ?_
        refine wl_v hF rfl rfl rfl (q_move rfl (hF.eval rfl)) fun a hF => ?_
        refine wl_v hF rfl rfl rfl (q_lenRd hR Tryd.underlying22 rfl (hF.eval rfl)) fun a hF => ?_
        refine wl_v hF rfl rfl rfl (q_eq rfl (hF.eval rfl) (hF.eval rfl)) fun a hF => ?_
        refine wl_v hF rfl rfl rfl (q_assign rfl (hF.eval rfl)) fun a hF => ?_
        refine wl_nil ?_
        refine k_n ?_
        refine wp_seq ?_
        refine wp_seq ?_
        refine wp_region_lit ?_
        refine wl_v hF rfl rfl rfl (q_assign rfl (hF.eval rfl)) fun a hF => ?_
        refine wl_nil ?_
        refine k_n ?_
        refine wp_block ?_
        have hO := hO.drop1 0
        have hO := hO.drop1 1
        have hO := hO.drop1 2
        have hO := hO.pull 1 rfl
        have hO : St _ _ _ [_, _] := hO
        refine wp_loopS (fun (i : Nat) a w' => (i ≤ la.length) ∧ St w0 [] w' [slT va 33 tokE la, slT vb 33 tokE lb] ∧ Fr a 120 [(1, i64 by_), (8, va), (10, vb), (12, .bool (decide ((ts.length : Int) = 0))), (13, i64 i)]) (fun (i : Nat) => la.length - i) 0 ⟨by omega, hO, hF.sub ⟨rfl, rfl, rfl, rfl, rfl, trivial⟩⟩ ?_
        rintro i a w ⟨hi, hO, hF⟩
        have hal := RdT.lenle (hO.rdT 0 rfl)
        refine wp_seq ?_
        refine wp_seq ?_
        refine wp_region_lit ?_
        refine wl_v hF rfl rfl rfl (q_move rfl (hF.eval rfl)) fun a hF => ?_
        refine wl_v hF rfl rfl rfl (q_move rfl (hF.eval rfl)) fun a hF => ?_
        refine wl_v hF rfl rfl rfl (q_lenRd (hO.rd 0 rfl) Tryd.underlying22 rfl (hF.eval rfl)) fun a hF => ?_
        refine wl_v hF rfl rfl rfl (q_lt rfl (hF.eval rfl) (hF.eval rfl)) fun a hF => ?_
        refine wl_nil ?_
        refine k_n ?_
        refine wp_ifD hF rfl rfl (fun hc5 => ?_) (fun hc5 => ?_)
        · skip
          refine wp_skip ?_
          refine k_n ?_
          refine wp_seq ?_
          refine wp_block ?_
          refine wp_seq ?_
          refine wp_region_lit ?_
          refine wl_v hF rfl rfl rfl (q_move rfl (hF.eval rfl)) fun a hF => ?_
          refine wl_v hF rfl rfl rfl (q_move rfl (hF.eval rfl)) fun a hF => ?_
          obtain ⟨x, hx⟩ := get_ex (l := la) (i := i) (by omega)
          refine wl_v hF rfl rfl rfl (q_at (i := i) (hO.rd 0 rfl) Tryd.underlying22 Tryd.sizeOf33 rfl (hF.eval rfl) (hF.eval rfl) (by omega)) fun a hF => ?_
          refine wl_v hF rfl rfl rfl (q_loadAgg Tryd.isAgg33 Tryd.sizeOf33 rfl (hF.eval rfl) (RdT.cells (hO.rdT 0 rfl) hx) rfl) fun a hF => ?_
          refine wl_e hF rfl rfl rfl (e_alloc hO Tryd.zeroValue33 rfl rfl) ?_
          rintro a _ w ⟨tk, rfl, hO⟩ hF
          refine wl_s hF rfl rfl (e_storeAll hO (i := 0) rfl Tryd.sizeOf33 rfl (hF.eval rfl) (hF.eval rfl) rfl rfl) ?_
          rintro a _ w ⟨-, hO⟩ hF
          have hO : St _ _ _ [_, _, _] := hO
          refine wl_nil ?_
          refine k_n ?_
          refine wp_seqJ (fun (y : Tok) a w' => (y = (if ts = [] then x else shT by_ x)) ∧ St w0 [] w' [.ob tk 33 (tokE.cells y), slT va 33 tokE la, slT vb 33 tokE lb] ∧ Fr a 120 [(1, i64 by_), (8, va), (10, vb), (12, .bool (decide ((ts.length : Int) = 0))), (13, i64 i), (14, ptr (adr tk))]) ?_ ?_
          · skip
            refine wp_seq ?_
            refine wp_region_lit ?_
            refine wl_v hF rfl rfl rfl (q_move rfl (hF.eval rfl)) fun a hF => ?_
            refine wl_v hF rfl rfl rfl (q_not rfl (hF.eval rfl) rfl) fun a hF => ?_
            refine wl_nil ?_
            refine k_n ?_
            refine wp_ifD hF rfl rfl (fun hc6 => ?_) (fun hc6 => ?_)
            · skip
              have hne : ¬ ts = [] := fun e => hc6 (by rw [e]; rfl)
              have hxc := m5 x (List.mem_of_getElem? hx)
              refine wp_region_lit ?_
              refine wl_v hF rfl rfl rfl (q_fieldAddr0 (d := 4) Tryd.underlying33 rfl (hF.eval rfl) rfl Tryd.sizeOf3 (by decide) rfl) fun a hF => ?_
              refine wl_v hF rfl rfl rfl (q_load Tryd.isAgg3 rfl (hF.eval rfl) (hO.cell 0 rfl rfl)) fun a hF => ?_
              refine wl_v hF rfl rfl rfl (q_move rfl (hF.eval rfl)) fun a hF => ?_
              refine wl_v hF rfl rfl rfl (q_add rfl (hF.eval rfl) (hF.eval rfl) (by omega)) fun a hF => ?_
              refine wl_v hF rfl rfl rfl (q_fieldAddr0 (d := 4) Tryd.underlying33 rfl (hF.eval rfl) rfl Tryd.sizeOf3 (by decide) rfl) fun a hF => ?_
              refine wl_s hF rfl rfl (e_store1 hO (i := 0) rfl Tryd.sizeOf3 rfl (hF.eval rfl) (hF.eval rfl) rfl rfl rfl) ?_
              rintro a _ w ⟨-, hO⟩ hF
              have hO : St _ _ _ [_, _, _] := hO
              replace hO : St _ _ _ [.ob tk 33 (tokE.cells (shT by_ x)), _, _] := hO
              refine wl_nil ?_
              refine k_n ?_
              have hO : St _ _ _ [_, _, _] := hO
              exact ⟨shT by_ x, ⟨(if_neg hne).symm, hO, hF.sub ⟨rfl, rfl, rfl, rfl, rfl, rfl, trivial⟩⟩⟩
            · skip
              refine wp_skip ?_
              refine k_n ?_
              have hO : St _ _ _ [_, _, _] := hO
              exact ⟨x, ⟨(if_pos (Classical.not_not.1 fun h => hc6 (fun e => h (List.length_eq_zero_iff.1 (by omega))))).symm, hO, hF.sub ⟨rfl, rfl, rfl, rfl, rfl, rfl, trivial⟩⟩⟩
          · skip
            rintro y a w ⟨hy, hO, hF⟩
            refine wp_seq ?_
            have hO := hO.drew
            refine wp_region_D [1, 0, 0, 0, 1, 0] (fun w => St _ _ w _) Tryd_mixed (by kernel_rfl) hO ?_
            refine wd_r hF rfl rfl rfl (fun w hO => q_loadAgg Tryd.isAgg33 Tryd.sizeOf33 rfl (hF.eval rfl) (hO.cells 0 rfl) rfl) fun a hF => ?_
            refine wd_p hF rfl rfl rfl (fun w => q_move rfl (hF.eval rfl)) fun a hF => ?_
            refine wd_p hF rfl rfl rfl (fun w => q_move rfl (hF.eval rfl)) fun a hF => ?_
            obtain ⟨z, hz⟩ := get_ex (l := lb) (i := i) (by omega)
            refine wd_p hF rfl rfl rfl (fun w => q_at (i := i) (hO.rd 2 rfl) Tryd.underlying22 Tryd.sizeOf33 rfl (hF.eval rfl) (hF.eval rfl) (by omega)) fun a hF => ?_
            refine wd_r hF rfl rfl rfl (fun w hO => q_loadAgg Tryd.isAgg33 Tryd.sizeOf33 rfl (hF.eval rfl) (RdT.cells (hO.rdT 2 rfl) hz) rfl) fun a hF => ?_
            refine wd_p hF rfl rfl rfl (fun w => q_neS Tryd.underlying33 Tryd.stoodInHeld33 Tryd.eqGuardType33 rfl (hF.eval rfl) (hF.eval rfl) (ef_int (by decide) Tryd.isAgg3 Tryd.underlying3 rfl rfl (ef_str (by decide) Tryd.isAgg9 Tryd.underlying9 rfl rfl (ef_int (by decide) Tryd.isAgg3 Tryd.underlying3 rfl rfl (ef_int (by decide) Tryd.isAgg3 Tryd.underlying3 rfl rfl (ef_int (by decide) Tryd.isAgg3 Tryd.underlying3 rfl rfl ef_nil))))) (tok_eq _ _)) fun a hF => ?_
            refine wd_nil ?_
            refine k_n ?_
            refine wp_ifD hF rfl rfl (fun hc7 => ?_) (fun hc7 => ?_)
            · skip
              refine absurd ?_ hc7
              rw [hy]
              split at m1
              · rename_i e; rw [if_pos e]; rw [m1] at hz; exact Option.some.inj (hx.symm.trans hz)
              · rename_i e; rw [if_neg e]; rw [m1, List.getElem?_map, hx] at hz; exact Option.some.inj hz
              done
            · skip
              refine wp_skip ?_
              refine b_n ?_
              refine k_n ?_
              refine wp_region_lit ?_
              refine wl_v hF rfl rfl rfl (q_move rfl (hF.eval rfl)) fun a hF => ?_
              refine wl_v hF rfl rfl rfl (q_add rfl (hF.eval rfl) (hF.eval rfl) (by omega)) fun a hF => ?_
              refine wl_v hF rfl rfl rfl (q_assign rfl (hF.eval rfl)) fun a hF => ?_
              refine wl_nil ?_
              refine k_n ?_
              have hO := hO.drop1 0
              have hO : St _ _ _ [_, _] := hO
              exact ⟨i + 1, ⟨by omega, hO, hF.sub ⟨rfl, rfl, rfl, rfl, rfl, trivial⟩⟩, by omega⟩
        · skip
          refine wp_exit ?_
          refine k_x ?_
          refine k_x ?_
          refine b_x ?_
          refine k_n ?_
          refine wp_seq ?_
          refine wp_region_lit ?_
          refine wl_e hF rfl rfl rfl (c_call hF rfl rfl Tryd.call10 (awake_r _ (hG.at0 hO))) ?_
          rintro a _ w ⟨rfl, hS⟩ hF
          have hO := hO.call0 hS
          have hO : St _ _ _ [_, _] := hO
          refine wl_v hF rfl rfl rfl (q_assign rfl (hF.eval rfl)) fun a hF => ?_
          refine wl_nil ?_
          refine k_n ?_
          refine wp_ret ?_
          refine r_1 hF rfl rfl ?_
          have hO := hO.drop1 0
          have hO := hO.drop1 0
          have hO : St _ _ _ [] := hO
          exact ⟨rfl, hO⟩

end Go.Proofs.YtnnagjbkpmkelaaDoor
