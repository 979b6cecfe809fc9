import Derived.Test.YtanpeofnlihhoaaDoorLx4
namespace Go.Proofs.YtanpeofnlihhoaaDoor
open Go
set_option maxRecDepth 100000
set_option linter.unusedVariables false

def awA : List UInt8 := [102, 39, 32, 120, 61, 120, 43, 48]
def awB : List UInt8 := [97, 45, 45, 98, 10, 45, 45, 62, 99]
def awC : List UInt8 := [48, 48, 55, 32, 57, 50, 50, 51, 51, 55, 50, 48, 51, 54, 56, 53, 52, 55, 55, 53, 56, 48, 56]
def awAL : List Tok := [⟨1, [102, 39], 0, 1, 1⟩, ⟨1, [120], 0, 1, 4⟩, ⟨8, [61], 0, 1, 5⟩, ⟨1, [120], 0, 1, 6⟩, ⟨3, [43], 0, 1, 7⟩, ⟨5, [48], 0, 1, 8⟩, ⟨9, [], 0, 1, 9⟩]
def awBL : List Tok := [⟨1, [97], 0, 1, 1⟩, ⟨3, [45, 45, 62], 0, 2, 1⟩, ⟨1, [99], 0, 2, 4⟩, ⟨9, [], 0, 2, 5⟩]
theorem aw_A : readF awA = (awAL, .ok) := by kernel_rfl
theorem aw_B : readF awB = (awBL, .ok) := by kernel_rfl
theorem aw_C : readF awC = ([], ⟨[], 1, 5, 12⟩) := by kernel_rfl
theorem pos_10 {s : List UInt8} {k : Nat} (h : ((s.getD k 0).toNat : Int) = 10) : posF s (k + 1) = ((posF s k).1 + 1, 1) := by
  rw [posF, if_pos (gt_eq 10 rfl h)]
theorem pos_no {s : List UInt8} {k : Nat} (h : ¬ ((s.getD k 0).toNat : Int) = 10) : posF s (k + 1) = ((posF s k).1, (posF s k).2 + 1) := by
  rw [posF, if_neg (gt_ne 10 rfl h)]
theorem diag_good {s : List UInt8} {l : List Tok} {d : Diag} (h : readF s = (l, d)) (hd : ¬ d = .ok) : l = [] ∧ 10 ≤ d.number ∧ d.number ≤ 14 ∧ 1 ≤ d.line ∧ 1 ≤ d.col ∧ d.file = [] := by
  rcases read_is h with ⟨_, rfl, rfl⟩ | ⟨_, ⟨rfl, _⟩ | ⟨rfl, h2⟩⟩
  · exact ⟨rfl, by decide, by decide, by decide, by decide, rfl⟩
  · exact absurd rfl hd
  · have h3 := rnb_num h2
    obtain ⟨h4, p, hp, h5, h6⟩ := rnb_pos h2
    have h7 := pos_ge s p
    exact ⟨rfl, by omega, by omega, by omega, by omega, h4⟩
theorem ok_of {s : List UInt8} {l : List Tok} (h : readF s = (l, .ok)) : s.length ≤ 16384 ∧ RnOk s 0 l := by
  rcases read_is h with ⟨_, _, h2⟩ | ⟨h1, ⟨_, h2⟩ | ⟨_, h2⟩⟩
  · cases h2
  · exact ⟨h1, h2⟩
  · have := (rnb_num h2).1; exact absurd this (by decide)
theorem drop_at {l : List Tok} {i : Nat} {x : Tok} (h : l[i]? = some x) : l.drop i = x :: l.drop (i + 1) := by
  obtain ⟨hi, rfl⟩ := List.getElem?_eq_some_iff.1 h
  exact List.drop_eq_getElem_cons hi
theorem drop_len2 {l : List Tok} {i : Nat} (h : l.drop i = []) : l.length ≤ i := by
  have := congrArg List.length h
  rw [List.length_drop, List.length_nil] at this; omega
set_option maxHeartbeats 2000000 in
theorem lawake_r (w0 : World) (hG : GlE w0 []) : Ret Tryd.prog 11 #[] w0 (fun v w' => v = .bool true ∧ St w0 [] w' []) := by
  have hO := St.init0 w0
  refine ret_of (m := 70) Tryd.func11 rfl Tryd.ntmps11 [] rfl trivial fun a hF => ?_
  refine wp_seq ?_
  refine wp_region_lit ?_
  refine wl_v hF rfl rfl rfl (q_assign rfl (hF.eval rfl)) fun a hF => ?_
  refine wl_nil ?_
  refine k_n ?_
  refine wp_seq ?_
  refine wp_region_lit ?_
  refine wl_e hF rfl rfl rfl (c_call hF rfl rfl Tryd.call8 (pread_r _ _ (by decide) (hG.at0 hO))) ?_
  rintro a _ w ⟨va, l1, d1, hra, rfl, hS⟩ hF
  have hO := hO.call0 hS
  have hO : St _ _ _ [_] := hO
  obtain ⟨rfl, rfl⟩ : l1 = awAL ∧ d1 = .ok := Prod.mk.inj (hra.symm.trans aw_A)
  refine wl_v hF rfl rfl rfl (q_move rfl (hF.eval rfl)) fun a hF => ?_
  refine wl_v hF rfl rfl rfl (q_extract rfl (hF.eval rfl) rfl) fun a hF => ?_
  refine wl_v hF rfl rfl rfl (q_extract rfl (hF.eval rfl) rfl) fun a hF => ?_
  refine wl_e hF rfl rfl rfl (e_alloc hO Tryd.zeroValue25 rfl rfl) ?_
  rintro a _ w ⟨e1, rfl, hO⟩ hF
  refine wl_v hF rfl rfl rfl (q_assign rfl (hF.eval rfl)) fun a hF => ?_
  refine wl_s hF rfl rfl (e_storeAll hO (i := 0) rfl Tryd.sizeOf25 rfl (hF.eval rfl) (hF.eval rfl) rfl rfl) ?_
  rintro a _ w ⟨-, hO⟩ hF
  have hO : St _ _ _ [_, _] := hO
  refine wl_nil ?_
  refine k_n ?_
  refine wp_seq ?_
  refine wp_region_lit ?_
  refine wl_e hF rfl rfl rfl (c_call hF rfl rfl Tryd.call8 (pread_r _ _ (by decide) (hG.at0 hO))) ?_
  rintro a _ w ⟨vb, l2, d2, hrb, rfl, hS⟩ hF
  have hO := hO.call0 hS
  have hO : St _ _ _ [_, _, _] := hO
  obtain ⟨rfl, rfl⟩ : l2 = awBL ∧ d2 = .ok := Prod.mk.inj (hrb.symm.trans aw_B)
  refine wl_v hF rfl rfl rfl (q_move rfl (hF.eval rfl)) fun a hF => ?_
  refine wl_v hF rfl rfl rfl (q_extract rfl (hF.eval rfl) rfl) fun a hF => ?_
  refine wl_v hF rfl rfl rfl (q_extract rfl (hF.eval rfl) rfl) fun a hF => ?_
  refine wl_e hF rfl rfl rfl (e_alloc hO Tryd.zeroValue25 rfl rfl) ?_
  rintro a _ w ⟨e2, rfl, hO⟩ hF
  refine wl_v hF rfl rfl rfl (q_assign rfl (hF.eval rfl)) fun a hF => ?_
  refine wl_s hF rfl rfl (e_storeAll hO (i := 0) rfl Tryd.sizeOf25 rfl (hF.eval rfl) (hF.eval rfl) rfl rfl) ?_
  rintro a _ w ⟨-, hO⟩ hF
  have hO : St _ _ _ [_, _, _, _] := hO
  refine wl_nil ?_
  refine k_n ?_
  refine wp_seq ?_
  refine wp_region_lit ?_
  refine wl_e hF rfl rfl rfl (c_call hF rfl rfl Tryd.call8 (pread_r _ _ (by decide) (hG.at0 hO))) ?_
  rintro a _ w ⟨vc, l3, d3, hrc, rfl, hS⟩ hF
  have hO := hO.call0 hS
  have hO : St _ _ _ [_, _, _, _, _] := hO
  obtain ⟨rfl, rfl⟩ : l3 = [] ∧ d3 = ⟨[], 1, 5, 12⟩ := Prod.mk.inj (hrc.symm.trans aw_C)
  refine wl_v hF rfl rfl rfl (q_move rfl (hF.eval rfl)) fun a hF => ?_
  refine wl_v hF rfl rfl rfl (q_extract rfl (hF.eval rfl) rfl) fun a hF => ?_
  refine wl_v hF rfl rfl rfl (q_extract rfl (hF.eval rfl) rfl) fun a hF => ?_
  refine wl_e hF rfl rfl rfl (e_alloc hO Tryd.zeroValue25 rfl rfl) ?_
  rintro a _ w ⟨e3, rfl, hO⟩ hF
  refine wl_v hF rfl rfl rfl (q_assign rfl (hF.eval rfl)) fun a hF => ?_
  refine wl_s hF rfl rfl (e_storeAll hO (i := 0) rfl Tryd.sizeOf25 rfl (hF.eval rfl) (hF.eval rfl) rfl rfl) ?_
  rintro a _ w ⟨-, hO⟩ hF
  have hO : St _ _ _ [_, _, _, _, _, _] := hO
  refine wl_nil ?_
  refine k_n ?_
  refine wp_seq ?_
  refine wp_region_lit ?_
  refine wl_v hF rfl rfl rfl (q_loadAgg Tryd.isAgg25 Tryd.sizeOf25 rfl (hF.eval rfl) (hO.cells 4 rfl) rfl) fun a hF => ?_
  refine wl_v hF rfl rfl rfl (c_build hF Tryd.underlying25 Tryd.zeroValue25 Tryd_places25 rfl rfl rfl rfl) fun a hF => ?_
  refine wl_v hF rfl rfl rfl (q_eqS Tryd.underlying25 Tryd.stoodInHeld25 Tryd.eqGuardType25 rfl (hF.eval rfl) (hF.eval rfl) (ef_str (by decide) Tryd.isAgg9 Tryd.underlying9 rfl rfl (ef_int (by decide) Tryd.isAgg3 Tryd.underlying3 rfl rfl (ef_int (by decide) Tryd.isAgg3 Tryd.underlying3 rfl rfl (ef_int (by decide) Tryd.isAgg23 Tryd.underlying23 rfl rfl ef_nil)))) (diag_eq _ .ok)) fun a hF => ?_
  refine wl_v hF rfl rfl rfl (q_move rfl (hF.eval rfl)) fun a hF => ?_
  refine wl_g hF rfl rfl rfl rfl rfl rfl (fun hg => q_loadAgg Tryd.isAgg25 Tryd.sizeOf25 rfl (hF.eval rfl) (hO.cells 2 rfl) rfl) fun a hF => ?_
  refine wl_g hF rfl rfl rfl rfl rfl rfl (fun hg => c_build hF Tryd.underlying25 Tryd.zeroValue25 Tryd_places25 rfl rfl rfl rfl) fun a hF => ?_
  refine wl_g hF rfl rfl rfl rfl rfl rfl (fun hg => q_eqS Tryd.underlying25 Tryd.stoodInHeld25 Tryd.eqGuardType25 rfl ((hF.eval rfl).trans (gv_of hg)) ((hF.eval rfl).trans (gv_of hg)) (ef_str (by decide) Tryd.isAgg9 Tryd.underlying9 rfl rfl (ef_int (by decide) Tryd.isAgg3 Tryd.underlying3 rfl rfl (ef_int (by decide) Tryd.isAgg3 Tryd.underlying3 rfl rfl (ef_int (by decide) Tryd.isAgg23 Tryd.underlying23 rfl rfl ef_nil)))) (diag_eq _ .ok)) fun a hF => ?_
  refine wl_v hF rfl rfl rfl (q_and rfl (hF.eval rfl) rfl (fun hg2 => ((hF.eval rfl).trans (gv_of hg2))) rfl) fun a hF => ?_
  refine wl_v hF rfl rfl rfl (q_move rfl (hF.eval rfl)) fun a hF => ?_
  refine wl_g hF rfl rfl rfl rfl rfl rfl (fun hg => q_loadAgg Tryd.isAgg25 Tryd.sizeOf25 rfl (hF.eval rfl) (hO.cells 0 rfl) rfl) fun a hF => ?_
  refine wl_g hF rfl rfl rfl rfl rfl rfl (fun hg => c_build hF Tryd.underlying25 Tryd.zeroValue25 Tryd_places25 rfl rfl rfl rfl) fun a hF => ?_
  refine wl_g hF rfl rfl rfl rfl rfl rfl (fun hg => q_eqS Tryd.underlying25 Tryd.stoodInHeld25 Tryd.eqGuardType25 rfl ((hF.eval rfl).trans (gv_of hg)) ((hF.eval rfl).trans (gv_of hg)) (ef_str (by decide) Tryd.isAgg9 Tryd.underlying9 rfl rfl (ef_int (by decide) Tryd.isAgg3 Tryd.underlying3 rfl rfl (ef_int (by decide) Tryd.isAgg3 Tryd.underlying3 rfl rfl (ef_int (by decide) Tryd.isAgg23 Tryd.underlying23 rfl rfl ef_nil)))) (diag_eq _ ⟨[], 1, 5, 12⟩)) fun a hF => ?_
  refine wl_v hF rfl rfl rfl (q_and rfl (hF.eval rfl) rfl (fun hg2 => ((hF.eval rfl).trans (gv_of hg2))) rfl) fun a hF => ?_
  refine wl_v hF rfl rfl rfl (q_move rfl (hF.eval rfl)) fun a hF => ?_
  refine wl_g hF rfl rfl rfl rfl rfl rfl (fun hg => q_move rfl (hF.eval rfl)) fun a hF => ?_
  refine wl_g hF rfl rfl rfl rfl rfl rfl (fun hg => q_lenRd (hO.rd 5 rfl) Tryd.underlying22 rfl ((hF.eval rfl).trans (gv_of hg))) fun a hF => ?_
  refine wl_g hF rfl rfl rfl rfl rfl rfl (fun hg => q_eq rfl ((hF.eval rfl).trans (gv_of hg)) (hF.eval rfl)) fun a hF => ?_
  refine wl_v hF rfl rfl rfl (q_and rfl (hF.eval rfl) rfl (fun hg2 => ((hF.eval rfl).trans (gv_of hg2))) rfl) fun a hF => ?_
  refine wl_v hF rfl rfl rfl (q_move rfl (hF.eval rfl)) fun a hF => ?_
  refine wl_g hF rfl rfl rfl rfl rfl rfl (fun hg => q_move rfl (hF.eval rfl)) fun a hF => ?_
  refine wl_g hF rfl rfl rfl rfl rfl rfl (fun hg => q_at (i := 2) (hO.rd 5 rfl) Tryd.underlying22 Tryd.sizeOf32 rfl ((hF.eval rfl).trans (gv_of hg)) (hF.eval rfl) (by decide)) fun a hF => ?_
  refine wl_g hF rfl rfl rfl rfl rfl rfl (fun hg => q_fieldAddr0 (d := 0) Tryd.underlying32 rfl ((hF.eval rfl).trans (gv_of hg)) rfl Tryd.sizeOf3 (by decide) rfl) fun a hF => ?_
  refine wl_g hF rfl rfl rfl rfl rfl rfl (fun hg => q_load Tryd.isAgg3 rfl ((hF.eval rfl).trans (gv_of hg)) (RdT.cells (hO.rdT 5 rfl) (rfl : awAL[2]? = some ⟨8, [61], 0, 1, 5⟩) _ _ rfl)) fun a hF => ?_
  refine wl_g hF rfl rfl rfl rfl rfl rfl (fun hg => q_eq rfl ((hF.eval rfl).trans (gv_of hg)) (hF.eval rfl)) fun a hF => ?_
  refine wl_v hF rfl rfl rfl (q_and rfl (hF.eval rfl) rfl (fun hg2 => ((hF.eval rfl).trans (gv_of hg2))) rfl) fun a hF => ?_
  refine wl_v hF rfl rfl rfl (q_move rfl (hF.eval rfl)) fun a hF => ?_
  refine wl_g hF rfl rfl rfl rfl rfl rfl (fun hg => q_move rfl (hF.eval rfl)) fun a hF => ?_
  refine wl_g hF rfl rfl rfl rfl rfl rfl (fun hg => q_at (i := 5) (hO.rd 5 rfl) Tryd.underlying22 Tryd.sizeOf32 rfl ((hF.eval rfl).trans (gv_of hg)) (hF.eval rfl) (by decide)) fun a hF => ?_
  refine wl_g hF rfl rfl rfl rfl rfl rfl (fun hg => q_fieldAddr0 (d := 0) Tryd.underlying32 rfl ((hF.eval rfl).trans (gv_of hg)) rfl Tryd.sizeOf3 (by decide) rfl) fun a hF => ?_
  refine wl_g hF rfl rfl rfl rfl rfl rfl (fun hg => q_load Tryd.isAgg3 rfl ((hF.eval rfl).trans (gv_of hg)) (RdT.cells (hO.rdT 5 rfl) (rfl : awAL[5]? = some ⟨5, [48], 0, 1, 8⟩) _ _ rfl)) fun a hF => ?_
  refine wl_g hF rfl rfl rfl rfl rfl rfl (fun hg => q_eq rfl ((hF.eval rfl).trans (gv_of hg)) (hF.eval rfl)) fun a hF => ?_
  refine wl_v hF rfl rfl rfl (q_and rfl (hF.eval rfl) rfl (fun hg2 => ((hF.eval rfl).trans (gv_of hg2))) rfl) fun a hF => ?_
  refine wl_v hF rfl rfl rfl (q_move rfl (hF.eval rfl)) fun a hF => ?_
  refine wl_g hF rfl rfl rfl rfl rfl rfl (fun hg => q_move rfl (hF.eval rfl)) fun a hF => ?_
  refine wl_g hF rfl rfl rfl rfl rfl rfl (fun hg => q_lenRd (hO.rd 3 rfl) Tryd.underlying22 rfl ((hF.eval rfl).trans (gv_of hg))) fun a hF => ?_
  refine wl_g hF rfl rfl rfl rfl rfl rfl (fun hg => q_eq rfl ((hF.eval rfl).trans (gv_of hg)) (hF.eval rfl)) fun a hF => ?_
  refine wl_v hF rfl rfl rfl (q_and rfl (hF.eval rfl) rfl (fun hg2 => ((hF.eval rfl).trans (gv_of hg2))) rfl) fun a hF => ?_
  refine wl_v hF rfl rfl rfl (q_move rfl (hF.eval rfl)) fun a hF => ?_
  refine wl_g hF rfl rfl rfl rfl rfl rfl (fun hg => q_move rfl (hF.eval rfl)) fun a hF => ?_
  refine wl_g hF rfl rfl rfl rfl rfl rfl (fun hg => q_at (i := 1) (hO.rd 3 rfl) Tryd.underlying22 Tryd.sizeOf32 rfl ((hF.eval rfl).trans (gv_of hg)) (hF.eval rfl) (by decide)) fun a hF => ?_
  refine wl_g hF rfl rfl rfl rfl rfl rfl (fun hg => q_loadAgg Tryd.isAgg32 Tryd.sizeOf32 rfl ((hF.eval rfl).trans (gv_of hg)) (RdT.cells (hO.rdT 3 rfl) (rfl : awBL[1]? = some ⟨3, [45, 45, 62], 0, 2, 1⟩)) rfl) fun a hF => ?_
  refine wl_g hF rfl rfl rfl rfl rfl rfl (fun hg => c_build hF Tryd.underlying32 Tryd.zeroValue32 Tryd_places32 rfl rfl rfl rfl) fun a hF => ?_
  refine wl_g hF rfl rfl rfl rfl rfl rfl (fun hg => q_eqS Tryd.underlying32 Tryd.stoodInHeld32 Tryd.eqGuardType32 rfl ((hF.eval rfl).trans (gv_of hg)) ((hF.eval rfl).trans (gv_of hg)) (ef_int (by decide) Tryd.isAgg3 Tryd.underlying3 rfl rfl (ef_str (by decide) Tryd.isAgg9 Tryd.underlying9 rfl rfl (ef_int (by decide) Tryd.isAgg3 Tryd.underlying3 rfl rfl (ef_int (by decide) Tryd.isAgg3 Tryd.underlying3 rfl rfl (ef_int (by decide) Tryd.isAgg3 Tryd.underlying3 rfl rfl ef_nil))))) (tok_eq _ ⟨3, [45, 45, 62], 0, 2, 1⟩)) fun a hF => ?_
  refine wl_v hF rfl rfl rfl (q_and rfl (hF.eval rfl) rfl (fun hg2 => ((hF.eval rfl).trans (gv_of hg2))) rfl) fun a hF => ?_
  refine wl_v hF rfl rfl rfl (q_move rfl (hF.eval rfl)) fun a hF => ?_
  refine wl_g hF rfl rfl rfl rfl rfl rfl (fun hg => q_move rfl (hF.eval rfl)) fun a hF => ?_
  refine wl_g hF rfl rfl rfl rfl rfl rfl (fun hg => q_at (i := 3) (hO.rd 3 rfl) Tryd.underlying22 Tryd.sizeOf32 rfl ((hF.eval rfl).trans (gv_of hg)) (hF.eval rfl) (by decide)) fun a hF => ?_
  refine wl_g hF rfl rfl rfl rfl rfl rfl (fun hg => q_fieldAddr0 (d := 4) Tryd.underlying32 rfl ((hF.eval rfl).trans (gv_of hg)) rfl Tryd.sizeOf3 (by decide) rfl) fun a hF => ?_
  refine wl_g hF rfl rfl rfl rfl rfl rfl (fun hg => q_load Tryd.isAgg3 rfl ((hF.eval rfl).trans (gv_of hg)) (RdT.cells (hO.rdT 3 rfl) (rfl : awBL[3]? = some ⟨9, [], 0, 2, 5⟩) _ _ rfl)) fun a hF => ?_
  refine wl_g hF rfl rfl rfl rfl rfl rfl (fun hg => q_eq rfl ((hF.eval rfl).trans (gv_of hg)) (hF.eval rfl)) fun a hF => ?_
  refine wl_v hF rfl rfl rfl (q_and rfl (hF.eval rfl) rfl (fun hg2 => ((hF.eval rfl).trans (gv_of hg2))) rfl) fun a hF => ?_
  refine wl_v hF rfl rfl rfl (q_assign rfl (hF.eval rfl)) fun a hF => ?_
  refine wl_nil ?_
  refine k_n ?_
  refine wp_ret ?_
  refine r_1 hF rfl rfl ?_
  have hO := hO.drop1 0
  have hO := hO.drop1 0
  have hO := hO.drop1 0
  have hO := hO.drop1 0
  have hO := hO.drop1 0
  have hO := hO.drop1 0
  have hO : St _ _ _ [] := hO
  exact ⟨congrArg Value.bool (decide_eq_true (by decide)), hO⟩

theorem place_r (w0 : World) (s : List UInt8) (n : Nat) (hn : n ≤ s.length) (hs : s.length ≤ 2000000) : Ret Tryd.prog 12 #[str s, i64 n] w0 (fun v w' => v = .tuple #[i64 (posF s n).1, i64 (posF s n).2] ∧ St w0 [] w' []) := by
  have hO := St.init0 w0
  refine ret_of (m := 24) Tryd.func12 rfl Tryd.ntmps12 [(0, str s), (1, i64 n)] rfl ⟨rfl, rfl, trivial⟩ fun a hF => ?_
  refine wp_seq ?_
  refine wp_region_lit ?_
  refine wl_v hF rfl rfl rfl (q_assign rfl (hF.eval rfl)) fun a hF => ?_
  refine wl_v hF rfl rfl rfl (q_assign rfl (hF.eval rfl)) fun a hF => ?_
  refine wl_nil ?_
  refine k_n ?_
  refine wp_seq ?_
  refine wp_region_lit ?_
  refine wl_v hF rfl rfl rfl (q_assign rfl (hF.eval rfl)) fun a hF => ?_
  refine wl_nil ?_
  refine k_n ?_
  refine wp_seq ?_
  refine wp_region_lit ?_
  refine wl_v hF rfl rfl rfl (q_assign rfl (hF.eval rfl)) fun a hF => ?_
  refine wl_nil ?_
  refine k_n ?_
  refine wp_seq ?_
  refine wp_seq ?_
  refine wp_region_lit ?_
  refine wl_v hF rfl rfl rfl (q_assign rfl (hF.eval rfl)) fun a hF => ?_
  refine wl_nil ?_
  refine k_n ?_
  refine wp_block ?_
  have hO : St _ _ _ [] := hO
  refine wp_loopS (fun (k : Nat) a w' => (k ≤ n) ∧ St w0 [] w' [] ∧ Fr a 24 [(0, str s), (1, i64 n), (6, i64 (posF s k).1), (7, i64 (posF s k).2), (8, i64 k)]) (fun (k : Nat) => n - k) 0 ⟨by omega, hO, hF.sub ⟨rfl, rfl, rfl, rfl, rfl, trivial⟩⟩ ?_
  rintro k a w ⟨hk, hO, hF⟩
  have hb := posF_le s k
  refine wp_seq ?_
  refine wp_seq ?_
  refine wp_region_lit ?_
  refine wl_v hF rfl rfl rfl (q_move rfl (hF.eval rfl)) fun a hF => ?_
  refine wl_v hF rfl rfl rfl (q_move rfl (hF.eval rfl)) fun a hF => ?_
  refine wl_v hF rfl rfl rfl (q_lt rfl (hF.eval rfl) (hF.eval rfl)) fun a hF => ?_
  refine wl_nil ?_
  refine k_n ?_
  refine wp_ifD hF rfl rfl (fun hc1 => ?_) (fun hc1 => ?_)
  · skip
    refine wp_skip ?_
    refine k_n ?_
    refine wp_seq ?_
    refine wp_block ?_
    refine wp_seq ?_
    refine wp_region_lit ?_
    refine wl_v hF rfl rfl rfl (q_move rfl (hF.eval rfl)) fun a hF => ?_
    refine wl_v hF rfl rfl rfl (q_add rfl (hF.eval rfl) (hF.eval rfl) (by omega)) fun a hF => ?_
    refine wl_v hF rfl rfl rfl (q_assign rfl (hF.eval rfl)) fun a hF => ?_
    refine wl_nil ?_
    refine k_n ?_
    refine wp_seq ?_
    refine wp_region_lit ?_
    refine wl_v hF rfl rfl rfl (q_move rfl (hF.eval rfl)) fun a hF => ?_
    refine wl_v hF rfl rfl rfl (q_move rfl (hF.eval rfl)) fun a hF => ?_
    refine wl_v hF rfl rfl rfl (q_indexD (m := k) Tryd.underlying9 rfl (hF.eval rfl) (hF.eval rfl) (by omega)) fun a hF => ?_
    refine wl_v hF rfl rfl rfl (q_eq rfl (hF.eval rfl) (hF.eval rfl)) fun a hF => ?_
    refine wl_nil ?_
    refine k_n ?_
    refine wp_ifD hF rfl rfl (fun hc2 => ?_) (fun hc2 => ?_)
    · skip
      refine wp_seq ?_
      refine wp_region_lit ?_
      refine wl_v hF rfl rfl rfl (q_move rfl (hF.eval rfl)) fun a hF => ?_
      refine wl_v hF rfl rfl rfl (q_add rfl (hF.eval rfl) (hF.eval rfl) (by omega)) fun a hF => ?_
      refine wl_v hF rfl rfl rfl (q_assign rfl (hF.eval rfl)) fun a hF => ?_
      refine wl_nil ?_
      refine k_n ?_
      refine wp_region_lit ?_
      refine wl_v hF rfl rfl rfl (q_assign rfl (hF.eval rfl)) fun a hF => ?_
      refine wl_nil ?_
      refine b_n ?_
      refine k_n ?_
      refine wp_region_lit ?_
      refine wl_v hF rfl rfl rfl (q_move rfl (hF.eval rfl)) fun a hF => ?_
      refine wl_v hF rfl rfl rfl (q_add rfl (hF.eval rfl) (hF.eval rfl) (by omega)) fun a hF => ?_
      refine wl_v hF rfl rfl rfl (q_assign rfl (hF.eval rfl)) fun a hF => ?_
      refine wl_nil ?_
      refine k_n ?_
      have hO : St _ _ _ [] := hO
      have hp := pos_10 hc2
      exact ⟨k + 1, ⟨by omega, hO, hF.sub ⟨rfl, rfl, (congrArg some (congrArg i64 (by rw [hp] <;> dsimp only <;> omega))), (congrArg some (congrArg i64 (by rw [hp] <;> dsimp only <;> omega))), rfl, trivial⟩⟩, by omega⟩
    · skip
      refine wp_skip ?_
      refine b_n ?_
      refine k_n ?_
      refine wp_region_lit ?_
      refine wl_v hF rfl rfl rfl (q_move rfl (hF.eval rfl)) fun a hF => ?_
      refine wl_v hF rfl rfl rfl (q_add rfl (hF.eval rfl) (hF.eval rfl) (by omega)) fun a hF => ?_
      refine wl_v hF rfl rfl rfl (q_assign rfl (hF.eval rfl)) fun a hF => ?_
      refine wl_nil ?_
      refine k_n ?_
      have hO : St _ _ _ [] := hO
      have hp := pos_no hc2
      exact ⟨k + 1, ⟨by omega, hO, hF.sub ⟨rfl, rfl, (congrArg some (congrArg i64 (by rw [hp] <;> dsimp only <;> omega))), (congrArg some (congrArg i64 (by rw [hp] <;> dsimp only <;> omega))), rfl, trivial⟩⟩, by omega⟩
  · skip
    refine wp_exit ?_
    refine k_x ?_
    refine k_x ?_
    refine b_x ?_
    refine k_n ?_
    refine wp_seq ?_
    refine wp_region_lit ?_
    refine wl_v hF rfl rfl rfl (q_move rfl (hF.eval rfl)) fun a hF => ?_
    refine wl_v hF rfl rfl rfl (q_move rfl (hF.eval rfl)) fun a hF => ?_
    refine wl_v hF rfl rfl rfl (q_assign rfl (hF.eval rfl)) fun a hF => ?_
    refine wl_v hF rfl rfl rfl (q_assign rfl (hF.eval rfl)) fun a hF => ?_
    refine wl_nil ?_
    refine k_n ?_
    refine wp_ret ?_
    refine r_2 hF rfl rfl rfl ?_
    obtain rfl : k = n := by omega
    exact ⟨rfl, hO⟩

end Go.Proofs.YtanpeofnlihhoaaDoor
