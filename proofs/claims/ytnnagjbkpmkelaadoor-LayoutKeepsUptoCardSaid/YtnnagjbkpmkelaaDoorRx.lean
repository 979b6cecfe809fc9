import Derived.Test.YtnnagjbkpmkelaaDoorRv
import Derived.Test.YtnnagjbkpmkelaaDoorGw14
import Derived.Test.YtnnagjbkpmkelaaDoorPl6
namespace Go.Proofs.YtnnagjbkpmkelaaDoor
open Go Lw
set_option maxRecDepth 100000
set_option maxHeartbeats 4000000 in
theorem keeps_r (w0 : World) (vt : Value) (ts : List Tok) (hn : ts.length ≤ 1048576) (hR : RdT w0 [] vt tokE ts) (hG : GlB w0 []) : Ret Tryd.prog 5 #[vt] w0 (fun v w' => v = .bool true ∧ St w0 [] w' []) := by
  have hO := St.init0 w0
  refine ret_of (m := 209) Tryd.func5 rfl Tryd.ntmps5 [(0, vt)] rfl ⟨rfl, trivial⟩ fun a hF => ?_
  refine wp_seq ?_
  refine wp_region_lit ?_
  refine wl_v hF rfl rfl rfl (q_assign rfl (hF.eval rfl)) fun a hF => ?_
  refine wl_nil ?_
  refine k_n ?_
  refine wp_seq ?_
  refine wp_region_lit ?_
  refine wl_v hF rfl rfl rfl (q_assign rfl (hF.eval rfl)) fun a hF => ?_
  refine wl_nil ?_
  refine k_n ?_
  refine wp_seq ?_
  refine wp_seq ?_
  refine wp_region_lit ?_
  refine wl_v hF rfl rfl rfl (q_assign rfl (hF.eval rfl)) fun a hF => ?_
  refine wl_nil ?_
  refine k_n ?_
  refine wp_block ?_
  have hO : St _ _ _ [] := hO
  refine wp_loopS (fun (y : Nat × Bool) a w' => match y with | (k, br) => (k ≤ ts.length ∧ (∀ x ∈ ts.take k, x.num = 0) ∧ (br = false → ∀ x ∈ ts.take k, x.text ≠ [123])) ∧ St w0 [] w' [] ∧ Fr a 209 [(0, vt), (3, .bool br), (4, i64 k)]) (fun (y : Nat × Bool) => match y with | (k, br) => ts.length - k) (0, false) ⟨⟨by omega, by simp, by simp⟩, hO, hF.sub ⟨rfl, rfl, rfl, trivial⟩⟩ ?_
  rintro ⟨k, br⟩ a w ⟨⟨hk, h0, hbr⟩, hO, hF⟩
  refine wp_seq ?_
  refine wp_seq ?_
  refine wp_region_lit ?_
  refine wl_v hF rfl rfl rfl (q_move rfl (hF.eval rfl)) fun a hF => ?_
  refine wl_v hF rfl rfl rfl (q_move rfl (hF.eval rfl)) fun a hF => ?_
  refine wl_v hF rfl rfl rfl (q_lenRd hR Tryd.underlying22 rfl (hF.eval rfl)) fun a hF => ?_
  refine wl_v hF rfl rfl rfl (q_lt rfl (hF.eval rfl) (hF.eval rfl)) fun a hF => ?_
  refine wl_nil ?_
  refine k_n ?_
  refine wp_ifD hF rfl rfl (fun hc1 => ?_) (fun hc1 => ?_)
  · skip
    refine wp_skip ?_
    refine k_n ?_
    refine wp_seq ?_
    refine wp_block ?_
    refine wp_seq ?_
    refine wp_seq ?_
    refine wp_region_lit ?_
    refine wl_v hF rfl rfl rfl (q_move rfl (hF.eval rfl)) fun a hF => ?_
    refine wl_v hF rfl rfl rfl (q_move rfl (hF.eval rfl)) fun a hF => ?_
    obtain ⟨x, hx⟩ := get_ex (l := ts) (i := k) (by omega)
    refine wl_v hF rfl rfl rfl (q_at (i := k) hR Tryd.underlying22 Tryd.sizeOf33 rfl (hF.eval rfl) (hF.eval rfl) (by omega)) fun a hF => ?_
    refine wl_v hF rfl rfl rfl (q_fieldAddr0 (d := 2) Tryd.underlying33 rfl (hF.eval rfl) rfl Tryd.sizeOf3 (by decide) rfl) fun a hF => ?_
    refine wl_v hF rfl rfl rfl (q_load Tryd.isAgg3 rfl (hF.eval rfl) (RdT.cells (hR.now hO) hx _ _ rfl)) fun a hF => ?_
    refine wl_v hF rfl rfl rfl (q_ne rfl (hF.eval rfl) (hF.eval rfl)) fun a hF => ?_
    refine wl_nil ?_
    refine k_n ?_
    refine wp_ifD hF rfl rfl (fun hc2 => ?_) (fun hc2 => ?_)
    · skip
      refine wp_seq ?_
      refine wp_region_lit ?_
      refine wl_e hF rfl rfl rfl (c_call hF rfl rfl Tryd.call10 (awake_r _ (hG.at0 hO))) ?_
      rintro a _ w ⟨rfl, hS⟩ hF
      have hO := hO.call0 hS
      have hO : St _ _ _ [] := hO
      refine wl_v hF rfl rfl rfl (q_assign rfl (hF.eval rfl)) fun a hF => ?_
      refine wl_nil ?_
      refine k_n ?_
      refine wp_ret ?_
      refine k_r ?_
      refine b_r ?_
      refine k_r ?_
      refine k_r ?_
      refine b_r ?_
      refine k_r ?_
      refine r_1 hF rfl rfl ?_
      have hO : St _ _ _ [] := hO
      exact ⟨rfl, hO⟩
    · skip
      refine wp_skip ?_
      refine k_n ?_
      refine wp_region_lit ?_
      refine wl_v hF rfl rfl rfl (q_move rfl (hF.eval rfl)) fun a hF => ?_
      refine wl_v hF rfl rfl rfl (q_move rfl (hF.eval rfl)) fun a hF => ?_
      refine wl_g hF rfl rfl rfl rfl rfl rfl (fun hg => q_move rfl (hF.eval rfl)) fun a hF => ?_
      refine wl_g hF rfl rfl rfl rfl rfl rfl (fun hg => q_move rfl (hF.eval rfl)) fun a hF => ?_
      refine wl_g hF rfl rfl rfl rfl rfl rfl (fun hg => q_at (i := k) hR Tryd.underlying22 Tryd.sizeOf33 rfl ((hF.eval rfl).trans (gv_of hg)) ((hF.eval rfl).trans (gv_of hg)) (by omega)) fun a hF => ?_
      refine wl_g hF rfl rfl rfl rfl rfl rfl (fun hg => q_fieldAddr0 (d := 1) Tryd.underlying33 rfl ((hF.eval rfl).trans (gv_of hg)) rfl Tryd.sizeOf9 (by decide) rfl) fun a hF => ?_
      refine wl_g hF rfl rfl rfl rfl rfl rfl (fun hg => q_load Tryd.isAgg9 rfl ((hF.eval rfl).trans (gv_of hg)) (RdT.cells (hR.now hO) hx _ _ rfl)) fun a hF => ?_
      refine wl_g hF rfl rfl rfl rfl rfl rfl (fun hg => q_seq rfl ((hF.eval rfl).trans (gv_of hg)) (hF.eval rfl)) fun a hF => ?_
      refine wl_v hF rfl rfl rfl (q_or rfl (hF.eval rfl) (dec_b _) (fun hg2 => ((hF.eval rfl).trans (gv_of hg2))) rfl) fun a hF => ?_
      refine wl_v hF rfl rfl rfl (q_assign rfl (hF.eval rfl)) fun a hF => ?_
      refine wl_nil ?_
      refine b_n ?_
      refine k_n ?_
      refine wp_region_lit ?_
      refine wl_v hF rfl rfl rfl (q_move rfl (hF.eval rfl)) fun a hF => ?_
      refine wl_v hF rfl rfl rfl (q_add rfl (hF.eval rfl) (hF.eval rfl) (by omega)) fun a hF => ?_
      refine wl_v hF rfl rfl rfl (q_assign rfl (hF.eval rfl)) fun a hF => ?_
      refine wl_nil ?_
      refine k_n ?_
      have hO : St _ _ _ [] := hO
      have hlx := (List.getElem?_eq_some_iff.1 hx).1
      exact ⟨(k + 1, decide (br = true ∨ x.text = [123])), ⟨⟨by omega, allP_on hx h0 (Classical.not_not.1 hc2), fun h => allP_on hx (hbr (by cases br with | false => rfl | true => simp at h)) (fun e => by simp [e] at h)⟩, hO, hF.sub ⟨rfl, rfl, rfl, trivial⟩⟩, by dsimp only; omega⟩
  · skip
    have hkt : k = ts.length := by omega
    rw [hkt, List.take_length] at h0 hbr
    have hmain := fun (la : List Tok) (d : Diag) (h : layF ts = (la, d)) => keeps_main (fun x hx => h0 x hx) h
    refine wp_exit ?_
    refine k_x ?_
    refine k_x ?_
    refine b_x ?_
    refine k_n ?_
    refine wp_seq ?_
    refine wp_region_lit ?_
    refine wl_v hF rfl rfl rfl (q_move rfl (hF.eval rfl)) fun a hF => ?_
    refine wl_e hF rfl rfl rfl (c_call hF rfl rfl Tryd.call11 (play_r _ _ _ (by omega) (hR.at0 hO) (hG.at0 hO))) ?_
    rintro a _ w ⟨va, la, d, ha, rfl, hS⟩ hF
    have hO := hO.call0 hS
    have hO : St _ _ _ [_] := hO
    refine wl_v hF rfl rfl rfl (q_move rfl (hF.eval rfl)) fun a hF => ?_
    refine wl_v hF rfl rfl rfl (q_extract rfl (hF.eval rfl) rfl) fun a hF => ?_
    refine wl_v hF rfl rfl rfl (q_extract rfl (hF.eval rfl) rfl) fun a hF => ?_
    refine wl_e hF rfl rfl rfl (e_alloc hO Tryd.zeroValue25 rfl rfl) ?_
    rintro a _ w ⟨e1, rfl, hO⟩ hF
    refine wl_v hF rfl rfl rfl (q_assign rfl (hF.eval rfl)) fun a hF => ?_
    refine wl_s hF rfl rfl (e_storeAll hO (i := 0) rfl Tryd.sizeOf25 rfl (hF.eval rfl) (hF.eval rfl) rfl rfl) ?_
    rintro a _ w ⟨-, hO⟩ hF
    have hO : St _ _ _ [_, _] := hO
    refine wl_nil ?_
    refine k_n ?_
    refine wp_seq ?_
    refine wp_seq ?_
    refine wp_region_lit ?_
    refine wl_v hF rfl rfl rfl (q_fieldAddr0 (d := 3) Tryd.underlying25 rfl (hF.eval rfl) rfl Tryd.sizeOf23 (by decide) rfl) fun a hF => ?_
    refine wl_v hF rfl rfl rfl (q_load Tryd.isAgg23 rfl (hF.eval rfl) (hO.cell 0 rfl rfl)) fun a hF => ?_
    refine wl_v hF rfl rfl rfl (q_ne rfl (hF.eval rfl) (hF.eval rfl)) fun a hF => ?_
    refine wl_nil ?_
    refine k_n ?_
    refine wp_ifD hF rfl rfl (fun hc3 => ?_) (fun hc3 => ?_)
    · skip
      obtain ⟨rfl, h20⟩ : la = [] ∧ d.number = 20 := by
        rcases hmain la d ha with h | ⟨rfl, _⟩
        · exact h
        · exact absurd rfl hc3
      refine wp_seq ?_
      refine wp_region_lit ?_
      refine wl_v hF rfl rfl rfl (q_move rfl (hF.eval rfl)) fun a hF => ?_
      refine wl_v hF rfl rfl rfl (q_lenRd (hO.rd 1 rfl) Tryd.underlying22 rfl (hF.eval rfl)) fun a hF => ?_
      refine wl_v hF rfl rfl rfl (q_eq rfl (hF.eval rfl) (hF.eval rfl)) fun a hF => ?_
      refine wl_v hF rfl rfl rfl (q_move rfl (hF.eval rfl)) fun a hF => ?_
      refine wl_g hF rfl rfl rfl rfl rfl rfl (fun hg => q_fieldAddr0 (d := 3) Tryd.underlying25 rfl (hF.eval rfl) rfl Tryd.sizeOf23 (by decide) rfl) fun a hF => ?_
      refine wl_g hF rfl rfl rfl rfl rfl rfl (fun hg => q_load Tryd.isAgg23 rfl ((hF.eval rfl).trans (gv_of hg)) (hO.cell 0 rfl rfl)) fun a hF => ?_
      refine wl_g hF rfl rfl rfl rfl rfl rfl (fun hg => q_eq rfl ((hF.eval rfl).trans (gv_of hg)) (hF.eval rfl)) fun a hF => ?_
      refine wl_v hF rfl rfl rfl (q_and rfl (hF.eval rfl) rfl (fun hg2 => ((hF.eval rfl).trans (gv_of hg2))) rfl) fun a hF => ?_
      refine wl_v hF rfl rfl rfl (q_move rfl (hF.eval rfl)) fun a hF => ?_
      refine wl_gk hO hF rfl rfl rfl rfl rfl rfl (fun hg => c_callG hF rfl rfl (by first | (simp only [gv_of hg]; done) | (simp only [gv_of hg]; rfl)) Tryd.call10 (awake_r _ (hG.at0 hO))) fun a w hO hF => ?_
      refine wl_v hF rfl rfl rfl (q_and rfl (hF.eval rfl) rfl (fun hg2 => ((hF.eval rfl).trans (gv_of hg2))) (dec_b _)) fun a hF => ?_
      refine wl_v hF rfl rfl rfl (q_assign rfl (hF.eval rfl)) fun a hF => ?_
      refine wl_nil ?_
      refine k_n ?_
      refine wp_ret ?_
      refine k_r ?_
      refine r_1 hF rfl rfl ?_
      have hO := hO.drop1 0
      have hO := hO.drop1 0
      have hO : St _ _ _ [] := hO
      exact ⟨congrArg Value.bool (decide_eq_true ⟨⟨rfl, h20⟩, rfl⟩), hO⟩
    · skip
      obtain ⟨rfl, ⟨us, oe, hke, hus, hoe⟩, ⟨xl, hxl, hxl9⟩, hag⟩ := (hmain la d ha).resolve_left (fun h => hc3 (by rw [h.2]; decide))
      have hlen := lay_len ha
      refine wp_skip ?_
      refine k_n ?_
      refine wp_seq ?_
      refine wp_region_lit ?_
      refine wl_v hF rfl rfl rfl (q_assign rfl (hF.eval rfl)) fun a hF => ?_
      refine wl_nil ?_
      refine k_n ?_
      refine wp_seq ?_
      refine wp_region_lit ?_
      refine wl_v hF rfl rfl rfl (q_assign rfl (hF.eval rfl)) fun a hF => ?_
      refine wl_nil ?_
      refine k_n ?_
      refine wp_seq ?_
      refine wp_seq ?_
      refine wp_region_lit ?_
      refine wl_v hF rfl rfl rfl (q_assign rfl (hF.eval rfl)) fun a hF => ?_
      refine wl_nil ?_
      refine k_n ?_
      refine wp_block ?_
      have hO := hO.drop1 0
      have hO : St _ _ _ [_] := hO
      refine wp_loopS (fun (y : Nat × Nat × Int) a w' => match y with | (i, k, o) => (keepG (la.drop i) (ts.drop k) o = some (us, oe) ∧ i ≤ la.length ∧ k ≤ ts.length ∧ 0 ≤ o ∧ o ≤ i) ∧ St w0 [] w' [slT va 33 tokE la] ∧ Fr a 209 [(0, vt), (3, .bool br), (5, va), (7, i64 k), (9, i64 i), (8, i64 o)]) (fun (y : Nat × Nat × Int) => match y with | (i, k, o) => la.length - i) (0, 0, 0) ⟨⟨hke, by omega, by omega, by omega, by omega⟩, hO, hF.sub ⟨rfl, rfl, rfl, rfl, rfl, rfl, trivial⟩⟩ ?_
      rintro ⟨i, k, o⟩ a w ⟨⟨hkg, hi, hkl, ho0, hoi⟩, hO, hF⟩
      have hal := RdT.lenle (hO.rdT 0 rfl)
      refine wp_seq ?_
      refine wp_seq ?_
      refine wp_region_lit ?_
      refine wl_v hF rfl rfl rfl (q_move rfl (hF.eval rfl)) fun a hF => ?_
      refine wl_v hF rfl rfl rfl (q_move rfl (hF.eval rfl)) fun a hF => ?_
      refine wl_v hF rfl rfl rfl (q_lenRd (hO.rd 0 rfl) Tryd.underlying22 rfl (hF.eval rfl)) fun a hF => ?_
      refine wl_v hF rfl rfl rfl (q_lt rfl (hF.eval rfl) (hF.eval rfl)) fun a hF => ?_
      refine wl_nil ?_
      refine k_n ?_
      refine wp_ifD hF rfl rfl (fun hc4 => ?_) (fun hc4 => ?_)
      · skip
        refine wp_skip ?_
        refine k_n ?_
        refine wp_seq ?_
        refine wp_block ?_
        refine wp_seq ?_
        refine wp_seq ?_
        refine wp_region_lit ?_
        refine wl_v hF rfl rfl rfl (q_move rfl (hF.eval rfl)) fun a hF => ?_
        refine wl_v hF rfl rfl rfl (q_move rfl (hF.eval rfl)) fun a hF => ?_
        obtain ⟨x, hx⟩ := get_ex (l := la) (i := i) (by omega)
        refine wl_v hF rfl rfl rfl (q_at (i := i) (hO.rd 0 rfl) Tryd.underlying22 Tryd.sizeOf33 rfl (hF.eval rfl) (hF.eval rfl) (by omega)) fun a hF => ?_
        refine wl_v hF rfl rfl rfl (q_fieldAddr0 (d := 2) Tryd.underlying33 rfl (hF.eval rfl) rfl Tryd.sizeOf3 (by decide) rfl) fun a hF => ?_
        refine wl_v hF rfl rfl rfl (q_load Tryd.isAgg3 rfl (hF.eval rfl) (RdT.cells (hO.rdT 0 rfl) hx _ _ rfl)) fun a hF => ?_
        refine wl_v hF rfl rfl rfl (q_eq rfl (hF.eval rfl) (hF.eval rfl)) fun a hF => ?_
        refine wl_nil ?_
        refine k_n ?_
        refine wp_ifD hF rfl rfl (fun hc5 => ?_) (fun hc5 => ?_)
        · skip
          rw [drop_at hx] at hkg
          obtain ⟨hk1, hk2, hkr⟩ := keep_laid hkg hc5
          refine wp_seq ?_
          refine wp_seq ?_
          refine wp_region_lit ?_
          refine wl_v hF rfl rfl rfl (q_move rfl (hF.eval rfl)) fun a hF => ?_
          refine wl_v hF rfl rfl rfl (q_move rfl (hF.eval rfl)) fun a hF => ?_
          refine wl_v hF rfl rfl rfl (q_at (i := i) (hO.rd 0 rfl) Tryd.underlying22 Tryd.sizeOf33 rfl (hF.eval rfl) (hF.eval rfl) (by omega)) fun a hF => ?_
          refine wl_v hF rfl rfl rfl (q_fieldAddr0 (d := 0) Tryd.underlying33 rfl (hF.eval rfl) rfl Tryd.sizeOf3 (by decide) rfl) fun a hF => ?_
          refine wl_v hF rfl rfl rfl (q_load Tryd.isAgg3 rfl (hF.eval rfl) (RdT.cells (hO.rdT 0 rfl) hx _ _ rfl)) fun a hF => ?_
          refine wl_v hF rfl rfl rfl (q_ne rfl (hF.eval rfl) (hF.eval rfl)) fun a hF => ?_
          refine wl_v hF rfl rfl rfl (q_move rfl (hF.eval rfl)) fun a hF => ?_
          refine wl_g hF rfl rfl rfl rfl rfl rfl (fun hg => q_move rfl (hF.eval rfl)) fun a hF => ?_
          refine wl_g hF rfl rfl rfl rfl rfl rfl (fun hg => q_move rfl (hF.eval rfl)) fun a hF => ?_
          refine wl_g hF rfl rfl rfl rfl rfl rfl (fun hg => q_at (i := i) (hO.rd 0 rfl) Tryd.underlying22 Tryd.sizeOf33 rfl ((hF.eval rfl).trans (gv_of hg)) ((hF.eval rfl).trans (gv_of hg)) (by omega)) fun a hF => ?_
          refine wl_g hF rfl rfl rfl rfl rfl rfl (fun hg => q_fieldAddr0 (d := 1) Tryd.underlying33 rfl ((hF.eval rfl).trans (gv_of hg)) rfl Tryd.sizeOf9 (by decide) rfl) fun a hF => ?_
          refine wl_g hF rfl rfl rfl rfl rfl rfl (fun hg => q_load Tryd.isAgg9 rfl ((hF.eval rfl).trans (gv_of hg)) (RdT.cells (hO.rdT 0 rfl) hx _ _ rfl)) fun a hF => ?_
          refine wl_g hF rfl rfl rfl rfl rfl rfl (fun hg => q_sne rfl ((hF.eval rfl).trans (gv_of hg)) (hF.eval rfl)) fun a hF => ?_
          refine wl_g hF rfl rfl rfl rfl rfl rfl (fun hg => q_move rfl ((hF.eval rfl).trans (gv_of hg))) fun a hF => ?_
          refine wl_g hF rfl rfl rfl rfl rfl rfl (fun hg => q_move rfl (hF.eval rfl)) fun a hF => ?_
          refine wl_g hF rfl rfl rfl rfl rfl rfl (fun hg => q_move rfl (hF.eval rfl)) fun a hF => ?_
          refine wl_g hF rfl rfl rfl rfl rfl rfl (fun hg => q_at (i := i) (hO.rd 0 rfl) Tryd.underlying22 Tryd.sizeOf33 rfl ((hF.eval rfl).trans (gv_of hg)) ((hF.eval rfl).trans (gv_of hg)) (by omega)) fun a hF => ?_
          refine wl_g hF rfl rfl rfl rfl rfl rfl (fun hg => q_fieldAddr0 (d := 1) Tryd.underlying33 rfl ((hF.eval rfl).trans (gv_of hg)) rfl Tryd.sizeOf9 (by decide) rfl) fun a hF => ?_
          refine wl_g hF rfl rfl rfl rfl rfl rfl (fun hg => q_load Tryd.isAgg9 rfl ((hF.eval rfl).trans (gv_of hg)) (RdT.cells (hO.rdT 0 rfl) hx _ _ rfl)) fun a hF => ?_
          refine wl_g hF rfl rfl rfl rfl rfl rfl (fun hg => q_sne rfl ((hF.eval rfl).trans (gv_of hg)) (hF.eval rfl)) fun a hF => ?_
          refine wl_g hF rfl rfl rfl rfl rfl rfl (fun hg => q_and rfl ((hF.eval rfl).trans (gv_of hg)) rfl (fun hg2 => ((hF.eval rfl).trans (gv_of2 hg hg2))) rfl) fun a hF => ?_
          refine wl_g hF rfl rfl rfl rfl rfl rfl (fun hg => q_move rfl ((hF.eval rfl).trans (gv_of hg))) fun a hF => ?_
          refine wl_g hF rfl rfl rfl rfl rfl rfl (fun hg => q_move rfl (hF.eval rfl)) fun a hF => ?_
          refine wl_g hF rfl rfl rfl rfl rfl rfl (fun hg => q_move rfl (hF.eval rfl)) fun a hF => ?_
          refine wl_g hF rfl rfl rfl rfl rfl rfl (fun hg => q_at (i := i) (hO.rd 0 rfl) Tryd.underlying22 Tryd.sizeOf33 rfl ((hF.eval rfl).trans (gv_of hg)) ((hF.eval rfl).trans (gv_of hg)) (by omega)) fun a hF => ?_
          refine wl_g hF rfl rfl rfl rfl rfl rfl (fun hg => q_fieldAddr0 (d := 1) Tryd.underlying33 rfl ((hF.eval rfl).trans (gv_of hg)) rfl Tryd.sizeOf9 (by decide) rfl) fun a hF => ?_
          refine wl_g hF rfl rfl rfl rfl rfl rfl (fun hg => q_load Tryd.isAgg9 rfl ((hF.eval rfl).trans (gv_of hg)) (RdT.cells (hO.rdT 0 rfl) hx _ _ rfl)) fun a hF => ?_
          refine wl_g hF rfl rfl rfl rfl rfl rfl (fun hg => q_sne rfl ((hF.eval rfl).trans (gv_of hg)) (hF.eval rfl)) fun a hF => ?_
          refine wl_g hF rfl rfl rfl rfl rfl rfl (fun hg => q_and rfl ((hF.eval rfl).trans (gv_of hg)) rfl (fun hg2 => ((hF.eval rfl).trans (gv_of2 hg hg2))) rfl) fun a hF => ?_
          refine wl_v hF rfl rfl rfl (q_or rfl (hF.eval rfl) rfl (fun hg2 => ((hF.eval rfl).trans (gv_of hg2))) rfl) fun a hF => ?_
          refine wl_nil ?_
          refine k_n ?_
          refine wp_ifD hF rfl rfl (fun hc6 => ?_) (fun hc6 => ?_)
          · skip
            exact absurd hc6 hk1
            done
          · skip
            refine wp_skip ?_
            refine k_n ?_
            refine wp_seqJ (fun (o2 : Int) a w' => (o2 = (if x.text = [123] then o + 1 else o) ∧ o2 ≤ o + 1 ∧ o ≤ o2) ∧ St w0 [] w' [slT va 33 tokE la] ∧ Fr a 209 [(0, vt), (3, .bool br), (5, va), (7, i64 k), (9, i64 i), (8, i64 o2)]) ?_ ?_
            · skip
              refine wp_seq ?_
              refine wp_region_lit ?_
              refine wl_v hF rfl rfl rfl (q_move rfl (hF.eval rfl)) fun a hF => ?_
              refine wl_v hF rfl rfl rfl (q_move rfl (hF.eval rfl)) fun a hF => ?_
              refine wl_v hF rfl rfl rfl (q_at (i := i) (hO.rd 0 rfl) Tryd.underlying22 Tryd.sizeOf33 rfl (hF.eval rfl) (hF.eval rfl) (by omega)) fun a hF => ?_
              refine wl_v hF rfl rfl rfl (q_fieldAddr0 (d := 1) Tryd.underlying33 rfl (hF.eval rfl) rfl Tryd.sizeOf9 (by decide) rfl) fun a hF => ?_
              refine wl_v hF rfl rfl rfl (q_load Tryd.isAgg9 rfl (hF.eval rfl) (RdT.cells (hO.rdT 0 rfl) hx _ _ rfl)) fun a hF => ?_
              refine wl_v hF rfl rfl rfl (q_seq rfl (hF.eval rfl) (hF.eval rfl)) fun a hF => ?_
              refine wl_nil ?_
              refine k_n ?_
              refine wp_ifD hF rfl rfl (fun hc7 => ?_) (fun hc7 => ?_)
              · skip
                refine wp_region_lit ?_
                refine wl_v hF rfl rfl rfl (q_move rfl (hF.eval rfl)) fun a hF => ?_
                refine wl_v hF rfl rfl rfl (q_add rfl (hF.eval rfl) (hF.eval rfl) (by omega)) fun a hF => ?_
                refine wl_v hF rfl rfl rfl (q_assign rfl (hF.eval rfl)) fun a hF => ?_
                refine wl_nil ?_
                refine k_n ?_
                have hO : St _ _ _ [_] := hO
                exact ⟨_, ⟨⟨(if_pos hc7).symm, by omega, by omega⟩, hO, hF.sub ⟨rfl, rfl, rfl, rfl, rfl, rfl, trivial⟩⟩⟩
              · skip
                refine wp_skip ?_
                refine k_n ?_
                have hO : St _ _ _ [_] := hO
                exact ⟨_, ⟨⟨(if_neg hc7).symm, by omega, by omega⟩, hO, hF.sub ⟨rfl, rfl, rfl, rfl, rfl, rfl, trivial⟩⟩⟩
            · skip
              rintro o2 a w ⟨⟨ho2, hol, hol2⟩, hO, hF⟩
              refine wp_seqJ (fun (o3 : Int) a w' => (o3 = bump x.text o) ∧ St w0 [] w' [slT va 33 tokE la] ∧ Fr a 209 [(0, vt), (3, .bool br), (5, va), (7, i64 k), (9, i64 i), (8, i64 o3)]) ?_ ?_
              · skip
                refine wp_seq ?_
                refine wp_region_lit ?_
                refine wl_v hF rfl rfl rfl (q_move rfl (hF.eval rfl)) fun a hF => ?_
                refine wl_v hF rfl rfl rfl (q_move rfl (hF.eval rfl)) fun a hF => ?_
                refine wl_v hF rfl rfl rfl (q_at (i := i) (hO.rd 0 rfl) Tryd.underlying22 Tryd.sizeOf33 rfl (hF.eval rfl) (hF.eval rfl) (by omega)) fun a hF => ?_
                refine wl_v hF rfl rfl rfl (q_fieldAddr0 (d := 1) Tryd.underlying33 rfl (hF.eval rfl) rfl Tryd.sizeOf9 (by decide) rfl) fun a hF => ?_
                refine wl_v hF rfl rfl rfl (q_load Tryd.isAgg9 rfl (hF.eval rfl) (RdT.cells (hO.rdT 0 rfl) hx _ _ rfl)) fun a hF => ?_
                refine wl_v hF rfl rfl rfl (q_seq rfl (hF.eval rfl) (hF.eval rfl)) fun a hF => ?_
                refine wl_nil ?_
                refine k_n ?_
                refine wp_ifD hF rfl rfl (fun hc8 => ?_) (fun hc8 => ?_)
                · skip
                  refine wp_region_lit ?_
                  refine wl_v hF rfl rfl rfl (q_move rfl (hF.eval rfl)) fun a hF => ?_
                  refine wl_v hF rfl rfl rfl (q_sub rfl (hF.eval rfl) (hF.eval rfl) (by omega)) fun a hF => ?_
                  refine wl_v hF rfl rfl rfl (q_assign rfl (hF.eval rfl)) fun a hF => ?_
                  refine wl_nil ?_
                  refine k_n ?_
                  have hO : St _ _ _ [_] := hO
                  exact ⟨_, ⟨by rw [ho2]; exact (if_pos hc8).symm, hO, hF.sub ⟨rfl, rfl, rfl, rfl, rfl, rfl, trivial⟩⟩⟩
                · skip
                  refine wp_skip ?_
                  refine k_n ?_
                  have hO : St _ _ _ [_] := hO
                  exact ⟨_, ⟨by rw [ho2]; exact (if_neg hc8).symm, hO, hF.sub ⟨rfl, rfl, rfl, rfl, rfl, rfl, trivial⟩⟩⟩
              · skip
                rintro o3 a w ⟨ho3, hO, hF⟩
                refine wp_seq ?_
                refine wp_seq ?_
                refine wp_region_lit ?_
                refine wl_v hF rfl rfl rfl (q_move rfl (hF.eval rfl)) fun a hF => ?_
                refine wl_v hF rfl rfl rfl (q_lt rfl (hF.eval rfl) (hF.eval rfl)) fun a hF => ?_
                refine wl_nil ?_
                refine k_n ?_
                refine wp_ifD hF rfl rfl (fun hc9 => ?_) (fun hc9 => ?_)
                · skip
                  exact absurd (ho3 ▸ hc9) hk2
                  done
                · skip
                  refine wp_skip ?_
                  refine k_n ?_
                  refine wp_exit ?_
                  refine k_x ?_
                  refine b_x ?_
                  refine k_n ?_
                  refine wp_region_lit ?_
                  refine wl_v hF rfl rfl rfl (q_move rfl (hF.eval rfl)) fun a hF => ?_
                  refine wl_v hF rfl rfl rfl (q_add rfl (hF.eval rfl) (hF.eval rfl) (by omega)) fun a hF => ?_
                  refine wl_v hF rfl rfl rfl (q_assign rfl (hF.eval rfl)) fun a hF => ?_
                  refine wl_nil ?_
                  refine k_n ?_
                  have hO : St _ _ _ [_] := hO
                  exact ⟨(i + 1, k, o3), ⟨⟨by rw [ho3]; exact hkr, by omega, hkl, by omega, by have := bump_le x.text o; omega⟩, hO, hF.sub ⟨rfl, rfl, rfl, rfl, rfl, rfl, trivial⟩⟩, by dsimp only; omega⟩
        · skip
          rw [drop_at hx] at hkg
          refine wp_skip ?_
          refine k_n ?_
          refine wp_seq ?_
          refine wp_seq ?_
          refine wp_region_lit ?_
          refine wl_v hF rfl rfl rfl (q_move rfl (hF.eval rfl)) fun a hF => ?_
          refine wl_v hF rfl rfl rfl (q_move rfl (hF.eval rfl)) fun a hF => ?_
          refine wl_v hF rfl rfl rfl (q_at (i := i) (hO.rd 0 rfl) Tryd.underlying22 Tryd.sizeOf33 rfl (hF.eval rfl) (hF.eval rfl) (by omega)) fun a hF => ?_
          refine wl_v hF rfl rfl rfl (q_fieldAddr0 (d := 0) Tryd.underlying33 rfl (hF.eval rfl) rfl Tryd.sizeOf3 (by decide) rfl) fun a hF => ?_
          refine wl_v hF rfl rfl rfl (q_load Tryd.isAgg3 rfl (hF.eval rfl) (RdT.cells (hO.rdT 0 rfl) hx _ _ rfl)) fun a hF => ?_
          refine wl_v hF rfl rfl rfl (q_eq rfl (hF.eval rfl) (hF.eval rfl)) fun a hF => ?_
          refine wl_nil ?_
          refine k_n ?_
          refine wp_ifD hF rfl rfl (fun hc10 => ?_) (fun hc10 => ?_)
          · skip
            obtain ⟨hk1, hk2, hkr⟩ := keep_nine hkg hc5 hc10
            have hk1 := congrArg List.length hk1
            rw [List.length_drop, List.length_nil] at hk1
            refine wp_seq ?_
            refine wp_seq ?_
            have hO := hO.drew
            refine wp_region_D [0, 0, 0, 0, 0, 0, 0, 0, 0, 0, 0, 0, 0, 0, 1, 0, 0, 0, 1, 0, 0, 0] (fun w => St _ _ w _) Tryd_mixed (by kernel_rfl) hO ?_
            refine wd_p hF rfl rfl rfl (fun w => q_move rfl (hF.eval rfl)) fun a hF => ?_
            refine wd_p hF rfl rfl rfl (fun w => q_move rfl (hF.eval rfl)) fun a hF => ?_
            refine wd_p hF rfl rfl rfl (fun w => q_lenRd (hO.rd 0 rfl) Tryd.underlying22 rfl (hF.eval rfl)) fun a hF => ?_
            refine wd_p hF rfl rfl rfl (fun w => q_sub rfl (hF.eval rfl) (hF.eval rfl) (by omega)) fun a hF => ?_
            refine wd_p hF rfl rfl rfl (fun w => q_ne rfl (hF.eval rfl) (hF.eval rfl)) fun a hF => ?_
            refine wd_p hF rfl rfl rfl (fun w => q_move rfl (hF.eval rfl)) fun a hF => ?_
            refine wd_gp hF rfl rfl rfl rfl rfl rfl (fun hg w => q_move rfl (hF.eval rfl)) fun a hF => ?_
            refine wd_gp hF rfl rfl rfl rfl rfl rfl (fun hg w => q_move rfl (hF.eval rfl)) fun a hF => ?_
            refine wd_gp hF rfl rfl rfl rfl rfl rfl (fun hg w => q_lenRd hR Tryd.underlying22 rfl ((hF.eval rfl).trans (gv_of hg))) fun a hF => ?_
            refine wd_gp hF rfl rfl rfl rfl rfl rfl (fun hg w => q_lt rfl ((hF.eval rfl).trans (gv_of hg)) ((hF.eval rfl).trans (gv_of hg))) fun a hF => ?_
            refine wd_gp hF rfl rfl rfl rfl rfl rfl (fun hg w => q_move rfl ((hF.eval rfl).trans (gv_of hg))) fun a hF => ?_
            refine wd_gp hF rfl rfl rfl rfl rfl rfl (fun hg w => q_move rfl (hF.eval rfl)) fun a hF => ?_
            refine wd_gp hF rfl rfl rfl rfl rfl rfl (fun hg w => q_move rfl (hF.eval rfl)) fun a hF => ?_
            refine wd_gp hF rfl rfl rfl rfl rfl rfl (fun hg w => q_at (i := k) hR Tryd.underlying22 Tryd.sizeOf33 rfl ((hF.eval rfl).trans (gv_of hg)) ((hF.eval rfl).trans (gv_of hg)) (by have := of_g (isB_gv hg).2; omega)) fun a hF => ?_
            refine wd_gr hF rfl rfl rfl rfl rfl rfl (fun hg w hO => q_loadAgg Tryd.isAgg33 Tryd.sizeOf33 rfl ((hF.eval rfl).trans (gv_of hg)) (RdT.cells (hR.now hO) (get_D (d := tok0) (by have := of_g (isB_gv hg).2; omega))) rfl) fun a hF => ?_
            refine wd_gp hF rfl rfl rfl rfl rfl rfl (fun hg w => q_move rfl (hF.eval rfl)) fun a hF => ?_
            refine wd_gp hF rfl rfl rfl rfl rfl rfl (fun hg w => q_move rfl (hF.eval rfl)) fun a hF => ?_
            refine wd_gp hF rfl rfl rfl rfl rfl rfl (fun hg w => q_at (i := i) (hO.rd 0 rfl) Tryd.underlying22 Tryd.sizeOf33 rfl ((hF.eval rfl).trans (gv_of hg)) ((hF.eval rfl).trans (gv_of hg)) (by omega)) fun a hF => ?_
            refine wd_gr hF rfl rfl rfl rfl rfl rfl (fun hg w hO => q_loadAgg Tryd.isAgg33 Tryd.sizeOf33 rfl ((hF.eval rfl).trans (gv_of hg)) (RdT.cells (hO.rdT 0 rfl) hx) rfl) fun a hF => ?_
            refine wd_gp hF rfl rfl rfl rfl rfl rfl (fun hg w => q_neS Tryd.underlying33 Tryd.stoodInHeld33 Tryd.eqGuardType33 rfl ((hF.eval rfl).trans (gv_of hg)) ((hF.eval rfl).trans (gv_of hg)) (ef_int (by decide) Tryd.isAgg3 Tryd.underlying3 rfl rfl (ef_str (by decide) Tryd.isAgg9 Tryd.underlying9 rfl rfl (ef_int (by decide) Tryd.isAgg3 Tryd.underlying3 rfl rfl (ef_int (by decide) Tryd.isAgg3 Tryd.underlying3 rfl rfl (ef_int (by decide) Tryd.isAgg3 Tryd.underlying3 rfl rfl ef_nil))))) (tok_eq _ _)) fun a hF => ?_
            refine wd_gp hF rfl rfl rfl rfl rfl rfl (fun hg w => q_and rfl ((hF.eval rfl).trans (gv_of hg)) rfl (fun hg2 => ((hF.eval rfl).trans (gv_of2 hg hg2))) rfl) fun a hF => ?_
            refine wd_p hF rfl rfl rfl (fun w => q_or rfl (hF.eval rfl) rfl (fun hg2 => ((hF.eval rfl).trans (gv_of hg2))) rfl) fun a hF => ?_
            refine wd_nil ?_
            refine k_n ?_
            refine wp_ifD hF rfl rfl (fun hc11 => ?_) (fun hc11 => ?_)
            · skip
              rcases hc11 with h | ⟨h1, h2⟩
              · exact absurd h (fun h => h (by omega))
              · rw [List.head?_drop] at hk2
                rcases hk2 with hk2 | hk2
                · have := congrArg List.length hk2
                  rw [List.length_drop, List.length_nil] at this
                  exact absurd h1 (by omega)
                · exact absurd (by rw [List.getD_eq_getElem?_getD, hk2]; rfl) h2
              done
            · skip
              refine wp_skip ?_
              refine k_n ?_
              refine wp_exit ?_
              refine k_x ?_
              refine b_x ?_
              refine k_n ?_
              refine wp_region_lit ?_
              refine wl_v hF rfl rfl rfl (q_move rfl (hF.eval rfl)) fun a hF => ?_
              refine wl_v hF rfl rfl rfl (q_add rfl (hF.eval rfl) (hF.eval rfl) (by omega)) fun a hF => ?_
              refine wl_v hF rfl rfl rfl (q_assign rfl (hF.eval rfl)) fun a hF => ?_
              refine wl_nil ?_
              refine k_n ?_
              have hO : St _ _ _ [_] := hO
              exact ⟨(i + 1, k, o), ⟨⟨hkr, by omega, hkl, ho0, by omega⟩, hO, hF.sub ⟨rfl, rfl, rfl, rfl, rfl, rfl, trivial⟩⟩, by dsimp only; omega⟩
          · skip
            obtain ⟨us2, hu2, hkr⟩ := keep_other hkg hc5 hc10
            have hu3 := congrArg List.length hu2
            rw [List.length_drop, List.length_cons] at hu3
            have hu4 : ts[k]? = some x := by rw [← List.head?_drop, hu2]; rfl
            have hu5 : ts.drop (k + 1) = us2 := by rw [drop_at hu4] at hu2; exact (List.cons.inj hu2).2
            rw [← hu5] at hkr
            refine wp_skip ?_
            refine k_n ?_
            refine wp_seq ?_
            refine wp_seq ?_
            have hO := hO.drew
            refine wp_region_D [0, 0, 0, 0, 0, 0, 0, 0, 1, 0, 0, 0, 1, 0, 0] (fun w => St _ _ w _) Tryd_mixed (by kernel_rfl) hO ?_
            refine wd_p hF rfl rfl rfl (fun w => q_move rfl (hF.eval rfl)) fun a hF => ?_
            refine wd_p hF rfl rfl rfl (fun w => q_move rfl (hF.eval rfl)) fun a hF => ?_
            refine wd_p hF rfl rfl rfl (fun w => q_lenRd hR Tryd.underlying22 rfl (hF.eval rfl)) fun a hF => ?_
            refine wd_p hF rfl rfl rfl (fun w => q_ge rfl (hF.eval rfl) (hF.eval rfl)) fun a hF => ?_
            refine wd_p hF rfl rfl rfl (fun w => q_move rfl (hF.eval rfl)) fun a hF => ?_
            refine wd_gp hF rfl rfl rfl rfl rfl rfl (fun hg w => q_move rfl (hF.eval rfl)) fun a hF => ?_
            refine wd_gp hF rfl rfl rfl rfl rfl rfl (fun hg w => q_move rfl (hF.eval rfl)) fun a hF => ?_
            refine wd_gp hF rfl rfl rfl rfl rfl rfl (fun hg w => q_at (i := k) hR Tryd.underlying22 Tryd.sizeOf33 rfl ((hF.eval rfl).trans (gv_of hg)) ((hF.eval rfl).trans (gv_of hg)) (by have := of_gn hg; omega)) fun a hF => ?_
            refine wd_gr hF rfl rfl rfl rfl rfl rfl (fun hg w hO => q_loadAgg Tryd.isAgg33 Tryd.sizeOf33 rfl ((hF.eval rfl).trans (gv_of hg)) (RdT.cells (hR.now hO) (get_D (d := tok0) (by have := of_gn hg; omega))) rfl) fun a hF => ?_
            refine wd_gp hF rfl rfl rfl rfl rfl rfl (fun hg w => q_move rfl (hF.eval rfl)) fun a hF => ?_
            refine wd_gp hF rfl rfl rfl rfl rfl rfl (fun hg w => q_move rfl (hF.eval rfl)) fun a hF => ?_
            refine wd_gp hF rfl rfl rfl rfl rfl rfl (fun hg w => q_at (i := i) (hO.rd 0 rfl) Tryd.underlying22 Tryd.sizeOf33 rfl ((hF.eval rfl).trans (gv_of hg)) ((hF.eval rfl).trans (gv_of hg)) (by omega)) fun a hF => ?_
            refine wd_gr hF rfl rfl rfl rfl rfl rfl (fun hg w hO => q_loadAgg Tryd.isAgg33 Tryd.sizeOf33 rfl ((hF.eval rfl).trans (gv_of hg)) (RdT.cells (hO.rdT 0 rfl) hx) rfl) fun a hF => ?_
            refine wd_gp hF rfl rfl rfl rfl rfl rfl (fun hg w => q_neS Tryd.underlying33 Tryd.stoodInHeld33 Tryd.eqGuardType33 rfl ((hF.eval rfl).trans (gv_of hg)) ((hF.eval rfl).trans (gv_of hg)) (ef_int (by decide) Tryd.isAgg3 Tryd.underlying3 rfl rfl (ef_str (by decide) Tryd.isAgg9 Tryd.underlying9 rfl rfl (ef_int (by decide) Tryd.isAgg3 Tryd.underlying3 rfl rfl (ef_int (by decide) Tryd.isAgg3 Tryd.underlying3 rfl rfl (ef_int (by decide) Tryd.isAgg3 Tryd.underlying3 rfl rfl ef_nil))))) (tok_eq _ _)) fun a hF => ?_
            refine wd_p hF rfl rfl rfl (fun w => q_or rfl (hF.eval rfl) rfl (fun hg2 => ((hF.eval rfl).trans (gv_of hg2))) rfl) fun a hF => ?_
            refine wd_nil ?_
            refine k_n ?_
            refine wp_ifD hF rfl rfl (fun hc12 => ?_) (fun hc12 => ?_)
            · skip
              rcases hc12 with h | h
              · exact absurd h (by omega)
              · exact absurd (by rw [List.getD_eq_getElem?_getD, hu4]; rfl) h
              done
            · skip
              refine wp_skip ?_
              refine k_n ?_
              refine wp_region_lit ?_
              refine wl_v hF rfl rfl rfl (q_move rfl (hF.eval rfl)) fun a hF => ?_
              refine wl_v hF rfl rfl rfl (q_add rfl (hF.eval rfl) (hF.eval rfl) (by omega)) fun a hF => ?_
              refine wl_v hF rfl rfl rfl (q_assign rfl (hF.eval rfl)) fun a hF => ?_
              refine wl_nil ?_
              refine b_n ?_
              refine k_n ?_
              refine wp_region_lit ?_
              refine wl_v hF rfl rfl rfl (q_move rfl (hF.eval rfl)) fun a hF => ?_
              refine wl_v hF rfl rfl rfl (q_add rfl (hF.eval rfl) (hF.eval rfl) (by omega)) fun a hF => ?_
              refine wl_v hF rfl rfl rfl (q_assign rfl (hF.eval rfl)) fun a hF => ?_
              refine wl_nil ?_
              refine k_n ?_
              have hO : St _ _ _ [_] := hO
              exact ⟨(i + 1, k + 1, o), ⟨⟨hkr, by omega, by omega, ho0, by omega⟩, hO, hF.sub ⟨rfl, rfl, rfl, rfl, rfl, rfl, trivial⟩⟩, by dsimp only; omega⟩
      · skip
        have hie : i = la.length := by omega
        rw [hie, List.drop_length] at hkg
        obtain ⟨hu, rfl⟩ : ts.drop k = us ∧ o = oe := by simpa [keepG] using hkg
        have hxl2 : la[la.length - 1]? = some xl := by rw [← List.getLast?_eq_getElem?]; exact hxl
        have hpos := (List.getElem?_eq_some_iff.1 hxl2).1
        refine wp_exit ?_
        refine k_x ?_
        refine k_x ?_
        refine b_x ?_
        refine k_n ?_
        refine wp_seq ?_
        refine wp_seq ?_
        refine wp_region_lit ?_
        refine wl_v hF rfl rfl rfl (q_move rfl (hF.eval rfl)) fun a hF => ?_
        refine wl_v hF rfl rfl rfl (q_lenRd (hO.rd 0 rfl) Tryd.underlying22 rfl (hF.eval rfl)) fun a hF => ?_
        refine wl_v hF rfl rfl rfl (q_eq rfl (hF.eval rfl) (hF.eval rfl)) fun a hF => ?_
        refine wl_v hF rfl rfl rfl (q_move rfl (hF.eval rfl)) fun a hF => ?_
        refine wl_g hF rfl rfl rfl rfl rfl rfl (fun hg => q_move rfl (hF.eval rfl)) fun a hF => ?_
        refine wl_g hF rfl rfl rfl rfl rfl rfl (fun hg => q_move rfl (hF.eval rfl)) fun a hF => ?_
        refine wl_g hF rfl rfl rfl rfl rfl rfl (fun hg => q_lenRd (hO.rd 0 rfl) Tryd.underlying22 rfl ((hF.eval rfl).trans (gv_of hg))) fun a hF => ?_
        refine wl_g hF rfl rfl rfl rfl rfl rfl (fun hg => q_sub rfl ((hF.eval rfl).trans (gv_of hg)) (hF.eval rfl) (by omega)) fun a hF => ?_
        refine wl_g hF rfl rfl rfl rfl rfl rfl (fun hg => q_at (i := la.length - 1) (hO.rd 0 rfl) Tryd.underlying22 Tryd.sizeOf33 rfl ((hF.eval rfl).trans (gv_of hg)) (((hF.eval rfl).trans (gv_of hg)).trans (congrArg i64 (show (la.length : Int) - 1 = ((la.length - 1 : Nat) : Int) by omega))) (by omega)) fun a hF => ?_
        refine wl_g hF rfl rfl rfl rfl rfl rfl (fun hg => q_fieldAddr0 (d := 0) Tryd.underlying33 rfl ((hF.eval rfl).trans (gv_of hg)) rfl Tryd.sizeOf3 (by decide) rfl) fun a hF => ?_
        refine wl_g hF rfl rfl rfl rfl rfl rfl (fun hg => q_load Tryd.isAgg3 rfl ((hF.eval rfl).trans (gv_of hg)) (RdT.cells (hO.rdT 0 rfl) hxl2 _ _ rfl)) fun a hF => ?_
        refine wl_g hF rfl rfl rfl rfl rfl rfl (fun hg => q_ne rfl ((hF.eval rfl).trans (gv_of hg)) (hF.eval rfl)) fun a hF => ?_
        refine wl_v hF rfl rfl rfl (q_or rfl (hF.eval rfl) rfl (fun hg2 => ((hF.eval rfl).trans (gv_of hg2))) rfl) fun a hF => ?_
        refine wl_v hF rfl rfl rfl (q_move rfl (hF.eval rfl)) fun a hF => ?_
        refine wl_g hF rfl rfl rfl rfl rfl rfl (fun hg => q_move rfl (hF.eval rfl)) fun a hF => ?_
        refine wl_g hF rfl rfl rfl rfl rfl rfl (fun hg => q_move rfl (hF.eval rfl)) fun a hF => ?_
        refine wl_g hF rfl rfl rfl rfl rfl rfl (fun hg => q_lenRd hR Tryd.underlying22 rfl ((hF.eval rfl).trans (gv_of hg))) fun a hF => ?_
        refine wl_g hF rfl rfl rfl rfl rfl rfl (fun hg => q_lt rfl ((hF.eval rfl).trans (gv_of hg)) ((hF.eval rfl).trans (gv_of hg))) fun a hF => ?_
        refine wl_g hF rfl rfl rfl rfl rfl rfl (fun hg => q_move rfl ((hF.eval rfl).trans (gv_of hg))) fun a hF => ?_
        refine wl_g hF rfl rfl rfl rfl rfl rfl (fun hg => q_move rfl (hF.eval rfl)) fun a hF => ?_
        refine wl_g hF rfl rfl rfl rfl rfl rfl (fun hg => q_move rfl (hF.eval rfl)) fun a hF => ?_
        refine wl_g hF rfl rfl rfl rfl rfl rfl (fun hg => q_at (i := k) hR Tryd.underlying22 Tryd.sizeOf33 rfl ((hF.eval rfl).trans (gv_of hg)) ((hF.eval rfl).trans (gv_of hg)) (by have := of_g (isB_gv hg).2; omega)) fun a hF => ?_
        refine wl_g hF rfl rfl rfl rfl rfl rfl (fun hg => q_fieldAddr0 (d := 0) Tryd.underlying33 rfl ((hF.eval rfl).trans (gv_of hg)) rfl Tryd.sizeOf3 (by decide) rfl) fun a hF => ?_
        refine wl_g hF rfl rfl rfl rfl rfl rfl (fun hg => q_load Tryd.isAgg3 rfl ((hF.eval rfl).trans (gv_of hg)) (RdT.cells (hR.now hO) (get_D (d := tok0) (by have := of_g (isB_gv hg).2; omega)) _ _ rfl)) fun a hF => ?_
        refine wl_g hF rfl rfl rfl rfl rfl rfl (fun hg => q_ne rfl ((hF.eval rfl).trans (gv_of hg)) (hF.eval rfl)) fun a hF => ?_
        refine wl_g hF rfl rfl rfl rfl rfl rfl (fun hg => q_and rfl ((hF.eval rfl).trans (gv_of hg)) rfl (fun hg2 => ((hF.eval rfl).trans (gv_of2 hg hg2))) rfl) fun a hF => ?_
        refine wl_v hF rfl rfl rfl (q_or rfl (hF.eval rfl) rfl (fun hg2 => ((hF.eval rfl).trans (gv_of hg2))) rfl) fun a hF => ?_
        refine wl_v hF rfl rfl rfl (q_move rfl (hF.eval rfl)) fun a hF => ?_
        refine wl_g hF rfl rfl rfl rfl rfl rfl (fun hg => q_move rfl (hF.eval rfl)) fun a hF => ?_
        refine wl_g hF rfl rfl rfl rfl rfl rfl (fun hg => q_not rfl ((hF.eval rfl).trans (gv_of hg)) (dec_b _)) fun a hF => ?_
        refine wl_g hF rfl rfl rfl rfl rfl rfl (fun hg => q_move rfl ((hF.eval rfl).trans (gv_of hg))) fun a hF => ?_
        refine wl_g hF rfl rfl rfl rfl rfl rfl (fun hg => q_move rfl (hF.eval rfl)) fun a hF => ?_
        refine wl_g hF rfl rfl rfl rfl rfl rfl (fun hg => q_ne rfl ((hF.eval rfl).trans (gv_of hg)) (hF.eval rfl)) fun a hF => ?_
        refine wl_g hF rfl rfl rfl rfl rfl rfl (fun hg => q_and rfl ((hF.eval rfl).trans (gv_of hg)) rfl (fun hg2 => ((hF.eval rfl).trans (gv_of2 hg hg2))) rfl) fun a hF => ?_
        refine wl_v hF rfl rfl rfl (q_or rfl (hF.eval rfl) rfl (fun hg2 => ((hF.eval rfl).trans (gv_of hg2))) rfl) fun a hF => ?_
        refine wl_nil ?_
        refine k_n ?_
        refine wp_ifD hF rfl rfl (fun hc13 => ?_) (fun hc13 => ?_)
        · skip
          rcases hc13 with ((h | h) | ⟨h1, h2⟩) | ⟨h1, h2⟩
          · exact absurd h (by omega)
          · exact absurd hxl9 h
          · rcases hus with h | ⟨y, hy, hy9⟩
            · have := congrArg List.length (hu.trans h)
              rw [List.length_drop, List.length_nil] at this
              exact absurd h1 (by omega)
            · rw [← hu, List.head?_drop] at hy
              exact absurd (by rw [List.getD_eq_getElem?_getD, hy]; exact hy9) h2
          · exact absurd (hoe (hbr (by simpa using h1))) h2
          done
        · skip
          refine wp_skip ?_
          refine k_n ?_
          refine wp_seq ?_
          refine wp_region_lit ?_
          refine wl_v hF rfl rfl rfl (q_move rfl (hF.eval rfl)) fun a hF => ?_
          refine wl_e hF rfl rfl rfl (c_call hF rfl rfl Tryd.call11 (play_r _ _ _ (by omega) (hO.rdT 0 rfl) (hG.at0 hO))) ?_
          rintro a _ w ⟨vb, lb, d2, hb, rfl, hS⟩ hF
          have hO := hO.call0 hS
          have hO : St _ _ _ [_, _] := hO
          obtain ⟨rfl, rfl⟩ : la = lb ∧ .ok = d2 := Prod.mk.inj (hag.symm.trans hb)
          refine wl_v hF rfl rfl rfl (q_move rfl (hF.eval rfl)) fun a hF => ?_
          refine wl_v hF rfl rfl rfl (q_extract rfl (hF.eval rfl) rfl) fun a hF => ?_
          refine wl_v hF rfl rfl rfl (q_extract rfl (hF.eval rfl) rfl) fun a hF => ?_
          refine wl_e hF rfl rfl rfl (e_alloc hO Tryd.zeroValue25 rfl rfl) ?_
          rintro a _ w ⟨e2, rfl, hO⟩ hF
          refine wl_v hF rfl rfl rfl (q_assign rfl (hF.eval rfl)) fun a hF => ?_
          refine wl_s hF rfl rfl (e_storeAll hO (i := 0) rfl Tryd.sizeOf25 rfl (hF.eval rfl) (hF.eval rfl) rfl rfl) ?_
          rintro a _ w ⟨-, hO⟩ hF
          have hO : St _ _ _ [_, _, _] := hO
          refine wl_nil ?_
          refine k_n ?_
          refine wp_seq ?_
          refine wp_region_lit ?_
          refine wl_v hF rfl rfl rfl (q_fieldAddr0 (d := 3) Tryd.underlying25 rfl (hF.eval rfl) rfl Tryd.sizeOf23 (by decide) rfl) fun a hF => ?_
          refine wl_v hF rfl rfl rfl (q_load Tryd.isAgg23 rfl (hF.eval rfl) (hO.cell 0 rfl rfl)) fun a hF => ?_
          refine wl_v hF rfl rfl rfl (q_eq rfl (hF.eval rfl) (hF.eval rfl)) fun a hF => ?_
          refine wl_v hF rfl rfl rfl (q_move rfl (hF.eval rfl)) fun a hF => ?_
          refine wl_g hF rfl rfl rfl rfl rfl rfl (fun hg => q_move rfl (hF.eval rfl)) fun a hF => ?_
          refine wl_g hF rfl rfl rfl rfl rfl rfl (fun hg => q_move rfl (hF.eval rfl)) fun a hF => ?_
          refine wl_gk hO hF rfl rfl rfl rfl rfl rfl (fun hg => c_callG hF rfl rfl (by first | (simp only [gv_of hg]; done) | (simp only [gv_of hg]; rfl)) Tryd.call13 (same_r _ _ _ _ _ (RdT.lenle (hO.rdT 2 rfl)) (RdT.lenle (hO.rdT 1 rfl)) (hO.rdT 2 rfl) (hO.rdT 1 rfl))) fun a w hO hF => ?_
          refine wl_v hF rfl rfl rfl (q_and rfl (hF.eval rfl) rfl (fun hg2 => ((hF.eval rfl).trans (gv_of hg2))) rfl) fun a hF => ?_
          refine wl_v hF rfl rfl rfl (q_move rfl (hF.eval rfl)) fun a hF => ?_
          refine wl_gk hO hF rfl rfl rfl rfl rfl rfl (fun hg => c_callG hF rfl rfl (by first | (simp only [gv_of hg]; done) | (simp only [gv_of hg]; rfl)) Tryd.call10 (awake_r _ (hG.at0 hO))) fun a w hO hF => ?_
          refine wl_v hF rfl rfl rfl (q_and rfl (hF.eval rfl) rfl (fun hg2 => ((hF.eval rfl).trans (gv_of hg2))) (dec_b _)) fun a hF => ?_
          refine wl_v hF rfl rfl rfl (q_assign rfl (hF.eval rfl)) fun a hF => ?_
          refine wl_nil ?_
          refine k_n ?_
          refine wp_ret ?_
          refine r_1 hF rfl rfl ?_
          have hO := hO.drop1 0
          have hO := hO.drop1 0
          have hO := hO.drop1 0
          have hO : St _ _ _ [] := hO
          exact ⟨congrArg Value.bool (decide_eq_true ⟨⟨rfl, rfl⟩, rfl⟩), hO⟩

end Go.Proofs.YtnnagjbkpmkelaaDoor
