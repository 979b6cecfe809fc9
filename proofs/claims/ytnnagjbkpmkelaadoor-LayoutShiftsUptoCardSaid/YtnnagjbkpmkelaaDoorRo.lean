import Derived.Test.YtnnagjbkpmkelaaDoorRn
import Derived.Test.YtnnagjbkpmkelaaDoorPl3
import Derived.Test.YtnnagjbkpmkelaaDoorGw12
namespace Go.Proofs.YtnnagjbkpmkelaaDoor
open Go
set_option maxRecDepth 100000
set_option maxHeartbeats 1000000 in
theorem indent_r (w0 : World) (bs : Nat) (vo0 vs0 : Value) (out0 : List Tok) (st0 : List Thg) (hA : Owns w0 [.ob bs 56 [vo0, vs0], slT vo0 33 tokE out0, slT vs0 63 itmE st0]) (hn : out0.length + st0.length ≤ 100000000000) (hk0 : okS st0) (hG : GlB w0 (blks [.ob bs 56 [vo0, vs0], slT vo0 33 tokE out0, slT vs0 63 itmE st0])) (t : Tok) (col : Int) : Ret Tryd.prog 31 #[ptr (adr bs), .agg (tokE.cells t).toArray, i64 col] w0 (fun v w' => ∃ (ok : Bool) (vo vs : Value) (out : List Tok) (st : List Thg), v = .bool ok ∧ lineF t col (st0.length + 1) out0 st0 = (if ok = true then some (out, st) else none) ∧ okS st ∧ out.length + st.length ≤ out0.length + st0.length + 1 ∧ St w0 (blks [.ob bs 56 [vo0, vs0], slT vo0 33 tokE out0, slT vs0 63 itmE st0]) w' [.ob bs 56 [vo, vs], slT vo 33 tokE out, slT vs 63 itmE st]) := by
  have hO := St.init hA
  refine ret_of (m := 77) Tryd.func31 rfl Tryd.ntmps31 [(0, ptr (adr bs)), (1, .agg (tokE.cells t).toArray), (2, i64 col)] rfl ⟨rfl, rfl, rfl, trivial⟩ fun a hF => ?_
  refine wp_seq ?_
  refine wp_region_lit ?_
  refine wl_e hF rfl rfl rfl (e_box hO rfl (hF.eval rfl) rfl) ?_
  rintro a _ w ⟨tk, rfl, hO⟩ hF
  refine wl_v hF rfl rfl rfl (q_assign rfl (hF.eval rfl)) fun a hF => ?_
  refine wl_nil ?_
  refine k_n ?_
  refine wp_block ?_
  have hO : St _ _ _ [_, _, _, _] := hO
  refine wp_loopS (fun (x : Nat × List Tok × List Thg × Value × Value) a w' => match x with | (f, out, st, vo, vs) => (lineF t col f out st = lineF t col (st0.length + 1) out0 st0 ∧ st.length < f ∧ out.length + st.length ≤ out0.length + st0.length ∧ okS st) ∧ St w0 (blks [.ob bs 56 [vo0, vs0], slT vo0 33 tokE out0, slT vs0 63 itmE st0]) w' [.ob tk 33 (tokE.cells t), .ob bs 56 [vo, vs], slT vo 33 tokE out, slT vs 63 itmE st] ∧ Fr a 77 [(0, ptr (adr bs)), (2, i64 col), (4, ptr (adr tk))]) (fun (x : Nat × List Tok × List Thg × Value × Value) => match x with | (f, out, st, vo, vs) => f) (st0.length + 1, out0, st0, vo0, vs0) ⟨⟨rfl, by omega, by omega, hk0⟩, hO, hF.sub ⟨rfl, rfl, rfl, trivial⟩⟩ ?_
  rintro ⟨f, out, st, vo, vs⟩ a w ⟨⟨hr, hf, hp, hk⟩, hO, hF⟩
  refine wp_block ?_
  refine wp_seq ?_
  refine wp_region_lit ?_
  refine wl_v hF rfl rfl rfl (q_move rfl (hF.eval rfl)) fun a hF => ?_
  have hO := hO.pull 3 rfl
  have hO := hO.pull 2 rfl
  have hO : St _ _ _ [_, _, _, _] := hO
  refine wl_e hF rfl rfl rfl (c_call hF rfl rfl Tryd.call42 (last_r _ _ _ _ _ hO.own2 (by omega) hk (hG.at2 hO))) ?_
  rintro a _ w ⟨fr, rfl, hfr, hS⟩ hF
  have hO := hO.call2 hS
  have hO : St _ _ _ [_, _, _, _] := hO
  refine wl_v hF rfl rfl rfl (q_move rfl (hF.eval rfl)) fun a hF => ?_
  refine wl_v hF rfl rfl rfl (q_extract rfl (hF.eval rfl) rfl) fun a hF => ?_
  refine wl_v hF rfl rfl rfl (q_extract rfl (hF.eval rfl) rfl) fun a hF => ?_
  refine wl_v hF rfl rfl rfl (q_assign rfl (hF.eval rfl)) fun a hF => ?_
  refine wl_v hF rfl rfl rfl (q_assign rfl (hF.eval rfl)) fun a hF => ?_
  refine wl_nil ?_
  refine k_n ?_
  refine wp_seq ?_
  refine wp_seq ?_
  refine wp_region_lit ?_
  refine wl_v hF rfl rfl rfl (q_move rfl (hF.eval rfl)) fun a hF => ?_
  refine wl_v hF rfl rfl rfl (q_lt rfl (hF.eval rfl) (hF.eval rfl)) fun a hF => ?_
  refine wl_v hF rfl rfl rfl (q_move rfl (hF.eval rfl)) fun a hF => ?_
  refine wl_g hF rfl rfl rfl rfl rfl rfl (fun hg => q_move rfl (hF.eval rfl)) fun a hF => ?_
  refine wl_g hF rfl rfl rfl rfl rfl rfl (fun hg => q_nilCheck rfl ((hF.eval rfl).trans (gv_of hg))) fun a hF => ?_
  refine wl_g hF rfl rfl rfl rfl rfl rfl (fun hg => q_fieldAddr0 (d := 1) Tryd.underlying56 rfl ((hF.eval rfl).trans (gv_of hg)) rfl Tryd.sizeOf54 (by decide) rfl) fun a hF => ?_
  refine wl_g hF rfl rfl rfl rfl rfl rfl (fun hg => q_load Tryd.isAgg54 rfl ((hF.eval rfl).trans (gv_of hg)) (hO.cell 0 rfl rfl)) fun a hF => ?_
  refine wl_g hF rfl rfl rfl rfl rfl rfl (fun hg => q_move rfl (hF.eval rfl)) fun a hF => ?_
  refine wl_g hF rfl rfl rfl rfl rfl rfl (fun hg => q_at (i := (blkF st st.length).toNat) (hO.rd 1 rfl) Tryd.underlying54 Tryd.sizeOf63 rfl ((hF.eval rfl).trans (gv_of hg)) (((hF.eval rfl).trans (gv_of hg)).trans (congrArg i64 ((Int.toNat_of_nonneg (Int.not_lt.1 (of_gn hg))).symm))) (blk_nat (Int.toNat_of_nonneg (Int.not_lt.1 (of_gn hg))).symm)) fun a hF => ?_
  refine wl_g hF rfl rfl rfl rfl rfl rfl (fun hg => q_fieldAddr0 (d := 1) Tryd.underlying63 rfl ((hF.eval rfl).trans (gv_of hg)) rfl Tryd.sizeOf3 (by decide) rfl) fun a hF => ?_
  refine wl_g hF rfl rfl rfl rfl rfl rfl (fun hg => q_load Tryd.isAgg3 rfl ((hF.eval rfl).trans (gv_of hg)) (RdT.cells (hO.rdT 1 rfl) (get_D (d := thg0) (blk_nat (Int.toNat_of_nonneg (Int.not_lt.1 (of_gn hg))).symm)) _ _ rfl)) fun a hF => ?_
  refine wl_g hF rfl rfl rfl rfl rfl rfl (fun hg => q_move rfl (hF.eval rfl)) fun a hF => ?_
  refine wl_g hF rfl rfl rfl rfl rfl rfl (fun hg => q_lt rfl ((hF.eval rfl).trans (gv_of hg)) ((hF.eval rfl).trans (gv_of hg))) fun a hF => ?_
  refine wl_v hF rfl rfl rfl (q_or rfl (hF.eval rfl) rfl (fun hg2 => ((hF.eval rfl).trans (gv_of hg2))) rfl) fun a hF => ?_
  refine wl_nil ?_
  refine k_n ?_
  refine wp_ifD hF rfl rfl (fun hc1 => ?_) (fun hc1 => ?_)
  · skip
    refine wp_seq ?_
    refine wp_region_lit ?_
    refine wl_v hF rfl rfl rfl (q_assign rfl (hF.eval rfl)) fun a hF => ?_
    refine wl_nil ?_
    refine k_n ?_
    refine wp_ret ?_
    refine k_r ?_
    refine b_r ?_
    refine k_r ?_
    refine b_r ?_
    refine r_1 hF rfl rfl ?_
    have hO := hO.drop1 2
    have hO := hO.pull 1 rfl
    have hO := hO.pull 2 rfl
    have hO := hO.pull 2 rfl
    have hO : St _ _ _ [_, _, _] := hO
    obtain ⟨g, rfl⟩ : ∃ g, f = g + 1 := ⟨f - 1, by omega⟩
    exact ⟨true, _, _, _, _, rfl, hr.symm.trans (line_1 hc1), hk, by omega, hO⟩
  · skip
    have hb0 : 0 ≤ blkF st st.length := by have := not_or.1 hc1; omega
    obtain ⟨b, hb⟩ := Int.eq_ofNat_of_zero_le hb0
    have hfb := hfr b hb
    subst hfb
    rw [hb] at hF hc1
    rw [Int.toNat_natCast] at hc1
    have hbl := blk_nat hb
    refine wp_skip ?_
    refine k_n ?_
    refine wp_seq ?_
    refine wp_region_lit ?_
    refine wl_v hF rfl rfl rfl (q_move rfl (hF.eval rfl)) fun a hF => ?_
    refine wl_v hF rfl rfl rfl (q_nilCheck rfl (hF.eval rfl)) fun a hF => ?_
    refine wl_v hF rfl rfl rfl (q_fieldAddr0 (d := 1) Tryd.underlying56 rfl (hF.eval rfl) rfl Tryd.sizeOf54 (by decide) rfl) fun a hF => ?_
    refine wl_v hF rfl rfl rfl (q_load Tryd.isAgg54 rfl (hF.eval rfl) (hO.cell 0 rfl rfl)) fun a hF => ?_
    refine wl_v hF rfl rfl rfl (q_move rfl (hF.eval rfl)) fun a hF => ?_
    refine wl_v hF rfl rfl rfl (q_at (i := b) (hO.rd 1 rfl) Tryd.underlying54 Tryd.sizeOf63 rfl (hF.eval rfl) (hF.eval rfl) (hbl)) fun a hF => ?_
    refine wl_v hF rfl rfl rfl (q_fieldAddr0 (d := 1) Tryd.underlying63 rfl (hF.eval rfl) rfl Tryd.sizeOf3 (by decide) rfl) fun a hF => ?_
    refine wl_v hF rfl rfl rfl (q_load Tryd.isAgg3 rfl (hF.eval rfl) (RdT.cells (hO.rdT 1 rfl) (get_D (d := thg0) hbl) _ _ rfl)) fun a hF => ?_
    refine wl_v hF rfl rfl rfl (q_move rfl (hF.eval rfl)) fun a hF => ?_
    refine wl_v hF rfl rfl rfl (q_eq rfl (hF.eval rfl) (hF.eval rfl)) fun a hF => ?_
    refine wl_v hF rfl rfl rfl (q_assign rfl (hF.eval rfl)) fun a hF => ?_
    refine wl_nil ?_
    refine k_n ?_
    refine wp_seq ?_
    refine wp_block ?_
    refine wp_seq ?_
    refine wp_region_lit ?_
    refine wl_v hF rfl rfl rfl (q_move rfl (hF.eval rfl)) fun a hF => ?_
    refine wl_v hF rfl rfl rfl (q_move rfl (hF.eval rfl)) fun a hF => ?_
    refine wl_g hF rfl rfl rfl rfl rfl rfl (fun hg => q_loadAgg Tryd.isAgg33 Tryd.sizeOf33 rfl (hF.eval rfl) (hO.cells 2 rfl) rfl) fun a hF => ?_
    refine wl_gk hO hF rfl rfl rfl rfl rfl rfl (fun hg => c_callG hF rfl rfl (by first | (simp only [gv_of hg]; done) | (simp only [gv_of hg]; rfl)) Tryd.call32 (closes1_r _ _)) fun a w hO hF => ?_
    refine wl_v hF rfl rfl rfl (q_and rfl (hF.eval rfl) rfl (fun hg2 => ((hF.eval rfl).trans (gv_of hg2))) rfl) fun a hF => ?_
    refine wl_v hF rfl rfl rfl (q_assign rfl (hF.eval rfl)) fun a hF => ?_
    refine wl_nil ?_
    refine k_n ?_
    refine wp_ifD hF rfl rfl (fun hc2 => ?_) (fun hc2 => ?_)
    · skip
      refine wp_seq ?_
      refine wp_region_lit ?_
      refine wl_v hF rfl rfl rfl (q_assign rfl (hF.eval rfl)) fun a hF => ?_
      refine wl_nil ?_
      refine k_n ?_
      refine wp_ret ?_
      refine b_r ?_
      refine k_r ?_
      refine b_r ?_
      refine k_r ?_
      refine b_r ?_
      refine r_1 hF rfl rfl ?_
      have hO := hO.drop1 2
      have hO := hO.pull 1 rfl
      have hO := hO.pull 2 rfl
      have hO := hO.pull 2 rfl
      have hO : St _ _ _ [_, _, _] := hO
      obtain ⟨g, rfl⟩ : ∃ g, f = g + 1 := ⟨f - 1, by omega⟩
      exact ⟨true, _, _, _, _, rfl, hr.symm.trans (line_2 hb hc1 ⟨hc2.1.symm, hc2.2⟩), hk, by omega, hO⟩
    · skip
      have n2 : ¬ (col = (st.getD b thg0).col ∧ closeP (wordF t)) := fun h => hc2 ⟨h.1.symm, h.2⟩
      refine wp_seq ?_
      refine wp_region_lit ?_
      refine wl_v hF rfl rfl rfl (q_move rfl (hF.eval rfl)) fun a hF => ?_
      refine wl_v hF rfl rfl rfl (q_not rfl (hF.eval rfl) (dec_b _)) fun a hF => ?_
      refine wl_v hF rfl rfl rfl (q_assign rfl (hF.eval rfl)) fun a hF => ?_
      refine wl_nil ?_
      refine k_n ?_
      refine wp_ifD hF rfl rfl (fun hc3 => ?_) (fun hc3 => ?_)
      · skip
        refine wp_seq ?_
        refine wp_region_lit ?_
        refine wl_v hF rfl rfl rfl (q_assign rfl (hF.eval rfl)) fun a hF => ?_
        refine wl_nil ?_
        refine k_n ?_
        refine wp_ret ?_
        refine b_r ?_
        refine k_r ?_
        refine b_r ?_
        refine k_r ?_
        refine b_r ?_
        refine r_1 hF rfl rfl ?_
        have hO := hO.drop1 2
        have hO := hO.pull 1 rfl
        have hO := hO.pull 2 rfl
        have hO := hO.pull 2 rfl
        have hO : St _ _ _ [_, _, _] := hO
        obtain ⟨g, rfl⟩ : ∃ g, f = g + 1 := ⟨f - 1, by omega⟩
        exact ⟨false, _, _, _, _, rfl, hr.symm.trans (line_3 hb hc1 n2 hc3), hk, by omega, hO⟩
      · skip
        have n3 : ¬ ¬ onlyF st b = true := hc3
        refine wp_seq ?_
        refine wp_region_lit ?_
        refine wl_v hF rfl rfl rfl (q_move rfl (hF.eval rfl)) fun a hF => ?_
        refine wl_v hF rfl rfl rfl (q_assign rfl (hF.eval rfl)) fun a hF => ?_
        refine wl_nil ?_
        refine k_n ?_
        refine wp_ifD hF rfl rfl (fun hc4 => ?_) (fun hc4 => ?_)
        · skip
          refine wp_seq ?_
          refine wp_region_lit ?_
          refine wl_v hF rfl rfl rfl (q_move rfl (hF.eval rfl)) fun a hF => ?_
          refine wl_v hF rfl rfl rfl (q_move rfl (hF.eval rfl)) fun a hF => ?_
          refine wl_v hF rfl rfl rfl (q_nilCheck rfl (hF.eval rfl)) fun a hF => ?_
          refine wl_v hF rfl rfl rfl (q_fieldAddr0 (d := 1) Tryd.underlying56 rfl (hF.eval rfl) rfl Tryd.sizeOf54 (by decide) rfl) fun a hF => ?_
          refine wl_v hF rfl rfl rfl (q_load Tryd.isAgg54 rfl (hF.eval rfl) (hO.cell 0 rfl rfl)) fun a hF => ?_
          refine wl_v hF rfl rfl rfl (q_move rfl (hF.eval rfl)) fun a hF => ?_
          refine wl_v hF rfl rfl rfl (q_add rfl (hF.eval rfl) (hF.eval rfl) (by omega)) fun a hF => ?_
          refine wl_v hF rfl rfl rfl (q_resl (j := b + 1) (hO.rd 1 rfl) Tryd.underlying54 Tryd.sizeOf63 rfl (hF.eval rfl) ((hF.eval rfl).trans (congrArg i64 (show (b : Int) + 1 = ((b + 1 : Nat) : Int) by omega))) (by omega)) fun a hF => ?_
          have hO := hO.reslT (i := 1) (j := b + 1) rfl (by omega)
          have hO : St _ _ _ [_, _, _, _] := hO
          refine wl_v hF rfl rfl rfl (q_nilCheck rfl (hF.eval rfl)) fun a hF => ?_
          refine wl_v hF rfl rfl rfl (q_fieldAddr0 (d := 1) Tryd.underlying56 rfl (hF.eval rfl) rfl Tryd.sizeOf54 (by decide) rfl) fun a hF => ?_
          refine wl_s hF rfl rfl (e_store1 hO (i := 0) rfl Tryd.sizeOf54 rfl (hF.eval rfl) (hF.eval rfl) (cells_one (hO.slOne 1 rfl)) rfl (hO.slOne 1 rfl)) ?_
          rintro a _ w ⟨-, hO⟩ hF
          have hO : St _ _ _ [_, _, _, _] := hO
          refine wl_nil ?_
          refine k_n ?_
          refine wp_seq ?_
          refine wp_region_lit ?_
          refine wl_v hF rfl rfl rfl (q_move rfl (hF.eval rfl)) fun a hF => ?_
          refine wl_v hF rfl rfl rfl (q_loadAgg Tryd.isAgg33 Tryd.sizeOf33 rfl (hF.eval rfl) (hO.cells 2 rfl) rfl) fun a hF => ?_
          refine wl_e hF rfl rfl rfl (c_buildSlice hF hO Tryd.underlying45 Tryd.sizeOf9 Tryd.zeroValue9 rfl rfl rfl rfl rfl rfl rfl) ?_
          rintro a _ w ⟨ws, rfl, hO⟩ hF
          have hO := hO.pull 4 rfl
          have hO := hO.pull 2 rfl
          have hO : St _ _ _ [_, _, _, _, _] := hO
          refine wl_e hF rfl rfl rfl (c_call hF rfl rfl Tryd.call35 (llay_r _ _ _ _ _ hO.own2 _ _ [[59]] (by decide) (by omega) (hO.rdT2 0 rfl))) ?_
          rintro a _ w ⟨vo, rfl, hS⟩ hF
          have hO := hO.call2 hS
          have hO : St _ _ _ [_, _, _, _, _] := hO
          refine wl_nil ?_
          refine k_n ?_
          refine wp_seq ?_
          refine wp_region_lit ?_
          refine wl_v hF rfl rfl rfl (q_assign rfl (hF.eval rfl)) fun a hF => ?_
          refine wl_nil ?_
          refine k_n ?_
          refine wp_ret ?_
          refine b_r ?_
          refine k_r ?_
          refine b_r ?_
          refine k_r ?_
          refine b_r ?_
          refine r_1 hF rfl rfl ?_
          have hO := hO.drop1 2
          have hO := hO.drop1 3
          have hO : St _ _ _ [_, _, _] := hO
          obtain ⟨g, rfl⟩ : ∃ g, f = g + 1 := ⟨f - 1, by omega⟩
          exact ⟨true, _, _, _, _, rfl, hr.symm.trans (line_4 hb hc1 n2 n3 hc4.symm), hk.take _, by simp; omega, hO⟩
        · skip
          have n4 : ¬ col = (st.getD b thg0).col := fun h => hc4 h.symm
          refine wp_skip ?_
          refine b_n ?_
          refine k_n ?_
          refine wp_seq ?_
          refine wp_region_lit ?_
          refine wl_v hF rfl rfl rfl (q_move rfl (hF.eval rfl)) fun a hF => ?_
          refine wl_v hF rfl rfl rfl (q_move rfl (hF.eval rfl)) fun a hF => ?_
          refine wl_v hF rfl rfl rfl (q_nilCheck rfl (hF.eval rfl)) fun a hF => ?_
          refine wl_v hF rfl rfl rfl (q_fieldAddr0 (d := 1) Tryd.underlying56 rfl (hF.eval rfl) rfl Tryd.sizeOf54 (by decide) rfl) fun a hF => ?_
          refine wl_v hF rfl rfl rfl (q_load Tryd.isAgg54 rfl (hF.eval rfl) (hO.cell 0 rfl rfl)) fun a hF => ?_
          refine wl_v hF rfl rfl rfl (q_move rfl (hF.eval rfl)) fun a hF => ?_
          refine wl_v hF rfl rfl rfl (q_resl (j := b) (hO.rd 1 rfl) Tryd.underlying54 Tryd.sizeOf63 rfl (hF.eval rfl) (hF.eval rfl) (by omega)) fun a hF => ?_
          have hO := hO.reslT (i := 1) (j := b) rfl (by omega)
          have hO : St _ _ _ [_, _, _, _] := hO
          refine wl_v hF rfl rfl rfl (q_nilCheck rfl (hF.eval rfl)) fun a hF => ?_
          refine wl_v hF rfl rfl rfl (q_fieldAddr0 (d := 1) Tryd.underlying56 rfl (hF.eval rfl) rfl Tryd.sizeOf54 (by decide) rfl) fun a hF => ?_
          refine wl_s hF rfl rfl (e_store1 hO (i := 0) rfl Tryd.sizeOf54 rfl (hF.eval rfl) (hF.eval rfl) (cells_one (hO.slOne 1 rfl)) rfl (hO.slOne 1 rfl)) ?_
          rintro a _ w ⟨-, hO⟩ hF
          have hO : St _ _ _ [_, _, _, _] := hO
          refine wl_nil ?_
          refine k_n ?_
          refine wp_region_lit ?_
          refine wl_v hF rfl rfl rfl (q_move rfl (hF.eval rfl)) fun a hF => ?_
          refine wl_v hF rfl rfl rfl (q_loadAgg Tryd.isAgg33 Tryd.sizeOf33 rfl (hF.eval rfl) (hO.cells 2 rfl) rfl) fun a hF => ?_
          refine wl_e hF rfl rfl rfl (c_buildSlice hF hO Tryd.underlying45 Tryd.sizeOf9 Tryd.zeroValue9 rfl rfl rfl rfl rfl rfl rfl) ?_
          rintro a _ w ⟨ws, rfl, hO⟩ hF
          have hO := hO.pull 4 rfl
          have hO := hO.pull 2 rfl
          have hO : St _ _ _ [_, _, _, _, _] := hO
          refine wl_e hF rfl rfl rfl (c_call hF rfl rfl Tryd.call35 (llay_r _ _ _ _ _ hO.own2 _ _ [[125]] (by decide) (by omega) (hO.rdT2 0 rfl))) ?_
          rintro a _ w ⟨vo, rfl, hS⟩ hF
          have hO := hO.call2 hS
          have hO : St _ _ _ [_, _, _, _, _] := hO
          refine wl_nil ?_
          refine b_n ?_
          refine k_n ?_
          have hO := hO.drop1 2
          have hO := hO.pull 2 rfl
          have hO := hO.pull 2 rfl
          have hO := hO.pull 2 rfl
          have hO := hO.pull 3 rfl
          have hO : St _ _ _ [_, _, _, _] := hO
          obtain ⟨g, rfl⟩ : ∃ g, f = g + 1 := ⟨f - 1, by omega⟩
          exact ⟨(g, out ++ [laidT [125] t], st.take b, _, _), ⟨⟨(line_5 hb hc1 n2 n3 n4).symm.trans hr, by rw [List.length_take]; omega, by simp; omega, hk.take _⟩, hO, hF.sub ⟨rfl, rfl, rfl, trivial⟩⟩, by dsimp only; omega⟩

end Go.Proofs.YtnnagjbkpmkelaaDoor
