import Derived.Test.YtnnagjbkpmkelaaDoorRf
import Derived.Test.YtnnagjbkpmkelaaDoorPl2
import Derived.Test.YtnnagjbkpmkelaaDoorGw9
namespace Go.Proofs.YtnnagjbkpmkelaaDoor
open Go
set_option maxRecDepth 100000

section
variable {t : Tok} {col : Int} {g b : Nat} {out : List Tok} {st : List Thg}
theorem line_1 (h : blkF st st.length < 0 ∨ (st.getD (blkF st st.length).toNat thg0).col < col) : lineF t col (g + 1) out st = some (out, st) := by
  unfold lineF; simp only []; rw [if_pos h]
theorem line_2 (hb : blkF st st.length = (b : Int)) (h1 : ¬ ((b : Int) < 0 ∨ (st.getD b thg0).col < col)) (h2 : col = (st.getD b thg0).col ∧ closeP (wordF t)) : lineF t col (g + 1) out st = some (out, st) := by
  unfold lineF; simp only [hb, Int.toNat_natCast]; rw [if_neg h1, if_pos h2]
theorem line_3 (hb : blkF st st.length = (b : Int)) (h1 : ¬ ((b : Int) < 0 ∨ (st.getD b thg0).col < col)) (h2 : ¬ (col = (st.getD b thg0).col ∧ closeP (wordF t))) (h3 : ¬ onlyF st b = true) : lineF t col (g + 1) out st = none := by
  unfold lineF; simp only [hb, Int.toNat_natCast]; rw [if_neg h1, if_neg h2, if_pos (Bool.eq_false_iff.2 h3)]
theorem line_4 (hb : blkF st st.length = (b : Int)) (h1 : ¬ ((b : Int) < 0 ∨ (st.getD b thg0).col < col)) (h2 : ¬ (col = (st.getD b thg0).col ∧ closeP (wordF t))) (h3 : ¬ ¬ onlyF st b = true) (h4 : col = (st.getD b thg0).col) :
    lineF t col (g + 1) out st = some (out ++ [laidT [59] t], st.take (b + 1)) := by
  unfold lineF; simp only [hb, Int.toNat_natCast]; rw [if_neg h1, if_neg h2, if_neg (by simpa using Classical.not_not.1 h3), if_pos h4]
theorem line_5 (hb : blkF st st.length = (b : Int)) (h1 : ¬ ((b : Int) < 0 ∨ (st.getD b thg0).col < col)) (h2 : ¬ (col = (st.getD b thg0).col ∧ closeP (wordF t))) (h3 : ¬ ¬ onlyF st b = true) (h4 : ¬ col = (st.getD b thg0).col) :
    lineF t col (g + 1) out st = lineF t col g (out ++ [laidT [125] t]) (st.take b) := by
  conv => lhs; unfold lineF
  simp only [hb, Int.toNat_natCast]; rw [if_neg h1, if_neg h2, if_neg (by simpa using Classical.not_not.1 h3), if_neg h4]
end
set_option maxHeartbeats 1000000 in
theorem line_r (w0 : World) (bs : Nat) (vo0 vs0 : Value) (out0 : List Tok) (st0 : List Thg) (dd : Diag) (hA : Owns w0 [.ob bs 68 (vo0 :: vs0 :: diagCells dd), slT vo0 33 tokE out0, slT vs0 79 thgE st0]) (hn : out0.length + st0.length ≤ 1000000000000) (t : Tok) (col : Int) : Ret Tryd.prog 40 #[ptr (adr bs), .agg (tokE.cells t).toArray, i64 col] w0 (fun v w' => ∃ (ok : Bool) (vo vs : Value) (out : List Tok) (st : List Thg) (d : Diag), v = .bool ok ∧ lineF t col (st0.length + 1) out0 st0 = (if ok = true then some (out, st) else none) ∧ (ok = false → d = badD t) ∧ out.length + st.length ≤ out0.length + st0.length + 1 ∧ St w0 (blks [.ob bs 68 (vo0 :: vs0 :: diagCells dd), slT vo0 33 tokE out0, slT vs0 79 thgE st0]) w' [.ob bs 68 (vo :: vs :: diagCells d), slT vo 33 tokE out, slT vs 79 thgE st]) := by
  have hO := St.init hA
  refine ret_of (m := 86) Tryd.func40 rfl Tryd.ntmps40 [(0, ptr (adr bs)), (1, .agg (tokE.cells t).toArray), (2, i64 col)] rfl ⟨rfl, rfl, rfl, trivial⟩ fun a hF => ?_
  refine wp_seq ?_
  refine wp_region_lit ?_
  refine wl_e hF rfl rfl rfl (e_box hO rfl (hF.eval rfl) rfl) ?_
  rintro a _ w ⟨tk, rfl, hO⟩ hF
  refine wl_v hF rfl rfl rfl (q_assign rfl (hF.eval rfl)) fun a hF => ?_
  refine wl_nil ?_
  refine k_n ?_
  refine wp_block ?_
  have hO : St _ _ _ [_, _, _, _] := hO
  refine wp_loopS (fun (x : Nat × List Tok × List Thg × Value × Value) a w' => match x with | (f, out, st, vo, vs) => (lineF t col f out st = lineF t col (st0.length + 1) out0 st0 ∧ st.length < f ∧ out.length + st.length ≤ out0.length + st0.length) ∧ St w0 (blks [.ob bs 68 (vo0 :: vs0 :: diagCells dd), slT vo0 33 tokE out0, slT vs0 79 thgE st0]) w' [.ob tk 33 (tokE.cells t), .ob bs 68 (vo :: vs :: diagCells dd), slT vo 33 tokE out, slT vs 79 thgE st] ∧ Fr a 86 [(0, ptr (adr bs)), (2, i64 col), (4, ptr (adr tk))]) (fun (x : Nat × List Tok × List Thg × Value × Value) => match x with | (f, out, st, vo, vs) => f) (st0.length + 1, out0, st0, vo0, vs0) ⟨⟨rfl, by omega, by omega⟩, hO, hF.sub ⟨rfl, rfl, rfl, trivial⟩⟩ ?_
  rintro ⟨f, out, st, vo, vs⟩ a w ⟨⟨hr, hf, hp⟩, hO, hF⟩
  refine wp_block ?_
  refine wp_seq ?_
  refine wp_region_lit ?_
  refine wl_v hF rfl rfl rfl (q_move rfl (hF.eval rfl)) fun a hF => ?_
  have hO := hO.pull 3 rfl
  have hO := hO.pull 2 rfl
  have hO : St _ _ _ [_, _, _, _] := hO
  refine wl_e hF rfl rfl rfl (c_call hF rfl rfl Tryd.call46 (block_r _ _ _ _ _ _ hO.own2 (by omega))) ?_
  rintro a _ w ⟨rfl, hS⟩ hF
  have hO := hO.call2 hS
  have hO : St _ _ _ [_, _, _, _] := hO
  refine wl_v hF rfl rfl rfl (q_assign rfl (hF.eval rfl)) fun a hF => ?_
  refine wl_nil ?_
  refine k_n ?_
  refine wp_seq ?_
  refine wp_seq ?_
  refine wp_region_lit ?_
  refine wl_v hF rfl rfl rfl (q_move rfl (hF.eval rfl)) fun a hF => ?_
  refine wl_v hF rfl rfl rfl (q_lt rfl (hF.eval rfl) (hF.eval rfl)) fun a hF => ?_
  refine wl_v hF rfl rfl rfl (q_move rfl (hF.eval rfl)) fun a hF => ?_
  refine wl_g hF rfl rfl rfl rfl rfl rfl (fun hg => q_move rfl (hF.eval rfl)) fun a hF => ?_
  refine wl_g hF rfl rfl rfl rfl rfl rfl (fun hg => q_move rfl (hF.eval rfl)) fun a hF => ?_
  refine wl_g hF rfl rfl rfl rfl rfl rfl (fun hg => q_nilCheck rfl ((hF.eval rfl).trans (gv_of hg))) fun a hF => ?_
  refine wl_g hF rfl rfl rfl rfl rfl rfl (fun hg => q_fieldAddr0 (d := 1) Tryd.underlying68 rfl ((hF.eval rfl).trans (gv_of hg)) rfl Tryd.sizeOf66 (by decide) rfl) fun a hF => ?_
  refine wl_g hF rfl rfl rfl rfl rfl rfl (fun hg => q_load Tryd.isAgg66 rfl ((hF.eval rfl).trans (gv_of hg)) (hO.cell 0 rfl rfl)) fun a hF => ?_
  refine wl_g hF rfl rfl rfl rfl rfl rfl (fun hg => q_move rfl (hF.eval rfl)) fun a hF => ?_
  refine wl_g hF rfl rfl rfl rfl rfl rfl (fun hg => q_at (i := (blkF st st.length).toNat) (hO.rd 1 rfl) Tryd.underlying66 Tryd.sizeOf79 rfl ((hF.eval rfl).trans (gv_of hg)) (((hF.eval rfl).trans (gv_of hg)).trans (congrArg i64 ((Int.toNat_of_nonneg (Int.not_lt.1 (of_gn hg))).symm))) (blk_nat ((Int.toNat_of_nonneg (Int.not_lt.1 (of_gn hg))).symm))) fun a hF => ?_
  refine wl_g hF rfl rfl rfl rfl rfl rfl (fun hg => q_fieldAddr0 (d := 1) Tryd.underlying79 rfl ((hF.eval rfl).trans (gv_of hg)) rfl Tryd.sizeOf3 (by decide) rfl) fun a hF => ?_
  refine wl_g hF rfl rfl rfl rfl rfl rfl (fun hg => q_load Tryd.isAgg3 rfl ((hF.eval rfl).trans (gv_of hg)) (RdT.cells (hO.rdT 1 rfl) (get_D (d := thg0) (blk_nat (Int.toNat_of_nonneg (Int.not_lt.1 (of_gn hg))).symm)) _ _ rfl)) fun a hF => ?_
  refine wl_g hF rfl rfl rfl rfl rfl rfl (fun hg => q_gt rfl ((hF.eval rfl).trans (gv_of hg)) ((hF.eval rfl).trans (gv_of hg))) fun a hF => ?_
  refine wl_v hF rfl rfl rfl (q_or rfl (hF.eval rfl) rfl (fun hg2 => ((hF.eval rfl).trans (gv_of hg2))) rfl) fun a hF => ?_
  refine wl_nil ?_
  refine k_n ?_
  refine wp_ifD hF rfl rfl (fun hc1 => ?_) (fun hc1 => ?_)
  · skip
    refine wp_seq ?_
    refine wp_region_lit ?_
    refine wl_v hF rfl rfl rfl (q_assign rfl (hF.eval rfl)) fun a hF => ?_
    refine wl_nil ?_
    refine k_n ?_
    refine wp_ret ?_
    refine k_r ?_
    refine b_r ?_
    refine k_r ?_
    refine b_r ?_
    refine r_1 hF rfl rfl ?_
    have hO := hO.drop1 2
    have hO := hO.pull 1 rfl
    have hO := hO.pull 2 rfl
    have hO := hO.pull 2 rfl
    have hO : St _ _ _ [_, _, _] := hO
    obtain ⟨g, rfl⟩ : ∃ g, f = g + 1 := ⟨f - 1, by omega⟩
    exact ⟨true, _, _, _, _, dd, rfl, hr.symm.trans (line_1 hc1), (fun h => by cases h), by omega, hO⟩
  · skip
    have hb0 : 0 ≤ blkF st st.length := by have := not_or.1 hc1; omega
    obtain ⟨b, hb⟩ := Int.eq_ofNat_of_zero_le hb0
    rw [hb] at hF hc1
    rw [Int.toNat_natCast] at hc1
    have hbl := blk_nat hb
    refine wp_skip ?_
    refine k_n ?_
    refine wp_seq ?_
    refine wp_seq ?_
    refine wp_region_lit ?_
    refine wl_v hF rfl rfl rfl (q_move rfl (hF.eval rfl)) fun a hF => ?_
    refine wl_v hF rfl rfl rfl (q_move rfl (hF.eval rfl)) fun a hF => ?_
    refine wl_v hF rfl rfl rfl (q_nilCheck rfl (hF.eval rfl)) fun a hF => ?_
    refine wl_v hF rfl rfl rfl (q_fieldAddr0 (d := 1) Tryd.underlying68 rfl (hF.eval rfl) rfl Tryd.sizeOf66 (by decide) rfl) fun a hF => ?_
    refine wl_v hF rfl rfl rfl (q_load Tryd.isAgg66 rfl (hF.eval rfl) (hO.cell 0 rfl rfl)) fun a hF => ?_
    refine wl_v hF rfl rfl rfl (q_move rfl (hF.eval rfl)) fun a hF => ?_
    refine wl_v hF rfl rfl rfl (q_at (i := b) (hO.rd 1 rfl) Tryd.underlying66 Tryd.sizeOf79 rfl (hF.eval rfl) (hF.eval rfl) (by omega)) fun a hF => ?_
    refine wl_v hF rfl rfl rfl (q_fieldAddr0 (d := 1) Tryd.underlying79 rfl (hF.eval rfl) rfl Tryd.sizeOf3 (by decide) rfl) fun a hF => ?_
    refine wl_v hF rfl rfl rfl (q_load Tryd.isAgg3 rfl (hF.eval rfl) (RdT.cells (hO.rdT 1 rfl) (get_D (d := thg0) hbl) _ _ rfl)) fun a hF => ?_
    refine wl_v hF rfl rfl rfl (q_eq rfl (hF.eval rfl) (hF.eval rfl)) fun a hF => ?_
    refine wl_v hF rfl rfl rfl (q_move rfl (hF.eval rfl)) fun a hF => ?_
    refine wl_g hF rfl rfl rfl rfl rfl rfl (fun hg => q_loadAgg Tryd.isAgg33 Tryd.sizeOf33 rfl (hF.eval rfl) (hO.cells 2 rfl) rfl) fun a hF => ?_
    refine wl_gk hO hF rfl rfl rfl rfl rfl rfl (fun hg => c_callG hF rfl rfl (by first | (simp only [gv_of hg]; done) | (simp only [gv_of hg]; rfl)) Tryd.call38 (word_r _ _)) fun a w hO hF => ?_
    refine wl_gk hO hF rfl rfl rfl rfl rfl rfl (fun hg => c_callG hF rfl rfl (by first | (simp only [gv_of hg]; done) | (simp only [gv_of hg]; rfl)) Tryd.call48 (closer_r _ _)) fun a w hO hF => ?_
    refine wl_v hF rfl rfl rfl (q_and rfl (hF.eval rfl) rfl (fun hg2 => ((hF.eval rfl).trans (gv_of hg2))) rfl) fun a hF => ?_
    refine wl_nil ?_
    refine k_n ?_
    refine wp_ifD hF rfl rfl (fun hc2 => ?_) (fun hc2 => ?_)
    · skip
      refine wp_seq ?_
      refine wp_region_lit ?_
      refine wl_v hF rfl rfl rfl (q_assign rfl (hF.eval rfl)) fun a hF => ?_
      refine wl_nil ?_
      refine k_n ?_
      refine wp_ret ?_
      refine k_r ?_
      refine b_r ?_
      refine k_r ?_
      refine b_r ?_
      refine r_1 hF rfl rfl ?_
      have hO := hO.drop1 2
      have hO := hO.pull 1 rfl
      have hO := hO.pull 2 rfl
      have hO := hO.pull 2 rfl
      have hO : St _ _ _ [_, _, _] := hO
      obtain ⟨g, rfl⟩ : ∃ g, f = g + 1 := ⟨f - 1, by omega⟩
      exact ⟨true, _, _, _, _, dd, rfl, hr.symm.trans (line_2 hb hc1 hc2), (fun h => by cases h), by omega, hO⟩
    · skip
      refine wp_skip ?_
      refine k_n ?_
      refine wp_seq ?_
      refine wp_seq ?_
      refine wp_region_lit ?_
      refine wl_v hF rfl rfl rfl (q_move rfl (hF.eval rfl)) fun a hF => ?_
      refine wl_v hF rfl rfl rfl (q_move rfl (hF.eval rfl)) fun a hF => ?_
      have hO := hO.pull 1 rfl
      have hO := hO.pull 1 rfl
      have hO : St _ _ _ [_, _, _, _] := hO
      refine wl_e hF rfl rfl rfl (c_call hF rfl rfl Tryd.call49 (only_r _ _ _ _ _ _ hO.own2 (by omega) _ (hbl))) ?_
      rintro a _ w ⟨rfl, hS⟩ hF
      have hO := hO.call2 hS
      have hO : St _ _ _ [_, _, _, _] := hO
      refine wl_v hF rfl rfl rfl (q_not rfl (hF.eval rfl) (dec_b _)) fun a hF => ?_
      refine wl_nil ?_
      refine k_n ?_
      refine wp_ifD hF rfl rfl (fun hc3 => ?_) (fun hc3 => ?_)
      · skip
        refine wp_seq ?_
        refine wp_region_lit ?_
        refine wl_v hF rfl rfl rfl (q_move rfl (hF.eval rfl)) fun a hF => ?_
        refine wl_v hF rfl rfl rfl (q_fieldAddr0 (d := 3) Tryd.underlying33 rfl (hF.eval rfl) rfl Tryd.sizeOf3 (by decide) rfl) fun a hF => ?_
        refine wl_v hF rfl rfl rfl (q_load Tryd.isAgg3 rfl (hF.eval rfl) (hO.cell 2 rfl rfl)) fun a hF => ?_
        refine wl_v hF rfl rfl rfl (q_fieldAddr0 (d := 4) Tryd.underlying33 rfl (hF.eval rfl) rfl Tryd.sizeOf3 (by decide) rfl) fun a hF => ?_
        refine wl_v hF rfl rfl rfl (q_load Tryd.isAgg3 rfl (hF.eval rfl) (hO.cell 2 rfl rfl)) fun a hF => ?_
        refine wl_v hF rfl rfl rfl (c_build hF Tryd.underlying25 Tryd.zeroValue25 Tryd_places25 rfl rfl rfl rfl) fun a hF => ?_
        refine wl_v hF rfl rfl rfl (q_nilCheck rfl (hF.eval rfl)) fun a hF => ?_
        refine wl_v hF rfl rfl rfl (q_fieldAddr0 (d := 2) Tryd.underlying68 rfl (hF.eval rfl) rfl Tryd.sizeOf25 (by decide) rfl) fun a hF => ?_
        refine wl_s hF rfl rfl (e_store (k := 2) hO (i := 0) rfl Tryd.sizeOf25 rfl (hF.eval rfl) (hF.eval rfl) rfl (Nat.le_of_ble_eq_true rfl) (all1 rfl)) ?_
        rintro a _ w ⟨-, hO⟩ hF
        have hO : St _ _ _ [_, _, _, _] := hO
        refine wl_nil ?_
        refine k_n ?_
        refine wp_seq ?_
        refine wp_region_lit ?_
        refine wl_v hF rfl rfl rfl (q_assign rfl (hF.eval rfl)) fun a hF => ?_
        refine wl_nil ?_
        refine k_n ?_
        refine wp_ret ?_
        refine k_r ?_
        refine b_r ?_
        refine k_r ?_
        refine b_r ?_
        refine r_1 hF rfl rfl ?_
        have hO := hO.drop1 2
        have hO := hO.pull 1 rfl
        have hO := hO.pull 2 rfl
        have hO := hO.pull 2 rfl
        have hO : St _ _ _ [_, _, _] := hO
        obtain ⟨g, rfl⟩ : ∃ g, f = g + 1 := ⟨f - 1, by omega⟩
        exact ⟨false, _, _, _, _, badD t, rfl, hr.symm.trans (line_3 hb hc1 hc2 hc3), (fun _ => rfl), by omega, hO⟩
      · skip
        refine wp_skip ?_
        refine k_n ?_
        refine wp_seq ?_
        refine wp_seq ?_
        refine wp_region_lit ?_
        refine wl_v hF rfl rfl rfl (q_move rfl (hF.eval rfl)) fun a hF => ?_
        refine wl_v hF rfl rfl rfl (q_move rfl (hF.eval rfl)) fun a hF => ?_
        refine wl_v hF rfl rfl rfl (q_nilCheck rfl (hF.eval rfl)) fun a hF => ?_
        refine wl_v hF rfl rfl rfl (q_fieldAddr0 (d := 1) Tryd.underlying68 rfl (hF.eval rfl) rfl Tryd.sizeOf66 (by decide) rfl) fun a hF => ?_
        refine wl_v hF rfl rfl rfl (q_load Tryd.isAgg66 rfl (hF.eval rfl) (hO.cell 0 rfl rfl)) fun a hF => ?_
        refine wl_v hF rfl rfl rfl (q_move rfl (hF.eval rfl)) fun a hF => ?_
        refine wl_v hF rfl rfl rfl (q_at (i := b) (hO.rd 1 rfl) Tryd.underlying66 Tryd.sizeOf79 rfl (hF.eval rfl) (hF.eval rfl) (by omega)) fun a hF => ?_
        refine wl_v hF rfl rfl rfl (q_fieldAddr0 (d := 1) Tryd.underlying79 rfl (hF.eval rfl) rfl Tryd.sizeOf3 (by decide) rfl) fun a hF => ?_
        refine wl_v hF rfl rfl rfl (q_load Tryd.isAgg3 rfl (hF.eval rfl) (RdT.cells (hO.rdT 1 rfl) (get_D (d := thg0) hbl) _ _ rfl)) fun a hF => ?_
        refine wl_v hF rfl rfl rfl (q_eq rfl (hF.eval rfl) (hF.eval rfl)) fun a hF => ?_
        refine wl_nil ?_
        refine k_n ?_
        refine wp_ifD hF rfl rfl (fun hc4 => ?_) (fun hc4 => ?_)
        · skip
          refine wp_seq ?_
          refine wp_region_lit ?_
          refine wl_v hF rfl rfl rfl (q_move rfl (hF.eval rfl)) fun a hF => ?_
          refine wl_v hF rfl rfl rfl (q_move rfl (hF.eval rfl)) fun a hF => ?_
          refine wl_v hF rfl rfl rfl (q_nilCheck rfl (hF.eval rfl)) fun a hF => ?_
          refine wl_v hF rfl rfl rfl (q_fieldAddr0 (d := 1) Tryd.underlying68 rfl (hF.eval rfl) rfl Tryd.sizeOf66 (by decide) rfl) fun a hF => ?_
          refine wl_v hF rfl rfl rfl (q_load Tryd.isAgg66 rfl (hF.eval rfl) (hO.cell 0 rfl rfl)) fun a hF => ?_
          refine wl_v hF rfl rfl rfl (q_move rfl (hF.eval rfl)) fun a hF => ?_
          refine wl_v hF rfl rfl rfl (q_add rfl (hF.eval rfl) (hF.eval rfl) (by omega)) fun a hF => ?_
          refine wl_v hF rfl rfl rfl (q_resl (j := b + 1) (hO.rd 1 rfl) Tryd.underlying66 Tryd.sizeOf79 rfl (hF.eval rfl) ((hF.eval rfl).trans (congrArg i64 (show (b : Int) + 1 = ((b + 1 : Nat) : Int) by omega))) (by omega)) fun a hF => ?_
          have hO := hO.reslT (i := 1) (j := b + 1) rfl (by omega)
          have hO : St _ _ _ [_, _, _, _] := hO
          refine wl_v hF rfl rfl rfl (q_nilCheck rfl (hF.eval rfl)) fun a hF => ?_
          refine wl_v hF rfl rfl rfl (q_fieldAddr0 (d := 1) Tryd.underlying68 rfl (hF.eval rfl) rfl Tryd.sizeOf66 (by decide) rfl) fun a hF => ?_
          refine wl_s hF rfl rfl (e_store1 hO (i := 0) rfl Tryd.sizeOf66 rfl (hF.eval rfl) (hF.eval rfl) (cells_one (hO.slOne 1 rfl)) rfl (hO.slOne 1 rfl)) ?_
          rintro a _ w ⟨-, hO⟩ hF
          have hO : St _ _ _ [_, _, _, _] := hO
          refine wl_nil ?_
          refine k_n ?_
          refine wp_seq ?_
          refine wp_region_lit ?_
          refine wl_v hF rfl rfl rfl (q_move rfl (hF.eval rfl)) fun a hF => ?_
          refine wl_v hF rfl rfl rfl (q_loadAgg Tryd.isAgg33 Tryd.sizeOf33 rfl (hF.eval rfl) (hO.cells 2 rfl) rfl) fun a hF => ?_
          have hO := hO.pull 3 rfl
          have hO := hO.pull 1 rfl
          have hO : St _ _ _ [_, _, _, _] := hO
          refine wl_e hF rfl rfl rfl (c_call hF rfl rfl Tryd.call39 (lay_r _ _ _ _ _ _ hO.own2 _ _ (by omega))) ?_
          rintro a _ w ⟨vo, rfl, hS⟩ hF
          have hO := hO.call2 hS
          have hO : St _ _ _ [_, _, _, _] := hO
          refine wl_nil ?_
          refine k_n ?_
          refine wp_seq ?_
          refine wp_region_lit ?_
          refine wl_v hF rfl rfl rfl (q_assign rfl (hF.eval rfl)) fun a hF => ?_
          refine wl_nil ?_
          refine k_n ?_
          refine wp_ret ?_
          refine k_r ?_
          refine b_r ?_
          refine k_r ?_
          refine b_r ?_
          refine r_1 hF rfl rfl ?_
          have hO := hO.drop1 3
          have hO : St _ _ _ [_, _, _] := hO
          obtain ⟨g, rfl⟩ : ∃ g, f = g + 1 := ⟨f - 1, by omega⟩
          exact ⟨true, _, _, _, _, dd, rfl, hr.symm.trans (line_4 hb hc1 hc2 hc3 hc4), (fun h => by cases h), by simp; omega, hO⟩
        · skip
          refine wp_skip ?_
          refine k_n ?_
          refine wp_seq ?_
          refine wp_region_lit ?_
          refine wl_v hF rfl rfl rfl (q_move rfl (hF.eval rfl)) fun a hF => ?_
          refine wl_v hF rfl rfl rfl (q_move rfl (hF.eval rfl)) fun a hF => ?_
          refine wl_v hF rfl rfl rfl (q_nilCheck rfl (hF.eval rfl)) fun a hF => ?_
          refine wl_v hF rfl rfl rfl (q_fieldAddr0 (d := 1) Tryd.underlying68 rfl (hF.eval rfl) rfl Tryd.sizeOf66 (by decide) rfl) fun a hF => ?_
          refine wl_v hF rfl rfl rfl (q_load Tryd.isAgg66 rfl (hF.eval rfl) (hO.cell 0 rfl rfl)) fun a hF => ?_
          refine wl_v hF rfl rfl rfl (q_move rfl (hF.eval rfl)) fun a hF => ?_
          refine wl_v hF rfl rfl rfl (q_resl (j := b) (hO.rd 1 rfl) Tryd.underlying66 Tryd.sizeOf79 rfl (hF.eval rfl) (hF.eval rfl) (by omega)) fun a hF => ?_
          have hO := hO.reslT (i := 1) (j := b) rfl (by omega)
          have hO : St _ _ _ [_, _, _, _] := hO
          refine wl_v hF rfl rfl rfl (q_nilCheck rfl (hF.eval rfl)) fun a hF => ?_
          refine wl_v hF rfl rfl rfl (q_fieldAddr0 (d := 1) Tryd.underlying68 rfl (hF.eval rfl) rfl Tryd.sizeOf66 (by decide) rfl) fun a hF => ?_
          refine wl_s hF rfl rfl (e_store1 hO (i := 0) rfl Tryd.sizeOf66 rfl (hF.eval rfl) (hF.eval rfl) (cells_one (hO.slOne 1 rfl)) rfl (hO.slOne 1 rfl)) ?_
          rintro a _ w ⟨-, hO⟩ hF
          have hO : St _ _ _ [_, _, _, _] := hO
          refine wl_nil ?_
          refine k_n ?_
          refine wp_region_lit ?_
          refine wl_v hF rfl rfl rfl (q_move rfl (hF.eval rfl)) fun a hF => ?_
          refine wl_v hF rfl rfl rfl (q_loadAgg Tryd.isAgg33 Tryd.sizeOf33 rfl (hF.eval rfl) (hO.cells 2 rfl) rfl) fun a hF => ?_
          have hO := hO.pull 3 rfl
          have hO := hO.pull 1 rfl
          have hO : St _ _ _ [_, _, _, _] := hO
          refine wl_e hF rfl rfl rfl (c_call hF rfl rfl Tryd.call39 (lay_r _ _ _ _ _ _ hO.own2 _ _ (by omega))) ?_
          rintro a _ w ⟨vo, rfl, hS⟩ hF
          have hO := hO.call2 hS
          have hO : St _ _ _ [_, _, _, _] := hO
          refine wl_nil ?_
          refine b_n ?_
          refine k_n ?_
          have hO := hO.pull 2 rfl
          have hO := hO.pull 2 rfl
          have hO := hO.pull 2 rfl
          have hO := hO.pull 3 rfl
          have hO : St _ _ _ [_, _, _, _] := hO
          obtain ⟨g, rfl⟩ : ∃ g, f = g + 1 := ⟨f - 1, by omega⟩
          exact ⟨(g, out ++ [laidT [125] t], st.take b, _, _), ⟨⟨(line_5 hb hc1 hc2 hc3 hc4).symm.trans hr, by rw [List.length_take]; omega, by simp; omega⟩, hO, hF.sub ⟨rfl, rfl, rfl, trivial⟩⟩, by dsimp only; omega⟩

end Go.Proofs.YtnnagjbkpmkelaaDoor
