import Derived.Test.YtnnagjbkpmkelaaDoorRh
import Derived.Test.YtnnagjbkpmkelaaDoorPl2
import Derived.Test.YtnnagjbkpmkelaaDoorGw9
namespace Go.Proofs.YtnnagjbkpmkelaaDoor
open Go
set_option maxRecDepth 100000

theorem of_gf {p : Prop} {_ : Decidable p} (h : isB (.bool (decide p)) true = false) : ¬ p := by simpa [isB] using h
theorem closes_r2 (w0 : World) (bs : Nat) (vo0 vs0 : Value) (out0 : List Tok) (st0 : List Thg) (dd : Diag) (hA : Owns w0 [.ob bs 68 (vo0 :: vs0 :: diagCells dd), slT vo0 33 tokE out0, slT vs0 79 thgE st0]) (hn : out0.length + st0.length ≤ 1000000000000)  (t : Tok) : Ret Tryd.prog 47 #[ptr (adr bs), .agg (tokE.cells t).toArray] w0 (fun v w' => ∃ (vo vs : Value) (out : List Tok) (st : List Thg), v = .tuple #[] ∧ closF t out0 st0 = (out, st) ∧ out.length + st.length ≤ out0.length + st0.length ∧ St w0 (blks [.ob bs 68 (vo0 :: vs0 :: diagCells dd), slT vo0 33 tokE out0, slT vs0 79 thgE st0]) w' [.ob bs 68 (vo :: vs :: diagCells dd), slT vo 33 tokE out, slT vs 79 thgE st]) :=
  (closes_r w0 bs vo0 vs0 out0 st0 dd hA hn t).mono fun v w' ⟨vo, vs, out, st, h1, h2, hS⟩ => ⟨vo, vs, out, st, h1, h2, by have := clos_len t out0 st0; rw [h2] at this; exact this, hS⟩
section
variable {t ahead : Tok} {first p : Bool} {out0 o o2 o3 : List Tok} {st0 s s2 s3 : List Thg} {m : Int}
theorem open_yes (hm : m = (if 0 ≤ blkF st0 st0.length then (st0.getD (blkF st0 st0.length).toNat thg0).col else 0)) (h : m < t.col) : openF t out0 st0 = (out0 ++ [laidT [123] t], st0 ++ [⟨[], t.col⟩], true) := by
  unfold openF; simp only []; rw [← hm, if_pos h]
theorem open_no (hm : m = (if 0 ≤ blkF st0 st0.length then (st0.getD (blkF st0 st0.length).toNat thg0).col else 0)) (h : ¬ m < t.col) : openF t out0 st0 = (out0 ++ [laidT [123] t] ++ [laidT [125] t], st0, false) := by
  unfold openF; simp only []; rw [← hm, if_neg h]
theorem tok_1 (h1 : openP (wordF ahead)) (h2 : wordF t = [123]) : tokF t ahead first out0 st0 = some (out0 ++ [t], st0 ++ [⟨[123, 125], 0⟩]) := by unfold tokF; rw [if_pos ⟨h1, h2⟩]
variable (hno : ¬ (openP (wordF ahead) ∧ wordF t = [123])) (ho : (if openP (wordF ahead) then openF t out0 st0 else (out0, st0, false)) = (o, s, p))
include hno ho
theorem tok_bad (hl : (if first = true ∧ p = false then lineF t t.col (s.length + 1) o s else some (o, s)) = none) : tokF t ahead first out0 st0 = none := by
  unfold tokF; rw [if_neg hno]; simp only [ho]; rw [hl]
theorem tok_ok (hl : (if first = true ∧ p = false then lineF t t.col (s.length + 1) o s else some (o, s)) = some (o2, s2)) (hc : closF t o2 s2 = (o3, s3)) :
    tokF t ahead first out0 st0 = some (o3 ++ [t], if markP (wordF t) then s3 ++ [⟨wordF t, 0⟩] else s3) := by
  unfold tokF; rw [if_neg hno]; simp only [ho]; rw [hl]; simp only [hc]
end
set_option maxHeartbeats 2000000 in
theorem token_r (w0 : World) (bs : Nat) (vo0 vs0 : Value) (out0 : List Tok) (st0 : List Thg) (dd : Diag) (hA : Owns w0 [.ob bs 68 (vo0 :: vs0 :: diagCells dd), slT vo0 33 tokE out0, slT vs0 79 thgE st0]) (hn : out0.length + st0.length ≤ 900000000000) (t ahead : Tok) (first : Bool) : Ret Tryd.prog 36 #[ptr (adr bs), .agg (tokE.cells t).toArray, .agg (tokE.cells ahead).toArray, .bool first] w0 (fun v w' => ∃ (ok : Bool) (vo vs : Value) (out : List Tok) (st : List Thg) (d : Diag), v = .bool ok ∧ tokF t ahead first out0 st0 = (if ok = true then some (out, st) else none) ∧ (ok = false → d = badD t) ∧ out.length + st.length ≤ out0.length + st0.length + 6 ∧ St w0 (blks [.ob bs 68 (vo0 :: vs0 :: diagCells dd), slT vo0 33 tokE out0, slT vs0 79 thgE st0]) w' [.ob bs 68 (vo :: vs :: diagCells d), slT vo 33 tokE out, slT vs 79 thgE st]) := by
  have hO := St.init hA
  refine ret_of (m := 134) Tryd.func36 rfl Tryd.ntmps36 [(0, ptr (adr bs)), (1, .agg (tokE.cells t).toArray), (2, .agg (tokE.cells ahead).toArray), (3, .bool first)] rfl ⟨rfl, rfl, rfl, rfl, trivial⟩ fun a hF => ?_
  refine wp_seq ?_
  refine wp_region_lit ?_
  refine wl_e hF rfl rfl rfl (e_box hO rfl (hF.eval rfl) rfl) ?_
  rintro a _ w ⟨tt, rfl, hO⟩ hF
  refine wl_e hF rfl rfl rfl (e_box hO rfl (hF.eval rfl) rfl) ?_
  rintro a _ w ⟨ta, rfl, hO⟩ hF
  refine wl_v hF rfl rfl rfl (q_assign rfl (hF.eval rfl)) fun a hF => ?_
  refine wl_nil ?_
  refine k_n ?_
  refine wp_seq ?_
  refine wp_region_lit ?_
  refine wl_v hF rfl rfl rfl (q_assign rfl (hF.eval rfl)) fun a hF => ?_
  refine wl_nil ?_
  refine k_n ?_
  refine wp_seqJ (fun (x : List Tok × List Thg × Bool × Value × Value) a w' => match x with | (out, st, p, vo, vs) => ((if openP (wordF ahead) then openF t out0 st0 else (out0, st0, false)) = (out, st, p) ∧ ¬ (openP (wordF ahead) ∧ wordF t = [123]) ∧ out.length + st.length ≤ out0.length + st0.length + 2) ∧ St w0 (blks [.ob bs 68 (vo0 :: vs0 :: diagCells dd), slT vo0 33 tokE out0, slT vs0 79 thgE st0]) w' [.ob tt 33 (tokE.cells t), .ob bs 68 (vo :: vs :: diagCells dd), slT vo 33 tokE out, slT vs 79 thgE st] ∧ Fr a 134 [(0, ptr (adr bs)), (3, .bool first), (5, ptr (adr tt)), (9, .bool p)]) ?_ ?_
  · skip
    refine wp_seq ?_
    refine wp_region_lit ?_
    refine wl_v hF rfl rfl rfl (q_loadAgg Tryd.isAgg33 Tryd.sizeOf33 rfl (hF.eval rfl) (hO.cells 0 rfl) rfl) fun a hF => ?_
    refine wl_e hF rfl rfl rfl (c_call hF rfl rfl Tryd.call38 (word_r _ _)) ?_
    rintro a _ w ⟨rfl, hS⟩ hF
    have hO := hO.call0 hS
    have hO : St _ _ _ [_, _, _, _, _] := hO
    refine wl_e hF rfl rfl rfl (c_call hF rfl rfl Tryd.call37 (opener_r _ _)) ?_
    rintro a _ w ⟨rfl, hS⟩ hF
    have hO := hO.call0 hS
    have hO : St _ _ _ [_, _, _, _, _] := hO
    refine wl_nil ?_
    refine k_n ?_
    refine wp_ifD hF rfl rfl (fun hc1 => ?_) (fun hc1 => ?_)
    · skip
      refine wp_seq ?_
      refine wp_seq ?_
      refine wp_region_lit ?_
      refine wl_v hF rfl rfl rfl (q_loadAgg Tryd.isAgg33 Tryd.sizeOf33 rfl (hF.eval rfl) (hO.cells 1 rfl) rfl) fun a hF => ?_
      refine wl_e hF rfl rfl rfl (c_call hF rfl rfl Tryd.call38 (word_r _ _)) ?_
      rintro a _ w ⟨rfl, hS⟩ hF
      have hO := hO.call0 hS
      have hO : St _ _ _ [_, _, _, _, _] := hO
      refine wl_v hF rfl rfl rfl (q_seq rfl (hF.eval rfl) (hF.eval rfl)) fun a hF => ?_
      refine wl_nil ?_
      refine k_n ?_
      refine wp_ifD hF rfl rfl (fun hc2 => ?_) (fun hc2 => ?_)
      · skip
        refine wp_seq ?_
        refine wp_region_lit ?_
        refine wl_v hF rfl rfl rfl (q_move rfl (hF.eval rfl)) fun a hF => ?_
        refine wl_v hF rfl rfl rfl (q_move rfl (hF.eval rfl)) fun a hF => ?_
        refine wl_v hF rfl rfl rfl (q_nilCheck rfl (hF.eval rfl)) fun a hF => ?_
        refine wl_v hF rfl rfl rfl (q_fieldAddr0 (d := 1) Tryd.underlying68 rfl (hF.eval rfl) rfl Tryd.sizeOf66 (by decide) rfl) fun a hF => ?_
        refine wl_v hF rfl rfl rfl (q_load Tryd.isAgg66 rfl (hF.eval rfl) (hO.cell 2 rfl rfl)) fun a hF => ?_
        refine wl_v hF rfl rfl rfl (c_build hF Tryd.underlying79 Tryd.zeroValue79 Tryd_places79 rfl rfl rfl rfl) fun a hF => ?_
        refine wl_e hF rfl rfl rfl (c_buildSlice hF hO Tryd.underlying66 Tryd.sizeOf79 Tryd.zeroValue79 rfl rfl rfl rfl rfl rfl rfl) ?_
        rintro a _ w ⟨b1, rfl, hO⟩ hF
        refine wl_e hF rfl rfl rfl (e_appendT (bytes := 24) (r := [⟨[123, 125], 0⟩]) hO (i := 5) rfl (hO.rd 0 rfl) Tryd.underlying66 Tryd_info79 rfl rfl rfl rfl rfl rfl (hF.eval rfl) (hF.eval rfl) (by show (List.length _ + 1) * 24 ≤ _; omega) (by show List.length _ + 1 ≤ _; omega)) ?_
        rintro a v26 w hO hF
        have hO : St _ _ _ [_, _, _, _, _, _] := hO
        refine wl_v hF rfl rfl rfl (q_nilCheck rfl (hF.eval rfl)) fun a hF => ?_
        refine wl_v hF rfl rfl rfl (q_fieldAddr0 (d := 1) Tryd.underlying68 rfl (hF.eval rfl) rfl Tryd.sizeOf66 (by decide) rfl) fun a hF => ?_
        refine wl_s hF rfl rfl (e_store1 hO (i := 3) rfl Tryd.sizeOf66 rfl (hF.eval rfl) (hF.eval rfl) (cells_one (hO.slOne 5 rfl)) rfl (hO.slOne 5 rfl)) ?_
        rintro a _ w ⟨-, hO⟩ hF
        have hO : St _ _ _ [_, _, _, _, _, _] := hO
        refine wl_nil ?_
        refine k_n ?_
        refine wp_seq ?_
        have hO := hO.drew
        refine wp_region_D [0, 0, 0, 0, 1, 1, 2, 3, 0, 0, 3] (fun w => St _ _ w _) Tryd_mixed (by kernel_rfl) hO ?_
        refine wd_p hF rfl rfl rfl (fun w => q_move rfl (hF.eval rfl)) fun a hF => ?_
        refine wd_p hF rfl rfl rfl (fun w => q_move rfl (hF.eval rfl)) fun a hF => ?_
        refine wd_p hF rfl rfl rfl (fun w => q_nilCheck rfl (hF.eval rfl)) fun a hF => ?_
        refine wd_p hF rfl rfl rfl (fun w => q_fieldAddr0 (d := 0) Tryd.underlying68 rfl (hF.eval rfl) rfl Tryd.sizeOf22 (by decide) rfl) fun a hF => ?_
        refine wd_r hF rfl rfl rfl (fun w hO => q_load Tryd.isAgg22 rfl (hF.eval rfl) (hO.cell 3 rfl rfl)) fun a hF => ?_
        refine wd_r hF rfl rfl rfl (fun w hO => q_loadAgg Tryd.isAgg33 Tryd.sizeOf33 rfl (hF.eval rfl) (hO.cells 2 rfl) rfl) fun a hF => ?_
        refine wd_e hF rfl rfl rfl (c_buildSlice hF hO Tryd.underlying22 Tryd.sizeOf33 Tryd.zeroValue33 rfl rfl rfl rfl rfl rfl rfl) (fun _ _ ⟨_, _, hO⟩ => hO.tail) ?_
        rintro a _ w ⟨b2, rfl, hO⟩ hF
        refine wd_f hF rfl rfl rfl (e_appendT (bytes := 48) (r := [t]) hO (i := 5) rfl (hO.rd 0 rfl) Tryd.underlying22 Tryd_info33 rfl rfl rfl rfl rfl rfl (hF.eval rfl) (hF.eval rfl) (by show (List.length _ + 1) * 48 ≤ _; omega) (by show List.length _ + 1 ≤ _; omega)) ?_
        rintro a v36 w hO hF
        have hO : St _ _ _ [_, _, _, _, _, _, _] := hO
        refine wd_p hF rfl rfl rfl (fun w => q_nilCheck rfl (hF.eval rfl)) fun a hF => ?_
        refine wd_p hF rfl rfl rfl (fun w => q_fieldAddr0 (d := 0) Tryd.underlying68 rfl (hF.eval rfl) rfl Tryd.sizeOf22 (by decide) rfl) fun a hF => ?_
        refine wd_s hF rfl rfl (e_store1 hO (i := 4) rfl Tryd.sizeOf22 rfl (hF.eval rfl) (hF.eval rfl) (cells_one (hO.slOne 5 rfl)) rfl (hO.slOne 5 rfl)) ?_
        rintro a _ w ⟨-, hO⟩ hF
        have hO : St _ _ _ [_, _, _, _, _, _, _] := hO
        refine wd_nil ?_
        refine k_n ?_
        refine wp_seq ?_
        refine wp_region_lit ?_
        refine wl_v hF rfl rfl rfl (q_assign rfl (hF.eval rfl)) fun a hF => ?_
        refine wl_nil ?_
        refine k_n ?_
        refine wp_ret ?_
        refine k_r ?_
        refine k_r ?_
        refine r_1 hF rfl rfl ?_
        have hO := hO.drop1 0
        have hO := hO.drop1 0
        have hO := hO.drop1 0
        have hO := hO.drop1 0
        have hO : St _ _ _ [_, _, _] := hO
        exact ⟨true, _, _, _, _, dd, rfl, tok_1 hc1 hc2, (fun h => by cases h), by simp; omega, hO⟩
      · skip
        refine wp_skip ?_
        refine k_n ?_
        refine wp_seq ?_
        refine wp_region_lit ?_
        refine wl_v hF rfl rfl rfl (q_assign rfl (hF.eval rfl)) fun a hF => ?_
        refine wl_nil ?_
        refine k_n ?_
        refine wp_seq ?_
        refine wp_region_lit ?_
        refine wl_v hF rfl rfl rfl (q_move rfl (hF.eval rfl)) fun a hF => ?_
        have hO := hO.pull 4 rfl
        have hO := hO.pull 3 rfl
        have hO : St _ _ _ [_, _, _, _, _] := hO
        refine wl_e hF rfl rfl rfl (c_call hF rfl rfl Tryd.call46 (block_r _ _ _ _ _ _ hO.own2 (by omega))) ?_
        rintro a _ w ⟨rfl, hS⟩ hF
        have hO := hO.call2 hS
        have hO : St _ _ _ [_, _, _, _, _] := hO
        refine wl_v hF rfl rfl rfl (q_assign rfl (hF.eval rfl)) fun a hF => ?_
        refine wl_nil ?_
        refine k_n ?_
        refine wp_seqJ (fun (m : Int) a w' => (m = (if 0 ≤ blkF st0 st0.length then (st0.getD (blkF st0 st0.length).toNat thg0).col else 0)) ∧ St w0 (blks [.ob bs 68 (vo0 :: vs0 :: diagCells dd), slT vo0 33 tokE out0, slT vs0 79 thgE st0]) w' [.ob tt 33 (tokE.cells t), .ob ta 33 (tokE.cells ahead), .ob bs 68 (vo0 :: vs0 :: diagCells dd), slT vo0 33 tokE out0, slT vs0 79 thgE st0] ∧ Fr a 134 [(0, ptr (adr bs)), (3, .bool first), (5, ptr (adr tt)), (6, ptr (adr ta)), (9, .bool false), (10, i64 m)]) ?_ ?_
        · skip
          refine wp_seq ?_
          refine wp_region_lit ?_
          refine wl_v hF rfl rfl rfl (q_move rfl (hF.eval rfl)) fun a hF => ?_
          refine wl_v hF rfl rfl rfl (q_ge rfl (hF.eval rfl) (hF.eval rfl)) fun a hF => ?_
          refine wl_nil ?_
          refine k_n ?_
          refine wp_ifD hF rfl rfl (fun hc3 => ?_) (fun hc3 => ?_)
          · skip
            refine wp_region_lit ?_
            refine wl_v hF rfl rfl rfl (q_move rfl (hF.eval rfl)) fun a hF => ?_
            refine wl_v hF rfl rfl rfl (q_nilCheck rfl (hF.eval rfl)) fun a hF => ?_
            refine wl_v hF rfl rfl rfl (q_fieldAddr0 (d := 1) Tryd.underlying68 rfl (hF.eval rfl) rfl Tryd.sizeOf66 (by decide) rfl) fun a hF => ?_
            refine wl_v hF rfl rfl rfl (q_load Tryd.isAgg66 rfl (hF.eval rfl) (hO.cell 0 rfl rfl)) fun a hF => ?_
            refine wl_v hF rfl rfl rfl (q_move rfl (hF.eval rfl)) fun a hF => ?_
            refine wl_v hF rfl rfl rfl (q_at (i := (blkF st0 st0.length).toNat) (hO.rd 1 rfl) Tryd.underlying66 Tryd.sizeOf79 rfl (hF.eval rfl) ((hF.eval rfl).trans (congrArg i64 ((Int.toNat_of_nonneg hc3).symm))) (blk_nat (Int.toNat_of_nonneg hc3).symm)) fun a hF => ?_
            refine wl_v hF rfl rfl rfl (q_fieldAddr0 (d := 1) Tryd.underlying79 rfl (hF.eval rfl) rfl Tryd.sizeOf3 (by decide) rfl) fun a hF => ?_
            refine wl_v hF rfl rfl rfl (q_load Tryd.isAgg3 rfl (hF.eval rfl) (RdT.cells (hO.rdT 1 rfl) (get_D (d := thg0) (blk_nat (Int.toNat_of_nonneg hc3).symm)) _ _ rfl)) fun a hF => ?_
            refine wl_v hF rfl rfl rfl (q_assign rfl (hF.eval rfl)) fun a hF => ?_
            refine wl_nil ?_
            refine k_n ?_
            have hO := hO.pull 1 rfl
            have hO := hO.pull 4 rfl
            have hO := hO.pull 2 rfl
            have hO := hO.pull 3 rfl
            have hO := hO.pull 4 rfl
            have hO : St _ _ _ [_, _, _, _, _] := hO
            exact ⟨_, ⟨(if_pos hc3).symm, hO, hF.sub ⟨rfl, rfl, rfl, rfl, rfl, rfl, trivial⟩⟩⟩
          · skip
            refine wp_skip ?_
            refine k_n ?_
            have hO := hO.pull 1 rfl
            have hO := hO.pull 4 rfl
            have hO := hO.pull 2 rfl
            have hO := hO.pull 3 rfl
            have hO := hO.pull 4 rfl
            have hO : St _ _ _ [_, _, _, _, _] := hO
            exact ⟨0, ⟨(if_neg hc3).symm, hO, hF.sub ⟨rfl, rfl, rfl, rfl, rfl, rfl, trivial⟩⟩⟩
        · skip
          rintro m a w ⟨hm, hO, hF⟩
          refine wp_seq ?_
          refine wp_region_lit ?_
          refine wl_v hF rfl rfl rfl (q_move rfl (hF.eval rfl)) fun a hF => ?_
          refine wl_v hF rfl rfl rfl (q_loadAgg Tryd.isAgg33 Tryd.sizeOf33 rfl (hF.eval rfl) (hO.cells 0 rfl) rfl) fun a hF => ?_
          have hO := hO.pull 3 rfl
          have hO := hO.pull 3 rfl
          have hO : St _ _ _ [_, _, _, _, _] := hO
          refine wl_e hF rfl rfl rfl (c_call hF rfl rfl Tryd.call39 (lay_r _ _ _ _ _ _ hO.own2 _ _ (by omega))) ?_
          rintro a _ w ⟨vo, rfl, hS⟩ hF
          have hO := hO.call2 hS
          have hO : St _ _ _ [_, _, _, _, _] := hO
          refine wl_nil ?_
          refine k_n ?_
          refine wp_seq ?_
          refine wp_region_lit ?_
          refine wl_v hF rfl rfl rfl (q_fieldAddr0 (d := 4) Tryd.underlying33 rfl (hF.eval rfl) rfl Tryd.sizeOf3 (by decide) rfl) fun a hF => ?_
          refine wl_v hF rfl rfl rfl (q_load Tryd.isAgg3 rfl (hF.eval rfl) (hO.cell 2 rfl rfl)) fun a hF => ?_
          refine wl_v hF rfl rfl rfl (q_move rfl (hF.eval rfl)) fun a hF => ?_
          refine wl_v hF rfl rfl rfl (q_gt rfl (hF.eval rfl) (hF.eval rfl)) fun a hF => ?_
          refine wl_nil ?_
          refine k_n ?_
          refine wp_ifD hF rfl rfl (fun hc4 => ?_) (fun hc4 => ?_)
          · skip
            refine wp_seq ?_
            have hO := hO.drew
            refine wp_region_D [0, 0, 0, 0, 1, 0, 1, 0, 2, 3, 0, 0, 3] (fun w => St _ _ w _) Tryd_mixed (by kernel_rfl) hO ?_
            refine wd_p hF rfl rfl rfl (fun w => q_move rfl (hF.eval rfl)) fun a hF => ?_
            refine wd_p hF rfl rfl rfl (fun w => q_move rfl (hF.eval rfl)) fun a hF => ?_
            refine wd_p hF rfl rfl rfl (fun w => q_nilCheck rfl (hF.eval rfl)) fun a hF => ?_
            refine wd_p hF rfl rfl rfl (fun w => q_fieldAddr0 (d := 1) Tryd.underlying68 rfl (hF.eval rfl) rfl Tryd.sizeOf66 (by decide) rfl) fun a hF => ?_
            refine wd_r hF rfl rfl rfl (fun w hO => q_load Tryd.isAgg66 rfl (hF.eval rfl) (hO.cell 0 rfl rfl)) fun a hF => ?_
            refine wd_p hF rfl rfl rfl (fun w => q_fieldAddr0 (d := 4) Tryd.underlying33 rfl (hF.eval rfl) rfl Tryd.sizeOf3 (by decide) rfl) fun a hF => ?_
            refine wd_r hF rfl rfl rfl (fun w hO => q_load Tryd.isAgg3 rfl (hF.eval rfl) (hO.cell 2 rfl rfl)) fun a hF => ?_
            refine wd_p hF rfl rfl rfl (fun w => c_build hF Tryd.underlying79 Tryd.zeroValue79 Tryd_places79 rfl rfl rfl rfl) fun a hF => ?_
            refine wd_e hF rfl rfl rfl (c_buildSlice hF hO Tryd.underlying66 Tryd.sizeOf79 Tryd.zeroValue79 rfl rfl rfl rfl rfl rfl rfl) (fun _ _ ⟨_, _, hO⟩ => hO.tail) ?_
            rintro a _ w ⟨b3, rfl, hO⟩ hF
            refine wd_f hF rfl rfl rfl (e_appendT (bytes := 24) (r := [⟨[], t.col⟩]) hO (i := 5) rfl (hO.rd 0 rfl) Tryd.underlying66 Tryd_info79 rfl rfl rfl rfl rfl rfl (hF.eval rfl) (hF.eval rfl) (by show (List.length _ + 1) * 24 ≤ _; omega) (by show List.length _ + 1 ≤ _; omega)) ?_
            rintro a v67 w hO hF
            have hO : St _ _ _ [_, _, _, _, _, _] := hO
            refine wd_p hF rfl rfl rfl (fun w => q_nilCheck rfl (hF.eval rfl)) fun a hF => ?_
            refine wd_p hF rfl rfl rfl (fun w => q_fieldAddr0 (d := 1) Tryd.underlying68 rfl (hF.eval rfl) rfl Tryd.sizeOf66 (by decide) rfl) fun a hF => ?_
            refine wd_s hF rfl rfl (e_store1 hO (i := 1) rfl Tryd.sizeOf66 rfl (hF.eval rfl) (hF.eval rfl) (cells_one (hO.slOne 5 rfl)) rfl (hO.slOne 5 rfl)) ?_
            rintro a _ w ⟨-, hO⟩ hF
            have hO : St _ _ _ [_, _, _, _, _, _] := hO
            refine wd_nil ?_
            refine k_n ?_
            refine wp_region_lit ?_
            refine wl_v hF rfl rfl rfl (q_assign rfl (hF.eval rfl)) fun a hF => ?_
            refine wl_nil ?_
            refine k_n ?_
            have hO := hO.drop1 0
            have hO := hO.drop1 3
            have hO := hO.pull 3 rfl
            have hO := hO.pull 2 rfl
            have hO := hO.pull 2 rfl
            have hO := hO.pull 3 rfl
            have hO : St _ _ _ [_, _, _, _] := hO
            exact ⟨(_, _, true, _, _), ⟨⟨(if_pos hc1).trans (open_yes hm hc4), fun h => hc2 h.2, by simp; omega⟩, hO, hF.sub ⟨rfl, rfl, rfl, rfl, trivial⟩⟩⟩
          · skip
            refine wp_region_lit ?_
            refine wl_v hF rfl rfl rfl (q_move rfl (hF.eval rfl)) fun a hF => ?_
            refine wl_v hF rfl rfl rfl (q_loadAgg Tryd.isAgg33 Tryd.sizeOf33 rfl (hF.eval rfl) (hO.cells 2 rfl) rfl) fun a hF => ?_
            have hO := hO.pull 1 rfl
            have hO := hO.pull 1 rfl
            have hO : St _ _ _ [_, _, _, _, _] := hO
            refine wl_e hF rfl rfl rfl (c_call hF rfl rfl Tryd.call39 (lay_r _ _ _ _ _ _ hO.own2 _ _ (by simp; omega))) ?_
            rintro a _ w ⟨vo, rfl, hS⟩ hF
            have hO := hO.call2 hS
            have hO : St _ _ _ [_, _, _, _, _] := hO
            refine wl_nil ?_
            refine k_n ?_
            have hO := hO.drop1 3
            have hO := hO.pull 3 rfl
            have hO := hO.pull 2 rfl
            have hO := hO.pull 2 rfl
            have hO := hO.pull 3 rfl
            have hO : St _ _ _ [_, _, _, _] := hO
            exact ⟨(_, _, false, _, _), ⟨⟨(if_pos hc1).trans (open_no hm hc4), fun h => hc2 h.2, by simp; omega⟩, hO, hF.sub ⟨rfl, rfl, rfl, rfl, trivial⟩⟩⟩
    · skip
      refine wp_skip ?_
      refine k_n ?_
      have hO := hO.drop1 0
      have hO : St _ _ _ [_, _, _, _] := hO
      exact ⟨(_, _, false, _, _), ⟨⟨if_neg hc1, fun h => hc1 h.1, by omega⟩, hO, hF.sub ⟨rfl, rfl, rfl, rfl, trivial⟩⟩⟩
  · skip
    rintro ⟨out, st, p, vo, vs⟩ a w ⟨⟨hop, hno, hlp0⟩, hO, hF⟩
    refine wp_seq ?_
    refine wp_seq ?_
    refine wp_region_lit ?_
    refine wl_v hF rfl rfl rfl (q_move rfl (hF.eval rfl)) fun a hF => ?_
    refine wl_v hF rfl rfl rfl (q_move rfl (hF.eval rfl)) fun a hF => ?_
    refine wl_g hF rfl rfl rfl rfl rfl rfl (fun hg => q_move rfl (hF.eval rfl)) fun a hF => ?_
    refine wl_g hF rfl rfl rfl rfl rfl rfl (fun hg => q_not rfl ((hF.eval rfl).trans (gv_of hg)) (dec_b _)) fun a hF => ?_
    refine wl_v hF rfl rfl rfl (q_and rfl (hF.eval rfl) (dec_b _) (fun hg2 => ((hF.eval rfl).trans (gv_of hg2))) rfl) fun a hF => ?_
    refine wl_v hF rfl rfl rfl (q_move rfl (hF.eval rfl)) fun a hF => ?_
    refine wl_g hF rfl rfl rfl rfl rfl rfl (fun hg => q_move rfl (hF.eval rfl)) fun a hF => ?_
    refine wl_g hF rfl rfl rfl rfl rfl rfl (fun hg => q_loadAgg Tryd.isAgg33 Tryd.sizeOf33 rfl (hF.eval rfl) (hO.cells 0 rfl) rfl) fun a hF => ?_
    refine wl_g hF rfl rfl rfl rfl rfl rfl (fun hg => q_fieldAddr0 (d := 4) Tryd.underlying33 rfl (hF.eval rfl) rfl Tryd.sizeOf3 (by decide) rfl) fun a hF => ?_
    refine wl_g hF rfl rfl rfl rfl rfl rfl (fun hg => q_load Tryd.isAgg3 rfl ((hF.eval rfl).trans (gv_of hg)) (hO.cell 0 rfl rfl)) fun a hF => ?_
    have hO := hO.pull 3 rfl
    have hO := hO.pull 3 rfl
    have hO := hO.pull 3 rfl
    have hO : St _ _ _ [_, _, _, _] := hO
    refine wl_gS (fun (x : Bool × List Tok × List Thg × Diag × Value × Value) u w' => match x with | (ok, out2, st2, d, vo, vs) => u = .bool ok ∧ (if first = true ∧ p = false then lineF t t.col (st.length + 1) out st else some (out, st)) = (if ok = true then some (out2, st2) else none) ∧ (ok = false → d = badD t) ∧ out2.length + st2.length ≤ out.length + st.length + 1 ∧ St w0 (blks [.ob bs 68 (vo0 :: vs0 :: diagCells dd), slT vo0 33 tokE out0, slT vs0 79 thgE st0]) w' [.ob bs 68 (vo :: vs :: diagCells d), slT vo 33 tokE out2, slT vs 79 thgE st2, .ob tt 33 (tokE.cells t)]) hF rfl rfl rfl rfl rfl rfl (fun hg => Eff.mono (c_callG hF rfl rfl (by first | (simp only [gv_of hg]; done) | (simp only [gv_of hg]; rfl)) Tryd.call40 (line_r _ _ _ _ _ _ _ hO.own3 (by omega) _ _)) ?_) (fun hg => ?_) ?_
    · skip
      rintro u w' ⟨ok, vo, vs, out2, st2, d, rfl, h1, h2, h3, hS⟩
      exact ⟨(ok, out2, st2, d, vo, vs), rfl, by rw [if_pos ⟨(of_g hg).1, by simpa using (of_g hg).2⟩]; exact h1, h2, h3, hO.call3 hS⟩
    · skip
      exact ⟨(true, out, st, dd, vo, vs), _, rfl, if_neg (fun h => of_gf hg ⟨h.1, by simp [h.2]⟩), (fun h => by cases h), by omega, hO⟩
    rintro ⟨ok, out2, st2, dd2, vo, vs⟩ u a w ⟨rfl, hln, hbad, hlp, hO⟩ hF
    refine wl_g hF rfl rfl rfl rfl rfl rfl (fun hg => q_not rfl ((hF.eval rfl).trans (gv_of hg)) (dec_b _)) fun a hF => ?_
    refine wl_v hF rfl rfl rfl (q_and rfl (hF.eval rfl) rfl (fun hg2 => ((hF.eval rfl).trans (gv_of hg2))) rfl) fun a hF => ?_
    refine wl_nil ?_
    refine k_n ?_
    refine wp_ifD hF rfl rfl (fun hc5 => ?_) (fun hc5 => ?_)
    · skip
      obtain rfl : ok = false := by simpa using hc5.2
      refine wp_seq ?_
      refine wp_region_lit ?_
      refine wl_v hF rfl rfl rfl (q_assign rfl (hF.eval rfl)) fun a hF => ?_
      refine wl_nil ?_
      refine k_n ?_
      refine wp_ret ?_
      refine k_r ?_
      refine r_1 hF rfl rfl ?_
      have hO := hO.drop1 3
      have hO : St _ _ _ [_, _, _] := hO
      exact ⟨false, _, _, _, _, dd2, rfl, tok_bad hno hop hln, hbad, by omega, hO⟩
    · skip
      obtain rfl : ok = true := by
        cases ok with
        | true => rfl
        | false =>
          by_cases hfp : first = true ∧ p = false
          · exact absurd ⟨⟨hfp.1, by simp [hfp.2]⟩, by simp⟩ hc5
          · rw [if_neg hfp] at hln; simp at hln
      replace hln := hln.trans (if_pos rfl)
      refine wp_skip ?_
      refine k_n ?_
      refine wp_seq ?_
      refine wp_region_lit ?_
      refine wl_v hF rfl rfl rfl (q_move rfl (hF.eval rfl)) fun a hF => ?_
      refine wl_v hF rfl rfl rfl (q_loadAgg Tryd.isAgg33 Tryd.sizeOf33 rfl (hF.eval rfl) (hO.cells 3 rfl) rfl) fun a hF => ?_
      have hO := hO.pull 2 rfl
      have hO := hO.pull 2 rfl
      have hO := hO.pull 2 rfl
      have hO : St _ _ _ [_, _, _, _] := hO
      refine wl_e hF rfl rfl rfl (c_call hF rfl rfl Tryd.call47 (closes_r2 _ _ _ _ _ _ _ hO.own3 (by omega) _)) ?_
      rintro a _ w ⟨vo, vs, out, st, rfl, hcl, hcp, hS⟩ hF
      have hO := hO.call3 hS
      have hO : St _ _ _ [_, _, _, _] := hO
      refine wl_nil ?_
      refine k_n ?_
      refine wp_seq ?_
      have hO := hO.drew
      refine wp_region_D [0, 0, 0, 0, 1, 1, 2, 3, 0, 0, 3] (fun w => St _ _ w _) Tryd_mixed (by kernel_rfl) hO ?_
      refine wd_p hF rfl rfl rfl (fun w => q_move rfl (hF.eval rfl)) fun a hF => ?_
      refine wd_p hF rfl rfl rfl (fun w => q_move rfl (hF.eval rfl)) fun a hF => ?_
      refine wd_p hF rfl rfl rfl (fun w => q_nilCheck rfl (hF.eval rfl)) fun a hF => ?_
      refine wd_p hF rfl rfl rfl (fun w => q_fieldAddr0 (d := 0) Tryd.underlying68 rfl (hF.eval rfl) rfl Tryd.sizeOf22 (by decide) rfl) fun a hF => ?_
      refine wd_r hF rfl rfl rfl (fun w hO => q_load Tryd.isAgg22 rfl (hF.eval rfl) (hO.cell 0 rfl rfl)) fun a hF => ?_
      refine wd_r hF rfl rfl rfl (fun w hO => q_loadAgg Tryd.isAgg33 Tryd.sizeOf33 rfl (hF.eval rfl) (hO.cells 3 rfl) rfl) fun a hF => ?_
      refine wd_e hF rfl rfl rfl (c_buildSlice hF hO Tryd.underlying22 Tryd.sizeOf33 Tryd.zeroValue33 rfl rfl rfl rfl rfl rfl rfl) (fun _ _ ⟨_, _, hO⟩ => hO.tail) ?_
      rintro a _ w ⟨b4, rfl, hO⟩ hF
      refine wd_f hF rfl rfl rfl (e_appendT (bytes := 48) (r := [t]) hO (i := 2) rfl (hO.rd 0 rfl) Tryd.underlying22 Tryd_info33 rfl rfl rfl rfl rfl rfl (hF.eval rfl) (hF.eval rfl) (by show (List.length _ + 1) * 48 ≤ _; omega) (by show List.length _ + 1 ≤ _; omega)) ?_
      rintro a v96 w hO hF
      have hO : St _ _ _ [_, _, _, _, _] := hO
      refine wd_p hF rfl rfl rfl (fun w => q_nilCheck rfl (hF.eval rfl)) fun a hF => ?_
      refine wd_p hF rfl rfl rfl (fun w => q_fieldAddr0 (d := 0) Tryd.underlying68 rfl (hF.eval rfl) rfl Tryd.sizeOf22 (by decide) rfl) fun a hF => ?_
      refine wd_s hF rfl rfl (e_store1 hO (i := 1) rfl Tryd.sizeOf22 rfl (hF.eval rfl) (hF.eval rfl) (cells_one (hO.slOne 2 rfl)) rfl (hO.slOne 2 rfl)) ?_
      rintro a _ w ⟨-, hO⟩ hF
      have hO : St _ _ _ [_, _, _, _, _] := hO
      refine wd_nil ?_
      refine k_n ?_
      refine wp_seq ?_
      refine wp_region_lit ?_
      refine wl_v hF rfl rfl rfl (q_loadAgg Tryd.isAgg33 Tryd.sizeOf33 rfl (hF.eval rfl) (hO.cells 4 rfl) rfl) fun a hF => ?_
      refine wl_e hF rfl rfl rfl (c_call hF rfl rfl Tryd.call38 (word_r _ _)) ?_
      rintro a _ w ⟨rfl, hS⟩ hF
      have hO := hO.call0 hS
      have hO : St _ _ _ [_, _, _, _, _] := hO
      refine wl_v hF rfl rfl rfl (q_assign rfl (hF.eval rfl)) fun a hF => ?_
      refine wl_nil ?_
      refine k_n ?_
      refine wp_seq ?_
      refine wp_seq ?_
      refine wp_region_lit ?_
      refine wl_v hF rfl rfl rfl (q_move rfl (hF.eval rfl)) fun a hF => ?_
      refine wl_v hF rfl rfl rfl (q_seq rfl (hF.eval rfl) (hF.eval rfl)) fun a hF => ?_
      refine wl_v hF rfl rfl rfl (q_move rfl (hF.eval rfl)) fun a hF => ?_
      refine wl_g hF rfl rfl rfl rfl rfl rfl (fun hg => q_move rfl (hF.eval rfl)) fun a hF => ?_
      refine wl_g hF rfl rfl rfl rfl rfl rfl (fun hg => q_seq rfl ((hF.eval rfl).trans (gv_of hg)) (hF.eval rfl)) fun a hF => ?_
      refine wl_v hF rfl rfl rfl (q_or rfl (hF.eval rfl) rfl (fun hg2 => ((hF.eval rfl).trans (gv_of hg2))) rfl) fun a hF => ?_
      refine wl_v hF rfl rfl rfl (q_move rfl (hF.eval rfl)) fun a hF => ?_
      refine wl_g hF rfl rfl rfl rfl rfl rfl (fun hg => q_move rfl (hF.eval rfl)) fun a hF => ?_
      refine wl_g hF rfl rfl rfl rfl rfl rfl (fun hg => q_seq rfl ((hF.eval rfl).trans (gv_of hg)) (hF.eval rfl)) fun a hF => ?_
      refine wl_v hF rfl rfl rfl (q_or rfl (hF.eval rfl) rfl (fun hg2 => ((hF.eval rfl).trans (gv_of hg2))) rfl) fun a hF => ?_
      refine wl_v hF rfl rfl rfl (q_move rfl (hF.eval rfl)) fun a hF => ?_
      refine wl_g hF rfl rfl rfl rfl rfl rfl (fun hg => q_move rfl (hF.eval rfl)) fun a hF => ?_
      refine wl_g hF rfl rfl rfl rfl rfl rfl (fun hg => q_seq rfl ((hF.eval rfl).trans (gv_of hg)) (hF.eval rfl)) fun a hF => ?_
      refine wl_v hF rfl rfl rfl (q_or rfl (hF.eval rfl) rfl (fun hg2 => ((hF.eval rfl).trans (gv_of hg2))) rfl) fun a hF => ?_
      refine wl_v hF rfl rfl rfl (q_move rfl (hF.eval rfl)) fun a hF => ?_
      refine wl_g hF rfl rfl rfl rfl rfl rfl (fun hg => q_move rfl (hF.eval rfl)) fun a hF => ?_
      refine wl_g hF rfl rfl rfl rfl rfl rfl (fun hg => q_seq rfl ((hF.eval rfl).trans (gv_of hg)) (hF.eval rfl)) fun a hF => ?_
      refine wl_v hF rfl rfl rfl (q_or rfl (hF.eval rfl) rfl (fun hg2 => ((hF.eval rfl).trans (gv_of hg2))) rfl) fun a hF => ?_
      refine wl_v hF rfl rfl rfl (q_move rfl (hF.eval rfl)) fun a hF => ?_
      refine wl_g hF rfl rfl rfl rfl rfl rfl (fun hg => q_move rfl (hF.eval rfl)) fun a hF => ?_
      refine wl_g hF rfl rfl rfl rfl rfl rfl (fun hg => q_seq rfl ((hF.eval rfl).trans (gv_of hg)) (hF.eval rfl)) fun a hF => ?_
      refine wl_v hF rfl rfl rfl (q_or rfl (hF.eval rfl) rfl (fun hg2 => ((hF.eval rfl).trans (gv_of hg2))) rfl) fun a hF => ?_
      refine wl_nil ?_
      refine k_n ?_
      refine wp_ifD hF rfl rfl (fun hc6 => ?_) (fun hc6 => ?_)
      · skip
        refine wp_region_lit ?_
        refine wl_v hF rfl rfl rfl (q_move rfl (hF.eval rfl)) fun a hF => ?_
        refine wl_v hF rfl rfl rfl (q_move rfl (hF.eval rfl)) fun a hF => ?_
        refine wl_v hF rfl rfl rfl (q_nilCheck rfl (hF.eval rfl)) fun a hF => ?_
        refine wl_v hF rfl rfl rfl (q_fieldAddr0 (d := 1) Tryd.underlying68 rfl (hF.eval rfl) rfl Tryd.sizeOf66 (by decide) rfl) fun a hF => ?_
        refine wl_v hF rfl rfl rfl (q_load Tryd.isAgg66 rfl (hF.eval rfl) (hO.cell 1 rfl rfl)) fun a hF => ?_
        refine wl_v hF rfl rfl rfl (q_move rfl (hF.eval rfl)) fun a hF => ?_
        refine wl_v hF rfl rfl rfl (c_build hF Tryd.underlying79 Tryd.zeroValue79 Tryd_places79 rfl rfl rfl rfl) fun a hF => ?_
        refine wl_e hF rfl rfl rfl (c_buildSlice hF hO Tryd.underlying66 Tryd.sizeOf79 Tryd.zeroValue79 rfl rfl rfl rfl rfl rfl rfl) ?_
        rintro a _ w ⟨b5, rfl, hO⟩ hF
        refine wl_e hF rfl rfl rfl (e_appendT (bytes := 24) (r := [⟨wordF t, 0⟩]) hO (i := 4) rfl (hO.rd 0 rfl) Tryd.underlying66 Tryd_info79 rfl rfl rfl rfl rfl rfl (hF.eval rfl) (hF.eval rfl) (by show (List.length _ + 1) * 24 ≤ _; omega) (by show List.length _ + 1 ≤ _; omega)) ?_
        rintro a v131 w hO hF
        have hO : St _ _ _ [_, _, _, _, _, _] := hO
        refine wl_v hF rfl rfl rfl (q_nilCheck rfl (hF.eval rfl)) fun a hF => ?_
        refine wl_v hF rfl rfl rfl (q_fieldAddr0 (d := 1) Tryd.underlying68 rfl (hF.eval rfl) rfl Tryd.sizeOf66 (by decide) rfl) fun a hF => ?_
        refine wl_s hF rfl rfl (e_store1 hO (i := 2) rfl Tryd.sizeOf66 rfl (hF.eval rfl) (hF.eval rfl) (cells_one (hO.slOne 4 rfl)) rfl (hO.slOne 4 rfl)) ?_
        rintro a _ w ⟨-, hO⟩ hF
        have hO : St _ _ _ [_, _, _, _, _, _] := hO
        refine wl_nil ?_
        refine k_n ?_
        refine wp_seq ?_
        refine wp_region_lit ?_
        refine wl_v hF rfl rfl rfl (q_assign rfl (hF.eval rfl)) fun a hF => ?_
        refine wl_nil ?_
        refine k_n ?_
        refine wp_ret ?_
        refine r_1 hF rfl rfl ?_
        have hO := hO.drop1 0
        have hO := hO.drop1 0
        have hO := hO.drop1 3
        have hO : St _ _ _ [_, _, _] := hO
        exact ⟨true, _, _, _, _, dd2, rfl, (tok_ok hno hop hln hcl).trans (by rw [if_pos (show markP (wordF t) from hc6)]; rfl), (fun h => by cases h), by simp; omega, hO⟩
      · skip
        refine wp_skip ?_
        refine k_n ?_
        refine wp_seq ?_
        refine wp_region_lit ?_
        refine wl_v hF rfl rfl rfl (q_assign rfl (hF.eval rfl)) fun a hF => ?_
        refine wl_nil ?_
        refine k_n ?_
        refine wp_ret ?_
        refine r_1 hF rfl rfl ?_
        have hO := hO.drop1 0
        have hO := hO.drop1 3
        have hO : St _ _ _ [_, _, _] := hO
        exact ⟨true, _, _, _, _, dd2, rfl, (tok_ok hno hop hln hcl).trans (by rw [if_neg (show ¬ markP (wordF t) from hc6)]; rfl), (fun h => by cases h), by simp; omega, hO⟩

end Go.Proofs.YtnnagjbkpmkelaaDoor
