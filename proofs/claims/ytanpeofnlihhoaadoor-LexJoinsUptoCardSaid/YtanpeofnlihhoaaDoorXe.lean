import Derived.Test.YtanpeofnlihhoaaDoorGf
import Derived.Test.YtanpeofnlihhoaaDoorXd
namespace Go.Proofs.YtanpeofnlihhoaaDoor
open Go
set_option maxRecDepth 100000
set_option linter.unusedVariables false

section
variable {s : List UInt8} {at_ n : Nat}
theorem cut_0 (hn : 0 < n) : (cutF s at_ n).getD 0 0 = s.getD at_ 0 := by
  have := cut_get (s := s) (at_ := at_) (n := n) (k := 0) hn
  rwa [Nat.add_zero] at this
theorem word_up (hn : 1 ≤ n) : ((65 : Int) ≤ (((cutF s at_ n).getD 0 0).toNat : Int) ∧ (((cutF s at_ n).getD 0 0).toNat : Int) ≤ 90) ↔ (65 ≤ gt s at_ ∧ gt s at_ ≤ 90) := by
  rw [cut_0 hn]
  exact le_iff8 65 90
theorem word_58 (hn : 1 ≤ n) : (((cutF s at_ n).getD 0 0).toNat : Int) = 58 ↔ gt s at_ = 58 := by
  rw [cut_0 hn]
  exact gt_iff 58 rfl
theorem dash_iff : ((1 : Int) < (rowF s at_ 2 : Nat) ∧ Lib.trimB (cutF s at_ (rowF s at_ 2)) 45 = []) ↔ ((cutF s at_ (rowF s at_ 2)).all (fun c => c = 45) = true ∧ 2 ≤ rowF s at_ 2) := by
  rw [trim_all]
  constructor
  · rintro ⟨h, h2⟩; exact ⟨h2, by omega⟩
  · rintro ⟨h, h2⟩; exact ⟨by omega, h⟩
end
theorem run0_r (w0 : World) (b : Nat) (s : List UInt8) (at_ : Nat) (hs : s.length ≤ 16384) (x1 x2 x3 : Value) (hB : Rd w0 [] (gl1 b) 4 1 [str (s.drop at_), x1, x2, x3]) : Ret Tryd.prog 33 #[ptr (adr b), .func (.func 41) #[] #[]] w0 (fun v w' => v = i64 (rowF s at_ 0) ∧ St w0 [] w' []) :=
  run_r w0 b 41 (s.drop at_) (by rw [drop_len]; omega) x1 x2 x3 hB (goesB 0) Tryd.call41 (fun w c => pword1_r w c)
theorem run1_r (w0 : World) (b : Nat) (s : List UInt8) (at_ : Nat) (hs : s.length ≤ 16384) (x1 x2 x3 : Value) (hB : Rd w0 [] (gl1 b) 4 1 [str (s.drop at_), x1, x2, x3]) : Ret Tryd.prog 33 #[ptr (adr b), .func (.func 32) #[] #[]] w0 (fun v w' => v = i64 (rowF s at_ 1) ∧ St w0 [] w' []) :=
  run_r w0 b 32 (s.drop at_) (by rw [drop_len]; omega) x1 x2 x3 hB (goesB 1) Tryd.call32 (fun w c => by rw [goes1 rfl]; exact pdigit_r w c)
theorem run2_r (w0 : World) (b : Nat) (s : List UInt8) (at_ : Nat) (hs : s.length ≤ 16384) (x1 x2 x3 : Value) (hB : Rd w0 [] (gl1 b) 4 1 [str (s.drop at_), x1, x2, x3]) : Ret Tryd.prog 33 #[ptr (adr b), .func (.func 35) #[] #[]] w0 (fun v w' => v = i64 (rowF s at_ 2) ∧ St w0 [] w' []) :=
  run_r w0 b 35 (s.drop at_) (by rw [drop_len]; omega) x1 x2 x3 hB (goesB 2) Tryd.call35 (fun w c => by rw [goes2 rfl]; exact pmark_r w c)
theorem run3_r (w0 : World) (b : Nat) (s : List UInt8) (at_ : Nat) (hs : s.length ≤ 16384) (x1 x2 x3 : Value) (hB : Rd w0 [] (gl1 b) 4 1 [str (s.drop at_), x1, x2, x3]) : Ret Tryd.prog 33 #[ptr (adr b), .func (.func 46) #[] #[]] w0 (fun v w' => v = i64 (rowF s at_ 3) ∧ St w0 [] w' []) :=
  run_r w0 b 46 (s.drop at_) (by rw [drop_len]; omega) x1 x2 x3 hB (goesB 3) Tryd.call46 (fun w c => pline1_r w c)
set_option maxHeartbeats 1000000 in
theorem word_r (w0 : World) (bs : Nat) (s : List UInt8) (at_ : Nat) (vo : Value) (out : List Tok) (hs : s.length ≤ 16384) (hol : out.length ≤ at_) (hA : Owns w0 [.ob bs 39 (scC s (at_) vo), slT vo 32 tokE out]) (h1 : at_ < s.length) (h6 : H6 s at_) : Ret Tryd.prog 31 #[ptr (adr bs)] w0 (fun v w' => ∃ vo2, v = i64 0 ∧ St w0 (blks [.ob bs 39 (scC s (at_) vo), slT vo 32 tokE out]) w' [.ob bs 39 (scC s (at_ + rowF s at_ 0) vo2), slT vo2 32 tokE (out ++ [⟨(if wordsL.contains (cutF s at_ (rowF s at_ 0)) then 7 else if (cutF s at_ (rowF s at_ 0)) = [95] then 8 else if 65 ≤ gt s at_ ∧ gt s at_ ≤ 90 then 2 else 1 : Int), (cutF s at_ (rowF s at_ 0)), 0, (posF s at_).1, (posF s at_).2⟩])]) := by
  have hO := St.init hA
  have hb := posF_le s at_
  have hrl := rowF_le s at_ 0
  have hr0 := row0 h1 h6
  refine ret_of (m := 34) Tryd.func31 rfl Tryd.ntmps31 [(0, ptr (adr bs))] rfl ⟨rfl, trivial⟩ fun a hF => ?_
  refine wp_seq ?_
  refine wp_region_lit ?_
  refine wl_v hF rfl rfl rfl (q_assign rfl (hF.eval rfl)) fun a hF => ?_
  refine wl_nil ?_
  refine k_n ?_
  refine wp_seq ?_
  refine wp_region_lit ?_
  refine wl_v hF rfl rfl rfl (q_move rfl (hF.eval rfl)) fun a hF => ?_
  refine wl_e hF rfl rfl rfl (c_call hF rfl rfl Tryd.call33 (run0_r _ _ _ _ hs _ _ _ (hO.rdOb 0 rfl))) ?_
  rintro a _ w ⟨rfl, hS⟩ hF
  have hO := hO.call0 hS
  have hO : St _ _ _ [_, _] := hO
  refine wl_v hF rfl rfl rfl (q_assign rfl (hF.eval rfl)) fun a hF => ?_
  refine wl_nil ?_
  refine k_n ?_
  refine wp_seq ?_
  refine wp_region_lit ?_
  refine wl_v hF rfl rfl rfl (q_move rfl (hF.eval rfl)) fun a hF => ?_
  refine wl_v hF rfl rfl rfl (q_nilCheck rfl (hF.eval rfl)) fun a hF => ?_
  refine wl_v hF rfl rfl rfl (q_fieldAddr0 (d := 0) Tryd.underlying39 rfl (hF.eval rfl) rfl Tryd.sizeOf9 (by decide) rfl) fun a hF => ?_
  refine wl_v hF rfl rfl rfl (q_load Tryd.isAgg9 rfl (hF.eval rfl) (hO.cell 0 rfl rfl)) fun a hF => ?_
  refine wl_v hF rfl rfl rfl (q_move rfl (hF.eval rfl)) fun a hF => ?_
  refine wl_v hF rfl rfl rfl (q_cutTo (j := (rowF s at_ 0)) Tryd.underlying9 rfl (hF.eval rfl) (hF.eval rfl) (by rw [drop_len]; omega)) fun a hF => ?_
  rw [cut_take] at hF
  refine wl_v hF rfl rfl rfl (q_assign rfl (hF.eval rfl)) fun a hF => ?_
  refine wl_nil ?_
  refine k_n ?_
  refine wp_seq ?_
  refine wp_region_lit ?_
  refine wl_v hF rfl rfl rfl (q_assign rfl (hF.eval rfl)) fun a hF => ?_
  refine wl_nil ?_
  refine k_n ?_
  refine wp_seqJ (fun (kd : Int) a w' => (kd = (if wordsL.contains (cutF s at_ (rowF s at_ 0)) then 7 else if (cutF s at_ (rowF s at_ 0)) = [95] then 8 else if 65 ≤ gt s at_ ∧ gt s at_ ≤ 90 then 2 else 1 : Int)) ∧ St w0 (blks [.ob bs 39 (scC s (at_) vo), slT vo 32 tokE out]) w' [.ob bs 39 (scC s (at_) vo), slT vo 32 tokE out] ∧ Fr a 34 [(0, ptr (adr bs)), (3, i64 (rowF s at_ 0)), (4, str (cutF s at_ (rowF s at_ 0))), (5, i64 kd)]) ?_ ?_
  · skip
    refine wp_block ?_
    refine wp_seq ?_
    refine wp_region_lit ?_
    refine wl_v hF rfl rfl rfl (q_move rfl (hF.eval rfl)) fun a hF => ?_
    refine wl_e hF rfl rfl rfl (c_call hF rfl rfl Tryd.call42 (presw_r _ _)) ?_
    rintro a _ w ⟨rfl, hS⟩ hF
    have hO := hO.call0 hS
    have hO : St _ _ _ [_, _] := hO
    refine wl_v hF rfl rfl rfl (q_assign rfl (hF.eval rfl)) fun a hF => ?_
    refine wl_nil ?_
    refine k_n ?_
    refine wp_ifD hF rfl (dec_b _) (fun hc1 => ?_) (fun hc1 => ?_)
    · skip
      refine wp_region_lit ?_
      refine wl_v hF rfl rfl rfl (q_assign rfl (hF.eval rfl)) fun a hF => ?_
      refine wl_nil ?_
      refine b_n ?_
      refine k_n ?_
      have hO : St _ _ _ [_, _] := hO
      exact ⟨7, ⟨(if_pos hc1).symm, hO, hF.sub ⟨rfl, rfl, rfl, rfl, trivial⟩⟩⟩
    · skip
      refine wp_seq ?_
      refine wp_region_lit ?_
      refine wl_v hF rfl rfl rfl (q_move rfl (hF.eval rfl)) fun a hF => ?_
      refine wl_v hF rfl rfl rfl (q_seq rfl (hF.eval rfl) (hF.eval rfl)) fun a hF => ?_
      refine wl_v hF rfl rfl rfl (q_assign rfl (hF.eval rfl)) fun a hF => ?_
      refine wl_nil ?_
      refine k_n ?_
      refine wp_ifD hF rfl rfl (fun hc2 => ?_) (fun hc2 => ?_)
      · skip
        refine wp_region_lit ?_
        refine wl_v hF rfl rfl rfl (q_assign rfl (hF.eval rfl)) fun a hF => ?_
        refine wl_nil ?_
        refine b_n ?_
        refine k_n ?_
        have hO : St _ _ _ [_, _] := hO
        exact ⟨8, ⟨by rw [if_neg hc1, if_pos hc2], hO, hF.sub ⟨rfl, rfl, rfl, rfl, trivial⟩⟩⟩
      · skip
        refine wp_seq ?_
        refine wp_region_lit ?_
        refine wl_v hF rfl rfl rfl (q_move rfl (hF.eval rfl)) fun a hF => ?_
        refine wl_v hF rfl rfl rfl (q_indexD (m := 0) Tryd.underlying9 rfl (hF.eval rfl) (hF.eval rfl) (by rw [cut_len (by omega)]; omega)) fun a hF => ?_
        refine wl_v hF rfl rfl rfl (q_le rfl (hF.eval rfl) (hF.eval rfl)) fun a hF => ?_
        refine wl_v hF rfl rfl rfl (q_move rfl (hF.eval rfl)) fun a hF => ?_
        refine wl_g hF rfl rfl rfl rfl rfl rfl (fun hg => q_move rfl (hF.eval rfl)) fun a hF => ?_
        refine wl_g hF rfl rfl rfl rfl rfl rfl (fun hg => q_indexD (m := 0) Tryd.underlying9 rfl ((hF.eval rfl).trans (gv_of hg)) (hF.eval rfl) (by rw [cut_len (by omega)]; omega)) fun a hF => ?_
        refine wl_g hF rfl rfl rfl rfl rfl rfl (fun hg => q_le rfl ((hF.eval rfl).trans (gv_of hg)) (hF.eval rfl)) fun a hF => ?_
        refine wl_v hF rfl rfl rfl (q_and rfl (hF.eval rfl) rfl (fun hg2 => ((hF.eval rfl).trans (gv_of hg2))) rfl) fun a hF => ?_
        refine wl_v hF rfl rfl rfl (q_assign rfl (hF.eval rfl)) fun a hF => ?_
        refine wl_nil ?_
        refine k_n ?_
        refine wp_ifD hF rfl rfl (fun hc3 => ?_) (fun hc3 => ?_)
        · skip
          refine wp_region_lit ?_
          refine wl_v hF rfl rfl rfl (q_assign rfl (hF.eval rfl)) fun a hF => ?_
          refine wl_nil ?_
          refine b_n ?_
          refine k_n ?_
          have hO : St _ _ _ [_, _] := hO
          exact ⟨2, ⟨by rw [if_neg hc1, if_neg hc2, if_pos ((word_up hr0).1 hc3)], hO, hF.sub ⟨rfl, rfl, rfl, rfl, trivial⟩⟩⟩
        · skip
          refine wp_skip ?_
          refine b_n ?_
          refine k_n ?_
          have hO : St _ _ _ [_, _] := hO
          exact ⟨1, ⟨by rw [if_neg hc1, if_neg hc2, if_neg (fun h => hc3 ((word_up hr0).2 h))], hO, hF.sub ⟨rfl, rfl, rfl, rfl, trivial⟩⟩⟩
  · skip
    rintro kd a w ⟨rfl, hO, hF⟩
    refine wp_seq ?_
    refine wp_region_lit ?_
    refine wl_v hF rfl rfl rfl (q_move rfl (hF.eval rfl)) fun a hF => ?_
    refine wl_v hF rfl rfl rfl (q_move rfl (hF.eval rfl)) fun a hF => ?_
    refine wl_v hF rfl rfl rfl (q_move rfl (hF.eval rfl)) fun a hF => ?_
    refine wl_v hF rfl rfl rfl (q_move rfl (hF.eval rfl)) fun a hF => ?_
    have hO := hO.pull 1 rfl
    have hO := hO.pull 1 rfl
    have hO : St _ _ _ [_, _] := hO
    refine wl_e hF rfl rfl rfl (c_call hF rfl rfl Tryd.call14 (token_r _ _ _ _ _ _ hs (by omega) hO.own2 _ _ _ ((rowF s at_ 0)) (by omega))) ?_
    rintro a _ w ⟨vo2, rfl, hS⟩ hF
    have hO := hO.call2 hS
    have hO : St _ _ _ [_, _] := hO
    refine wl_v hF rfl rfl rfl (q_assign rfl (hF.eval rfl)) fun a hF => ?_
    refine wl_nil ?_
    refine k_n ?_
    refine wp_ret ?_
    refine r_1 hF rfl rfl ?_
    have hO : St _ _ _ [_, _] := hO
    exact ⟨_, rfl, hO⟩

set_option maxHeartbeats 1000000 in
theorem oper_r (w0 : World) (bs : Nat) (s : List UInt8) (at_ : Nat) (vo : Value) (out : List Tok) (hs : s.length ≤ 16384) (hol : out.length ≤ at_) (hA : Owns w0 [.ob bs 39 (scC s (at_) vo), slT vo 32 tokE out]) (h1 : at_ < s.length) (h13 : markB (s.getD at_ 0) = true) : Ret Tryd.prog 36 #[ptr (adr bs)] w0 (fun v w' => ∃ vo2, v = i64 0 ∧ ((((cutF s at_ (rowF s at_ 2)).all (fun c => c = 45) = true ∧ 2 ≤ rowF s at_ 2) ∧ St w0 (blks [.ob bs 39 (scC s (at_) vo), slT vo 32 tokE out]) w' [.ob bs 39 (scC s (at_ + rowF s at_ 3) vo2), slT vo2 32 tokE out]) ∨ (¬ ((cutF s at_ (rowF s at_ 2)).all (fun c => c = 45) = true ∧ 2 ≤ rowF s at_ 2) ∧ St w0 (blks [.ob bs 39 (scC s (at_) vo), slT vo 32 tokE out]) w' [.ob bs 39 (scC s (at_ + rowF s at_ 2) vo2), slT vo2 32 tokE (out ++ [⟨(if signsL.contains (cutF s at_ (rowF s at_ 2)) then 8 else if gt s at_ = 58 then 4 else 3 : Int), (cutF s at_ (rowF s at_ 2)), 0, (posF s at_).1, (posF s at_).2⟩])]))) := by
  have hO := St.init hA
  have hb := posF_le s at_
  have hrl := rowF_le s at_ 2
  have hrl3 := rowF_le s at_ 3
  have hr0 := row2 h1 h13
  refine ret_of (m := 38) Tryd.func36 rfl Tryd.ntmps36 [(0, ptr (adr bs))] rfl ⟨rfl, trivial⟩ fun a hF => ?_
  refine wp_seq ?_
  refine wp_region_lit ?_
  refine wl_v hF rfl rfl rfl (q_assign rfl (hF.eval rfl)) fun a hF => ?_
  refine wl_nil ?_
  refine k_n ?_
  refine wp_seq ?_
  refine wp_region_lit ?_
  refine wl_v hF rfl rfl rfl (q_move rfl (hF.eval rfl)) fun a hF => ?_
  refine wl_e hF rfl rfl rfl (c_call hF rfl rfl Tryd.call33 (run2_r _ _ _ _ hs _ _ _ (hO.rdOb 0 rfl))) ?_
  rintro a _ w ⟨rfl, hS⟩ hF
  have hO := hO.call0 hS
  have hO : St _ _ _ [_, _] := hO
  refine wl_v hF rfl rfl rfl (q_assign rfl (hF.eval rfl)) fun a hF => ?_
  refine wl_nil ?_
  refine k_n ?_
  refine wp_seq ?_
  refine wp_region_lit ?_
  refine wl_v hF rfl rfl rfl (q_move rfl (hF.eval rfl)) fun a hF => ?_
  refine wl_v hF rfl rfl rfl (q_nilCheck rfl (hF.eval rfl)) fun a hF => ?_
  refine wl_v hF rfl rfl rfl (q_fieldAddr0 (d := 0) Tryd.underlying39 rfl (hF.eval rfl) rfl Tryd.sizeOf9 (by decide) rfl) fun a hF => ?_
  refine wl_v hF rfl rfl rfl (q_load Tryd.isAgg9 rfl (hF.eval rfl) (hO.cell 0 rfl rfl)) fun a hF => ?_
  refine wl_v hF rfl rfl rfl (q_move rfl (hF.eval rfl)) fun a hF => ?_
  refine wl_v hF rfl rfl rfl (q_cutTo (j := (rowF s at_ 2)) Tryd.underlying9 rfl (hF.eval rfl) (hF.eval rfl) (by rw [drop_len]; omega)) fun a hF => ?_
  rw [cut_take] at hF
  refine wl_v hF rfl rfl rfl (q_assign rfl (hF.eval rfl)) fun a hF => ?_
  refine wl_nil ?_
  refine k_n ?_
  refine wp_seq ?_
  refine wp_region_lit ?_
  refine wl_v hF rfl rfl rfl (q_assign rfl (hF.eval rfl)) fun a hF => ?_
  refine wl_nil ?_
  refine k_n ?_
  refine wp_seqJ (fun (kd : Int) a w' => (kd = (if signsL.contains (cutF s at_ (rowF s at_ 2)) then 8 else if gt s at_ = 58 then 4 else 3 : Int) ∧ ¬ ((cutF s at_ (rowF s at_ 2)).all (fun c => c = 45) = true ∧ 2 ≤ rowF s at_ 2)) ∧ St w0 (blks [.ob bs 39 (scC s (at_) vo), slT vo 32 tokE out]) w' [.ob bs 39 (scC s (at_) vo), slT vo 32 tokE out] ∧ Fr a 38 [(0, ptr (adr bs)), (3, i64 (rowF s at_ 2)), (4, str (cutF s at_ (rowF s at_ 2))), (5, i64 kd)]) ?_ ?_
  · skip
    refine wp_block ?_
    refine wp_seq ?_
    refine wp_region_lit ?_
    refine wl_v hF rfl rfl rfl (q_move rfl (hF.eval rfl)) fun a hF => ?_
    refine wl_v hF rfl rfl rfl (q_gt rfl (hF.eval rfl) (hF.eval rfl)) fun a hF => ?_
    refine wl_v hF rfl rfl rfl (q_move rfl (hF.eval rfl)) fun a hF => ?_
    refine wl_g hF rfl rfl rfl rfl rfl rfl (fun hg => q_move rfl (hF.eval rfl)) fun a hF => ?_
    refine wl_gk hO hF rfl rfl rfl rfl rfl rfl (fun hg => c_callG hF rfl rfl (by first | with_reducible rfl | (simp only [gv_of hg]; done) | (simp only [gv_of hg]; rfl)) Tryd.call45 (trim_r _ _ (by rw [cut_len (by omega)]; omega))) fun a w hO hF => ?_
    refine wl_g hF rfl rfl rfl rfl rfl rfl (fun hg => q_seq rfl ((hF.eval rfl).trans (gv_of hg)) (hF.eval rfl)) fun a hF => ?_
    refine wl_v hF rfl rfl rfl (q_and rfl (hF.eval rfl) rfl (fun hg2 => ((hF.eval rfl).trans (gv_of hg2))) rfl) fun a hF => ?_
    refine wl_v hF rfl rfl rfl (q_assign rfl (hF.eval rfl)) fun a hF => ?_
    refine wl_nil ?_
    refine k_n ?_
    refine wp_ifD hF rfl rfl (fun hc1 => ?_) (fun hc1 => ?_)
    · skip
      have hda := (dash_iff (s := s) (at_ := at_)).1 hc1
      refine wp_seq ?_
      refine wp_region_lit ?_
      refine wl_v hF rfl rfl rfl (q_move rfl (hF.eval rfl)) fun a hF => ?_
      refine wl_v hF rfl rfl rfl (q_move rfl (hF.eval rfl)) fun a hF => ?_
      refine wl_e hF rfl rfl rfl (c_call hF rfl rfl Tryd.call33 (run3_r _ _ _ _ hs _ _ _ (hO.rdOb 0 rfl))) ?_
      rintro a _ w ⟨rfl, hS⟩ hF
      have hO := hO.call0 hS
      have hO : St _ _ _ [_, _] := hO
      have hO : St _ _ _ [_, _] := hO
      refine wl_e hF rfl rfl rfl (c_call hF rfl rfl Tryd.call27 (pass_r _ _ _ _ _ hs hO.own1 ((rowF s at_ 3)) (by omega))) ?_
      rintro a _ w ⟨-, hS⟩ hF
      have hO := hO.call1 hS
      have hO : St _ _ _ [_, _] := hO
      refine wl_nil ?_
      refine k_n ?_
      refine wp_seq ?_
      refine wp_region_lit ?_
      refine wl_v hF rfl rfl rfl (q_assign rfl (hF.eval rfl)) fun a hF => ?_
      refine wl_nil ?_
      refine k_n ?_
      refine wp_ret ?_
      refine b_r ?_
      refine k_r ?_
      refine r_1 hF rfl rfl ?_
      have hO : St _ _ _ [_, _] := hO
      exact ⟨_, rfl, .inl ⟨hda, hO⟩⟩
    · skip
      have hda := fun h => hc1 ((dash_iff (s := s) (at_ := at_)).2 h)
      refine wp_seq ?_
      refine wp_region_lit ?_
      refine wl_v hF rfl rfl rfl (q_move rfl (hF.eval rfl)) fun a hF => ?_
      refine wl_e hF rfl rfl rfl (c_call hF rfl rfl Tryd.call47 (press_r _ _)) ?_
      rintro a _ w ⟨rfl, hS⟩ hF
      have hO := hO.call0 hS
      have hO : St _ _ _ [_, _] := hO
      refine wl_v hF rfl rfl rfl (q_assign rfl (hF.eval rfl)) fun a hF => ?_
      refine wl_nil ?_
      refine k_n ?_
      refine wp_ifD hF rfl (dec_b _) (fun hc2 => ?_) (fun hc2 => ?_)
      · skip
        refine wp_region_lit ?_
        refine wl_v hF rfl rfl rfl (q_assign rfl (hF.eval rfl)) fun a hF => ?_
        refine wl_nil ?_
        refine b_n ?_
        refine k_n ?_
        have hO : St _ _ _ [_, _] := hO
        exact ⟨8, ⟨⟨(if_pos hc2).symm, hda⟩, hO, hF.sub ⟨rfl, rfl, rfl, rfl, trivial⟩⟩⟩
      · skip
        refine wp_seq ?_
        refine wp_region_lit ?_
        refine wl_v hF rfl rfl rfl (q_move rfl (hF.eval rfl)) fun a hF => ?_
        refine wl_v hF rfl rfl rfl (q_indexD (m := 0) Tryd.underlying9 rfl (hF.eval rfl) (hF.eval rfl) (by rw [cut_len (by omega)]; omega)) fun a hF => ?_
        refine wl_v hF rfl rfl rfl (q_eq rfl (hF.eval rfl) (hF.eval rfl)) fun a hF => ?_
        refine wl_v hF rfl rfl rfl (q_assign rfl (hF.eval rfl)) fun a hF => ?_
        refine wl_nil ?_
        refine k_n ?_
        refine wp_ifD hF rfl rfl (fun hc3 => ?_) (fun hc3 => ?_)
        · skip
          refine wp_region_lit ?_
          refine wl_v hF rfl rfl rfl (q_assign rfl (hF.eval rfl)) fun a hF => ?_
          refine wl_nil ?_
          refine b_n ?_
          refine k_n ?_
          have hO : St _ _ _ [_, _] := hO
          exact ⟨4, ⟨⟨by rw [if_neg hc2, if_pos ((word_58 hr0).1 hc3)], hda⟩, hO, hF.sub ⟨rfl, rfl, rfl, rfl, trivial⟩⟩⟩
        · skip
          refine wp_skip ?_
          refine b_n ?_
          refine k_n ?_
          have hO : St _ _ _ [_, _] := hO
          exact ⟨3, ⟨⟨by rw [if_neg hc2, if_neg (fun h => hc3 ((word_58 hr0).2 h))], hda⟩, hO, hF.sub ⟨rfl, rfl, rfl, rfl, trivial⟩⟩⟩
  · skip
    rintro kd a w ⟨⟨rfl, hda⟩, hO, hF⟩
    refine wp_seq ?_
    refine wp_region_lit ?_
    refine wl_v hF rfl rfl rfl (q_move rfl (hF.eval rfl)) fun a hF => ?_
    refine wl_v hF rfl rfl rfl (q_move rfl (hF.eval rfl)) fun a hF => ?_
    refine wl_v hF rfl rfl rfl (q_move rfl (hF.eval rfl)) fun a hF => ?_
    refine wl_v hF rfl rfl rfl (q_move rfl (hF.eval rfl)) fun a hF => ?_
    have hO := hO.pull 1 rfl
    have hO := hO.pull 1 rfl
    have hO : St _ _ _ [_, _] := hO
    refine wl_e hF rfl rfl rfl (c_call hF rfl rfl Tryd.call14 (token_r _ _ _ _ _ _ hs (by omega) hO.own2 _ _ _ ((rowF s at_ 2)) (by omega))) ?_
    rintro a _ w ⟨vo2, rfl, hS⟩ hF
    have hO := hO.call2 hS
    have hO : St _ _ _ [_, _] := hO
    refine wl_v hF rfl rfl rfl (q_assign rfl (hF.eval rfl)) fun a hF => ?_
    refine wl_nil ?_
    refine k_n ?_
    refine wp_ret ?_
    refine r_1 hF rfl rfl ?_
    have hO : St _ _ _ [_, _] := hO
    exact ⟨_, rfl, .inr ⟨hda, hO⟩⟩

end Go.Proofs.YtanpeofnlihhoaaDoor
