import Derived.Test.YtanpeofnlihhoaaDoorGf
import Derived.Test.YtanpeofnlihhoaaDoorXf
namespace Go.Proofs.YtanpeofnlihhoaaDoor
open Go
set_option maxRecDepth 100000
set_option linter.unusedVariables false

theorem drop_ne {s : List UInt8} {at_ : Nat} (h : ¬ s.drop at_ = []) : at_ < s.length := by
  apply Classical.byContradiction
  intro h2
  exact h (List.drop_of_length_le (by omega))
theorem drop_no {s : List UInt8} {at_ : Nat} (hal : at_ ≤ s.length) (h : ¬ ¬ s.drop at_ = []) : at_ = s.length := by
  have h := Classical.not_not.1 h
  have := congrArg List.length h
  rw [drop_len, List.length_nil] at this
  omega
set_option maxHeartbeats 4000000 in
theorem pread_r (w0 : World) (s : List UInt8) (hlen : s.length ≤ 9223372036854775807) (hG : GlE w0 []) : Ret Tryd.prog 8 #[str s] w0 (fun v w' => ∃ va l d, readF s = (l, d) ∧ v = .tuple #[va, .agg (diagCells d).toArray] ∧ St w0 [] w' [slT va 32 tokE l]) := by
  have hO := St.init0 w0
  refine ret_of (m := 39) Tryd.func8 rfl Tryd.ntmps8 [(0, str s)] rfl ⟨rfl, trivial⟩ fun a hF => ?_
  refine wp_seq ?_
  refine wp_region_lit ?_
  refine wl_v hF rfl rfl rfl (q_assign rfl (hF.eval rfl)) fun a hF => ?_
  refine wl_e hF rfl rfl rfl (e_alloc hO Tryd.zeroValue25 rfl rfl) ?_
  rintro a _ w ⟨dg, rfl, hO⟩ hF
  refine wl_nil ?_
  refine k_n ?_
  refine wp_seq ?_
  refine wp_seq ?_
  refine wp_region_lit ?_
  refine wl_v hF rfl rfl rfl (q_move rfl (hF.eval rfl)) fun a hF => ?_
  refine wl_v hF rfl rfl rfl (q_len Tryd.underlying9 rfl (hF.eval rfl)) fun a hF => ?_
  refine wl_v hF rfl rfl rfl (q_gt rfl (hF.eval rfl) (hF.eval rfl)) fun a hF => ?_
  refine wl_nil ?_
  refine k_n ?_
  refine wp_ifD hF rfl rfl (fun hc1 => ?_) (fun hc1 => ?_)
  · skip
    refine wp_seq ?_
    refine wp_region_lit ?_
    refine wl_v hF rfl rfl rfl (c_build hF Tryd.underlying25 Tryd.zeroValue25 Tryd_places25 rfl rfl rfl rfl) fun a hF => ?_
    refine wl_v hF rfl rfl rfl (q_assign rfl (hF.eval rfl)) fun a hF => ?_
    refine wl_s hF rfl rfl (e_storeAll hO (i := 0) rfl Tryd.sizeOf25 rfl (hF.eval rfl) (hF.eval rfl) rfl rfl) ?_
    rintro a _ w ⟨-, hO⟩ hF
    have hO : St _ _ _ [_] := hO
    refine wl_nil ?_
    refine k_n ?_
    refine wp_ret ?_
    refine k_r ?_
    refine r_tc hF rfl rfl rfl Tryd.isAgg25 Tryd.sizeOf25 (hO.cells 0 rfl) rfl ?_
    exact ⟨_, [], _, by rw [readF, if_pos (by omega)], rfl, by exact ((hO.nilSl 32 5).only)⟩
  · skip
    have hs : s.length ≤ 16384 := by omega
    refine wp_skip ?_
    refine k_n ?_
    refine wp_seq ?_
    refine wp_region_lit ?_
    refine wl_v hF rfl rfl rfl (q_move rfl (hF.eval rfl)) fun a hF => ?_
    refine wl_v hF rfl rfl rfl (c_build hF Tryd.underlying39 Tryd.zeroValue39 Tryd_places39 rfl rfl rfl rfl) fun a hF => ?_
    refine wl_e hF rfl rfl rfl (e_box hO rfl (hF.eval rfl) rfl) ?_
    rintro a _ w ⟨sc, rfl, hO⟩ hF
    have hO := hO.nilSl 32 5
    have hO := hO.pull 1 rfl
    refine wl_v hF rfl rfl rfl (q_assign rfl (hF.eval rfl)) fun a hF => ?_
    refine wl_nil ?_
    refine k_n ?_
    refine wp_seq ?_
    refine wp_block ?_
    have hO : St _ _ _ [_, _, _] := hO
    refine wp_loopS (fun (x : Nat × Nat × List Tok × Value) a w' => match x with | (f, at_, out, vo) => (readLoop s f at_ out = readLoop s (s.length + 1) 0 [] ∧ at_ ≤ s.length ∧ s.length < at_ + f ∧ out.length ≤ at_) ∧ St w0 [] w' [.ob sc 39 (scC s (at_) vo), slT vo 32 tokE out, .ob dg 25 [str [], i64 0, i64 0, i64 0]] ∧ Fr a 39 [(0, str s), (3, ptr (adr dg)), (4, ptr (adr sc))]) (fun (x : Nat × Nat × List Tok × Value) => match x with | (f, at_, out, vo) => f) (s.length + 1, 0, [], _) ⟨⟨rfl, by omega, by omega, by simp⟩, hO, hF.sub ⟨rfl, rfl, rfl, trivial⟩⟩ ?_
    rintro ⟨f, at_, out, vo⟩ a w ⟨⟨hr, hal, hf, hol⟩, hO, hF⟩
    refine wp_seq ?_
    refine wp_seq ?_
    refine wp_region_lit ?_
    refine wl_v hF rfl rfl rfl (q_move rfl (hF.eval rfl)) fun a hF => ?_
    refine wl_v hF rfl rfl rfl (q_nilCheck rfl (hF.eval rfl)) fun a hF => ?_
    refine wl_v hF rfl rfl rfl (q_fieldAddr0 (d := 0) Tryd.underlying39 rfl (hF.eval rfl) rfl Tryd.sizeOf9 (by decide) rfl) fun a hF => ?_
    refine wl_v hF rfl rfl rfl (q_load Tryd.isAgg9 rfl (hF.eval rfl) (hO.cell 0 rfl rfl)) fun a hF => ?_
    refine wl_v hF rfl rfl rfl (q_sne rfl (hF.eval rfl) (hF.eval rfl)) fun a hF => ?_
    refine wl_nil ?_
    refine k_n ?_
    refine wp_ifD hF rfl rfl (fun hc2 => ?_) (fun hc2 => ?_)
    · skip
      have h1 := drop_ne hc2
      refine wp_skip ?_
      refine k_n ?_
      refine wp_block ?_
      refine wp_seq ?_
      refine wp_region_lit ?_
      refine wl_v hF rfl rfl rfl (q_move rfl (hF.eval rfl)) fun a hF => ?_
      have hO := hO.pull 1 rfl
      have hO := hO.pull 1 rfl
      have hO : St _ _ _ [_, _, _] := hO
      refine wl_e hF rfl rfl rfl (c_call hF rfl rfl Tryd.call13 (next_r _ _ _ _ _ _ hs hol hO.own2 (by omega) (hG.at2 hO))) ?_
      rintro a _ w ⟨vo2, e, n2, out2, rfl, hnx, hS⟩ hF
      have hO := hO.call2 hS
      have hO : St _ _ _ [_, _, _] := hO
      refine wl_v hF rfl rfl rfl (q_assign rfl (hF.eval rfl)) fun a hF => ?_
      refine wl_nil ?_
      refine k_n ?_
      refine wp_seq ?_
      refine wp_region_lit ?_
      refine wl_v hF rfl rfl rfl (q_move rfl (hF.eval rfl)) fun a hF => ?_
      refine wl_v hF rfl rfl rfl (q_ne rfl (hF.eval rfl) (hF.eval rfl)) fun a hF => ?_
      refine wl_nil ?_
      refine k_n ?_
      refine wp_ifD hF rfl rfl (fun hc3 => ?_) (fun hc3 => ?_)
      · skip
        refine wp_seq ?_
        have hO := hO.drew
        refine wp_region_D [0, 0, 0, 1, 0, 0, 0, 1, 0, 0, 0, 3] (fun w => St _ _ w _) Tryd_mixed (by kernel_rfl) hO ?_
        refine wd_p hF rfl rfl rfl (fun w => q_move rfl (hF.eval rfl)) fun a hF => ?_
        refine wd_p hF rfl rfl rfl (fun w => q_nilCheck rfl (hF.eval rfl)) fun a hF => ?_
        refine wd_p hF rfl rfl rfl (fun w => q_fieldAddr0 (d := 1) Tryd.underlying39 rfl (hF.eval rfl) rfl Tryd.sizeOf3 (by decide) rfl) fun a hF => ?_
        refine wd_r hF rfl rfl rfl (fun w hO => q_load Tryd.isAgg3 rfl (hF.eval rfl) (hO.cell 0 rfl rfl)) fun a hF => ?_
        refine wd_p hF rfl rfl rfl (fun w => q_move rfl (hF.eval rfl)) fun a hF => ?_
        refine wd_p hF rfl rfl rfl (fun w => q_nilCheck rfl (hF.eval rfl)) fun a hF => ?_
        refine wd_p hF rfl rfl rfl (fun w => q_fieldAddr0 (d := 2) Tryd.underlying39 rfl (hF.eval rfl) rfl Tryd.sizeOf3 (by decide) rfl) fun a hF => ?_
        refine wd_r hF rfl rfl rfl (fun w hO => q_load Tryd.isAgg3 rfl (hF.eval rfl) (hO.cell 0 rfl rfl)) fun a hF => ?_
        refine wd_p hF rfl rfl rfl (fun w => q_move rfl (hF.eval rfl)) fun a hF => ?_
        refine wd_p hF rfl rfl rfl (fun w => c_build hF Tryd.underlying25 Tryd.zeroValue25 Tryd_places25 rfl rfl rfl rfl) fun a hF => ?_
        refine wd_p hF rfl rfl rfl (fun w => q_assign rfl (hF.eval rfl)) fun a hF => ?_
        refine wd_s hF rfl rfl (e_storeAll hO (i := 2) rfl Tryd.sizeOf25 rfl (hF.eval rfl) (hF.eval rfl) rfl rfl) ?_
        rintro a _ w ⟨-, hO⟩ hF
        have hO : St _ _ _ [_, _, _] := hO
        refine wd_nil ?_
        refine k_n ?_
        refine wp_ret ?_
        refine b_r ?_
        refine k_r ?_
        refine b_r ?_
        refine k_r ?_
        refine r_tc hF rfl rfl rfl Tryd.isAgg25 Tryd.sizeOf25 (hO.cells 2 rfl) rfl ?_
        obtain ⟨g, rfl⟩ : ∃ g, f = g + 1 := ⟨f - 1, by omega⟩
        obtain ⟨hlx, hn0, _⟩ := next_er hnx hc3
        have hrd := rd_bad h1 hr hs hlx
        rw [← show at_ + n2 = at_ by omega] at hrd
        exact ⟨_, [], _, hrd, rfl, by exact ((hO.nilSl 32 5).only)⟩
      · skip
        obtain rfl : e = 0 := Classical.not_not.1 hc3
        refine wp_skip ?_
        refine b_n ?_
        refine k_n ?_
        have hO : St _ _ _ [_, _, _] := hO
        obtain ⟨g, rfl⟩ : ∃ g, f = g + 1 := ⟨f - 1, by omega⟩
        obtain ⟨hq1, hq2, hq3, hq4⟩ := next_ok h1 hnx
        exact ⟨(g, at_ + n2, out2, vo2), ⟨⟨hq1.symm.trans hr, hq2, by omega, hq3⟩, hO, hF.sub ⟨rfl, rfl, rfl, trivial⟩⟩, by dsimp only; omega⟩
    · skip
      have h1 := drop_no hal hc2
      refine wp_exit ?_
      refine k_x ?_
      refine k_x ?_
      refine b_x ?_
      refine k_n ?_
      refine wp_seq ?_
      refine wp_region_lit ?_
      refine wl_v hF rfl rfl rfl (q_move rfl (hF.eval rfl)) fun a hF => ?_
      have hO := hO.pull 1 rfl
      have hO := hO.pull 1 rfl
      have hO : St _ _ _ [_, _, _] := hO
      refine wl_e hF rfl rfl rfl (c_call hF rfl rfl Tryd.call14 (token_r _ _ _ _ _ _ hs (by omega) hO.own2 _ _ _ (0) (by omega))) ?_
      rintro a _ w ⟨vo2, rfl, hS⟩ hF
      have hO := hO.call2 hS
      have hO : St _ _ _ [_, _, _] := hO
      refine wl_nil ?_
      refine k_n ?_
      refine wp_seq ?_
      refine wp_region_lit ?_
      refine wl_v hF rfl rfl rfl (q_move rfl (hF.eval rfl)) fun a hF => ?_
      refine wl_v hF rfl rfl rfl (q_nilCheck rfl (hF.eval rfl)) fun a hF => ?_
      refine wl_v hF rfl rfl rfl (q_fieldAddr0 (d := 3) Tryd.underlying39 rfl (hF.eval rfl) rfl Tryd.sizeOf22 (by decide) rfl) fun a hF => ?_
      refine wl_v hF rfl rfl rfl (q_load Tryd.isAgg22 rfl (hF.eval rfl) (hO.cell 0 rfl rfl)) fun a hF => ?_
      refine wl_v hF rfl rfl rfl (c_build hF Tryd.underlying25 Tryd.zeroValue25 Tryd_places25 rfl rfl rfl rfl) fun a hF => ?_
      refine wl_v hF rfl rfl rfl (q_assign rfl (hF.eval rfl)) fun a hF => ?_
      refine wl_s hF rfl rfl (e_storeAll hO (i := 2) rfl Tryd.sizeOf25 rfl (hF.eval rfl) (hF.eval rfl) rfl rfl) ?_
      rintro a _ w ⟨-, hO⟩ hF
      have hO : St _ _ _ [_, _, _] := hO
      refine wl_nil ?_
      refine k_n ?_
      refine wp_ret ?_
      refine r_tc hF rfl rfl rfl Tryd.isAgg25 Tryd.sizeOf25 (hO.cells 2 rfl) rfl ?_
      have hO := hO.pull 1 rfl
      exact ⟨_, _, _, rd_end (by omega) hf hal hr hs, rfl, hO.only⟩

end Go.Proofs.YtanpeofnlihhoaaDoor
