import Derived.Test.YtfkmlcgccffmnaaGf
import Derived.Test.YtfkmlcgccffmnaaPu3
namespace Go.Proofs.Ytfkmlcgccffmnaa
open Go
set_option maxRecDepth 100000
set_option linter.unusedVariables false
set_option maxHeartbeats 1000000 in
theorem isType_i (k : Int) (n : List UInt8) (hd : Hdr) (l : List TN) (ih : ∀ s ∈ l, ∀ (w0 : World), RdN w0 [] s → nodesF s.er ≤ 2305843009213693952 → Ret Try.prog 43 #[.agg (tnE.cells s).toArray] w0 (fun v w' => ∃ m : Int, v = .tuple #[i64 m, .bool (rightF s.er)] ∧ isOk s.er m ∧ St w0 [] w' [])) (w0 : World) (hR : RdN w0 [] (TN.mk k n hd l)) (hN : nodesF (TN.mk k n hd l).er ≤ 2305843009213693952) : Ret Try.prog 43 #[.agg (tnE.cells (TN.mk k n hd l)).toArray] w0 (fun v w' => ∃ m : Int, v = .tuple #[i64 m, .bool (rightF (TN.mk k n hd l).er)] ∧ isOk (TN.mk k n hd l).er m ∧ St w0 [] w' []) := by
  have hO := St.init0 w0
  refine ret_of (m := 57) Try.func43 rfl Try.ntmps43 [(0, .agg (tnE.cells (TN.mk k n hd l)).toArray)] rfl ⟨rfl, trivial⟩ fun a hF => ?_
  refine wp_seq ?_
  refine wp_region_lit ?_
  refine wl_e hF rfl rfl rfl (e_box hO rfl (hF.eval rfl) rfl) ?_
  rintro a _ w ⟨tk, rfl, hO⟩ hF
  refine wl_v hF rfl rfl rfl (q_assign rfl (hF.eval rfl)) fun a hF => ?_
  refine wl_v hF rfl rfl rfl (q_assign rfl (hF.eval rfl)) fun a hF => ?_
  refine wl_nil ?_
  refine k_n ?_
  refine wp_seq ?_
  refine wp_seq ?_
  refine wp_region_lit ?_
  refine wl_v hF rfl rfl rfl (q_fieldAddr0 (d := 0) Try.underlying33 rfl (hF.eval rfl) rfl Try.sizeOf3 (by decide) rfl) fun a hF => ?_
  refine wl_v hF rfl rfl rfl (q_load Try.isAgg3 rfl (hF.eval rfl) (hO.cell 0 rfl rfl)) fun a hF => ?_
  refine wl_nil ?_
  refine k_n ?_
  refine wp_block ?_
  refine wp_seqJ (fun (b : Bool) a w' => (b = decide (k = 52 ∨ k = 53)) ∧ St w0 [] w' [.ob tk 33 (tnE.cells (TN.mk k n hd l))] ∧ Fr a 57 [(1, ptr (adr tk)), (9, i64 k), (10, .bool b)]) ?_ ?_
  · skip
    refine wp_seq ?_
    refine wp_region_lit ?_
    refine wl_v hF rfl rfl rfl (q_eq rfl (hF.eval rfl) (hF.eval rfl)) fun a hF => ?_
    refine wl_v hF rfl rfl rfl (q_assign rfl (hF.eval rfl)) fun a hF => ?_
    refine wl_nil ?_
    refine k_n ?_
    refine wp_ifD hF rfl rfl (fun hc1 => ?_) (fun hc1 => ?_)
    · skip
      refine wp_skip ?_
      refine k_n ?_
      have hO : St _ _ _ [_] := hO
      exact ⟨_, ⟨decide_eq_decide.2 ⟨fun h => .inl h, fun _ => hc1⟩, hO, hF.sub ⟨rfl, rfl, rfl, trivial⟩⟩⟩
    · skip
      refine wp_region_lit ?_
      refine wl_v hF rfl rfl rfl (q_eq rfl (hF.eval rfl) (hF.eval rfl)) fun a hF => ?_
      refine wl_v hF rfl rfl rfl (q_assign rfl (hF.eval rfl)) fun a hF => ?_
      refine wl_nil ?_
      refine k_n ?_
      have hO : St _ _ _ [_] := hO
      exact ⟨_, ⟨decide_eq_decide.2 ⟨fun h => .inr h, fun h => h.resolve_left hc1⟩, hO, hF.sub ⟨rfl, rfl, rfl, trivial⟩⟩⟩
  · skip
    rintro b a w ⟨hb9, hO, hF⟩
    refine wp_ifD hF rfl (dec_b _) (fun hc2 => ?_) (fun hc2 => ?_)
    · skip
      have hk : k = 52 ∨ k = 53 := of_decide_eq_true (hb9.symm.trans hc2)
      refine wp_seq ?_
      have hO := hO.drew
      refine wp_region_D [0, 1, 0, 0, 0, 1, 0, 0, 0, 0, 0] (fun w => St _ _ w _) Try_mixed (by kernel_rfl) hO ?_
      refine wd_p hF rfl rfl rfl (fun w => q_fieldAddr0 (d := 1) Try.underlying33 rfl (hF.eval rfl) rfl Try.sizeOf9 (by decide) rfl) fun a hF => ?_
      refine wd_r hF rfl rfl rfl (fun w hO => q_load Try.isAgg9 rfl (hF.eval rfl) (hO.cell 0 rfl rfl)) fun a hF => ?_
      refine wd_p hF rfl rfl rfl (fun w => q_sne rfl (hF.eval rfl) (hF.eval rfl)) fun a hF => ?_
      refine wd_p hF rfl rfl rfl (fun w => q_move rfl (hF.eval rfl)) fun a hF => ?_
      refine wd_gp hF rfl rfl rfl rfl rfl rfl (fun hg w => q_fieldAddr0 (d := 2) Try.underlying33 rfl (hF.eval rfl) rfl Try.sizeOf31 (by decide) rfl) fun a hF => ?_
      refine wd_gr hF rfl rfl rfl rfl rfl rfl (fun hg w hO => q_load Try.isAgg31 rfl ((hF.eval rfl).trans (gv_of hg)) (hO.cell 0 rfl rfl)) fun a hF => ?_
      refine wd_gp hF rfl rfl rfl rfl rfl rfl (fun hg w => q_lenRd hR.sl Try.underlying31 rfl ((hF.eval rfl).trans (gv_of hg))) fun a hF => ?_
      refine wd_gp hF rfl rfl rfl rfl rfl rfl (fun hg w => q_eq rfl ((hF.eval rfl).trans (gv_of hg)) (hF.eval rfl)) fun a hF => ?_
      refine wd_p hF rfl rfl rfl (fun w => q_and rfl (hF.eval rfl) rfl (fun hg2 => ((hF.eval rfl).trans (gv_of hg2))) rfl) fun a hF => ?_
      refine wd_p hF rfl rfl rfl (fun w => q_assign rfl (hF.eval rfl)) fun a hF => ?_
      refine wd_p hF rfl rfl rfl (fun w => q_assign rfl (hF.eval rfl)) fun a hF => ?_
      refine wd_nil ?_
      refine k_n ?_
      refine wp_ret ?_
      refine b_r ?_
      refine k_r ?_
      refine r_2 hF rfl rfl rfl ?_
      have hO := hO.drop1 0
      have hO : St _ _ _ [] := hO
      have hr := right_1 (n := n) (hd := hd) (l := l) hk
      refine ⟨1, congrArg (fun b => Value.tuple #[i64 1, .bool b]) hr, ⟨⟨by omega, by have := nodes_pos (TN.mk k n hd l).er; omega⟩, fun e => ?_⟩, hO⟩
      rw [← hr] at e
      have e := of_decide_eq_true e
      obtain rfl : l = [] := List.length_eq_zero_iff.1 (by omega)
      rfl
    · skip
      have hk : ¬ (k = 52 ∨ k = 53) := fun e => hc2 (hb9.trans (decide_eq_true e))
      refine wp_seq ?_
      refine wp_region_lit ?_
      refine wl_v hF rfl rfl rfl (q_eq rfl (hF.eval rfl) (hF.eval rfl)) fun a hF => ?_
      refine wl_v hF rfl rfl rfl (q_assign rfl (hF.eval rfl)) fun a hF => ?_
      refine wl_nil ?_
      refine k_n ?_
      refine wp_ifD hF rfl rfl (fun hc3 => ?_) (fun hc3 => ?_)
      · skip
        refine wp_seq ?_
        refine wp_seq ?_
        refine wp_region_lit ?_
        refine wl_v hF rfl rfl rfl (q_fieldAddr0 (d := 1) Try.underlying33 rfl (hF.eval rfl) rfl Try.sizeOf9 (by decide) rfl) fun a hF => ?_
        refine wl_v hF rfl rfl rfl (q_load Try.isAgg9 rfl (hF.eval rfl) (hO.cell 0 rfl rfl)) fun a hF => ?_
        refine wl_v hF rfl rfl rfl (q_sne rfl (hF.eval rfl) (hF.eval rfl)) fun a hF => ?_
        refine wl_v hF rfl rfl rfl (q_move rfl (hF.eval rfl)) fun a hF => ?_
        refine wl_g hF rfl rfl rfl rfl rfl rfl (fun hg => q_fieldAddr0 (d := 2) Try.underlying33 rfl (hF.eval rfl) rfl Try.sizeOf31 (by decide) rfl) fun a hF => ?_
        refine wl_g hF rfl rfl rfl rfl rfl rfl (fun hg => q_load Try.isAgg31 rfl ((hF.eval rfl).trans (gv_of hg)) (hO.cell 0 rfl rfl)) fun a hF => ?_
        refine wl_g hF rfl rfl rfl rfl rfl rfl (fun hg => q_lenRd hR.sl Try.underlying31 rfl ((hF.eval rfl).trans (gv_of hg))) fun a hF => ?_
        refine wl_g hF rfl rfl rfl rfl rfl rfl (fun hg => q_ne rfl ((hF.eval rfl).trans (gv_of hg)) (hF.eval rfl)) fun a hF => ?_
        refine wl_v hF rfl rfl rfl (q_or rfl (hF.eval rfl) rfl (fun hg2 => ((hF.eval rfl).trans (gv_of hg2))) rfl) fun a hF => ?_
        refine wl_nil ?_
        refine k_n ?_
        refine wp_ifD hF rfl rfl (fun hc4 => ?_) (fun hc4 => ?_)
        · skip
          refine wp_seq ?_
          refine wp_region_lit ?_
          refine wl_v hF rfl rfl rfl (q_assign rfl (hF.eval rfl)) fun a hF => ?_
          refine wl_v hF rfl rfl rfl (q_assign rfl (hF.eval rfl)) fun a hF => ?_
          refine wl_nil ?_
          refine k_n ?_
          refine wp_ret ?_
          refine k_r ?_
          refine b_r ?_
          refine k_r ?_
          refine r_2 hF rfl rfl rfl ?_
          have hO := hO.drop1 0
          have hO : St _ _ _ [] := hO
          have hr := right_2 (n := n) (hd := hd) (l := l) hc3 hc4
          exact ⟨0, congrArg (fun b => Value.tuple #[i64 0, .bool b]) hr.symm, ⟨⟨by omega, by omega⟩, fun e => by rw [hr] at e; cases e⟩, hO⟩
        · skip
          have g1 := Classical.not_not.1 (not_or.1 hc4).1
          have g2 := Classical.not_not.1 (not_or.1 hc4).2
          refine wp_skip ?_
          refine k_n ?_
          refine wp_seq ?_
          refine wp_region_lit ?_
          refine wl_v hF rfl rfl rfl (q_fieldAddr0 (d := 2) Try.underlying33 rfl (hF.eval rfl) rfl Try.sizeOf31 (by decide) rfl) fun a hF => ?_
          refine wl_v hF rfl rfl rfl (q_load Try.isAgg31 rfl (hF.eval rfl) (hO.cell 0 rfl rfl)) fun a hF => ?_
          obtain ⟨sa, ha⟩ := get_ex (l := l) (i := 0) (by omega)
          refine wl_v hF rfl rfl rfl (q_at (i := 0) hR.sl Try.underlying31 Try.sizeOf33 rfl (hF.eval rfl) (hF.eval rfl) (by omega)) fun a hF => ?_
          refine wl_v hF rfl rfl rfl (q_loadAgg Try.isAgg33 Try.sizeOf33 rfl (hF.eval rfl) (RdT.cells (hR.sl.now hO) ha) rfl) fun a hF => ?_
          refine wl_e hF rfl rfl rfl (c_call hF rfl rfl Try.call43 (ih sa (List.mem_of_getElem? ha) _ ((hR.sub sa (List.mem_of_getElem? ha)).at0 hO) (by have := nodes_in (k := k) (n := n) (hd := hd) (List.mem_of_getElem? ha); omega))) ?_
          rintro a _ w ⟨ma, rfl, hma, hS⟩ hF
          have hO := hO.call0 hS
          have hO : St _ _ _ [_] := hO
          refine wl_v hF rfl rfl rfl (q_move rfl (hF.eval rfl)) fun a hF => ?_
          refine wl_v hF rfl rfl rfl (q_extract rfl (hF.eval rfl) rfl) fun a hF => ?_
          refine wl_v hF rfl rfl rfl (q_extract rfl (hF.eval rfl) rfl) fun a hF => ?_
          refine wl_v hF rfl rfl rfl (q_assign rfl (hF.eval rfl)) fun a hF => ?_
          refine wl_v hF rfl rfl rfl (q_assign rfl (hF.eval rfl)) fun a hF => ?_
          refine wl_nil ?_
          refine k_n ?_
          refine wp_seq ?_
          refine wp_region_lit ?_
          refine wl_v hF rfl rfl rfl (q_fieldAddr0 (d := 2) Try.underlying33 rfl (hF.eval rfl) rfl Try.sizeOf31 (by decide) rfl) fun a hF => ?_
          refine wl_v hF rfl rfl rfl (q_load Try.isAgg31 rfl (hF.eval rfl) (hO.cell 0 rfl rfl)) fun a hF => ?_
          obtain ⟨sb, hb⟩ := get_ex (l := l) (i := 1) (by omega)
          refine wl_v hF rfl rfl rfl (q_at (i := 1) hR.sl Try.underlying31 Try.sizeOf33 rfl (hF.eval rfl) (hF.eval rfl) (by omega)) fun a hF => ?_
          refine wl_v hF rfl rfl rfl (q_loadAgg Try.isAgg33 Try.sizeOf33 rfl (hF.eval rfl) (RdT.cells (hR.sl.now hO) hb) rfl) fun a hF => ?_
          refine wl_e hF rfl rfl rfl (c_call hF rfl rfl Try.call43 (ih sb (List.mem_of_getElem? hb) _ ((hR.sub sb (List.mem_of_getElem? hb)).at0 hO) (by have := nodes_in (k := k) (n := n) (hd := hd) (List.mem_of_getElem? hb); omega))) ?_
          rintro a _ w ⟨mb, rfl, hmb, hS⟩ hF
          have hO := hO.call0 hS
          have hO : St _ _ _ [_] := hO
          refine wl_v hF rfl rfl rfl (q_move rfl (hF.eval rfl)) fun a hF => ?_
          refine wl_v hF rfl rfl rfl (q_extract rfl (hF.eval rfl) rfl) fun a hF => ?_
          refine wl_v hF rfl rfl rfl (q_extract rfl (hF.eval rfl) rfl) fun a hF => ?_
          refine wl_v hF rfl rfl rfl (q_assign rfl (hF.eval rfl)) fun a hF => ?_
          refine wl_v hF rfl rfl rfl (q_assign rfl (hF.eval rfl)) fun a hF => ?_
          refine wl_nil ?_
          refine k_n ?_
          refine wp_seq ?_
          refine wp_region_lit ?_
          obtain rfl := two_of g2 ha hb
          rw [nodes_2] at hN
          have q1 := hma.1
          have q2 := hmb.1
          refine wl_v hF rfl rfl rfl (q_move rfl (hF.eval rfl)) fun a hF => ?_
          refine wl_v hF rfl rfl rfl (q_add rfl (hF.eval rfl) (hF.eval rfl) (by omega)) fun a hF => ?_
          refine wl_v hF rfl rfl rfl (q_move rfl (hF.eval rfl)) fun a hF => ?_
          refine wl_v hF rfl rfl rfl (q_add rfl (hF.eval rfl) (hF.eval rfl) (by omega)) fun a hF => ?_
          refine wl_v hF rfl rfl rfl (q_move rfl (hF.eval rfl)) fun a hF => ?_
          refine wl_v hF rfl rfl rfl (q_move rfl (hF.eval rfl)) fun a hF => ?_
          refine wl_g hF rfl rfl rfl rfl rfl rfl (fun hg => q_move rfl (hF.eval rfl)) fun a hF => ?_
          refine wl_v hF rfl rfl rfl (q_and rfl (hF.eval rfl) (dec_b _) (fun hg2 => ((hF.eval rfl).trans (gv_of hg2))) (dec_b _)) fun a hF => ?_
          refine wl_v hF rfl rfl rfl (q_assign rfl (hF.eval rfl)) fun a hF => ?_
          refine wl_v hF rfl rfl rfl (q_assign rfl (hF.eval rfl)) fun a hF => ?_
          refine wl_nil ?_
          refine k_n ?_
          refine wp_ret ?_
          refine b_r ?_
          refine k_r ?_
          refine r_2 hF rfl rfl rfl ?_
          have hO := hO.drop1 0
          have hO : St _ _ _ [] := hO
          have hr := right_3 (n := n) (hd := hd) (a := sa) (b := sb) hc3 g1
          refine ⟨_, congrArg (fun b => Value.tuple #[i64 (1 + ma + mb), .bool b]) hr.symm, ⟨⟨by omega, by rw [nodes_2]; omega⟩, fun e => ?_⟩, hO⟩
          rw [hr] at e
          have e := of_decide_eq_true e
          have e1 := hma.2 e.1
          have e2 := hmb.2 e.2
          rw [nodes_2]; omega
      · skip
        refine wp_skip ?_
        refine b_n ?_
        refine k_n ?_
        refine wp_seq ?_
        refine wp_region_lit ?_
        refine wl_v hF rfl rfl rfl (q_assign rfl (hF.eval rfl)) fun a hF => ?_
        refine wl_v hF rfl rfl rfl (q_assign rfl (hF.eval rfl)) fun a hF => ?_
        refine wl_nil ?_
        refine k_n ?_
        refine wp_ret ?_
        refine r_2 hF rfl rfl rfl ?_
        have hO := hO.drop1 0
        have hO : St _ _ _ [] := hO
        have hr := right_4 (n := n) (hd := hd) (l := l) hk hc3
        exact ⟨0, congrArg (fun b => Value.tuple #[i64 0, .bool b]) hr.symm, ⟨⟨by omega, by omega⟩, fun e => by rw [hr] at e; cases e⟩, hO⟩


theorem isType_r (t : TN) : ∀ (w0 : World), RdN w0 [] t → nodesF t.er ≤ 2305843009213693952 → Ret Try.prog 43 #[.agg (tnE.cells t).toArray] w0 (fun v w' => ∃ m : Int, v = .tuple #[i64 m, .bool (rightF t.er)] ∧ isOk t.er m ∧ St w0 [] w' []) :=
  TN.ind (P := fun t => ∀ (w0 : World), RdN w0 [] t → nodesF t.er ≤ 2305843009213693952 → Ret Try.prog 43 #[.agg (tnE.cells t).toArray] w0 (fun v w' => ∃ m : Int, v = .tuple #[i64 m, .bool (rightF t.er)] ∧ isOk t.er m ∧ St w0 [] w' [])) (fun k n hd l ih w0 hR hN => isType_i k n hd l ih w0 hR hN) t
theorem all_r (w0 : World) (vt : Value) (ts : List TN) (hT : RdT w0 [] vt tnE ts) (hR : ∀ t ∈ ts, RdN w0 [] t) (hN : ∀ t ∈ ts, nodesF t.er ≤ 2305843009213693952) : Ret Try.prog 25 #[vt] w0 (fun v w' => v = i64 (allF (ts.map TN.er) 0) ∧ St w0 [] w' []) := by
  have hO := St.init0 w0
  have hl := RdT.lenle hT
  refine ret_of (m := 27) Try.func25 rfl Try.ntmps25 [(0, vt)] rfl ⟨rfl, trivial⟩ fun a hF => ?_
  refine wp_seq ?_
  refine wp_region_lit ?_
  refine wl_v hF rfl rfl rfl (q_assign rfl (hF.eval rfl)) fun a hF => ?_
  refine wl_nil ?_
  refine k_n ?_
  refine wp_seq ?_
  refine wp_region_lit ?_
  refine wl_v hF rfl rfl rfl (q_assign rfl (hF.eval rfl)) fun a hF => ?_
  refine wl_nil ?_
  refine k_n ?_
  refine wp_seq ?_
  refine wp_seq ?_
  refine wp_region_lit ?_
  refine wl_v hF rfl rfl rfl (q_move rfl (hF.eval rfl)) fun a hF => ?_
  refine wl_v hF rfl rfl rfl (q_lenRd hT Try.underlying31 rfl (hF.eval rfl)) fun a hF => ?_
  refine wl_v hF rfl rfl rfl (q_move rfl (hF.eval rfl)) fun a hF => ?_
  refine wl_nil ?_
  refine k_n ?_
  refine wp_block ?_
  have hO : St _ _ _ [] := hO
  refine wp_loopS (fun (s : Nat × Int) a w' => match s with | (i, e) => (i ≤ ts.length ∧ allF ((ts.drop i).map TN.er) e = allF (ts.map TN.er) 0) ∧ St w0 [] w' [] ∧ Fr a 27 [(3, i64 e), (8, vt), (9, i64 ts.length), (10, i64 i)]) (fun (s : Nat × Int) => match s with | (i, e) => ts.length - i) (0, 0) ⟨⟨by omega, rfl⟩, hO, hF.sub ⟨rfl, rfl, rfl, rfl, trivial⟩⟩ ?_
  rintro ⟨i, e⟩ a w ⟨⟨hi, he⟩, hO, hF⟩
  refine wp_seq ?_
  refine wp_region_lit ?_
  refine wl_v hF rfl rfl rfl (q_lt rfl (hF.eval rfl) (hF.eval rfl)) fun a hF => ?_
  refine wl_nil ?_
  refine k_n ?_
  refine wp_seq ?_
  refine wp_ifD hF rfl rfl (fun hc1 => ?_) (fun hc1 => ?_)
  · skip
    refine wp_skip ?_
    refine k_n ?_
    refine wp_seq ?_
    refine wp_block ?_
    refine wp_seq ?_
    refine wp_region_lit ?_
    obtain ⟨x, hx⟩ := get_ex (l := ts) (i := i) (by omega)
    refine wl_v hF rfl rfl rfl (q_at (i := i) hT Try.underlying31 Try.sizeOf33 rfl (hF.eval rfl) (hF.eval rfl) (by omega)) fun a hF => ?_
    refine wl_v hF rfl rfl rfl (q_loadAgg Try.isAgg33 Try.sizeOf33 rfl (hF.eval rfl) (RdT.cells (hT.now hO) hx) rfl) fun a hF => ?_
    refine wl_e hF rfl rfl rfl (e_alloc hO Try.zeroValue33 rfl rfl) ?_
    rintro a _ w ⟨tx, rfl, hO⟩ hF
    refine wl_s hF rfl rfl (e_storeAll hO (i := 0) rfl Try.sizeOf33 rfl (hF.eval rfl) (hF.eval rfl) rfl rfl) ?_
    rintro a _ w ⟨-, hO⟩ hF
    have hO : St _ _ _ [_] := hO
    refine wl_nil ?_
    refine k_n ?_
    refine wp_seq ?_
    refine wp_region_lit ?_
    refine wl_v hF rfl rfl rfl (q_loadAgg Try.isAgg33 Try.sizeOf33 rfl (hF.eval rfl) (hO.cells 0 rfl) rfl) fun a hF => ?_
    refine wl_e hF rfl rfl rfl (c_call hF rfl rfl Try.call43 (isType_r x _ ((hR x (List.mem_of_getElem? hx)).at0 hO) (hN x (List.mem_of_getElem? hx)))) ?_
    rintro a _ w ⟨m, rfl, hm, hS⟩ hF
    have hO := hO.call0 hS
    have hO : St _ _ _ [_] := hO
    refine wl_v hF rfl rfl rfl (q_move rfl (hF.eval rfl)) fun a hF => ?_
    refine wl_v hF rfl rfl rfl (q_extract rfl (hF.eval rfl) rfl) fun a hF => ?_
    refine wl_v hF rfl rfl rfl (q_extract rfl (hF.eval rfl) rfl) fun a hF => ?_
    refine wl_v hF rfl rfl rfl (q_assign rfl (hF.eval rfl)) fun a hF => ?_
    refine wl_v hF rfl rfl rfl (q_assign rfl (hF.eval rfl)) fun a hF => ?_
    refine wl_nil ?_
    refine k_n ?_
    refine wp_block ?_
    refine wp_seq ?_
    refine wp_region_lit ?_
    refine wl_v hF rfl rfl rfl (q_move rfl (hF.eval rfl)) fun a hF => ?_
    refine wl_v hF rfl rfl rfl (q_not rfl (hF.eval rfl) (dec_b _)) fun a hF => ?_
    refine wl_v hF rfl rfl rfl (q_assign rfl (hF.eval rfl)) fun a hF => ?_
    refine wl_nil ?_
    refine k_n ?_
    refine wp_ifD hF rfl rfl (fun hc2 => ?_) (fun hc2 => ?_)
    · skip
      refine wp_seq ?_
      refine wp_region_lit ?_
      refine wl_v hF rfl rfl rfl (q_assign rfl (hF.eval rfl)) fun a hF => ?_
      refine wl_nil ?_
      refine k_n ?_
      refine wp_ret ?_
      refine b_r ?_
      refine b_r ?_
      refine k_r ?_
      refine k_r ?_
      refine b_r ?_
      refine k_r ?_
      refine r_1 hF rfl rfl ?_
      have hO := hO.drop1 0
      have hO : St _ _ _ [] := hO
      exact ⟨congrArg i64 (by rw [← he, allF_drop hx, if_pos (by simpa using hc2)]), hO⟩
    · skip
      have hrt : ¬ rightF x.er = false := by simpa using hc2
      have hmx := hm.2 (by simpa using hrt)
      refine wp_seq ?_
      refine wp_region_lit ?_
      refine wl_v hF rfl rfl rfl (q_move rfl (hF.eval rfl)) fun a hF => ?_
      refine wl_v hF rfl rfl rfl (q_gt rfl (hF.eval rfl) (hF.eval rfl)) fun a hF => ?_
      refine wl_v hF rfl rfl rfl (q_assign rfl (hF.eval rfl)) fun a hF => ?_
      refine wl_nil ?_
      refine k_n ?_
      refine wp_ifD hF rfl rfl (fun hc3 => ?_) (fun hc3 => ?_)
      · skip
        have hbg : 1000 < (nodesF x.er : Int) := by omega
        refine wp_region_lit ?_
        refine wl_v hF rfl rfl rfl (q_assign rfl (hF.eval rfl)) fun a hF => ?_
        refine wl_nil ?_
        refine b_n ?_
        refine b_n ?_
        refine k_n ?_
        refine wp_region_lit ?_
        refine wl_v hF rfl rfl rfl (q_add rfl (hF.eval rfl) (hF.eval rfl) (by omega)) fun a hF => ?_
        refine wl_v hF rfl rfl rfl (q_move rfl (hF.eval rfl)) fun a hF => ?_
        refine wl_nil ?_
        refine k_n ?_
        have hO := hO.drop1 0
        have hO : St _ _ _ [] := hO
        exact ⟨(i + 1, 3), ⟨⟨by omega, by rw [← he, allF_drop hx, if_neg hrt, if_pos hbg]⟩, hO, hF.sub ⟨rfl, rfl, rfl, rfl, trivial⟩⟩, by dsimp only; omega⟩
      · skip
        have hbg : ¬ 1000 < (nodesF x.er : Int) := by omega
        refine wp_skip ?_
        refine b_n ?_
        refine b_n ?_
        refine k_n ?_
        refine wp_region_lit ?_
        refine wl_v hF rfl rfl rfl (q_add rfl (hF.eval rfl) (hF.eval rfl) (by omega)) fun a hF => ?_
        refine wl_v hF rfl rfl rfl (q_move rfl (hF.eval rfl)) fun a hF => ?_
        refine wl_nil ?_
        refine k_n ?_
        have hO := hO.drop1 0
        have hO : St _ _ _ [] := hO
        exact ⟨(i + 1, e), ⟨⟨by omega, by rw [← he, allF_drop hx, if_neg hrt, if_neg hbg]⟩, hO, hF.sub ⟨rfl, rfl, rfl, rfl, trivial⟩⟩, by dsimp only; omega⟩
  · skip
    refine wp_exit ?_
    refine k_x ?_
    refine k_x ?_
    refine b_x ?_
    refine k_n ?_
    refine wp_seq ?_
    refine wp_region_lit ?_
    refine wl_v hF rfl rfl rfl (q_move rfl (hF.eval rfl)) fun a hF => ?_
    refine wl_v hF rfl rfl rfl (q_assign rfl (hF.eval rfl)) fun a hF => ?_
    refine wl_nil ?_
    refine k_n ?_
    refine wp_ret ?_
    refine r_1 hF rfl rfl ?_
    have hO : St _ _ _ [] := hO
    exact ⟨congrArg i64 (by rw [← he, List.drop_of_length_le (by omega)]; rfl), hO⟩

theorem check_r (w0 : World) (t : TN) (hR : RdN w0 [] t) (hN : nodesF t.er ≤ 2305843009213693952) : Ret Try.prog 17 #[.agg (tnE.cells t).toArray] w0 (fun v w' => v = i64 (checkF t.er) ∧ St w0 [] w' []) := by
  have hO := St.init0 w0
  refine ret_of (m := 6) Try.func17 rfl Try.ntmps17 [(0, .agg (tnE.cells t).toArray)] rfl ⟨rfl, trivial⟩ fun a hF => ?_
  refine wp_seq ?_
  refine wp_region_lit ?_
  refine wl_e hF rfl rfl rfl (e_box hO rfl (hF.eval rfl) rfl) ?_
  rintro a _ w ⟨tk, rfl, hO⟩ hF
  refine wl_v hF rfl rfl rfl (q_assign rfl (hF.eval rfl)) fun a hF => ?_
  refine wl_nil ?_
  refine k_n ?_
  refine wp_seq ?_
  refine wp_region_lit ?_
  refine wl_v hF rfl rfl rfl (q_loadAgg Try.isAgg33 Try.sizeOf33 rfl (hF.eval rfl) (hO.cells 0 rfl) rfl) fun a hF => ?_
  refine wl_e hF rfl rfl rfl (c_buildSlice hF hO Try.underlying31 Try.sizeOf33 Try.zeroValue33 rfl rfl rfl rfl rfl rfl rfl) ?_
  rintro a _ w ⟨b1, rfl, hO⟩ hF
  refine wl_e hF rfl rfl rfl (c_call hF rfl rfl Try.call25 (all_r _ _ _ (show RdT _ [] _ tnE [t] from hO.rd 0 rfl) (fun s hs => by rw [List.mem_singleton.1 hs]; exact hR.at0 hO) (fun s hs => by rw [List.mem_singleton.1 hs]; exact hN))) ?_
  rintro a _ w ⟨rfl, hS⟩ hF
  have hO := hO.call0 hS
  have hO : St _ _ _ [_, _] := hO
  refine wl_v hF rfl rfl rfl (q_assign rfl (hF.eval rfl)) fun a hF => ?_
  refine wl_nil ?_
  refine k_n ?_
  refine wp_ret ?_
  refine r_1 hF rfl rfl ?_
  have hO := hO.drop1 0
  have hO := hO.drop1 0
  have hO : St _ _ _ [] := hO
  exact ⟨congrArg i64 (check_all t.er), hO⟩

end Go.Proofs.Ytfkmlcgccffmnaa
namespace Go.Proofs.Ytfkmlcgccffmnaa
open Go
set_option maxRecDepth 100000
set_option linter.unusedVariables false
set_option maxHeartbeats 1000000 in
theorem right_i (k : Int) (n : List UInt8) (hd : Hdr) (l : List TN) (ih : ∀ s ∈ l, ∀ (w0 : World), RdN w0 [] s → nodesF s.er ≤ 2305843009213693952 → Ret Try.prog 32 #[.agg (tnE.cells s).toArray] w0 (fun v w' => v = .bool (rightF s.er) ∧ St w0 [] w' [])) (w0 : World) (hR : RdN w0 [] (TN.mk k n hd l)) (hN : nodesF (TN.mk k n hd l).er ≤ 2305843009213693952) : Ret Try.prog 32 #[.agg (tnE.cells (TN.mk k n hd l)).toArray] w0 (fun v w' => v = .bool (rightF (TN.mk k n hd l).er) ∧ St w0 [] w' []) := by
  have hO := St.init0 w0
  refine ret_of (m := 48) Try.func32 rfl Try.ntmps32 [(0, .agg (tnE.cells (TN.mk k n hd l)).toArray)] rfl ⟨rfl, trivial⟩ fun a hF => ?_
  refine wp_seq ?_
  refine wp_region_lit ?_
  refine wl_e hF rfl rfl rfl (e_box hO rfl (hF.eval rfl) rfl) ?_
  rintro a _ w ⟨tk, rfl, hO⟩ hF
  refine wl_v hF rfl rfl rfl (q_assign rfl (hF.eval rfl)) fun a hF => ?_
  refine wl_nil ?_
  refine k_n ?_
  refine wp_seq ?_
  refine wp_seq ?_
  refine wp_region_lit ?_
  refine wl_v hF rfl rfl rfl (q_fieldAddr0 (d := 0) Try.underlying33 rfl (hF.eval rfl) rfl Try.sizeOf3 (by decide) rfl) fun a hF => ?_
  refine wl_v hF rfl rfl rfl (q_load Try.isAgg3 rfl (hF.eval rfl) (hO.cell 0 rfl rfl)) fun a hF => ?_
  refine wl_v hF rfl rfl rfl (q_eq rfl (hF.eval rfl) (hF.eval rfl)) fun a hF => ?_
  refine wl_nil ?_
  refine k_n ?_
  refine wp_ifD hF rfl rfl (fun hc1 => ?_) (fun hc1 => ?_)
  · skip
    refine wp_seq ?_
    refine wp_region_lit ?_
    refine wl_v hF rfl rfl rfl (q_fieldAddr0 (d := 1) Try.underlying33 rfl (hF.eval rfl) rfl Try.sizeOf9 (by decide) rfl) fun a hF => ?_
    refine wl_v hF rfl rfl rfl (q_load Try.isAgg9 rfl (hF.eval rfl) (hO.cell 0 rfl rfl)) fun a hF => ?_
    refine wl_v hF rfl rfl rfl (q_seq rfl (hF.eval rfl) (hF.eval rfl)) fun a hF => ?_
    refine wl_v hF rfl rfl rfl (q_move rfl (hF.eval rfl)) fun a hF => ?_
    refine wl_g hF rfl rfl rfl rfl rfl rfl (fun hg => q_fieldAddr0 (d := 2) Try.underlying33 rfl (hF.eval rfl) rfl Try.sizeOf31 (by decide) rfl) fun a hF => ?_
    refine wl_g hF rfl rfl rfl rfl rfl rfl (fun hg => q_load Try.isAgg31 rfl ((hF.eval rfl).trans (gv_of hg)) (hO.cell 0 rfl rfl)) fun a hF => ?_
    refine wl_g hF rfl rfl rfl rfl rfl rfl (fun hg => q_lenRd hR.sl Try.underlying31 rfl ((hF.eval rfl).trans (gv_of hg))) fun a hF => ?_
    refine wl_g hF rfl rfl rfl rfl rfl rfl (fun hg => q_eq rfl ((hF.eval rfl).trans (gv_of hg)) (hF.eval rfl)) fun a hF => ?_
    refine wl_v hF rfl rfl rfl (q_and rfl (hF.eval rfl) rfl (fun hg2 => ((hF.eval rfl).trans (gv_of hg2))) rfl) fun a hF => ?_
    refine wl_v hF rfl rfl rfl (q_move rfl (hF.eval rfl)) fun a hF => ?_
    refine wl_g hF rfl rfl rfl rfl rfl rfl (fun hg => q_fieldAddr0 (d := 2) Try.underlying33 rfl (hF.eval rfl) rfl Try.sizeOf31 (by decide) rfl) fun a hF => ?_
    refine wl_g hF rfl rfl rfl rfl rfl rfl (fun hg => q_load Try.isAgg31 rfl ((hF.eval rfl).trans (gv_of hg)) (hO.cell 0 rfl rfl)) fun a hF => ?_
    refine wl_g hF rfl rfl rfl rfl rfl rfl (fun hg => q_at (i := 0) hR.sl Try.underlying31 Try.sizeOf33 rfl ((hF.eval rfl).trans (gv_of hg)) (hF.eval rfl) (by have := of_g hg; omega)) fun a hF => ?_
    refine wl_g hF rfl rfl rfl rfl rfl rfl (fun hg => q_loadAgg Try.isAgg33 Try.sizeOf33 rfl ((hF.eval rfl).trans (gv_of hg)) (RdT.cells (hR.sl.now hO) (get_D (d := tn0) (by have := of_g hg; omega))) rfl) fun a hF => ?_
    refine wl_gk hO hF rfl rfl rfl rfl rfl rfl (fun hg => c_callG hF rfl rfl (by first | with_reducible rfl | (simp only [gv_of hg]; done) | (simp only [gv_of hg]; rfl)) Try.call32 (ih (l.getD 0 tn0) (getD_mem (by have := of_g hg; omega)) _ ((hR.sub _ (getD_mem (by have := of_g hg; omega))).at0 hO) (by have := nodes_in (k := k) (n := n) (hd := hd) (getD_mem (i := 0) (l := l) (by have := of_g hg; omega)); omega))) fun a w hO hF => ?_
    refine wl_v hF rfl rfl rfl (q_and rfl (hF.eval rfl) rfl (fun hg2 => ((hF.eval rfl).trans (gv_of hg2))) (dec_b _)) fun a hF => ?_
    refine wl_v hF rfl rfl rfl (q_move rfl (hF.eval rfl)) fun a hF => ?_
    refine wl_g hF rfl rfl rfl rfl rfl rfl (fun hg => q_fieldAddr0 (d := 2) Try.underlying33 rfl (hF.eval rfl) rfl Try.sizeOf31 (by decide) rfl) fun a hF => ?_
    refine wl_g hF rfl rfl rfl rfl rfl rfl (fun hg => q_load Try.isAgg31 rfl ((hF.eval rfl).trans (gv_of hg)) (hO.cell 0 rfl rfl)) fun a hF => ?_
    refine wl_g hF rfl rfl rfl rfl rfl rfl (fun hg => q_at (i := 1) hR.sl Try.underlying31 Try.sizeOf33 rfl ((hF.eval rfl).trans (gv_of hg)) (hF.eval rfl) (by have := of_g hg; omega)) fun a hF => ?_
    refine wl_g hF rfl rfl rfl rfl rfl rfl (fun hg => q_loadAgg Try.isAgg33 Try.sizeOf33 rfl ((hF.eval rfl).trans (gv_of hg)) (RdT.cells (hR.sl.now hO) (get_D (d := tn0) (by have := of_g hg; omega))) rfl) fun a hF => ?_
    refine wl_gk hO hF rfl rfl rfl rfl rfl rfl (fun hg => c_callG hF rfl rfl (by first | with_reducible rfl | (simp only [gv_of hg]; done) | (simp only [gv_of hg]; rfl)) Try.call32 (ih (l.getD 1 tn0) (getD_mem (by have := of_g hg; omega)) _ ((hR.sub _ (getD_mem (by have := of_g hg; omega))).at0 hO) (by have := nodes_in (k := k) (n := n) (hd := hd) (getD_mem (i := 1) (l := l) (by have := of_g hg; omega)); omega))) fun a w hO hF => ?_
    refine wl_v hF rfl rfl rfl (q_and rfl (hF.eval rfl) rfl (fun hg2 => ((hF.eval rfl).trans (gv_of hg2))) (dec_b _)) fun a hF => ?_
    refine wl_v hF rfl rfl rfl (q_assign rfl (hF.eval rfl)) fun a hF => ?_
    refine wl_nil ?_
    refine k_n ?_
    refine wp_ret ?_
    refine k_r ?_
    refine r_1 hF rfl rfl ?_
    have hO := hO.drop1 0
    have hO : St _ _ _ [] := hO
    exact ⟨congrArg Value.bool (right_5 hc1), hO⟩
  · skip
    refine wp_skip ?_
    refine k_n ?_
    refine wp_seq ?_
    refine wp_region_lit ?_
    refine wl_v hF rfl rfl rfl (q_fieldAddr0 (d := 0) Try.underlying33 rfl (hF.eval rfl) rfl Try.sizeOf3 (by decide) rfl) fun a hF => ?_
    refine wl_v hF rfl rfl rfl (q_load Try.isAgg3 rfl (hF.eval rfl) (hO.cell 0 rfl rfl)) fun a hF => ?_
    refine wl_v hF rfl rfl rfl (q_eq rfl (hF.eval rfl) (hF.eval rfl)) fun a hF => ?_
    refine wl_v hF rfl rfl rfl (q_move rfl (hF.eval rfl)) fun a hF => ?_
    refine wl_g hF rfl rfl rfl rfl rfl rfl (fun hg => q_fieldAddr0 (d := 0) Try.underlying33 rfl (hF.eval rfl) rfl Try.sizeOf3 (by decide) rfl) fun a hF => ?_
    refine wl_g hF rfl rfl rfl rfl rfl rfl (fun hg => q_load Try.isAgg3 rfl ((hF.eval rfl).trans (gv_of hg)) (hO.cell 0 rfl rfl)) fun a hF => ?_
    refine wl_g hF rfl rfl rfl rfl rfl rfl (fun hg => q_eq rfl ((hF.eval rfl).trans (gv_of hg)) (hF.eval rfl)) fun a hF => ?_
    refine wl_v hF rfl rfl rfl (q_or rfl (hF.eval rfl) rfl (fun hg2 => ((hF.eval rfl).trans (gv_of hg2))) rfl) fun a hF => ?_
    refine wl_v hF rfl rfl rfl (q_move rfl (hF.eval rfl)) fun a hF => ?_
    refine wl_g hF rfl rfl rfl rfl rfl rfl (fun hg => q_fieldAddr0 (d := 1) Try.underlying33 rfl (hF.eval rfl) rfl Try.sizeOf9 (by decide) rfl) fun a hF => ?_
    refine wl_g hF rfl rfl rfl rfl rfl rfl (fun hg => q_load Try.isAgg9 rfl ((hF.eval rfl).trans (gv_of hg)) (hO.cell 0 rfl rfl)) fun a hF => ?_
    refine wl_g hF rfl rfl rfl rfl rfl rfl (fun hg => q_sne rfl ((hF.eval rfl).trans (gv_of hg)) (hF.eval rfl)) fun a hF => ?_
    refine wl_v hF rfl rfl rfl (q_and rfl (hF.eval rfl) rfl (fun hg2 => ((hF.eval rfl).trans (gv_of hg2))) rfl) fun a hF => ?_
    refine wl_v hF rfl rfl rfl (q_move rfl (hF.eval rfl)) fun a hF => ?_
    refine wl_g hF rfl rfl rfl rfl rfl rfl (fun hg => q_fieldAddr0 (d := 2) Try.underlying33 rfl (hF.eval rfl) rfl Try.sizeOf31 (by decide) rfl) fun a hF => ?_
    refine wl_g hF rfl rfl rfl rfl rfl rfl (fun hg => q_load Try.isAgg31 rfl ((hF.eval rfl).trans (gv_of hg)) (hO.cell 0 rfl rfl)) fun a hF => ?_
    refine wl_g hF rfl rfl rfl rfl rfl rfl (fun hg => q_lenRd hR.sl Try.underlying31 rfl ((hF.eval rfl).trans (gv_of hg))) fun a hF => ?_
    refine wl_g hF rfl rfl rfl rfl rfl rfl (fun hg => q_eq rfl ((hF.eval rfl).trans (gv_of hg)) (hF.eval rfl)) fun a hF => ?_
    refine wl_v hF rfl rfl rfl (q_and rfl (hF.eval rfl) rfl (fun hg2 => ((hF.eval rfl).trans (gv_of hg2))) rfl) fun a hF => ?_
    refine wl_v hF rfl rfl rfl (q_assign rfl (hF.eval rfl)) fun a hF => ?_
    refine wl_nil ?_
    refine k_n ?_
    refine wp_ret ?_
    refine r_1 hF rfl rfl ?_
    have hO := hO.drop1 0
    have hO : St _ _ _ [] := hO
    exact ⟨congrArg Value.bool (right_6 hc1), hO⟩


theorem right_r (t : TN) : ∀ (w0 : World), RdN w0 [] t → nodesF t.er ≤ 2305843009213693952 → Ret Try.prog 32 #[.agg (tnE.cells t).toArray] w0 (fun v w' => v = .bool (rightF t.er) ∧ St w0 [] w' []) :=
  TN.ind (P := fun t => ∀ (w0 : World), RdN w0 [] t → nodesF t.er ≤ 2305843009213693952 → Ret Try.prog 32 #[.agg (tnE.cells t).toArray] w0 (fun v w' => v = .bool (rightF t.er) ∧ St w0 [] w' [])) (fun k n hd l ih w0 hR hN => right_i k n hd l ih w0 hR hN) t
theorem nodes_i (k : Int) (n : List UInt8) (hd : Hdr) (l : List TN) (ih : ∀ s ∈ l, ∀ (w0 : World), RdN w0 [] s → nodesF s.er ≤ 2305843009213693952 → Ret Try.prog 33 #[.agg (tnE.cells s).toArray] w0 (fun v w' => v = i64 (nodesF s.er) ∧ St w0 [] w' [])) (w0 : World) (hR : RdN w0 [] (TN.mk k n hd l)) (hN : nodesF (TN.mk k n hd l).er ≤ 2305843009213693952) : Ret Try.prog 33 #[.agg (tnE.cells (TN.mk k n hd l)).toArray] w0 (fun v w' => v = i64 (nodesF (TN.mk k n hd l).er) ∧ St w0 [] w' []) := by
  have hO := St.init0 w0
  have hl := RdT.lenle hR.sl
  have hnm : nodesF (TN.mk k n hd l).er = 1 + nodesL (l.map TN.er) := nodes_mk
  refine ret_of (m := 21) Try.func33 rfl Try.ntmps33 [(0, .agg (tnE.cells (TN.mk k n hd l)).toArray)] rfl ⟨rfl, trivial⟩ fun a hF => ?_
  refine wp_seq ?_
  refine wp_region_lit ?_
  refine wl_e hF rfl rfl rfl (e_box hO rfl (hF.eval rfl) rfl) ?_
  rintro a _ w ⟨tk, rfl, hO⟩ hF
  refine wl_v hF rfl rfl rfl (q_assign rfl (hF.eval rfl)) fun a hF => ?_
  refine wl_nil ?_
  refine k_n ?_
  refine wp_seq ?_
  refine wp_region_lit ?_
  refine wl_v hF rfl rfl rfl (q_assign rfl (hF.eval rfl)) fun a hF => ?_
  refine wl_nil ?_
  refine k_n ?_
  refine wp_seq ?_
  refine wp_seq ?_
  refine wp_region_lit ?_
  refine wl_v hF rfl rfl rfl (q_assign rfl (hF.eval rfl)) fun a hF => ?_
  refine wl_nil ?_
  refine k_n ?_
  refine wp_block ?_
  have hO : St _ _ _ [_] := hO
  refine wp_loopS (fun (s : Nat × Nat) a w' => match s with | (i, m) => (i ≤ l.length ∧ m = 1 + nodesL ((l.take i).map TN.er)) ∧ St w0 [] w' [.ob tk 33 (tnE.cells (TN.mk k n hd l))] ∧ Fr a 21 [(1, ptr (adr tk)), (3, i64 m), (4, i64 i)]) (fun (s : Nat × Nat) => match s with | (i, m) => l.length - i) (0, 1) ⟨⟨by omega, rfl⟩, hO, hF.sub ⟨rfl, rfl, rfl, trivial⟩⟩ ?_
  rintro ⟨i, m⟩ a w ⟨⟨hi, hm⟩, hO, hF⟩
  refine wp_seq ?_
  refine wp_seq ?_
  refine wp_region_lit ?_
  refine wl_v hF rfl rfl rfl (q_move rfl (hF.eval rfl)) fun a hF => ?_
  refine wl_v hF rfl rfl rfl (q_fieldAddr0 (d := 2) Try.underlying33 rfl (hF.eval rfl) rfl Try.sizeOf31 (by decide) rfl) fun a hF => ?_
  refine wl_v hF rfl rfl rfl (q_load Try.isAgg31 rfl (hF.eval rfl) (hO.cell 0 rfl rfl)) fun a hF => ?_
  refine wl_v hF rfl rfl rfl (q_lenRd hR.sl Try.underlying31 rfl (hF.eval rfl)) fun a hF => ?_
  refine wl_v hF rfl rfl rfl (q_lt rfl (hF.eval rfl) (hF.eval rfl)) fun a hF => ?_
  refine wl_nil ?_
  refine k_n ?_
  refine wp_ifD hF rfl rfl (fun hc1 => ?_) (fun hc1 => ?_)
  · skip
    refine wp_skip ?_
    refine k_n ?_
    refine wp_seq ?_
    refine wp_block ?_
    refine wp_region_lit ?_
    refine wl_v hF rfl rfl rfl (q_move rfl (hF.eval rfl)) fun a hF => ?_
    refine wl_v hF rfl rfl rfl (q_fieldAddr0 (d := 2) Try.underlying33 rfl (hF.eval rfl) rfl Try.sizeOf31 (by decide) rfl) fun a hF => ?_
    refine wl_v hF rfl rfl rfl (q_load Try.isAgg31 rfl (hF.eval rfl) (hO.cell 0 rfl rfl)) fun a hF => ?_
    refine wl_v hF rfl rfl rfl (q_move rfl (hF.eval rfl)) fun a hF => ?_
    obtain ⟨x, hx⟩ := get_ex (l := l) (i := i) (by omega)
    refine wl_v hF rfl rfl rfl (q_at (i := i) hR.sl Try.underlying31 Try.sizeOf33 rfl (hF.eval rfl) (hF.eval rfl) (by omega)) fun a hF => ?_
    refine wl_v hF rfl rfl rfl (q_loadAgg Try.isAgg33 Try.sizeOf33 rfl (hF.eval rfl) (RdT.cells (hR.sl.now hO) hx) rfl) fun a hF => ?_
    refine wl_e hF rfl rfl rfl (c_call hF rfl rfl Try.call33 (ih x (List.mem_of_getElem? hx) _ ((hR.sub x (List.mem_of_getElem? hx)).at0 hO) (by have := nodes_in (k := k) (n := n) (hd := hd) (List.mem_of_getElem? hx); omega))) ?_
    rintro a _ w ⟨rfl, hS⟩ hF
    have hO := hO.call0 hS
    have hO : St _ _ _ [_] := hO
    have hnl := nodesL_le (l := l) (i := i + 1)
    rw [nodesL_take hx] at hnl
    refine wl_v hF rfl rfl rfl (q_add rfl (hF.eval rfl) (hF.eval rfl) (by omega)) fun a hF => ?_
    refine wl_v hF rfl rfl rfl (q_assign rfl (hF.eval rfl)) fun a hF => ?_
    refine wl_nil ?_
    refine b_n ?_
    refine k_n ?_
    refine wp_region_lit ?_
    refine wl_v hF rfl rfl rfl (q_move rfl (hF.eval rfl)) fun a hF => ?_
    refine wl_v hF rfl rfl rfl (q_add rfl (hF.eval rfl) (hF.eval rfl) (by omega)) fun a hF => ?_
    refine wl_v hF rfl rfl rfl (q_assign rfl (hF.eval rfl)) fun a hF => ?_
    refine wl_nil ?_
    refine k_n ?_
    have hO : St _ _ _ [_] := hO
    exact ⟨(i + 1, m + nodesF x.er), ⟨⟨by omega, by rw [nodesL_take hx]; omega⟩, hO, hF.sub ⟨rfl, rfl, rfl, trivial⟩⟩, by dsimp only; omega⟩
  · skip
    refine wp_exit ?_
    refine k_x ?_
    refine k_x ?_
    refine b_x ?_
    refine k_n ?_
    refine wp_seq ?_
    refine wp_region_lit ?_
    refine wl_v hF rfl rfl rfl (q_move rfl (hF.eval rfl)) fun a hF => ?_
    refine wl_v hF rfl rfl rfl (q_assign rfl (hF.eval rfl)) fun a hF => ?_
    refine wl_nil ?_
    refine k_n ?_
    refine wp_ret ?_
    refine r_1 hF rfl rfl ?_
    have hO := hO.drop1 0
    have hO : St _ _ _ [] := hO
    exact ⟨congrArg i64 (by rw [hnm, hm, List.take_of_length_le (by omega)]), hO⟩


theorem nodes_r (t : TN) : ∀ (w0 : World), RdN w0 [] t → nodesF t.er ≤ 2305843009213693952 → Ret Try.prog 33 #[.agg (tnE.cells t).toArray] w0 (fun v w' => v = i64 (nodesF t.er) ∧ St w0 [] w' []) :=
  TN.ind (P := fun t => ∀ (w0 : World), RdN w0 [] t → nodesF t.er ≤ 2305843009213693952 → Ret Try.prog 33 #[.agg (tnE.cells t).toArray] w0 (fun v w' => v = i64 (nodesF t.er) ∧ St w0 [] w' [])) (fun k n hd l ih w0 hR hN => nodes_i k n hd l ih w0 hR hN) t
theorem checkR_r (w0 : World) (t : TN) (hR : RdN w0 [] t) (hN : nodesF t.er ≤ 2305843009213693952) : Ret Try.prog 18 #[.agg (tnE.cells t).toArray] w0 (fun v w' => v = i64 (checkF t.er) ∧ St w0 [] w' []) := by
  have hO := St.init0 w0
  refine ret_of (m := 9) Try.func18 rfl Try.ntmps18 [(0, .agg (tnE.cells t).toArray)] rfl ⟨rfl, trivial⟩ fun a hF => ?_
  refine wp_seq ?_
  refine wp_region_lit ?_
  refine wl_e hF rfl rfl rfl (e_box hO rfl (hF.eval rfl) rfl) ?_
  rintro a _ w ⟨tk, rfl, hO⟩ hF
  refine wl_v hF rfl rfl rfl (q_assign rfl (hF.eval rfl)) fun a hF => ?_
  refine wl_nil ?_
  refine k_n ?_
  refine wp_seq ?_
  refine wp_seq ?_
  refine wp_region_lit ?_
  refine wl_v hF rfl rfl rfl (q_loadAgg Try.isAgg33 Try.sizeOf33 rfl (hF.eval rfl) (hO.cells 0 rfl) rfl) fun a hF => ?_
  refine wl_e hF rfl rfl rfl (c_call hF rfl rfl Try.call32 (right_r t _ (hR.at0 hO) hN)) ?_
  rintro a _ w ⟨rfl, hS⟩ hF
  have hO := hO.call0 hS
  have hO : St _ _ _ [_] := hO
  refine wl_v hF rfl rfl rfl (q_not rfl (hF.eval rfl) (dec_b _)) fun a hF => ?_
  refine wl_nil ?_
  refine k_n ?_
  refine wp_ifD hF rfl rfl (fun hc1 => ?_) (fun hc1 => ?_)
  · skip
    refine wp_seq ?_
    refine wp_region_lit ?_
    refine wl_v hF rfl rfl rfl (q_assign rfl (hF.eval rfl)) fun a hF => ?_
    refine wl_nil ?_
    refine k_n ?_
    refine wp_ret ?_
    refine k_r ?_
    refine r_1 hF rfl rfl ?_
    have hO := hO.drop1 0
    have hO : St _ _ _ [] := hO
    exact ⟨congrArg i64 (if_pos (by simpa using hc1)).symm, hO⟩
  · skip
    refine wp_skip ?_
    refine k_n ?_
    refine wp_seq ?_
    refine wp_seq ?_
    refine wp_region_lit ?_
    refine wl_v hF rfl rfl rfl (q_loadAgg Try.isAgg33 Try.sizeOf33 rfl (hF.eval rfl) (hO.cells 0 rfl) rfl) fun a hF => ?_
    refine wl_e hF rfl rfl rfl (c_call hF rfl rfl Try.call33 (nodes_r t _ (hR.at0 hO) hN)) ?_
    rintro a _ w ⟨rfl, hS⟩ hF
    have hO := hO.call0 hS
    have hO : St _ _ _ [_] := hO
    refine wl_v hF rfl rfl rfl (q_gt rfl (hF.eval rfl) (hF.eval rfl)) fun a hF => ?_
    refine wl_nil ?_
    refine k_n ?_
    refine wp_ifD hF rfl rfl (fun hc2 => ?_) (fun hc2 => ?_)
    · skip
      refine wp_seq ?_
      refine wp_region_lit ?_
      refine wl_v hF rfl rfl rfl (q_assign rfl (hF.eval rfl)) fun a hF => ?_
      refine wl_nil ?_
      refine k_n ?_
      refine wp_ret ?_
      refine k_r ?_
      refine r_1 hF rfl rfl ?_
      have hO := hO.drop1 0
      have hO : St _ _ _ [] := hO
      exact ⟨congrArg i64 (by unfold checkF; rw [if_neg (by simpa using hc1), if_pos hc2]), hO⟩
    · skip
      refine wp_skip ?_
      refine k_n ?_
      refine wp_seq ?_
      refine wp_region_lit ?_
      refine wl_v hF rfl rfl rfl (q_assign rfl (hF.eval rfl)) fun a hF => ?_
      refine wl_nil ?_
      refine k_n ?_
      refine wp_ret ?_
      refine r_1 hF rfl rfl ?_
      have hO := hO.drop1 0
      have hO : St _ _ _ [] := hO
      exact ⟨congrArg i64 (by unfold checkF; rw [if_neg (by simpa using hc1), if_neg hc2]), hO⟩

end Go.Proofs.Ytfkmlcgccffmnaa
namespace Go.Proofs.Ytfkmlcgccffmnaa
open Go
set_option maxRecDepth 100000
set_option linter.unusedVariables false
set_option maxHeartbeats 1000000 in
theorem same_i (k : Int) (n : List UInt8) (hd : Hdr) (l : List TN) (ih : ∀ s ∈ l, ∀ (t : TN) (w0 : World), RdN w0 [] s → RdN w0 [] t → Ret Try.prog 19 #[.agg (tnE.cells s).toArray, .agg (tnE.cells t).toArray] w0 (fun v w' => v = .bool (sameF s.er t.er) ∧ St w0 [] w' [])) (k' : Int) (n' : List UInt8) (hd' : Hdr) (r : List TN) (w0 : World) (hA : RdN w0 [] (TN.mk k n hd l)) (hB : RdN w0 [] (TN.mk k' n' hd' r)) : Ret Try.prog 19 #[.agg (tnE.cells (TN.mk k n hd l)).toArray, .agg (tnE.cells (TN.mk k' n' hd' r)).toArray] w0 (fun v w' => v = .bool (sameF (TN.mk k n hd l).er (TN.mk k' n' hd' r).er) ∧ St w0 [] w' []) := by
  have hO := St.init0 w0
  have hla := RdT.lenle hA.sl
  have hlb := RdT.lenle hB.sl
  refine ret_of (m := 46) Try.func19 rfl Try.ntmps19 [(0, .agg (tnE.cells (TN.mk k n hd l)).toArray), (1, .agg (tnE.cells (TN.mk k' n' hd' r)).toArray)] rfl ⟨rfl, rfl, trivial⟩ fun a hF => ?_
  refine wp_seq ?_
  refine wp_region_lit ?_
  refine wl_e hF rfl rfl rfl (e_box hO rfl (hF.eval rfl) rfl) ?_
  rintro a _ w ⟨ta, rfl, hO⟩ hF
  refine wl_e hF rfl rfl rfl (e_box hO rfl (hF.eval rfl) rfl) ?_
  rintro a _ w ⟨tb, rfl, hO⟩ hF
  refine wl_v hF rfl rfl rfl (q_assign rfl (hF.eval rfl)) fun a hF => ?_
  refine wl_nil ?_
  refine k_n ?_
  refine wp_seq ?_
  refine wp_seq ?_
  refine wp_region_lit ?_
  refine wl_v hF rfl rfl rfl (q_fieldAddr0 (d := 0) Try.underlying33 rfl (hF.eval rfl) rfl Try.sizeOf3 (by decide) rfl) fun a hF => ?_
  refine wl_v hF rfl rfl rfl (q_load Try.isAgg3 rfl (hF.eval rfl) (hO.cell 1 rfl rfl)) fun a hF => ?_
  refine wl_v hF rfl rfl rfl (q_fieldAddr0 (d := 0) Try.underlying33 rfl (hF.eval rfl) rfl Try.sizeOf3 (by decide) rfl) fun a hF => ?_
  refine wl_v hF rfl rfl rfl (q_load Try.isAgg3 rfl (hF.eval rfl) (hO.cell 0 rfl rfl)) fun a hF => ?_
  refine wl_v hF rfl rfl rfl (q_ne rfl (hF.eval rfl) (hF.eval rfl)) fun a hF => ?_
  refine wl_v hF rfl rfl rfl (q_move rfl (hF.eval rfl)) fun a hF => ?_
  refine wl_g hF rfl rfl rfl rfl rfl rfl (fun hg => q_fieldAddr0 (d := 1) Try.underlying33 rfl (hF.eval rfl) rfl Try.sizeOf9 (by decide) rfl) fun a hF => ?_
  refine wl_g hF rfl rfl rfl rfl rfl rfl (fun hg => q_load Try.isAgg9 rfl ((hF.eval rfl).trans (gv_of hg)) (hO.cell 1 rfl rfl)) fun a hF => ?_
  refine wl_g hF rfl rfl rfl rfl rfl rfl (fun hg => q_fieldAddr0 (d := 1) Try.underlying33 rfl (hF.eval rfl) rfl Try.sizeOf9 (by decide) rfl) fun a hF => ?_
  refine wl_g hF rfl rfl rfl rfl rfl rfl (fun hg => q_load Try.isAgg9 rfl ((hF.eval rfl).trans (gv_of hg)) (hO.cell 0 rfl rfl)) fun a hF => ?_
  refine wl_g hF rfl rfl rfl rfl rfl rfl (fun hg => q_sne rfl ((hF.eval rfl).trans (gv_of hg)) ((hF.eval rfl).trans (gv_of hg))) fun a hF => ?_
  refine wl_v hF rfl rfl rfl (q_or rfl (hF.eval rfl) rfl (fun hg2 => ((hF.eval rfl).trans (gv_of hg2))) rfl) fun a hF => ?_
  refine wl_v hF rfl rfl rfl (q_move rfl (hF.eval rfl)) fun a hF => ?_
  refine wl_g hF rfl rfl rfl rfl rfl rfl (fun hg => q_fieldAddr0 (d := 2) Try.underlying33 rfl (hF.eval rfl) rfl Try.sizeOf31 (by decide) rfl) fun a hF => ?_
  refine wl_g hF rfl rfl rfl rfl rfl rfl (fun hg => q_load Try.isAgg31 rfl ((hF.eval rfl).trans (gv_of hg)) (hO.cell 1 rfl rfl)) fun a hF => ?_
  refine wl_g hF rfl rfl rfl rfl rfl rfl (fun hg => q_lenRd hA.sl Try.underlying31 rfl ((hF.eval rfl).trans (gv_of hg))) fun a hF => ?_
  refine wl_g hF rfl rfl rfl rfl rfl rfl (fun hg => q_fieldAddr0 (d := 2) Try.underlying33 rfl (hF.eval rfl) rfl Try.sizeOf31 (by decide) rfl) fun a hF => ?_
  refine wl_g hF rfl rfl rfl rfl rfl rfl (fun hg => q_load Try.isAgg31 rfl ((hF.eval rfl).trans (gv_of hg)) (hO.cell 0 rfl rfl)) fun a hF => ?_
  refine wl_g hF rfl rfl rfl rfl rfl rfl (fun hg => q_lenRd hB.sl Try.underlying31 rfl ((hF.eval rfl).trans (gv_of hg))) fun a hF => ?_
  refine wl_g hF rfl rfl rfl rfl rfl rfl (fun hg => q_ne rfl ((hF.eval rfl).trans (gv_of hg)) ((hF.eval rfl).trans (gv_of hg))) fun a hF => ?_
  refine wl_v hF rfl rfl rfl (q_or rfl (hF.eval rfl) rfl (fun hg2 => ((hF.eval rfl).trans (gv_of hg2))) rfl) fun a hF => ?_
  refine wl_nil ?_
  refine k_n ?_
  refine wp_ifD hF rfl rfl (fun hc1 => ?_) (fun hc1 => ?_)
  · skip
    refine wp_seq ?_
    refine wp_region_lit ?_
    refine wl_v hF rfl rfl rfl (q_assign rfl (hF.eval rfl)) fun a hF => ?_
    refine wl_nil ?_
    refine k_n ?_
    refine wp_ret ?_
    refine k_r ?_
    refine r_1 hF rfl rfl ?_
    have hO := hO.drop1 0
    have hO := hO.drop1 0
    have hO : St _ _ _ [] := hO
    exact ⟨congrArg Value.bool (same_no1 hc1).symm, hO⟩
  · skip
    have g1 := not_or.1 hc1
    have g2 := not_or.1 g1.1
    refine wp_skip ?_
    refine k_n ?_
    refine wp_seq ?_
    refine wp_seq ?_
    refine wp_region_lit ?_
    refine wl_v hF rfl rfl rfl (q_assign rfl (hF.eval rfl)) fun a hF => ?_
    refine wl_nil ?_
    refine k_n ?_
    refine wp_block ?_
    have hO := hO.pull 1 rfl
    have hO : St _ _ _ [_, _] := hO
    refine wp_loopS (fun (i : Nat) a w' => (i ≤ l.length ∧ sameL ((l.take i).map TN.er) ((r.take i).map TN.er) = true) ∧ St w0 [] w' [.ob ta 33 (tnE.cells (TN.mk k n hd l)), .ob tb 33 (tnE.cells (TN.mk k' n' hd' r))] ∧ Fr a 46 [(2, ptr (adr ta)), (3, ptr (adr tb)), (5, i64 i)]) (fun (i : Nat) => l.length - i) 0 ⟨⟨by omega, rfl⟩, hO, hF.sub ⟨rfl, rfl, rfl, trivial⟩⟩ ?_
    rintro i a w ⟨⟨hi, hte⟩, hO, hF⟩
    refine wp_seq ?_
    refine wp_seq ?_
    refine wp_region_lit ?_
    refine wl_v hF rfl rfl rfl (q_move rfl (hF.eval rfl)) fun a hF => ?_
    refine wl_v hF rfl rfl rfl (q_fieldAddr0 (d := 2) Try.underlying33 rfl (hF.eval rfl) rfl Try.sizeOf31 (by decide) rfl) fun a hF => ?_
    refine wl_v hF rfl rfl rfl (q_load Try.isAgg31 rfl (hF.eval rfl) (hO.cell 0 rfl rfl)) fun a hF => ?_
    refine wl_v hF rfl rfl rfl (q_lenRd hA.sl Try.underlying31 rfl (hF.eval rfl)) fun a hF => ?_
    refine wl_v hF rfl rfl rfl (q_lt rfl (hF.eval rfl) (hF.eval rfl)) fun a hF => ?_
    refine wl_nil ?_
    refine k_n ?_
    refine wp_ifD hF rfl rfl (fun hc2 => ?_) (fun hc2 => ?_)
    · skip
      refine wp_skip ?_
      refine k_n ?_
      refine wp_seq ?_
      refine wp_block ?_
      refine wp_seq ?_
      have hO := hO.drew
      refine wp_region_D [0, 1, 0, 0, 1, 0, 1, 0, 0, 1, 2, 0] (fun w => St _ _ w _) Try_mixed (by kernel_rfl) hO ?_
      refine wd_p hF rfl rfl rfl (fun w => q_fieldAddr0 (d := 2) Try.underlying33 rfl (hF.eval rfl) rfl Try.sizeOf31 (by decide) rfl) fun a hF => ?_
      refine wd_r hF rfl rfl rfl (fun w hO => q_load Try.isAgg31 rfl (hF.eval rfl) (hO.cell 0 rfl rfl)) fun a hF => ?_
      refine wd_p hF rfl rfl rfl (fun w => q_move rfl (hF.eval rfl)) fun a hF => ?_
      obtain ⟨x, hx⟩ := get_ex (l := l) (i := i) (by omega)
      refine wd_p hF rfl rfl rfl (fun w => q_at (i := i) hA.sl Try.underlying31 Try.sizeOf33 rfl (hF.eval rfl) (hF.eval rfl) (by omega)) fun a hF => ?_
      refine wd_r hF rfl rfl rfl (fun w hO => q_loadAgg Try.isAgg33 Try.sizeOf33 rfl (hF.eval rfl) (RdT.cells (hA.sl.now hO) hx) rfl) fun a hF => ?_
      refine wd_p hF rfl rfl rfl (fun w => q_fieldAddr0 (d := 2) Try.underlying33 rfl (hF.eval rfl) rfl Try.sizeOf31 (by decide) rfl) fun a hF => ?_
      refine wd_r hF rfl rfl rfl (fun w hO => q_load Try.isAgg31 rfl (hF.eval rfl) (hO.cell 1 rfl rfl)) fun a hF => ?_
      refine wd_p hF rfl rfl rfl (fun w => q_move rfl (hF.eval rfl)) fun a hF => ?_
      obtain ⟨y, hy⟩ := get_ex (l := r) (i := i) (by omega)
      refine wd_p hF rfl rfl rfl (fun w => q_at (i := i) hB.sl Try.underlying31 Try.sizeOf33 rfl (hF.eval rfl) (hF.eval rfl) (by omega)) fun a hF => ?_
      refine wd_r hF rfl rfl rfl (fun w hO => q_loadAgg Try.isAgg33 Try.sizeOf33 rfl (hF.eval rfl) (RdT.cells (hB.sl.now hO) hy) rfl) fun a hF => ?_
      refine wd_e hF rfl rfl rfl (c_call hF rfl rfl Try.call19 (ih x (List.mem_of_getElem? hx) y _ ((hA.sub _ (List.mem_of_getElem? hx)).at0 hO) ((hB.sub _ (List.mem_of_getElem? hy)).at0 hO))) (fun _ _ ⟨_, hS⟩ => hO.call0 hS) ?_
      rintro a _ w ⟨rfl, hS⟩ hF
      have hO := hO.call0 hS
      have hO : St _ _ _ [_, _] := hO
      refine wd_p hF rfl rfl rfl (fun w => q_not rfl (hF.eval rfl) (dec_b _)) fun a hF => ?_
      refine wd_nil ?_
      refine k_n ?_
      refine wp_ifD hF rfl rfl (fun hc3 => ?_) (fun hc3 => ?_)
      · skip
        refine wp_seq ?_
        refine wp_region_lit ?_
        refine wl_v hF rfl rfl rfl (q_assign rfl (hF.eval rfl)) fun a hF => ?_
        refine wl_nil ?_
        refine k_n ?_
        refine wp_ret ?_
        refine b_r ?_
        refine k_r ?_
        refine k_r ?_
        refine b_r ?_
        refine k_r ?_
        refine r_1 hF rfl rfl ?_
        have hO := hO.drop1 0
        have hO := hO.drop1 0
        have hO : St _ _ _ [] := hO
        exact ⟨congrArg Value.bool (same_no2 hx hy (by simpa using hc3)).symm, hO⟩
      · skip
        refine wp_skip ?_
        refine b_n ?_
        refine k_n ?_
        refine wp_region_lit ?_
        refine wl_v hF rfl rfl rfl (q_move rfl (hF.eval rfl)) fun a hF => ?_
        refine wl_v hF rfl rfl rfl (q_add rfl (hF.eval rfl) (hF.eval rfl) (by omega)) fun a hF => ?_
        refine wl_v hF rfl rfl rfl (q_assign rfl (hF.eval rfl)) fun a hF => ?_
        refine wl_nil ?_
        refine k_n ?_
        have hO : St _ _ _ [_, _] := hO
        exact ⟨i + 1, ⟨⟨by omega, sameL_at hte hx hy (by simpa using hc3)⟩, hO, hF.sub ⟨rfl, rfl, rfl, trivial⟩⟩, by omega⟩
    · skip
      refine wp_exit ?_
      refine k_x ?_
      refine k_x ?_
      refine b_x ?_
      refine k_n ?_
      refine wp_seq ?_
      refine wp_region_lit ?_
      refine wl_v hF rfl rfl rfl (q_assign rfl (hF.eval rfl)) fun a hF => ?_
      refine wl_nil ?_
      refine k_n ?_
      refine wp_ret ?_
      refine r_1 hF rfl rfl ?_
      have hO := hO.drop1 0
      have hO := hO.drop1 0
      have hO : St _ _ _ [] := hO
      exact ⟨congrArg Value.bool (same_yes (Classical.not_not.1 g2.1) (Classical.not_not.1 g2.2) hte (by omega) (by omega)).symm, hO⟩


theorem same_r (s : TN) : ∀ (t : TN) (w0 : World), RdN w0 [] s → RdN w0 [] t → Ret Try.prog 19 #[.agg (tnE.cells s).toArray, .agg (tnE.cells t).toArray] w0 (fun v w' => v = .bool (sameF s.er t.er) ∧ St w0 [] w' []) :=
  TN.ind (P := fun s => ∀ (t : TN) (w0 : World), RdN w0 [] s → RdN w0 [] t → Ret Try.prog 19 #[.agg (tnE.cells s).toArray, .agg (tnE.cells t).toArray] w0 (fun v w' => v = .bool (sameF s.er t.er) ∧ St w0 [] w' [])) (fun k n hd l ih t w0 hA hB => by
    obtain ⟨k', n', hd', r⟩ := t
    exact same_i k n hd l ih k' n' hd' r w0 hA hB) s
set_option maxHeartbeats 1000000 in
theorem sameSubs_r (w0 : World) (va vb : Value) (la lb : List SbN) (hA : RdT w0 [] va sbE la) (hB : RdT w0 [] vb sbE lb) (hAn : ∀ s ∈ la, RdN w0 [] s.t) (hBn : ∀ s ∈ lb, RdN w0 [] s.t) : Ret Try.prog 11 #[va, vb] w0 (fun v w' => v = .bool (decide (la.map SbN.er = lb.map SbN.er)) ∧ St w0 [] w' []) := by
  have hO := St.init0 w0
  have hll := RdT.lenle hA
  have hlb := RdT.lenle hB
  refine ret_of (m := 42) Try.func11 rfl Try.ntmps11 [(0, va), (1, vb)] rfl ⟨rfl, rfl, trivial⟩ fun a hF => ?_
  refine wp_seq ?_
  refine wp_region_lit ?_
  refine wl_v hF rfl rfl rfl (q_assign rfl (hF.eval rfl)) fun a hF => ?_
  refine wl_nil ?_
  refine k_n ?_
  refine wp_seq ?_
  refine wp_seq ?_
  refine wp_region_lit ?_
  refine wl_v hF rfl rfl rfl (q_move rfl (hF.eval rfl)) fun a hF => ?_
  refine wl_v hF rfl rfl rfl (q_lenRd hA Try.underlying23 rfl (hF.eval rfl)) fun a hF => ?_
  refine wl_v hF rfl rfl rfl (q_move rfl (hF.eval rfl)) fun a hF => ?_
  refine wl_v hF rfl rfl rfl (q_lenRd hB Try.underlying23 rfl (hF.eval rfl)) fun a hF => ?_
  refine wl_v hF rfl rfl rfl (q_ne rfl (hF.eval rfl) (hF.eval rfl)) fun a hF => ?_
  refine wl_nil ?_
  refine k_n ?_
  refine wp_ifD hF rfl rfl (fun hc1 => ?_) (fun hc1 => ?_)
  · skip
    refine wp_seq ?_
    refine wp_region_lit ?_
    refine wl_v hF rfl rfl rfl (q_assign rfl (hF.eval rfl)) fun a hF => ?_
    refine wl_nil ?_
    refine k_n ?_
    refine wp_ret ?_
    refine k_r ?_
    refine r_1 hF rfl rfl ?_
    exact ⟨congrArg Value.bool (subs_no hc1).symm, hO⟩
  · skip
    refine wp_skip ?_
    refine k_n ?_
    refine wp_seq ?_
    refine wp_seq ?_
    refine wp_region_lit ?_
    refine wl_v hF rfl rfl rfl (q_assign rfl (hF.eval rfl)) fun a hF => ?_
    refine wl_nil ?_
    refine k_n ?_
    refine wp_block ?_
    have hO : St _ _ _ [] := hO
    refine wp_loopS (fun (i : Nat) a w' => (i ≤ la.length ∧ (la.take i).map SbN.er = (lb.take i).map SbN.er) ∧ St w0 [] w' [] ∧ Fr a 42 [(0, va), (1, vb), (5, i64 i)]) (fun (i : Nat) => la.length - i) 0 ⟨⟨by omega, rfl⟩, hO, hF.sub ⟨rfl, rfl, rfl, trivial⟩⟩ ?_
    rintro i a w ⟨⟨hi, hte⟩, hO, hF⟩
    refine wp_seq ?_
    refine wp_seq ?_
    refine wp_region_lit ?_
    refine wl_v hF rfl rfl rfl (q_move rfl (hF.eval rfl)) fun a hF => ?_
    refine wl_v hF rfl rfl rfl (q_move rfl (hF.eval rfl)) fun a hF => ?_
    refine wl_v hF rfl rfl rfl (q_lenRd hA Try.underlying23 rfl (hF.eval rfl)) fun a hF => ?_
    refine wl_v hF rfl rfl rfl (q_lt rfl (hF.eval rfl) (hF.eval rfl)) fun a hF => ?_
    refine wl_nil ?_
    refine k_n ?_
    refine wp_ifD hF rfl rfl (fun hc2 => ?_) (fun hc2 => ?_)
    · skip
      refine wp_skip ?_
      refine k_n ?_
      refine wp_seq ?_
      refine wp_block ?_
      refine wp_seq ?_
      have hO := hO.drew
      refine wp_region_D [0, 0, 0, 0, 1, 0, 0, 0, 0, 1, 0, 0, 0, 0, 0, 0, 1, 0, 0, 0, 0, 1, 2, 0, 0] (fun w => St _ _ w _) Try_mixed (by kernel_rfl) hO ?_
      refine wd_p hF rfl rfl rfl (fun w => q_move rfl (hF.eval rfl)) fun a hF => ?_
      refine wd_p hF rfl rfl rfl (fun w => q_move rfl (hF.eval rfl)) fun a hF => ?_
      obtain ⟨x, hx⟩ := get_ex (l := la) (i := i) (by omega)
      refine wd_p hF rfl rfl rfl (fun w => q_at (i := i) hA Try.underlying23 Try.sizeOf45 rfl (hF.eval rfl) (hF.eval rfl) (by omega)) fun a hF => ?_
      refine wd_p hF rfl rfl rfl (fun w => q_fieldAddr0 (d := 0) Try.underlying45 rfl (hF.eval rfl) rfl Try.sizeOf9 (by decide) rfl) fun a hF => ?_
      refine wd_r hF rfl rfl rfl (fun w hO => q_load Try.isAgg9 rfl (hF.eval rfl) (RdT.cells (hA.now hO) hx _ _ rfl)) fun a hF => ?_
      refine wd_p hF rfl rfl rfl (fun w => q_move rfl (hF.eval rfl)) fun a hF => ?_
      refine wd_p hF rfl rfl rfl (fun w => q_move rfl (hF.eval rfl)) fun a hF => ?_
      obtain ⟨y, hy⟩ := get_ex (l := lb) (i := i) (by omega)
      refine wd_p hF rfl rfl rfl (fun w => q_at (i := i) hB Try.underlying23 Try.sizeOf45 rfl (hF.eval rfl) (hF.eval rfl) (by omega)) fun a hF => ?_
      refine wd_p hF rfl rfl rfl (fun w => q_fieldAddr0 (d := 0) Try.underlying45 rfl (hF.eval rfl) rfl Try.sizeOf9 (by decide) rfl) fun a hF => ?_
      refine wd_r hF rfl rfl rfl (fun w hO => q_load Try.isAgg9 rfl (hF.eval rfl) (RdT.cells (hB.now hO) hy _ _ rfl)) fun a hF => ?_
      refine wd_p hF rfl rfl rfl (fun w => q_sne rfl (hF.eval rfl) (hF.eval rfl)) fun a hF => ?_
      refine wd_p hF rfl rfl rfl (fun w => q_move rfl (hF.eval rfl)) fun a hF => ?_
      refine wd_gp hF rfl rfl rfl rfl rfl rfl (fun hg w => q_move rfl (hF.eval rfl)) fun a hF => ?_
      refine wd_gp hF rfl rfl rfl rfl rfl rfl (fun hg w => q_move rfl (hF.eval rfl)) fun a hF => ?_
      refine wd_gp hF rfl rfl rfl rfl rfl rfl (fun hg w => q_at (i := i) hA Try.underlying23 Try.sizeOf45 rfl ((hF.eval rfl).trans (gv_of hg)) ((hF.eval rfl).trans (gv_of hg)) (by omega)) fun a hF => ?_
      refine wd_gp hF rfl rfl rfl rfl rfl rfl (fun hg w => q_fieldAddr0 (d := 1) Try.underlying45 rfl ((hF.eval rfl).trans (gv_of hg)) rfl Try.sizeOf33 (by decide) rfl) fun a hF => ?_
      refine wd_gr hF rfl rfl rfl rfl rfl rfl (fun hg w hO => q_loadAgg Try.isAgg33 Try.sizeOf33 rfl ((hF.eval rfl).trans (gv_of hg)) (RdT.cellsK (hA.now hO) hx 1 3 rfl) rfl) fun a hF => ?_
      refine wd_gp hF rfl rfl rfl rfl rfl rfl (fun hg w => q_move rfl (hF.eval rfl)) fun a hF => ?_
      refine wd_gp hF rfl rfl rfl rfl rfl rfl (fun hg w => q_move rfl (hF.eval rfl)) fun a hF => ?_
      refine wd_gp hF rfl rfl rfl rfl rfl rfl (fun hg w => q_at (i := i) hB Try.underlying23 Try.sizeOf45 rfl ((hF.eval rfl).trans (gv_of hg)) ((hF.eval rfl).trans (gv_of hg)) (by omega)) fun a hF => ?_
      refine wd_gp hF rfl rfl rfl rfl rfl rfl (fun hg w => q_fieldAddr0 (d := 1) Try.underlying45 rfl ((hF.eval rfl).trans (gv_of hg)) rfl Try.sizeOf33 (by decide) rfl) fun a hF => ?_
      refine wd_gr hF rfl rfl rfl rfl rfl rfl (fun hg w hO => q_loadAgg Try.isAgg33 Try.sizeOf33 rfl ((hF.eval rfl).trans (gv_of hg)) (RdT.cellsK (hB.now hO) hy 1 3 rfl) rfl) fun a hF => ?_
      refine wd_gk2 hO hF rfl rfl rfl rfl rfl rfl (fun hg => c_callG hF rfl rfl (by first | with_reducible rfl | (simp only [gv_of hg]; done) | (simp only [gv_of hg]; rfl)) Try.call19 (same_r x.t y.t _ ((hAn x (List.mem_of_getElem? hx)).at0 hO) ((hBn y (List.mem_of_getElem? hy)).at0 hO))) (fun _ hS => hS) fun a w hO hF => ?_
      refine wd_gp hF rfl rfl rfl rfl rfl rfl (fun hg w => q_not rfl ((hF.eval rfl).trans (gv_of hg)) (dec_b _)) fun a hF => ?_
      refine wd_p hF rfl rfl rfl (fun w => q_or rfl (hF.eval rfl) rfl (fun hg2 => ((hF.eval rfl).trans (gv_of hg2))) rfl) fun a hF => ?_
      refine wd_nil ?_
      refine k_n ?_
      refine wp_ifD hF rfl rfl (fun hc3 => ?_) (fun hc3 => ?_)
      · skip
        refine wp_seq ?_
        refine wp_region_lit ?_
        refine wl_v hF rfl rfl rfl (q_assign rfl (hF.eval rfl)) fun a hF => ?_
        refine wl_nil ?_
        refine k_n ?_
        refine wp_ret ?_
        refine b_r ?_
        refine k_r ?_
        refine k_r ?_
        refine b_r ?_
        refine k_r ?_
        refine r_1 hF rfl rfl ?_
        exact ⟨congrArg Value.bool (subs_no2 hx hy hc3).symm, hO⟩
      · skip
        refine wp_skip ?_
        refine b_n ?_
        refine k_n ?_
        refine wp_region_lit ?_
        refine wl_v hF rfl rfl rfl (q_move rfl (hF.eval rfl)) fun a hF => ?_
        refine wl_v hF rfl rfl rfl (q_add rfl (hF.eval rfl) (hF.eval rfl) (by omega)) fun a hF => ?_
        refine wl_v hF rfl rfl rfl (q_assign rfl (hF.eval rfl)) fun a hF => ?_
        refine wl_nil ?_
        refine k_n ?_
        have hO : St _ _ _ [] := hO
        exact ⟨i + 1, ⟨⟨by omega, subs_next hx hy hc3 hte⟩, hO, hF.sub ⟨rfl, rfl, rfl, trivial⟩⟩, by omega⟩
    · skip
      refine wp_exit ?_
      refine k_x ?_
      refine k_x ?_
      refine b_x ?_
      refine k_n ?_
      refine wp_seq ?_
      refine wp_region_lit ?_
      refine wl_v hF rfl rfl rfl (q_assign rfl (hF.eval rfl)) fun a hF => ?_
      refine wl_nil ?_
      refine k_n ?_
      refine wp_ret ?_
      refine r_1 hF rfl rfl ?_
      exact ⟨congrArg Value.bool (subs_yes hte (by omega) (by omega)).symm, hO⟩

theorem eqf_r (l r : List TN) (ih : ∀ s ∈ l, ∀ (t : TN) (w0 : World), RdN w0 [] s → RdN w0 [] t → Ret Try.prog 51 #[.agg (tnE.cells s).toArray, .agg (tnE.cells t).toArray] w0 (fun v w' => v = .bool (sameF s.er t.er) ∧ St w0 [] w' [])) (w0 : World) (va vb : Value) (hA : RdT w0 [] va tnE l) (hB : RdT w0 [] vb tnE r) (hAn : ∀ s ∈ l, RdN w0 [] s) (hBn : ∀ s ∈ r, RdN w0 [] s) : Ret Try.prog 52 #[va, vb, .func (.func 51) #[] #[]] w0 (fun v w' => v = .bool (sameL (l.map TN.er) (r.map TN.er)) ∧ St w0 [] w' []) := by
  have hO := St.init0 w0
  have hla := RdT.lenle hA
  have hlb := RdT.lenle hB
  refine ret_of (m := 32) Try.func52 rfl Try.ntmps52 [(0, va), (1, vb), (2, .func (.func 51) #[] #[])] rfl ⟨rfl, rfl, rfl, trivial⟩ fun a hF => ?_
  refine wp_seq ?_
  refine wp_region_lit ?_
  refine wl_v hF rfl rfl rfl (q_assign rfl (hF.eval rfl)) fun a hF => ?_
  refine wl_nil ?_
  refine k_n ?_
  refine wp_seq ?_
  refine wp_seq ?_
  refine wp_region_lit ?_
  refine wl_v hF rfl rfl rfl (q_move rfl (hF.eval rfl)) fun a hF => ?_
  refine wl_v hF rfl rfl rfl (q_lenRd hA Try.underlying31 rfl (hF.eval rfl)) fun a hF => ?_
  refine wl_v hF rfl rfl rfl (q_move rfl (hF.eval rfl)) fun a hF => ?_
  refine wl_v hF rfl rfl rfl (q_lenRd hB Try.underlying31 rfl (hF.eval rfl)) fun a hF => ?_
  refine wl_v hF rfl rfl rfl (q_ne rfl (hF.eval rfl) (hF.eval rfl)) fun a hF => ?_
  refine wl_nil ?_
  refine k_n ?_
  refine wp_ifD hF rfl rfl (fun hc1 => ?_) (fun hc1 => ?_)
  · skip
    refine wp_seq ?_
    refine wp_region_lit ?_
    refine wl_v hF rfl rfl rfl (q_assign rfl (hF.eval rfl)) fun a hF => ?_
    refine wl_nil ?_
    refine k_n ?_
    refine wp_ret ?_
    refine k_r ?_
    refine r_1 hF rfl rfl ?_
    have hO : St _ _ _ [] := hO
    exact ⟨congrArg Value.bool (eqf_no hc1).symm, hO⟩
  · skip
    refine wp_skip ?_
    refine k_n ?_
    refine wp_seq ?_
    refine wp_seq ?_
    refine wp_region_lit ?_
    refine wl_v hF rfl rfl rfl (q_move rfl (hF.eval rfl)) fun a hF => ?_
    refine wl_v hF rfl rfl rfl (q_lenRd hA Try.underlying31 rfl (hF.eval rfl)) fun a hF => ?_
    refine wl_v hF rfl rfl rfl (q_move rfl (hF.eval rfl)) fun a hF => ?_
    refine wl_nil ?_
    refine k_n ?_
    refine wp_block ?_
    have hO : St _ _ _ [] := hO
    refine wp_loopS (fun (i : Nat) a w' => (i ≤ l.length ∧ sameL ((l.take i).map TN.er) ((r.take i).map TN.er) = true) ∧ St w0 [] w' [] ∧ Fr a 32 [(1, vb), (2, .func (.func 51) #[] #[]), (15, va), (16, i64 l.length), (17, i64 i)]) (fun (i : Nat) => l.length - i) 0 ⟨⟨by omega, rfl⟩, hO, hF.sub ⟨rfl, rfl, rfl, rfl, rfl, trivial⟩⟩ ?_
    rintro i a w ⟨⟨hi, hte⟩, hO, hF⟩
    refine wp_seq ?_
    refine wp_region_lit ?_
    refine wl_v hF rfl rfl rfl (q_lt rfl (hF.eval rfl) (hF.eval rfl)) fun a hF => ?_
    refine wl_nil ?_
    refine k_n ?_
    refine wp_seq ?_
    refine wp_ifD hF rfl rfl (fun hc2 => ?_) (fun hc2 => ?_)
    · skip
      refine wp_skip ?_
      refine k_n ?_
      refine wp_seq ?_
      refine wp_block ?_
      refine wp_seq ?_
      refine wp_region_lit ?_
      refine wl_v hF rfl rfl rfl (q_move rfl (hF.eval rfl)) fun a hF => ?_
      obtain ⟨x, hx⟩ := get_ex (l := l) (i := i) (by omega)
      refine wl_v hF rfl rfl rfl (q_at (i := i) hA Try.underlying31 Try.sizeOf33 rfl (hF.eval rfl) (hF.eval rfl) (by omega)) fun a hF => ?_
      refine wl_v hF rfl rfl rfl (q_loadAgg Try.isAgg33 Try.sizeOf33 rfl (hF.eval rfl) (RdT.cells (hA.now hO) hx) rfl) fun a hF => ?_
      refine wl_e hF rfl rfl rfl (e_alloc hO Try.zeroValue33 rfl rfl) ?_
      rintro a _ w ⟨tx, rfl, hO⟩ hF
      refine wl_v hF rfl rfl rfl (q_assign rfl (hF.eval rfl)) fun a hF => ?_
      refine wl_s hF rfl rfl (e_storeAll hO (i := 0) rfl Try.sizeOf33 rfl (hF.eval rfl) (hF.eval rfl) rfl rfl) ?_
      rintro a _ w ⟨-, hO⟩ hF
      have hO : St _ _ _ [_] := hO
      refine wl_nil ?_
      refine k_n ?_
      refine wp_seq ?_
      refine wp_region_lit ?_
      refine wl_v hF rfl rfl rfl (q_move rfl (hF.eval rfl)) fun a hF => ?_
      refine wl_v hF rfl rfl rfl (q_move rfl (hF.eval rfl)) fun a hF => ?_
      obtain ⟨y, hy⟩ := get_ex (l := r) (i := i) (by omega)
      refine wl_v hF rfl rfl rfl (q_at (i := i) hB Try.underlying31 Try.sizeOf33 rfl (hF.eval rfl) (hF.eval rfl) (by omega)) fun a hF => ?_
      refine wl_v hF rfl rfl rfl (q_loadAgg Try.isAgg33 Try.sizeOf33 rfl (hF.eval rfl) (RdT.cells (hB.now hO) hy) rfl) fun a hF => ?_
      refine wl_e hF rfl rfl rfl (e_alloc hO Try.zeroValue33 rfl rfl) ?_
      rintro a _ w ⟨ty, rfl, hO⟩ hF
      refine wl_s hF rfl rfl (e_storeAll hO (i := 0) rfl Try.sizeOf33 rfl (hF.eval rfl) (hF.eval rfl) rfl rfl) ?_
      rintro a _ w ⟨-, hO⟩ hF
      have hO : St _ _ _ [_, _] := hO
      refine wl_nil ?_
      refine k_n ?_
      refine wp_seq ?_
      refine wp_region_lit ?_
      refine wl_v hF rfl rfl rfl (q_move rfl (hF.eval rfl)) fun a hF => ?_
      refine wl_v hF rfl rfl rfl (q_loadAgg Try.isAgg33 Try.sizeOf33 rfl (hF.eval rfl) (hO.cells 1 rfl) rfl) fun a hF => ?_
      refine wl_v hF rfl rfl rfl (q_loadAgg Try.isAgg33 Try.sizeOf33 rfl (hF.eval rfl) (hO.cells 0 rfl) rfl) fun a hF => ?_
      refine wl_e hF rfl rfl rfl (c_callV hF rfl (hF.eval rfl) rfl rfl Try.call51 (ih x (List.mem_of_getElem? hx) y _ ((hAn x (List.mem_of_getElem? hx)).at0 hO) ((hBn y (List.mem_of_getElem? hy)).at0 hO))) ?_
      rintro a _ w ⟨rfl, hS⟩ hF
      have hO := hO.call0 hS
      have hO : St _ _ _ [_, _] := hO
      refine wl_v hF rfl rfl rfl (q_not rfl (hF.eval rfl) (dec_b _)) fun a hF => ?_
      refine wl_nil ?_
      refine k_n ?_
      refine wp_ifD hF rfl rfl (fun hc3 => ?_) (fun hc3 => ?_)
      · skip
        refine wp_seq ?_
        refine wp_region_lit ?_
        refine wl_v hF rfl rfl rfl (q_assign rfl (hF.eval rfl)) fun a hF => ?_
        refine wl_nil ?_
        refine k_n ?_
        refine wp_ret ?_
        refine b_r ?_
        refine k_r ?_
        refine k_r ?_
        refine b_r ?_
        refine k_r ?_
        refine r_1 hF rfl rfl ?_
        have hO := hO.drop1 0
        have hO := hO.drop1 0
        have hO : St _ _ _ [] := hO
        exact ⟨congrArg Value.bool (eqf_no2 hx hy (by simpa using hc3)).symm, hO⟩
      · skip
        refine wp_skip ?_
        refine b_n ?_
        refine k_n ?_
        refine wp_region_lit ?_
        refine wl_v hF rfl rfl rfl (q_add rfl (hF.eval rfl) (hF.eval rfl) (by omega)) fun a hF => ?_
        refine wl_v hF rfl rfl rfl (q_move rfl (hF.eval rfl)) fun a hF => ?_
        refine wl_nil ?_
        refine k_n ?_
        have hO := hO.drop1 0
        have hO := hO.drop1 0
        have hO : St _ _ _ [] := hO
        exact ⟨i + 1, ⟨⟨by omega, sameL_at hte hx hy (by simpa using hc3)⟩, hO, hF.sub ⟨rfl, rfl, rfl, rfl, rfl, trivial⟩⟩, by omega⟩
    · skip
      refine wp_exit ?_
      refine k_x ?_
      refine k_x ?_
      refine b_x ?_
      refine k_n ?_
      refine wp_seq ?_
      refine wp_region_lit ?_
      refine wl_v hF rfl rfl rfl (q_assign rfl (hF.eval rfl)) fun a hF => ?_
      refine wl_nil ?_
      refine k_n ?_
      refine wp_ret ?_
      refine r_1 hF rfl rfl ?_
      have hO : St _ _ _ [] := hO
      exact ⟨congrArg Value.bool (eqf_yes hte (by omega) (by omega)).symm, hO⟩

set_option maxHeartbeats 1000000 in
theorem equal_i (k : Int) (n : List UInt8) (hd : Hdr) (l : List TN) (ih : ∀ s ∈ l, ∀ (t : TN) (w0 : World), RdN w0 [] s → RdN w0 [] t → Ret Try.prog 51 #[.agg (tnE.cells s).toArray, .agg (tnE.cells t).toArray] w0 (fun v w' => v = .bool (sameF s.er t.er) ∧ St w0 [] w' [])) (k' : Int) (n' : List UInt8) (hd' : Hdr) (r : List TN) (w0 : World) (hA : RdN w0 [] (TN.mk k n hd l)) (hB : RdN w0 [] (TN.mk k' n' hd' r)) : Ret Try.prog 51 #[.agg (tnE.cells (TN.mk k n hd l)).toArray, .agg (tnE.cells (TN.mk k' n' hd' r)).toArray] w0 (fun v w' => v = .bool (sameF (TN.mk k n hd l).er (TN.mk k' n' hd' r).er) ∧ St w0 [] w' []) := by
  have hO := St.init0 w0
  refine ret_of (m := 24) Try.func51 rfl Try.ntmps51 [(0, .agg (tnE.cells (TN.mk k n hd l)).toArray), (1, .agg (tnE.cells (TN.mk k' n' hd' r)).toArray)] rfl ⟨rfl, rfl, trivial⟩ fun a hF => ?_
  refine wp_seq ?_
  refine wp_region_lit ?_
  refine wl_e hF rfl rfl rfl (e_box hO rfl (hF.eval rfl) rfl) ?_
  rintro a _ w ⟨ta, rfl, hO⟩ hF
  refine wl_e hF rfl rfl rfl (e_box hO rfl (hF.eval rfl) rfl) ?_
  rintro a _ w ⟨tb, rfl, hO⟩ hF
  refine wl_v hF rfl rfl rfl (q_assign rfl (hF.eval rfl)) fun a hF => ?_
  refine wl_nil ?_
  refine k_n ?_
  refine wp_seq ?_
  refine wp_region_lit ?_
  refine wl_v hF rfl rfl rfl (q_fieldAddr0 (d := 0) Try.underlying33 rfl (hF.eval rfl) rfl Try.sizeOf3 (by decide) rfl) fun a hF => ?_
  refine wl_v hF rfl rfl rfl (q_load Try.isAgg3 rfl (hF.eval rfl) (hO.cell 1 rfl rfl)) fun a hF => ?_
  refine wl_v hF rfl rfl rfl (q_fieldAddr0 (d := 0) Try.underlying33 rfl (hF.eval rfl) rfl Try.sizeOf3 (by decide) rfl) fun a hF => ?_
  refine wl_v hF rfl rfl rfl (q_load Try.isAgg3 rfl (hF.eval rfl) (hO.cell 0 rfl rfl)) fun a hF => ?_
  refine wl_v hF rfl rfl rfl (q_eq rfl (hF.eval rfl) (hF.eval rfl)) fun a hF => ?_
  refine wl_v hF rfl rfl rfl (q_move rfl (hF.eval rfl)) fun a hF => ?_
  refine wl_g hF rfl rfl rfl rfl rfl rfl (fun hg => q_fieldAddr0 (d := 1) Try.underlying33 rfl (hF.eval rfl) rfl Try.sizeOf9 (by decide) rfl) fun a hF => ?_
  refine wl_g hF rfl rfl rfl rfl rfl rfl (fun hg => q_load Try.isAgg9 rfl ((hF.eval rfl).trans (gv_of hg)) (hO.cell 1 rfl rfl)) fun a hF => ?_
  refine wl_g hF rfl rfl rfl rfl rfl rfl (fun hg => q_fieldAddr0 (d := 1) Try.underlying33 rfl (hF.eval rfl) rfl Try.sizeOf9 (by decide) rfl) fun a hF => ?_
  refine wl_g hF rfl rfl rfl rfl rfl rfl (fun hg => q_load Try.isAgg9 rfl ((hF.eval rfl).trans (gv_of hg)) (hO.cell 0 rfl rfl)) fun a hF => ?_
  refine wl_g hF rfl rfl rfl rfl rfl rfl (fun hg => q_seq rfl ((hF.eval rfl).trans (gv_of hg)) ((hF.eval rfl).trans (gv_of hg))) fun a hF => ?_
  refine wl_v hF rfl rfl rfl (q_and rfl (hF.eval rfl) rfl (fun hg2 => ((hF.eval rfl).trans (gv_of hg2))) rfl) fun a hF => ?_
  refine wl_v hF rfl rfl rfl (q_move rfl (hF.eval rfl)) fun a hF => ?_
  refine wl_g hF rfl rfl rfl rfl rfl rfl (fun hg => q_fieldAddr0 (d := 2) Try.underlying33 rfl (hF.eval rfl) rfl Try.sizeOf31 (by decide) rfl) fun a hF => ?_
  refine wl_g hF rfl rfl rfl rfl rfl rfl (fun hg => q_load Try.isAgg31 rfl ((hF.eval rfl).trans (gv_of hg)) (hO.cell 1 rfl rfl)) fun a hF => ?_
  refine wl_g hF rfl rfl rfl rfl rfl rfl (fun hg => q_fieldAddr0 (d := 2) Try.underlying33 rfl (hF.eval rfl) rfl Try.sizeOf31 (by decide) rfl) fun a hF => ?_
  refine wl_g hF rfl rfl rfl rfl rfl rfl (fun hg => q_load Try.isAgg31 rfl ((hF.eval rfl).trans (gv_of hg)) (hO.cell 0 rfl rfl)) fun a hF => ?_
  refine wl_gk hO hF rfl rfl rfl rfl rfl rfl (fun hg => c_callG hF rfl rfl (by first | with_reducible rfl | (simp only [gv_of hg]; done) | (simp only [gv_of hg]; rfl)) Try.call52 (eqf_r l r ih _ _ _ (hA.sl.at0 hO) (hB.sl.at0 hO) (fun s hs => (hA.sub s hs).at0 hO) (fun s hs => (hB.sub s hs).at0 hO))) fun a w hO hF => ?_
  refine wl_v hF rfl rfl rfl (q_and rfl (hF.eval rfl) rfl (fun hg2 => ((hF.eval rfl).trans (gv_of hg2))) (dec_b _)) fun a hF => ?_
  refine wl_v hF rfl rfl rfl (q_assign rfl (hF.eval rfl)) fun a hF => ?_
  refine wl_nil ?_
  refine k_n ?_
  refine wp_ret ?_
  refine r_1 hF rfl rfl ?_
  have hO := hO.drop1 0
  have hO := hO.drop1 0
  have hO : St _ _ _ [] := hO
  exact ⟨congrArg Value.bool equal_is, hO⟩


theorem equal_r (s : TN) : ∀ (t : TN) (w0 : World), RdN w0 [] s → RdN w0 [] t → Ret Try.prog 51 #[.agg (tnE.cells s).toArray, .agg (tnE.cells t).toArray] w0 (fun v w' => v = .bool (sameF s.er t.er) ∧ St w0 [] w' []) :=
  TN.ind (P := fun s => ∀ (t : TN) (w0 : World), RdN w0 [] s → RdN w0 [] t → Ret Try.prog 51 #[.agg (tnE.cells s).toArray, .agg (tnE.cells t).toArray] w0 (fun v w' => v = .bool (sameF s.er t.er) ∧ St w0 [] w' [])) (fun k n hd l ih t w0 hA hB => by
    obtain ⟨k', n', hd', r⟩ := t
    exact equal_i k n hd l ih k' n' hd' r w0 hA hB) s
end Go.Proofs.Ytfkmlcgccffmnaa
