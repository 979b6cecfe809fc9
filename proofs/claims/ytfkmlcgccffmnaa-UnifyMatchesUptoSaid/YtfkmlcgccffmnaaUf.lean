/- GW29: maps from names to terms; types in memory that are right. -/
import Derived.Test.YtfkmlcgccffmnaaGf
import Derived.Test.YtfkmlcgccffmnaaUc
import Derived.Test.YtfkmlcgccffmnaaGw28
namespace Go.Proofs.Ytfkmlcgccffmnaa
open Go
set_option maxRecDepth 100000
set_option linter.unusedVariables false
theorem now_r (w0 : World) (S : Sto) (ρ d : Nat → Nat) (hW : WfS S ρ d) (b : Nat) (hA : Owns w0 [gE 99 S]) (hb : b ∈ S.ids) : Ret Try.prog 56 #[ptr (adr b)] w0 (fun v w' => v = ptr (adr (ρ b)) ∧ St w0 (blks [gE 99 S]) w' [gE 99 S]) := by
  have hO := St.init hA
  refine ret_of (m := 13) Try.func56 rfl Try.ntmps56 [(0, ptr (adr b))] rfl ⟨rfl, trivial⟩ fun a hF => ?_
  refine wp_seq ?_
  refine wp_region_lit ?_
  refine wl_v hF rfl rfl rfl (q_assign rfl (hF.eval rfl)) fun a hF => ?_
  refine wl_nil ?_
  refine k_n ?_
  refine wp_seq ?_
  refine wp_block ?_
  have hO : St _ _ _ [_] := hO
  refine wp_loopS (fun (c : Nat) a w' => (c ∈ S.ids ∧ ρ c = ρ b) ∧ St w0 (blks [gE 99 S]) w' [gE 99 S] ∧ Fr a 13 [(0, ptr (adr c))]) (fun (c : Nat) => d c) b ⟨⟨hb, rfl⟩, hO, hF.sub ⟨rfl, trivial⟩⟩ ?_
  rintro c a w ⟨⟨hc, hcb⟩, hO, hF⟩
  refine wp_seq ?_
  refine wp_seq ?_
  refine wp_region_lit ?_
  refine wl_v hF rfl rfl rfl (q_move rfl (hF.eval rfl)) fun a hF => ?_
  refine wl_v hF rfl rfl rfl (q_nilCheck rfl (hF.eval rfl)) fun a hF => ?_
  refine wl_v hF rfl rfl rfl (q_fieldAddr0 (d := 4) Try.underlying99 rfl (hF.eval rfl) rfl Try.sizeOf54 (by decide) rfl) fun a hF => ?_
  refine wl_v hF rfl rfl rfl (q_load Try.isAgg54 rfl (hF.eval rfl) (hO.cellN 0 rfl hc rfl)) fun a hF => ?_
  refine wl_v hF rfl rfl rfl (q_pne Try.underlying54 rfl (hF.eval rfl) (hF.eval rfl)) fun a hF => ?_
  refine wl_nil ?_
  refine k_n ?_
  refine wp_ifD hF rfl rfl (fun hc1 => ?_) (fun hc1 => ?_)
  · skip
    obtain ⟨e, he⟩ := pv_ex hc1
    obtain ⟨he1, he2, he3⟩ := hW.link c hc e he
    refine wp_skip ?_
    refine k_n ?_
    refine wp_block ?_
    refine wp_region_lit ?_
    refine wl_v hF rfl rfl rfl (q_move rfl (hF.eval rfl)) fun a hF => ?_
    refine wl_v hF rfl rfl rfl (q_nilCheck rfl (hF.eval rfl)) fun a hF => ?_
    refine wl_v hF rfl rfl rfl (q_fieldAddr0 (d := 4) Try.underlying99 rfl (hF.eval rfl) rfl Try.sizeOf54 (by decide) rfl) fun a hF => ?_
    refine wl_v hF rfl rfl rfl (q_load Try.isAgg54 rfl (hF.eval rfl) (hO.sN 0 rfl hc he)) fun a hF => ?_
    refine wl_v hF rfl rfl rfl (q_assign rfl (hF.eval rfl)) fun a hF => ?_
    refine wl_nil ?_
    refine b_n ?_
    refine k_n ?_
    have hO : St _ _ _ [_] := hO
    exact ⟨e, ⟨⟨he1, he2.symm.trans hcb⟩, hO, hF.sub ⟨rfl, trivial⟩⟩, he3⟩
  · skip
    have hr := hW.root c hc (pv_no hc1)
    refine wp_exit ?_
    refine k_x ?_
    refine k_x ?_
    refine b_x ?_
    refine k_n ?_
    refine wp_seq ?_
    refine wp_region_lit ?_
    refine wl_v hF rfl rfl rfl (q_move rfl (hF.eval rfl)) fun a hF => ?_
    refine wl_v hF rfl rfl rfl (q_assign rfl (hF.eval rfl)) fun a hF => ?_
    refine wl_nil ?_
    refine k_n ?_
    refine wp_ret ?_
    refine r_1 hF rfl rfl ?_
    have hO : St _ _ _ [_] := hO
    rw [show ρ b = c from hcb.symm.trans hr]
    exact ⟨rfl, hO⟩

set_option maxHeartbeats 4000000 in
theorem equate_i (n : Nat) (wv : Value) (ih : ∀ (S : Sto) (ρ d : Nat → Nat), WfS S ρ d → freeN S < n → ∀ i j, i ∈ S.ids → j ∈ S.ids → ∀ (w0 : World), Owns w0 [gE 99 S] → Ret Try.prog 26 #[wv, ptr (adr i), ptr (adr j)] w0 (fun v w' => ∃ S' ok, v = .bool ok ∧ EqPost S i j S' ok ∧ St w0 (blks [gE 99 S]) w' [gE 99 S'])) (S : Sto) (ρ d : Nat → Nat) (hW : WfS S ρ d) (hn : freeN S ≤ n) (i j : Nat) (hi : i ∈ S.ids) (hj : j ∈ S.ids) (w0 : World) (hA : Owns w0 [gE 99 S]) : Ret Try.prog 26 #[wv, ptr (adr i), ptr (adr j)] w0 (fun v w' => ∃ S' ok, v = .bool ok ∧ EqPost S i j S' ok ∧ St w0 (blks [gE 99 S]) w' [gE 99 S']) := by
  have hO := St.init hA
  obtain ⟨ha, ha1⟩ := hW.rep i hi
  obtain ⟨hb, hb1⟩ := hW.rep j hj
  refine ret_of (m := 117) Try.func26 rfl Try.ntmps26 [(0, wv), (1, ptr (adr i)), (2, ptr (adr j))] rfl ⟨rfl, rfl, rfl, trivial⟩ fun a hF => ?_
  refine wp_seq ?_
  refine wp_region_lit ?_
  refine wl_v hF rfl rfl rfl (q_assign rfl (hF.eval rfl)) fun a hF => ?_
  refine wl_nil ?_
  refine k_n ?_
  refine wp_seq ?_
  refine wp_region_lit ?_
  refine wl_v hF rfl rfl rfl (q_move rfl (hF.eval rfl)) fun a hF => ?_
  have hO : St _ _ _ [_] := hO
  refine wl_e hF rfl rfl rfl (c_call hF rfl rfl Try.call56 (now_r _ _ _ _ hW _ hO.own1 hi)) ?_
  rintro a _ w ⟨rfl, hS⟩ hF
  have hO := hO.call1 hS
  have hO : St _ _ _ [_] := hO
  refine wl_v hF rfl rfl rfl (q_move rfl (hF.eval rfl)) fun a hF => ?_
  have hO : St _ _ _ [_] := hO
  refine wl_e hF rfl rfl rfl (c_call hF rfl rfl Try.call56 (now_r _ _ _ _ hW _ hO.own1 hj)) ?_
  rintro a _ w ⟨rfl, hS⟩ hF
  have hO := hO.call1 hS
  have hO : St _ _ _ [_] := hO
  refine wl_v hF rfl rfl rfl (q_assign rfl (hF.eval rfl)) fun a hF => ?_
  refine wl_v hF rfl rfl rfl (q_assign rfl (hF.eval rfl)) fun a hF => ?_
  refine wl_nil ?_
  refine k_n ?_
  refine wp_seq ?_
  refine wp_block ?_
  refine wp_seq ?_
  refine wp_region_lit ?_
  refine wl_v hF rfl rfl rfl (q_move rfl (hF.eval rfl)) fun a hF => ?_
  refine wl_v hF rfl rfl rfl (q_move rfl (hF.eval rfl)) fun a hF => ?_
  refine wl_v hF rfl rfl rfl (q_ptrEq hO 0 rfl ha hb Try.underlying54 Try.sizeOf99 rfl rfl (hF.eval rfl) (hF.eval rfl)) fun a hF => ?_
  refine wl_v hF rfl rfl rfl (q_assign rfl (hF.eval rfl)) fun a hF => ?_
  refine wl_nil ?_
  refine k_n ?_
  refine wp_ifD hF rfl rfl (fun hc1 => ?_) (fun hc1 => ?_)
  · skip
    refine wp_seq ?_
    refine wp_region_lit ?_
    refine wl_v hF rfl rfl rfl (q_assign rfl (hF.eval rfl)) fun a hF => ?_
    refine wl_nil ?_
    refine k_n ?_
    refine wp_ret ?_
    refine b_r ?_
    refine k_r ?_
    refine r_1 hF rfl rfl ?_
    have hO : St _ _ _ [_] := hO
    exact ⟨_, true, rfl, eq_same hW hi hj hc1, hO⟩
  · skip
    refine wp_seq ?_
    refine wp_region_lit ?_
    refine wl_v hF rfl rfl rfl (q_move rfl (hF.eval rfl)) fun a hF => ?_
    refine wl_v hF rfl rfl rfl (q_nilCheck rfl (hF.eval rfl)) fun a hF => ?_
    refine wl_v hF rfl rfl rfl (q_fieldAddr0 (d := 0) Try.underlying99 rfl (hF.eval rfl) rfl Try.sizeOf3 (by decide) rfl) fun a hF => ?_
    refine wl_v hF rfl rfl rfl (q_load Try.isAgg3 rfl (hF.eval rfl) (hO.cellN 0 rfl ha rfl)) fun a hF => ?_
    refine wl_v hF rfl rfl rfl (q_eq rfl (hF.eval rfl) (hF.eval rfl)) fun a hF => ?_
    refine wl_v hF rfl rfl rfl (q_move rfl (hF.eval rfl)) fun a hF => ?_
    refine wl_g hF rfl rfl rfl rfl rfl rfl (fun hg => q_move rfl (hF.eval rfl)) fun a hF => ?_
    refine wl_g hF rfl rfl rfl rfl rfl rfl (fun hg => q_nilCheck rfl ((hF.eval rfl).trans (gv_of hg))) fun a hF => ?_
    refine wl_g hF rfl rfl rfl rfl rfl rfl (fun hg => q_fieldAddr0 (d := 0) Try.underlying99 rfl ((hF.eval rfl).trans (gv_of hg)) rfl Try.sizeOf3 (by decide) rfl) fun a hF => ?_
    refine wl_g hF rfl rfl rfl rfl rfl rfl (fun hg => q_load Try.isAgg3 rfl ((hF.eval rfl).trans (gv_of hg)) (hO.cellN 0 rfl hb rfl)) fun a hF => ?_
    refine wl_g hF rfl rfl rfl rfl rfl rfl (fun hg => q_eq rfl ((hF.eval rfl).trans (gv_of hg)) (hF.eval rfl)) fun a hF => ?_
    refine wl_v hF rfl rfl rfl (q_and rfl (hF.eval rfl) rfl (fun hg2 => ((hF.eval rfl).trans (gv_of hg2))) rfl) fun a hF => ?_
    refine wl_v hF rfl rfl rfl (q_assign rfl (hF.eval rfl)) fun a hF => ?_
    refine wl_nil ?_
    refine k_n ?_
    refine wp_ifD hF rfl rfl (fun hc2 => ?_) (fun hc2 => ?_)
    · skip
      refine wp_seq ?_
      refine wp_seq ?_
      have hO := hO.drew
      refine wp_region_D [0, 0, 0, 1, 0, 0, 0, 1, 0] (fun w => St _ _ w _) Try_mixed (by kernel_rfl) hO ?_
      refine wd_p hF rfl rfl rfl (fun w => q_move rfl (hF.eval rfl)) fun a hF => ?_
      refine wd_p hF rfl rfl rfl (fun w => q_nilCheck rfl (hF.eval rfl)) fun a hF => ?_
      refine wd_p hF rfl rfl rfl (fun w => q_fieldAddr0 (d := 1) Try.underlying99 rfl (hF.eval rfl) rfl Try.sizeOf9 (by decide) rfl) fun a hF => ?_
      refine wd_r hF rfl rfl rfl (fun w hO => q_load Try.isAgg9 rfl (hF.eval rfl) (hO.cellN 0 rfl ha rfl)) fun a hF => ?_
      refine wd_p hF rfl rfl rfl (fun w => q_move rfl (hF.eval rfl)) fun a hF => ?_
      refine wd_p hF rfl rfl rfl (fun w => q_nilCheck rfl (hF.eval rfl)) fun a hF => ?_
      refine wd_p hF rfl rfl rfl (fun w => q_fieldAddr0 (d := 1) Try.underlying99 rfl (hF.eval rfl) rfl Try.sizeOf9 (by decide) rfl) fun a hF => ?_
      refine wd_r hF rfl rfl rfl (fun w hO => q_load Try.isAgg9 rfl (hF.eval rfl) (hO.cellN 0 rfl hb rfl)) fun a hF => ?_
      refine wd_p hF rfl rfl rfl (fun w => q_sgt rfl Try.underlying9 (hF.eval rfl) (hF.eval rfl)) fun a hF => ?_
      refine wd_nil ?_
      refine k_n ?_
      refine wp_ifD hF rfl rfl (fun hc3 => ?_) (fun hc3 => ?_)
      · skip
        refine wp_region_lit ?_
        refine wl_v hF rfl rfl rfl (q_move rfl (hF.eval rfl)) fun a hF => ?_
        refine wl_v hF rfl rfl rfl (q_move rfl (hF.eval rfl)) fun a hF => ?_
        refine wl_v hF rfl rfl rfl (q_assign rfl (hF.eval rfl)) fun a hF => ?_
        refine wl_v hF rfl rfl rfl (q_assign rfl (hF.eval rfl)) fun a hF => ?_
        refine wl_nil ?_
        refine k_n ?_
        refine wp_seq ?_
        refine wp_region_lit ?_
        refine wl_v hF rfl rfl rfl (q_move rfl (hF.eval rfl)) fun a hF => ?_
        refine wl_v hF rfl rfl rfl (q_move rfl (hF.eval rfl)) fun a hF => ?_
        refine wl_v hF rfl rfl rfl (q_nilCheck rfl (hF.eval rfl)) fun a hF => ?_
        refine wl_v hF rfl rfl rfl (q_fieldAddr0 (d := 4) Try.underlying99 rfl (hF.eval rfl) rfl Try.sizeOf54 (by decide) rfl) fun a hF => ?_
        refine wl_s hF rfl rfl (e_storeN (t1 := { S.tm (ρ i) with same := some (ρ j) }) (S' := setSame S (ρ i) (ρ j)) hO (i := 0) rfl ha Try.sizeOf54 rfl (hF.eval rfl) (hF.eval rfl) rfl rfl rfl rfl rfl) ?_
        rintro a _ w ⟨-, hO⟩ hF
        have hO : St _ _ _ [_] := hO
        refine wl_nil ?_
        refine k_n ?_
        refine wp_seq ?_
        refine wp_region_lit ?_
        refine wl_v hF rfl rfl rfl (q_assign rfl (hF.eval rfl)) fun a hF => ?_
        refine wl_nil ?_
        refine k_n ?_
        refine wp_ret ?_
        refine b_r ?_
        refine k_r ?_
        refine r_1 hF rfl rfl ?_
        have hO : St _ _ _ [_] := hO
        exact ⟨_, true, rfl, eq_var hW hi hj hc1 hc2.1 fun _ => List.le_of_lt hc3, hO⟩
      · skip
        refine wp_skip ?_
        refine k_n ?_
        refine wp_seq ?_
        refine wp_region_lit ?_
        refine wl_v hF rfl rfl rfl (q_move rfl (hF.eval rfl)) fun a hF => ?_
        refine wl_v hF rfl rfl rfl (q_move rfl (hF.eval rfl)) fun a hF => ?_
        refine wl_v hF rfl rfl rfl (q_nilCheck rfl (hF.eval rfl)) fun a hF => ?_
        refine wl_v hF rfl rfl rfl (q_fieldAddr0 (d := 4) Try.underlying99 rfl (hF.eval rfl) rfl Try.sizeOf54 (by decide) rfl) fun a hF => ?_
        refine wl_s hF rfl rfl (e_storeN (t1 := { S.tm (ρ j) with same := some (ρ i) }) (S' := setSame S (ρ j) (ρ i)) hO (i := 0) rfl hb Try.sizeOf54 rfl (hF.eval rfl) (hF.eval rfl) rfl rfl rfl rfl rfl) ?_
        rintro a _ w ⟨-, hO⟩ hF
        have hO : St _ _ _ [_] := hO
        refine wl_nil ?_
        refine k_n ?_
        refine wp_seq ?_
        refine wp_region_lit ?_
        refine wl_v hF rfl rfl rfl (q_assign rfl (hF.eval rfl)) fun a hF => ?_
        refine wl_nil ?_
        refine k_n ?_
        refine wp_ret ?_
        refine b_r ?_
        refine k_r ?_
        refine r_1 hF rfl rfl ?_
        have hO : St _ _ _ [_] := hO
        exact ⟨_, true, rfl, (eq_var hW hj hi (fun e => hc1 e.symm) hc2.2 fun _ => List.not_lt.1 hc3).symm, hO⟩
    · skip
      refine wp_seq ?_
      refine wp_region_lit ?_
      refine wl_v hF rfl rfl rfl (q_move rfl (hF.eval rfl)) fun a hF => ?_
      refine wl_v hF rfl rfl rfl (q_nilCheck rfl (hF.eval rfl)) fun a hF => ?_
      refine wl_v hF rfl rfl rfl (q_fieldAddr0 (d := 0) Try.underlying99 rfl (hF.eval rfl) rfl Try.sizeOf3 (by decide) rfl) fun a hF => ?_
      refine wl_v hF rfl rfl rfl (q_load Try.isAgg3 rfl (hF.eval rfl) (hO.cellN 0 rfl ha rfl)) fun a hF => ?_
      refine wl_v hF rfl rfl rfl (q_eq rfl (hF.eval rfl) (hF.eval rfl)) fun a hF => ?_
      refine wl_v hF rfl rfl rfl (q_assign rfl (hF.eval rfl)) fun a hF => ?_
      refine wl_nil ?_
      refine k_n ?_
      refine wp_ifD hF rfl rfl (fun hc4 => ?_) (fun hc4 => ?_)
      · skip
        refine wp_seq ?_
        refine wp_region_lit ?_
        refine wl_v hF rfl rfl rfl (q_move rfl (hF.eval rfl)) fun a hF => ?_
        refine wl_v hF rfl rfl rfl (q_move rfl (hF.eval rfl)) fun a hF => ?_
        refine wl_v hF rfl rfl rfl (q_nilCheck rfl (hF.eval rfl)) fun a hF => ?_
        refine wl_v hF rfl rfl rfl (q_fieldAddr0 (d := 4) Try.underlying99 rfl (hF.eval rfl) rfl Try.sizeOf54 (by decide) rfl) fun a hF => ?_
        refine wl_s hF rfl rfl (e_storeN (t1 := { S.tm (ρ i) with same := some (ρ j) }) (S' := setSame S (ρ i) (ρ j)) hO (i := 0) rfl ha Try.sizeOf54 rfl (hF.eval rfl) (hF.eval rfl) rfl rfl rfl rfl rfl) ?_
        rintro a _ w ⟨-, hO⟩ hF
        have hO : St _ _ _ [_] := hO
        refine wl_nil ?_
        refine k_n ?_
        refine wp_seq ?_
        refine wp_region_lit ?_
        refine wl_v hF rfl rfl rfl (q_assign rfl (hF.eval rfl)) fun a hF => ?_
        refine wl_nil ?_
        refine k_n ?_
        refine wp_ret ?_
        refine b_r ?_
        refine k_r ?_
        refine r_1 hF rfl rfl ?_
        have hO : St _ _ _ [_] := hO
        exact ⟨_, true, rfl, eq_var hW hi hj hc1 hc4 fun h => absurd ⟨hc4, h⟩ hc2, hO⟩
      · skip
        refine wp_seq ?_
        refine wp_region_lit ?_
        refine wl_v hF rfl rfl rfl (q_move rfl (hF.eval rfl)) fun a hF => ?_
        refine wl_v hF rfl rfl rfl (q_nilCheck rfl (hF.eval rfl)) fun a hF => ?_
        refine wl_v hF rfl rfl rfl (q_fieldAddr0 (d := 0) Try.underlying99 rfl (hF.eval rfl) rfl Try.sizeOf3 (by decide) rfl) fun a hF => ?_
        refine wl_v hF rfl rfl rfl (q_load Try.isAgg3 rfl (hF.eval rfl) (hO.cellN 0 rfl hb rfl)) fun a hF => ?_
        refine wl_v hF rfl rfl rfl (q_eq rfl (hF.eval rfl) (hF.eval rfl)) fun a hF => ?_
        refine wl_v hF rfl rfl rfl (q_assign rfl (hF.eval rfl)) fun a hF => ?_
        refine wl_nil ?_
        refine k_n ?_
        refine wp_ifD hF rfl rfl (fun hc5 => ?_) (fun hc5 => ?_)
        · skip
          refine wp_seq ?_
          refine wp_region_lit ?_
          refine wl_v hF rfl rfl rfl (q_move rfl (hF.eval rfl)) fun a hF => ?_
          refine wl_v hF rfl rfl rfl (q_move rfl (hF.eval rfl)) fun a hF => ?_
          refine wl_v hF rfl rfl rfl (q_nilCheck rfl (hF.eval rfl)) fun a hF => ?_
          refine wl_v hF rfl rfl rfl (q_fieldAddr0 (d := 4) Try.underlying99 rfl (hF.eval rfl) rfl Try.sizeOf54 (by decide) rfl) fun a hF => ?_
          refine wl_s hF rfl rfl (e_storeN (t1 := { S.tm (ρ j) with same := some (ρ i) }) (S' := setSame S (ρ j) (ρ i)) hO (i := 0) rfl hb Try.sizeOf54 rfl (hF.eval rfl) (hF.eval rfl) rfl rfl rfl rfl rfl) ?_
          rintro a _ w ⟨-, hO⟩ hF
          have hO : St _ _ _ [_] := hO
          refine wl_nil ?_
          refine k_n ?_
          refine wp_seq ?_
          refine wp_region_lit ?_
          refine wl_v hF rfl rfl rfl (q_assign rfl (hF.eval rfl)) fun a hF => ?_
          refine wl_nil ?_
          refine k_n ?_
          refine wp_ret ?_
          refine b_r ?_
          refine k_r ?_
          refine r_1 hF rfl rfl ?_
          have hO : St _ _ _ [_] := hO
          exact ⟨_, true, rfl, (eq_var hW hj hi (fun e => hc1 e.symm) hc5 fun h => absurd h hc4).symm, hO⟩
        · skip
          have ka := (hW.kinds _ ha).resolve_left hc4
          have kb := (hW.kinds _ hb).resolve_left hc5
          refine wp_seq ?_
          have hO := hO.drew
          refine wp_region_D [0, 0, 0, 1, 0, 0, 0, 1, 0, 0, 0, 0, 0, 1, 0, 0, 0, 1, 0, 0, 0] (fun w => St _ _ w _) Try_mixed (by kernel_rfl) hO ?_
          refine wd_p hF rfl rfl rfl (fun w => q_move rfl (hF.eval rfl)) fun a hF => ?_
          refine wd_p hF rfl rfl rfl (fun w => q_nilCheck rfl (hF.eval rfl)) fun a hF => ?_
          refine wd_p hF rfl rfl rfl (fun w => q_fieldAddr0 (d := 0) Try.underlying99 rfl (hF.eval rfl) rfl Try.sizeOf3 (by decide) rfl) fun a hF => ?_
          refine wd_r hF rfl rfl rfl (fun w hO => q_load Try.isAgg3 rfl (hF.eval rfl) (hO.cellN 0 rfl ha rfl)) fun a hF => ?_
          refine wd_p hF rfl rfl rfl (fun w => q_move rfl (hF.eval rfl)) fun a hF => ?_
          refine wd_p hF rfl rfl rfl (fun w => q_nilCheck rfl (hF.eval rfl)) fun a hF => ?_
          refine wd_p hF rfl rfl rfl (fun w => q_fieldAddr0 (d := 0) Try.underlying99 rfl (hF.eval rfl) rfl Try.sizeOf3 (by decide) rfl) fun a hF => ?_
          refine wd_r hF rfl rfl rfl (fun w hO => q_load Try.isAgg3 rfl (hF.eval rfl) (hO.cellN 0 rfl hb rfl)) fun a hF => ?_
          refine wd_p hF rfl rfl rfl (fun w => q_ne rfl (hF.eval rfl) (hF.eval rfl)) fun a hF => ?_
          refine wd_p hF rfl rfl rfl (fun w => q_move rfl (hF.eval rfl)) fun a hF => ?_
          refine wd_gp hF rfl rfl rfl rfl rfl rfl (fun hg w => q_move rfl (hF.eval rfl)) fun a hF => ?_
          refine wd_gp hF rfl rfl rfl rfl rfl rfl (fun hg w => q_nilCheck rfl ((hF.eval rfl).trans (gv_of hg))) fun a hF => ?_
          refine wd_gp hF rfl rfl rfl rfl rfl rfl (fun hg w => q_fieldAddr0 (d := 1) Try.underlying99 rfl ((hF.eval rfl).trans (gv_of hg)) rfl Try.sizeOf9 (by decide) rfl) fun a hF => ?_
          refine wd_gr hF rfl rfl rfl rfl rfl rfl (fun hg w hO => q_load Try.isAgg9 rfl ((hF.eval rfl).trans (gv_of hg)) (hO.cellN 0 rfl ha rfl)) fun a hF => ?_
          refine wd_gp hF rfl rfl rfl rfl rfl rfl (fun hg w => q_move rfl (hF.eval rfl)) fun a hF => ?_
          refine wd_gp hF rfl rfl rfl rfl rfl rfl (fun hg w => q_nilCheck rfl ((hF.eval rfl).trans (gv_of hg))) fun a hF => ?_
          refine wd_gp hF rfl rfl rfl rfl rfl rfl (fun hg w => q_fieldAddr0 (d := 1) Try.underlying99 rfl ((hF.eval rfl).trans (gv_of hg)) rfl Try.sizeOf9 (by decide) rfl) fun a hF => ?_
          refine wd_gr hF rfl rfl rfl rfl rfl rfl (fun hg w hO => q_load Try.isAgg9 rfl ((hF.eval rfl).trans (gv_of hg)) (hO.cellN 0 rfl hb rfl)) fun a hF => ?_
          refine wd_gp hF rfl rfl rfl rfl rfl rfl (fun hg w => q_sne rfl ((hF.eval rfl).trans (gv_of hg)) ((hF.eval rfl).trans (gv_of hg))) fun a hF => ?_
          refine wd_p hF rfl rfl rfl (fun w => q_or rfl (hF.eval rfl) rfl (fun hg2 => ((hF.eval rfl).trans (gv_of hg2))) rfl) fun a hF => ?_
          refine wd_p hF rfl rfl rfl (fun w => q_assign rfl (hF.eval rfl)) fun a hF => ?_
          refine wd_nil ?_
          refine k_n ?_
          refine wp_ifD hF rfl rfl (fun hc6 => ?_) (fun hc6 => ?_)
          · skip
            refine wp_seq ?_
            refine wp_region_lit ?_
            refine wl_v hF rfl rfl rfl (q_assign rfl (hF.eval rfl)) fun a hF => ?_
            refine wl_nil ?_
            refine k_n ?_
            refine wp_ret ?_
            refine b_r ?_
            refine k_r ?_
            refine r_1 hF rfl rfl ?_
            have hO : St _ _ _ [_] := hO
            exact ⟨_, false, rfl, eq_no hW hi hj hc4 hc5 hc6, hO⟩
          · skip
            have g1 := Classical.not_not.1 (not_or.1 hc6).1
            have g2 := Classical.not_not.1 (not_or.1 hc6).2
            have hsh := shp_set S (ρ i) (ρ j)
            have hfr := free_set ha ha1 (ρ j)
            obtain ⟨d2, hW2⟩ : ∃ d2, WfS (setSame S (ρ i) (ρ j)) (fun c => if ρ c = ρ i then ρ j else ρ c) d2 := ⟨_, hW.linked ha hb ha1 hb1 hc1 fun k => absurd k hc5⟩
            refine wp_skip ?_
            refine b_n ?_
            refine k_n ?_
            refine wp_seq ?_
            refine wp_region_lit ?_
            refine wl_v hF rfl rfl rfl (q_move rfl (hF.eval rfl)) fun a hF => ?_
            refine wl_v hF rfl rfl rfl (q_move rfl (hF.eval rfl)) fun a hF => ?_
            refine wl_v hF rfl rfl rfl (q_nilCheck rfl (hF.eval rfl)) fun a hF => ?_
            refine wl_v hF rfl rfl rfl (q_fieldAddr0 (d := 4) Try.underlying99 rfl (hF.eval rfl) rfl Try.sizeOf54 (by decide) rfl) fun a hF => ?_
            refine wl_s hF rfl rfl (e_storeN (t1 := { S.tm (ρ i) with same := some (ρ j) }) (S' := setSame S (ρ i) (ρ j)) hO (i := 0) rfl ha Try.sizeOf54 rfl (hF.eval rfl) (hF.eval rfl) rfl rfl rfl rfl rfl) ?_
            rintro a _ w ⟨-, hO⟩ hF
            have hO : St _ _ _ [_] := hO
            refine wl_nil ?_
            refine k_n ?_
            refine wp_seq ?_
            have hO := hO.drew
            refine wp_region_D [0, 0, 0, 1, 0, 0, 0, 0, 0, 0, 1, 0, 0, 0, 1, 2, 0, 0, 0, 0, 0, 1, 0, 0, 0, 1, 2, 0, 0, 0] (fun w => ∃ S1, Shp (setSame S (ρ i) (ρ j)) S1 ∧ St w0 (blks [gE 99 S]) w [gE 99 S1]) Try_mixed (by kernel_rfl) ⟨_, Shp.refl _, hO⟩ ?_
            rcases ka with ka | ka
            · skip
              have hka2 : ((setSame S (ρ i) (ρ j)).tm (ρ i)).kind = 53 := (hsh.kind _).trans ka
              refine wd_p hF rfl rfl rfl (fun w => q_move rfl (hF.eval rfl)) fun a hF => ?_
              refine wd_p hF rfl rfl rfl (fun w => q_nilCheck rfl (hF.eval rfl)) fun a hF => ?_
              refine wd_p hF rfl rfl rfl (fun w => q_fieldAddr0 (d := 0) Try.underlying99 rfl (hF.eval rfl) rfl Try.sizeOf3 (by decide) rfl) fun a hF => ?_
              refine wd_r hF rfl rfl rfl (fun w ⟨S1, hs1, hO⟩ => q_load Try.isAgg3 rfl (hF.eval rfl) (hO.kN 0 rfl hs1 ha)) fun a hF => ?_
              refine wd_p hF rfl rfl rfl (fun w => q_eq rfl (hF.eval rfl) (hF.eval rfl)) fun a hF => ?_
              refine wd_p hF rfl rfl rfl (fun w => q_move rfl (hF.eval rfl)) fun a hF => ?_
              refine wd_sk hF rfl rfl rfl rfl (isN_T hka2) rfl rfl fun a hF => ?_
              refine wd_sk hF rfl rfl rfl rfl (isN_T hka2) rfl rfl fun a hF => ?_
              refine wd_sk hF rfl rfl rfl rfl (isN_T hka2) rfl rfl fun a hF => ?_
              refine wd_sk hF rfl rfl rfl rfl (isN_T hka2) rfl rfl fun a hF => ?_
              refine wd_sk hF rfl rfl rfl rfl (isN_T hka2) rfl rfl fun a hF => ?_
              refine wd_sk hF rfl rfl rfl rfl (isN_T hka2) rfl rfl fun a hF => ?_
              refine wd_sk hF rfl rfl rfl rfl (isN_T hka2) rfl rfl fun a hF => ?_
              refine wd_sk hF rfl rfl rfl rfl (isN_T hka2) rfl rfl fun a hF => ?_
              refine wd_sk hF rfl rfl rfl rfl (isN_T hka2) rfl rfl fun a hF => ?_
              refine wd_sk hF rfl rfl rfl rfl (isN_T hka2) rfl rfl fun a hF => ?_
              refine wd_sk hF rfl rfl rfl rfl (isN_T hka2) rfl rfl fun a hF => ?_
              refine wd_sk hF rfl rfl rfl rfl (rfl) rfl rfl fun a hF => ?_
              refine wd_sk hF rfl rfl rfl rfl (rfl) rfl rfl fun a hF => ?_
              refine wd_sk hF rfl rfl rfl rfl (rfl) rfl rfl fun a hF => ?_
              refine wd_sk hF rfl rfl rfl rfl (rfl) rfl rfl fun a hF => ?_
              refine wd_sk hF rfl rfl rfl rfl (rfl) rfl rfl fun a hF => ?_
              refine wd_sk hF rfl rfl rfl rfl (rfl) rfl rfl fun a hF => ?_
              refine wd_sk hF rfl rfl rfl rfl (rfl) rfl rfl fun a hF => ?_
              refine wd_sk hF rfl rfl rfl rfl (rfl) rfl rfl fun a hF => ?_
              refine wd_sk hF rfl rfl rfl rfl (rfl) rfl rfl fun a hF => ?_
              refine wd_sk hF rfl rfl rfl rfl (rfl) rfl rfl fun a hF => ?_
              refine wd_sk hF rfl rfl rfl rfl (isN_T hka2) rfl rfl fun a hF => ?_
              refine wd_p hF rfl rfl rfl (fun w => q_pickT rfl ((hF.eval rfl).trans (congrArg Value.bool (decide_eq_true hka2))) rfl) fun a hF => ?_
              refine wd_p hF rfl rfl rfl (fun w => q_assign rfl (hF.eval rfl)) fun a hF => ?_
              refine wd_nil ?_
              refine k_n ?_
              refine wp_ret ?_
              refine r_1 hF rfl rfl ?_
              have hO : St _ _ _ [_] := hO
              exact ⟨_, true, rfl, eq_con hW hi hj hc1 ka (g1.symm.trans ka) g2, hO⟩
            · skip
              have hka2 : ¬ ((setSame S (ρ i) (ρ j)).tm (ρ i)).kind = 53 := fun e => by have := (hsh.kind (ρ i)).symm.trans e; omega
              obtain ⟨-, x, y, hx, hy, hx2, hy2⟩ := hW.app _ ha ka
              obtain ⟨-, x', y', hx', hy', hx2', hy2'⟩ := hW.app _ hb (g1.symm.trans ka)
              refine wd_p hF rfl rfl rfl (fun w => q_move rfl (hF.eval rfl)) fun a hF => ?_
              refine wd_p hF rfl rfl rfl (fun w => q_nilCheck rfl (hF.eval rfl)) fun a hF => ?_
              refine wd_p hF rfl rfl rfl (fun w => q_fieldAddr0 (d := 0) Try.underlying99 rfl (hF.eval rfl) rfl Try.sizeOf3 (by decide) rfl) fun a hF => ?_
              refine wd_r hF rfl rfl rfl (fun w ⟨S1, hs1, hO⟩ => q_load Try.isAgg3 rfl (hF.eval rfl) (hO.kN 0 rfl hs1 ha)) fun a hF => ?_
              refine wd_p hF rfl rfl rfl (fun w => q_eq rfl (hF.eval rfl) (hF.eval rfl)) fun a hF => ?_
              refine wd_p hF rfl rfl rfl (fun w => q_move rfl (hF.eval rfl)) fun a hF => ?_
              refine wd_un hF rfl rfl rfl rfl (isB_F hka2) ?_
              refine wd_p hF rfl rfl rfl (fun w => q_move rfl (hF.eval rfl)) fun a hF => ?_
              refine wd_un hF rfl rfl rfl rfl (isB_F hka2) ?_
              refine wd_p hF rfl rfl rfl (fun w => q_move rfl (hF.eval rfl)) fun a hF => ?_
              refine wd_un hF rfl rfl rfl rfl (isB_F hka2) ?_
              refine wd_p hF rfl rfl rfl (fun w => q_nilCheck rfl (hF.eval rfl)) fun a hF => ?_
              refine wd_un hF rfl rfl rfl rfl (isB_F hka2) ?_
              refine wd_p hF rfl rfl rfl (fun w => q_fieldAddr0 (d := 2) Try.underlying99 rfl (hF.eval rfl) rfl Try.sizeOf54 (by decide) rfl) fun a hF => ?_
              refine wd_un hF rfl rfl rfl rfl (isB_F hka2) ?_
              refine wd_r hF rfl rfl rfl (fun w ⟨S1, hs1, hO⟩ => q_load Try.isAgg54 rfl (hF.eval rfl) (hO.lN 0 rfl hs1 ha ((hsh.l _).trans hx2))) fun a hF => ?_
              refine wd_un hF rfl rfl rfl rfl (isB_F hka2) ?_
              refine wd_p hF rfl rfl rfl (fun w => q_move rfl (hF.eval rfl)) fun a hF => ?_
              refine wd_un hF rfl rfl rfl rfl (isB_F hka2) ?_
              refine wd_p hF rfl rfl rfl (fun w => q_nilCheck rfl (hF.eval rfl)) fun a hF => ?_
              refine wd_un hF rfl rfl rfl rfl (isB_F hka2) ?_
              refine wd_p hF rfl rfl rfl (fun w => q_fieldAddr0 (d := 2) Try.underlying99 rfl (hF.eval rfl) rfl Try.sizeOf54 (by decide) rfl) fun a hF => ?_
              refine wd_un hF rfl rfl rfl rfl (isB_F hka2) ?_
              refine wd_r hF rfl rfl rfl (fun w ⟨S1, hs1, hO⟩ => q_load Try.isAgg54 rfl (hF.eval rfl) (hO.lN 0 rfl hs1 hb ((hsh.l _).trans hx2'))) fun a hF => ?_
              refine wd_un hF rfl rfl rfl rfl (isB_F hka2) ?_
              have hO : St _ _ _ [_] := hO
              refine wd_e hF rfl rfl rfl (c_call hF rfl rfl Try.call26 (ih (setSame S (ρ i) (ρ j)) _ d2 hW2 (by omega) x x' hx hx' _ hO.own1)) (fun _ _ ⟨S', ok, h1, hp, hS⟩ => ⟨S', hp.1, hO.call1 hS⟩) ?_
              rintro a _ w ⟨S3, ok, rfl, hP, hS⟩ hF
              have hO := hO.call1 hS
              have hO : St _ _ _ [_] := hO
              cases ok
              · skip
                refine wd_un hF rfl rfl rfl rfl (isB_F hka2) ?_
                refine wd_p hF rfl rfl rfl (fun w => q_move rfl (hF.eval rfl)) fun a hF => ?_
                refine wd_sk hF rfl rfl rfl rfl (rfl) rfl rfl fun a hF => ?_
                refine wd_sk hF rfl rfl rfl rfl (rfl) rfl rfl fun a hF => ?_
                refine wd_sk hF rfl rfl rfl rfl (rfl) rfl rfl fun a hF => ?_
                refine wd_sk hF rfl rfl rfl rfl (rfl) rfl rfl fun a hF => ?_
                refine wd_sk hF rfl rfl rfl rfl (rfl) rfl rfl fun a hF => ?_
                refine wd_sk hF rfl rfl rfl rfl (rfl) rfl rfl fun a hF => ?_
                refine wd_sk hF rfl rfl rfl rfl (rfl) rfl rfl fun a hF => ?_
                refine wd_sk hF rfl rfl rfl rfl (rfl) rfl rfl fun a hF => ?_
                refine wd_sk hF rfl rfl rfl rfl (rfl) rfl rfl fun a hF => ?_
                refine wd_sk hF rfl rfl rfl rfl (rfl) rfl rfl fun a hF => ?_
                refine wd_un hF rfl rfl rfl rfl (isB_F hka2) ?_
                refine wd_p hF rfl rfl rfl (fun w => q_pickF rfl (hF.eval rfl) rfl) fun a hF => ?_
                refine wd_p hF rfl rfl rfl (fun w => q_pickF rfl ((hF.eval rfl).trans (congrArg Value.bool (decide_eq_false hka2))) (hF.eval rfl)) fun a hF => ?_
                refine wd_p hF rfl rfl rfl (fun w => q_assign rfl (hF.eval rfl)) fun a hF => ?_
                refine wd_nil ?_
                refine k_n ?_
                refine wp_ret ?_
                refine r_1 hF rfl rfl ?_
                have hO : St _ _ _ [_] := hO
                exact ⟨_, false, rfl, eq_app hW hi hj hc1 ka (g1.symm.trans ka) hx2 hy2 hx2' hy2' hP (fun h => by cases h) fun _ => ⟨rfl, rfl⟩, hO⟩
              · skip
                obtain ⟨⟨ρ3, d3, hW3⟩, hl3, -⟩ := hP.2.1 rfl
                refine wd_un hF rfl rfl rfl rfl (isB_F hka2) ?_
                refine wd_p hF rfl rfl rfl (fun w => q_move rfl (hF.eval rfl)) fun a hF => ?_
                refine wd_un hF rfl rfl rfl rfl (rfl) ?_
                refine wd_p hF rfl rfl rfl (fun w => q_move rfl (hF.eval rfl)) fun a hF => ?_
                refine wd_un hF rfl rfl rfl rfl (rfl) ?_
                refine wd_p hF rfl rfl rfl (fun w => q_move rfl (hF.eval rfl)) fun a hF => ?_
                refine wd_un hF rfl rfl rfl rfl (rfl) ?_
                refine wd_p hF rfl rfl rfl (fun w => q_nilCheck rfl (hF.eval rfl)) fun a hF => ?_
                refine wd_un hF rfl rfl rfl rfl (rfl) ?_
                refine wd_p hF rfl rfl rfl (fun w => q_fieldAddr0 (d := 3) Try.underlying99 rfl (hF.eval rfl) rfl Try.sizeOf54 (by decide) rfl) fun a hF => ?_
                refine wd_un hF rfl rfl rfl rfl (rfl) ?_
                refine wd_r hF rfl rfl rfl (fun w ⟨S1, hs1, hO⟩ => q_load Try.isAgg54 rfl (hF.eval rfl) (hO.rN 0 rfl hs1 ha ((hsh.r _).trans hy2))) fun a hF => ?_
                refine wd_un hF rfl rfl rfl rfl (rfl) ?_
                refine wd_p hF rfl rfl rfl (fun w => q_move rfl (hF.eval rfl)) fun a hF => ?_
                refine wd_un hF rfl rfl rfl rfl (rfl) ?_
                refine wd_p hF rfl rfl rfl (fun w => q_nilCheck rfl (hF.eval rfl)) fun a hF => ?_
                refine wd_un hF rfl rfl rfl rfl (rfl) ?_
                refine wd_p hF rfl rfl rfl (fun w => q_fieldAddr0 (d := 3) Try.underlying99 rfl (hF.eval rfl) rfl Try.sizeOf54 (by decide) rfl) fun a hF => ?_
                refine wd_un hF rfl rfl rfl rfl (rfl) ?_
                refine wd_r hF rfl rfl rfl (fun w ⟨S1, hs1, hO⟩ => q_load Try.isAgg54 rfl (hF.eval rfl) (hO.rN 0 rfl hs1 hb ((hsh.r _).trans hy2'))) fun a hF => ?_
                refine wd_un hF rfl rfl rfl rfl (rfl) ?_
                have hO : St _ _ _ [_] := hO
                refine wd_e hF rfl rfl rfl (c_call hF rfl rfl Try.call26 (ih S3 ρ3 d3 hW3 (by omega) y y' (by rw [hP.1.ids]; exact hy) (by rw [hP.1.ids]; exact hy') _ hO.own1)) (fun _ _ ⟨S', ok, h1, hp, hS⟩ => ⟨S', hP.1.trans hp.1, hO.call1 hS⟩) ?_
                rintro a _ w ⟨S4, ok4, rfl, hP4, hS⟩ hF
                have hO := hO.call1 hS
                have hO : St _ _ _ [_] := hO
                refine wd_un hF rfl rfl rfl rfl (isB_F hka2) ?_
                refine wd_p hF rfl rfl rfl (fun w => q_pickT rfl (hF.eval rfl) (hF.eval rfl)) fun a hF => ?_
                refine wd_p hF rfl rfl rfl (fun w => q_pickF rfl ((hF.eval rfl).trans (congrArg Value.bool (decide_eq_false hka2))) (hF.eval rfl)) fun a hF => ?_
                refine wd_p hF rfl rfl rfl (fun w => q_assign rfl (hF.eval rfl)) fun a hF => ?_
                refine wd_nil ?_
                refine k_n ?_
                refine wp_ret ?_
                refine r_1 hF rfl rfl ?_
                have hO : St _ _ _ [_] := hO
                exact ⟨_, ok4, rfl, eq_app hW hi hj hc1 ka (g1.symm.trans ka) hx2 hy2 hx2' hy2' hP (fun _ => hP4) (fun h => by cases h), hO⟩


theorem equate_r (wv : Value) : ∀ (n : Nat) (S : Sto) (ρ d : Nat → Nat), WfS S ρ d → freeN S < n → ∀ i j, i ∈ S.ids → j ∈ S.ids → ∀ (w0 : World), Owns w0 [gE 99 S] → Ret Try.prog 26 #[wv, ptr (adr i), ptr (adr j)] w0 (fun v w' => ∃ S' ok, v = .bool ok ∧ EqPost S i j S' ok ∧ St w0 (blks [gE 99 S]) w' [gE 99 S'])
  | 0, _, _, _, _, h, _, _, _, _, _, _ => absurd h (Nat.not_lt_zero _)
  | n + 1, S, ρ, d, hW, h, i, j, hi, hj, w0, hA => equate_i n wv (equate_r wv n) S ρ d hW (by omega) i j hi hj w0 hA
end Go.Proofs.Ytfkmlcgccffmnaa
namespace Go.Proofs.Ytfkmlcgccffmnaa
open Go Go.Maps
def VarM (f : Lit → Option Value) (vm : Nam → Option Nat) : Prop := ∀ n, f (litS n) = (vm n).map fun b => ptr (adr b)
theorem varM_none : VarM (fun _ => none) (fun _ => none) := fun _ => rfl
theorem VarM.put {f : Lit → Option Value} {vm : Nam → Option Nat} (h : VarM f vm) (n : Nam) (b : Nat) : VarM (putF f (litS n) (ptr (adr b))) (fun m => if m = n then some b else vm m) := fun m => by
  unfold putF
  by_cases e : m = n
  · subst e; simp
  · have e2 : ¬ litS m = litS n := fun h => e (litS_inj h)
    simp only [e, e2, if_false]; exact h m
section
variable {P : Program} {o : Oper} {a : Act} {w w0 : World} {M : List Nat} {L : List Ent} {t e k : TypeId} {b c i : Nat} {f : Lit → Option Value} {vm : Nam → Option Nat} {x y u : Operand} {n : Nam} {v : Value}
theorem q_lookVar (hO : St w0 M w L) (hi : L[i]? = some (Ent.mapE P k b c f)) (hf : VarM f vm) (hk : P.underlying k = some .string) (ht : P.underlying t = some (.map k e)) (hz : (zeroValue e).run P w = .ok (pv none) w) (ho : o.op = .lookup t x y false) (hx : a.eval x = .map (some b)) (hy : a.eval y = str n) (hn : n.length ≤ 9223372036854775807) : QV P o a w (pv (vm n)) := by
  have h := q_lookup hO hi (string_keyed hk) ht hz ho hx hy (keyStr hk hn)
  rw [hf n] at h
  cases hv : vm n with
  | none => rw [hv] at h; exact h
  | some c => rw [hv] at h; exact h
theorem q_lookVarS (hO : St w0 M w L) (hi : L[i]? = some (Ent.mapE P k b c f)) (hf : VarM f vm) (hk : P.underlying k = some .string) (ht : P.underlying t = some (.map k e)) (hz : (zeroValue e).run P w = .ok (pv none) w) (ho : o.op = .lookup t x y false) (hx : a.eval x = .map (some b)) (hy : a.eval y = str n) (hn : n.length ≤ 9223372036854775807) {d : Nat} (hd : vm n = some d) : QV P o a w (ptr (adr d)) := by
  have h := q_lookVar hO hi hf hk ht hz ho hx hy hn
  rw [hd] at h; exact h
theorem e_putVar (hO : St w0 M w L) (hi : L[i]? = some (Ent.mapE P k b c f)) (hk : P.underlying k = some .string) (ht : P.underlying t = some (.map k e)) (hc : c < 9223372036854775807)
    (ho : o.op = .mapUpdate t x y u) (hx : a.eval x = .map (some b)) (hy : a.eval y = str n) (hu : a.eval u = v) (hn : n.length ≤ 9223372036854775807) : Eff P o a w (fun u w' => u = undef ∧ St w0 M w' (L.set i (Ent.mapE P k b (c + 1) (putF f (litS n) v)))) :=
  e_mapPut hO hi (string_keyed hk) ht (by unfold maxLen; exact hc) ho hx hy hu (keyStr hk hn)
end
def RT.small : RT → Prop
  | .var n => n.length ≤ 4611686018427387904
  | .con n => n.length ≤ 4611686018427387904
  | .app a b => a.small ∧ b.small
theorem er_var {k : Int} {n : Nam} {hd : Hdr} {l : List TN} {r : RT} (h : (TN.mk k n hd l).er = r.ty) (hk : k = 52) : r = .var n ∧ l = [] := by
  rw [er_mk] at h
  cases r with
  | var m => injection h with h1 h2 h3; exact ⟨by rw [h2], List.map_eq_nil_iff.1 h3⟩
  | con m => injection h with h1; omega
  | app a b => injection h with h1; omega
theorem er_con {k : Int} {n : Nam} {hd : Hdr} {l : List TN} {r : RT} (h : (TN.mk k n hd l).er = r.ty) (hk : k = 53) : r = .con n ∧ l = [] := by
  rw [er_mk] at h
  cases r with
  | con m => injection h with h1 h2 h3; exact ⟨by rw [h2], List.map_eq_nil_iff.1 h3⟩
  | var m => injection h with h1; omega
  | app a b => injection h with h1; omega
theorem er_app {k : Int} {n : Nam} {hd : Hdr} {l : List TN} {r : RT} (h : (TN.mk k n hd l).er = r.ty) (h1 : ¬ k = 52) (h2 : ¬ k = 53) : ∃ a b ta tb, r = .app a b ∧ k = 54 ∧ n = [] ∧ l = [ta, tb] ∧ ta.er = a.ty ∧ tb.er = b.ty := by
  rw [er_mk] at h
  cases r with
  | var m => injection h with h3; omega
  | con m => injection h with h3; omega
  | app a b =>
    injection h with h3 h4 h5
    match l, h5 with
    | [], h5 => exact absurd (congrArg List.length h5) (by simp)
    | [_], h5 => exact absurd (congrArg List.length h5) (by simp)
    | _ :: _ :: _ :: _, h5 => exact absurd (congrArg List.length h5) (by simp)
    | [ta, tb], h5 =>
      injection h5 with h6 h7
      injection h7 with h7
      exact ⟨a, b, ta, tb, rfl, h3, h4, rfl, h6, h7⟩
end Go.Proofs.Ytfkmlcgccffmnaa
namespace Go.Proofs.Ytfkmlcgccffmnaa
open Go
set_option maxRecDepth 100000
set_option linter.unusedVariables false
set_option maxHeartbeats 4000000 in
theorem read_i (r : RT) (ih : ∀ r' : RT, r'.nodes < r.nodes → ∀ t : TN, ∀ (w0 : World) (wb bm : Nat) (S : Sto) (ρ d : Nat → Nat) (hW : WfS S ρ d) (vm : Nam → Option Nat) (hV : VmOk S vm) (cn : Nat) (f : Lit → Option Value) (hf : VarM f vm), r'.small → cn + r'.nodes ≤ 4611686018427387904 → Owns w0 [.ob wb 52 [.map (some bm)], Ent.mapE Try.prog 9 bm cn f, gE 99 S] → RdN w0 (blks [.ob wb 52 [.map (some bm)], Ent.mapE Try.prog 9 bm cn f, gE 99 S]) t → t.er = r'.ty → Ret Try.prog 27 #[ptr (adr wb), .agg (tnE.cells t).toArray] w0 (fun v w' => ∃ S' vm' cn' f' b, v = ptr (adr b) ∧ RdPost S vm r' S' vm' b ∧ VarM f' vm' ∧ cn' ≤ cn + r'.nodes ∧ St w0 (blks [.ob wb 52 [.map (some bm)], Ent.mapE Try.prog 9 bm cn f, gE 99 S]) w' [.ob wb 52 [.map (some bm)], Ent.mapE Try.prog 9 bm cn' f', gE 99 S'])) (k : Int) (n : List UInt8) (hd : Hdr) (l : List TN) (w0 : World) (wb bm : Nat) (S : Sto) (ρ d : Nat → Nat) (hW : WfS S ρ d) (vm : Nam → Option Nat) (hV : VmOk S vm) (cn : Nat) (f : Lit → Option Value) (hf : VarM f vm) (hsm : r.small) (hcn : cn + r.nodes ≤ 4611686018427387904) (hA : Owns w0 [.ob wb 52 [.map (some bm)], Ent.mapE Try.prog 9 bm cn f, gE 99 S]) (hR : RdN w0 (blks [.ob wb 52 [.map (some bm)], Ent.mapE Try.prog 9 bm cn f, gE 99 S]) (TN.mk k n hd l)) (her : (TN.mk k n hd l).er = r.ty) : Ret Try.prog 27 #[ptr (adr wb), .agg (tnE.cells (TN.mk k n hd l)).toArray] w0 (fun v w' => ∃ S' vm' cn' f' b, v = ptr (adr b) ∧ RdPost S vm r S' vm' b ∧ VarM f' vm' ∧ cn' ≤ cn + r.nodes ∧ St w0 (blks [.ob wb 52 [.map (some bm)], Ent.mapE Try.prog 9 bm cn f, gE 99 S]) w' [.ob wb 52 [.map (some bm)], Ent.mapE Try.prog 9 bm cn' f', gE 99 S']) := by
  have hO := St.init hA
  refine ret_of (m := 54) Try.func27 rfl Try.ntmps27 [(0, ptr (adr wb)), (1, .agg (tnE.cells (TN.mk k n hd l)).toArray)] rfl ⟨rfl, rfl, trivial⟩ fun a hF => ?_
  refine wp_seq ?_
  refine wp_region_lit ?_
  refine wl_e hF rfl rfl rfl (e_box hO rfl (hF.eval rfl) rfl) ?_
  rintro a _ w ⟨tk, rfl, hO⟩ hF
  refine wl_v hF rfl rfl rfl (q_assign rfl (hF.eval rfl)) fun a hF => ?_
  refine wl_nil ?_
  refine k_n ?_
  refine wp_seq ?_
  refine wp_seq ?_
  refine wp_region_lit ?_
  refine wl_v hF rfl rfl rfl (q_fieldAddr0 (d := 0) Try.underlying33 rfl (hF.eval rfl) rfl Try.sizeOf3 (by decide) rfl) fun a hF => ?_
  refine wl_v hF rfl rfl rfl (q_load Try.isAgg3 rfl (hF.eval rfl) (hO.cell 0 rfl rfl)) fun a hF => ?_
  refine wl_nil ?_
  refine k_n ?_
  refine wp_block ?_
  refine wp_seq ?_
  refine wp_region_lit ?_
  refine wl_v hF rfl rfl rfl (q_eq rfl (hF.eval rfl) (hF.eval rfl)) fun a hF => ?_
  refine wl_v hF rfl rfl rfl (q_assign rfl (hF.eval rfl)) fun a hF => ?_
  refine wl_nil ?_
  refine k_n ?_
  refine wp_ifD hF rfl rfl (fun hc1 => ?_) (fun hc1 => ?_)
  · skip
    obtain ⟨rfl, rfl⟩ := er_var her hc1
    have hnl : n.length ≤ 9223372036854775807 := Nat.le_trans hsm (by decide)
    refine wp_seq ?_
    refine wp_seq ?_
    have hO := hO.drew
    refine wp_region_D [0, 0, 0, 1, 0, 1, 3, 0] (fun w => St _ _ w _) Try_mixed (by kernel_rfl) hO ?_
    refine wd_p hF rfl rfl rfl (fun w => q_move rfl (hF.eval rfl)) fun a hF => ?_
    refine wd_p hF rfl rfl rfl (fun w => q_nilCheck rfl (hF.eval rfl)) fun a hF => ?_
    refine wd_p hF rfl rfl rfl (fun w => q_fieldAddr0 (d := 0) Try.underlying52 rfl (hF.eval rfl) rfl Try.sizeOf50 (by decide) rfl) fun a hF => ?_
    refine wd_r hF rfl rfl rfl (fun w hO => q_load Try.isAgg50 rfl (hF.eval rfl) (hO.cell 1 rfl rfl)) fun a hF => ?_
    refine wd_p hF rfl rfl rfl (fun w => q_fieldAddr0 (d := 1) Try.underlying33 rfl (hF.eval rfl) rfl Try.sizeOf9 (by decide) rfl) fun a hF => ?_
    refine wd_r hF rfl rfl rfl (fun w hO => q_load Try.isAgg9 rfl (hF.eval rfl) (hO.cell 0 rfl rfl)) fun a hF => ?_
    refine wd_f hF rfl rfl rfl (QV.eff (q_lookVar hO (i := 2) rfl hf Try.underlying9 Try.underlying50 (Try.zeroValue54 _) rfl (hF.eval rfl) (hF.eval rfl) hnl)) ?_
    rintro a _ w ⟨rfl, rfl⟩ hF
    refine wd_p hF rfl rfl rfl (fun w => q_peq Try.underlying54 rfl (hF.eval rfl) (hF.eval rfl)) fun a hF => ?_
    refine wd_nil ?_
    refine k_n ?_
    refine wp_ifD hF rfl rfl (fun hc2 => ?_) (fun hc2 => ?_)
    · skip
      have hvn : vm n = none := pv_no (not_not_intro hc2)
      have hO := hO.drew
      refine wp_region_D [0, 0, 0, 1, 0, 1, 0, 1, 0, 2, 3] (fun w => St _ _ w _) Try_mixed (by kernel_rfl) hO ?_
      refine wd_p hF rfl rfl rfl (fun w => q_move rfl (hF.eval rfl)) fun a hF => ?_
      refine wd_p hF rfl rfl rfl (fun w => q_nilCheck rfl (hF.eval rfl)) fun a hF => ?_
      refine wd_p hF rfl rfl rfl (fun w => q_fieldAddr0 (d := 0) Try.underlying52 rfl (hF.eval rfl) rfl Try.sizeOf50 (by decide) rfl) fun a hF => ?_
      refine wd_r hF rfl rfl rfl (fun w hO => q_load Try.isAgg50 rfl (hF.eval rfl) (hO.cell 1 rfl rfl)) fun a hF => ?_
      refine wd_p hF rfl rfl rfl (fun w => q_fieldAddr0 (d := 1) Try.underlying33 rfl (hF.eval rfl) rfl Try.sizeOf9 (by decide) rfl) fun a hF => ?_
      refine wd_r hF rfl rfl rfl (fun w hO => q_load Try.isAgg9 rfl (hF.eval rfl) (hO.cell 0 rfl rfl)) fun a hF => ?_
      refine wd_p hF rfl rfl rfl (fun w => q_fieldAddr0 (d := 1) Try.underlying33 rfl (hF.eval rfl) rfl Try.sizeOf9 (by decide) rfl) fun a hF => ?_
      refine wd_r hF rfl rfl rfl (fun w hO => q_load Try.isAgg9 rfl (hF.eval rfl) (hO.cell 0 rfl rfl)) fun a hF => ?_
      refine wd_p hF rfl rfl rfl (fun w => c_build hF Try.underlying99 Try.zeroValue99 Try_places99 rfl rfl rfl rfl) fun a hF => ?_
      refine wd_e hF rfl rfl rfl (e_box hO rfl (hF.eval rfl) rfl) (fun _ _ ⟨_, _, hO⟩ => hO.tail) ?_
      rintro a _ w ⟨nb, rfl, hO⟩ hF
      refine wd_s hF rfl rfl (e_putVar (v := ptr (adr nb)) hO (i := 3) rfl Try.underlying9 Try.underlying50 (by omega) rfl (hF.eval rfl) (hF.eval rfl) (hF.eval rfl) hnl) ?_
      rintro a _ w ⟨-, hO⟩ hF
      have hO : St _ _ _ [_, _, _, _, _] := hO
      have hO : St _ _ _ (.ob nb 99 (tmc ⟨52, n, none, none, none, 0⟩) :: [_, _, _, _]) := hO
      have hnb := hO.freshN (i := 3) rfl
      have hO := hO.intoN 3 rfl
      have hO : St _ _ _ [_, _, _, _] := hO
      refine wd_nil ?_
      refine k_n ?_
      refine wp_seq ?_
      have hO := hO.drew
      refine wp_region_D [0, 0, 0, 1, 0, 1, 3, 0] (fun w => St _ _ w _) Try_mixed (by kernel_rfl) hO ?_
      refine wd_p hF rfl rfl rfl (fun w => q_move rfl (hF.eval rfl)) fun a hF => ?_
      refine wd_p hF rfl rfl rfl (fun w => q_nilCheck rfl (hF.eval rfl)) fun a hF => ?_
      refine wd_p hF rfl rfl rfl (fun w => q_fieldAddr0 (d := 0) Try.underlying52 rfl (hF.eval rfl) rfl Try.sizeOf50 (by decide) rfl) fun a hF => ?_
      refine wd_r hF rfl rfl rfl (fun w hO => q_load Try.isAgg50 rfl (hF.eval rfl) (hO.cell 1 rfl rfl)) fun a hF => ?_
      refine wd_p hF rfl rfl rfl (fun w => q_fieldAddr0 (d := 1) Try.underlying33 rfl (hF.eval rfl) rfl Try.sizeOf9 (by decide) rfl) fun a hF => ?_
      refine wd_r hF rfl rfl rfl (fun w hO => q_load Try.isAgg9 rfl (hF.eval rfl) (hO.cell 0 rfl rfl)) fun a hF => ?_
      refine wd_f hF rfl rfl rfl (QV.eff (q_lookVarS hO (i := 2) rfl (hf.put n nb) Try.underlying9 Try.underlying50 (Try.zeroValue54 _) rfl (hF.eval rfl) (hF.eval rfl) hnl (d := nb) (if_pos rfl))) ?_
      rintro a _ w ⟨rfl, rfl⟩ hF
      refine wd_p hF rfl rfl rfl (fun w => q_assign rfl (hF.eval rfl)) fun a hF => ?_
      refine wd_nil ?_
      refine k_n ?_
      refine wp_ret ?_
      refine b_r ?_
      refine k_r ?_
      refine r_1 hF rfl rfl ?_
      have hO := hO.drop1 0
      have hO : St _ _ _ [_, _, _] := hO
      exact ⟨_, _, _, _, nb, rfl, read_new hW hV hvn hnb rfl, hf.put n nb, Nat.le_refl _, hO⟩
    · skip
      obtain ⟨b, hvb⟩ := pv_ex hc2
      refine wp_skip ?_
      refine k_n ?_
      refine wp_seq ?_
      have hO := hO.drew
      refine wp_region_D [0, 0, 0, 1, 0, 1, 3, 0] (fun w => St _ _ w _) Try_mixed (by kernel_rfl) hO ?_
      refine wd_p hF rfl rfl rfl (fun w => q_move rfl (hF.eval rfl)) fun a hF => ?_
      refine wd_p hF rfl rfl rfl (fun w => q_nilCheck rfl (hF.eval rfl)) fun a hF => ?_
      refine wd_p hF rfl rfl rfl (fun w => q_fieldAddr0 (d := 0) Try.underlying52 rfl (hF.eval rfl) rfl Try.sizeOf50 (by decide) rfl) fun a hF => ?_
      refine wd_r hF rfl rfl rfl (fun w hO => q_load Try.isAgg50 rfl (hF.eval rfl) (hO.cell 1 rfl rfl)) fun a hF => ?_
      refine wd_p hF rfl rfl rfl (fun w => q_fieldAddr0 (d := 1) Try.underlying33 rfl (hF.eval rfl) rfl Try.sizeOf9 (by decide) rfl) fun a hF => ?_
      refine wd_r hF rfl rfl rfl (fun w hO => q_load Try.isAgg9 rfl (hF.eval rfl) (hO.cell 0 rfl rfl)) fun a hF => ?_
      refine wd_f hF rfl rfl rfl (QV.eff (q_lookVarS hO (i := 2) rfl hf Try.underlying9 Try.underlying50 (Try.zeroValue54 _) rfl (hF.eval rfl) (hF.eval rfl) hnl hvb)) ?_
      rintro a _ w ⟨rfl, rfl⟩ hF
      refine wd_p hF rfl rfl rfl (fun w => q_assign rfl (hF.eval rfl)) fun a hF => ?_
      refine wd_nil ?_
      refine k_n ?_
      refine wp_ret ?_
      refine b_r ?_
      refine k_r ?_
      refine r_1 hF rfl rfl ?_
      have hO := hO.drop1 0
      have hO : St _ _ _ [_, _, _] := hO
      exact ⟨_, _, _, _, b, rfl, read_old hW hV hvb, hf, Nat.le_add_right _ _, hO⟩
  · skip
    refine wp_seq ?_
    refine wp_region_lit ?_
    refine wl_v hF rfl rfl rfl (q_eq rfl (hF.eval rfl) (hF.eval rfl)) fun a hF => ?_
    refine wl_v hF rfl rfl rfl (q_assign rfl (hF.eval rfl)) fun a hF => ?_
    refine wl_nil ?_
    refine k_n ?_
    refine wp_ifD hF rfl rfl (fun hc3 => ?_) (fun hc3 => ?_)
    · skip
      obtain ⟨rfl, rfl⟩ := er_con her hc3
      refine wp_seq ?_
      refine wp_region_lit ?_
      refine wl_v hF rfl rfl rfl (q_fieldAddr0 (d := 1) Try.underlying33 rfl (hF.eval rfl) rfl Try.sizeOf9 (by decide) rfl) fun a hF => ?_
      refine wl_v hF rfl rfl rfl (q_load Try.isAgg9 rfl (hF.eval rfl) (hO.cell 0 rfl rfl)) fun a hF => ?_
      refine wl_v hF rfl rfl rfl (c_build hF Try.underlying99 Try.zeroValue99 Try_places99 rfl rfl rfl rfl) fun a hF => ?_
      refine wl_e hF rfl rfl rfl (e_box hO rfl (hF.eval rfl) rfl) ?_
      rintro a _ w ⟨nb, rfl, hO⟩ hF
      have hO : St _ _ _ (.ob nb 99 (tmc ⟨53, n, none, none, none, 0⟩) :: [_, _, _, _]) := hO
      have hnb := hO.freshN (i := 3) rfl
      have hO := hO.intoN 3 rfl
      have hO : St _ _ _ [_, _, _, _] := hO
      refine wl_v hF rfl rfl rfl (q_assign rfl (hF.eval rfl)) fun a hF => ?_
      refine wl_nil ?_
      refine k_n ?_
      refine wp_ret ?_
      refine b_r ?_
      refine k_r ?_
      refine r_1 hF rfl rfl ?_
      have hO := hO.drop1 0
      have hO : St _ _ _ [_, _, _] := hO
      exact ⟨_, _, _, _, nb, rfl, read_con hW hV hnb rfl, hf, Nat.le_add_right _ _, hO⟩
    · skip
      obtain ⟨ra, rb, ta, tb, rfl, hk4, rfl, rfl, hea, heb⟩ := er_app her hc1 hc3
      have hpa := ra.pos
      have hpb := rb.pos
      have hnn : (RT.app ra rb).nodes = 1 + ra.nodes + rb.nodes := rfl
      refine wp_skip ?_
      refine b_n ?_
      refine k_n ?_
      refine wp_seq ?_
      have hO := hO.drew
      refine wp_region_D [0, 0, 1, 0, 1, 2, 0, 0, 1, 0, 1, 3, 0, 3, 0] (fun w => ∃ L', St w0 (blks [.ob wb 52 [.map (some bm)], Ent.mapE Try.prog 9 bm cn f, gE 99 S]) w (.ob tk 33 (tnE.cells (TN.mk k [] hd [ta, tb])) :: L')) Try_mixed (by kernel_rfl) ⟨_, hO⟩ ?_
      refine wd_p hF rfl rfl rfl (fun w => q_move rfl (hF.eval rfl)) fun a hF => ?_
      refine wd_p hF rfl rfl rfl (fun w => q_fieldAddr0 (d := 2) Try.underlying33 rfl (hF.eval rfl) rfl Try.sizeOf31 (by decide) rfl) fun a hF => ?_
      refine wd_r hF rfl rfl rfl (fun w ⟨_, hO⟩ => q_load Try.isAgg31 rfl (hF.eval rfl) (hO.cell 0 rfl rfl)) fun a hF => ?_
      refine wd_p hF rfl rfl rfl (fun w => q_at (i := 0) hR.sl Try.underlying31 Try.sizeOf33 rfl (hF.eval rfl) (hF.eval rfl) (by simp)) fun a hF => ?_
      refine wd_r hF rfl rfl rfl (fun w ⟨_, hO⟩ => q_loadAgg Try.isAgg33 Try.sizeOf33 rfl (hF.eval rfl) (RdT.cells (hR.sl.now hO) (show [ta, tb][0]? = some ta from rfl)) rfl) fun a hF => ?_
      have hO := hO.pull 3 rfl
      have hO := hO.pull 3 rfl
      have hO := hO.pull 3 rfl
      have hO : St _ _ _ [_, _, _, _] := hO
      refine wd_e hF rfl rfl rfl (c_call hF rfl rfl Try.call27 (ih ra (by omega) ta _ wb bm S ρ d hW vm hV cn f hf hsm.1 (by omega) (St.own3 hO) (RdN.now (St.front (A := [_, _, _]) hO) (hR.sub ta (by simp))) hea)) (fun _ _ ⟨S1, vm1, cn1, f1, b1, _, _, _, _, hS⟩ => ⟨_, (hO.call3 hS).pull 3 rfl⟩) ?_
      rintro a _ w ⟨S1, vm1, cn1, f1, b1, rfl, hP1, hf1, hcn1, hS⟩ hF
      have hO := hO.call3 hS
      have hO : St _ _ _ [_, _, _, _] := hO
      obtain ⟨ρ1, d1, hW1⟩ := hP1.wf
      refine wd_p hF rfl rfl rfl (fun w => q_move rfl (hF.eval rfl)) fun a hF => ?_
      refine wd_p hF rfl rfl rfl (fun w => q_fieldAddr0 (d := 2) Try.underlying33 rfl (hF.eval rfl) rfl Try.sizeOf31 (by decide) rfl) fun a hF => ?_
      refine wd_r hF rfl rfl rfl (fun w ⟨_, hO⟩ => q_load Try.isAgg31 rfl (hF.eval rfl) (hO.cell 0 rfl rfl)) fun a hF => ?_
      refine wd_p hF rfl rfl rfl (fun w => q_at (i := 1) hR.sl Try.underlying31 Try.sizeOf33 rfl (hF.eval rfl) (hF.eval rfl) (by simp)) fun a hF => ?_
      refine wd_r hF rfl rfl rfl (fun w ⟨_, hO⟩ => q_loadAgg Try.isAgg33 Try.sizeOf33 rfl (hF.eval rfl) (RdT.cells (hR.sl.now hO) (show [ta, tb][1]? = some tb from rfl)) rfl) fun a hF => ?_
      have hO := hO.pull 2 rfl
      have hO := hO.pull 2 rfl
      have hO := hO.pull 2 rfl
      have hO : St _ _ _ [_, _, _, _] := hO
      refine wd_f hF rfl rfl rfl (c_call hF rfl rfl Try.call27 (ih rb (by omega) tb _ wb bm S1 ρ1 d1 hW1 vm1 hP1.ok cn1 f1 hf1 hsm.2 (by omega) (St.own3 hO) (RdN.now (St.front (A := [_, _, _]) hO) (hR.sub tb (by simp))) heb)) ?_
      rintro a _ w ⟨S2, vm2, cn2, f2, b2, rfl, hP2, hf2, hcn2, hS⟩ hF
      have hO := hO.call3 hS
      have hO : St _ _ _ [_, _, _, _] := hO
      refine wd_p hF rfl rfl rfl (fun w => c_build hF Try.underlying99 Try.zeroValue99 Try_places99 rfl rfl rfl rfl) fun a hF => ?_
      refine wd_f hF rfl rfl rfl (e_box hO rfl (hF.eval rfl) rfl) ?_
      rintro a _ w ⟨nb, rfl, hO⟩ hF
      have hO : St _ _ _ (.ob nb 99 (tmc ⟨54, [], some b1, some b2, none, 0⟩) :: [_, _, _, _]) := hO
      have hnb := hO.freshN (i := 2) rfl
      have hO := hO.intoN 2 rfl
      have hO : St _ _ _ [_, _, _, _] := hO
      refine wd_p hF rfl rfl rfl (fun w => q_assign rfl (hF.eval rfl)) fun a hF => ?_
      refine wd_nil ?_
      refine k_n ?_
      refine wp_ret ?_
      refine r_1 hF rfl rfl ?_
      have hO := hO.drop1 3
      have hO : St _ _ _ [_, _, _] := hO
      exact ⟨_, _, _, _, nb, rfl, read_app hP1 hP2 hnb rfl, hf2, by omega, hO⟩


theorem read_r : ∀ (n : Nat) (r : RT), r.nodes < n → ∀ t : TN, ∀ (w0 : World) (wb bm : Nat) (S : Sto) (ρ d : Nat → Nat) (hW : WfS S ρ d) (vm : Nam → Option Nat) (hV : VmOk S vm) (cn : Nat) (f : Lit → Option Value) (hf : VarM f vm), r.small → cn + r.nodes ≤ 4611686018427387904 → Owns w0 [.ob wb 52 [.map (some bm)], Ent.mapE Try.prog 9 bm cn f, gE 99 S] → RdN w0 (blks [.ob wb 52 [.map (some bm)], Ent.mapE Try.prog 9 bm cn f, gE 99 S]) t → t.er = r.ty → Ret Try.prog 27 #[ptr (adr wb), .agg (tnE.cells t).toArray] w0 (fun v w' => ∃ S' vm' cn' f' b, v = ptr (adr b) ∧ RdPost S vm r S' vm' b ∧ VarM f' vm' ∧ cn' ≤ cn + r.nodes ∧ St w0 (blks [.ob wb 52 [.map (some bm)], Ent.mapE Try.prog 9 bm cn f, gE 99 S]) w' [.ob wb 52 [.map (some bm)], Ent.mapE Try.prog 9 bm cn' f', gE 99 S'])
  | 0, _, h => absurd h (Nat.not_lt_zero _)
  | n + 1, r, h => fun t => by
    obtain ⟨k, n', hd, l⟩ := t
    intro w0 wb bm S ρ d hW vm hV cn f hf h1 h2 h3 h4 h5
    exact read_i r (fun r' hr => read_r n r' (by omega)) k n' hd l w0 wb bm S ρ d hW vm hV cn f hf h1 h2 h3 h4 h5
end Go.Proofs.Ytfkmlcgccffmnaa
namespace Go.Proofs.Ytfkmlcgccffmnaa
open Go
section
variable {S : Sto} {ρ d : Nat → Nat} {mk : Nat → Int} {b x y : Nat} {r : RT}
theorem WfS.marks (h : WfS S ρ d) (mk : Nat → Int) : WfS (markS S mk) ρ d := ⟨h.kinds, h.app, h.link, h.root, h.rep, h.least⟩
theorem markS_upd (S : Sto) (mk : Nat → Int) (a : Nat) (m : Int) : markS S (updT mk a m) = ⟨(markS S mk).ids, updT (markS S mk).tm a { (markS S mk).tm a with mark := m }⟩ := by
  unfold markS
  congr 1
  funext c
  unfold updT
  dsimp only
  split
  · rename_i e; subst e; rfl
  · rfl
theorem mk_l (hx : (S.tm b).l = some x) : (tmc ((markS S mk).tm b))[2]? = some (ptr (adr x)) := by
  show some (pv (S.tm b).l) = _
  rw [hx]; rfl
theorem mk_r (hx : (S.tm b).r = some x) : (tmc ((markS S mk).tm b))[3]? = some (ptr (adr x)) := by
  show some (pv (S.tm b).r) = _
  rw [hx]; rfl
theorem tm_l (hx : (S.tm b).l = some x) : (tmc (S.tm b))[2]? = some (ptr (adr x)) := by
  show some (pv (S.tm b).l) = _
  rw [hx]; rfl
theorem tm_r (hx : (S.tm b).r = some x) : (tmc (S.tm b))[3]? = some (ptr (adr x)) := by
  show some (pv (S.tm b).r) = _
  rw [hx]; rfl
theorem Res.marks (h : Res S ρ b r) (mk : Nat → Int) : Res (markS S mk) ρ b r := by
  induction h with
  | var hk => exact .var hk
  | con hk => exact .con hk
  | app hk hx hy _ _ ih1 ih2 => exact .app hk hx hy ih1 ih2
theorem wr_leaf (hW : WfS S ρ d) (ha : ρ b ∈ S.ids) (h : Res S ρ b r) {k : Int} (hk : k - 1 < 0 ∨ ¬ (S.tm (ρ b)).kind = 54) : wr r k = (.mk (S.tm (ρ b)).kind (S.tm (ρ b)).name [], k - 1) := by
  cases h with
  | var hk => rw [hk]; rfl
  | con hk => rw [hk]; rfl
  | app hk2 hx hy h1 h2 =>
    unfold wr
    rw [if_pos (hk.resolve_right fun h => h hk2), (hW.app _ ha hk2).1, hk2]
theorem res_app (h : Res S ρ b r) (hk : (S.tm (ρ b)).kind = 54) : ∃ x y s t, r = .app s t ∧ (S.tm (ρ b)).l = some x ∧ (S.tm (ρ b)).r = some y ∧ Res S ρ x s ∧ Res S ρ y t := by
  cases h with
  | var hk2 => omega
  | con hk2 => omega
  | app _ hx hy h1 h2 => exact ⟨_, _, _, _, rfl, hx, hy, h1, h2⟩
end
theorem rd_nilT (w : World) (M : List Nat) : RdT w M nilH.v tnE [] := Rd.nil w M 3
end Go.Proofs.Ytfkmlcgccffmnaa
namespace Go.Proofs.Ytfkmlcgccffmnaa
open Go
set_option maxRecDepth 100000
set_option linter.unusedVariables false
set_option maxHeartbeats 2000000 in
theorem ringless_i (S : Sto) (ρ d : Nat → Nat) (hW : WfS S ρ d) (n : Nat) (ih : ∀ (mk : Nat → Int) (b : Nat) (w0 : World), b ∈ S.ids → MkOk S ρ mk b → Owns w0 [gE 99 (markS S mk)] → cnt0 S mk < n → Ret Try.prog 30 #[ptr (adr b)] w0 (fun v w' => ∃ mk' ok, v = .bool ok ∧ RgPost S ρ mk b mk' ok ∧ St w0 (blks [gE 99 (markS S mk)]) w' [gE 99 (markS S mk')])) (mk : Nat → Int) (b : Nat) (w0 : World) (hb : b ∈ S.ids) (hM : MkOk S ρ mk b) (hA : Owns w0 [gE 99 (markS S mk)]) (hn : cnt0 S mk ≤ n) : Ret Try.prog 30 #[ptr (adr b)] w0 (fun v w' => ∃ mk' ok, v = .bool ok ∧ RgPost S ρ mk b mk' ok ∧ St w0 (blks [gE 99 (markS S mk)]) w' [gE 99 (markS S mk')]) := by
  have hO := St.init hA
  obtain ⟨ha, ha1⟩ := hW.rep b hb
  refine ret_of (m := 42) Try.func30 rfl Try.ntmps30 [(0, ptr (adr b))] rfl ⟨rfl, trivial⟩ fun a hF => ?_
  refine wp_seq ?_
  refine wp_region_lit ?_
  refine wl_v hF rfl rfl rfl (q_assign rfl (hF.eval rfl)) fun a hF => ?_
  refine wl_nil ?_
  refine k_n ?_
  refine wp_seq ?_
  refine wp_region_lit ?_
  refine wl_v hF rfl rfl rfl (q_move rfl (hF.eval rfl)) fun a hF => ?_
  have hO : St _ _ _ [_] := hO
  refine wl_e hF rfl rfl rfl (c_call hF rfl rfl Try.call56 (now_r _ _ _ _ (hW.marks mk) _ hO.own1 hb)) ?_
  rintro a _ w ⟨rfl, hS⟩ hF
  have hO := hO.call1 hS
  have hO : St _ _ _ [_] := hO
  refine wl_v hF rfl rfl rfl (q_assign rfl (hF.eval rfl)) fun a hF => ?_
  refine wl_nil ?_
  refine k_n ?_
  refine wp_seq ?_
  refine wp_seq ?_
  refine wp_region_lit ?_
  refine wl_v hF rfl rfl rfl (q_move rfl (hF.eval rfl)) fun a hF => ?_
  refine wl_v hF rfl rfl rfl (q_nilCheck rfl (hF.eval rfl)) fun a hF => ?_
  refine wl_v hF rfl rfl rfl (q_fieldAddr0 (d := 0) Try.underlying99 rfl (hF.eval rfl) rfl Try.sizeOf3 (by decide) rfl) fun a hF => ?_
  refine wl_v hF rfl rfl rfl (q_load Try.isAgg3 rfl (hF.eval rfl) (hO.cellN 0 rfl ha rfl)) fun a hF => ?_
  refine wl_v hF rfl rfl rfl (q_ne rfl (hF.eval rfl) (hF.eval rfl)) fun a hF => ?_
  refine wl_v hF rfl rfl rfl (q_move rfl (hF.eval rfl)) fun a hF => ?_
  refine wl_g hF rfl rfl rfl rfl rfl rfl (fun hg => q_move rfl (hF.eval rfl)) fun a hF => ?_
  refine wl_g hF rfl rfl rfl rfl rfl rfl (fun hg => q_nilCheck rfl ((hF.eval rfl).trans (gv_of hg))) fun a hF => ?_
  refine wl_g hF rfl rfl rfl rfl rfl rfl (fun hg => q_fieldAddr0 (d := 5) Try.underlying99 rfl ((hF.eval rfl).trans (gv_of hg)) rfl Try.sizeOf3 (by decide) rfl) fun a hF => ?_
  refine wl_g hF rfl rfl rfl rfl rfl rfl (fun hg => q_load Try.isAgg3 rfl ((hF.eval rfl).trans (gv_of hg)) (hO.cellN 0 rfl ha rfl)) fun a hF => ?_
  refine wl_g hF rfl rfl rfl rfl rfl rfl (fun hg => q_eq rfl ((hF.eval rfl).trans (gv_of hg)) (hF.eval rfl)) fun a hF => ?_
  refine wl_v hF rfl rfl rfl (q_or rfl (hF.eval rfl) rfl (fun hg2 => ((hF.eval rfl).trans (gv_of hg2))) rfl) fun a hF => ?_
  refine wl_nil ?_
  refine k_n ?_
  refine wp_ifD hF rfl rfl (fun hc1 => ?_) (fun hc1 => ?_)
  · skip
    refine wp_seq ?_
    refine wp_region_lit ?_
    refine wl_v hF rfl rfl rfl (q_assign rfl (hF.eval rfl)) fun a hF => ?_
    refine wl_nil ?_
    refine k_n ?_
    refine wp_ret ?_
    refine k_r ?_
    refine r_1 hF rfl rfl ?_
    have hO : St _ _ _ [_] := hO
    exact ⟨_, true, rfl, rg_leaf hW hb hM hc1, hO⟩
  · skip
    refine wp_skip ?_
    refine k_n ?_
    refine wp_seq ?_
    refine wp_seq ?_
    refine wp_region_lit ?_
    refine wl_v hF rfl rfl rfl (q_move rfl (hF.eval rfl)) fun a hF => ?_
    refine wl_v hF rfl rfl rfl (q_nilCheck rfl (hF.eval rfl)) fun a hF => ?_
    refine wl_v hF rfl rfl rfl (q_fieldAddr0 (d := 5) Try.underlying99 rfl (hF.eval rfl) rfl Try.sizeOf3 (by decide) rfl) fun a hF => ?_
    refine wl_v hF rfl rfl rfl (q_load Try.isAgg3 rfl (hF.eval rfl) (hO.cellN 0 rfl ha rfl)) fun a hF => ?_
    refine wl_v hF rfl rfl rfl (q_eq rfl (hF.eval rfl) (hF.eval rfl)) fun a hF => ?_
    refine wl_nil ?_
    refine k_n ?_
    refine wp_ifD hF rfl rfl (fun hc2 => ?_) (fun hc2 => ?_)
    · skip
      refine wp_seq ?_
      refine wp_region_lit ?_
      refine wl_v hF rfl rfl rfl (q_assign rfl (hF.eval rfl)) fun a hF => ?_
      refine wl_nil ?_
      refine k_n ?_
      refine wp_ret ?_
      refine k_r ?_
      refine r_1 hF rfl rfl ?_
      have hO : St _ _ _ [_] := hO
      exact ⟨_, false, rfl, rg_ring hW hb hM hc2, hO⟩
    · skip
      have hk4 : (S.tm (ρ b)).kind = 54 := Classical.not_not.1 (not_or.1 hc1).1
      have hm2 : ¬ mk (ρ b) = 2 := (not_or.1 hc1).2
      have hm1 : ¬ mk (ρ b) = 1 := hc2
      obtain ⟨-, x, y, hx, hy, hx2, hy2⟩ := hW.app _ ha hk4
      have hct := rg_cnt (S := S) ha hm1 hm2
      refine wp_skip ?_
      refine k_n ?_
      refine wp_seq ?_
      refine wp_region_lit ?_
      refine wl_v hF rfl rfl rfl (q_move rfl (hF.eval rfl)) fun a hF => ?_
      refine wl_v hF rfl rfl rfl (q_nilCheck rfl (hF.eval rfl)) fun a hF => ?_
      refine wl_v hF rfl rfl rfl (q_fieldAddr0 (d := 5) Try.underlying99 rfl (hF.eval rfl) rfl Try.sizeOf3 (by decide) rfl) fun a hF => ?_
      refine wl_s hF rfl rfl (e_storeN (t1 := { (markS S mk).tm (ρ b) with mark := 1 }) (S' := markS S (updT mk (ρ b) 1)) hO (i := 0) rfl ha Try.sizeOf3 rfl (hF.eval rfl) (hF.eval rfl) rfl rfl rfl rfl (markS_upd S mk (ρ b) 1)) ?_
      rintro a _ w ⟨-, hO⟩ hF
      have hO : St _ _ _ [_] := hO
      refine wl_nil ?_
      refine k_n ?_
      refine wp_seq ?_
      refine wp_region_lit ?_
      refine wl_v hF rfl rfl rfl (q_move rfl (hF.eval rfl)) fun a hF => ?_
      refine wl_v hF rfl rfl rfl (q_nilCheck rfl (hF.eval rfl)) fun a hF => ?_
      refine wl_v hF rfl rfl rfl (q_fieldAddr0 (d := 2) Try.underlying99 rfl (hF.eval rfl) rfl Try.sizeOf54 (by decide) rfl) fun a hF => ?_
      refine wl_v hF rfl rfl rfl (q_load Try.isAgg54 rfl (hF.eval rfl) (hO.cellN 0 rfl ha (mk_l hx2))) fun a hF => ?_
      have hO : St _ _ _ [_] := hO
      refine wl_e hF rfl rfl rfl (c_call hF rfl rfl Try.call30 (ih _ x _ hx (rg_l hW hb hM hk4 hx2 hy2) hO.own1 (by omega))) ?_
      rintro a _ w ⟨mk1, ok, rfl, hP, hS⟩ hF
      have hO := hO.call1 hS
      have hO : St _ _ _ [_] := hO
      cases ok
      · skip
        refine wl_v hF rfl rfl rfl (q_move rfl (hF.eval rfl)) fun a hF => ?_
        refine wl_sk hF rfl rfl rfl rfl (rfl) rfl rfl fun a hF => ?_
        refine wl_sk hF rfl rfl rfl rfl (rfl) rfl rfl fun a hF => ?_
        refine wl_sk hF rfl rfl rfl rfl (rfl) rfl rfl fun a hF => ?_
        refine wl_sk hF rfl rfl rfl rfl (rfl) rfl rfl fun a hF => ?_
        refine wl_sk hF rfl rfl rfl rfl (rfl) rfl rfl fun a hF => ?_
        refine wl_v hF rfl rfl rfl (q_pickF rfl (hF.eval rfl) rfl) fun a hF => ?_
        refine wl_v hF rfl rfl rfl (q_assign rfl (hF.eval rfl)) fun a hF => ?_
        refine wl_nil ?_
        refine k_n ?_
        refine wp_seq ?_
        refine wp_region_lit ?_
        refine wl_v hF rfl rfl rfl (q_move rfl (hF.eval rfl)) fun a hF => ?_
        refine wl_v hF rfl rfl rfl (q_nilCheck rfl (hF.eval rfl)) fun a hF => ?_
        refine wl_v hF rfl rfl rfl (q_fieldAddr0 (d := 5) Try.underlying99 rfl (hF.eval rfl) rfl Try.sizeOf3 (by decide) rfl) fun a hF => ?_
        refine wl_s hF rfl rfl (e_storeN (t1 := { (markS S mk1).tm (ρ b) with mark := 2 }) (S' := markS S (updT mk1 (ρ b) 2)) hO (i := 0) rfl ha Try.sizeOf3 rfl (hF.eval rfl) (hF.eval rfl) rfl rfl rfl rfl (markS_upd S mk1 (ρ b) 2)) ?_
        rintro a _ w ⟨-, hO⟩ hF
        have hO : St _ _ _ [_] := hO
        refine wl_nil ?_
        refine k_n ?_
        refine wp_seq ?_
        refine wp_region_lit ?_
        refine wl_v hF rfl rfl rfl (q_move rfl (hF.eval rfl)) fun a hF => ?_
        refine wl_v hF rfl rfl rfl (q_assign rfl (hF.eval rfl)) fun a hF => ?_
        refine wl_nil ?_
        refine k_n ?_
        refine wp_ret ?_
        refine r_1 hF rfl rfl ?_
        have hO : St _ _ _ [_] := hO
        exact ⟨_, false, rfl, rg_node hW hb hM hk4 hx2 hy2 hm1 hm2 hP (fun h => by cases h) fun _ => ⟨rfl, rfl⟩, hO⟩
      · skip
        refine wl_v hF rfl rfl rfl (q_move rfl (hF.eval rfl)) fun a hF => ?_
        refine wl_un hF rfl rfl rfl rfl (rfl) ?_
        refine wl_v hF rfl rfl rfl (q_move rfl (hF.eval rfl)) fun a hF => ?_
        refine wl_un hF rfl rfl rfl rfl (rfl) ?_
        refine wl_v hF rfl rfl rfl (q_nilCheck rfl (hF.eval rfl)) fun a hF => ?_
        refine wl_un hF rfl rfl rfl rfl (rfl) ?_
        refine wl_v hF rfl rfl rfl (q_fieldAddr0 (d := 3) Try.underlying99 rfl (hF.eval rfl) rfl Try.sizeOf54 (by decide) rfl) fun a hF => ?_
        refine wl_un hF rfl rfl rfl rfl (rfl) ?_
        refine wl_v hF rfl rfl rfl (q_load Try.isAgg54 rfl (hF.eval rfl) (hO.cellN 0 rfl ha (mk_r hy2))) fun a hF => ?_
        refine wl_un hF rfl rfl rfl rfl (rfl) ?_
        have hO : St _ _ _ [_] := hO
        refine wl_e hF rfl rfl rfl (c_call hF rfl rfl Try.call30 (ih _ y _ hy (rg_r hW hb hM hk4 hx2 hy2 hP) hO.own1 (by have := (hP.1 rfl).2.2.2; omega))) ?_
        rintro a _ w ⟨mk2, ok2, rfl, hP2, hS⟩ hF
        have hO := hO.call1 hS
        have hO : St _ _ _ [_] := hO
        refine wl_v hF rfl rfl rfl (q_pickT rfl (hF.eval rfl) (hF.eval rfl)) fun a hF => ?_
        refine wl_v hF rfl rfl rfl (q_assign rfl (hF.eval rfl)) fun a hF => ?_
        refine wl_nil ?_
        refine k_n ?_
        refine wp_seq ?_
        refine wp_region_lit ?_
        refine wl_v hF rfl rfl rfl (q_move rfl (hF.eval rfl)) fun a hF => ?_
        refine wl_v hF rfl rfl rfl (q_nilCheck rfl (hF.eval rfl)) fun a hF => ?_
        refine wl_v hF rfl rfl rfl (q_fieldAddr0 (d := 5) Try.underlying99 rfl (hF.eval rfl) rfl Try.sizeOf3 (by decide) rfl) fun a hF => ?_
        refine wl_s hF rfl rfl (e_storeN (t1 := { (markS S mk2).tm (ρ b) with mark := 2 }) (S' := markS S (updT mk2 (ρ b) 2)) hO (i := 0) rfl ha Try.sizeOf3 rfl (hF.eval rfl) (hF.eval rfl) rfl rfl rfl rfl (markS_upd S mk2 (ρ b) 2)) ?_
        rintro a _ w ⟨-, hO⟩ hF
        have hO : St _ _ _ [_] := hO
        refine wl_nil ?_
        refine k_n ?_
        refine wp_seq ?_
        refine wp_region_lit ?_
        refine wl_v hF rfl rfl rfl (q_move rfl (hF.eval rfl)) fun a hF => ?_
        refine wl_v hF rfl rfl rfl (q_assign rfl (hF.eval rfl)) fun a hF => ?_
        refine wl_nil ?_
        refine k_n ?_
        refine wp_ret ?_
        refine r_1 hF rfl rfl ?_
        have hO : St _ _ _ [_] := hO
        exact ⟨_, ok2, rfl, rg_node hW hb hM hk4 hx2 hy2 hm1 hm2 hP (fun _ => hP2) (fun h => by cases h), hO⟩


theorem ringless_r (S : Sto) (ρ d : Nat → Nat) (hW : WfS S ρ d) : ∀ (n : Nat), ∀ (mk : Nat → Int) (b : Nat) (w0 : World), b ∈ S.ids → MkOk S ρ mk b → Owns w0 [gE 99 (markS S mk)] → cnt0 S mk < n → Ret Try.prog 30 #[ptr (adr b)] w0 (fun v w' => ∃ mk' ok, v = .bool ok ∧ RgPost S ρ mk b mk' ok ∧ St w0 (blks [gE 99 (markS S mk)]) w' [gE 99 (markS S mk')])
  | 0, _, _, _, _, _, _, h => absurd h (Nat.not_lt_zero _)
  | n + 1, mk, b, w0, hb, hM, hA, h => ringless_i S ρ d hW n (ringless_r S ρ d hW n) mk b w0 hb hM hA (by omega)
set_option maxHeartbeats 2000000 in
theorem write_i (S : Sto) (ρ d : Nat → Nat) (hW : WfS S ρ d) (lb : Nat) (r : RT) (ih : ∀ r' : RT, r'.nodes < r.nodes → ∀ (b : Nat) (k : Int) (w0 : World), b ∈ S.ids → Res S ρ b r' → -1000000 ≤ k → k ≤ 1000000 → Owns w0 [gE 99 S, .ob lb 3 [i64 k]] → Ret Try.prog 31 #[ptr (adr b), ptr (adr lb)] w0 (fun v w' => ∃ t' : TN, v = .agg (tnE.cells t').toArray ∧ t'.er = (wr r' k).1 ∧ St w0 (blks [gE 99 S, .ob lb 3 [i64 k]]) w' [gE 99 S, .ob lb 3 [i64 (wr r' k).2], tE 33 t'])) (b : Nat) (k : Int) (w0 : World) (hb : b ∈ S.ids) (hr : Res S ρ b r) (hk1 : -1000000 ≤ k) (hk2 : k ≤ 1000000) (hA : Owns w0 [gE 99 S, .ob lb 3 [i64 k]]) : Ret Try.prog 31 #[ptr (adr b), ptr (adr lb)] w0 (fun v w' => ∃ t' : TN, v = .agg (tnE.cells t').toArray ∧ t'.er = (wr r k).1 ∧ St w0 (blks [gE 99 S, .ob lb 3 [i64 k]]) w' [gE 99 S, .ob lb 3 [i64 (wr r k).2], tE 33 t']) := by
  have hO := St.init hA
  obtain ⟨ha, ha1⟩ := hW.rep b hb
  refine ret_of (m := 48) Try.func31 rfl Try.ntmps31 [(0, ptr (adr b)), (1, ptr (adr lb))] rfl ⟨rfl, rfl, trivial⟩ fun a hF => ?_
  refine wp_seq ?_
  refine wp_region_lit ?_
  refine wl_e hF rfl rfl rfl (e_alloc hO Try.zeroValue33 rfl rfl) ?_
  rintro a _ w ⟨rs, rfl, hO⟩ hF
  refine wl_nil ?_
  refine k_n ?_
  refine wp_seq ?_
  refine wp_region_lit ?_
  refine wl_v hF rfl rfl rfl (q_move rfl (hF.eval rfl)) fun a hF => ?_
  have hO := hO.pull 1 rfl
  have hO : St _ _ _ [_, _, _] := hO
  refine wl_e hF rfl rfl rfl (c_call hF rfl rfl Try.call56 (now_r _ _ _ _ hW _ hO.own1 hb)) ?_
  rintro a _ w ⟨rfl, hS⟩ hF
  have hO := hO.call1 hS
  have hO : St _ _ _ [_, _, _] := hO
  refine wl_v hF rfl rfl rfl (q_assign rfl (hF.eval rfl)) fun a hF => ?_
  refine wl_nil ?_
  refine k_n ?_
  refine wp_seq ?_
  refine wp_region_lit ?_
  refine wl_v hF rfl rfl rfl (q_move rfl (hF.eval rfl)) fun a hF => ?_
  refine wl_v hF rfl rfl rfl (q_nilCheck rfl (hF.eval rfl)) fun a hF => ?_
  refine wl_v hF rfl rfl rfl (q_load Try.isAgg3 rfl (hF.eval rfl) (hO.cell0 2 rfl rfl)) fun a hF => ?_
  refine wl_v hF rfl rfl rfl (q_sub rfl (hF.eval rfl) (hF.eval rfl) (by omega)) fun a hF => ?_
  refine wl_v hF rfl rfl rfl (q_nilCheck rfl (hF.eval rfl)) fun a hF => ?_
  refine wl_s hF rfl rfl (e_store0 hO (i := 2) rfl Try.sizeOf3 rfl (hF.eval rfl) (hF.eval rfl) rfl rfl rfl) ?_
  rintro a _ w ⟨-, hO⟩ hF
  have hO : St _ _ _ [_, _, _] := hO
  refine wl_nil ?_
  refine k_n ?_
  refine wp_seq ?_
  refine wp_seq ?_
  refine wp_region_lit ?_
  refine wl_v hF rfl rfl rfl (q_move rfl (hF.eval rfl)) fun a hF => ?_
  refine wl_v hF rfl rfl rfl (q_nilCheck rfl (hF.eval rfl)) fun a hF => ?_
  refine wl_v hF rfl rfl rfl (q_load Try.isAgg3 rfl (hF.eval rfl) (hO.cell0 2 rfl rfl)) fun a hF => ?_
  refine wl_v hF rfl rfl rfl (q_lt rfl (hF.eval rfl) (hF.eval rfl)) fun a hF => ?_
  refine wl_v hF rfl rfl rfl (q_move rfl (hF.eval rfl)) fun a hF => ?_
  refine wl_g hF rfl rfl rfl rfl rfl rfl (fun hg => q_move rfl (hF.eval rfl)) fun a hF => ?_
  refine wl_g hF rfl rfl rfl rfl rfl rfl (fun hg => q_nilCheck rfl ((hF.eval rfl).trans (gv_of hg))) fun a hF => ?_
  refine wl_g hF rfl rfl rfl rfl rfl rfl (fun hg => q_fieldAddr0 (d := 0) Try.underlying99 rfl ((hF.eval rfl).trans (gv_of hg)) rfl Try.sizeOf3 (by decide) rfl) fun a hF => ?_
  refine wl_g hF rfl rfl rfl rfl rfl rfl (fun hg => q_load Try.isAgg3 rfl ((hF.eval rfl).trans (gv_of hg)) (hO.cellN 0 rfl ha rfl)) fun a hF => ?_
  refine wl_g hF rfl rfl rfl rfl rfl rfl (fun hg => q_ne rfl ((hF.eval rfl).trans (gv_of hg)) (hF.eval rfl)) fun a hF => ?_
  refine wl_v hF rfl rfl rfl (q_or rfl (hF.eval rfl) rfl (fun hg2 => ((hF.eval rfl).trans (gv_of hg2))) rfl) fun a hF => ?_
  refine wl_nil ?_
  refine k_n ?_
  refine wp_ifD hF rfl rfl (fun hc1 => ?_) (fun hc1 => ?_)
  · skip
    have hwr := wr_leaf hW ha hr hc1
    refine wp_seq ?_
    have hO := hO.drew
    refine wp_region_D [0, 0, 0, 1, 0, 0, 0, 1, 0, 3] (fun w => St _ _ w _) Try_mixed (by kernel_rfl) hO ?_
    refine wd_p hF rfl rfl rfl (fun w => q_move rfl (hF.eval rfl)) fun a hF => ?_
    refine wd_p hF rfl rfl rfl (fun w => q_nilCheck rfl (hF.eval rfl)) fun a hF => ?_
    refine wd_p hF rfl rfl rfl (fun w => q_fieldAddr0 (d := 0) Try.underlying99 rfl (hF.eval rfl) rfl Try.sizeOf3 (by decide) rfl) fun a hF => ?_
    refine wd_r hF rfl rfl rfl (fun w hO => q_load Try.isAgg3 rfl (hF.eval rfl) (hO.cellN 0 rfl ha rfl)) fun a hF => ?_
    refine wd_p hF rfl rfl rfl (fun w => q_move rfl (hF.eval rfl)) fun a hF => ?_
    refine wd_p hF rfl rfl rfl (fun w => q_nilCheck rfl (hF.eval rfl)) fun a hF => ?_
    refine wd_p hF rfl rfl rfl (fun w => q_fieldAddr0 (d := 1) Try.underlying99 rfl (hF.eval rfl) rfl Try.sizeOf9 (by decide) rfl) fun a hF => ?_
    refine wd_r hF rfl rfl rfl (fun w hO => q_load Try.isAgg9 rfl (hF.eval rfl) (hO.cellN 0 rfl ha rfl)) fun a hF => ?_
    refine wd_p hF rfl rfl rfl (fun w => c_build hF Try.underlying33 Try.zeroValue33 Try_places33 rfl rfl rfl rfl) fun a hF => ?_
    refine wd_s hF rfl rfl (e_storeAll hO (i := 1) rfl Try.sizeOf33 rfl (hF.eval rfl) (hF.eval rfl) rfl rfl) ?_
    rintro a _ w ⟨-, hO⟩ hF
    have hO : St _ _ _ [_, _, _] := hO
    refine wd_nil ?_
    refine k_n ?_
    refine wp_ret ?_
    refine k_r ?_
    refine r_c1 hF rfl rfl Try.isAgg33 Try.sizeOf33 (hO.cells 1 rfl) rfl ?_
    rw [hwr]
    have hO := (hO.leafT (T := 33) (rd_nilT _ _) (S.tm (ρ b)).kind (S.tm (ρ b)).name)
    have hO := hO.pull 3 rfl
    have hO := hO.pull 2 rfl
    have hO : St _ _ _ [_, _, _, _] := hO
    exact ⟨.mk (S.tm (ρ b)).kind (S.tm (ρ b)).name nilH [], rfl, rfl, hO.drop1 3⟩
  · skip
    have hk4 : (S.tm (ρ b)).kind = 54 := Classical.not_not.1 (not_or.1 hc1).2
    have hk5 : ¬ k - 1 < 0 := (not_or.1 hc1).1
    obtain ⟨x, y, s, t, rfl, hx2, hy2, hrs, hrt⟩ := res_app hr hk4
    obtain ⟨-, x', y', hx, hy, hx', hy'⟩ := hW.app _ ha hk4
    rw [hx2] at hx'
    rw [hy2] at hy'
    cases hx'
    cases hy'
    have hps := s.pos
    have hpt := t.pos
    have hnn : (RT.app s t).nodes = 1 + s.nodes + t.nodes := rfl
    have hwl := wr_low s (k := k - 1) (by omega)
    have hwe : wr (.app s t) k = (Ty.mk 54 [] [(wr s (k - 1)).1, (wr t (wr s (k - 1)).2).1], (wr t (wr s (k - 1)).2).2) := by show (if k - 1 < 0 then _ else _) = _; rw [if_neg hk5]
    refine wp_skip ?_
    refine k_n ?_
    refine wp_seq ?_
    refine wp_region_lit ?_
    refine wl_v hF rfl rfl rfl (q_move rfl (hF.eval rfl)) fun a hF => ?_
    refine wl_v hF rfl rfl rfl (q_nilCheck rfl (hF.eval rfl)) fun a hF => ?_
    refine wl_v hF rfl rfl rfl (q_fieldAddr0 (d := 2) Try.underlying99 rfl (hF.eval rfl) rfl Try.sizeOf54 (by decide) rfl) fun a hF => ?_
    refine wl_v hF rfl rfl rfl (q_load Try.isAgg54 rfl (hF.eval rfl) (hO.cellN 0 rfl ha (tm_l hx2))) fun a hF => ?_
    refine wl_v hF rfl rfl rfl (q_move rfl (hF.eval rfl)) fun a hF => ?_
    have hO := hO.pull 2 rfl
    have hO := hO.pull 1 rfl
    have hO : St _ _ _ [_, _, _] := hO
    refine wl_e hF rfl rfl rfl (c_call hF rfl rfl Try.call31 (ih s (by omega) x _ _ hx hrs (by omega) (by omega) hO.own2)) ?_
    rintro a _ w ⟨tl, rfl, htl, hS⟩ hF
    have hO := hO.call2 hS
    have hO : St _ _ _ [_, _, _, _] := hO
    refine wl_e hF rfl rfl rfl (e_alloc hO Try.zeroValue33 rfl rfl) ?_
    rintro a _ w ⟨l5, rfl, hO⟩ hF
    refine wl_s hF rfl rfl (e_storeAll hO (i := 0) rfl Try.sizeOf33 rfl (hF.eval rfl) (hF.eval rfl) rfl rfl) ?_
    rintro a _ w ⟨-, hO⟩ hF
    have hO : St _ _ _ [_, _, _, _, _] := hO
    refine wl_nil ?_
    refine k_n ?_
    refine wp_seq ?_
    have hO := hO.pull 1 rfl
    have hO := hO.pull 1 rfl
    have hO := hO.drew
    refine wp_region_D [1, 0, 0, 0, 1, 0, 2, 3, 0, 3] (fun w => ∃ L', St w0 (blks [gE 99 S, .ob lb 3 [i64 k]]) w (.ob l5 33 (tnE.cells tl) :: gE 99 S :: L')) Try_mixed (by kernel_rfl) ⟨_, hO⟩ ?_
    refine wd_r hF rfl rfl rfl (fun w ⟨_, hO⟩ => q_loadAgg Try.isAgg33 Try.sizeOf33 rfl (hF.eval rfl) (hO.cells 0 rfl) rfl) fun a hF => ?_
    refine wd_p hF rfl rfl rfl (fun w => q_move rfl (hF.eval rfl)) fun a hF => ?_
    refine wd_p hF rfl rfl rfl (fun w => q_nilCheck rfl (hF.eval rfl)) fun a hF => ?_
    refine wd_p hF rfl rfl rfl (fun w => q_fieldAddr0 (d := 3) Try.underlying99 rfl (hF.eval rfl) rfl Try.sizeOf54 (by decide) rfl) fun a hF => ?_
    refine wd_r hF rfl rfl rfl (fun w ⟨_, hO⟩ => q_load Try.isAgg54 rfl (hF.eval rfl) (hO.cellN 1 rfl ha (tm_r hy2))) fun a hF => ?_
    refine wd_p hF rfl rfl rfl (fun w => q_move rfl (hF.eval rfl)) fun a hF => ?_
    have hO := hO.pull 2 rfl
    have hO := hO.pull 2 rfl
    have hO : St _ _ _ [_, _, _, _, _] := hO
    refine wd_e hF rfl rfl rfl (c_call hF rfl rfl Try.call31 (ih t (by omega) y _ _ hy hrt (by omega) (by omega) hO.own2)) (fun _ _ ⟨tr, _, _, hS⟩ => by have h1 := hO.call2 hS; have h1 := h1.pull 3 rfl; have h1 := h1.pull 1 rfl; have h1 := h1.pull 1 rfl; exact ⟨_, h1⟩) ?_
    rintro a _ w ⟨tr, rfl, htr, hS⟩ hF
    have hO := hO.call2 hS
    have hO : St _ _ _ [_, _, _, _, _, _] := hO
    refine wd_f hF rfl rfl rfl (c_buildSlice hF hO Try.underlying31 Try.sizeOf33 Try.zeroValue33 rfl rfl rfl rfl rfl rfl rfl) ?_
    rintro a _ w ⟨sb, rfl, hO⟩ hF
    have hO : St _ _ _ (slT (.slice (some (adr sb)) 2 2) 33 tnE [tl, tr] :: [_, _, _, _, _, _]) := hO
    have hO := hO.pull 3 rfl
    have hO := hO.pull 5 rfl
    have hO := hO.pull 2 rfl
    have hO := St.node2 (h := ⟨some (adr sb), 2, 2⟩) hO 54 []
    have hO : St _ _ _ [_, _, _, _, _] := hO
    refine wd_p hF rfl rfl rfl (fun w => c_build hF Try.underlying33 Try.zeroValue33 Try_places33 rfl rfl rfl rfl) fun a hF => ?_
    refine wd_s hF rfl rfl (e_storeAll hO (i := 4) rfl Try.sizeOf33 rfl (hF.eval rfl) (hF.eval rfl) rfl rfl) ?_
    rintro a _ w ⟨-, hO⟩ hF
    have hO : St _ _ _ [_, _, _, _, _] := hO
    refine wd_nil ?_
    refine k_n ?_
    refine wp_ret ?_
    refine r_c1 hF rfl rfl Try.isAgg33 Try.sizeOf33 (hO.cells 4 rfl) rfl ?_
    rw [hwe]
    have hO := hO.drop1 3
    have hO := hO.drop1 3
    have hO := hO.pull 2 rfl
    have hO := hO.pull 2 rfl
    have hO : St _ _ _ [_, _, _] := hO
    refine ⟨.mk 54 [] ⟨some (adr sb), 2, 2⟩ [tl, tr], rfl, ?_, hO⟩
    show Ty.mk 54 [] [tl.er, tr.er] = _
    rw [htl, htr]


theorem write_r (S : Sto) (ρ d : Nat → Nat) (hW : WfS S ρ d) (lb : Nat) : ∀ (n : Nat) (r : RT), r.nodes < n → ∀ (b : Nat) (k : Int) (w0 : World), b ∈ S.ids → Res S ρ b r → -1000000 ≤ k → k ≤ 1000000 → Owns w0 [gE 99 S, .ob lb 3 [i64 k]] → Ret Try.prog 31 #[ptr (adr b), ptr (adr lb)] w0 (fun v w' => ∃ t' : TN, v = .agg (tnE.cells t').toArray ∧ t'.er = (wr r k).1 ∧ St w0 (blks [gE 99 S, .ob lb 3 [i64 k]]) w' [gE 99 S, .ob lb 3 [i64 (wr r k).2], tE 33 t'])
  | 0, _, h => absurd h (Nat.not_lt_zero _)
  | n + 1, r, h => fun b k w0 h1 h2 h3 h4 h5 => write_i S ρ d hW lb r (fun r' hr => write_r S ρ d hW lb n r' (by omega)) b k w0 h1 h2 h3 h4 h5
end Go.Proofs.Ytfkmlcgccffmnaa
