import Derived.Test.YtglienidnffnjaaHk
import Derived.Test.YtglienidnffnjaaPl18
import Derived.Test.YtglienidnffnjaaQb
namespace Go.Proofs.Ytglienidnffnjaa
open Go
set_option maxRecDepth 100000
set_option linter.unusedVariables false
set_option maxHeartbeats 2000000 in
theorem chase_rr (w0 : World) (br : Nat) (R : RH) (hR : RR w0 [] br R) (g : RG R) (x0 : Wd) : Ret Try.prog 33 #[ptr (adr br), .agg (wordE.cells x0).toArray] w0 (fun v w' => v = .agg (wordE.cells (chaseR R x0)).toArray ∧ St w0 [] w' []) := by
  have hO := St.init0 w0
  have gy := g.y
  have go := g.o
  refine ret_of (m := 52) Try.func33 rfl Try.ntmps33 [(0, ptr (adr br)), (1, .agg (wordE.cells x0).toArray)] rfl ⟨rfl, rfl, trivial⟩ fun a hF => ?_
  refine wp_seq ?_
  refine wp_region_lit ?_
  refine wl_e hF rfl rfl rfl (e_box hO rfl (hF.eval rfl) rfl) ?_
  rintro a _ w ⟨tk, rfl, hO⟩ hF
  refine wl_e hF rfl rfl rfl (e_alloc hO Try.zeroValue27 rfl rfl) ?_
  rintro a _ w ⟨rs, rfl, hO⟩ hF
  refine wl_nil ?_
  refine k_n ?_
  refine wp_seq ?_
  refine wp_region_lit ?_
  refine wl_v hF rfl rfl rfl (q_assign rfl (hF.eval rfl)) fun a hF => ?_
  have hO := hO.nilSl 3 1
  refine wl_nil ?_
  refine k_n ?_
  refine wp_seq ?_
  refine wp_block ?_
  have hO := hO.pull 1 rfl
  have hO := hO.pull 2 rfl
  have hO : St _ _ _ [_, _, _] := hO
  refine wp_loopS (fun (s : Wd × Value × List Int) a w' => match s with | (x, vm, met) => (chaseQ R (((R.Y + 2 * R.O).toNat) + 1 - met.length) x met = chaseR R x0 ∧ met.Nodup ∧ ∀ m ∈ met, 0 ≤ m ∧ m < ((R.Y + 2 * R.O).toNat)) ∧ St w0 [] w' [.ob tk 27 (wordE.cells x), .ob rs 27 (wordE.cells wd0), slT vm 3 intE met] ∧ Fr a 52 [(0, ptr (adr br)), (3, ptr (adr tk)), (4, ptr (adr rs)), (5, vm)]) (fun (s : Wd × Value × List Int) => match s with | (x, vm, met) => ((R.Y + 2 * R.O).toNat) + 1 - met.length) (x0, _, []) ⟨⟨rfl, List.nodup_nil, fun m h => by cases h⟩, hO, hF.sub ⟨rfl, rfl, rfl, rfl, trivial⟩⟩ ?_
  rintro ⟨x, vm, met⟩ a w ⟨⟨hq, hnd, hmr⟩, hO, hF⟩
  have hml := nodup_le ((R.Y + 2 * R.O).toNat) met hnd hmr
  refine wp_seq ?_
  refine wp_seq ?_
  refine wp_region_lit ?_
  refine wl_v hF rfl rfl rfl (q_fieldAddr0 (d := 0) Try.underlying27 rfl (hF.eval rfl) rfl Try.sizeOf4 (by decide) rfl) fun a hF => ?_
  refine wl_v hF rfl rfl rfl (q_load Try.isAgg4 rfl (hF.eval rfl) (hO.cell 0 rfl rfl)) fun a hF => ?_
  refine wl_nil ?_
  refine k_n ?_
  refine wp_ifD hF rfl (dec_b _) (fun hc1 => ?_) (fun hc1 => ?_)
  · skip
    refine wp_skip ?_
    refine k_n ?_
    refine wp_block ?_
    refine wp_seq ?_
    refine wp_region_lit ?_
    refine wl_v hF rfl rfl rfl (q_move rfl (hF.eval rfl)) fun a hF => ?_
    refine wl_v hF rfl rfl rfl (q_fieldAddr0 (d := 1) Try.underlying27 rfl (hF.eval rfl) rfl Try.sizeOf3 (by decide) rfl) fun a hF => ?_
    refine wl_v hF rfl rfl rfl (q_load Try.isAgg3 rfl (hF.eval rfl) (hO.cell 0 rfl rfl)) fun a hF => ?_
    refine wl_e hF rfl rfl rfl (c_call hF rfl rfl Try.call63 (find_rr _ _ _ (hR.at0 hO) g _)) ?_
    rintro a _ w ⟨rfl, hS⟩ hF
    have hO := hO.call0 hS
    have hO : St _ _ _ [_, _, _] := hO
    refine wl_v hF rfl rfl rfl (q_assign rfl (hF.eval rfl)) fun a hF => ?_
    refine wl_nil ?_
    refine k_n ?_
    refine wp_seq ?_
    refine wp_seq ?_
    refine wp_region_lit ?_
    refine wl_v hF rfl rfl rfl (q_move rfl (hF.eval rfl)) fun a hF => ?_
    refine wl_v hF rfl rfl rfl (q_peq Try.underlying96 rfl (hF.eval rfl) (hF.eval rfl)) fun a hF => ?_
    refine wl_v hF rfl rfl rfl (q_move rfl (hF.eval rfl)) fun a hF => ?_
    refine wl_g hF rfl rfl rfl rfl rfl rfl (fun hg => q_move rfl (hF.eval rfl)) fun a hF => ?_
    refine wl_g hF rfl rfl rfl rfl rfl rfl (fun hg => q_nilCheck rfl (((hF.eval rfl).trans (gv_of hg)).trans (congrArg Value.pointer (fo_at (of_gn hg)).1))) fun a hF => ?_
    refine wl_g hF rfl rfl rfl rfl rfl rfl (fun hg => q_fieldAddr0 (d := 2) Try.underlying99 rfl ((hF.eval rfl).trans (gv_of hg)) rfl Try.sizeOf42 (by decide) rfl) fun a hF => ?_
    refine wl_g hF rfl rfl rfl rfl rfl rfl (fun hg => q_fieldAddr (d := 0) Try.underlying42 rfl ((hF.eval rfl).trans (gv_of hg)) rfl Try.sizeOf3 (by decide) rfl) fun a hF => ?_
    refine wl_g hF rfl rfl rfl rfl rfl rfl (fun hg => q_load Try.isAgg3 rfl ((hF.eval rfl).trans (gv_of hg)) (RdT.cells ((hR.ps _ (fo_at (of_gn hg)).2.1).now hO) (fo_at (of_gn hg)).2.2.1 _ _ rfl)) fun a hF => ?_
    refine wl_g hF rfl rfl rfl rfl rfl rfl (fun hg => q_ne rfl ((hF.eval rfl).trans (gv_of hg)) (hF.eval rfl)) fun a hF => ?_
    refine wl_v hF rfl rfl rfl (q_or rfl (hF.eval rfl) rfl (fun hg2 => ((hF.eval rfl).trans (gv_of hg2))) rfl) fun a hF => ?_
    refine wl_nil ?_
    refine k_n ?_
    refine wp_ifD hF rfl rfl (fun hc2 => ?_) (fun hc2 => ?_)
    · skip
      refine wp_seq ?_
      refine wp_region_lit ?_
      refine wl_v hF rfl rfl rfl (q_loadAgg Try.isAgg27 Try.sizeOf27 rfl (hF.eval rfl) (hO.cells 0 rfl) rfl) fun a hF => ?_
      refine wl_s hF rfl rfl (e_storeAll hO (i := 1) rfl Try.sizeOf27 rfl (hF.eval rfl) (hF.eval rfl) rfl rfl) ?_
      rintro a _ w ⟨-, hO⟩ hF
      have hO : St _ _ _ [_, _, _] := hO
      refine wl_nil ?_
      refine k_n ?_
      refine wp_ret ?_
      refine k_r ?_
      refine b_r ?_
      refine k_r ?_
      refine b_r ?_
      refine k_r ?_
      refine r_c1 hF rfl rfl Try.isAgg27 Try.sizeOf27 (hO.cells 1 rfl) rfl ?_
      have hO := hO.drop1 0
      have hO := hO.drop1 1
      have hO : St _ _ _ [_] := hO
      exact ⟨congrArg (fun z => Value.agg (wordE.cells z).toArray) (by rw [← hq, chase_no (step_no hc2)]), hO.tail⟩
    · skip
      have hfo := fo_at (fun e => hc2 (.inl e))
      have hk5 : (obAt R x.n).kind = 5 := Classical.byContradiction fun e => hc2 (.inr e)
      have hrg := ob_rng g hfo.2.1 hfo.2.2.1
      refine wp_skip ?_
      refine k_n ?_
      refine wp_seq ?_
      refine wp_seq ?_
      refine wp_region_lit ?_
      refine wl_v hF rfl rfl rfl (q_assign rfl (hF.eval rfl)) fun a hF => ?_
      refine wl_nil ?_
      refine k_n ?_
      refine wp_block ?_
      have hO : St _ _ _ [_, _, _] := hO
      refine wp_loopS (fun (i : Nat) a w' => (i ≤ met.length ∧ (met.take i).contains x.n = false) ∧ St w0 [] w' [.ob tk 27 (wordE.cells x), .ob rs 27 (wordE.cells wd0), slT vm 3 intE met] ∧ Fr a 52 [(0, ptr (adr br)), (3, ptr (adr tk)), (4, ptr (adr rs)), (5, vm), (6, .pointer (ptrO R (findO R x.n))), (7, i64 i)]) (fun (i : Nat) => met.length - i) 0 ⟨⟨by omega, rfl⟩, hO, hF.sub ⟨rfl, rfl, rfl, rfl, rfl, rfl, trivial⟩⟩ ?_
      rintro i a w ⟨⟨hi, hni⟩, hO, hF⟩
      refine wp_seq ?_
      refine wp_seq ?_
      refine wp_region_lit ?_
      refine wl_v hF rfl rfl rfl (q_move rfl (hF.eval rfl)) fun a hF => ?_
      refine wl_v hF rfl rfl rfl (q_move rfl (hF.eval rfl)) fun a hF => ?_
      refine wl_v hF rfl rfl rfl (q_lenRd (hO.rd 2 rfl) Try.underlying36 rfl (hF.eval rfl)) fun a hF => ?_
      refine wl_v hF rfl rfl rfl (q_lt rfl (hF.eval rfl) (hF.eval rfl)) fun a hF => ?_
      refine wl_nil ?_
      refine k_n ?_
      refine wp_ifD hF rfl rfl (fun hc3 => ?_) (fun hc3 => ?_)
      · skip
        refine wp_skip ?_
        refine k_n ?_
        refine wp_seq ?_
        refine wp_block ?_
        refine wp_seq ?_
        have hO := hO.drew
        refine wp_region_D [0, 0, 0, 1, 0, 1, 0] (fun w => St _ _ w _) Try_mixed (by kernel_rfl) hO ?_
        refine wd_p hF rfl rfl rfl (fun w => q_move rfl (hF.eval rfl)) fun a hF => ?_
        refine wd_p hF rfl rfl rfl (fun w => q_move rfl (hF.eval rfl)) fun a hF => ?_
        obtain ⟨m, hm⟩ := get_ex (l := met) (i := i) (by omega)
        refine wd_p hF rfl rfl rfl (fun w => q_at (i := i) (hO.rd 2 rfl) Try.underlying36 Try.sizeOf3 rfl (hF.eval rfl) (hF.eval rfl) (by omega)) fun a hF => ?_
        refine wd_r hF rfl rfl rfl (fun w hO => q_load Try.isAgg3 rfl (hF.eval rfl) (RdT.cell0 (hO.rdT 2 rfl) hm rfl)) fun a hF => ?_
        refine wd_p hF rfl rfl rfl (fun w => q_fieldAddr0 (d := 1) Try.underlying27 rfl (hF.eval rfl) rfl Try.sizeOf3 (by decide) rfl) fun a hF => ?_
        refine wd_r hF rfl rfl rfl (fun w hO => q_load Try.isAgg3 rfl (hF.eval rfl) (hO.cell 0 rfl rfl)) fun a hF => ?_
        refine wd_p hF rfl rfl rfl (fun w => q_eq rfl (hF.eval rfl) (hF.eval rfl)) fun a hF => ?_
        refine wd_nil ?_
        refine k_n ?_
        refine wp_ifD hF rfl rfl (fun hc4 => ?_) (fun hc4 => ?_)
        · skip
          refine wp_seq ?_
          refine wp_region_lit ?_
          refine wl_v hF rfl rfl rfl (q_loadAgg Try.isAgg27 Try.sizeOf27 rfl (hF.eval rfl) (hO.cells 0 rfl) rfl) fun a hF => ?_
          refine wl_s hF rfl rfl (e_storeAll hO (i := 1) rfl Try.sizeOf27 rfl (hF.eval rfl) (hF.eval rfl) rfl rfl) ?_
          rintro a _ w ⟨-, hO⟩ hF
          have hO : St _ _ _ [_, _, _] := hO
          refine wl_nil ?_
          refine k_n ?_
          refine wp_ret ?_
          refine b_r ?_
          refine k_r ?_
          refine k_r ?_
          refine b_r ?_
          refine k_r ?_
          refine b_r ?_
          refine k_r ?_
          refine b_r ?_
          refine k_r ?_
          refine r_c1 hF rfl rfl Try.isAgg27 Try.sizeOf27 (hO.cells 1 rfl) rfl ?_
          have hO := hO.drop1 0
          have hO := hO.drop1 1
          have hO : St _ _ _ [_] := hO
          exact ⟨congrArg (fun z => Value.agg (wordE.cells z).toArray) (by rw [← hq, chase_no (fun h => h.2 (by rw [← hc4]; exact cont_yes hm))]), hO.tail⟩
        · skip
          refine wp_skip ?_
          refine b_n ?_
          refine k_n ?_
          refine wp_region_lit ?_
          refine wl_v hF rfl rfl rfl (q_move rfl (hF.eval rfl)) fun a hF => ?_
          refine wl_v hF rfl rfl rfl (q_add rfl (hF.eval rfl) (hF.eval rfl) (by omega)) fun a hF => ?_
          refine wl_v hF rfl rfl rfl (q_assign rfl (hF.eval rfl)) fun a hF => ?_
          refine wl_nil ?_
          refine k_n ?_
          have hO : St _ _ _ [_, _, _] := hO
          exact ⟨i + 1, ⟨⟨by omega, cont_no hm hni (fun e => hc4 e.symm)⟩, hO, hF.sub ⟨rfl, rfl, rfl, rfl, rfl, rfl, trivial⟩⟩, by omega⟩
      · skip
        have hco : met.contains x.n = false := by rw [← List.take_length (l := met), show met.length = i by omega]; exact hni
        have hst : stepR R x met := ⟨⟨hc1, hk5⟩, by rw [hco]; decide⟩
        have hin := g.ind _ hfo.2.1 _ (List.mem_of_getElem? hfo.2.2.1) hk5
        have hnm : x.n ∉ met := fun h => by rw [List.contains_iff_mem.2 h] at hco; cases hco
        have hmm : ∀ m ∈ met ++ [x.n], 0 ≤ m ∧ m < ((R.Y + 2 * R.O).toNat) := fun m h => by
          rcases List.mem_append.1 h with h | h
          · exact hmr m h
          · rw [List.mem_singleton.1 h, ← hfo.2.2.2]; omega
        have hnd2 : (met ++ [x.n]).Nodup := List.nodup_append.2 ⟨hnd, by simp, fun a ha b hb e => hnm (by rw [← List.mem_singleton.1 hb, ← e]; exact ha)⟩
        have hml2 := nodup_le ((R.Y + 2 * R.O).toNat) _ hnd2 hmm
        rw [List.length_append, List.length_singleton] at hml2
        have hnx : chaseQ R (((R.Y + 2 * R.O).toNat) + 1 - (met ++ [x.n]).length) ((obAt R x.n).fs.getD 0 wd0) (met ++ [x.n]) = chaseR R x0 ∧ (met ++ [x.n]).Nodup ∧ ∀ m ∈ met ++ [x.n], 0 ≤ m ∧ m < ((R.Y + 2 * R.O).toNat) := ⟨by rw [← hq, List.length_append, List.length_singleton, show ((R.Y + 2 * R.O).toNat) + 1 - met.length = (((R.Y + 2 * R.O).toNat) + 1 - (met.length + 1)) + 1 by omega, chase_yes hst], hnd2, hmm⟩
        refine wp_exit ?_
        refine k_x ?_
        refine k_x ?_
        refine b_x ?_
        refine k_n ?_
        refine wp_seq ?_
        refine wp_region_lit ?_
        refine wl_v hF rfl rfl rfl (q_move rfl (hF.eval rfl)) fun a hF => ?_
        refine wl_v hF rfl rfl rfl (q_fieldAddr0 (d := 1) Try.underlying27 rfl (hF.eval rfl) rfl Try.sizeOf3 (by decide) rfl) fun a hF => ?_
        refine wl_v hF rfl rfl rfl (q_load Try.isAgg3 rfl (hF.eval rfl) (hO.cell 0 rfl rfl)) fun a hF => ?_
        refine wl_e hF rfl rfl rfl (c_buildSlice hF hO Try.underlying36 Try.sizeOf3 Try.zeroValue3 rfl rfl rfl rfl rfl rfl rfl) ?_
        rintro a _ w ⟨b1, rfl, hO⟩ hF
        refine wl_e hF rfl rfl rfl (e_appendT (bytes := 8) (r := [x.n]) hO (i := 3) rfl (hO.rd 0 rfl) Try.underlying36 Try_info3 rfl rfl rfl rfl rfl rfl (hF.eval rfl) (hF.eval rfl) (by show (List.length _ + 1) * 8 ≤ _; omega) (by show List.length _ + 1 ≤ _; omega)) ?_
        rintro a v43 w hO hF
        have hO : St _ _ _ [_, _, _, _] := hO
        refine wl_v hF rfl rfl rfl (q_assign rfl (hF.eval rfl)) fun a hF => ?_
        refine wl_nil ?_
        refine k_n ?_
        refine wp_region_lit ?_
        refine wl_v hF rfl rfl rfl (q_move rfl (hF.eval rfl)) fun a hF => ?_
        refine wl_v hF rfl rfl rfl (q_nilCheck rfl ((hF.eval rfl).trans (congrArg Value.pointer hfo.1))) fun a hF => ?_
        refine wl_v hF rfl rfl rfl (q_fieldAddr0 (d := 2) Try.underlying99 rfl (hF.eval rfl) rfl Try.sizeOf42 (by decide) rfl) fun a hF => ?_
        refine wl_v hF rfl rfl rfl (q_fieldAddr (d := 2) Try.underlying42 rfl (hF.eval rfl) rfl Try.sizeOf37 (by decide) rfl) fun a hF => ?_
        refine wl_v hF rfl rfl rfl (q_load Try.isAgg37 rfl (hF.eval rfl) (RdT.cells ((hR.ps _ hfo.2.1).now hO) hfo.2.2.1 _ _ rfl)) fun a hF => ?_
        refine wl_v hF rfl rfl rfl (q_at (i := 0) (hR.fw _ hfo.2.1 _ (List.mem_of_getElem? hfo.2.2.1)) Try.underlying37 Try.sizeOf27 rfl (hF.eval rfl) (hF.eval rfl) (by omega)) fun a hF => ?_
        refine wl_v hF rfl rfl rfl (q_loadAgg Try.isAgg27 Try.sizeOf27 rfl (hF.eval rfl) (RdT.cells ((hR.fw _ hfo.2.1 _ (List.mem_of_getElem? hfo.2.2.1)).now hO) (get_D (d := wd0) (by omega))) rfl) fun a hF => ?_
        refine wl_s hF rfl rfl (e_storeAll hO (i := 1) rfl Try.sizeOf27 rfl (hF.eval rfl) (hF.eval rfl) rfl rfl) ?_
        rintro a _ w ⟨-, hO⟩ hF
        have hO : St _ _ _ [_, _, _, _] := hO
        refine wl_nil ?_
        refine b_n ?_
        refine k_n ?_
        have hO := hO.drop1 0
        have hO : St _ _ _ [_, _, _] := hO
        exact ⟨((obAt R x.n).fs.getD 0 wd0, _, met ++ [x.n]), ⟨hnx, hO, hF.sub ⟨rfl, rfl, rfl, rfl, trivial⟩⟩, by dsimp only; rw [List.length_append, List.length_singleton]; omega⟩
  · skip
    refine wp_exit ?_
    refine k_x ?_
    refine k_x ?_
    refine b_x ?_
    refine k_n ?_
    refine wp_seq ?_
    refine wp_region_lit ?_
    refine wl_v hF rfl rfl rfl (q_loadAgg Try.isAgg27 Try.sizeOf27 rfl (hF.eval rfl) (hO.cells 0 rfl) rfl) fun a hF => ?_
    refine wl_s hF rfl rfl (e_storeAll hO (i := 1) rfl Try.sizeOf27 rfl (hF.eval rfl) (hF.eval rfl) rfl rfl) ?_
    rintro a _ w ⟨-, hO⟩ hF
    have hO : St _ _ _ [_, _, _] := hO
    refine wl_nil ?_
    refine k_n ?_
    refine wp_ret ?_
    refine r_c1 hF rfl rfl Try.isAgg27 Try.sizeOf27 (hO.cells 1 rfl) rfl ?_
    have hO := hO.drop1 0
    have hO := hO.drop1 1
    have hO : St _ _ _ [_] := hO
    exact ⟨congrArg (fun z => Value.agg (wordE.cells z).toArray) (by rw [← hq, chase_no (fun h => hc1 h.1.1)]), hO.tail⟩

end Go.Proofs.Ytglienidnffnjaa
