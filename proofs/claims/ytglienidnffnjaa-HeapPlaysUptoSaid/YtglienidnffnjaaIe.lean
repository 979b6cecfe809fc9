import Derived.Test.YtglienidnffnjaaIa
import Derived.Test.YtglienidnffnjaaPl13
import Derived.Test.YtglienidnffnjaaGw19
import Derived.Test.YtglienidnffnjaaPl7
namespace Go.Proofs.Ytglienidnffnjaa
open Go
set_option maxRecDepth 100000
set_option linter.unusedVariables false
theorem where_r (w0 : World) (n : Int) (raw : Bool) (va : Value) (all : List Int) (hR : RdT w0 [] va intE all) : Ret Try.prog 21 #[i64 n, .bool raw, va] w0 (fun v w' => v = i64 (whereF n raw all) ∧ St w0 [] w' []) := by
  have hO := St.init0 w0
  have hll := RdT.lenle hR
  refine ret_of (m := 29) Try.func21 rfl Try.ntmps21 [(0, i64 n), (1, .bool raw), (2, va)] rfl ⟨rfl, rfl, rfl, trivial⟩ fun a hF => ?_
  refine wp_seq ?_
  refine wp_region_lit ?_
  refine wl_v hF rfl rfl rfl (q_assign rfl (hF.eval rfl)) fun a hF => ?_
  refine wl_nil ?_
  refine k_n ?_
  refine wp_seq ?_
  refine wp_seq ?_
  refine wp_region_lit ?_
  refine wl_v hF rfl rfl rfl (q_move rfl (hF.eval rfl)) fun a hF => ?_
  refine wl_v hF rfl rfl rfl (q_move rfl (hF.eval rfl)) fun a hF => ?_
  refine wl_g hF rfl rfl rfl rfl rfl rfl (fun hg => q_move rfl (hF.eval rfl)) fun a hF => ?_
  refine wl_g hF rfl rfl rfl rfl rfl rfl (fun hg => q_lenRd hR Try.underlying36 rfl ((hF.eval rfl).trans (gv_of hg))) fun a hF => ?_
  refine wl_g hF rfl rfl rfl rfl rfl rfl (fun hg => q_eq rfl ((hF.eval rfl).trans (gv_of hg)) (hF.eval rfl)) fun a hF => ?_
  refine wl_v hF rfl rfl rfl (q_or rfl (hF.eval rfl) (dec_b _) (fun hg2 => ((hF.eval rfl).trans (gv_of hg2))) rfl) fun a hF => ?_
  refine wl_nil ?_
  refine k_n ?_
  refine wp_ifD hF rfl rfl (fun hc1 => ?_) (fun hc1 => ?_)
  · skip
    refine wp_seq ?_
    refine wp_region_lit ?_
    refine wl_v hF rfl rfl rfl (q_move rfl (hF.eval rfl)) fun a hF => ?_
    refine wl_v hF rfl rfl rfl (q_assign rfl (hF.eval rfl)) fun a hF => ?_
    refine wl_nil ?_
    refine k_n ?_
    refine wp_ret ?_
    refine k_r ?_
    refine r_1 hF rfl rfl ?_
    have hO : St _ _ _ [] := hO
    exact ⟨congrArg i64 (if_pos hc1).symm, hO⟩
  · skip
    have hlp : 0 < (all.length : Int) := by have := (not_or.1 hc1).2; omega
    have htm := tmod_in (n := n) hlp
    have hwk := whK_in (n := n) hlp
    refine wp_skip ?_
    refine k_n ?_
    refine wp_seq ?_
    refine wp_region_lit ?_
    refine wl_v hF rfl rfl rfl (q_move rfl (hF.eval rfl)) fun a hF => ?_
    refine wl_v hF rfl rfl rfl (q_move rfl (hF.eval rfl)) fun a hF => ?_
    refine wl_v hF rfl rfl rfl (q_lenRd hR Try.underlying36 rfl (hF.eval rfl)) fun a hF => ?_
    refine wl_v hF rfl rfl rfl (q_rem rfl (hF.eval rfl) (hF.eval rfl) (fun e => hc1 (.inr e))) fun a hF => ?_
    refine wl_v hF rfl rfl rfl (q_assign rfl (hF.eval rfl)) fun a hF => ?_
    refine wl_nil ?_
    refine k_n ?_
    refine wp_seqJ (fun (k : Int) a w' => (k = whK n all.length) ∧ St w0 [] w' [] ∧ Fr a 29 [(2, va), (7, i64 k)]) ?_ ?_
    · skip
      refine wp_seq ?_
      refine wp_region_lit ?_
      refine wl_v hF rfl rfl rfl (q_move rfl (hF.eval rfl)) fun a hF => ?_
      refine wl_v hF rfl rfl rfl (q_lt rfl (hF.eval rfl) (hF.eval rfl)) fun a hF => ?_
      refine wl_nil ?_
      refine k_n ?_
      refine wp_ifD hF rfl rfl (fun hc2 => ?_) (fun hc2 => ?_)
      · skip
        refine wp_region_lit ?_
        refine wl_v hF rfl rfl rfl (q_move rfl (hF.eval rfl)) fun a hF => ?_
        refine wl_v hF rfl rfl rfl (q_move rfl (hF.eval rfl)) fun a hF => ?_
        refine wl_v hF rfl rfl rfl (q_lenRd hR Try.underlying36 rfl (hF.eval rfl)) fun a hF => ?_
        refine wl_v hF rfl rfl rfl (q_add rfl (hF.eval rfl) (hF.eval rfl) (by omega)) fun a hF => ?_
        refine wl_v hF rfl rfl rfl (q_assign rfl (hF.eval rfl)) fun a hF => ?_
        refine wl_nil ?_
        refine k_n ?_
        have hO : St _ _ _ [] := hO
        exact ⟨_, ⟨(if_pos hc2).symm, hO, hF.sub ⟨rfl, rfl, trivial⟩⟩⟩
      · skip
        refine wp_skip ?_
        refine k_n ?_
        have hO : St _ _ _ [] := hO
        exact ⟨_, ⟨(if_neg hc2).symm, hO, hF.sub ⟨rfl, rfl, trivial⟩⟩⟩
    · skip
      rintro k a w ⟨rfl, hO, hF⟩
      refine wp_seq ?_
      refine wp_region_lit ?_
      refine wl_v hF rfl rfl rfl (q_move rfl (hF.eval rfl)) fun a hF => ?_
      refine wl_v hF rfl rfl rfl (q_move rfl (hF.eval rfl)) fun a hF => ?_
      refine wl_v hF rfl rfl rfl (q_at (i := (whK n all.length).toNat) hR Try.underlying36 Try.sizeOf3 rfl (hF.eval rfl) ((hF.eval rfl).trans (congrArg i64 ((Int.toNat_of_nonneg (hwk.1)).symm))) (by omega)) fun a hF => ?_
      refine wl_v hF rfl rfl rfl (q_load Try.isAgg3 rfl (hF.eval rfl) (RdT.cell0 (hR.now hO) (get_D (d := 0) (by omega)) rfl)) fun a hF => ?_
      refine wl_v hF rfl rfl rfl (q_assign rfl (hF.eval rfl)) fun a hF => ?_
      refine wl_nil ?_
      refine k_n ?_
      refine wp_ret ?_
      refine r_1 hF rfl rfl ?_
      have hO : St _ _ _ [] := hO
      exact ⟨congrArg i64 (if_neg hc1).symm, hO⟩

set_option maxHeartbeats 1000000 in
theorem words_r (w0 : World) (vl : Value) (ls : List Wd) (hn : ls.length ≤ 1048576) (hR : RdT w0 [] vl wordE ls) (raw : Bool) (va : Value) (all : List Int) (hA : RdT w0 [] va intE all) : Ret Try.prog 22 #[vl, .bool raw, va] w0 (fun v w' => ∃ v2, v = v2 ∧ St w0 [] w' [slT v2 27 wordE (wordsF ls raw all)]) := by
  have hO := St.init0 w0
  refine ret_of (m := 33) Try.func22 rfl Try.ntmps22 [(0, vl), (1, .bool raw), (2, va)] rfl ⟨rfl, rfl, rfl, trivial⟩ fun a hF => ?_
  refine wp_seq ?_
  refine wp_region_lit ?_
  refine wl_v hF rfl rfl rfl (q_assign rfl (hF.eval rfl)) fun a hF => ?_
  refine wl_nil ?_
  refine k_n ?_
  refine wp_seq ?_
  refine wp_region_lit ?_
  refine wl_v hF rfl rfl rfl (q_assign rfl (hF.eval rfl)) fun a hF => ?_
  have hO := hO.nilSl 27 2
  refine wl_nil ?_
  refine k_n ?_
  refine wp_seq ?_
  refine wp_seq ?_
  refine wp_region_lit ?_
  refine wl_v hF rfl rfl rfl (q_assign rfl (hF.eval rfl)) fun a hF => ?_
  refine wl_nil ?_
  refine k_n ?_
  refine wp_block ?_
  have hO : St _ _ _ [_] := hO
  refine wp_loopS (fun (q : Nat × Value) a w' => match q with | (k, vo) => (k ≤ ls.length) ∧ St w0 [] w' [slT vo 27 wordE (wordsF (ls.take k) raw all)] ∧ Fr a 33 [(0, vl), (1, .bool raw), (2, va), (7, vo), (8, i64 k)]) (fun (q : Nat × Value) => match q with | (k, vo) => ls.length - k) (0, _) ⟨by omega, hO, hF.sub ⟨rfl, rfl, rfl, rfl, rfl, trivial⟩⟩ ?_
  rintro ⟨k, vo⟩ a w ⟨hk, hO, hF⟩
  refine wp_seq ?_
  refine wp_seq ?_
  refine wp_region_lit ?_
  refine wl_v hF rfl rfl rfl (q_move rfl (hF.eval rfl)) fun a hF => ?_
  refine wl_v hF rfl rfl rfl (q_move rfl (hF.eval rfl)) fun a hF => ?_
  refine wl_v hF rfl rfl rfl (q_lenRd hR Try.underlying37 rfl (hF.eval rfl)) fun a hF => ?_
  refine wl_v hF rfl rfl rfl (q_lt rfl (hF.eval rfl) (hF.eval rfl)) fun a hF => ?_
  refine wl_nil ?_
  refine k_n ?_
  refine wp_ifD hF rfl rfl (fun hc1 => ?_) (fun hc1 => ?_)
  · skip
    refine wp_skip ?_
    refine k_n ?_
    refine wp_seq ?_
    refine wp_block ?_
    refine wp_seq ?_
    refine wp_region_lit ?_
    refine wl_v hF rfl rfl rfl (q_move rfl (hF.eval rfl)) fun a hF => ?_
    refine wl_v hF rfl rfl rfl (q_move rfl (hF.eval rfl)) fun a hF => ?_
    obtain ⟨x, hx⟩ := get_ex (l := ls) (i := k) (by omega)
    refine wl_v hF rfl rfl rfl (q_at (i := k) hR Try.underlying37 Try.sizeOf27 rfl (hF.eval rfl) (hF.eval rfl) (by omega)) fun a hF => ?_
    refine wl_v hF rfl rfl rfl (q_loadAgg Try.isAgg27 Try.sizeOf27 rfl (hF.eval rfl) (RdT.cells (hR.now hO) hx) rfl) fun a hF => ?_
    refine wl_e hF rfl rfl rfl (e_alloc hO Try.zeroValue27 rfl rfl) ?_
    rintro a _ w ⟨tw, rfl, hO⟩ hF
    refine wl_s hF rfl rfl (e_storeAll hO (i := 0) rfl Try.sizeOf27 rfl (hF.eval rfl) (hF.eval rfl) rfl rfl) ?_
    rintro a _ w ⟨-, hO⟩ hF
    have hO : St _ _ _ [_, _] := hO
    refine wl_nil ?_
    refine k_n ?_
    refine wp_seqJ (fun (y : Wd) a w' => (y = word1 raw all x) ∧ St w0 [] w' [slT vo 27 wordE (wordsF (ls.take k) raw all), .ob tw 27 (wordE.cells y)] ∧ Fr a 33 [(0, vl), (1, .bool raw), (2, va), (7, vo), (8, i64 k), (9, ptr (adr tw))]) ?_ ?_
    · skip
      refine wp_seq ?_
      refine wp_region_lit ?_
      refine wl_v hF rfl rfl rfl (q_fieldAddr0 (d := 0) Try.underlying27 rfl (hF.eval rfl) rfl Try.sizeOf4 (by decide) rfl) fun a hF => ?_
      refine wl_v hF rfl rfl rfl (q_load Try.isAgg4 rfl (hF.eval rfl) (hO.cell 0 rfl rfl)) fun a hF => ?_
      refine wl_nil ?_
      refine k_n ?_
      refine wp_ifD hF rfl (dec_b _) (fun hc2 => ?_) (fun hc2 => ?_)
      · skip
        refine wp_region_lit ?_
        refine wl_v hF rfl rfl rfl (q_fieldAddr0 (d := 1) Try.underlying27 rfl (hF.eval rfl) rfl Try.sizeOf3 (by decide) rfl) fun a hF => ?_
        refine wl_v hF rfl rfl rfl (q_load Try.isAgg3 rfl (hF.eval rfl) (hO.cell 0 rfl rfl)) fun a hF => ?_
        refine wl_v hF rfl rfl rfl (q_move rfl (hF.eval rfl)) fun a hF => ?_
        refine wl_v hF rfl rfl rfl (q_move rfl (hF.eval rfl)) fun a hF => ?_
        refine wl_e hF rfl rfl rfl (c_call hF rfl rfl Try.call21 (where_r _ _ _ _ _ (hA.at0 hO))) ?_
        rintro a _ w ⟨rfl, hS⟩ hF
        have hO := hO.call0 hS
        have hO : St _ _ _ [_, _] := hO
        refine wl_v hF rfl rfl rfl (q_fieldAddr0 (d := 1) Try.underlying27 rfl (hF.eval rfl) rfl Try.sizeOf3 (by decide) rfl) fun a hF => ?_
        refine wl_s hF rfl rfl (e_store1 hO (i := 0) rfl Try.sizeOf3 rfl (hF.eval rfl) (hF.eval rfl) rfl rfl rfl) ?_
        rintro a _ w ⟨-, hO⟩ hF
        have hO : St _ _ _ [_, _] := hO
        refine wl_nil ?_
        refine k_n ?_
        have hO := hO.pull 1 rfl
        have hO : St _ _ _ [_, _] := hO
        exact ⟨⟨x.ptr, whereF x.n raw all⟩, ⟨(if_pos hc2).symm, hO, hF.sub ⟨rfl, rfl, rfl, rfl, rfl, rfl, trivial⟩⟩⟩
      · skip
        refine wp_skip ?_
        refine k_n ?_
        have hO := hO.pull 1 rfl
        have hO : St _ _ _ [_, _] := hO
        exact ⟨x, ⟨(if_neg hc2).symm, hO, hF.sub ⟨rfl, rfl, rfl, rfl, rfl, rfl, trivial⟩⟩⟩
    · skip
      rintro y a w ⟨rfl, hO, hF⟩
      refine wp_region_lit ?_
      refine wl_v hF rfl rfl rfl (q_move rfl (hF.eval rfl)) fun a hF => ?_
      refine wl_v hF rfl rfl rfl (q_loadAgg Try.isAgg27 Try.sizeOf27 rfl (hF.eval rfl) (hO.cells 1 rfl) rfl) fun a hF => ?_
      refine wl_e hF rfl rfl rfl (c_buildSlice hF hO Try.underlying37 Try.sizeOf27 Try.zeroValue27 rfl rfl rfl rfl rfl rfl rfl) ?_
      rintro a _ w ⟨b1, rfl, hO⟩ hF
      refine wl_e hF rfl rfl rfl (e_appendT (bytes := 16) (r := [word1 raw all x]) hO (i := 1) rfl (hO.rd 0 rfl) Try.underlying37 Try_info27 rfl rfl rfl rfl rfl rfl (hF.eval rfl) (hF.eval rfl) (by show (List.length (wordsF _ _ _) + 1) * 16 ≤ _; rw [wordsF, List.length_map, List.length_take]; omega) (by show List.length (wordsF _ _ _) + 1 ≤ _; rw [wordsF, List.length_map, List.length_take]; omega)) ?_
      rintro a v31 w hO hF
      have hO : St _ _ _ [_, _, _] := hO
      refine wl_v hF rfl rfl rfl (q_assign rfl (hF.eval rfl)) fun a hF => ?_
      refine wl_nil ?_
      refine b_n ?_
      refine k_n ?_
      refine wp_region_lit ?_
      refine wl_v hF rfl rfl rfl (q_move rfl (hF.eval rfl)) fun a hF => ?_
      refine wl_v hF rfl rfl rfl (q_add rfl (hF.eval rfl) (hF.eval rfl) (by omega)) fun a hF => ?_
      refine wl_v hF rfl rfl rfl (q_assign rfl (hF.eval rfl)) fun a hF => ?_
      refine wl_nil ?_
      refine k_n ?_
      have hO := hO.drop1 0
      have hO := hO.drop1 1
      have hO : St _ _ _ [_] := hO
      rw [← show wordsF (ls.take (k + 1)) raw all = wordsF (ls.take k) raw all ++ [word1 raw all x] by rw [takeAt hx, wordsF, List.map_append]; rfl] at hO
      exact ⟨(k + 1, _), ⟨by omega, hO, hF.sub ⟨rfl, rfl, rfl, rfl, rfl, trivial⟩⟩, by dsimp only; omega⟩
  · skip
    refine wp_exit ?_
    refine k_x ?_
    refine k_x ?_
    refine b_x ?_
    refine k_n ?_
    refine wp_seq ?_
    refine wp_region_lit ?_
    refine wl_v hF rfl rfl rfl (q_move rfl (hF.eval rfl)) fun a hF => ?_
    refine wl_v hF rfl rfl rfl (q_assign rfl (hF.eval rfl)) fun a hF => ?_
    refine wl_nil ?_
    refine k_n ?_
    refine wp_ret ?_
    refine r_1 hF rfl rfl ?_
    obtain rfl : k = ls.length := by omega
    rw [List.take_length] at hO
    exact ⟨_, rfl, hO⟩

end Go.Proofs.Ytglienidnffnjaa
