import Derived.Test.YtglienidnffnjaaHk
import Derived.Test.YtglienidnffnjaaPl18
import Derived.Test.YtglienidnffnjaaQb
namespace Go.Proofs.Ytglienidnffnjaa
open Go
set_option maxRecDepth 100000
set_option linter.unusedVariables false
set_option maxHeartbeats 1000000 in
theorem rem_rr (w0 : World) (br : Nat) (R : RH) (hR : RR w0 [] br R) (g : RG R) : Ret Try.prog 46 #[ptr (adr br)] w0 (fun v w' => ∃ v2, v = v2 ∧ St w0 [] w' [slT v2 3 intE (remR R)]) := by
  have hO := St.init0 w0
  refine ret_of (m := 45) Try.func46 rfl Try.ntmps46 [(0, ptr (adr br))] rfl ⟨rfl, trivial⟩ fun a hF => ?_
  refine wp_seq ?_
  refine wp_region_lit ?_
  refine wl_v hF rfl rfl rfl (q_assign rfl (hF.eval rfl)) fun a hF => ?_
  refine wl_nil ?_
  refine k_n ?_
  refine wp_seq ?_
  refine wp_region_lit ?_
  refine wl_v hF rfl rfl rfl (q_assign rfl (hF.eval rfl)) fun a hF => ?_
  have hO := hO.nilSl 3 1
  refine wl_nil ?_
  refine k_n ?_
  refine wp_seq ?_
  refine wp_seq ?_
  refine wp_region_lit ?_
  refine wl_v hF rfl rfl rfl (q_assign rfl (hF.eval rfl)) fun a hF => ?_
  refine wl_nil ?_
  refine k_n ?_
  refine wp_block ?_
  have hO : St _ _ _ [_] := hO
  refine wp_loopS (fun (s : Nat × Value) a w' => match s with | (p, vo) => (1 ≤ p ∧ p ≤ 3) ∧ St w0 [] w' [slT vo 3 intE (remTo R p)] ∧ Fr a 45 [(0, ptr (adr br)), (3, vo), (4, i64 p)]) (fun (s : Nat × Value) => match s with | (p, vo) => 3 - p) (1, _) ⟨⟨by omega, by omega⟩, hO, hF.sub ⟨rfl, rfl, rfl, trivial⟩⟩ ?_
  rintro ⟨p, vo⟩ a w ⟨⟨hp1, hp3⟩, hO, hF⟩
  refine wp_seq ?_
  refine wp_seq ?_
  refine wp_region_lit ?_
  refine wl_v hF rfl rfl rfl (q_move rfl (hF.eval rfl)) fun a hF => ?_
  refine wl_v hF rfl rfl rfl (q_lt rfl (hF.eval rfl) (hF.eval rfl)) fun a hF => ?_
  refine wl_nil ?_
  refine k_n ?_
  refine wp_ifD hF rfl rfl (fun hc1 => ?_) (fun hc1 => ?_)
  · skip
    have hp : p < 3 := by omega
    have hlen := g.len p hp
    have hrt := remTo_len g hp3
    refine wp_skip ?_
    refine k_n ?_
    refine wp_seq ?_
    refine wp_block ?_
    refine wp_seq ?_
    refine wp_region_lit ?_
    refine wl_v hF rfl rfl rfl (q_assign rfl (hF.eval rfl)) fun a hF => ?_
    refine wl_nil ?_
    refine k_n ?_
    refine wp_block ?_
    rw [show remTo R p = remTo R p ++ rem1R ((R.p p).take 0) by rw [List.take_zero]; exact (List.append_nil _).symm] at hO
    have hO : St _ _ _ [_] := hO
    refine wp_loopS (fun (s : Nat × Value) a w' => match s with | (i, vo) => (i ≤ (R.p p).length) ∧ St w0 [] w' [slT vo 3 intE (remTo R p ++ rem1R ((R.p p).take i))] ∧ Fr a 45 [(0, ptr (adr br)), (3, vo), (4, i64 p), (5, i64 i)]) (fun (s : Nat × Value) => match s with | (i, vo) => (R.p p).length - i) (0, _) ⟨by omega, hO, hF.sub ⟨rfl, rfl, rfl, rfl, trivial⟩⟩ ?_
    rintro ⟨i, vo⟩ a w ⟨hi, hO, hF⟩
    have hrl := rem1_len ((R.p p).take i)
    rw [List.length_take] at hrl
    refine wp_seq ?_
    refine wp_seq ?_
    refine wp_region_lit ?_
    refine wl_v hF rfl rfl rfl (q_move rfl (hF.eval rfl)) fun a hF => ?_
    refine wl_v hF rfl rfl rfl (q_move rfl (hF.eval rfl)) fun a hF => ?_
    refine wl_v hF rfl rfl rfl (q_move rfl (hF.eval rfl)) fun a hF => ?_
    refine wl_v hF rfl rfl rfl (q_nilCheck rfl (hF.eval rfl)) fun a hF => ?_
    refine wl_v hF rfl rfl rfl (q_fieldAddr0 (d := 2) Try.underlying94 rfl (hF.eval rfl) rfl Try.sizeOf92 (by decide) rfl) fun a hF => ?_
    refine wl_v hF rfl rfl rfl (q_atArrK (i := p) (d := 2) Try.underlying92 Try.sizeOf91 rfl (hF.eval rfl) (hF.eval rfl) (by omega)) fun a hF => ?_
    refine wl_v hF rfl rfl rfl (q_load Try.isAgg91 rfl (hF.eval rfl) (rdB_cell (RR.now hR hO).blk (rfC_at1 (by omega)))) fun a hF => ?_
    refine wl_v hF rfl rfl rfl (q_lenRd (hR.ps p (by omega)) Try.underlying91 rfl (hF.eval rfl)) fun a hF => ?_
    refine wl_v hF rfl rfl rfl (q_lt rfl (hF.eval rfl) (hF.eval rfl)) fun a hF => ?_
    refine wl_nil ?_
    refine k_n ?_
    refine wp_ifD hF rfl rfl (fun hc2 => ?_) (fun hc2 => ?_)
    · skip
      refine wp_skip ?_
      refine k_n ?_
      refine wp_seq ?_
      refine wp_block ?_
      refine wp_seq ?_
      refine wp_region_lit ?_
      refine wl_v hF rfl rfl rfl (q_move rfl (hF.eval rfl)) fun a hF => ?_
      refine wl_v hF rfl rfl rfl (q_move rfl (hF.eval rfl)) fun a hF => ?_
      refine wl_v hF rfl rfl rfl (q_nilCheck rfl (hF.eval rfl)) fun a hF => ?_
      refine wl_v hF rfl rfl rfl (q_fieldAddr0 (d := 2) Try.underlying94 rfl (hF.eval rfl) rfl Try.sizeOf92 (by decide) rfl) fun a hF => ?_
      refine wl_v hF rfl rfl rfl (q_atArrK (i := p) (d := 2) Try.underlying92 Try.sizeOf91 rfl (hF.eval rfl) (hF.eval rfl) (by omega)) fun a hF => ?_
      refine wl_v hF rfl rfl rfl (q_load Try.isAgg91 rfl (hF.eval rfl) (rdB_cell (RR.now hR hO).blk (rfC_at1 (by omega)))) fun a hF => ?_
      refine wl_v hF rfl rfl rfl (q_move rfl (hF.eval rfl)) fun a hF => ?_
      obtain ⟨x, hx⟩ := get_ex (l := (R.p p)) (i := i) (by omega)
      refine wl_v hF rfl rfl rfl (q_at (i := i) (hR.ps p (by omega)) Try.underlying91 Try.sizeOf99 rfl (hF.eval rfl) (hF.eval rfl) (by omega)) fun a hF => ?_
      refine wl_v hF rfl rfl rfl (q_fieldAddr0 (d := 5) Try.underlying99 rfl (hF.eval rfl) rfl Try.sizeOf4 (by decide) rfl) fun a hF => ?_
      refine wl_v hF rfl rfl rfl (q_load Try.isAgg4 rfl (hF.eval rfl) (RdT.cells ((hR.ps p (by omega)).now hO) hx _ _ rfl)) fun a hF => ?_
      refine wl_nil ?_
      refine k_n ?_
      refine wp_ifD hF rfl (dec_b _) (fun hc3 => ?_) (fun hc3 => ?_)
      · skip
        refine wp_region_lit ?_
        refine wl_v hF rfl rfl rfl (q_move rfl (hF.eval rfl)) fun a hF => ?_
        refine wl_v hF rfl rfl rfl (q_move rfl (hF.eval rfl)) fun a hF => ?_
        refine wl_v hF rfl rfl rfl (q_move rfl (hF.eval rfl)) fun a hF => ?_
        refine wl_v hF rfl rfl rfl (q_nilCheck rfl (hF.eval rfl)) fun a hF => ?_
        refine wl_v hF rfl rfl rfl (q_fieldAddr0 (d := 2) Try.underlying94 rfl (hF.eval rfl) rfl Try.sizeOf92 (by decide) rfl) fun a hF => ?_
        refine wl_v hF rfl rfl rfl (q_atArrK (i := p) (d := 2) Try.underlying92 Try.sizeOf91 rfl (hF.eval rfl) (hF.eval rfl) (by omega)) fun a hF => ?_
        refine wl_v hF rfl rfl rfl (q_load Try.isAgg91 rfl (hF.eval rfl) (rdB_cell (RR.now hR hO).blk (rfC_at1 (by omega)))) fun a hF => ?_
        refine wl_v hF rfl rfl rfl (q_move rfl (hF.eval rfl)) fun a hF => ?_
        refine wl_v hF rfl rfl rfl (q_at (i := i) (hR.ps p (by omega)) Try.underlying91 Try.sizeOf99 rfl (hF.eval rfl) (hF.eval rfl) (by omega)) fun a hF => ?_
        refine wl_v hF rfl rfl rfl (q_fieldAddr0 (d := 0) Try.underlying99 rfl (hF.eval rfl) rfl Try.sizeOf3 (by decide) rfl) fun a hF => ?_
        refine wl_v hF rfl rfl rfl (q_load Try.isAgg3 rfl (hF.eval rfl) (RdT.cells ((hR.ps p (by omega)).now hO) hx _ _ rfl)) fun a hF => ?_
        refine wl_e hF rfl rfl rfl (c_buildSlice hF hO Try.underlying36 Try.sizeOf3 Try.zeroValue3 rfl rfl rfl rfl rfl rfl rfl) ?_
        rintro a _ w ⟨b1, rfl, hO⟩ hF
        refine wl_e hF rfl rfl rfl (e_appendT (bytes := 8) (r := [x.at_]) hO (i := 1) rfl (hO.rd 0 rfl) Try.underlying36 Try_info3 rfl rfl rfl rfl rfl rfl (hF.eval rfl) (hF.eval rfl) (by show (List.length (_ ++ _) + 1) * 8 ≤ _; rw [List.length_append]; omega) (by show List.length (_ ++ _) + 1 ≤ _; rw [List.length_append]; omega)) ?_
        rintro a v43 w hO hF
        have hO : St _ _ _ [_, _] := hO
        refine wl_v hF rfl rfl rfl (q_assign rfl (hF.eval rfl)) fun a hF => ?_
        refine wl_nil ?_
        refine b_n ?_
        refine k_n ?_
        refine wp_region_lit ?_
        refine wl_v hF rfl rfl rfl (q_move rfl (hF.eval rfl)) fun a hF => ?_
        refine wl_v hF rfl rfl rfl (q_add rfl (hF.eval rfl) (hF.eval rfl) (by omega)) fun a hF => ?_
        refine wl_v hF rfl rfl rfl (q_assign rfl (hF.eval rfl)) fun a hF => ?_
        refine wl_nil ?_
        refine k_n ?_
        have hO := hO.drop1 0
        have hO : St _ _ _ [_] := hO
        rw [List.append_assoc, show rem1R ((R.p p).take i) ++ [x.at_] = rem1R ((R.p p).take (i + 1)) by rw [rem1_take hx, if_pos hc3]] at hO
        exact ⟨(i + 1, _), ⟨by omega, hO, hF.sub ⟨rfl, rfl, rfl, rfl, trivial⟩⟩, by dsimp only; omega⟩
      · skip
        refine wp_skip ?_
        refine b_n ?_
        refine k_n ?_
        refine wp_region_lit ?_
        refine wl_v hF rfl rfl rfl (q_move rfl (hF.eval rfl)) fun a hF => ?_
        refine wl_v hF rfl rfl rfl (q_add rfl (hF.eval rfl) (hF.eval rfl) (by omega)) fun a hF => ?_
        refine wl_v hF rfl rfl rfl (q_assign rfl (hF.eval rfl)) fun a hF => ?_
        refine wl_nil ?_
        refine k_n ?_
        have hO : St _ _ _ [_] := hO
        rw [show rem1R ((R.p p).take i) = rem1R ((R.p p).take (i + 1)) by rw [rem1_take hx, if_neg hc3, List.append_nil]] at hO
        exact ⟨(i + 1, _), ⟨by omega, hO, hF.sub ⟨rfl, rfl, rfl, rfl, trivial⟩⟩, by dsimp only; omega⟩
    · skip
      refine wp_exit ?_
      refine k_x ?_
      refine k_x ?_
      refine b_x ?_
      refine b_n ?_
      refine k_n ?_
      refine wp_region_lit ?_
      refine wl_v hF rfl rfl rfl (q_move rfl (hF.eval rfl)) fun a hF => ?_
      refine wl_v hF rfl rfl rfl (q_add rfl (hF.eval rfl) (hF.eval rfl) (by omega)) fun a hF => ?_
      refine wl_v hF rfl rfl rfl (q_assign rfl (hF.eval rfl)) fun a hF => ?_
      refine wl_nil ?_
      refine k_n ?_
      have hO : St _ _ _ [_] := hO
      rw [show i = (R.p p).length by omega, List.take_length, remTo_next hp1 hp] at hO
      exact ⟨(p + 1, _), ⟨⟨by omega, by omega⟩, hO, hF.sub ⟨rfl, rfl, rfl, trivial⟩⟩, by dsimp only; omega⟩
  · skip
    obtain rfl : p = 3 := by omega
    refine wp_exit ?_
    refine k_x ?_
    refine k_x ?_
    refine b_x ?_
    refine k_n ?_
    refine wp_seq ?_
    refine wp_region_lit ?_
    refine wl_v hF rfl rfl rfl (q_move rfl (hF.eval rfl)) fun a hF => ?_
    refine wl_v hF rfl rfl rfl (q_assign rfl (hF.eval rfl)) fun a hF => ?_
    refine wl_nil ?_
    refine k_n ?_
    refine wp_ret ?_
    refine r_1 hF rfl rfl ?_
    exact ⟨_, rfl, hO⟩

end Go.Proofs.Ytglienidnffnjaa
