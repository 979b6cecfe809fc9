import Derived.Test.YtglienidnffnjaaIa
import Derived.Test.YtglienidnffnjaaPl10
import Derived.Test.YtglienidnffnjaaGw19
import Derived.Test.YtglienidnffnjaaPl7
namespace Go.Proofs.Ytglienidnffnjaa
open Go
set_option maxRecDepth 100000
set_option linter.unusedVariables false
set_option maxHeartbeats 4000000 in
theorem hfills_r (w0 : World) (vl : Value) (l : List Int) (hR : RdT w0 [] vl intE l) : Ret Try.prog 5 #[vl] w0 (fun v w' => v = .bool true ∧ St w0 [] w' []) := by
  have hO := St.init0 w0
  have hll := RdT.lenle hR
  refine ret_of (m := 123) Try.func5 rfl Try.ntmps5 [(0, vl)] rfl ⟨rfl, trivial⟩ fun a hF => ?_
  refine wp_seq ?_
  refine wp_region_lit ?_
  refine wl_v hF rfl rfl rfl (q_assign rfl (hF.eval rfl)) fun a hF => ?_
  refine wl_nil ?_
  refine k_n ?_
  refine wp_seq ?_
  refine wp_region_lit ?_
  refine wl_e hF rfl rfl rfl (c_call hF rfl rfl Try.call11 (newOk_r _ _ _ (by decide))) ?_
  rintro a _ w ⟨bh, vw, vh, vr, rfl, hS⟩ hF
  have hO := hO.call0 hS
  have hO : St _ _ _ [_, _, _, _] := hO
  refine wl_v hF rfl rfl rfl (q_move rfl (hF.eval rfl)) fun a hF => ?_
  refine wl_v hF rfl rfl rfl (q_extract rfl (hF.eval rfl) rfl) fun a hF => ?_
  refine wl_v hF rfl rfl rfl (q_extract rfl (hF.eval rfl) rfl) fun a hF => ?_
  refine wl_v hF rfl rfl rfl (q_assign rfl (hF.eval rfl)) fun a hF => ?_
  refine wl_v hF rfl rfl rfl (q_assign rfl (hF.eval rfl)) fun a hF => ?_
  refine wl_nil ?_
  refine k_n ?_
  refine wp_seq ?_
  refine wp_seq ?_
  refine wp_region_lit ?_
  refine wl_v hF rfl rfl rfl (q_move rfl (hF.eval rfl)) fun a hF => ?_
  refine wl_v hF rfl rfl rfl (q_ne rfl (hF.eval rfl) (hF.eval rfl)) fun a hF => ?_
  refine wl_v hF rfl rfl rfl (q_move rfl (hF.eval rfl)) fun a hF => ?_
  refine wl_g hF rfl rfl rfl rfl rfl rfl (fun hg => q_move rfl (hF.eval rfl)) fun a hF => ?_
  refine wl_g hF rfl rfl rfl rfl rfl rfl (fun hg => q_peq Try.underlying22 rfl ((hF.eval rfl).trans (gv_of hg)) (hF.eval rfl)) fun a hF => ?_
  refine wl_v hF rfl rfl rfl (q_or rfl (hF.eval rfl) rfl (fun hg2 => ((hF.eval rfl).trans (gv_of hg2))) rfl) fun a hF => ?_
  refine wl_nil ?_
  refine k_n ?_
  refine wp_ifD hF rfl rfl (fun hc1 => ?_) (fun hc1 => ?_)
  · skip
    exact absurd hc1 (by simp)
  · skip
    refine wp_skip ?_
    refine k_n ?_
    refine wp_seq ?_
    refine wp_region_lit ?_
    refine wl_v hF rfl rfl rfl (q_assign rfl (hF.eval rfl)) fun a hF => ?_
    refine wl_nil ?_
    refine k_n ?_
    refine wp_seq ?_
    refine wp_region_lit ?_
    refine wl_v hF rfl rfl rfl (q_assign rfl (hF.eval rfl)) fun a hF => ?_
    refine wl_nil ?_
    refine k_n ?_
    refine wp_seq ?_
    refine wp_seq ?_
    refine wp_region_lit ?_
    refine wl_v hF rfl rfl rfl (q_assign rfl (hF.eval rfl)) fun a hF => ?_
    refine wl_nil ?_
    refine k_n ?_
    refine wp_block ?_
    have hO : St _ _ _ [_, _, _, _] := hO
    refine wp_loopS (fun (q : Nat × Hp × Value) a w' => match q with | (i, h, vr) => (Fl h ∧ i ≤ l.length) ∧ St w0 [] w' [.ob bh 77 (hpC vw vh vr h), slT vw 27 wordE h.words, slT vh 84 headE h.heads, slT vr 3 intE h.rem] ∧ Fr a 123 [(0, vl), (3, ptr (adr bh)), (5, i64 h.y.next), (6, i64 (h.a.next - 64)), (7, i64 i)]) (fun (q : Nat × Hp × Value) => match q with | (i, h, vr) => l.length - i) (0, newH 64 100, vr) ⟨⟨fl_new, by omega⟩, hO, hF.sub ⟨rfl, rfl, rfl, rfl, rfl, trivial⟩⟩ ?_
    rintro ⟨i, h, vr⟩ a w ⟨⟨hC, hil⟩, hO, hF⟩
    have hrl : h.rem.length ≤ 1000 := by rw [hC.rem]; decide
    obtain ⟨g1, g2, g3, _⟩ := hC.wf.y
    obtain ⟨g4, g5, g6, _⟩ := hC.wf.a
    have g7 := hC.y1
    have g8 := hC.y2
    have g9 := hC.a1
    have g10 := hC.a2
    refine wp_seq ?_
    refine wp_seq ?_
    refine wp_region_lit ?_
    refine wl_v hF rfl rfl rfl (q_move rfl (hF.eval rfl)) fun a hF => ?_
    refine wl_v hF rfl rfl rfl (q_move rfl (hF.eval rfl)) fun a hF => ?_
    refine wl_v hF rfl rfl rfl (q_lenRd hR Try.underlying36 rfl (hF.eval rfl)) fun a hF => ?_
    refine wl_v hF rfl rfl rfl (q_lt rfl (hF.eval rfl) (hF.eval rfl)) fun a hF => ?_
    refine wl_v hF rfl rfl rfl (q_move rfl (hF.eval rfl)) fun a hF => ?_
    refine wl_g hF rfl rfl rfl rfl rfl rfl (fun hg => q_move rfl (hF.eval rfl)) fun a hF => ?_
    refine wl_g hF rfl rfl rfl rfl rfl rfl (fun hg => q_lt rfl ((hF.eval rfl).trans (gv_of hg)) (hF.eval rfl)) fun a hF => ?_
    refine wl_v hF rfl rfl rfl (q_and rfl (hF.eval rfl) rfl (fun hg2 => ((hF.eval rfl).trans (gv_of hg2))) rfl) fun a hF => ?_
    refine wl_nil ?_
    refine k_n ?_
    refine wp_ifD hF rfl rfl (fun hc2 => ?_) (fun hc2 => ?_)
    · skip
      have hi : i < 200 := by omega
      refine wp_skip ?_
      refine k_n ?_
      refine wp_seq ?_
      refine wp_block ?_
      refine wp_seq ?_
      refine wp_region_lit ?_
      refine wl_v hF rfl rfl rfl (q_move rfl (hF.eval rfl)) fun a hF => ?_
      refine wl_v hF rfl rfl rfl (q_move rfl (hF.eval rfl)) fun a hF => ?_
      obtain ⟨x, hx⟩ := get_ex (l := l) (i := i) (by omega)
      refine wl_v hF rfl rfl rfl (q_at (i := i) hR Try.underlying36 Try.sizeOf3 rfl (hF.eval rfl) (hF.eval rfl) (by omega)) fun a hF => ?_
      refine wl_v hF rfl rfl rfl (q_load Try.isAgg3 rfl (hF.eval rfl) (RdT.cell0 (hR.now hO) hx rfl)) fun a hF => ?_
      have hN : ((min (max x 0) 120).toNat : Int) = (min (max x 0) 120) := Int.toNat_of_nonneg (by omega)
      refine wl_v hF rfl rfl rfl (q_max rfl (hF.eval rfl) (hF.eval rfl)) fun a hF => ?_
      refine wl_v hF rfl rfl rfl (q_min rfl (hF.eval rfl) (hF.eval rfl)) fun a hF => ?_
      refine wl_v hF rfl rfl rfl (q_assign rfl (hF.eval rfl)) fun a hF => ?_
      refine wl_nil ?_
      refine k_n ?_
      refine wp_seq ?_
      refine wp_region_lit ?_
      refine wl_v hF rfl rfl rfl (q_move rfl (hF.eval rfl)) fun a hF => ?_
      refine wl_v hF rfl rfl rfl (q_max rfl (hF.eval rfl) (hF.eval rfl)) fun a hF => ?_
      refine wl_v hF rfl rfl rfl (q_add rfl (hF.eval rfl) (hF.eval rfl) (by omega)) fun a hF => ?_
      refine wl_v hF rfl rfl rfl (q_assign rfl (hF.eval rfl)) fun a hF => ?_
      refine wl_nil ?_
      refine k_n ?_
      refine wp_seq ?_
      refine wp_region_lit ?_
      refine wl_v hF rfl rfl rfl (q_assign rfl (hF.eval rfl)) fun a hF => ?_
      refine wl_nil ?_
      refine k_n ?_
      refine wp_seqJ (fun (q : Hp × Value × Int) a w' => match q with | (h2, vr2, f) => (Fl h2 ∧ (f = 0 ∨ f = 180)) ∧ St w0 [] w' [.ob bh 77 (hpC vw vh vr2 h2), slT vw 27 wordE h2.words, slT vh 84 headE h2.heads, slT vr2 3 intE h2.rem] ∧ Fr a 123 [(0, vl), (3, ptr (adr bh)), (5, i64 h2.y.next), (6, i64 (h2.a.next - 64)), (7, i64 i), (10, i64 f)]) ?_ ?_
      · skip
        refine wp_seq ?_
        refine wp_region_lit ?_
        refine wl_v hF rfl rfl rfl (q_move rfl (hF.eval rfl)) fun a hF => ?_
        refine wl_v hF rfl rfl rfl (q_rem rfl (hF.eval rfl) (hF.eval rfl) (by decide)) fun a hF => ?_
        refine wl_v hF rfl rfl rfl (q_eq rfl (hF.eval rfl) (hF.eval rfl)) fun a hF => ?_
        refine wl_nil ?_
        refine k_n ?_
        refine wp_ifD hF rfl rfl (fun hc3 => ?_) (fun hc3 => ?_)
        · skip
          refine wp_seq ?_
          refine wp_region_lit ?_
          refine wl_v hF rfl rfl rfl (q_move rfl (hF.eval rfl)) fun a hF => ?_
          refine wl_v hF rfl rfl rfl (q_move rfl (hF.eval rfl)) fun a hF => ?_
          refine wl_v hF rfl rfl rfl (q_move rfl (hF.eval rfl)) fun a hF => ?_
          refine wl_e hF rfl rfl rfl (e_makeT (E := wordE) (z := wd0) (n := (min (max x 0) 120).toNat) (bytes := 16) hO Try.underlying37 Try_info27 rfl rfl rfl rfl rfl rfl ((hF.eval rfl).trans (congrArg i64 hN.symm)) ((hF.eval rfl).trans (congrArg i64 hN.symm)) (by omega) (by omega)) ?_
          rintro a vk w hO hF
          have hO : St _ _ _ [_, _, _, _, _] := hO
          have hO := hO.pull 4 rfl
          have hO := hO.pull 4 rfl
          have hO := hO.pull 4 rfl
          have hO := hO.pull 4 rfl
          have hO : St _ _ _ [_, _, _, _, _] := hO
          refine wl_e hF rfl rfl rfl (c_call hF rfl rfl Try.call12 (alloc_r _ _ _ _ _ _ hO.own4 hC.wf (by omega) _ _ _ (List.replicate (min (max x 0) 120).toNat wd0) (hO.rdT4 0 rfl))) ?_
          rintro a _ w ⟨vr, r1, h1, hl1, rfl, hS⟩ hF
          have hO := hO.call4 hS
          have hO : St _ _ _ [_, _, _, _, _] := hO
          obtain ⟨hC1, hr1, hf1, hy1, ha1⟩ := hC.lay (k := 0) (by decide) ⟨by omega, by omega⟩ (by omega) hl1
          rw [hN] at hf1 hy1 ha1
          have hm1 : (h.rg 0).next = h.y.next ∧ (h.rg 0).first = 0 ∧ (h.rg 0).end_ = 64 ∧ (h.rg 1).next = h.a.next ∧ (h.rg 1).first = 64 ∧ (h.rg 1).end_ = 164 := ⟨rfl, hC.y1, hC.y2, rfl, hC.a1, hC.a2⟩
          refine wl_v hF rfl rfl rfl (q_move rfl (hF.eval rfl)) fun a hF => ?_
          refine wl_v hF rfl rfl rfl (q_extract rfl (hF.eval rfl) rfl) fun a hF => ?_
          refine wl_v hF rfl rfl rfl (q_extract rfl (hF.eval rfl) rfl) fun a hF => ?_
          refine wl_v hF rfl rfl rfl (q_assign rfl (hF.eval rfl)) fun a hF => ?_
          refine wl_nil ?_
          refine k_n ?_
          refine wp_seq ?_
          refine wp_seq ?_
          refine wp_region_lit ?_
          refine wl_v hF rfl rfl rfl (q_move rfl (hF.eval rfl)) fun a hF => ?_
          refine wl_v hF rfl rfl rfl (q_eq rfl (hF.eval rfl) (hF.eval rfl)) fun a hF => ?_
          refine wl_v hF rfl rfl rfl (q_move rfl (hF.eval rfl)) fun a hF => ?_
          refine wl_v hF rfl rfl rfl (q_move rfl (hF.eval rfl)) fun a hF => ?_
          refine wl_v hF rfl rfl rfl (q_add rfl (hF.eval rfl) (hF.eval rfl) (by omega)) fun a hF => ?_
          refine wl_v hF rfl rfl rfl (q_le rfl (hF.eval rfl) (hF.eval rfl)) fun a hF => ?_
          refine wl_v hF rfl rfl rfl (q_bne Try.underlying4 rfl (hF.eval rfl) (hF.eval rfl)) fun a hF => ?_
          refine wl_nil ?_
          refine k_n ?_
          refine wp_ifD hF rfl rfl (fun hc4 => ?_) (fun hc4 => ?_)
          · skip
            exact absurd (decide_eq_decide.2 (hf1.trans (by omega))) hc4
          · skip
            refine wp_skip ?_
            refine k_n ?_
            refine wp_seq ?_
            refine wp_region_lit ?_
            refine wl_v hF rfl rfl rfl (q_move rfl (hF.eval rfl)) fun a hF => ?_
            refine wl_v hF rfl rfl rfl (q_eq rfl (hF.eval rfl) (hF.eval rfl)) fun a hF => ?_
            refine wl_nil ?_
            refine k_n ?_
            refine wp_ifD hF rfl rfl (fun hc5 => ?_) (fun hc5 => ?_)
            · skip
              refine wp_region_lit ?_
              refine wl_v hF rfl rfl rfl (q_move rfl (hF.eval rfl)) fun a hF => ?_
              refine wl_v hF rfl rfl rfl (q_move rfl (hF.eval rfl)) fun a hF => ?_
              refine wl_v hF rfl rfl rfl (q_add rfl (hF.eval rfl) (hF.eval rfl) (by omega)) fun a hF => ?_
              refine wl_v hF rfl rfl rfl (q_assign rfl (hF.eval rfl)) fun a hF => ?_
              refine wl_nil ?_
              refine k_n ?_
              have hO := hO.drop1 4
              have hO : St _ _ _ [_, _, _, _] := hO
              exact ⟨(h1, vr, r1.2), ⟨⟨hC1, hr1⟩, hO, hF.sub ⟨rfl, rfl, (congrArg (fun z => some (i64 z)) (by rw [hy1, if_pos ⟨rfl, hc5⟩])), (congrArg (fun z => some (i64 z)) (by rw [ha1, if_neg (by simp)])), rfl, rfl, trivial⟩⟩⟩
            · skip
              refine wp_skip ?_
              refine k_n ?_
              have hO := hO.drop1 4
              have hO : St _ _ _ [_, _, _, _] := hO
              exact ⟨(h1, vr, r1.2), ⟨⟨hC1, hr1⟩, hO, hF.sub ⟨rfl, rfl, (congrArg (fun z => some (i64 z)) (by rw [hy1, if_neg (fun h => hc5 h.2)])), (congrArg (fun z => some (i64 z)) (by rw [ha1, if_neg (by simp)])), rfl, rfl, trivial⟩⟩⟩
        · skip
          refine wp_seq ?_
          refine wp_region_lit ?_
          refine wl_v hF rfl rfl rfl (q_move rfl (hF.eval rfl)) fun a hF => ?_
          refine wl_v hF rfl rfl rfl (q_move rfl (hF.eval rfl)) fun a hF => ?_
          refine wl_v hF rfl rfl rfl (q_move rfl (hF.eval rfl)) fun a hF => ?_
          refine wl_e hF rfl rfl rfl (e_makeT (E := wordE) (z := wd0) (n := (min (max x 0) 120).toNat) (bytes := 16) hO Try.underlying37 Try_info27 rfl rfl rfl rfl rfl rfl ((hF.eval rfl).trans (congrArg i64 hN.symm)) ((hF.eval rfl).trans (congrArg i64 hN.symm)) (by omega) (by omega)) ?_
          rintro a vk w hO hF
          have hO : St _ _ _ [_, _, _, _, _] := hO
          have hO := hO.pull 4 rfl
          have hO := hO.pull 4 rfl
          have hO := hO.pull 4 rfl
          have hO := hO.pull 4 rfl
          have hO : St _ _ _ [_, _, _, _, _] := hO
          refine wl_e hF rfl rfl rfl (c_call hF rfl rfl Try.call16 (keep_r _ _ _ _ _ _ hO.own4 hC.wf (by omega) _ _ _ (List.replicate (min (max x 0) 120).toNat wd0) (hO.rdT4 0 rfl))) ?_
          rintro a _ w ⟨vr, r1, h1, hl1, rfl, hS⟩ hF
          have hO := hO.call4 hS
          have hO : St _ _ _ [_, _, _, _, _] := hO
          rw [hC.use] at hl1
          obtain ⟨hC1, hr1, hf1, hy1, ha1⟩ := hC.lay (k := 1) (by decide) ⟨by omega, by omega⟩ (by omega) hl1
          rw [hN] at hf1 hy1 ha1
          have hm1 : (h.rg 0).next = h.y.next ∧ (h.rg 0).first = 0 ∧ (h.rg 0).end_ = 64 ∧ (h.rg 1).next = h.a.next ∧ (h.rg 1).first = 64 ∧ (h.rg 1).end_ = 164 := ⟨rfl, hC.y1, hC.y2, rfl, hC.a1, hC.a2⟩
          refine wl_v hF rfl rfl rfl (q_move rfl (hF.eval rfl)) fun a hF => ?_
          refine wl_v hF rfl rfl rfl (q_extract rfl (hF.eval rfl) rfl) fun a hF => ?_
          refine wl_v hF rfl rfl rfl (q_extract rfl (hF.eval rfl) rfl) fun a hF => ?_
          refine wl_v hF rfl rfl rfl (q_assign rfl (hF.eval rfl)) fun a hF => ?_
          refine wl_nil ?_
          refine k_n ?_
          refine wp_seq ?_
          refine wp_seq ?_
          refine wp_region_lit ?_
          refine wl_v hF rfl rfl rfl (q_move rfl (hF.eval rfl)) fun a hF => ?_
          refine wl_v hF rfl rfl rfl (q_eq rfl (hF.eval rfl) (hF.eval rfl)) fun a hF => ?_
          refine wl_v hF rfl rfl rfl (q_move rfl (hF.eval rfl)) fun a hF => ?_
          refine wl_v hF rfl rfl rfl (q_move rfl (hF.eval rfl)) fun a hF => ?_
          refine wl_v hF rfl rfl rfl (q_add rfl (hF.eval rfl) (hF.eval rfl) (by omega)) fun a hF => ?_
          refine wl_v hF rfl rfl rfl (q_le rfl (hF.eval rfl) (hF.eval rfl)) fun a hF => ?_
          refine wl_v hF rfl rfl rfl (q_bne Try.underlying4 rfl (hF.eval rfl) (hF.eval rfl)) fun a hF => ?_
          refine wl_nil ?_
          refine k_n ?_
          refine wp_ifD hF rfl rfl (fun hc6 => ?_) (fun hc6 => ?_)
          · skip
            exact absurd (decide_eq_decide.2 (hf1.trans (by omega))) hc6
          · skip
            refine wp_skip ?_
            refine k_n ?_
            refine wp_seq ?_
            refine wp_region_lit ?_
            refine wl_v hF rfl rfl rfl (q_move rfl (hF.eval rfl)) fun a hF => ?_
            refine wl_v hF rfl rfl rfl (q_eq rfl (hF.eval rfl) (hF.eval rfl)) fun a hF => ?_
            refine wl_nil ?_
            refine k_n ?_
            refine wp_ifD hF rfl rfl (fun hc7 => ?_) (fun hc7 => ?_)
            · skip
              refine wp_region_lit ?_
              refine wl_v hF rfl rfl rfl (q_move rfl (hF.eval rfl)) fun a hF => ?_
              refine wl_v hF rfl rfl rfl (q_move rfl (hF.eval rfl)) fun a hF => ?_
              refine wl_v hF rfl rfl rfl (q_add rfl (hF.eval rfl) (hF.eval rfl) (by omega)) fun a hF => ?_
              refine wl_v hF rfl rfl rfl (q_assign rfl (hF.eval rfl)) fun a hF => ?_
              refine wl_nil ?_
              refine k_n ?_
              have hO := hO.drop1 4
              have hO : St _ _ _ [_, _, _, _] := hO
              exact ⟨(h1, vr, r1.2), ⟨⟨hC1, hr1⟩, hO, hF.sub ⟨rfl, rfl, (congrArg (fun z => some (i64 z)) (by rw [hy1, if_neg (by simp)])), (congrArg (fun z => some (i64 z)) (by rw [ha1, if_pos ⟨rfl, hc7⟩]; omega)), rfl, rfl, trivial⟩⟩⟩
            · skip
              refine wp_skip ?_
              refine k_n ?_
              have hO := hO.drop1 4
              have hO : St _ _ _ [_, _, _, _] := hO
              exact ⟨(h1, vr, r1.2), ⟨⟨hC1, hr1⟩, hO, hF.sub ⟨rfl, rfl, (congrArg (fun z => some (i64 z)) (by rw [hy1, if_neg (by simp)])), (congrArg (fun z => some (i64 z)) (by rw [ha1, if_neg (fun h => hc7 h.2)])), rfl, rfl, trivial⟩⟩⟩
      · skip
        rintro ⟨h2, vr2, f⟩ a w ⟨⟨hC2, hf2⟩, hO, hF⟩
        refine wp_seq ?_
        refine wp_seq ?_
        refine wp_region_lit ?_
        refine wl_v hF rfl rfl rfl (q_move rfl (hF.eval rfl)) fun a hF => ?_
        refine wl_v hF rfl rfl rfl (q_ne rfl (hF.eval rfl) (hF.eval rfl)) fun a hF => ?_
        refine wl_v hF rfl rfl rfl (q_move rfl (hF.eval rfl)) fun a hF => ?_
        refine wl_g hF rfl rfl rfl rfl rfl rfl (fun hg => q_move rfl (hF.eval rfl)) fun a hF => ?_
        refine wl_g hF rfl rfl rfl rfl rfl rfl (fun hg => q_ne rfl ((hF.eval rfl).trans (gv_of hg)) (hF.eval rfl)) fun a hF => ?_
        refine wl_v hF rfl rfl rfl (q_and rfl (hF.eval rfl) rfl (fun hg2 => ((hF.eval rfl).trans (gv_of hg2))) rfl) fun a hF => ?_
        refine wl_nil ?_
        refine k_n ?_
        refine wp_ifD hF rfl rfl (fun hc8 => ?_) (fun hc8 => ?_)
        · skip
          exact absurd hc8 (by rcases hf2 with h | h <;> rw [h] <;> decide)
        · skip
          refine wp_skip ?_
          refine k_n ?_
          refine wp_seq ?_
          refine wp_region_lit ?_
          refine wl_v hF rfl rfl rfl (q_move rfl (hF.eval rfl)) fun a hF => ?_
          refine wl_e hF rfl rfl rfl (c_call hF rfl rfl Try.call19 (used_r _ _ _ _ _ _ (hO.hr 0 1 2 3 rfl rfl rfl rfl) hC2.wf)) ?_
          rintro a _ w ⟨rfl, hS⟩ hF
          have hO := hO.call0 hS
          have hO : St _ _ _ [_, _, _, _] := hO
          have hu2 := hC2.used
          rw [hu2] at hF
          refine wl_v hF rfl rfl rfl (q_move rfl (hF.eval rfl)) fun a hF => ?_
          refine wl_v hF rfl rfl rfl (q_extract rfl (hF.eval rfl) rfl) fun a hF => ?_
          refine wl_v hF rfl rfl rfl (q_extract rfl (hF.eval rfl) rfl) fun a hF => ?_
          refine wl_v hF rfl rfl rfl (q_assign rfl (hF.eval rfl)) fun a hF => ?_
          refine wl_v hF rfl rfl rfl (q_assign rfl (hF.eval rfl)) fun a hF => ?_
          refine wl_nil ?_
          refine k_n ?_
          refine wp_seq ?_
          refine wp_region_lit ?_
          refine wl_v hF rfl rfl rfl (q_move rfl (hF.eval rfl)) fun a hF => ?_
          refine wl_v hF rfl rfl rfl (q_move rfl (hF.eval rfl)) fun a hF => ?_
          refine wl_v hF rfl rfl rfl (q_ne rfl (hF.eval rfl) (hF.eval rfl)) fun a hF => ?_
          refine wl_v hF rfl rfl rfl (q_move rfl (hF.eval rfl)) fun a hF => ?_
          refine wl_g hF rfl rfl rfl rfl rfl rfl (fun hg => q_move rfl (hF.eval rfl)) fun a hF => ?_
          refine wl_g hF rfl rfl rfl rfl rfl rfl (fun hg => q_move rfl (hF.eval rfl)) fun a hF => ?_
          refine wl_g hF rfl rfl rfl rfl rfl rfl (fun hg => q_ne rfl ((hF.eval rfl).trans (gv_of hg)) ((hF.eval rfl).trans (gv_of hg))) fun a hF => ?_
          refine wl_v hF rfl rfl rfl (q_or rfl (hF.eval rfl) rfl (fun hg2 => ((hF.eval rfl).trans (gv_of hg2))) rfl) fun a hF => ?_
          refine wl_nil ?_
          refine k_n ?_
          refine wp_ifD hF rfl rfl (fun hc9 => ?_) (fun hc9 => ?_)
          · skip
            exact absurd hc9 (by simp [hu2])
          · skip
            refine wp_skip ?_
            refine b_n ?_
            refine k_n ?_
            refine wp_region_lit ?_
            refine wl_v hF rfl rfl rfl (q_move rfl (hF.eval rfl)) fun a hF => ?_
            refine wl_v hF rfl rfl rfl (q_add rfl (hF.eval rfl) (hF.eval rfl) (by omega)) fun a hF => ?_
            refine wl_v hF rfl rfl rfl (q_assign rfl (hF.eval rfl)) fun a hF => ?_
            refine wl_nil ?_
            refine k_n ?_
            have hO : St _ _ _ [_, _, _, _] := hO
            exact ⟨(i + 1, h2, vr2), ⟨⟨hC2, by omega⟩, hO, hF.sub ⟨rfl, rfl, rfl, rfl, rfl, trivial⟩⟩, by dsimp only; omega⟩
    · skip
      refine wp_exit ?_
      refine k_x ?_
      refine k_x ?_
      refine b_x ?_
      refine k_n ?_
      refine wp_seq ?_
      refine wp_region_lit ?_
      refine wl_v hF rfl rfl rfl (q_move rfl (hF.eval rfl)) fun a hF => ?_
      have hO := hO.pull 3 rfl
      have hO := hO.pull 3 rfl
      have hO := hO.pull 3 rfl
      have hO := hO.pull 3 rfl
      have hO : St _ _ _ [_, _, _, _] := hO
      refine wl_e hF rfl rfl rfl (c_call hF rfl rfl Try.call20 (clear_r _ _ _ _ _ _ hO.own4 hC.wf (by omega))) ?_
      rintro a _ w ⟨vr2, rfl, hS⟩ hF
      have hO := hO.call4 hS
      have hO : St _ _ _ [_, _, _, _] := hO
      refine wl_nil ?_
      refine k_n ?_
      refine wp_seq ?_
      refine wp_region_lit ?_
      refine wl_v hF rfl rfl rfl (q_move rfl (hF.eval rfl)) fun a hF => ?_
      refine wl_e hF rfl rfl rfl (c_call hF rfl rfl Try.call19 (used_r _ _ _ _ _ _ (hO.hr 0 1 2 3 rfl rfl rfl rfl) hC.wf.clear)) ?_
      rintro a _ w ⟨rfl, hS⟩ hF
      have hO := hO.call0 hS
      have hO : St _ _ _ [_, _, _, _] := hO
      rw [hC.cleared] at hF
      refine wl_v hF rfl rfl rfl (q_move rfl (hF.eval rfl)) fun a hF => ?_
      refine wl_v hF rfl rfl rfl (q_extract rfl (hF.eval rfl) rfl) fun a hF => ?_
      refine wl_v hF rfl rfl rfl (q_extract rfl (hF.eval rfl) rfl) fun a hF => ?_
      refine wl_v hF rfl rfl rfl (q_assign rfl (hF.eval rfl)) fun a hF => ?_
      refine wl_v hF rfl rfl rfl (q_assign rfl (hF.eval rfl)) fun a hF => ?_
      refine wl_nil ?_
      refine k_n ?_
      refine wp_seq ?_
      refine wp_region_lit ?_
      refine wl_v hF rfl rfl rfl (q_move rfl (hF.eval rfl)) fun a hF => ?_
      refine wl_v hF rfl rfl rfl (q_eq rfl (hF.eval rfl) (hF.eval rfl)) fun a hF => ?_
      refine wl_v hF rfl rfl rfl (q_move rfl (hF.eval rfl)) fun a hF => ?_
      refine wl_g hF rfl rfl rfl rfl rfl rfl (fun hg => q_move rfl (hF.eval rfl)) fun a hF => ?_
      refine wl_g hF rfl rfl rfl rfl rfl rfl (fun hg => q_move rfl (hF.eval rfl)) fun a hF => ?_
      refine wl_g hF rfl rfl rfl rfl rfl rfl (fun hg => q_eq rfl ((hF.eval rfl).trans (gv_of hg)) ((hF.eval rfl).trans (gv_of hg))) fun a hF => ?_
      refine wl_v hF rfl rfl rfl (q_and rfl (hF.eval rfl) rfl (fun hg2 => ((hF.eval rfl).trans (gv_of hg2))) rfl) fun a hF => ?_
      refine wl_v hF rfl rfl rfl (q_move rfl (hF.eval rfl)) fun a hF => ?_
      refine wl_gk hO hF rfl rfl rfl rfl rfl rfl (fun hg => c_callG hF rfl rfl (by first | with_reducible rfl | (simp only [gv_of hg]; done) | (simp only [gv_of hg]; rfl)) Try.call15 (awake_r _)) fun a w hO hF => ?_
      refine wl_v hF rfl rfl rfl (q_and rfl (hF.eval rfl) rfl (fun hg2 => ((hF.eval rfl).trans (gv_of hg2))) (dec_b _)) fun a hF => ?_
      refine wl_v hF rfl rfl rfl (q_assign rfl (hF.eval rfl)) fun a hF => ?_
      refine wl_nil ?_
      refine k_n ?_
      refine wp_ret ?_
      refine r_1 hF rfl rfl ?_
      have hO := hO.drop1 0
      have hO := hO.drop1 0
      have hO := hO.drop1 0
      have hO := hO.drop1 0
      have hO : St _ _ _ [] := hO
      exact ⟨congrArg Value.bool (by simp), hO⟩

end Go.Proofs.Ytglienidnffnjaa
