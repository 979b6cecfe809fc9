import Derived.Test.YtglienidnffnjaaIe
import Derived.Test.YtglienidnffnjaaPl14
import Derived.Test.YtglienidnffnjaaGw19
import Derived.Test.YtglienidnffnjaaPl7
namespace Go.Proofs.Ytglienidnffnjaa
open Go
set_option maxRecDepth 100000
set_option linter.unusedVariables false
set_option maxHeartbeats 4000000 in
theorem hapart_r (w0 : World) (vl v2 : Value) (l : List (Hdr × List Int)) (sets : List OpV) (hR : RdT w0 [] vl hrE l) (hQ : ∀ x ∈ l, RdT w0 [] x.1.v intE x.2) (hR2 : RdT w0 [] v2 opE sets) : Ret Try.prog 4 #[vl, v2] w0 (fun v w' => v = .bool true ∧ St w0 [] w' []) := by
  have hO := St.init0 w0
  have hll := RdT.lenle hR
  have hl2 := RdT.lenle hR2
  refine ret_of (m := 229) Try.func4 rfl Try.ntmps4 [(0, vl), (1, v2)] rfl ⟨rfl, rfl, trivial⟩ fun a hF => ?_
  refine wp_seq ?_
  refine wp_region_lit ?_
  refine wl_v hF rfl rfl rfl (q_assign rfl (hF.eval rfl)) fun a hF => ?_
  refine wl_nil ?_
  refine k_n ?_
  refine wp_seq ?_
  refine wp_region_lit ?_
  refine wl_e hF rfl rfl rfl (c_call hF rfl rfl Try.call11 (newOk_r _ _ _ (by decide))) ?_
  rintro a _ w ⟨bh, vw, vh, vr, rfl, hS⟩ hF
  have hO := hO.call0 hS
  have hO : St _ _ _ [_, _, _, _] := hO
  refine wl_v hF rfl rfl rfl (q_move rfl (hF.eval rfl)) fun a hF => ?_
  refine wl_v hF rfl rfl rfl (q_extract rfl (hF.eval rfl) rfl) fun a hF => ?_
  refine wl_v hF rfl rfl rfl (q_extract rfl (hF.eval rfl) rfl) fun a hF => ?_
  refine wl_v hF rfl rfl rfl (q_assign rfl (hF.eval rfl)) fun a hF => ?_
  refine wl_v hF rfl rfl rfl (q_assign rfl (hF.eval rfl)) fun a hF => ?_
  refine wl_nil ?_
  refine k_n ?_
  refine wp_seq ?_
  refine wp_seq ?_
  refine wp_region_lit ?_
  refine wl_v hF rfl rfl rfl (q_move rfl (hF.eval rfl)) fun a hF => ?_
  refine wl_v hF rfl rfl rfl (q_ne rfl (hF.eval rfl) (hF.eval rfl)) fun a hF => ?_
  refine wl_v hF rfl rfl rfl (q_move rfl (hF.eval rfl)) fun a hF => ?_
  refine wl_g hF rfl rfl rfl rfl rfl rfl (fun hg => q_move rfl (hF.eval rfl)) fun a hF => ?_
  refine wl_g hF rfl rfl rfl rfl rfl rfl (fun hg => q_peq Try.underlying22 rfl ((hF.eval rfl).trans (gv_of hg)) (hF.eval rfl)) fun a hF => ?_
  refine wl_v hF rfl rfl rfl (q_or rfl (hF.eval rfl) rfl (fun hg2 => ((hF.eval rfl).trans (gv_of hg2))) rfl) fun a hF => ?_
  refine wl_nil ?_
  refine k_n ?_
  refine wp_ifD hF rfl rfl (fun hc1 => ?_) (fun hc1 => ?_)
  · skip
    exact absurd hc1 (by simp)
  · skip
    refine wp_skip ?_
    refine k_n ?_
    refine wp_seq ?_
    refine wp_region_lit ?_
    refine wl_v hF rfl rfl rfl (q_assign rfl (hF.eval rfl)) fun a hF => ?_
    have hO := hO.nilSl 3 1
    refine wl_nil ?_
    refine k_n ?_
    refine wp_seq ?_
    refine wp_region_lit ?_
    refine wl_v hF rfl rfl rfl (q_assign rfl (hF.eval rfl)) fun a hF => ?_
    have hO := hO.nilSl 36 1
    have hO := hO.grp0
    refine wl_nil ?_
    refine k_n ?_
    refine wp_seq ?_
    refine wp_seq ?_
    refine wp_region_lit ?_
    refine wl_v hF rfl rfl rfl (q_assign rfl (hF.eval rfl)) fun a hF => ?_
    refine wl_nil ?_
    refine k_n ?_
    refine wp_block ?_
    have hO := hO.pull 1 rfl
    have hO := hO.pull 2 rfl
    have hO := hO.pull 6 rfl
    have hO := hO.pull 6 rfl
    have hO := hO.pull 6 rfl
    have hO := hO.pull 6 rfl
    have hO : St _ _ _ [_, _, _, _, _, _, _] := hO
    refine wp_loopS (fun (q : Nat × Hp × Value × List Int × Value × List (Hdr × List Int) × Value) a w' => match q with | (i, h, vr, all, va, rows, vt) => (AI h all (rows.map (·.2)) ∧ AG h i ∧ all.length = i ∧ i ≤ l.length ∧ i ≤ 100) ∧ St w0 [] w' [.ob bh 77 (hpC vw vh vr h), slT vw 27 wordE h.words, slT vh 84 headE h.heads, slT vr 3 intE h.rem, slT va 3 intE all, slT vt 36 hrE rows, Ent.grp (rows.map (rowE 3))] ∧ Fr a 229 [(0, vl), (1, v2), (5, ptr (adr bh)), (7, va), (8, vt), (9, i64 i)]) (fun (q : Nat × Hp × Value × List Int × Value × List (Hdr × List Int) × Value) => match q with | (i, h, vr, all, va, rows, vt) => l.length - i) (0, newH 4096 4096, vr, [], _, [], _) ⟨⟨ai_new.1, ai_new.2, rfl, by omega, by omega⟩, hO, hF.sub ⟨rfl, rfl, rfl, rfl, rfl, rfl, trivial⟩⟩ ?_
    rintro ⟨i, h, vr, all, va, rows, vt⟩ a w ⟨⟨hC, hG, hal, hil, hi1⟩, hO, hF⟩
    have hrn : rows.length = i := by have := hC.len; rw [List.length_map] at this; omega
    refine wp_seq ?_
    refine wp_seq ?_
    refine wp_region_lit ?_
    refine wl_v hF rfl rfl rfl (q_move rfl (hF.eval rfl)) fun a hF => ?_
    refine wl_v hF rfl rfl rfl (q_move rfl (hF.eval rfl)) fun a hF => ?_
    refine wl_v hF rfl rfl rfl (q_lenRd hR Try.underlying34 rfl (hF.eval rfl)) fun a hF => ?_
    refine wl_v hF rfl rfl rfl (q_lt rfl (hF.eval rfl) (hF.eval rfl)) fun a hF => ?_
    refine wl_v hF rfl rfl rfl (q_move rfl (hF.eval rfl)) fun a hF => ?_
    refine wl_g hF rfl rfl rfl rfl rfl rfl (fun hg => q_move rfl (hF.eval rfl)) fun a hF => ?_
    refine wl_g hF rfl rfl rfl rfl rfl rfl (fun hg => q_lt rfl ((hF.eval rfl).trans (gv_of hg)) (hF.eval rfl)) fun a hF => ?_
    refine wl_v hF rfl rfl rfl (q_and rfl (hF.eval rfl) rfl (fun hg2 => ((hF.eval rfl).trans (gv_of hg2))) rfl) fun a hF => ?_
    refine wl_nil ?_
    refine k_n ?_
    refine wp_ifD hF rfl rfl (fun hc2 => ?_) (fun hc2 => ?_)
    · skip
      have hi : i < 100 := by omega
      obtain ⟨x, hx⟩ := get_ex (l := l) (i := i) (by omega)
      have hxf := hQ x (List.mem_of_getElem? hx)
      have hxl := RdT.lenle hxf
      refine wp_skip ?_
      refine k_n ?_
      refine wp_seq ?_
      refine wp_block ?_
      refine wp_seq ?_
      refine wp_region_lit ?_
      refine wl_v hF rfl rfl rfl (q_assign rfl (hF.eval rfl)) fun a hF => ?_
      have hO := hO.nilSl 27 2
      refine wl_nil ?_
      refine k_n ?_
      refine wp_seq ?_
      refine wp_seq ?_
      refine wp_region_lit ?_
      refine wl_v hF rfl rfl rfl (q_assign rfl (hF.eval rfl)) fun a hF => ?_
      refine wl_nil ?_
      refine k_n ?_
      refine wp_block ?_
      have hO := hO.pull 7 rfl
      have hO := hO.pull 7 rfl
      have hO := hO.pull 7 rfl
      have hO := hO.pull 7 rfl
      have hO := hO.pull 7 rfl
      have hO := hO.pull 7 rfl
      have hO := hO.pull 7 rfl
      have hO : St _ _ _ [_, _, _, _, _, _, _, _] := hO
      refine wp_loopS (fun (q : Nat × Value) a w' => match q with | (k, vf) => (k ≤ x.2.length ∧ k ≤ 20) ∧ St w0 [] w' [.ob bh 77 (hpC vw vh vr h), slT vw 27 wordE h.words, slT vh 84 headE h.heads, slT vr 3 intE h.rem, slT va 3 intE all, slT vt 36 hrE rows, Ent.grp (rows.map (rowE 3)), slT vf 27 wordE ((x.2.take k).map nW)] ∧ Fr a 229 [(0, vl), (1, v2), (5, ptr (adr bh)), (7, va), (8, vt), (9, i64 i), (10, vf), (11, i64 k)]) (fun (q : Nat × Value) => match q with | (k, vf) => x.2.length - k) (0, _) ⟨⟨by omega, by omega⟩, hO, hF.sub ⟨rfl, rfl, rfl, rfl, rfl, rfl, rfl, rfl, trivial⟩⟩ ?_
      rintro ⟨k, vf⟩ a w ⟨⟨hk, hk2⟩, hO, hF⟩
      refine wp_seq ?_
      refine wp_seq ?_
      refine wp_region_lit ?_
      refine wl_v hF rfl rfl rfl (q_move rfl (hF.eval rfl)) fun a hF => ?_
      refine wl_v hF rfl rfl rfl (q_move rfl (hF.eval rfl)) fun a hF => ?_
      refine wl_v hF rfl rfl rfl (q_move rfl (hF.eval rfl)) fun a hF => ?_
      refine wl_v hF rfl rfl rfl (q_at (i := i) hR Try.underlying34 Try.sizeOf36 rfl (hF.eval rfl) (hF.eval rfl) (by omega)) fun a hF => ?_
      refine wl_v hF rfl rfl rfl (q_load Try.isAgg36 rfl (hF.eval rfl) (RdT.cell0 (hR.now hO) hx rfl)) fun a hF => ?_
      refine wl_v hF rfl rfl rfl (q_lenRd hxf Try.underlying36 rfl (hF.eval rfl)) fun a hF => ?_
      refine wl_v hF rfl rfl rfl (q_lt rfl (hF.eval rfl) (hF.eval rfl)) fun a hF => ?_
      refine wl_v hF rfl rfl rfl (q_move rfl (hF.eval rfl)) fun a hF => ?_
      refine wl_g hF rfl rfl rfl rfl rfl rfl (fun hg => q_move rfl (hF.eval rfl)) fun a hF => ?_
      refine wl_g hF rfl rfl rfl rfl rfl rfl (fun hg => q_lt rfl ((hF.eval rfl).trans (gv_of hg)) (hF.eval rfl)) fun a hF => ?_
      refine wl_v hF rfl rfl rfl (q_and rfl (hF.eval rfl) rfl (fun hg2 => ((hF.eval rfl).trans (gv_of hg2))) rfl) fun a hF => ?_
      refine wl_nil ?_
      refine k_n ?_
      refine wp_ifD hF rfl rfl (fun hc3 => ?_) (fun hc3 => ?_)
      · skip
        refine wp_skip ?_
        refine k_n ?_
        refine wp_seq ?_
        refine wp_block ?_
        refine wp_region_lit ?_
        refine wl_v hF rfl rfl rfl (q_move rfl (hF.eval rfl)) fun a hF => ?_
        refine wl_v hF rfl rfl rfl (q_move rfl (hF.eval rfl)) fun a hF => ?_
        refine wl_v hF rfl rfl rfl (q_move rfl (hF.eval rfl)) fun a hF => ?_
        refine wl_v hF rfl rfl rfl (q_at (i := i) hR Try.underlying34 Try.sizeOf36 rfl (hF.eval rfl) (hF.eval rfl) (by omega)) fun a hF => ?_
        refine wl_v hF rfl rfl rfl (q_load Try.isAgg36 rfl (hF.eval rfl) (RdT.cell0 (hR.now hO) hx rfl)) fun a hF => ?_
        refine wl_v hF rfl rfl rfl (q_move rfl (hF.eval rfl)) fun a hF => ?_
        obtain ⟨y, hy⟩ := get_ex (l := x.2) (i := k) (by omega)
        refine wl_v hF rfl rfl rfl (q_at (i := k) hxf Try.underlying36 Try.sizeOf3 rfl (hF.eval rfl) (hF.eval rfl) (by omega)) fun a hF => ?_
        refine wl_v hF rfl rfl rfl (q_load Try.isAgg3 rfl (hF.eval rfl) (RdT.cell0 (hxf.now hO) hy rfl)) fun a hF => ?_
        refine wl_v hF rfl rfl rfl (c_build hF Try.underlying27 Try.zeroValue27 Try_places27 rfl rfl rfl rfl) fun a hF => ?_
        refine wl_e hF rfl rfl rfl (c_buildSlice hF hO Try.underlying37 Try.sizeOf27 Try.zeroValue27 rfl rfl rfl rfl rfl rfl rfl) ?_
        rintro a _ w ⟨b1, rfl, hO⟩ hF
        refine wl_e hF rfl rfl rfl (e_appendT (bytes := 16) (r := [nW y]) hO (i := 8) rfl (hO.rd 0 rfl) Try.underlying37 Try_info27 rfl rfl rfl rfl rfl rfl (hF.eval rfl) (hF.eval rfl) (by show (List.length (List.map _ _) + 1) * 16 ≤ _; rw [List.length_map, List.length_take]; omega) (by show List.length (List.map _ _) + 1 ≤ _; rw [List.length_map, List.length_take]; omega)) ?_
        rintro a v67 w hO hF
        have hO : St _ _ _ [_, _, _, _, _, _, _, _, _] := hO
        refine wl_v hF rfl rfl rfl (q_assign rfl (hF.eval rfl)) fun a hF => ?_
        refine wl_nil ?_
        refine b_n ?_
        refine k_n ?_
        refine wp_region_lit ?_
        refine wl_v hF rfl rfl rfl (q_move rfl (hF.eval rfl)) fun a hF => ?_
        refine wl_v hF rfl rfl rfl (q_add rfl (hF.eval rfl) (hF.eval rfl) (by omega)) fun a hF => ?_
        refine wl_v hF rfl rfl rfl (q_assign rfl (hF.eval rfl)) fun a hF => ?_
        refine wl_nil ?_
        refine k_n ?_
        have hO := hO.drop1 0
        have hO : St _ _ _ [_, _, _, _, _, _, _, _] := hO
        rw [show (x.2.take k).map nW ++ [nW y] = (x.2.take (k + 1)).map nW by rw [takeAt hy, List.map_append]; rfl] at hO
        exact ⟨(k + 1, _), ⟨⟨by omega, by omega⟩, hO, hF.sub ⟨rfl, rfl, rfl, rfl, rfl, rfl, rfl, rfl, trivial⟩⟩, by dsimp only; omega⟩
      · skip
        have hrow : (x.2.take k).length ≤ 20 := by rw [List.length_take]; omega
        have hfl : ((x.2.take k).map nW).length = (x.2.take k).length := List.length_map ..
        refine wp_exit ?_
        refine k_x ?_
        refine k_x ?_
        refine b_x ?_
        refine k_n ?_
        refine wp_seq ?_
        refine wp_region_lit ?_
        refine wl_v hF rfl rfl rfl (q_move rfl (hF.eval rfl)) fun a hF => ?_
        refine wl_v hF rfl rfl rfl (q_move rfl (hF.eval rfl)) fun a hF => ?_
        refine wl_v hF rfl rfl rfl (q_move rfl (hF.eval rfl)) fun a hF => ?_
        have hO := hO.pull 3 rfl
        have hO := hO.pull 3 rfl
        have hO := hO.pull 3 rfl
        have hO := hO.pull 3 rfl
        have hO : St _ _ _ [_, _, _, _, _, _, _, _] := hO
        refine wl_e hF rfl rfl rfl (c_call hF rfl rfl Try.call12 (alloc_r _ _ _ _ _ _ hO.own4 hC.sep.wf (by rw [hC.rem]; decide) _ _ _ ((x.2.take k).map nW) (hO.rdT4 3 rfl))) ?_
        rintro a _ w ⟨vr, r1, h1, hl1, rfl, hS⟩ hF
        have hO := hO.call4 hS
        have hO : St _ _ _ [_, _, _, _, _, _, _, _] := hO
        obtain ⟨e1, hC1, ⟨A1, hA1, o1⟩, gy1, ga1, gu1, gv1, gw1⟩ := hC.lay (r := 0) hG (by omega) (by decide) hi hrow
        obtain ⟨hr1, hh1⟩ := Prod.mk.inj (e1.symm.trans hl1)
        rw [hh1] at hC1 o1 gy1 ga1 gu1 gv1 gw1
        rw [hA1] at hr1
        subst hr1
        have hG1 : AG h1 (i + 1) := ⟨gy1, by rw [if_pos rfl] at gv1; have := hG.y2; omega, ga1, by rw [if_neg (by decide)] at gw1; have := hG.a2; omega, gu1⟩
        refine wl_v hF rfl rfl rfl (q_move rfl (hF.eval rfl)) fun a hF => ?_
        refine wl_v hF rfl rfl rfl (q_extract rfl (hF.eval rfl) rfl) fun a hF => ?_
        refine wl_v hF rfl rfl rfl (q_extract rfl (hF.eval rfl) rfl) fun a hF => ?_
        refine wl_v hF rfl rfl rfl (q_assign rfl (hF.eval rfl)) fun a hF => ?_
        refine wl_v hF rfl rfl rfl (q_assign rfl (hF.eval rfl)) fun a hF => ?_
        refine wl_nil ?_
        refine k_n ?_
        refine wp_seqJ (fun (q : Hp × Value × Nat) a w' => match q with | (h2, vr2, A2) => (AI h2 all (rows.map (·.2)) ∧ AG h2 (i + 1) ∧ ObjAt h2 A2 1 i ((x.2.take k).map nW)) ∧ St w0 [] w' [.ob bh 77 (hpC vw vh vr2 h2), slT vw 27 wordE h2.words, slT vh 84 headE h2.heads, slT vr2 3 intE h2.rem, slT va 3 intE all, slT vt 36 hrE rows, Ent.grp (rows.map (rowE 3)), slT vf 27 wordE ((x.2.take k).map nW)] ∧ Fr a 229 [(0, vl), (1, v2), (5, ptr (adr bh)), (7, va), (8, vt), (9, i64 i), (10, vf), (12, i64 (A2 : Int)), (13, i64 0)]) ?_ ?_
        · skip
          refine wp_seq ?_
          refine wp_region_lit ?_
          refine wl_v hF rfl rfl rfl (q_move rfl (hF.eval rfl)) fun a hF => ?_
          refine wl_v hF rfl rfl rfl (q_rem rfl (hF.eval rfl) (hF.eval rfl) (by decide)) fun a hF => ?_
          refine wl_v hF rfl rfl rfl (q_eq rfl (hF.eval rfl) (hF.eval rfl)) fun a hF => ?_
          refine wl_nil ?_
          refine k_n ?_
          refine wp_ifD hF rfl rfl (fun hc4 => ?_) (fun hc4 => ?_)
          · skip
            refine wp_region_lit ?_
            refine wl_v hF rfl rfl rfl (q_move rfl (hF.eval rfl)) fun a hF => ?_
            refine wl_v hF rfl rfl rfl (q_move rfl (hF.eval rfl)) fun a hF => ?_
            refine wl_v hF rfl rfl rfl (q_move rfl (hF.eval rfl)) fun a hF => ?_
            have hO := hO.pull 3 rfl
            have hO := hO.pull 3 rfl
            have hO := hO.pull 3 rfl
            have hO := hO.pull 3 rfl
            have hO : St _ _ _ [_, _, _, _, _, _, _, _] := hO
            refine wl_e hF rfl rfl rfl (c_call hF rfl rfl Try.call16 (keep_r _ _ _ _ _ _ hO.own4 hC1.sep.wf (by rw [hC1.rem]; decide) _ _ _ ((x.2.take k).map nW) (hO.rdT4 3 rfl))) ?_
            rintro a _ w ⟨vr, r2, h2, hl2, rfl, hS⟩ hF
            have hO := hO.call4 hS
            have hO : St _ _ _ [_, _, _, _, _, _, _, _] := hO
            rw [hG1.use] at hl2
            obtain ⟨e2, hC2, ⟨A2, hA2, o2⟩, gy2, ga2, gu2, gv2, gw2⟩ := hC1.lay (r := 1) hG1 (by omega) (by decide) hi hrow
            obtain ⟨hr2, hh2⟩ := Prod.mk.inj (e2.symm.trans hl2)
            rw [hh2] at hC2 o2 gy2 ga2 gu2 gv2 gw2
            rw [hA2] at hr2
            subst hr2
            have hGy := hG.y2
            have hGa := hG.a2
            rw [if_pos rfl] at gv1
            rw [if_neg (by decide)] at gw1
            refine wl_v hF rfl rfl rfl (q_move rfl (hF.eval rfl)) fun a hF => ?_
            refine wl_v hF rfl rfl rfl (q_extract rfl (hF.eval rfl) rfl) fun a hF => ?_
            refine wl_v hF rfl rfl rfl (q_extract rfl (hF.eval rfl) rfl) fun a hF => ?_
            refine wl_v hF rfl rfl rfl (q_assign rfl (hF.eval rfl)) fun a hF => ?_
            refine wl_v hF rfl rfl rfl (q_assign rfl (hF.eval rfl)) fun a hF => ?_
            refine wl_nil ?_
            refine k_n ?_
            have hO : St _ _ _ [_, _, _, _, _, _, _, _] := hO
            exact ⟨(h2, vr, A2), ⟨⟨hC2, ⟨gy2, by rw [if_neg (by decide)] at gv2; omega, ga2, by rw [if_pos rfl] at gw2; omega, gu2⟩, o2⟩, hO, hF.sub ⟨rfl, rfl, rfl, rfl, rfl, rfl, rfl, rfl, rfl, trivial⟩⟩⟩
          · skip
            refine wp_skip ?_
            refine k_n ?_
            have hO : St _ _ _ [_, _, _, _, _, _, _, _] := hO
            exact ⟨(h1, vr, A1), ⟨⟨hC1, hG1, o1⟩, hO, hF.sub ⟨rfl, rfl, rfl, rfl, rfl, rfl, rfl, rfl, rfl, trivial⟩⟩⟩
        · skip
          rintro ⟨h2, vr2, A2⟩ a w ⟨⟨hC2, hG2, o2⟩, hO, hF⟩
          refine wp_seq ?_
          refine wp_seq ?_
          refine wp_region_lit ?_
          refine wl_v hF rfl rfl rfl (q_move rfl (hF.eval rfl)) fun a hF => ?_
          refine wl_v hF rfl rfl rfl (q_ne rfl (hF.eval rfl) (hF.eval rfl)) fun a hF => ?_
          refine wl_nil ?_
          refine k_n ?_
          refine wp_ifD hF rfl rfl (fun hc5 => ?_) (fun hc5 => ?_)
          · skip
            exact absurd hc5 (by simp)
          · skip
            refine wp_skip ?_
            refine k_n ?_
            refine wp_seq ?_
            refine wp_region_lit ?_
            refine wl_v hF rfl rfl rfl (q_move rfl (hF.eval rfl)) fun a hF => ?_
            refine wl_v hF rfl rfl rfl (q_move rfl (hF.eval rfl)) fun a hF => ?_
            refine wl_e hF rfl rfl rfl (c_buildSlice hF hO Try.underlying36 Try.sizeOf3 Try.zeroValue3 rfl rfl rfl rfl rfl rfl rfl) ?_
            rintro a _ w ⟨b2, rfl, hO⟩ hF
            refine wl_e hF rfl rfl rfl (e_appendT (bytes := 8) (r := [(A2 : Int)]) hO (i := 5) rfl (hO.rd 0 rfl) Try.underlying36 Try_info3 rfl rfl rfl rfl rfl rfl (hF.eval rfl) (hF.eval rfl) (by show (List.length _ + 1) * 8 ≤ _; omega) (by show List.length _ + 1 ≤ _; omega)) ?_
            rintro a va2 w hO hF
            have hO : St _ _ _ [_, _, _, _, _, _, _, _, _] := hO
            refine wl_v hF rfl rfl rfl (q_assign rfl (hF.eval rfl)) fun a hF => ?_
            refine wl_nil ?_
            refine k_n ?_
            refine wp_seq ?_
            refine wp_region_lit ?_
            refine wl_v hF rfl rfl rfl (q_assign rfl (hF.eval rfl)) fun a hF => ?_
            have hO := hO.nilSl 3 1
            refine wl_nil ?_
            refine k_n ?_
            refine wp_seq ?_
            refine wp_seq ?_
            refine wp_region_lit ?_
            refine wl_v hF rfl rfl rfl (q_assign rfl (hF.eval rfl)) fun a hF => ?_
            refine wl_nil ?_
            refine k_n ?_
            refine wp_block ?_
            have hO := hO.drop1 1
            have hO := hO.pull 8 rfl
            have hO := hO.pull 8 rfl
            have hO := hO.pull 8 rfl
            have hO := hO.pull 8 rfl
            have hO := hO.pull 8 rfl
            have hO := hO.pull 8 rfl
            have hO := hO.pull 8 rfl
            have hO := hO.pull 8 rfl
            have hO : St _ _ _ [_, _, _, _, _, _, _, _, _] := hO
            refine wp_loopS (fun (q : Nat × Value) a w' => match q with | (j, vo) => (j ≤ ((x.2.take k).map nW).length) ∧ St w0 [] w' [.ob bh 77 (hpC vw vh vr2 h2), slT vw 27 wordE h2.words, slT vh 84 headE h2.heads, slT vr2 3 intE h2.rem, slT (va2) 3 intE (all ++ [(A2 : Int)]), slT vt 36 hrE rows, Ent.grp (rows.map (rowE 3)), slT vf 27 wordE ((x.2.take k).map nW), slT vo 3 intE ((((x.2.take k).map nW).take j).map (·.n))] ∧ Fr a 229 [(0, vl), (1, v2), (5, ptr (adr bh)), (7, va2), (8, vt), (9, i64 i), (10, vf), (14, vo), (15, i64 j)]) (fun (q : Nat × Value) => match q with | (j, vo) => ((x.2.take k).map nW).length - j) (0, _) ⟨by omega, hO, hF.sub ⟨rfl, rfl, rfl, rfl, rfl, rfl, rfl, rfl, rfl, trivial⟩⟩ ?_
            rintro ⟨j, vo⟩ a w ⟨hj, hO, hF⟩
            refine wp_seq ?_
            refine wp_seq ?_
            refine wp_region_lit ?_
            refine wl_v hF rfl rfl rfl (q_move rfl (hF.eval rfl)) fun a hF => ?_
            refine wl_v hF rfl rfl rfl (q_move rfl (hF.eval rfl)) fun a hF => ?_
            refine wl_v hF rfl rfl rfl (q_lenRd (hO.rd 7 rfl) Try.underlying37 rfl (hF.eval rfl)) fun a hF => ?_
            refine wl_v hF rfl rfl rfl (q_lt rfl (hF.eval rfl) (hF.eval rfl)) fun a hF => ?_
            refine wl_nil ?_
            refine k_n ?_
            refine wp_ifD hF rfl rfl (fun hc6 => ?_) (fun hc6 => ?_)
            · skip
              refine wp_skip ?_
              refine k_n ?_
              refine wp_seq ?_
              refine wp_block ?_
              refine wp_region_lit ?_
              refine wl_v hF rfl rfl rfl (q_move rfl (hF.eval rfl)) fun a hF => ?_
              refine wl_v hF rfl rfl rfl (q_move rfl (hF.eval rfl)) fun a hF => ?_
              refine wl_v hF rfl rfl rfl (q_move rfl (hF.eval rfl)) fun a hF => ?_
              obtain ⟨y, hy⟩ := get_ex (l := ((x.2.take k).map nW)) (i := j) (by omega)
              refine wl_v hF rfl rfl rfl (q_at (i := j) (hO.rd 7 rfl) Try.underlying37 Try.sizeOf27 rfl (hF.eval rfl) (hF.eval rfl) (by omega)) fun a hF => ?_
              refine wl_v hF rfl rfl rfl (q_fieldAddr0 (d := 1) Try.underlying27 rfl (hF.eval rfl) rfl Try.sizeOf3 (by decide) rfl) fun a hF => ?_
              refine wl_v hF rfl rfl rfl (q_load Try.isAgg3 rfl (hF.eval rfl) (RdT.cells (hO.rdT 7 rfl) hy _ _ rfl)) fun a hF => ?_
              refine wl_e hF rfl rfl rfl (c_buildSlice hF hO Try.underlying36 Try.sizeOf3 Try.zeroValue3 rfl rfl rfl rfl rfl rfl rfl) ?_
              rintro a _ w ⟨b3, rfl, hO⟩ hF
              refine wl_e hF rfl rfl rfl (e_appendT (bytes := 8) (r := [y.n]) hO (i := 9) rfl (hO.rd 0 rfl) Try.underlying36 Try_info3 rfl rfl rfl rfl rfl rfl (hF.eval rfl) (hF.eval rfl) (by show (List.length (List.map _ _) + 1) * 8 ≤ _; rw [List.length_map, List.length_take]; omega) (by show List.length (List.map _ _) + 1 ≤ _; rw [List.length_map, List.length_take]; omega)) ?_
              rintro a v104 w hO hF
              have hO : St _ _ _ [_, _, _, _, _, _, _, _, _, _] := hO
              refine wl_v hF rfl rfl rfl (q_assign rfl (hF.eval rfl)) fun a hF => ?_
              refine wl_nil ?_
              refine b_n ?_
              refine k_n ?_
              refine wp_region_lit ?_
              refine wl_v hF rfl rfl rfl (q_move rfl (hF.eval rfl)) fun a hF => ?_
              refine wl_v hF rfl rfl rfl (q_add rfl (hF.eval rfl) (hF.eval rfl) (by omega)) fun a hF => ?_
              refine wl_v hF rfl rfl rfl (q_assign rfl (hF.eval rfl)) fun a hF => ?_
              refine wl_nil ?_
              refine k_n ?_
              have hO := hO.drop1 0
              have hO : St _ _ _ [_, _, _, _, _, _, _, _, _] := hO
              rw [show (((x.2.take k).map nW).take j).map (·.n) ++ [y.n] = (((x.2.take k).map nW).take (j + 1)).map (·.n) by rw [takeAt hy, List.map_append]; rfl] at hO
              exact ⟨(j + 1, _), ⟨by omega, hO, hF.sub ⟨rfl, rfl, rfl, rfl, rfl, rfl, rfl, rfl, rfl, trivial⟩⟩, by dsimp only; omega⟩
            · skip
              refine wp_exit ?_
              refine k_x ?_
              refine k_x ?_
              refine b_x ?_
              refine k_n ?_
              refine wp_region_lit ?_
              obtain rfl : j = ((x.2.take k).map nW).length := by omega
              rw [List.take_length, nW_n] at hO
              obtain ⟨q, rfl⟩ := Rd.hdr (hO.rd 8 rfl)
              refine wl_v hF rfl rfl rfl (q_move rfl (hF.eval rfl)) fun a hF => ?_
              refine wl_v hF rfl rfl rfl (q_move rfl (hF.eval rfl)) fun a hF => ?_
              refine wl_e hF rfl rfl rfl (c_buildSlice hF hO Try.underlying34 Try.sizeOf36 Try.zeroValue36 rfl rfl rfl rfl rfl rfl rfl) ?_
              rintro a _ w ⟨b4, rfl, hO⟩ hF
              refine wl_e hF rfl rfl rfl (e_appendT (bytes := 24) (r := [(q, x.2.take k)]) hO (i := 6) rfl (hO.rd 0 rfl) Try.underlying34 Try_info36 rfl rfl rfl rfl rfl rfl (hF.eval rfl) (hF.eval rfl) (by show (List.length rows + 1) * 24 ≤ _; omega) (by show List.length rows + 1 ≤ _; omega)) ?_
              rintro a v108 w hO hF
              have hO : St _ _ _ [_, _, _, _, _, _, _, _, _, _] := hO
              have hO := hO.pull 9 rfl
              have hO := hO.into 7 rfl
              have hO : St _ _ _ [_, _, _, _, _, _, _, _, _] := hO
              rw [show rows.map (rowE 3) ++ [_] = (rows ++ [(q, x.2.take k)]).map (rowE 3) by rw [List.map_append]; rfl] at hO
              refine wl_v hF rfl rfl rfl (q_assign rfl (hF.eval rfl)) fun a hF => ?_
              refine wl_nil ?_
              refine b_n ?_
              refine k_n ?_
              refine wp_region_lit ?_
              refine wl_v hF rfl rfl rfl (q_move rfl (hF.eval rfl)) fun a hF => ?_
              refine wl_v hF rfl rfl rfl (q_add rfl (hF.eval rfl) (hF.eval rfl) (by omega)) fun a hF => ?_
              refine wl_v hF rfl rfl rfl (q_assign rfl (hF.eval rfl)) fun a hF => ?_
              refine wl_nil ?_
              refine k_n ?_
              have hO := hO.drop1 0
              have hO := hO.drop1 7
              have hO : St _ _ _ [_, _, _, _, _, _, _] := hO
              exact ⟨(i + 1, h2, vr2, all ++ [(A2 : Int)], _, rows ++ [(q, x.2.take k)], _), ⟨⟨by rw [List.map_append]; exact hC2.on (hal ▸ o2), hG2, by rw [List.length_append, hal]; rfl, by omega, by omega⟩, hO, hF.sub ⟨rfl, rfl, rfl, rfl, rfl, rfl, trivial⟩⟩, by dsimp only; omega⟩
    · skip
      refine wp_exit ?_
      refine k_x ?_
      refine k_x ?_
      refine b_x ?_
      refine k_n ?_
      refine wp_seq ?_
      refine wp_seq ?_
      refine wp_region_lit ?_
      refine wl_v hF rfl rfl rfl (q_assign rfl (hF.eval rfl)) fun a hF => ?_
      refine wl_nil ?_
      refine k_n ?_
      refine wp_block ?_
      have hO : St _ _ _ [_, _, _, _, _, _, _] := hO
      refine wp_loopS (fun (q : Nat × Hp × Value × List (Hdr × List Int)) a w' => match q with | (i, h, vr, rows) => (AI h all (rows.map (·.2)) ∧ i ≤ sets.length) ∧ St w0 [] w' [.ob bh 77 (hpC vw vh vr h), slT vw 27 wordE h.words, slT vh 84 headE h.heads, slT vr 3 intE h.rem, slT va 3 intE all, slT vt 36 hrE rows, Ent.grp (rows.map (rowE 3))] ∧ Fr a 229 [(1, v2), (5, ptr (adr bh)), (7, va), (8, vt), (16, i64 i)]) (fun (q : Nat × Hp × Value × List (Hdr × List Int)) => match q with | (i, h, vr, rows) => sets.length - i) (0, _, _, _) ⟨⟨hC, by omega⟩, hO, hF.sub ⟨rfl, rfl, rfl, rfl, rfl, trivial⟩⟩ ?_
      rintro ⟨i, h, vr, rows⟩ a w ⟨⟨hC, hil⟩, hO, hF⟩
      refine wp_seq ?_
      refine wp_seq ?_
      refine wp_region_lit ?_
      refine wl_v hF rfl rfl rfl (q_move rfl (hF.eval rfl)) fun a hF => ?_
      refine wl_v hF rfl rfl rfl (q_move rfl (hF.eval rfl)) fun a hF => ?_
      refine wl_v hF rfl rfl rfl (q_lenRd hR2 Try.underlying35 rfl (hF.eval rfl)) fun a hF => ?_
      refine wl_v hF rfl rfl rfl (q_lt rfl (hF.eval rfl) (hF.eval rfl)) fun a hF => ?_
      refine wl_v hF rfl rfl rfl (q_move rfl (hF.eval rfl)) fun a hF => ?_
      refine wl_g hF rfl rfl rfl rfl rfl rfl (fun hg => q_move rfl (hF.eval rfl)) fun a hF => ?_
      refine wl_g hF rfl rfl rfl rfl rfl rfl (fun hg => q_lenRd (hO.rd 4 rfl) Try.underlying36 rfl ((hF.eval rfl).trans (gv_of hg))) fun a hF => ?_
      refine wl_g hF rfl rfl rfl rfl rfl rfl (fun hg => q_gt rfl ((hF.eval rfl).trans (gv_of hg)) (hF.eval rfl)) fun a hF => ?_
      refine wl_v hF rfl rfl rfl (q_and rfl (hF.eval rfl) rfl (fun hg2 => ((hF.eval rfl).trans (gv_of hg2))) rfl) fun a hF => ?_
      refine wl_nil ?_
      refine k_n ?_
      refine wp_ifD hF rfl rfl (fun hc7 => ?_) (fun hc7 => ?_)
      · skip
        refine wp_skip ?_
        refine k_n ?_
        refine wp_seq ?_
        refine wp_block ?_
        refine wp_seq ?_
        refine wp_region_lit ?_
        refine wl_v hF rfl rfl rfl (q_move rfl (hF.eval rfl)) fun a hF => ?_
        refine wl_v hF rfl rfl rfl (q_move rfl (hF.eval rfl)) fun a hF => ?_
        obtain ⟨x, hx⟩ := get_ex (l := sets) (i := i) (by omega)
        refine wl_v hF rfl rfl rfl (q_at (i := i) hR2 Try.underlying35 Try.sizeOf39 rfl (hF.eval rfl) (hF.eval rfl) (by omega)) fun a hF => ?_
        refine wl_v hF rfl rfl rfl (q_fieldAddr0 (d := 5) Try.underlying39 rfl (hF.eval rfl) rfl Try.sizeOf3 (by decide) rfl) fun a hF => ?_
        refine wl_v hF rfl rfl rfl (q_load Try.isAgg3 rfl (hF.eval rfl) (RdT.cells (hR2.now hO) hx _ _ rfl)) fun a hF => ?_
        have htm := tmod_in (n := x.at_) (len := (all.length : Int)) (by omega)
        have hsk := sK_in (a := x.at_) (len := (all.length : Int)) (by omega)
        have halb := RdT.lenle (hO.rdT 4 rfl)
        obtain ⟨a, ha⟩ := get_ex (l := all) (i := (sK x.at_ (all.length : Int)).toNat) (by omega)
        obtain ⟨p, hp⟩ := get_ex (l := rows) (i := (sK x.at_ (all.length : Int)).toNat) (by have := hC.len; rw [List.length_map] at this; omega)
        have hrw : (rows.map (·.2))[(sK x.at_ (all.length : Int)).toNat]? = some p.2 := by rw [List.getElem?_map, hp]; rfl
        refine wl_v hF rfl rfl rfl (q_move rfl (hF.eval rfl)) fun a hF => ?_
        refine wl_v hF rfl rfl rfl (q_lenRd (hO.rd 4 rfl) Try.underlying36 rfl (hF.eval rfl)) fun a hF => ?_
        refine wl_v hF rfl rfl rfl (q_rem rfl (hF.eval rfl) (hF.eval rfl) (by omega)) fun a hF => ?_
        refine wl_v hF rfl rfl rfl (q_move rfl (hF.eval rfl)) fun a hF => ?_
        refine wl_v hF rfl rfl rfl (q_lenRd (hO.rd 4 rfl) Try.underlying36 rfl (hF.eval rfl)) fun a hF => ?_
        refine wl_v hF rfl rfl rfl (q_add rfl (hF.eval rfl) (hF.eval rfl) (by omega)) fun a hF => ?_
        refine wl_v hF rfl rfl rfl (q_move rfl (hF.eval rfl)) fun a hF => ?_
        refine wl_v hF rfl rfl rfl (q_lenRd (hO.rd 4 rfl) Try.underlying36 rfl (hF.eval rfl)) fun a hF => ?_
        refine wl_v hF rfl rfl rfl (q_rem rfl (hF.eval rfl) (hF.eval rfl) (by omega)) fun a hF => ?_
        refine wl_v hF rfl rfl rfl (q_assign rfl (hF.eval rfl)) fun a hF => ?_
        refine wl_nil ?_
        refine k_n ?_
        refine wp_seq ?_
        refine wp_region_lit ?_
        refine wl_v hF rfl rfl rfl (q_move rfl (hF.eval rfl)) fun a hF => ?_
        refine wl_v hF rfl rfl rfl (q_move rfl (hF.eval rfl)) fun a hF => ?_
        refine wl_v hF rfl rfl rfl (q_at (i := i) hR2 Try.underlying35 Try.sizeOf39 rfl (hF.eval rfl) (hF.eval rfl) (by omega)) fun a hF => ?_
        refine wl_v hF rfl rfl rfl (q_fieldAddr0 (d := 6) Try.underlying39 rfl (hF.eval rfl) rfl Try.sizeOf3 (by decide) rfl) fun a hF => ?_
        refine wl_v hF rfl rfl rfl (q_load Try.isAgg3 rfl (hF.eval rfl) (RdT.cells (hR2.now hO) hx _ _ rfl)) fun a hF => ?_
        refine wl_v hF rfl rfl rfl (q_assign rfl (hF.eval rfl)) fun a hF => ?_
        refine wl_nil ?_
        refine k_n ?_
        refine wp_seq ?_
        refine wp_region_lit ?_
        refine wl_v hF rfl rfl rfl (q_move rfl (hF.eval rfl)) fun a hF => ?_
        refine wl_v hF rfl rfl rfl (q_move rfl (hF.eval rfl)) fun a hF => ?_
        refine wl_v hF rfl rfl rfl (q_move rfl (hF.eval rfl)) fun a hF => ?_
        refine wl_v hF rfl rfl rfl (q_at (i := (sK x.at_ (all.length : Int)).toNat) (hO.rd 4 rfl) Try.underlying36 Try.sizeOf3 rfl (hF.eval rfl) ((hF.eval rfl).trans (congrArg i64 ((Int.toNat_of_nonneg (hsk.1)).symm))) (by omega)) fun a hF => ?_
        refine wl_v hF rfl rfl rfl (q_load Try.isAgg3 rfl (hF.eval rfl) (RdT.cell0 (hO.rdT 4 rfl) ha rfl)) fun a hF => ?_
        refine wl_v hF rfl rfl rfl (q_move rfl (hF.eval rfl)) fun a hF => ?_
        refine wl_v hF rfl rfl rfl (q_move rfl (hF.eval rfl)) fun a hF => ?_
        refine wl_v hF rfl rfl rfl (c_build hF Try.underlying27 Try.zeroValue27 Try_places27 rfl rfl rfl rfl) fun a hF => ?_
        have hO := hO.pull 3 rfl
        have hO := hO.pull 3 rfl
        have hO := hO.pull 3 rfl
        have hO := hO.pull 3 rfl
        have hO : St _ _ _ [_, _, _, _, _, _, _] := hO
        refine wl_e hF rfl rfl rfl (c_call hF rfl rfl Try.call17 (set_r _ _ _ _ _ _ hO.own4 hC.sep.wf (by rw [hC.rem]; decide) _ _ (nW i))) ?_
        rintro a _ w ⟨vr, rs, hs2, hset, rfl, hS⟩ hF
        have hO := hO.call4 hS
        have hO : St _ _ _ [_, _, _, _, _, _, _] := hO
        obtain ⟨hs1, hs2a, hs3⟩ := hC.set ha hrw hset
        refine wl_v hF rfl rfl rfl (q_assign rfl (hF.eval rfl)) fun a hF => ?_
        refine wl_nil ?_
        refine k_n ?_
        refine wp_seq ?_
        refine wp_seq ?_
        refine wp_region_lit ?_
        refine wl_v hF rfl rfl rfl (q_move rfl (hF.eval rfl)) fun a hF => ?_
        refine wl_v hF rfl rfl rfl (q_eq rfl (hF.eval rfl) (hF.eval rfl)) fun a hF => ?_
        refine wl_v hF rfl rfl rfl (q_move rfl (hF.eval rfl)) fun a hF => ?_
        refine wl_v hF rfl rfl rfl (q_ge rfl (hF.eval rfl) (hF.eval rfl)) fun a hF => ?_
        refine wl_v hF rfl rfl rfl (q_move rfl (hF.eval rfl)) fun a hF => ?_
        refine wl_g hF rfl rfl rfl rfl rfl rfl (fun hg => q_move rfl (hF.eval rfl)) fun a hF => ?_
        refine wl_g hF rfl rfl rfl rfl rfl rfl (fun hg => q_move rfl (hF.eval rfl)) fun a hF => ?_
        refine wl_g hF rfl rfl rfl rfl rfl rfl (fun hg => q_move rfl (hF.eval rfl)) fun a hF => ?_
        refine wl_g hF rfl rfl rfl rfl rfl rfl (fun hg => q_at (i := (sK x.at_ (all.length : Int)).toNat) (hO.rd 5 rfl) Try.underlying34 Try.sizeOf36 rfl ((hF.eval rfl).trans (gv_of hg)) (((hF.eval rfl).trans (gv_of hg)).trans (congrArg i64 ((Int.toNat_of_nonneg (hsk.1)).symm))) (by have := hC.len; rw [List.length_map] at this; omega)) fun a hF => ?_
        refine wl_g hF rfl rfl rfl rfl rfl rfl (fun hg => q_load Try.isAgg36 rfl ((hF.eval rfl).trans (gv_of hg)) (RdT.cell0 (hO.rdT 5 rfl) hp rfl)) fun a hF => ?_
        refine wl_g hF rfl rfl rfl rfl rfl rfl (fun hg => q_lenRd (hO.rdTG 6 rfl (by rw [List.getElem?_map, hp]; rfl)) Try.underlying36 rfl ((hF.eval rfl).trans (gv_of hg))) fun a hF => ?_
        refine wl_g hF rfl rfl rfl rfl rfl rfl (fun hg => q_lt rfl ((hF.eval rfl).trans (gv_of hg)) ((hF.eval rfl).trans (gv_of hg))) fun a hF => ?_
        refine wl_v hF rfl rfl rfl (q_and rfl (hF.eval rfl) rfl (fun hg2 => ((hF.eval rfl).trans (gv_of hg2))) rfl) fun a hF => ?_
        refine wl_v hF rfl rfl rfl (q_bne Try.underlying4 rfl (hF.eval rfl) (hF.eval rfl)) fun a hF => ?_
        refine wl_nil ?_
        refine k_n ?_
        refine wp_ifD hF rfl rfl (fun hc8 => ?_) (fun hc8 => ?_)
        · skip
          exact absurd (decide_eq_decide.2 hs1) hc8
        · skip
          refine wp_skip ?_
          refine k_n ?_
          refine wp_seq ?_
          refine wp_region_lit ?_
          refine wl_v hF rfl rfl rfl (q_move rfl (hF.eval rfl)) fun a hF => ?_
          refine wl_v hF rfl rfl rfl (q_eq rfl (hF.eval rfl) (hF.eval rfl)) fun a hF => ?_
          refine wl_nil ?_
          refine k_n ?_
          refine wp_ifD hF rfl rfl (fun hc9 => ?_) (fun hc9 => ?_)
          · skip
            refine wp_region_lit ?_
            refine wl_v hF rfl rfl rfl (q_move rfl (hF.eval rfl)) fun a hF => ?_
            refine wl_v hF rfl rfl rfl (q_move rfl (hF.eval rfl)) fun a hF => ?_
            refine wl_v hF rfl rfl rfl (q_at (i := (sK x.at_ (all.length : Int)).toNat) (hO.rd 5 rfl) Try.underlying34 Try.sizeOf36 rfl (hF.eval rfl) ((hF.eval rfl).trans (congrArg i64 ((Int.toNat_of_nonneg (hsk.1)).symm))) (by have := hC.len; rw [List.length_map] at this; omega)) fun a hF => ?_
            refine wl_v hF rfl rfl rfl (q_load Try.isAgg36 rfl (hF.eval rfl) (RdT.cell0 (hO.rdT 5 rfl) hp rfl)) fun a hF => ?_
            refine wl_v hF rfl rfl rfl (q_move rfl (hF.eval rfl)) fun a hF => ?_
            refine wl_v hF rfl rfl rfl (q_move rfl (hF.eval rfl)) fun a hF => ?_
            obtain ⟨hf0, hf1⟩ := hs1.1 hc9
            refine wl_v hF rfl rfl rfl (q_at (i := x.n.toNat) (hO.rdTG 6 rfl (by rw [List.getElem?_map, hp]; rfl)) Try.underlying36 Try.sizeOf3 rfl (hF.eval rfl) ((hF.eval rfl).trans (congrArg i64 ((Int.toNat_of_nonneg (hf0)).symm))) (by omega)) fun a hF => ?_
            refine wl_s hF rfl rfl (e_storeG (q := (i : Int)) (m := x.n.toNat) hO (i := 6) rfl (by rw [List.getElem?_map, hp]; rfl) fun hO hi => e_storeElT (m := x.n.toNat) (off := 0) hO hi Try.sizeOf3 rfl (hF.eval rfl) rfl (hF.eval rfl) rfl (get_D (d := 0) (by omega)) rfl (Nat.le_of_ble_eq_true rfl) rfl (all1 rfl)) ?_
            rintro a _ w ⟨-, hO⟩ hF
            have hO : St _ _ _ [_, _, _, _, _, _, _] := hO
            refine wl_nil ?_
            refine b_n ?_
            refine k_n ?_
            refine wp_region_lit ?_
            refine wl_v hF rfl rfl rfl (q_move rfl (hF.eval rfl)) fun a hF => ?_
            refine wl_v hF rfl rfl rfl (q_add rfl (hF.eval rfl) (hF.eval rfl) (by omega)) fun a hF => ?_
            refine wl_v hF rfl rfl rfl (q_assign rfl (hF.eval rfl)) fun a hF => ?_
            refine wl_nil ?_
            refine k_n ?_
            have hO : St _ _ _ [_, _, _, _, _, _, _] := hO
            rw [show (rows.map (rowE 3)).set (sK x.at_ (all.length : Int)).toNat (slT p.1.v 3 intE (p.2.set x.n.toNat i)) = (rows.set (sK x.at_ (all.length : Int)).toNat (p.1, p.2.set x.n.toNat i)).map (rowE 3) from (List.map_set (f := rowE 3) (a := (p.1, p.2.set x.n.toNat (i : Int)))).symm, hr_set hp (p.2.set x.n.toNat i)] at hO
            exact ⟨(i + 1, hs2, vr, rows.set (sK x.at_ (all.length : Int)).toNat (p.1, p.2.set x.n.toNat i)), ⟨⟨by rw [List.map_set]; exact hs2a hc9, by omega⟩, hO, hF.sub ⟨rfl, rfl, rfl, rfl, rfl, trivial⟩⟩, by dsimp only; omega⟩
          · skip
            refine wp_skip ?_
            refine b_n ?_
            refine k_n ?_
            refine wp_region_lit ?_
            refine wl_v hF rfl rfl rfl (q_move rfl (hF.eval rfl)) fun a hF => ?_
            refine wl_v hF rfl rfl rfl (q_add rfl (hF.eval rfl) (hF.eval rfl) (by omega)) fun a hF => ?_
            refine wl_v hF rfl rfl rfl (q_assign rfl (hF.eval rfl)) fun a hF => ?_
            refine wl_nil ?_
            refine k_n ?_
            have hO : St _ _ _ [_, _, _, _, _, _, _] := hO
            rw [show hs2 = h from hs3 hc9] at hO
            exact ⟨(i + 1, h, vr, rows), ⟨⟨hC, by omega⟩, hO, hF.sub ⟨rfl, rfl, rfl, rfl, rfl, trivial⟩⟩, by dsimp only; omega⟩
      · skip
        refine wp_exit ?_
        refine k_x ?_
        refine k_x ?_
        refine b_x ?_
        refine k_n ?_
        refine wp_seq ?_
        refine wp_seq ?_
        refine wp_region_lit ?_
        refine wl_v hF rfl rfl rfl (q_assign rfl (hF.eval rfl)) fun a hF => ?_
        refine wl_nil ?_
        refine k_n ?_
        refine wp_block ?_
        have hO : St _ _ _ [_, _, _, _, _, _, _] := hO
        refine wp_loopS (fun (i : Nat) a w' => (i ≤ all.length) ∧ St w0 [] w' [.ob bh 77 (hpC vw vh vr h), slT vw 27 wordE h.words, slT vh 84 headE h.heads, slT vr 3 intE h.rem, slT va 3 intE all, slT vt 36 hrE rows, Ent.grp (rows.map (rowE 3))] ∧ Fr a 229 [(5, ptr (adr bh)), (7, va), (8, vt), (20, i64 i)]) (fun (i : Nat) => all.length - i) 0 ⟨by omega, hO, hF.sub ⟨rfl, rfl, rfl, rfl, trivial⟩⟩ ?_
        rintro i a w ⟨hil, hO, hF⟩
        refine wp_seq ?_
        refine wp_seq ?_
        refine wp_region_lit ?_
        refine wl_v hF rfl rfl rfl (q_move rfl (hF.eval rfl)) fun a hF => ?_
        refine wl_v hF rfl rfl rfl (q_move rfl (hF.eval rfl)) fun a hF => ?_
        refine wl_v hF rfl rfl rfl (q_lenRd (hO.rd 4 rfl) Try.underlying36 rfl (hF.eval rfl)) fun a hF => ?_
        refine wl_v hF rfl rfl rfl (q_lt rfl (hF.eval rfl) (hF.eval rfl)) fun a hF => ?_
        refine wl_nil ?_
        refine k_n ?_
        refine wp_ifD hF rfl rfl (fun hc10 => ?_) (fun hc10 => ?_)
        · skip
          obtain ⟨p, hp⟩ := get_ex (l := rows) (i := i) (by have := hC.len; rw [List.length_map] at this; omega)
          have hpb : p.2.length ≤ 9223372036854775807 := RdT.lenle (hO.rdTG (E := intE) (t := 3) (v := p.1.v) 6 rfl (by rw [List.getElem?_map, hp]; rfl))
          refine wp_skip ?_
          refine k_n ?_
          refine wp_seq ?_
          refine wp_block ?_
          refine wp_seq ?_
          refine wp_region_lit ?_
          refine wl_v hF rfl rfl rfl (q_move rfl (hF.eval rfl)) fun a hF => ?_
          refine wl_v hF rfl rfl rfl (q_move rfl (hF.eval rfl)) fun a hF => ?_
          refine wl_v hF rfl rfl rfl (q_move rfl (hF.eval rfl)) fun a hF => ?_
          obtain ⟨a9, ha⟩ := get_ex (l := all) (i := i) (by omega)
          refine wl_v hF rfl rfl rfl (q_at (i := i) (hO.rd 4 rfl) Try.underlying36 Try.sizeOf3 rfl (hF.eval rfl) (hF.eval rfl) (by omega)) fun a hF => ?_
          refine wl_v hF rfl rfl rfl (q_load Try.isAgg3 rfl (hF.eval rfl) (RdT.cell0 (hO.rdT 4 rfl) ha rfl)) fun a hF => ?_
          refine wl_e hF rfl rfl rfl (c_call hF rfl rfl Try.call18 (object_r _ _ _ _ _ _ (hO.hr 0 1 2 3 rfl rfl rfl rfl) hC.sep.wf _)) ?_
          rintro a _ w ⟨vo, ro, hro, rfl, hS⟩ hF
          have hO := hO.call0 hS
          have hO : St _ _ _ [_, _, _, _, _, _, _, _] := hO
          obtain ⟨A, rfl, o⟩ := hC.ob i a9 p.2 ha (by rw [List.getElem?_map, hp]; rfl)
          obtain rfl : ro = (⟨1, i, p.2.map nW⟩, 0) := hro.symm.trans (o.obj hC.sep.wf)
          obtain ⟨Ao, co, rfl, _⟩ := Rd.is (hO.rd 0 rfl)
          have hpl : (p.2.map nW).length = p.2.length := List.length_map ..
          refine wl_v hF rfl rfl rfl (q_move rfl (hF.eval rfl)) fun a hF => ?_
          refine wl_v hF rfl rfl rfl (q_extract rfl (hF.eval rfl) rfl) fun a hF => ?_
          refine wl_v hF rfl rfl rfl (q_extract rfl (hF.eval rfl) rfl) fun a hF => ?_
          refine wl_e hF rfl rfl rfl (e_alloc hO Try.zeroValue42 rfl rfl) ?_
          rintro a _ w ⟨o1, rfl, hO⟩ hF
          refine wl_s hF rfl rfl (e_storeAll hO (i := 0) rfl Try.sizeOf42 rfl (hF.eval rfl) (hF.eval rfl) rfl rfl) ?_
          rintro a _ w ⟨-, hO⟩ hF
          have hO : St _ _ _ [_, _, _, _, _, _, _, _, _] := hO
          refine wl_v hF rfl rfl rfl (q_assign rfl (hF.eval rfl)) fun a hF => ?_
          refine wl_nil ?_
          refine k_n ?_
          refine wp_seq ?_
          refine wp_seq ?_
          have hO := hO.drew
          refine wp_region_D [0, 0, 0, 0, 1, 0, 0, 0, 0, 0, 1, 0, 0, 0, 0, 1, 0, 0, 0] (fun w => St _ _ w _) Try_mixed (by kernel_rfl) hO ?_
          refine wd_p hF rfl rfl rfl (fun w => q_move rfl (hF.eval rfl)) fun a hF => ?_
          refine wd_p hF rfl rfl rfl (fun w => q_ne rfl (hF.eval rfl) (hF.eval rfl)) fun a hF => ?_
          refine wd_p hF rfl rfl rfl (fun w => q_move rfl (hF.eval rfl)) fun a hF => ?_
          refine wd_gp hF rfl rfl rfl rfl rfl rfl (fun hg w => q_fieldAddr0 (d := 1) Try.underlying42 rfl (hF.eval rfl) rfl Try.sizeOf3 (by decide) rfl) fun a hF => ?_
          refine wd_gr hF rfl rfl rfl rfl rfl rfl (fun hg w hO => q_load Try.isAgg3 rfl ((hF.eval rfl).trans (gv_of hg)) (hO.cell 0 rfl rfl)) fun a hF => ?_
          refine wd_gp hF rfl rfl rfl rfl rfl rfl (fun hg w => q_move rfl (hF.eval rfl)) fun a hF => ?_
          refine wd_gp hF rfl rfl rfl rfl rfl rfl (fun hg w => q_ne rfl ((hF.eval rfl).trans (gv_of hg)) ((hF.eval rfl).trans (gv_of hg))) fun a hF => ?_
          refine wd_p hF rfl rfl rfl (fun w => q_or rfl (hF.eval rfl) rfl (fun hg2 => ((hF.eval rfl).trans (gv_of hg2))) rfl) fun a hF => ?_
          refine wd_p hF rfl rfl rfl (fun w => q_move rfl (hF.eval rfl)) fun a hF => ?_
          refine wd_gp hF rfl rfl rfl rfl rfl rfl (fun hg w => q_fieldAddr0 (d := 2) Try.underlying42 rfl (hF.eval rfl) rfl Try.sizeOf37 (by decide) rfl) fun a hF => ?_
          refine wd_gr hF rfl rfl rfl rfl rfl rfl (fun hg w hO => q_load Try.isAgg37 rfl ((hF.eval rfl).trans (gv_of hg)) (hO.cell 0 rfl rfl)) fun a hF => ?_
          refine wd_gp hF rfl rfl rfl rfl rfl rfl (fun hg w => q_lenRd (hO.rd 1 rfl) Try.underlying37 rfl ((hF.eval rfl).trans (gv_of hg))) fun a hF => ?_
          refine wd_gp hF rfl rfl rfl rfl rfl rfl (fun hg w => q_move rfl (hF.eval rfl)) fun a hF => ?_
          refine wd_gp hF rfl rfl rfl rfl rfl rfl (fun hg w => q_move rfl (hF.eval rfl)) fun a hF => ?_
          refine wd_gp hF rfl rfl rfl rfl rfl rfl (fun hg w => q_at (i := i) (hO.rd 7 rfl) Try.underlying34 Try.sizeOf36 rfl ((hF.eval rfl).trans (gv_of hg)) ((hF.eval rfl).trans (gv_of hg)) (by have := hC.len; rw [List.length_map] at this; omega)) fun a hF => ?_
          refine wd_gr hF rfl rfl rfl rfl rfl rfl (fun hg w hO => q_load Try.isAgg36 rfl ((hF.eval rfl).trans (gv_of hg)) (RdT.cell0 (hO.rdT 7 rfl) hp rfl)) fun a hF => ?_
          refine wd_gp hF rfl rfl rfl rfl rfl rfl (fun hg w => q_lenRd (hO.rdTG 8 rfl (by rw [List.getElem?_map, hp]; rfl)) Try.underlying36 rfl ((hF.eval rfl).trans (gv_of hg))) fun a hF => ?_
          refine wd_gp hF rfl rfl rfl rfl rfl rfl (fun hg w => q_ne rfl ((hF.eval rfl).trans (gv_of hg)) ((hF.eval rfl).trans (gv_of hg))) fun a hF => ?_
          refine wd_p hF rfl rfl rfl (fun w => q_or rfl (hF.eval rfl) rfl (fun hg2 => ((hF.eval rfl).trans (gv_of hg2))) rfl) fun a hF => ?_
          refine wd_nil ?_
          refine k_n ?_
          refine wp_ifD hF rfl rfl (fun hc11 => ?_) (fun hc11 => ?_)
          · skip
            exact absurd hc11 (by simp [List.length_map])
          · skip
            refine wp_skip ?_
            refine k_n ?_
            refine wp_seq ?_
            refine wp_region_lit ?_
            refine wl_v hF rfl rfl rfl (q_assign rfl (hF.eval rfl)) fun a hF => ?_
            refine wl_nil ?_
            refine k_n ?_
            refine wp_block ?_
            have hO := hO.pull 1 rfl
            have hO := hO.pull 8 rfl
            have hO := hO.pull 8 rfl
            have hO := hO.pull 8 rfl
            have hO := hO.pull 8 rfl
            have hO := hO.pull 8 rfl
            have hO := hO.pull 8 rfl
            have hO := hO.pull 8 rfl
            have hO : St _ _ _ [_, _, _, _, _, _, _, _, _] := hO
            refine wp_loopS (fun (k : Nat) a w' => (k ≤ p.2.length) ∧ St w0 [] w' [.ob bh 77 (hpC vw vh vr h), slT vw 27 wordE h.words, slT vh 84 headE h.heads, slT vr 3 intE h.rem, slT va 3 intE all, slT vt 36 hrE rows, Ent.grp (rows.map (rowE 3)), slT (.slice Ao (p.2.map nW).length co) 27 wordE (p.2.map nW), .ob o1 42 [i64 1, i64 i, .slice Ao (p.2.map nW).length co]] ∧ Fr a 229 [(5, ptr (adr bh)), (7, va), (8, vt), (20, i64 i), (21, ptr (adr o1)), (23, i64 k)]) (fun (k : Nat) => p.2.length - k) 0 ⟨by omega, hO, hF.sub ⟨rfl, rfl, rfl, rfl, rfl, rfl, trivial⟩⟩ ?_
            rintro k a w ⟨hk, hO, hF⟩
            refine wp_seq ?_
            refine wp_seq ?_
            refine wp_region_lit ?_
            refine wl_v hF rfl rfl rfl (q_move rfl (hF.eval rfl)) fun a hF => ?_
            refine wl_v hF rfl rfl rfl (q_move rfl (hF.eval rfl)) fun a hF => ?_
            refine wl_v hF rfl rfl rfl (q_move rfl (hF.eval rfl)) fun a hF => ?_
            refine wl_v hF rfl rfl rfl (q_at (i := i) (hO.rd 5 rfl) Try.underlying34 Try.sizeOf36 rfl (hF.eval rfl) (hF.eval rfl) (by have := hC.len; rw [List.length_map] at this; omega)) fun a hF => ?_
            refine wl_v hF rfl rfl rfl (q_load Try.isAgg36 rfl (hF.eval rfl) (RdT.cell0 (hO.rdT 5 rfl) hp rfl)) fun a hF => ?_
            refine wl_v hF rfl rfl rfl (q_lenRd (hO.rdTG 6 rfl (by rw [List.getElem?_map, hp]; rfl)) Try.underlying36 rfl (hF.eval rfl)) fun a hF => ?_
            refine wl_v hF rfl rfl rfl (q_lt rfl (hF.eval rfl) (hF.eval rfl)) fun a hF => ?_
            refine wl_nil ?_
            refine k_n ?_
            refine wp_ifD hF rfl rfl (fun hc12 => ?_) (fun hc12 => ?_)
            · skip
              obtain ⟨y, hy⟩ := get_ex (l := p.2) (i := k) (by omega)
              have hy2 : (p.2.map nW)[k]? = some (nW y) := by rw [List.getElem?_map, hy]; rfl
              refine wp_skip ?_
              refine k_n ?_
              refine wp_seq ?_
              refine wp_block ?_
              refine wp_seq ?_
              have hO := hO.drew
              refine wp_region_D [0, 1, 0, 0, 1, 0, 0, 0, 1, 0, 0, 1, 0, 0] (fun w => St _ _ w _) Try_mixed (by kernel_rfl) hO ?_
              refine wd_p hF rfl rfl rfl (fun w => q_fieldAddr0 (d := 2) Try.underlying42 rfl (hF.eval rfl) rfl Try.sizeOf37 (by decide) rfl) fun a hF => ?_
              refine wd_r hF rfl rfl rfl (fun w hO => q_load Try.isAgg37 rfl (hF.eval rfl) (hO.cell 8 rfl rfl)) fun a hF => ?_
              refine wd_p hF rfl rfl rfl (fun w => q_move rfl (hF.eval rfl)) fun a hF => ?_
              refine wd_p hF rfl rfl rfl (fun w => q_at (i := k) (hO.rd 7 rfl) Try.underlying37 Try.sizeOf27 rfl (hF.eval rfl) (hF.eval rfl) (by show k < (p.2.map nW).length; omega)) fun a hF => ?_
              refine wd_r hF rfl rfl rfl (fun w hO => q_loadAgg Try.isAgg27 Try.sizeOf27 rfl (hF.eval rfl) (RdT.cells (hO.rdT 7 rfl) hy2) rfl) fun a hF => ?_
              refine wd_p hF rfl rfl rfl (fun w => q_move rfl (hF.eval rfl)) fun a hF => ?_
              refine wd_p hF rfl rfl rfl (fun w => q_move rfl (hF.eval rfl)) fun a hF => ?_
              refine wd_p hF rfl rfl rfl (fun w => q_at (i := i) (hO.rd 5 rfl) Try.underlying34 Try.sizeOf36 rfl (hF.eval rfl) (hF.eval rfl) (by have := hC.len; rw [List.length_map] at this; omega)) fun a hF => ?_
              refine wd_r hF rfl rfl rfl (fun w hO => q_load Try.isAgg36 rfl (hF.eval rfl) (RdT.cell0 (hO.rdT 5 rfl) hp rfl)) fun a hF => ?_
              refine wd_p hF rfl rfl rfl (fun w => q_move rfl (hF.eval rfl)) fun a hF => ?_
              refine wd_p hF rfl rfl rfl (fun w => q_at (i := k) (hO.rdTG 6 rfl (by rw [List.getElem?_map, hp]; rfl)) Try.underlying36 Try.sizeOf3 rfl (hF.eval rfl) (hF.eval rfl) (by omega)) fun a hF => ?_
              refine wd_r hF rfl rfl rfl (fun w hO => q_load Try.isAgg3 rfl (hF.eval rfl) (RdT.cell0 (hO.rdTG 6 rfl (by rw [List.getElem?_map, hp]; rfl)) hy rfl)) fun a hF => ?_
              refine wd_p hF rfl rfl rfl (fun w => c_build hF Try.underlying27 Try.zeroValue27 Try_places27 rfl rfl rfl rfl) fun a hF => ?_
              refine wd_p hF rfl rfl rfl (fun w => q_neS Try.underlying27 Try.stoodInHeld27 Try.eqGuardType27 rfl (hF.eval rfl) (hF.eval rfl) (ef_bool (by decide) Try.isAgg4 Try.underlying4 rfl rfl (ef_int (by decide) Try.isAgg3 Try.underlying3 rfl rfl ef_nil)) (word_eq (nW y) ⟨false, y⟩)) fun a hF => ?_
              refine wd_nil ?_
              refine k_n ?_
              refine wp_ifD hF rfl rfl (fun hc13 => ?_) (fun hc13 => ?_)
              · skip
                exact absurd rfl hc13
              · skip
                refine wp_skip ?_
                refine b_n ?_
                refine k_n ?_
                refine wp_region_lit ?_
                refine wl_v hF rfl rfl rfl (q_move rfl (hF.eval rfl)) fun a hF => ?_
                refine wl_v hF rfl rfl rfl (q_add rfl (hF.eval rfl) (hF.eval rfl) (by omega)) fun a hF => ?_
                refine wl_v hF rfl rfl rfl (q_assign rfl (hF.eval rfl)) fun a hF => ?_
                refine wl_nil ?_
                refine k_n ?_
                have hO : St _ _ _ [_, _, _, _, _, _, _, _, _] := hO
                exact ⟨k + 1, ⟨by omega, hO, hF.sub ⟨rfl, rfl, rfl, rfl, rfl, rfl, trivial⟩⟩, by omega⟩
            · skip
              refine wp_exit ?_
              refine k_x ?_
              refine k_x ?_
              refine b_x ?_
              refine b_n ?_
              refine k_n ?_
              refine wp_region_lit ?_
              refine wl_v hF rfl rfl rfl (q_move rfl (hF.eval rfl)) fun a hF => ?_
              refine wl_v hF rfl rfl rfl (q_add rfl (hF.eval rfl) (hF.eval rfl) (by omega)) fun a hF => ?_
              refine wl_v hF rfl rfl rfl (q_assign rfl (hF.eval rfl)) fun a hF => ?_
              refine wl_nil ?_
              refine k_n ?_
              have hO := hO.drop1 7
              have hO := hO.drop1 7
              have hO : St _ _ _ [_, _, _, _, _, _, _] := hO
              exact ⟨i + 1, ⟨by omega, hO, hF.sub ⟨rfl, rfl, rfl, rfl, trivial⟩⟩, by omega⟩
        · skip
          refine wp_exit ?_
          refine k_x ?_
          refine k_x ?_
          refine b_x ?_
          refine k_n ?_
          refine wp_seq ?_
          refine wp_region_lit ?_
          refine wl_e hF rfl rfl rfl (c_call hF rfl rfl Try.call15 (awake_r _)) ?_
          rintro a _ w ⟨rfl, hS⟩ hF
          have hO := hO.call0 hS
          have hO : St _ _ _ [_, _, _, _, _, _, _] := hO
          refine wl_v hF rfl rfl rfl (q_assign rfl (hF.eval rfl)) fun a hF => ?_
          refine wl_nil ?_
          refine k_n ?_
          refine wp_ret ?_
          refine r_1 hF rfl rfl ?_
          have hO := hO.drop1 0
          have hO := hO.drop1 0
          have hO := hO.drop1 0
          have hO := hO.drop1 0
          have hO := hO.drop1 0
          have hO := hO.drop1 0
          have hO := hO.drop1 0
          have hO : St _ _ _ [] := hO
          exact ⟨rfl, hO⟩

end Go.Proofs.Ytglienidnffnjaa
