import Derived.Test.YtglienidnffnjaaIe
import Derived.Test.YtglienidnffnjaaGw19
import Derived.Test.YtglienidnffnjaaPl7
namespace Go.Proofs.Ytglienidnffnjaa
open Go
set_option maxRecDepth 100000
set_option linter.unusedVariables false
set_option maxHeartbeats 4000000 in
theorem hrem_r (w0 : World) (vl : Value) (l : List OpV) (hR : RdT w0 [] vl opE l) (hQ : ∀ x ∈ l, opQ w0 x) : Ret Try.prog 6 #[vl] w0 (fun v w' => v = .bool true ∧ St w0 [] w' []) := by
  have hO := St.init0 w0
  have hll := RdT.lenle hR
  refine ret_of (m := 187) Try.func6 rfl Try.ntmps6 [(0, vl)] rfl ⟨rfl, trivial⟩ fun a hF => ?_
  refine wp_seq ?_
  refine wp_region_lit ?_
  refine wl_v hF rfl rfl rfl (q_assign rfl (hF.eval rfl)) fun a hF => ?_
  refine wl_nil ?_
  refine k_n ?_
  refine wp_seq ?_
  refine wp_region_lit ?_
  refine wl_e hF rfl rfl rfl (c_call hF rfl rfl Try.call11 (newOk_r _ _ _ (by decide))) ?_
  rintro a _ w ⟨bh, vw, vh, vr, rfl, hS⟩ hF
  have hO := hO.call0 hS
  have hO : St _ _ _ [_, _, _, _] := hO
  refine wl_v hF rfl rfl rfl (q_move rfl (hF.eval rfl)) fun a hF => ?_
  refine wl_v hF rfl rfl rfl (q_extract rfl (hF.eval rfl) rfl) fun a hF => ?_
  refine wl_v hF rfl rfl rfl (q_extract rfl (hF.eval rfl) rfl) fun a hF => ?_
  refine wl_v hF rfl rfl rfl (q_assign rfl (hF.eval rfl)) fun a hF => ?_
  refine wl_v hF rfl rfl rfl (q_assign rfl (hF.eval rfl)) fun a hF => ?_
  refine wl_nil ?_
  refine k_n ?_
  refine wp_seq ?_
  refine wp_seq ?_
  refine wp_region_lit ?_
  refine wl_v hF rfl rfl rfl (q_move rfl (hF.eval rfl)) fun a hF => ?_
  refine wl_v hF rfl rfl rfl (q_ne rfl (hF.eval rfl) (hF.eval rfl)) fun a hF => ?_
  refine wl_v hF rfl rfl rfl (q_move rfl (hF.eval rfl)) fun a hF => ?_
  refine wl_g hF rfl rfl rfl rfl rfl rfl (fun hg => q_move rfl (hF.eval rfl)) fun a hF => ?_
  refine wl_g hF rfl rfl rfl rfl rfl rfl (fun hg => q_peq Try.underlying22 rfl ((hF.eval rfl).trans (gv_of hg)) (hF.eval rfl)) fun a hF => ?_
  refine wl_v hF rfl rfl rfl (q_or rfl (hF.eval rfl) rfl (fun hg2 => ((hF.eval rfl).trans (gv_of hg2))) rfl) fun a hF => ?_
  refine wl_nil ?_
  refine k_n ?_
  refine wp_ifD hF rfl rfl (fun hc1 => ?_) (fun hc1 => ?_)
  · skip
    exact absurd hc1 (by simp)
  · skip
    refine wp_skip ?_
    refine k_n ?_
    refine wp_seq ?_
    refine wp_region_lit ?_
    refine wl_v hF rfl rfl rfl (q_assign rfl (hF.eval rfl)) fun a hF => ?_
    have hO := hO.nilSl 3 1
    refine wl_nil ?_
    refine k_n ?_
    refine wp_seq ?_
    refine wp_seq ?_
    refine wp_region_lit ?_
    refine wl_v hF rfl rfl rfl (q_assign rfl (hF.eval rfl)) fun a hF => ?_
    refine wl_nil ?_
    refine k_n ?_
    refine wp_block ?_
    have hO := hO.pull 4 rfl
    have hO := hO.pull 4 rfl
    have hO := hO.pull 4 rfl
    have hO := hO.pull 4 rfl
    have hO : St _ _ _ [_, _, _, _, _] := hO
    refine wp_loopS (fun (q : Nat × Hp × Value × List Int × Value) a w' => match q with | (i, h, vr, all, va) => (RI h ∧ Alive h all ∧ i ≤ l.length ∧ i ≤ 300 ∧ all.length ≤ i ∧ h.rem.length ≤ i * 1048576) ∧ St w0 [] w' [.ob bh 77 (hpC vw vh vr h), slT vw 27 wordE h.words, slT vh 84 headE h.heads, slT vr 3 intE h.rem, slT va 3 intE all] ∧ Fr a 187 [(0, vl), (3, ptr (adr bh)), (5, va), (6, i64 i)]) (fun (q : Nat × Hp × Value × List Int × Value) => match q with | (i, h, vr, all, va) => l.length - i) (0, newH 1024 1024, vr, [], _) ⟨⟨ri_new (by decide), fun a ha => (by cases ha), by omega, by omega, Nat.le_refl _, by show 0 ≤ _; omega⟩, hO, hF.sub ⟨rfl, rfl, rfl, rfl, trivial⟩⟩ ?_
    rintro ⟨i, h, vr, all, va⟩ a w ⟨⟨hC, ha, hil, hi3, hal, hrm⟩, hO, hF⟩
    refine wp_seq ?_
    refine wp_seq ?_
    refine wp_region_lit ?_
    refine wl_v hF rfl rfl rfl (q_move rfl (hF.eval rfl)) fun a hF => ?_
    refine wl_v hF rfl rfl rfl (q_move rfl (hF.eval rfl)) fun a hF => ?_
    refine wl_v hF rfl rfl rfl (q_lenRd hR Try.underlying35 rfl (hF.eval rfl)) fun a hF => ?_
    refine wl_v hF rfl rfl rfl (q_lt rfl (hF.eval rfl) (hF.eval rfl)) fun a hF => ?_
    refine wl_v hF rfl rfl rfl (q_move rfl (hF.eval rfl)) fun a hF => ?_
    refine wl_g hF rfl rfl rfl rfl rfl rfl (fun hg => q_move rfl (hF.eval rfl)) fun a hF => ?_
    refine wl_g hF rfl rfl rfl rfl rfl rfl (fun hg => q_lt rfl ((hF.eval rfl).trans (gv_of hg)) (hF.eval rfl)) fun a hF => ?_
    refine wl_v hF rfl rfl rfl (q_and rfl (hF.eval rfl) rfl (fun hg2 => ((hF.eval rfl).trans (gv_of hg2))) rfl) fun a hF => ?_
    refine wl_nil ?_
    refine k_n ?_
    refine wp_ifD hF rfl rfl (fun hc2 => ?_) (fun hc2 => ?_)
    · skip
      have hi : i < 300 := by omega
      refine wp_skip ?_
      refine k_n ?_
      refine wp_seq ?_
      refine wp_block ?_
      refine wp_seq ?_
      refine wp_region_lit ?_
      refine wl_v hF rfl rfl rfl (q_move rfl (hF.eval rfl)) fun a hF => ?_
      refine wl_v hF rfl rfl rfl (q_move rfl (hF.eval rfl)) fun a hF => ?_
      obtain ⟨x, hx⟩ := get_ex (l := l) (i := i) (by omega)
      refine wl_v hF rfl rfl rfl (q_at (i := i) hR Try.underlying35 Try.sizeOf39 rfl (hF.eval rfl) (hF.eval rfl) (by omega)) fun a hF => ?_
      refine wl_v hF rfl rfl rfl (q_loadAgg Try.isAgg39 Try.sizeOf39 rfl (hF.eval rfl) (RdT.cells (hR.now hO) hx) rfl) fun a hF => ?_
      refine wl_e hF rfl rfl rfl (e_alloc hO Try.zeroValue39 rfl rfl) ?_
      rintro a _ w ⟨op, rfl, hO⟩ hF
      have hxq := hQ x (List.mem_of_getElem? hx)
      have hxf := hxq.1
      have hwl : (wordsF x.fs false all).length = x.fs.length := List.length_map ..
      have hxl := hxq.2
      refine wl_s hF rfl rfl (e_storeAll hO (i := 0) rfl Try.sizeOf39 rfl (hF.eval rfl) (hF.eval rfl) rfl rfl) ?_
      rintro a _ w ⟨-, hO⟩ hF
      have hO : St _ _ _ [_, _, _, _, _, _] := hO
      refine wl_nil ?_
      refine k_n ?_
      refine wp_seq ?_
      refine wp_region_lit ?_
      refine wl_v hF rfl rfl rfl (q_fieldAddr0 (d := 5) Try.underlying39 rfl (hF.eval rfl) rfl Try.sizeOf3 (by decide) rfl) fun a hF => ?_
      refine wl_v hF rfl rfl rfl (q_load Try.isAgg3 rfl (hF.eval rfl) (hO.cell 0 rfl rfl)) fun a hF => ?_
      refine wl_v hF rfl rfl rfl (q_move rfl (hF.eval rfl)) fun a hF => ?_
      refine wl_e hF rfl rfl rfl (c_call hF rfl rfl Try.call21 (where_r _ _ _ _ _ (hO.rdT 5 rfl))) ?_
      rintro a _ w ⟨rfl, hS⟩ hF
      have hO := hO.call0 hS
      have hO : St _ _ _ [_, _, _, _, _, _] := hO
      refine wl_v hF rfl rfl rfl (q_assign rfl (hF.eval rfl)) fun a hF => ?_
      refine wl_nil ?_
      refine k_n ?_
      refine wp_seq ?_
      refine wp_region_lit ?_
      refine wl_v hF rfl rfl rfl (q_fieldAddr0 (d := 3) Try.underlying39 rfl (hF.eval rfl) rfl Try.sizeOf37 (by decide) rfl) fun a hF => ?_
      refine wl_v hF rfl rfl rfl (q_load Try.isAgg37 rfl (hF.eval rfl) (hO.cell 0 rfl rfl)) fun a hF => ?_
      refine wl_v hF rfl rfl rfl (q_move rfl (hF.eval rfl)) fun a hF => ?_
      refine wl_e hF rfl rfl rfl (c_call hF rfl rfl Try.call22 (words_r _ _ _ hxq.2 (hxf.at0 hO) _ _ _ ((hO.rdT 5 rfl)))) ?_
      rintro a vw9 w ⟨_, rfl, hS⟩ hF
      have hO := hO.call0 hS
      have hO : St _ _ _ [_, _, _, _, _, _, _] := hO
      refine wl_v hF rfl rfl rfl (q_assign rfl (hF.eval rfl)) fun a hF => ?_
      refine wl_nil ?_
      refine k_n ?_
      refine wp_seq ?_
      refine wp_region_lit ?_
      refine wl_v hF rfl rfl rfl (q_fieldAddr0 (d := 6) Try.underlying39 rfl (hF.eval rfl) rfl Try.sizeOf3 (by decide) rfl) fun a hF => ?_
      refine wl_v hF rfl rfl rfl (q_load Try.isAgg3 rfl (hF.eval rfl) (hO.cell 1 rfl rfl)) fun a hF => ?_
      refine wl_v hF rfl rfl rfl (c_build hF Try.underlying27 Try.zeroValue27 Try_places27 rfl rfl rfl rfl) fun a hF => ?_
      refine wl_e hF rfl rfl rfl (e_alloc hO Try.zeroValue27 rfl rfl) ?_
      rintro a _ w ⟨ww, rfl, hO⟩ hF
      refine wl_s hF rfl rfl (e_storeAll hO (i := 0) rfl Try.sizeOf27 rfl (hF.eval rfl) (hF.eval rfl) rfl rfl) ?_
      rintro a _ w ⟨-, hO⟩ hF
      have hO : St _ _ _ [_, _, _, _, _, _, _, _] := hO
      refine wl_nil ?_
      refine k_n ?_
      refine wp_seqJ (fun (y : Wd) a w' => (True) ∧ St w0 [] w' [.ob bh 77 (hpC vw vh vr h), slT vw 27 wordE h.words, slT vh 84 headE h.heads, slT vr 3 intE h.rem, slT va 3 intE all, .ob op 39 (opE.cells x), slT vw9 27 wordE (wordsF x.fs false all), .ob ww 27 (wordE.cells y)] ∧ Fr a 187 [(0, vl), (3, ptr (adr bh)), (5, va), (6, i64 i), (7, ptr (adr op)), (8, i64 (whereF x.at_ false all)), (9, vw9), (10, ptr (adr ww))]) ?_ ?_
      · skip
        refine wp_seq ?_
        refine wp_region_lit ?_
        refine wl_v hF rfl rfl rfl (q_move rfl (hF.eval rfl)) fun a hF => ?_
        refine wl_v hF rfl rfl rfl (q_lenRd (hO.rd 1 rfl) Try.underlying37 rfl (hF.eval rfl)) fun a hF => ?_
        refine wl_v hF rfl rfl rfl (q_gt rfl (hF.eval rfl) (hF.eval rfl)) fun a hF => ?_
        refine wl_nil ?_
        refine k_n ?_
        refine wp_ifD hF rfl rfl (fun hc3 => ?_) (fun hc3 => ?_)
        · skip
          refine wp_region_lit ?_
          refine wl_v hF rfl rfl rfl (q_move rfl (hF.eval rfl)) fun a hF => ?_
          obtain ⟨y0, hy0⟩ := get_ex (l := (wordsF x.fs false all)) (i := 0) (by omega)
          refine wl_v hF rfl rfl rfl (q_at (i := 0) (hO.rd 1 rfl) Try.underlying37 Try.sizeOf27 rfl (hF.eval rfl) (hF.eval rfl) (by omega)) fun a hF => ?_
          refine wl_v hF rfl rfl rfl (q_loadAgg Try.isAgg27 Try.sizeOf27 rfl (hF.eval rfl) (RdT.cells (hO.rdT 1 rfl) hy0) rfl) fun a hF => ?_
          refine wl_s hF rfl rfl (e_storeAll hO (i := 0) rfl Try.sizeOf27 rfl (hF.eval rfl) (hF.eval rfl) rfl rfl) ?_
          rintro a _ w ⟨-, hO⟩ hF
          have hO : St _ _ _ [_, _, _, _, _, _, _, _] := hO
          refine wl_nil ?_
          refine k_n ?_
          have hO := hO.pull 1 rfl
          have hO := hO.pull 2 rfl
          have hO := hO.pull 7 rfl
          have hO := hO.pull 7 rfl
          have hO := hO.pull 7 rfl
          have hO := hO.pull 7 rfl
          have hO := hO.pull 7 rfl
          have hO : St _ _ _ [_, _, _, _, _, _, _, _] := hO
          exact ⟨y0, ⟨trivial, hO, hF.sub ⟨rfl, rfl, rfl, rfl, rfl, rfl, rfl, rfl, trivial⟩⟩⟩
        · skip
          refine wp_skip ?_
          refine k_n ?_
          have hO := hO.pull 1 rfl
          have hO := hO.pull 2 rfl
          have hO := hO.pull 7 rfl
          have hO := hO.pull 7 rfl
          have hO := hO.pull 7 rfl
          have hO := hO.pull 7 rfl
          have hO := hO.pull 7 rfl
          have hO : St _ _ _ [_, _, _, _, _, _, _, _] := hO
          exact ⟨⟨false, x.n⟩, ⟨trivial, hO, hF.sub ⟨rfl, rfl, rfl, rfl, rfl, rfl, rfl, rfl, trivial⟩⟩⟩
      · skip
        rintro y a w ⟨_, hO, hF⟩
        refine wp_seq ?_
        refine wp_region_lit ?_
        refine wl_v hF rfl rfl rfl (q_assign rfl (hF.eval rfl)) fun a hF => ?_
        refine wl_nil ?_
        refine k_n ?_
        refine wp_seq ?_
        refine wp_region_lit ?_
        refine wl_v hF rfl rfl rfl (q_assign rfl (hF.eval rfl)) fun a hF => ?_
        refine wl_nil ?_
        refine k_n ?_
        refine wp_seqJ (fun (q : Hp × Value × Int × Int) a w' => match q with | (h1, vr1, n1, f) => (RI h1 ∧ Mono h h1 ∧ (f = 0 → headAt h1.heads n1 ≠ none) ∧ h1.rem.length ≤ h.rem.length + 1048576) ∧ St w0 [] w' [.ob bh 77 (hpC vw vh vr1 h1), slT vw 27 wordE h1.words, slT vh 84 headE h1.heads, slT vr1 3 intE h1.rem, slT va 3 intE all] ∧ Fr a 187 [(0, vl), (3, ptr (adr bh)), (5, va), (6, i64 i), (11, i64 n1), (12, i64 f)]) ?_ ?_
        · skip
          refine wp_seq ?_
          refine wp_region_lit ?_
          refine wl_v hF rfl rfl rfl (q_fieldAddr0 (d := 0) Try.underlying39 rfl (hF.eval rfl) rfl Try.sizeOf3 (by decide) rfl) fun a hF => ?_
          refine wl_v hF rfl rfl rfl (q_load Try.isAgg3 rfl (hF.eval rfl) (hO.cell 5 rfl rfl)) fun a hF => ?_
          refine wl_nil ?_
          refine k_n ?_
          refine wp_block ?_
          refine wp_seq ?_
          refine wp_region_lit ?_
          refine wl_v hF rfl rfl rfl (q_eq rfl (hF.eval rfl) (hF.eval rfl)) fun a hF => ?_
          refine wl_v hF rfl rfl rfl (q_assign rfl (hF.eval rfl)) fun a hF => ?_
          refine wl_nil ?_
          refine k_n ?_
          refine wp_ifD hF rfl rfl (fun hc4 => ?_) (fun hc4 => ?_)
          · skip
            refine wp_region_lit ?_
            refine wl_v hF rfl rfl rfl (q_move rfl (hF.eval rfl)) fun a hF => ?_
            refine wl_v hF rfl rfl rfl (q_fieldAddr0 (d := 1) Try.underlying39 rfl (hF.eval rfl) rfl Try.sizeOf3 (by decide) rfl) fun a hF => ?_
            refine wl_v hF rfl rfl rfl (q_load Try.isAgg3 rfl (hF.eval rfl) (hO.cell 5 rfl rfl)) fun a hF => ?_
            refine wl_v hF rfl rfl rfl (q_fieldAddr0 (d := 2) Try.underlying39 rfl (hF.eval rfl) rfl Try.sizeOf3 (by decide) rfl) fun a hF => ?_
            refine wl_v hF rfl rfl rfl (q_load Try.isAgg3 rfl (hF.eval rfl) (hO.cell 5 rfl rfl)) fun a hF => ?_
            refine wl_v hF rfl rfl rfl (q_move rfl (hF.eval rfl)) fun a hF => ?_
            have hO := hO.pull 3 rfl
            have hO := hO.pull 3 rfl
            have hO := hO.pull 3 rfl
            have hO := hO.pull 3 rfl
            have hO : St _ _ _ [_, _, _, _, _, _, _, _] := hO
            refine wl_e hF rfl rfl rfl (c_call hF rfl rfl Try.call12 (alloc_r _ _ _ _ _ _ hO.own4 hC.sep.wf (by omega) _ _ _ (wordsF x.fs false all) (hO.rdT4 2 rfl))) ?_
            rintro a _ w ⟨vr, r1, h1, hl1, rfl, hS⟩ hF
            have hO := hO.call4 hS
            have hO : St _ _ _ [_, _, _, _, _, _, _, _] := hO
            obtain ⟨hC1, hm1, ha1⟩ := hC.lay (r := 0) (by decide) hl1
            have hrm1 : h1.rem.length ≤ h.rem.length + (wordsF x.fs false all).length := by have := lay_rem h 0 x.kind x.info (wordsF x.fs false all); rw [hl1] at this; exact this
            refine wl_v hF rfl rfl rfl (q_move rfl (hF.eval rfl)) fun a hF => ?_
            refine wl_v hF rfl rfl rfl (q_extract rfl (hF.eval rfl) rfl) fun a hF => ?_
            refine wl_v hF rfl rfl rfl (q_extract rfl (hF.eval rfl) rfl) fun a hF => ?_
            refine wl_v hF rfl rfl rfl (q_assign rfl (hF.eval rfl)) fun a hF => ?_
            refine wl_v hF rfl rfl rfl (q_assign rfl (hF.eval rfl)) fun a hF => ?_
            refine wl_nil ?_
            refine b_n ?_
            refine k_n ?_
            have hO := hO.drop1 5
            have hO := hO.drop1 5
            have hO := hO.drop1 5
            have hO : St _ _ _ [_, _, _, _, _] := hO
            exact ⟨(h1, vr, r1.1, r1.2), ⟨⟨hC1, hm1, ha1, by omega⟩, hO, hF.sub ⟨rfl, rfl, rfl, rfl, rfl, rfl, trivial⟩⟩⟩
          · skip
            refine wp_seq ?_
            refine wp_region_lit ?_
            refine wl_v hF rfl rfl rfl (q_eq rfl (hF.eval rfl) (hF.eval rfl)) fun a hF => ?_
            refine wl_v hF rfl rfl rfl (q_assign rfl (hF.eval rfl)) fun a hF => ?_
            refine wl_nil ?_
            refine k_n ?_
            refine wp_ifD hF rfl rfl (fun hc5 => ?_) (fun hc5 => ?_)
            · skip
              refine wp_region_lit ?_
              refine wl_v hF rfl rfl rfl (q_move rfl (hF.eval rfl)) fun a hF => ?_
              refine wl_v hF rfl rfl rfl (q_fieldAddr0 (d := 1) Try.underlying39 rfl (hF.eval rfl) rfl Try.sizeOf3 (by decide) rfl) fun a hF => ?_
              refine wl_v hF rfl rfl rfl (q_load Try.isAgg3 rfl (hF.eval rfl) (hO.cell 5 rfl rfl)) fun a hF => ?_
              refine wl_v hF rfl rfl rfl (q_fieldAddr0 (d := 2) Try.underlying39 rfl (hF.eval rfl) rfl Try.sizeOf3 (by decide) rfl) fun a hF => ?_
              refine wl_v hF rfl rfl rfl (q_load Try.isAgg3 rfl (hF.eval rfl) (hO.cell 5 rfl rfl)) fun a hF => ?_
              refine wl_v hF rfl rfl rfl (q_move rfl (hF.eval rfl)) fun a hF => ?_
              have hO := hO.pull 3 rfl
              have hO := hO.pull 3 rfl
              have hO := hO.pull 3 rfl
              have hO := hO.pull 3 rfl
              have hO : St _ _ _ [_, _, _, _, _, _, _, _] := hO
              refine wl_e hF rfl rfl rfl (c_call hF rfl rfl Try.call16 (keep_r _ _ _ _ _ _ hO.own4 hC.sep.wf (by omega) _ _ _ (wordsF x.fs false all) (hO.rdT4 2 rfl))) ?_
              rintro a _ w ⟨vr, r1, h1, hl1, rfl, hS⟩ hF
              have hO := hO.call4 hS
              have hO : St _ _ _ [_, _, _, _, _, _, _, _] := hO
              obtain ⟨hC1, hm1, ha1⟩ := hC.lay (r := (1 + h.use)) (by have := hC.sep.wf.use; omega) hl1
              have hrm1 : h1.rem.length ≤ h.rem.length + (wordsF x.fs false all).length := by have := lay_rem h (1 + h.use) x.kind x.info (wordsF x.fs false all); rw [hl1] at this; exact this
              refine wl_v hF rfl rfl rfl (q_move rfl (hF.eval rfl)) fun a hF => ?_
              refine wl_v hF rfl rfl rfl (q_extract rfl (hF.eval rfl) rfl) fun a hF => ?_
              refine wl_v hF rfl rfl rfl (q_extract rfl (hF.eval rfl) rfl) fun a hF => ?_
              refine wl_v hF rfl rfl rfl (q_assign rfl (hF.eval rfl)) fun a hF => ?_
              refine wl_v hF rfl rfl rfl (q_assign rfl (hF.eval rfl)) fun a hF => ?_
              refine wl_nil ?_
              refine b_n ?_
              refine k_n ?_
              have hO := hO.drop1 5
              have hO := hO.drop1 5
              have hO := hO.drop1 5
              have hO : St _ _ _ [_, _, _, _, _] := hO
              exact ⟨(h1, vr, r1.1, r1.2), ⟨⟨hC1, hm1, ha1, by omega⟩, hO, hF.sub ⟨rfl, rfl, rfl, rfl, rfl, rfl, trivial⟩⟩⟩
            · skip
              refine wp_seq ?_
              refine wp_region_lit ?_
              refine wl_v hF rfl rfl rfl (q_eq rfl (hF.eval rfl) (hF.eval rfl)) fun a hF => ?_
              refine wl_v hF rfl rfl rfl (q_assign rfl (hF.eval rfl)) fun a hF => ?_
              refine wl_nil ?_
              refine k_n ?_
              refine wp_ifD hF rfl rfl (fun hc6 => ?_) (fun hc6 => ?_)
              · skip
                refine wp_region_lit ?_
                refine wl_v hF rfl rfl rfl (q_move rfl (hF.eval rfl)) fun a hF => ?_
                refine wl_v hF rfl rfl rfl (q_move rfl (hF.eval rfl)) fun a hF => ?_
                refine wl_v hF rfl rfl rfl (q_fieldAddr0 (d := 6) Try.underlying39 rfl (hF.eval rfl) rfl Try.sizeOf3 (by decide) rfl) fun a hF => ?_
                refine wl_v hF rfl rfl rfl (q_load Try.isAgg3 rfl (hF.eval rfl) (hO.cell 5 rfl rfl)) fun a hF => ?_
                refine wl_v hF rfl rfl rfl (q_loadAgg Try.isAgg27 Try.sizeOf27 rfl (hF.eval rfl) (hO.cells 7 rfl) rfl) fun a hF => ?_
                have hO := hO.pull 3 rfl
                have hO := hO.pull 3 rfl
                have hO := hO.pull 3 rfl
                have hO := hO.pull 3 rfl
                have hO : St _ _ _ [_, _, _, _, _, _, _, _] := hO
                refine wl_e hF rfl rfl rfl (c_call hF rfl rfl Try.call17 (set_r _ _ _ _ _ _ hO.own4 hC.sep.wf (by omega) _ _ _)) ?_
                rintro a _ w ⟨vr, rs, hs2, hset, rfl, hS⟩ hF
                have hO := hO.call4 hS
                have hO : St _ _ _ [_, _, _, _, _, _, _, _] := hO
                obtain ⟨hC1, hm1⟩ := hC.set hset
                have hrm1 : hs2.rem.length ≤ h.rem.length + 1 := by have := set_rem h (whereF x.at_ false all) x.n y; rw [hset] at this; exact this
                refine wl_nil ?_
                refine b_n ?_
                refine k_n ?_
                have hO := hO.drop1 5
                have hO := hO.drop1 5
                have hO := hO.drop1 5
                have hO : St _ _ _ [_, _, _, _, _] := hO
                exact ⟨(hs2, vr, -1, 1), ⟨⟨hC1, hm1, fun h => absurd h (by decide), by omega⟩, hO, hF.sub ⟨rfl, rfl, rfl, rfl, rfl, rfl, trivial⟩⟩⟩
              · skip
                refine wp_seq ?_
                refine wp_region_lit ?_
                refine wl_v hF rfl rfl rfl (q_eq rfl (hF.eval rfl) (hF.eval rfl)) fun a hF => ?_
                refine wl_v hF rfl rfl rfl (q_assign rfl (hF.eval rfl)) fun a hF => ?_
                refine wl_nil ?_
                refine k_n ?_
                refine wp_ifD hF rfl rfl (fun hc7 => ?_) (fun hc7 => ?_)
                · skip
                  refine wp_region_lit ?_
                  refine wl_v hF rfl rfl rfl (q_move rfl (hF.eval rfl)) fun a hF => ?_
                  refine wl_v hF rfl rfl rfl (q_move rfl (hF.eval rfl)) fun a hF => ?_
                  have hO := hO.pull 3 rfl
                  have hO := hO.pull 3 rfl
                  have hO := hO.pull 3 rfl
                  have hO := hO.pull 3 rfl
                  have hO : St _ _ _ [_, _, _, _, _, _, _, _] := hO
                  refine wl_e hF rfl rfl rfl (c_call hF rfl rfl Try.call23 (hole_r _ _ _ _ _ _ hO.own4 hC.sep.wf (by omega) _)) ?_
                  rintro a _ w ⟨vr, rs, hs2, hset, rfl, hS⟩ hF
                  have hO := hO.call4 hS
                  have hO : St _ _ _ [_, _, _, _, _, _, _, _] := hO
                  obtain ⟨hC1, hm1⟩ := hC.hole hset
                  have hrm1 : hs2.rem.length ≤ h.rem.length + 1 := by have := hole_rem h (whereF x.at_ false all); rw [hset] at this; exact (congrArg List.length this) ▸ Nat.le_succ _
                  refine wl_nil ?_
                  refine b_n ?_
                  refine k_n ?_
                  have hO := hO.drop1 5
                  have hO := hO.drop1 5
                  have hO := hO.drop1 5
                  have hO : St _ _ _ [_, _, _, _, _] := hO
                  exact ⟨(hs2, vr, -1, 1), ⟨⟨hC1, hm1, fun h => absurd h (by decide), by omega⟩, hO, hF.sub ⟨rfl, rfl, rfl, rfl, rfl, rfl, trivial⟩⟩⟩
                · skip
                  refine wp_seq ?_
                  refine wp_region_lit ?_
                  refine wl_v hF rfl rfl rfl (q_eq rfl (hF.eval rfl) (hF.eval rfl)) fun a hF => ?_
                  refine wl_v hF rfl rfl rfl (q_assign rfl (hF.eval rfl)) fun a hF => ?_
                  refine wl_nil ?_
                  refine k_n ?_
                  refine wp_ifD hF rfl rfl (fun hc8 => ?_) (fun hc8 => ?_)
                  · skip
                    refine wp_region_lit ?_
                    refine wl_v hF rfl rfl rfl (q_move rfl (hF.eval rfl)) fun a hF => ?_
                    refine wl_v hF rfl rfl rfl (q_move rfl (hF.eval rfl)) fun a hF => ?_
                    refine wl_v hF rfl rfl rfl (q_loadAgg Try.isAgg27 Try.sizeOf27 rfl (hF.eval rfl) (hO.cells 7 rfl) rfl) fun a hF => ?_
                    have hO := hO.pull 3 rfl
                    have hO := hO.pull 3 rfl
                    have hO := hO.pull 3 rfl
                    have hO := hO.pull 3 rfl
                    have hO : St _ _ _ [_, _, _, _, _, _, _, _] := hO
                    refine wl_e hF rfl rfl rfl (c_call hF rfl rfl Try.call13 (link_r _ _ _ _ _ _ hO.own4 hC.sep.wf (by omega) _ y)) ?_
                    rintro a _ w ⟨vr, r2, h2, hset, rfl, hS⟩ hF
                    have hO := hO.call4 hS
                    have hO : St _ _ _ [_, _, _, _, _, _, _, _] := hO
                    obtain ⟨hC1, hm1⟩ := hC.link hset
                    have hrm1 : h2.rem.length ≤ h.rem.length + 1 := by have := link_rem h (whereF x.at_ false all) y; rw [hset] at this; exact this
                    refine wl_nil ?_
                    refine b_n ?_
                    refine k_n ?_
                    have hO := hO.drop1 5
                    have hO := hO.drop1 5
                    have hO := hO.drop1 5
                    have hO : St _ _ _ [_, _, _, _, _] := hO
                    exact ⟨(h2, vr, -1, 1), ⟨⟨hC1, hm1, fun h => absurd h (by decide), by omega⟩, hO, hF.sub ⟨rfl, rfl, rfl, rfl, rfl, rfl, trivial⟩⟩⟩
                  · skip
                    refine wp_seq ?_
                    refine wp_region_lit ?_
                    refine wl_v hF rfl rfl rfl (q_eq rfl (hF.eval rfl) (hF.eval rfl)) fun a hF => ?_
                    refine wl_v hF rfl rfl rfl (q_assign rfl (hF.eval rfl)) fun a hF => ?_
                    refine wl_nil ?_
                    refine k_n ?_
                    refine wp_ifD hF rfl rfl (fun hc9 => ?_) (fun hc9 => ?_)
                    · skip
                      refine wp_region_lit ?_
                      refine wl_v hF rfl rfl rfl (q_move rfl (hF.eval rfl)) fun a hF => ?_
                      have hO := hO.pull 3 rfl
                      have hO := hO.pull 3 rfl
                      have hO := hO.pull 3 rfl
                      have hO := hO.pull 3 rfl
                      have hO : St _ _ _ [_, _, _, _, _, _, _, _] := hO
                      refine wl_e hF rfl rfl rfl (c_call hF rfl rfl Try.call24 (flip_r _ _ _ _ _ _ hO.own4 hC.sep.wf (by omega))) ?_
                      rintro a _ w ⟨vr2, rfl, hS⟩ hF
                      have hO := hO.call4 hS
                      have hO : St _ _ _ [_, _, _, _, _, _, _, _] := hO
                      refine wl_nil ?_
                      refine b_n ?_
                      refine k_n ?_
                      have hO := hO.drop1 5
                      have hO := hO.drop1 5
                      have hO := hO.drop1 5
                      have hO : St _ _ _ [_, _, _, _, _] := hO
                      exact ⟨((flipH h), vr2, -1, 1), ⟨⟨hC.flip.1, hC.flip.2, fun h => absurd h (by decide), by show h.rem.length ≤ _; omega⟩, hO, hF.sub ⟨rfl, rfl, rfl, rfl, rfl, rfl, trivial⟩⟩⟩
                    · skip
                      refine wp_skip ?_
                      refine b_n ?_
                      refine k_n ?_
                      have hO := hO.drop1 5
                      have hO := hO.drop1 5
                      have hO := hO.drop1 5
                      have hO : St _ _ _ [_, _, _, _, _] := hO
                      exact ⟨(h, vr, -1, 1), ⟨⟨hC, Mono.refl h, fun h => absurd h (by decide), by omega⟩, hO, hF.sub ⟨rfl, rfl, rfl, rfl, rfl, rfl, trivial⟩⟩⟩
        · skip
          rintro ⟨h1, vr1, n1, f⟩ a w ⟨⟨hC1, hm1, ha1, hrm1⟩, hO, hF⟩
          refine wp_seq ?_
          refine wp_region_lit ?_
          refine wl_v hF rfl rfl rfl (q_move rfl (hF.eval rfl)) fun a hF => ?_
          refine wl_v hF rfl rfl rfl (q_eq rfl (hF.eval rfl) (hF.eval rfl)) fun a hF => ?_
          refine wl_nil ?_
          refine k_n ?_
          refine wp_ifD hF rfl rfl (fun hc10 => ?_) (fun hc10 => ?_)
          · skip
            refine wp_region_lit ?_
            refine wl_v hF rfl rfl rfl (q_move rfl (hF.eval rfl)) fun a hF => ?_
            refine wl_v hF rfl rfl rfl (q_move rfl (hF.eval rfl)) fun a hF => ?_
            refine wl_e hF rfl rfl rfl (c_buildSlice hF hO Try.underlying36 Try.sizeOf3 Try.zeroValue3 rfl rfl rfl rfl rfl rfl rfl) ?_
            rintro a _ w ⟨b1, rfl, hO⟩ hF
            refine wl_e hF rfl rfl rfl (e_appendT (bytes := 8) (r := [n1]) hO (i := 5) rfl (hO.rd 0 rfl) Try.underlying36 Try_info3 rfl rfl rfl rfl rfl rfl (hF.eval rfl) (hF.eval rfl) (by show (List.length _ + 1) * 8 ≤ _; omega) (by show List.length _ + 1 ≤ _; omega)) ?_
            rintro a v115 w hO hF
            have hO : St _ _ _ [_, _, _, _, _, _] := hO
            refine wl_v hF rfl rfl rfl (q_assign rfl (hF.eval rfl)) fun a hF => ?_
            refine wl_nil ?_
            refine b_n ?_
            refine k_n ?_
            refine wp_region_lit ?_
            refine wl_v hF rfl rfl rfl (q_move rfl (hF.eval rfl)) fun a hF => ?_
            refine wl_v hF rfl rfl rfl (q_add rfl (hF.eval rfl) (hF.eval rfl) (by omega)) fun a hF => ?_
            refine wl_v hF rfl rfl rfl (q_assign rfl (hF.eval rfl)) fun a hF => ?_
            refine wl_nil ?_
            refine k_n ?_
            have hO := hO.drop1 0
            have hO : St _ _ _ [_, _, _, _, _] := hO
            exact ⟨(i + 1, h1, vr1, all ++ [n1], _), ⟨⟨hC1, (ha.mono hm1).on (ha1 hc10), by omega, by omega, by rw [List.length_append, List.length_singleton]; omega, by omega⟩, hO, hF.sub ⟨rfl, rfl, rfl, rfl, trivial⟩⟩, by dsimp only; omega⟩
          · skip
            refine wp_skip ?_
            refine b_n ?_
            refine k_n ?_
            refine wp_region_lit ?_
            refine wl_v hF rfl rfl rfl (q_move rfl (hF.eval rfl)) fun a hF => ?_
            refine wl_v hF rfl rfl rfl (q_add rfl (hF.eval rfl) (hF.eval rfl) (by omega)) fun a hF => ?_
            refine wl_v hF rfl rfl rfl (q_assign rfl (hF.eval rfl)) fun a hF => ?_
            refine wl_nil ?_
            refine k_n ?_
            have hO : St _ _ _ [_, _, _, _, _] := hO
            exact ⟨(i + 1, h1, vr1, all, va), ⟨⟨hC1, ha.mono hm1, by omega, by omega, by omega, by omega⟩, hO, hF.sub ⟨rfl, rfl, rfl, rfl, trivial⟩⟩, by dsimp only; omega⟩
    · skip
      refine wp_exit ?_
      refine k_x ?_
      refine k_x ?_
      refine b_x ?_
      refine k_n ?_
      refine wp_seq ?_
      refine wp_region_lit ?_
      refine wl_v hF rfl rfl rfl (q_move rfl (hF.eval rfl)) fun a hF => ?_
      refine wl_e hF rfl rfl rfl (c_call hF rfl rfl Try.call25 (remembered_r _ _ _ _ _ _ (hO.hr 0 1 2 3 rfl rfl rfl rfl) (by omega))) ?_
      rintro a v9 w ⟨_, rfl, hS⟩ hF
      have hO := hO.call0 hS
      have hO : St _ _ _ [_, _, _, _, _, _] := hO
      have hsl := sort_len h.rem
      refine wl_v hF rfl rfl rfl (q_assign rfl (hF.eval rfl)) fun a hF => ?_
      refine wl_nil ?_
      refine k_n ?_
      refine wp_seq ?_
      refine wp_seq ?_
      refine wp_region_lit ?_
      refine wl_v hF rfl rfl rfl (q_assign rfl (hF.eval rfl)) fun a hF => ?_
      refine wl_nil ?_
      refine k_n ?_
      refine wp_block ?_
      have hO := hO.pull 5 rfl
      have hO := hO.pull 5 rfl
      have hO := hO.pull 5 rfl
      have hO := hO.pull 5 rfl
      have hO := hO.pull 5 rfl
      have hO : St _ _ _ [_, _, _, _, _, _] := hO
      refine wp_loopS (fun (m : Nat) a w' => (m ≤ all.length) ∧ St w0 [] w' [.ob bh 77 (hpC vw vh vr h), slT vw 27 wordE h.words, slT vh 84 headE h.heads, slT vr 3 intE h.rem, slT va 3 intE all, slT v9 3 intE (sortF h.rem)] ∧ Fr a 187 [(3, ptr (adr bh)), (5, va), (13, v9), (14, i64 m)]) (fun (m : Nat) => all.length - m) 0 ⟨by omega, hO, hF.sub ⟨rfl, rfl, rfl, rfl, trivial⟩⟩ ?_
      rintro m a w ⟨hma, hO, hF⟩
      refine wp_seq ?_
      refine wp_seq ?_
      refine wp_region_lit ?_
      refine wl_v hF rfl rfl rfl (q_move rfl (hF.eval rfl)) fun a hF => ?_
      refine wl_v hF rfl rfl rfl (q_move rfl (hF.eval rfl)) fun a hF => ?_
      refine wl_v hF rfl rfl rfl (q_lenRd (hO.rd 4 rfl) Try.underlying36 rfl (hF.eval rfl)) fun a hF => ?_
      refine wl_v hF rfl rfl rfl (q_lt rfl (hF.eval rfl) (hF.eval rfl)) fun a hF => ?_
      refine wl_nil ?_
      refine k_n ?_
      refine wp_ifD hF rfl rfl (fun hc11 => ?_) (fun hc11 => ?_)
      · skip
        refine wp_skip ?_
        refine k_n ?_
        refine wp_seq ?_
        refine wp_block ?_
        refine wp_seq ?_
        refine wp_seq ?_
        refine wp_region_lit ?_
        refine wl_v hF rfl rfl rfl (q_move rfl (hF.eval rfl)) fun a hF => ?_
        refine wl_v hF rfl rfl rfl (q_move rfl (hF.eval rfl)) fun a hF => ?_
        refine wl_v hF rfl rfl rfl (q_move rfl (hF.eval rfl)) fun a hF => ?_
        obtain ⟨x, hx⟩ := get_ex (l := all) (i := m) (by omega)
        refine wl_v hF rfl rfl rfl (q_at (i := m) (hO.rd 4 rfl) Try.underlying36 Try.sizeOf3 rfl (hF.eval rfl) (hF.eval rfl) (by omega)) fun a hF => ?_
        refine wl_v hF rfl rfl rfl (q_load Try.isAgg3 rfl (hF.eval rfl) (RdT.cell0 (hO.rdT 4 rfl) hx rfl)) fun a hF => ?_
        refine wl_e hF rfl rfl rfl (c_call hF rfl rfl Try.call26 (young_r _ _ _ _ _ _ (hO.hr 0 1 2 3 rfl rfl rfl rfl) _)) ?_
        rintro a _ w ⟨rfl, hS⟩ hF
        have hO := hO.call0 hS
        have hO : St _ _ _ [_, _, _, _, _, _] := hO
        refine wl_nil ?_
        refine k_n ?_
        refine wp_ifD hF rfl rfl (fun hc12 => ?_) (fun hc12 => ?_)
        · skip
          refine wp_exit ?_
          refine k_x ?_
          refine b_x ?_
          refine k_n ?_
          refine wp_region_lit ?_
          refine wl_v hF rfl rfl rfl (q_move rfl (hF.eval rfl)) fun a hF => ?_
          refine wl_v hF rfl rfl rfl (q_add rfl (hF.eval rfl) (hF.eval rfl) (by omega)) fun a hF => ?_
          refine wl_v hF rfl rfl rfl (q_assign rfl (hF.eval rfl)) fun a hF => ?_
          refine wl_nil ?_
          refine k_n ?_
          have hO : St _ _ _ [_, _, _, _, _, _] := hO
          exact ⟨m + 1, ⟨by omega, hO, hF.sub ⟨rfl, rfl, rfl, rfl, trivial⟩⟩, by omega⟩
        · skip
          obtain ⟨hl1, hl2⟩ := hC.law (ha x (List.mem_of_getElem? hx)) hc12
          refine wp_skip ?_
          refine k_n ?_
          refine wp_seq ?_
          refine wp_region_lit ?_
          refine wl_v hF rfl rfl rfl (q_assign rfl (hF.eval rfl)) fun a hF => ?_
          refine wl_nil ?_
          refine k_n ?_
          refine wp_seq ?_
          refine wp_seq ?_
          refine wp_region_lit ?_
          refine wl_v hF rfl rfl rfl (q_assign rfl (hF.eval rfl)) fun a hF => ?_
          refine wl_nil ?_
          refine k_n ?_
          refine wp_block ?_
          have hO : St _ _ _ [_, _, _, _, _, _] := hO
          refine wp_loopS (fun (q : Nat × Bool) a w' => match q with | (k, is) => (k ≤ (sortF h.rem).length ∧ is = ((sortF h.rem).take k).contains x) ∧ St w0 [] w' [.ob bh 77 (hpC vw vh vr h), slT vw 27 wordE h.words, slT vh 84 headE h.heads, slT vr 3 intE h.rem, slT va 3 intE all, slT v9 3 intE (sortF h.rem)] ∧ Fr a 187 [(3, ptr (adr bh)), (5, va), (13, v9), (14, i64 m), (15, .bool is), (16, i64 k)]) (fun (q : Nat × Bool) => match q with | (k, is) => (sortF h.rem).length - k) (0, false) ⟨⟨by omega, rfl⟩, hO, hF.sub ⟨rfl, rfl, rfl, rfl, rfl, rfl, trivial⟩⟩ ?_
          rintro ⟨k, is⟩ a w ⟨⟨hk, his⟩, hO, hF⟩
          refine wp_seq ?_
          refine wp_seq ?_
          refine wp_region_lit ?_
          refine wl_v hF rfl rfl rfl (q_move rfl (hF.eval rfl)) fun a hF => ?_
          refine wl_v hF rfl rfl rfl (q_move rfl (hF.eval rfl)) fun a hF => ?_
          refine wl_v hF rfl rfl rfl (q_lenRd (hO.rd 5 rfl) Try.underlying36 rfl (hF.eval rfl)) fun a hF => ?_
          refine wl_v hF rfl rfl rfl (q_lt rfl (hF.eval rfl) (hF.eval rfl)) fun a hF => ?_
          refine wl_nil ?_
          refine k_n ?_
          refine wp_ifD hF rfl rfl (fun hc13 => ?_) (fun hc13 => ?_)
          · skip
            refine wp_skip ?_
            refine k_n ?_
            refine wp_seq ?_
            refine wp_block ?_
            have hO := hO.drew
            refine wp_region_D [0, 0, 0, 0, 0, 1, 0, 0, 0, 1, 0, 0, 0] (fun w => St _ _ w _) Try_mixed (by kernel_rfl) hO ?_
            refine wd_p hF rfl rfl rfl (fun w => q_move rfl (hF.eval rfl)) fun a hF => ?_
            refine wd_p hF rfl rfl rfl (fun w => q_move rfl (hF.eval rfl)) fun a hF => ?_
            refine wd_gp hF rfl rfl rfl rfl rfl rfl (fun hg w => q_move rfl (hF.eval rfl)) fun a hF => ?_
            refine wd_gp hF rfl rfl rfl rfl rfl rfl (fun hg w => q_move rfl (hF.eval rfl)) fun a hF => ?_
            obtain ⟨r, hr⟩ := get_ex (l := (sortF h.rem)) (i := k) (by omega)
            refine wd_gp hF rfl rfl rfl rfl rfl rfl (fun hg w => q_at (i := k) (hO.rd 5 rfl) Try.underlying36 Try.sizeOf3 rfl ((hF.eval rfl).trans (gv_of hg)) ((hF.eval rfl).trans (gv_of hg)) (by omega)) fun a hF => ?_
            refine wd_gr hF rfl rfl rfl rfl rfl rfl (fun hg w hO => q_load Try.isAgg3 rfl ((hF.eval rfl).trans (gv_of hg)) (RdT.cell0 (hO.rdT 5 rfl) hr rfl)) fun a hF => ?_
            refine wd_gp hF rfl rfl rfl rfl rfl rfl (fun hg w => q_move rfl (hF.eval rfl)) fun a hF => ?_
            refine wd_gp hF rfl rfl rfl rfl rfl rfl (fun hg w => q_move rfl (hF.eval rfl)) fun a hF => ?_
            refine wd_gp hF rfl rfl rfl rfl rfl rfl (fun hg w => q_at (i := m) (hO.rd 4 rfl) Try.underlying36 Try.sizeOf3 rfl ((hF.eval rfl).trans (gv_of hg)) ((hF.eval rfl).trans (gv_of hg)) (by omega)) fun a hF => ?_
            refine wd_gr hF rfl rfl rfl rfl rfl rfl (fun hg w hO => q_load Try.isAgg3 rfl ((hF.eval rfl).trans (gv_of hg)) (RdT.cell0 (hO.rdT 4 rfl) hx rfl)) fun a hF => ?_
            refine wd_gp hF rfl rfl rfl rfl rfl rfl (fun hg w => q_eq rfl ((hF.eval rfl).trans (gv_of hg)) ((hF.eval rfl).trans (gv_of hg))) fun a hF => ?_
            refine wd_p hF rfl rfl rfl (fun w => q_or rfl (hF.eval rfl) (dec_b _) (fun hg2 => ((hF.eval rfl).trans (gv_of hg2))) rfl) fun a hF => ?_
            refine wd_p hF rfl rfl rfl (fun w => q_assign rfl (hF.eval rfl)) fun a hF => ?_
            refine wd_nil ?_
            refine b_n ?_
            refine k_n ?_
            refine wp_region_lit ?_
            refine wl_v hF rfl rfl rfl (q_move rfl (hF.eval rfl)) fun a hF => ?_
            refine wl_v hF rfl rfl rfl (q_add rfl (hF.eval rfl) (hF.eval rfl) (by omega)) fun a hF => ?_
            refine wl_v hF rfl rfl rfl (q_assign rfl (hF.eval rfl)) fun a hF => ?_
            refine wl_nil ?_
            refine k_n ?_
            have hO : St _ _ _ [_, _, _, _, _, _] := hO
            exact ⟨(k + 1, decide (is = true ∨ r = x)), ⟨⟨by omega, by rw [cont_on hr, ← his]⟩, hO, hF.sub ⟨rfl, rfl, rfl, rfl, rfl, rfl, trivial⟩⟩, by dsimp only; omega⟩
          · skip
            refine wp_exit ?_
            refine k_x ?_
            refine k_x ?_
            refine b_x ?_
            refine k_n ?_
            refine wp_seq ?_
            refine wp_region_lit ?_
            refine wl_v hF rfl rfl rfl (q_move rfl (hF.eval rfl)) fun a hF => ?_
            refine wl_v hF rfl rfl rfl (q_move rfl (hF.eval rfl)) fun a hF => ?_
            refine wl_v hF rfl rfl rfl (q_move rfl (hF.eval rfl)) fun a hF => ?_
            refine wl_v hF rfl rfl rfl (q_at (i := m) (hO.rd 4 rfl) Try.underlying36 Try.sizeOf3 rfl (hF.eval rfl) (hF.eval rfl) (by omega)) fun a hF => ?_
            refine wl_v hF rfl rfl rfl (q_load Try.isAgg3 rfl (hF.eval rfl) (RdT.cell0 (hO.rdT 4 rfl) hx rfl)) fun a hF => ?_
            refine wl_e hF rfl rfl rfl (c_call hF rfl rfl Try.call18 (object_r _ _ _ _ _ _ (hO.hr 0 1 2 3 rfl rfl rfl rfl) hC.sep.wf _)) ?_
            rintro a _ w ⟨vo, ro, hro, rfl, hS⟩ hF
            have hO := hO.call0 hS
            have hO : St _ _ _ [_, _, _, _, _, _, _] := hO
            rw [hro] at hl1 hl2
            have hfl := RdT.lenle (hO.rdT 0 rfl)
            obtain ⟨Ao, co, rfl, _⟩ := Rd.is (hO.rd 0 rfl)
            refine wl_v hF rfl rfl rfl (q_move rfl (hF.eval rfl)) fun a hF => ?_
            refine wl_v hF rfl rfl rfl (q_extract rfl (hF.eval rfl) rfl) fun a hF => ?_
            refine wl_v hF rfl rfl rfl (q_extract rfl (hF.eval rfl) rfl) fun a hF => ?_
            refine wl_e hF rfl rfl rfl (e_alloc hO Try.zeroValue42 rfl rfl) ?_
            rintro a _ w ⟨o1, rfl, hO⟩ hF
            refine wl_s hF rfl rfl (e_storeAll hO (i := 0) rfl Try.sizeOf42 rfl (hF.eval rfl) (hF.eval rfl) rfl rfl) ?_
            rintro a _ w ⟨-, hO⟩ hF
            have hO : St _ _ _ [_, _, _, _, _, _, _, _] := hO
            refine wl_v hF rfl rfl rfl (q_assign rfl (hF.eval rfl)) fun a hF => ?_
            refine wl_nil ?_
            refine k_n ?_
            refine wp_seq ?_
            refine wp_seq ?_
            refine wp_region_lit ?_
            refine wl_v hF rfl rfl rfl (q_move rfl (hF.eval rfl)) fun a hF => ?_
            refine wl_v hF rfl rfl rfl (q_ne rfl (hF.eval rfl) (hF.eval rfl)) fun a hF => ?_
            refine wl_nil ?_
            refine k_n ?_
            refine wp_ifD hF rfl rfl (fun hc14 => ?_) (fun hc14 => ?_)
            · skip
              exact absurd hl1 hc14
            · skip
              refine wp_skip ?_
              refine k_n ?_
              refine wp_seq ?_
              refine wp_region_lit ?_
              refine wl_v hF rfl rfl rfl (q_assign rfl (hF.eval rfl)) fun a hF => ?_
              refine wl_nil ?_
              refine k_n ?_
              refine wp_block ?_
              have hO := hO.pull 1 rfl
              have hO := hO.pull 7 rfl
              have hO := hO.pull 7 rfl
              have hO := hO.pull 7 rfl
              have hO := hO.pull 7 rfl
              have hO := hO.pull 7 rfl
              have hO := hO.pull 7 rfl
              have hO : St _ _ _ [_, _, _, _, _, _, _, _] := hO
              refine wp_loopS (fun (j : Nat) a w' => (j ≤ ro.1.fields.length) ∧ St w0 [] w' [.ob bh 77 (hpC vw vh vr h), slT vw 27 wordE h.words, slT vh 84 headE h.heads, slT vr 3 intE h.rem, slT va 3 intE all, slT v9 3 intE (sortF h.rem), slT (.slice Ao ro.1.fields.length co) 27 wordE ro.1.fields, .ob o1 42 [i64 ro.1.kind, i64 ro.1.info, .slice Ao ro.1.fields.length co]] ∧ Fr a 187 [(3, ptr (adr bh)), (5, va), (13, v9), (14, i64 m), (15, .bool is), (17, ptr (adr o1)), (19, i64 j)]) (fun (j : Nat) => ro.1.fields.length - j) 0 ⟨by omega, hO, hF.sub ⟨rfl, rfl, rfl, rfl, rfl, rfl, rfl, trivial⟩⟩ ?_
              rintro j a w ⟨hj, hO, hF⟩
              refine wp_seq ?_
              refine wp_seq ?_
              refine wp_region_lit ?_
              refine wl_v hF rfl rfl rfl (q_move rfl (hF.eval rfl)) fun a hF => ?_
              refine wl_v hF rfl rfl rfl (q_fieldAddr0 (d := 2) Try.underlying42 rfl (hF.eval rfl) rfl Try.sizeOf37 (by decide) rfl) fun a hF => ?_
              refine wl_v hF rfl rfl rfl (q_load Try.isAgg37 rfl (hF.eval rfl) (hO.cell 7 rfl rfl)) fun a hF => ?_
              refine wl_v hF rfl rfl rfl (q_lenRd (hO.rd 6 rfl) Try.underlying37 rfl (hF.eval rfl)) fun a hF => ?_
              refine wl_v hF rfl rfl rfl (q_lt rfl (hF.eval rfl) (hF.eval rfl)) fun a hF => ?_
              refine wl_nil ?_
              refine k_n ?_
              refine wp_ifD hF rfl rfl (fun hc15 => ?_) (fun hc15 => ?_)
              · skip
                refine wp_skip ?_
                refine k_n ?_
                refine wp_seq ?_
                refine wp_block ?_
                refine wp_seq ?_
                refine wp_region_lit ?_
                refine wl_v hF rfl rfl rfl (q_fieldAddr0 (d := 2) Try.underlying42 rfl (hF.eval rfl) rfl Try.sizeOf37 (by decide) rfl) fun a hF => ?_
                refine wl_v hF rfl rfl rfl (q_load Try.isAgg37 rfl (hF.eval rfl) (hO.cell 7 rfl rfl)) fun a hF => ?_
                refine wl_v hF rfl rfl rfl (q_move rfl (hF.eval rfl)) fun a hF => ?_
                obtain ⟨f, hf⟩ := get_ex (l := ro.1.fields) (i := j) (by omega)
                refine wl_v hF rfl rfl rfl (q_at (i := j) (hO.rd 6 rfl) Try.underlying37 Try.sizeOf27 rfl (hF.eval rfl) (hF.eval rfl) (by omega)) fun a hF => ?_
                refine wl_v hF rfl rfl rfl (q_fieldAddr0 (d := 0) Try.underlying27 rfl (hF.eval rfl) rfl Try.sizeOf4 (by decide) rfl) fun a hF => ?_
                refine wl_v hF rfl rfl rfl (q_load Try.isAgg4 rfl (hF.eval rfl) (RdT.cells (hO.rdT 6 rfl) hf _ _ rfl)) fun a hF => ?_
                refine wl_v hF rfl rfl rfl (q_move rfl (hF.eval rfl)) fun a hF => ?_
                refine wl_g hF rfl rfl rfl rfl rfl rfl (fun hg => q_move rfl (hF.eval rfl)) fun a hF => ?_
                refine wl_g hF rfl rfl rfl rfl rfl rfl (fun hg => q_fieldAddr0 (d := 2) Try.underlying42 rfl (hF.eval rfl) rfl Try.sizeOf37 (by decide) rfl) fun a hF => ?_
                refine wl_g hF rfl rfl rfl rfl rfl rfl (fun hg => q_load Try.isAgg37 rfl ((hF.eval rfl).trans (gv_of hg)) (hO.cell 7 rfl rfl)) fun a hF => ?_
                refine wl_g hF rfl rfl rfl rfl rfl rfl (fun hg => q_move rfl (hF.eval rfl)) fun a hF => ?_
                refine wl_g hF rfl rfl rfl rfl rfl rfl (fun hg => q_at (i := j) (hO.rd 6 rfl) Try.underlying37 Try.sizeOf27 rfl ((hF.eval rfl).trans (gv_of hg)) ((hF.eval rfl).trans (gv_of hg)) (by omega)) fun a hF => ?_
                refine wl_g hF rfl rfl rfl rfl rfl rfl (fun hg => q_fieldAddr0 (d := 1) Try.underlying27 rfl ((hF.eval rfl).trans (gv_of hg)) rfl Try.sizeOf3 (by decide) rfl) fun a hF => ?_
                refine wl_g hF rfl rfl rfl rfl rfl rfl (fun hg => q_load Try.isAgg3 rfl ((hF.eval rfl).trans (gv_of hg)) (RdT.cells (hO.rdT 6 rfl) hf _ _ rfl)) fun a hF => ?_
                refine wl_gk hO hF rfl rfl rfl rfl rfl rfl (fun hg => c_callG hF rfl rfl (by first | with_reducible rfl | (simp only [gv_of hg]; done) | (simp only [gv_of hg]; rfl)) Try.call26 (young_r _ _ _ _ _ _ (hO.hr 0 1 2 3 rfl rfl rfl rfl) _)) fun a w hO hF => ?_
                refine wl_v hF rfl rfl rfl (q_and rfl (hF.eval rfl) (dec_b _) (fun hg2 => ((hF.eval rfl).trans (gv_of hg2))) rfl) fun a hF => ?_
                refine wl_v hF rfl rfl rfl (q_move rfl (hF.eval rfl)) fun a hF => ?_
                refine wl_g hF rfl rfl rfl rfl rfl rfl (fun hg => q_move rfl (hF.eval rfl)) fun a hF => ?_
                refine wl_g hF rfl rfl rfl rfl rfl rfl (fun hg => q_not rfl ((hF.eval rfl).trans (gv_of hg)) (dec_b _)) fun a hF => ?_
                refine wl_v hF rfl rfl rfl (q_and rfl (hF.eval rfl) rfl (fun hg2 => ((hF.eval rfl).trans (gv_of hg2))) rfl) fun a hF => ?_
                refine wl_nil ?_
                refine k_n ?_
                refine wp_ifD hF rfl rfl (fun hc16 => ?_) (fun hc16 => ?_)
                · skip
                  exact absurd (by rw [his, show k = (sortF h.rem).length by omega, List.take_length]; exact List.contains_iff_mem.2 (sort_mem.2 (hl2 f (List.mem_of_getElem? hf) hc16.1.1 hc16.1.2))) hc16.2
                · skip
                  refine wp_skip ?_
                  refine b_n ?_
                  refine k_n ?_
                  refine wp_region_lit ?_
                  refine wl_v hF rfl rfl rfl (q_move rfl (hF.eval rfl)) fun a hF => ?_
                  refine wl_v hF rfl rfl rfl (q_add rfl (hF.eval rfl) (hF.eval rfl) (by omega)) fun a hF => ?_
                  refine wl_v hF rfl rfl rfl (q_assign rfl (hF.eval rfl)) fun a hF => ?_
                  refine wl_nil ?_
                  refine k_n ?_
                  have hO : St _ _ _ [_, _, _, _, _, _, _, _] := hO
                  exact ⟨j + 1, ⟨by omega, hO, hF.sub ⟨rfl, rfl, rfl, rfl, rfl, rfl, rfl, trivial⟩⟩, by omega⟩
              · skip
                refine wp_exit ?_
                refine k_x ?_
                refine k_x ?_
                refine b_x ?_
                refine b_n ?_
                refine k_n ?_
                refine wp_region_lit ?_
                refine wl_v hF rfl rfl rfl (q_move rfl (hF.eval rfl)) fun a hF => ?_
                refine wl_v hF rfl rfl rfl (q_add rfl (hF.eval rfl) (hF.eval rfl) (by omega)) fun a hF => ?_
                refine wl_v hF rfl rfl rfl (q_assign rfl (hF.eval rfl)) fun a hF => ?_
                refine wl_nil ?_
                refine k_n ?_
                have hO := hO.drop1 6
                have hO := hO.drop1 6
                have hO : St _ _ _ [_, _, _, _, _, _] := hO
                exact ⟨m + 1, ⟨by omega, hO, hF.sub ⟨rfl, rfl, rfl, rfl, trivial⟩⟩, by omega⟩
      · skip
        refine wp_exit ?_
        refine k_x ?_
        refine k_x ?_
        refine b_x ?_
        refine k_n ?_
        refine wp_seq ?_
        refine wp_region_lit ?_
        refine wl_e hF rfl rfl rfl (c_call hF rfl rfl Try.call15 (awake_r _)) ?_
        rintro a _ w ⟨rfl, hS⟩ hF
        have hO := hO.call0 hS
        have hO : St _ _ _ [_, _, _, _, _, _] := hO
        refine wl_v hF rfl rfl rfl (q_assign rfl (hF.eval rfl)) fun a hF => ?_
        refine wl_nil ?_
        refine k_n ?_
        refine wp_ret ?_
        refine r_1 hF rfl rfl ?_
        have hO := hO.drop1 0
        have hO := hO.drop1 0
        have hO := hO.drop1 0
        have hO := hO.drop1 0
        have hO := hO.drop1 0
        have hO := hO.drop1 0
        have hO : St _ _ _ [] := hO
        exact ⟨rfl, hO⟩

end Go.Proofs.Ytglienidnffnjaa
