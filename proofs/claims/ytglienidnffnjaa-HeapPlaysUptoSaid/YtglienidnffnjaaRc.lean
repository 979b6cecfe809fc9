import Derived.Test.YtglienidnffnjaaRb
import Derived.Test.YtglienidnffnjaaQc
import Derived.Test.YtglienidnffnjaaQd
import Derived.Test.YtglienidnffnjaaQh
import Derived.Test.YtglienidnffnjaaQi
import Derived.Test.YtglienidnffnjaaPl25
namespace Go.Proofs.Ytglienidnffnjaa
open Go
set_option maxRecDepth 100000
set_option linter.unusedVariables false
set_option maxHeartbeats 8000000 in
theorem hplaysG_r (w0 : World) (yg o : Int) (vl : Value) (l : List OpV) (hR : RdT w0 [] vl opE l) (hQ : ∀ x ∈ l, opQ w0 x) (hnb : ¬ newBad yg o) : Ret Try.prog 7 #[i64 yg, i64 o, vl] w0 (fun v w' => v = .bool true ∧ St w0 [] w' []) := by
  have hO := St.init0 w0
  have hll := RdT.lenle hR
  refine ret_of (m := 370) Try.func7 rfl Try.ntmps7 [(0, i64 yg), (1, i64 o), (2, vl)] rfl ⟨rfl, rfl, rfl, trivial⟩ fun a hF => ?_
  refine wp_seq ?_
  refine wp_region_lit ?_
  refine wl_v hF rfl rfl rfl (q_assign rfl (hF.eval rfl)) fun a hF => ?_
  refine wl_nil ?_
  refine k_n ?_
  refine wp_seq ?_
  refine wp_region_lit ?_
  refine wl_v hF rfl rfl rfl (q_move rfl (hF.eval rfl)) fun a hF => ?_
  refine wl_v hF rfl rfl rfl (q_move rfl (hF.eval rfl)) fun a hF => ?_
  refine wl_e hF rfl rfl rfl (c_call hF rfl rfl Try.call11 (newOk_r _ _ _ hnb)) ?_
  rintro a _ w ⟨bh, vw, vh, vr, rfl, hS⟩ hF
  have hO := hO.call0 hS
  have hO : St _ _ _ [_, _, _, _] := hO
  refine wl_v hF rfl rfl rfl (q_move rfl (hF.eval rfl)) fun a hF => ?_
  refine wl_v hF rfl rfl rfl (q_extract rfl (hF.eval rfl) rfl) fun a hF => ?_
  refine wl_v hF rfl rfl rfl (q_extract rfl (hF.eval rfl) rfl) fun a hF => ?_
  refine wl_v hF rfl rfl rfl (q_assign rfl (hF.eval rfl)) fun a hF => ?_
  refine wl_v hF rfl rfl rfl (q_assign rfl (hF.eval rfl)) fun a hF => ?_
  refine wl_nil ?_
  refine k_n ?_
  refine wp_seq ?_
  refine wp_region_lit ?_
  refine wl_v hF rfl rfl rfl (q_move rfl (hF.eval rfl)) fun a hF => ?_
  refine wl_v hF rfl rfl rfl (q_move rfl (hF.eval rfl)) fun a hF => ?_
  refine wl_e hF rfl rfl rfl (c_call hF rfl rfl Try.call27 (newQ_r _ _ _ hnb)) ?_
  rintro a _ w ⟨br, rfl, hS⟩ hF
  have hO := hO.call0 hS
  have hO : St _ _ _ [_, _, _, _, _, _, _] := hO
  refine wl_v hF rfl rfl rfl (q_move rfl (hF.eval rfl)) fun a hF => ?_
  refine wl_v hF rfl rfl rfl (q_extract rfl (hF.eval rfl) rfl) fun a hF => ?_
  refine wl_v hF rfl rfl rfl (q_extract rfl (hF.eval rfl) rfl) fun a hF => ?_
  refine wl_v hF rfl rfl rfl (q_assign rfl (hF.eval rfl)) fun a hF => ?_
  refine wl_v hF rfl rfl rfl (q_assign rfl (hF.eval rfl)) fun a hF => ?_
  refine wl_nil ?_
  refine k_n ?_
  refine wp_seq ?_
  refine wp_seq ?_
  refine wp_region_lit ?_
  refine wl_v hF rfl rfl rfl (q_move rfl (hF.eval rfl)) fun a hF => ?_
  refine wl_v hF rfl rfl rfl (q_move rfl (hF.eval rfl)) fun a hF => ?_
  refine wl_v hF rfl rfl rfl (q_ne rfl (hF.eval rfl) (hF.eval rfl)) fun a hF => ?_
  refine wl_v hF rfl rfl rfl (q_move rfl (hF.eval rfl)) fun a hF => ?_
  refine wl_g hF rfl rfl rfl rfl rfl rfl (fun hg => q_move rfl (hF.eval rfl)) fun a hF => ?_
  refine wl_g hF rfl rfl rfl rfl rfl rfl (fun hg => q_pne Try.underlying22 rfl ((hF.eval rfl).trans (gv_of hg)) (hF.eval rfl)) fun a hF => ?_
  refine wl_g hF rfl rfl rfl rfl rfl rfl (fun hg => q_move rfl (hF.eval rfl)) fun a hF => ?_
  refine wl_g hF rfl rfl rfl rfl rfl rfl (fun hg => q_eq rfl ((hF.eval rfl).trans (gv_of hg)) (hF.eval rfl)) fun a hF => ?_
  refine wl_g hF rfl rfl rfl rfl rfl rfl (fun hg => q_bne Try.underlying4 rfl ((hF.eval rfl).trans (gv_of hg)) ((hF.eval rfl).trans (gv_of hg))) fun a hF => ?_
  refine wl_v hF rfl rfl rfl (q_or rfl (hF.eval rfl) rfl (fun hg2 => ((hF.eval rfl).trans (gv_of hg2))) rfl) fun a hF => ?_
  refine wl_nil ?_
  refine k_n ?_
  refine wp_ifD hF rfl rfl (fun hc1 => ?_) (fun hc1 => ?_)
  · skip
    exact absurd hc1 (by simp)
  · skip
    refine wp_skip ?_
    refine k_n ?_
    refine wp_seq ?_
    refine wp_seq ?_
    refine wp_region_lit ?_
    refine wl_v hF rfl rfl rfl (q_move rfl (hF.eval rfl)) fun a hF => ?_
    refine wl_v hF rfl rfl rfl (q_ne rfl (hF.eval rfl) (hF.eval rfl)) fun a hF => ?_
    refine wl_nil ?_
    refine k_n ?_
    refine wp_ifD hF rfl rfl (fun hc2 => ?_) (fun hc2 => ?_)
    · skip
      exact absurd rfl hc2
    · skip
      refine wp_skip ?_
      refine k_n ?_
      refine wp_seq ?_
      refine wp_region_lit ?_
      refine wl_v hF rfl rfl rfl (q_assign rfl (hF.eval rfl)) fun a hF => ?_
      have hO := hO.nilSl 3 1
      refine wl_nil ?_
      refine k_n ?_
      refine wp_seq ?_
      refine wp_seq ?_
      refine wp_region_lit ?_
      refine wl_v hF rfl rfl rfl (q_assign rfl (hF.eval rfl)) fun a hF => ?_
      refine wl_nil ?_
      refine k_n ?_
      refine wp_block ?_
      have hO := hO.pull 3 rfl
      have hO := hO.pull 3 rfl
      have hO := hO.pull 3 rfl
      have hO := hO.pull 7 rfl
      have hO := hO.pull 7 rfl
      have hO := hO.pull 7 rfl
      have hO := hO.pull 7 rfl
      have hO : St _ _ _ [_, _, _, _, _, _, _, _] := hO
      refine wp_loopS (fun (q : Nat × Hp × Value × RH × List Int × Value) a w' => match q with | (i, h, vr, R, all, va) => (Rel h R ∧ R.O = o ∧ i ≤ l.length ∧ i ≤ 500 ∧ all.length ≤ i) ∧ St w0 [] w' [.ob bh 77 (hpC vw vh vr h), slT vw 27 wordE h.words, slT vh 84 headE h.heads, slT vr 3 intE h.rem, .ob br 94 (rfC R), Ent.grp (pgE 99 R), Ent.grp (rowsE 27 R), slT va 3 intE all] ∧ Fr a 370 [(1, i64 o), (2, vl), (7, ptr (adr bh)), (9, ptr (adr br)), (11, va), (12, i64 i)]) (fun (q : Nat × Hp × Value × RH × List Int × Value) => match q with | (i, h, vr, R, all, va) => l.length - i) (0, newH yg o, vr, newR yg o, [], _) ⟨⟨rel_new hnb, rfl, by omega, by omega, Nat.le_refl _⟩, hO, hF.sub ⟨rfl, rfl, rfl, rfl, rfl, rfl, trivial⟩⟩ ?_
      rintro ⟨i, h, vr, R, all, va⟩ a w ⟨⟨hC, hRO, hil, hi5, hal⟩, hO, hF⟩
      refine wp_seq ?_
      refine wp_seq ?_
      refine wp_region_lit ?_
      refine wl_v hF rfl rfl rfl (q_move rfl (hF.eval rfl)) fun a hF => ?_
      refine wl_v hF rfl rfl rfl (q_move rfl (hF.eval rfl)) fun a hF => ?_
      refine wl_v hF rfl rfl rfl (q_lenRd hR Try.underlying35 rfl (hF.eval rfl)) fun a hF => ?_
      refine wl_v hF rfl rfl rfl (q_lt rfl (hF.eval rfl) (hF.eval rfl)) fun a hF => ?_
      refine wl_v hF rfl rfl rfl (q_move rfl (hF.eval rfl)) fun a hF => ?_
      refine wl_g hF rfl rfl rfl rfl rfl rfl (fun hg => q_move rfl (hF.eval rfl)) fun a hF => ?_
      refine wl_g hF rfl rfl rfl rfl rfl rfl (fun hg => q_lt rfl ((hF.eval rfl).trans (gv_of hg)) (hF.eval rfl)) fun a hF => ?_
      refine wl_v hF rfl rfl rfl (q_and rfl (hF.eval rfl) rfl (fun hg2 => ((hF.eval rfl).trans (gv_of hg2))) rfl) fun a hF => ?_
      refine wl_nil ?_
      refine k_n ?_
      refine wp_ifD hF rfl rfl (fun hc3 => ?_) (fun hc3 => ?_)
      · skip
        have hi : i < 500 := by omega
        refine wp_skip ?_
        refine k_n ?_
        refine wp_seq ?_
        refine wp_block ?_
        refine wp_seq ?_
        refine wp_region_lit ?_
        refine wl_v hF rfl rfl rfl (q_move rfl (hF.eval rfl)) fun a hF => ?_
        refine wl_v hF rfl rfl rfl (q_move rfl (hF.eval rfl)) fun a hF => ?_
        obtain ⟨x, hx⟩ := get_ex (l := l) (i := i) (by omega)
        refine wl_v hF rfl rfl rfl (q_at (i := i) hR Try.underlying35 Try.sizeOf39 rfl (hF.eval rfl) (hF.eval rfl) (by omega)) fun a hF => ?_
        refine wl_v hF rfl rfl rfl (q_loadAgg Try.isAgg39 Try.sizeOf39 rfl (hF.eval rfl) (RdT.cells (hR.now hO) hx) rfl) fun a hF => ?_
        refine wl_e hF rfl rfl rfl (e_alloc hO Try.zeroValue39 rfl rfl) ?_
        rintro a _ w ⟨op, rfl, hO⟩ hF
        have hxq := hQ x (List.mem_of_getElem? hx)
        have hxf := hxq.1
        have hwl : (wordsF x.fs x.raw all).length = x.fs.length := List.length_map ..
        have hxl := hxq.2
        refine wl_s hF rfl rfl (e_storeAll hO (i := 0) rfl Try.sizeOf39 rfl (hF.eval rfl) (hF.eval rfl) rfl rfl) ?_
        rintro a _ w ⟨-, hO⟩ hF
        have hO : St _ _ _ [_, _, _, _, _, _, _, _, _] := hO
        refine wl_nil ?_
        refine k_n ?_
        refine wp_seq ?_
        refine wp_region_lit ?_
        refine wl_v hF rfl rfl rfl (q_fieldAddr0 (d := 5) Try.underlying39 rfl (hF.eval rfl) rfl Try.sizeOf3 (by decide) rfl) fun a hF => ?_
        refine wl_v hF rfl rfl rfl (q_load Try.isAgg3 rfl (hF.eval rfl) (hO.cell 0 rfl rfl)) fun a hF => ?_
        refine wl_v hF rfl rfl rfl (q_fieldAddr0 (d := 4) Try.underlying39 rfl (hF.eval rfl) rfl Try.sizeOf4 (by decide) rfl) fun a hF => ?_
        refine wl_v hF rfl rfl rfl (q_load Try.isAgg4 rfl (hF.eval rfl) (hO.cell 0 rfl rfl)) fun a hF => ?_
        refine wl_v hF rfl rfl rfl (q_move rfl (hF.eval rfl)) fun a hF => ?_
        refine wl_e hF rfl rfl rfl (c_call hF rfl rfl Try.call21 (where_r _ _ _ _ _ (hO.rdT 8 rfl))) ?_
        rintro a _ w ⟨rfl, hS⟩ hF
        have hO := hO.call0 hS
        have hO : St _ _ _ [_, _, _, _, _, _, _, _, _] := hO
        refine wl_v hF rfl rfl rfl (q_assign rfl (hF.eval rfl)) fun a hF => ?_
        refine wl_nil ?_
        refine k_n ?_
        refine wp_seq ?_
        refine wp_region_lit ?_
        refine wl_v hF rfl rfl rfl (q_fieldAddr0 (d := 3) Try.underlying39 rfl (hF.eval rfl) rfl Try.sizeOf37 (by decide) rfl) fun a hF => ?_
        refine wl_v hF rfl rfl rfl (q_load Try.isAgg37 rfl (hF.eval rfl) (hO.cell 0 rfl rfl)) fun a hF => ?_
        refine wl_v hF rfl rfl rfl (q_fieldAddr0 (d := 4) Try.underlying39 rfl (hF.eval rfl) rfl Try.sizeOf4 (by decide) rfl) fun a hF => ?_
        refine wl_v hF rfl rfl rfl (q_load Try.isAgg4 rfl (hF.eval rfl) (hO.cell 0 rfl rfl)) fun a hF => ?_
        refine wl_v hF rfl rfl rfl (q_move rfl (hF.eval rfl)) fun a hF => ?_
        refine wl_e hF rfl rfl rfl (c_call hF rfl rfl Try.call22 (words_r _ _ _ hxq.2 (hxf.at0 hO) _ _ _ ((hO.rdT 8 rfl)))) ?_
        rintro a vw9 w ⟨_, rfl, hS⟩ hF
        have hO := hO.call0 hS
        have hO : St _ _ _ [_, _, _, _, _, _, _, _, _, _] := hO
        refine wl_v hF rfl rfl rfl (q_assign rfl (hF.eval rfl)) fun a hF => ?_
        refine wl_nil ?_
        refine k_n ?_
        refine wp_seq ?_
        refine wp_region_lit ?_
        refine wl_v hF rfl rfl rfl (q_fieldAddr0 (d := 6) Try.underlying39 rfl (hF.eval rfl) rfl Try.sizeOf3 (by decide) rfl) fun a hF => ?_
        refine wl_v hF rfl rfl rfl (q_load Try.isAgg3 rfl (hF.eval rfl) (hO.cell 1 rfl rfl)) fun a hF => ?_
        refine wl_v hF rfl rfl rfl (c_build hF Try.underlying27 Try.zeroValue27 Try_places27 rfl rfl rfl rfl) fun a hF => ?_
        refine wl_e hF rfl rfl rfl (e_alloc hO Try.zeroValue27 rfl rfl) ?_
        rintro a _ w ⟨ww, rfl, hO⟩ hF
        refine wl_s hF rfl rfl (e_storeAll hO (i := 0) rfl Try.sizeOf27 rfl (hF.eval rfl) (hF.eval rfl) rfl rfl) ?_
        rintro a _ w ⟨-, hO⟩ hF
        have hO : St _ _ _ [_, _, _, _, _, _, _, _, _, _, _] := hO
        refine wl_nil ?_
        refine k_n ?_
        refine wp_seqJ (fun (y : Wd) a w' => (True) ∧ St w0 [] w' [.ob bh 77 (hpC vw vh vr h), slT vw 27 wordE h.words, slT vh 84 headE h.heads, slT vr 3 intE h.rem, .ob br 94 (rfC R), Ent.grp (pgE 99 R), Ent.grp (rowsE 27 R), slT va 3 intE all, .ob op 39 (opE.cells x), slT vw9 27 wordE (wordsF x.fs x.raw all), .ob ww 27 (wordE.cells y)] ∧ Fr a 370 [(1, i64 o), (2, vl), (7, ptr (adr bh)), (9, ptr (adr br)), (11, va), (12, i64 i), (13, ptr (adr op)), (14, i64 (whereF x.at_ x.raw all)), (15, vw9), (16, ptr (adr ww))]) ?_ ?_
        · skip
          refine wp_seq ?_
          refine wp_region_lit ?_
          refine wl_v hF rfl rfl rfl (q_move rfl (hF.eval rfl)) fun a hF => ?_
          refine wl_v hF rfl rfl rfl (q_lenRd (hO.rd 1 rfl) Try.underlying37 rfl (hF.eval rfl)) fun a hF => ?_
          refine wl_v hF rfl rfl rfl (q_gt rfl (hF.eval rfl) (hF.eval rfl)) fun a hF => ?_
          refine wl_nil ?_
          refine k_n ?_
          refine wp_ifD hF rfl rfl (fun hc4 => ?_) (fun hc4 => ?_)
          · skip
            refine wp_region_lit ?_
            refine wl_v hF rfl rfl rfl (q_move rfl (hF.eval rfl)) fun a hF => ?_
            obtain ⟨y0, hy0⟩ := get_ex (l := (wordsF x.fs x.raw all)) (i := 0) (by omega)
            refine wl_v hF rfl rfl rfl (q_at (i := 0) (hO.rd 1 rfl) Try.underlying37 Try.sizeOf27 rfl (hF.eval rfl) (hF.eval rfl) (by omega)) fun a hF => ?_
            refine wl_v hF rfl rfl rfl (q_loadAgg Try.isAgg27 Try.sizeOf27 rfl (hF.eval rfl) (RdT.cells (hO.rdT 1 rfl) hy0) rfl) fun a hF => ?_
            refine wl_s hF rfl rfl (e_storeAll hO (i := 0) rfl Try.sizeOf27 rfl (hF.eval rfl) (hF.eval rfl) rfl rfl) ?_
            rintro a _ w ⟨-, hO⟩ hF
            have hO : St _ _ _ [_, _, _, _, _, _, _, _, _, _, _] := hO
            refine wl_nil ?_
            refine k_n ?_
            have hO := hO.pull 1 rfl
            have hO := hO.pull 2 rfl
            have hO := hO.pull 10 rfl
            have hO := hO.pull 10 rfl
            have hO := hO.pull 10 rfl
            have hO := hO.pull 10 rfl
            have hO := hO.pull 10 rfl
            have hO := hO.pull 10 rfl
            have hO := hO.pull 10 rfl
            have hO := hO.pull 10 rfl
            have hO : St _ _ _ [_, _, _, _, _, _, _, _, _, _, _] := hO
            exact ⟨y0, ⟨trivial, hO, hF.sub ⟨rfl, rfl, rfl, rfl, rfl, rfl, rfl, rfl, rfl, rfl, trivial⟩⟩⟩
          · skip
            refine wp_skip ?_
            refine k_n ?_
            have hO := hO.pull 1 rfl
            have hO := hO.pull 2 rfl
            have hO := hO.pull 10 rfl
            have hO := hO.pull 10 rfl
            have hO := hO.pull 10 rfl
            have hO := hO.pull 10 rfl
            have hO := hO.pull 10 rfl
            have hO := hO.pull 10 rfl
            have hO := hO.pull 10 rfl
            have hO := hO.pull 10 rfl
            have hO : St _ _ _ [_, _, _, _, _, _, _, _, _, _, _] := hO
            exact ⟨⟨false, x.n⟩, ⟨trivial, hO, hF.sub ⟨rfl, rfl, rfl, rfl, rfl, rfl, rfl, rfl, rfl, rfl, trivial⟩⟩⟩
        · skip
          rintro y a w ⟨_, hO, hF⟩
          refine wp_seq ?_
          refine wp_region_lit ?_
          refine wl_v hF rfl rfl rfl (q_assign rfl (hF.eval rfl)) fun a hF => ?_
          refine wl_nil ?_
          refine k_n ?_
          refine wp_seqJ (fun (q : Hp × Value × RH × List Int × Value) a w' => match q with | (h1, vr1, R1, all1, va1) => (Rel h1 R1 ∧ R1.O = o ∧ all1.length ≤ i + 1) ∧ St w0 [] w' [.ob bh 77 (hpC vw vh vr1 h1), slT vw 27 wordE h1.words, slT vh 84 headE h1.heads, slT vr1 3 intE h1.rem, .ob br 94 (rfC R1), Ent.grp (pgE 99 R1), Ent.grp (rowsE 27 R1), slT va1 3 intE all1] ∧ Fr a 370 [(1, i64 o), (2, vl), (7, ptr (adr bh)), (9, ptr (adr br)), (11, va1), (12, i64 i), (14, i64 (whereF x.at_ x.raw all)), (17, .bool true)]) ?_ ?_
          · skip
            refine wp_seq ?_
            refine wp_region_lit ?_
            refine wl_v hF rfl rfl rfl (q_fieldAddr0 (d := 0) Try.underlying39 rfl (hF.eval rfl) rfl Try.sizeOf3 (by decide) rfl) fun a hF => ?_
            refine wl_v hF rfl rfl rfl (q_load Try.isAgg3 rfl (hF.eval rfl) (hO.cell 8 rfl rfl)) fun a hF => ?_
            refine wl_nil ?_
            refine k_n ?_
            refine wp_block ?_
            refine wp_seqJ (fun (b : Bool) a w' => (b = decide (x.ask = 0 ∨ x.ask = 1)) ∧ St w0 [] w' [.ob bh 77 (hpC vw vh vr h), slT vw 27 wordE h.words, slT vh 84 headE h.heads, slT vr 3 intE h.rem, .ob br 94 (rfC R), Ent.grp (pgE 99 R), Ent.grp (rowsE 27 R), slT va 3 intE all, .ob op 39 (opE.cells x), slT vw9 27 wordE (wordsF x.fs x.raw all), .ob ww 27 (wordE.cells y)] ∧ Fr a 370 [(1, i64 o), (2, vl), (7, ptr (adr bh)), (9, ptr (adr br)), (11, va), (12, i64 i), (13, ptr (adr op)), (14, i64 (whereF x.at_ x.raw all)), (15, vw9), (16, ptr (adr ww)), (17, .bool true), (98, i64 x.ask), (99, .bool b)]) ?_ ?_
            · skip
              refine wp_seq ?_
              refine wp_region_lit ?_
              refine wl_v hF rfl rfl rfl (q_eq rfl (hF.eval rfl) (hF.eval rfl)) fun a hF => ?_
              refine wl_v hF rfl rfl rfl (q_assign rfl (hF.eval rfl)) fun a hF => ?_
              refine wl_nil ?_
              refine k_n ?_
              refine wp_ifD hF rfl rfl (fun hc5 => ?_) (fun hc5 => ?_)
              · skip
                refine wp_skip ?_
                refine k_n ?_
                have hO : St _ _ _ [_, _, _, _, _, _, _, _, _, _, _] := hO
                exact ⟨_, ⟨by simp [hc5], hO, hF.sub ⟨rfl, rfl, rfl, rfl, rfl, rfl, rfl, rfl, rfl, rfl, rfl, rfl, rfl, trivial⟩⟩⟩
              · skip
                refine wp_region_lit ?_
                refine wl_v hF rfl rfl rfl (q_eq rfl (hF.eval rfl) (hF.eval rfl)) fun a hF => ?_
                refine wl_v hF rfl rfl rfl (q_assign rfl (hF.eval rfl)) fun a hF => ?_
                refine wl_nil ?_
                refine k_n ?_
                have hO : St _ _ _ [_, _, _, _, _, _, _, _, _, _, _] := hO
                exact ⟨_, ⟨by simp [hc5], hO, hF.sub ⟨rfl, rfl, rfl, rfl, rfl, rfl, rfl, rfl, rfl, rfl, rfl, rfl, rfl, trivial⟩⟩⟩
            · skip
              rintro b a w ⟨hb9, hO, hF⟩
              refine wp_ifD hF rfl (dec_b _) (fun hc6 => ?_) (fun hc6 => ?_)
              · skip
                have hask : x.ask = 0 ∨ x.ask = 1 := of_decide_eq_true (hb9.symm.trans hc6)
                refine wp_seq ?_
                refine wp_region_lit ?_
                refine wl_e hF rfl rfl rfl (e_build0 hO Try.underlying37 Try.sizeOf27 rfl) ?_
                rintro a _ w ⟨ow, rfl, hO⟩ hF
                have hO : St _ _ _ [slT _ 27 wordE [], _, _, _, _, _, _, _, _, _, _, _] := hO
                refine wl_v hF rfl rfl rfl (q_move rfl (hF.eval rfl)) fun a hF => ?_
                refine wl_e hF rfl rfl rfl (e_appendT (bytes := 16) (r := (wordsF x.fs x.raw all)) hO (i := 0) rfl (hO.rd 10 rfl) Try.underlying37 Try_info27 rfl rfl rfl rfl rfl rfl (hF.eval rfl) (hF.eval rfl) (by show (0 + List.length (wordsF _ _ _)) * 16 ≤ _; rw [hwl]; omega) (by show 0 + List.length (wordsF _ _ _) ≤ _; rw [hwl]; omega)) ?_
                rintro a vow w hO hF
                have hO : St _ _ _ [_, _, _, _, _, _, _, _, _, _, _, _] := hO
                have hO : St _ _ _ [slT vow 27 wordE (wordsF x.fs x.raw all), _, _, _, _, _, _, _, _, _, _, _] := hO
                refine wl_v hF rfl rfl rfl (q_assign rfl (hF.eval rfl)) fun a hF => ?_
                refine wl_nil ?_
                refine k_n ?_
                refine wp_seq ?_
                refine wp_region_lit ?_
                refine wl_v hF rfl rfl rfl (q_move rfl (hF.eval rfl)) fun a hF => ?_
                refine wl_v hF rfl rfl rfl (q_fieldAddr0 (d := 1) Try.underlying39 rfl (hF.eval rfl) rfl Try.sizeOf3 (by decide) rfl) fun a hF => ?_
                refine wl_v hF rfl rfl rfl (q_load Try.isAgg3 rfl (hF.eval rfl) (hO.cell 9 rfl rfl)) fun a hF => ?_
                refine wl_v hF rfl rfl rfl (q_fieldAddr0 (d := 2) Try.underlying39 rfl (hF.eval rfl) rfl Try.sizeOf3 (by decide) rfl) fun a hF => ?_
                refine wl_v hF rfl rfl rfl (q_load Try.isAgg3 rfl (hF.eval rfl) (hO.cell 9 rfl rfl)) fun a hF => ?_
                refine wl_v hF rfl rfl rfl (q_move rfl (hF.eval rfl)) fun a hF => ?_
                have hO := hO.pull 4 rfl
                have hO := hO.pull 4 rfl
                have hO := hO.pull 4 rfl
                have hO := hO.pull 4 rfl
                have hO : St _ _ _ [_, _, _, _, _, _, _, _, _, _, _, _] := hO
                refine wl_e hF rfl rfl rfl (c_call hF rfl rfl Try.call12 (alloc_r _ _ _ _ _ _ hO.own4 hC.sep.wf (Nat.le_trans hC.rlen (by decide)) _ _ _ (wordsF x.fs x.raw all) (hO.rdT4 0 rfl))) ?_
                rintro a _ w ⟨vr, r1, h1, hl1, rfl, hS⟩ hF
                have hO := hO.call4 hS
                have hO : St _ _ _ [_, _, _, _, _, _, _, _, _, _, _, _] := hO
                refine wl_v hF rfl rfl rfl (q_move rfl (hF.eval rfl)) fun a hF => ?_
                refine wl_v hF rfl rfl rfl (q_extract rfl (hF.eval rfl) rfl) fun a hF => ?_
                refine wl_v hF rfl rfl rfl (q_extract rfl (hF.eval rfl) rfl) fun a hF => ?_
                refine wl_v hF rfl rfl rfl (q_assign rfl (hF.eval rfl)) fun a hF => ?_
                refine wl_v hF rfl rfl rfl (q_assign rfl (hF.eval rfl)) fun a hF => ?_
                refine wl_nil ?_
                refine k_n ?_
                refine wp_seqJ (fun (n : Int × Int) a w' => match n with | (n1, n2) => (x.ask = 0 → n1 = r1.1 ∧ n2 = r1.2) ∧ St w0 [] w' [.ob bh 77 (hpC vw vh vr h1), slT vw 27 wordE h1.words, slT vh 84 headE h1.heads, slT vr 3 intE h1.rem, .ob br 94 (rfC R), Ent.grp (pgE 99 R), Ent.grp (rowsE 27 R), slT va 3 intE all, .ob op 39 (opE.cells x), slT vw9 27 wordE (wordsF x.fs x.raw all), .ob ww 27 (wordE.cells y), slT vow 27 wordE (wordsF x.fs x.raw all)] ∧ Fr a 370 [(1, i64 o), (2, vl), (7, ptr (adr bh)), (9, ptr (adr br)), (11, va), (12, i64 i), (13, ptr (adr op)), (14, i64 (whereF x.at_ x.raw all)), (15, vw9), (16, ptr (adr ww)), (18, vow), (19, i64 n1), (20, i64 n2)]) ?_ ?_
                · skip
                  refine wp_seq ?_
                  refine wp_region_lit ?_
                  refine wl_v hF rfl rfl rfl (q_fieldAddr0 (d := 0) Try.underlying39 rfl (hF.eval rfl) rfl Try.sizeOf3 (by decide) rfl) fun a hF => ?_
                  refine wl_v hF rfl rfl rfl (q_load Try.isAgg3 rfl (hF.eval rfl) (hO.cell 9 rfl rfl)) fun a hF => ?_
                  refine wl_v hF rfl rfl rfl (q_eq rfl (hF.eval rfl) (hF.eval rfl)) fun a hF => ?_
                  refine wl_nil ?_
                  refine k_n ?_
                  refine wp_ifD hF rfl rfl (fun hc7 => ?_) (fun hc7 => ?_)
                  · skip
                    refine wp_region_lit ?_
                    refine wl_v hF rfl rfl rfl (q_assign rfl (hF.eval rfl)) fun a hF => ?_
                    refine wl_v hF rfl rfl rfl (q_assign rfl (hF.eval rfl)) fun a hF => ?_
                    refine wl_nil ?_
                    refine k_n ?_
                    have hO := hO.pull 4 rfl
                    have hO := hO.pull 11 rfl
                    have hO := hO.pull 11 rfl
                    have hO := hO.pull 11 rfl
                    have hO := hO.pull 11 rfl
                    have hO := hO.pull 11 rfl
                    have hO := hO.pull 11 rfl
                    have hO := hO.pull 11 rfl
                    have hO := hO.pull 11 rfl
                    have hO := hO.pull 11 rfl
                    have hO := hO.pull 11 rfl
                    have hO := hO.pull 11 rfl
                    have hO : St _ _ _ [_, _, _, _, _, _, _, _, _, _, _, _] := hO
                    exact ⟨(0, 0), ⟨fun e => absurd (e.symm.trans hc7) (by decide), hO, hF.sub ⟨rfl, rfl, rfl, rfl, rfl, rfl, rfl, rfl, rfl, rfl, rfl, rfl, rfl, trivial⟩⟩⟩
                  · skip
                    refine wp_skip ?_
                    refine k_n ?_
                    have hO := hO.pull 4 rfl
                    have hO := hO.pull 11 rfl
                    have hO := hO.pull 11 rfl
                    have hO := hO.pull 11 rfl
                    have hO := hO.pull 11 rfl
                    have hO := hO.pull 11 rfl
                    have hO := hO.pull 11 rfl
                    have hO := hO.pull 11 rfl
                    have hO := hO.pull 11 rfl
                    have hO := hO.pull 11 rfl
                    have hO := hO.pull 11 rfl
                    have hO := hO.pull 11 rfl
                    have hO : St _ _ _ [_, _, _, _, _, _, _, _, _, _, _, _] := hO
                    exact ⟨(r1.1, r1.2), ⟨fun _ => ⟨rfl, rfl⟩, hO, hF.sub ⟨rfl, rfl, rfl, rfl, rfl, rfl, rfl, rfl, rfl, rfl, rfl, rfl, rfl, trivial⟩⟩⟩
                · skip
                  rintro ⟨n1, n2⟩ a w ⟨hn9, hO, hF⟩
                  refine wp_seq ?_
                  refine wp_region_lit ?_
                  refine wl_v hF rfl rfl rfl (q_assign rfl (hF.eval rfl)) fun a hF => ?_
                  refine wl_v hF rfl rfl rfl (q_assign rfl (hF.eval rfl)) fun a hF => ?_
                  refine wl_nil ?_
                  refine k_n ?_
                  refine wp_seqJ (fun (m : RH × Int × Int) a w' => match m with | (R1, b1, k1) => ((x.ask = 0 → r1 = (b1, k1) ∧ Rel h1 R1 ∧ R1.O = o) ∧ (¬ x.ask = 0 → R1 = R)) ∧ St w0 [] w' [.ob bh 77 (hpC vw vh vr h1), slT vw 27 wordE h1.words, slT vh 84 headE h1.heads, slT vr 3 intE h1.rem, .ob br 94 (rfC R1), Ent.grp (pgE 99 R1), Ent.grp (rowsE 27 R1), slT va 3 intE all, .ob op 39 (opE.cells x), slT vw9 27 wordE (wordsF x.fs x.raw all), .ob ww 27 (wordE.cells y), slT vow 27 wordE (wordsF x.fs x.raw all)] ∧ Fr a 370 [(1, i64 o), (2, vl), (7, ptr (adr bh)), (9, ptr (adr br)), (11, va), (12, i64 i), (13, ptr (adr op)), (14, i64 (whereF x.at_ x.raw all)), (15, vw9), (16, ptr (adr ww)), (18, vow), (19, i64 n1), (20, i64 n2), (21, i64 b1), (22, i64 k1)]) ?_ ?_
                  · skip
                    refine wp_seq ?_
                    refine wp_region_lit ?_
                    refine wl_v hF rfl rfl rfl (q_fieldAddr0 (d := 0) Try.underlying39 rfl (hF.eval rfl) rfl Try.sizeOf3 (by decide) rfl) fun a hF => ?_
                    refine wl_v hF rfl rfl rfl (q_load Try.isAgg3 rfl (hF.eval rfl) (hO.cell 8 rfl rfl)) fun a hF => ?_
                    refine wl_v hF rfl rfl rfl (q_eq rfl (hF.eval rfl) (hF.eval rfl)) fun a hF => ?_
                    refine wl_nil ?_
                    refine k_n ?_
                    refine wp_ifD hF rfl rfl (fun hc8 => ?_) (fun hc8 => ?_)
                    · skip
                      refine wp_region_lit ?_
                      refine wl_v hF rfl rfl rfl (q_move rfl (hF.eval rfl)) fun a hF => ?_
                      refine wl_v hF rfl rfl rfl (q_fieldAddr0 (d := 1) Try.underlying39 rfl (hF.eval rfl) rfl Try.sizeOf3 (by decide) rfl) fun a hF => ?_
                      refine wl_v hF rfl rfl rfl (q_load Try.isAgg3 rfl (hF.eval rfl) (hO.cell 8 rfl rfl)) fun a hF => ?_
                      refine wl_v hF rfl rfl rfl (q_fieldAddr0 (d := 2) Try.underlying39 rfl (hF.eval rfl) rfl Try.sizeOf3 (by decide) rfl) fun a hF => ?_
                      refine wl_v hF rfl rfl rfl (q_load Try.isAgg3 rfl (hF.eval rfl) (hO.cell 8 rfl rfl)) fun a hF => ?_
                      refine wl_v hF rfl rfl rfl (q_move rfl (hF.eval rfl)) fun a hF => ?_
                      have hO := hO.pull 6 rfl
                      have hO := hO.pull 6 rfl
                      have hO := hO.pull 6 rfl
                      have hO : St _ _ _ [_, _, _, _, _, _, _, _, _, _, _, _] := hO
                      refine wl_e hF rfl rfl rfl (c_call hF rfl rfl Try.call28 (alloc_rr _ _ _ hO.own3 hC.g _ _ _ (wordsF x.fs x.raw all) (hO.rdT3 6 rfl))) ?_
                      rintro a _ w ⟨_, _, ry, R2, hly, rfl, hS⟩ hF
                      have hO := hO.call3 hS
                      have hO : St _ _ _ [_, _, _, _, _, _, _, _, _, _, _, _] := hO
                      obtain ⟨e1, c1, o1⟩ := hC.lay2 (by decide) hl1 hly
                      refine wl_v hF rfl rfl rfl (q_move rfl (hF.eval rfl)) fun a hF => ?_
                      refine wl_v hF rfl rfl rfl (q_extract rfl (hF.eval rfl) rfl) fun a hF => ?_
                      refine wl_v hF rfl rfl rfl (q_extract rfl (hF.eval rfl) rfl) fun a hF => ?_
                      refine wl_v hF rfl rfl rfl (q_assign rfl (hF.eval rfl)) fun a hF => ?_
                      refine wl_v hF rfl rfl rfl (q_assign rfl (hF.eval rfl)) fun a hF => ?_
                      refine wl_nil ?_
                      refine k_n ?_
                      have hO := hO.pull 11 rfl
                      have hO := hO.pull 11 rfl
                      have hO := hO.pull 11 rfl
                      have hO := hO.pull 11 rfl
                      have hO := hO.pull 11 rfl
                      have hO := hO.pull 7 rfl
                      have hO := hO.pull 7 rfl
                      have hO := hO.pull 7 rfl
                      have hO := hO.pull 11 rfl
                      have hO := hO.pull 11 rfl
                      have hO := hO.pull 11 rfl
                      have hO := hO.pull 11 rfl
                      have hO : St _ _ _ [_, _, _, _, _, _, _, _, _, _, _, _] := hO
                      exact ⟨(R2, ry.1, ry.2), ⟨⟨fun _ => ⟨e1, c1, o1.trans hRO⟩, fun e => absurd hc8 e⟩, hO, hF.sub ⟨rfl, rfl, rfl, rfl, rfl, rfl, rfl, rfl, rfl, rfl, rfl, rfl, rfl, rfl, rfl, trivial⟩⟩⟩
                    · skip
                      refine wp_skip ?_
                      refine k_n ?_
                      have hO : St _ _ _ [_, _, _, _, _, _, _, _, _, _, _, _] := hO
                      exact ⟨(R, 0, 0), ⟨⟨fun e => absurd e hc8, fun _ => rfl⟩, hO, hF.sub ⟨rfl, rfl, rfl, rfl, rfl, rfl, rfl, rfl, rfl, rfl, rfl, rfl, rfl, rfl, rfl, trivial⟩⟩⟩
                  · skip
                    rintro ⟨R1, b1, k1⟩ a w ⟨⟨hm1, hm2⟩, hO, hF⟩
                    refine wp_seqJ (fun (s : Hp × Value × RH × Int × Int) a w' => match s with | (h2, vr2, R2, b2, k2) => (Rel h2 R2 ∧ R2.O = o) ∧ St w0 [] w' [.ob bh 77 (hpC vw vh vr2 h2), slT vw 27 wordE h2.words, slT vh 84 headE h2.heads, slT vr2 3 intE h2.rem, .ob br 94 (rfC R2), Ent.grp (pgE 99 R2), Ent.grp (rowsE 27 R2), slT va 3 intE all, slT vow 27 wordE (wordsF x.fs x.raw all)] ∧ Fr a 370 [(1, i64 o), (2, vl), (7, ptr (adr bh)), (9, ptr (adr br)), (11, va), (12, i64 i), (14, i64 (whereF x.at_ x.raw all)), (18, vow), (19, i64 b2), (20, i64 k2), (21, i64 b2), (22, i64 k2)]) ?_ ?_
                    · skip
                      refine wp_seq ?_
                      refine wp_region_lit ?_
                      refine wl_v hF rfl rfl rfl (q_fieldAddr0 (d := 0) Try.underlying39 rfl (hF.eval rfl) rfl Try.sizeOf3 (by decide) rfl) fun a hF => ?_
                      refine wl_v hF rfl rfl rfl (q_load Try.isAgg3 rfl (hF.eval rfl) (hO.cell 8 rfl rfl)) fun a hF => ?_
                      refine wl_v hF rfl rfl rfl (q_eq rfl (hF.eval rfl) (hF.eval rfl)) fun a hF => ?_
                      refine wl_nil ?_
                      refine k_n ?_
                      refine wp_ifD hF rfl rfl (fun hc9 => ?_) (fun hc9 => ?_)
                      · skip
                        have hR1 : R1 = R := hm2 (fun e => absurd (e.symm.trans hc9) (by decide))
                        have hCr : Rel h R1 := by rw [hR1]; exact hC
                        refine wp_seq ?_
                        refine wp_region_lit ?_
                        refine wl_v hF rfl rfl rfl (q_move rfl (hF.eval rfl)) fun a hF => ?_
                        refine wl_v hF rfl rfl rfl (q_fieldAddr0 (d := 1) Try.underlying39 rfl (hF.eval rfl) rfl Try.sizeOf3 (by decide) rfl) fun a hF => ?_
                        refine wl_v hF rfl rfl rfl (q_load Try.isAgg3 rfl (hF.eval rfl) (hO.cell 8 rfl rfl)) fun a hF => ?_
                        refine wl_v hF rfl rfl rfl (q_fieldAddr0 (d := 2) Try.underlying39 rfl (hF.eval rfl) rfl Try.sizeOf3 (by decide) rfl) fun a hF => ?_
                        refine wl_v hF rfl rfl rfl (q_load Try.isAgg3 rfl (hF.eval rfl) (hO.cell 8 rfl rfl)) fun a hF => ?_
                        refine wl_v hF rfl rfl rfl (q_move rfl (hF.eval rfl)) fun a hF => ?_
                        have hO := hO.pull 6 rfl
                        have hO := hO.pull 6 rfl
                        have hO := hO.pull 6 rfl
                        have hO : St _ _ _ [_, _, _, _, _, _, _, _, _, _, _, _] := hO
                        refine wl_e hF rfl rfl rfl (c_call hF rfl rfl Try.call28 (alloc_rr _ _ _ hO.own3 hCr.g _ _ _ (wordsF x.fs x.raw all) (hO.rdT3 6 rfl))) ?_
                        rintro a _ w ⟨_, _, ry, R2, hly, rfl, hS⟩ hF
                        have hO := hO.call3 hS
                        have hO : St _ _ _ [_, _, _, _, _, _, _, _, _, _, _, _] := hO
                        obtain ⟨_, c2, o2⟩ := hCr.lay2 (by decide) hl1 hly
                        refine wl_nil ?_
                        refine k_n ?_
                        refine wp_seq ?_
                        refine wp_region_lit ?_
                        refine wl_v hF rfl rfl rfl (q_move rfl (hF.eval rfl)) fun a hF => ?_
                        refine wl_v hF rfl rfl rfl (q_fieldAddr0 (d := 1) Try.underlying39 rfl (hF.eval rfl) rfl Try.sizeOf3 (by decide) rfl) fun a hF => ?_
                        refine wl_v hF rfl rfl rfl (q_load Try.isAgg3 rfl (hF.eval rfl) (hO.cell 8 rfl rfl)) fun a hF => ?_
                        refine wl_v hF rfl rfl rfl (q_fieldAddr0 (d := 2) Try.underlying39 rfl (hF.eval rfl) rfl Try.sizeOf3 (by decide) rfl) fun a hF => ?_
                        refine wl_v hF rfl rfl rfl (q_load Try.isAgg3 rfl (hF.eval rfl) (hO.cell 8 rfl rfl)) fun a hF => ?_
                        refine wl_v hF rfl rfl rfl (q_move rfl (hF.eval rfl)) fun a hF => ?_
                        have hO := hO.pull 6 rfl
                        have hO := hO.pull 6 rfl
                        have hO := hO.pull 6 rfl
                        have hO := hO.pull 6 rfl
                        have hO : St _ _ _ [_, _, _, _, _, _, _, _, _, _, _, _] := hO
                        refine wl_e hF rfl rfl rfl (c_call hF rfl rfl Try.call16 (keep_r _ _ _ _ _ _ hO.own4 c2.sep.wf (Nat.le_trans c2.rlen (by decide)) _ _ _ (wordsF x.fs x.raw all) (hO.rdT4 7 rfl))) ?_
                        rintro a _ w ⟨vr, r3, h3, hl3, rfl, hS⟩ hF
                        have hO := hO.call4 hS
                        have hO : St _ _ _ [_, _, _, _, _, _, _, _, _, _, _, _] := hO
                        refine wl_v hF rfl rfl rfl (q_move rfl (hF.eval rfl)) fun a hF => ?_
                        refine wl_v hF rfl rfl rfl (q_extract rfl (hF.eval rfl) rfl) fun a hF => ?_
                        refine wl_v hF rfl rfl rfl (q_extract rfl (hF.eval rfl) rfl) fun a hF => ?_
                        refine wl_v hF rfl rfl rfl (q_assign rfl (hF.eval rfl)) fun a hF => ?_
                        refine wl_v hF rfl rfl rfl (q_assign rfl (hF.eval rfl)) fun a hF => ?_
                        refine wl_nil ?_
                        refine k_n ?_
                        refine wp_region_lit ?_
                        refine wl_v hF rfl rfl rfl (q_move rfl (hF.eval rfl)) fun a hF => ?_
                        refine wl_v hF rfl rfl rfl (q_fieldAddr0 (d := 1) Try.underlying39 rfl (hF.eval rfl) rfl Try.sizeOf3 (by decide) rfl) fun a hF => ?_
                        refine wl_v hF rfl rfl rfl (q_load Try.isAgg3 rfl (hF.eval rfl) (hO.cell 8 rfl rfl)) fun a hF => ?_
                        refine wl_v hF rfl rfl rfl (q_fieldAddr0 (d := 2) Try.underlying39 rfl (hF.eval rfl) rfl Try.sizeOf3 (by decide) rfl) fun a hF => ?_
                        refine wl_v hF rfl rfl rfl (q_load Try.isAgg3 rfl (hF.eval rfl) (hO.cell 8 rfl rfl)) fun a hF => ?_
                        refine wl_v hF rfl rfl rfl (q_move rfl (hF.eval rfl)) fun a hF => ?_
                        have hO := hO.pull 6 rfl
                        have hO := hO.pull 6 rfl
                        have hO := hO.pull 6 rfl
                        have hO : St _ _ _ [_, _, _, _, _, _, _, _, _, _, _, _] := hO
                        refine wl_e hF rfl rfl rfl (c_call hF rfl rfl Try.call29 (keep_rr _ _ _ hO.own3 c2.g _ _ _ (wordsF x.fs x.raw all) (hO.rdT3 6 rfl))) ?_
                        rintro a _ w ⟨_, _, rz, R3, hlz, rfl, hS⟩ hF
                        have hO := hO.call3 hS
                        have hO : St _ _ _ [_, _, _, _, _, _, _, _, _, _, _, _] := hO
                        obtain ⟨e3, c3, o3⟩ := c2.keep2 hl3 hlz
                        refine wl_v hF rfl rfl rfl (q_move rfl (hF.eval rfl)) fun a hF => ?_
                        refine wl_v hF rfl rfl rfl (q_extract rfl (hF.eval rfl) rfl) fun a hF => ?_
                        refine wl_v hF rfl rfl rfl (q_extract rfl (hF.eval rfl) rfl) fun a hF => ?_
                        refine wl_v hF rfl rfl rfl (q_assign rfl (hF.eval rfl)) fun a hF => ?_
                        refine wl_v hF rfl rfl rfl (q_assign rfl (hF.eval rfl)) fun a hF => ?_
                        refine wl_nil ?_
                        refine k_n ?_
                        have hO := hO.drop1 8
                        have hO := hO.drop1 8
                        have hO := hO.drop1 8
                        have hO := hO.pull 8 rfl
                        have hO := hO.pull 8 rfl
                        have hO := hO.pull 4 rfl
                        have hO := hO.pull 4 rfl
                        have hO := hO.pull 4 rfl
                        have hO := hO.pull 8 rfl
                        have hO := hO.pull 8 rfl
                        have hO := hO.pull 8 rfl
                        have hO := hO.pull 8 rfl
                        have hO : St _ _ _ [_, _, _, _, _, _, _, _, _] := hO
                        exact ⟨(h3, vr, R3, rz.1, rz.2), ⟨⟨c3, o3.trans (o2.trans (by rw [hR1]; exact hRO))⟩, hO, hF.sub ⟨rfl, rfl, rfl, rfl, rfl, rfl, rfl, rfl, (congrArg (fun z : Int × Int => some (i64 z.1)) e3), (congrArg (fun z : Int × Int => some (i64 z.2)) e3), rfl, rfl, trivial⟩⟩⟩
                      · skip
                        have h0 : x.ask = 0 := hask.resolve_right hc9
                        obtain ⟨e1, c1, o1⟩ := hm1 h0
                        obtain ⟨f1, f2⟩ := hn9 h0
                        refine wp_skip ?_
                        refine k_n ?_
                        have hO := hO.drop1 8
                        have hO := hO.drop1 8
                        have hO := hO.drop1 8
                        have hO : St _ _ _ [_, _, _, _, _, _, _, _, _] := hO
                        exact ⟨(h1, vr, R1, b1, k1), ⟨⟨c1, o1⟩, hO, hF.sub ⟨rfl, rfl, rfl, rfl, rfl, rfl, rfl, rfl, (congrArg (fun z => some (i64 z)) (f1.trans (congrArg Prod.fst e1))), (congrArg (fun z => some (i64 z)) (f2.trans (congrArg Prod.snd e1))), rfl, rfl, trivial⟩⟩⟩
                    · skip
                      rintro ⟨h2, vr2, R2, b2, k2⟩ a w ⟨⟨hC2, hO2⟩, hO, hF⟩
                      refine wp_seq ?_
                      refine wp_seq ?_
                      refine wp_region_lit ?_
                      refine wl_v hF rfl rfl rfl (q_assign rfl (hF.eval rfl)) fun a hF => ?_
                      refine wl_nil ?_
                      refine k_n ?_
                      refine wp_block ?_
                      have hO : St _ _ _ [_, _, _, _, _, _, _, _, _] := hO
                      refine wp_loopS (fun (s2 : Nat × List Wd) a w' => match s2 with | (n, ws) => (True) ∧ St w0 [] w' [.ob bh 77 (hpC vw vh vr2 h2), slT vw 27 wordE h2.words, slT vh 84 headE h2.heads, slT vr2 3 intE h2.rem, .ob br 94 (rfC R2), Ent.grp (pgE 99 R2), Ent.grp (rowsE 27 R2), slT va 3 intE all, slT vow 27 wordE ws] ∧ Fr a 370 [(1, i64 o), (2, vl), (7, ptr (adr bh)), (9, ptr (adr br)), (11, va), (12, i64 i), (14, i64 (whereF x.at_ x.raw all)), (18, vow), (19, i64 b2), (20, i64 k2), (21, i64 b2), (22, i64 k2), (23, i64 n)]) (fun (s2 : Nat × List Wd) => match s2 with | (n, ws) => ws.length - n) (0, (wordsF x.fs x.raw all)) ⟨trivial, hO, hF.sub ⟨rfl, rfl, rfl, rfl, rfl, rfl, rfl, rfl, rfl, rfl, rfl, rfl, rfl, trivial⟩⟩ ?_
                      rintro ⟨n, ws⟩ a w ⟨_, hO, hF⟩
                      have hwsl := RdT.lenle (hO.rdT 8 rfl)
                      refine wp_seq ?_
                      refine wp_seq ?_
                      refine wp_region_lit ?_
                      refine wl_v hF rfl rfl rfl (q_move rfl (hF.eval rfl)) fun a hF => ?_
                      refine wl_v hF rfl rfl rfl (q_move rfl (hF.eval rfl)) fun a hF => ?_
                      refine wl_v hF rfl rfl rfl (q_lenRd (hO.rd 8 rfl) Try.underlying37 rfl (hF.eval rfl)) fun a hF => ?_
                      refine wl_v hF rfl rfl rfl (q_lt rfl (hF.eval rfl) (hF.eval rfl)) fun a hF => ?_
                      refine wl_nil ?_
                      refine k_n ?_
                      refine wp_ifD hF rfl rfl (fun hc10 => ?_) (fun hc10 => ?_)
                      · skip
                        refine wp_skip ?_
                        refine k_n ?_
                        refine wp_seq ?_
                        refine wp_block ?_
                        refine wp_region_lit ?_
                        refine wl_v hF rfl rfl rfl (q_move rfl (hF.eval rfl)) fun a hF => ?_
                        refine wl_v hF rfl rfl rfl (q_move rfl (hF.eval rfl)) fun a hF => ?_
                        refine wl_v hF rfl rfl rfl (c_build hF Try.underlying27 Try.zeroValue27 Try_places27 rfl rfl rfl rfl) fun a hF => ?_
                        refine wl_v hF rfl rfl rfl (q_at (i := n) (hO.rd 8 rfl) Try.underlying37 Try.sizeOf27 rfl (hF.eval rfl) (hF.eval rfl) (by omega)) fun a hF => ?_
                        refine wl_s hF rfl rfl (e_storeElT (m := n) (off := 0) (q := ⟨false, -7⟩) hO (i := 8) rfl Try.sizeOf27 rfl (hF.eval rfl) rfl (hF.eval rfl) rfl (get_D (d := wd0) (by omega)) rfl (Nat.le_of_ble_eq_true rfl) rfl (all1 rfl)) ?_
                        rintro a _ w ⟨-, hO⟩ hF
                        have hO : St _ _ _ [_, _, _, _, _, _, _, _, _] := hO
                        refine wl_nil ?_
                        refine b_n ?_
                        refine k_n ?_
                        refine wp_region_lit ?_
                        refine wl_v hF rfl rfl rfl (q_move rfl (hF.eval rfl)) fun a hF => ?_
                        refine wl_v hF rfl rfl rfl (q_add rfl (hF.eval rfl) (hF.eval rfl) (by omega)) fun a hF => ?_
                        refine wl_v hF rfl rfl rfl (q_assign rfl (hF.eval rfl)) fun a hF => ?_
                        refine wl_nil ?_
                        refine k_n ?_
                        have hO : St _ _ _ [_, _, _, _, _, _, _, _, _] := hO
                        exact ⟨(n + 1, ws.set n ⟨false, -7⟩), ⟨trivial, hO, hF.sub ⟨rfl, rfl, rfl, rfl, rfl, rfl, rfl, rfl, rfl, rfl, rfl, rfl, rfl, trivial⟩⟩, by dsimp only; rw [List.length_set]; omega⟩
                      · skip
                        refine wp_exit ?_
                        refine k_x ?_
                        refine k_x ?_
                        refine b_x ?_
                        refine k_n ?_
                        refine wp_seq ?_
                        refine wp_region_lit ?_
                        refine wl_v hF rfl rfl rfl (q_move rfl (hF.eval rfl)) fun a hF => ?_
                        refine wl_v hF rfl rfl rfl (q_move rfl (hF.eval rfl)) fun a hF => ?_
                        refine wl_v hF rfl rfl rfl (q_eq rfl (hF.eval rfl) (hF.eval rfl)) fun a hF => ?_
                        refine wl_v hF rfl rfl rfl (q_move rfl (hF.eval rfl)) fun a hF => ?_
                        refine wl_g hF rfl rfl rfl rfl rfl rfl (fun hg => q_move rfl (hF.eval rfl)) fun a hF => ?_
                        refine wl_g hF rfl rfl rfl rfl rfl rfl (fun hg => q_move rfl (hF.eval rfl)) fun a hF => ?_
                        refine wl_g hF rfl rfl rfl rfl rfl rfl (fun hg => q_eq rfl ((hF.eval rfl).trans (gv_of hg)) ((hF.eval rfl).trans (gv_of hg))) fun a hF => ?_
                        refine wl_v hF rfl rfl rfl (q_and rfl (hF.eval rfl) rfl (fun hg2 => ((hF.eval rfl).trans (gv_of hg2))) rfl) fun a hF => ?_
                        refine wl_v hF rfl rfl rfl (q_assign rfl (hF.eval rfl)) fun a hF => ?_
                        refine wl_nil ?_
                        refine k_n ?_
                        refine wp_seq ?_
                        refine wp_region_lit ?_
                        refine wl_v hF rfl rfl rfl (q_move rfl (hF.eval rfl)) fun a hF => ?_
                        refine wl_v hF rfl rfl rfl (q_eq rfl (hF.eval rfl) (hF.eval rfl)) fun a hF => ?_
                        refine wl_nil ?_
                        refine k_n ?_
                        refine wp_ifD hF rfl rfl (fun hc11 => ?_) (fun hc11 => ?_)
                        · skip
                          refine wp_region_lit ?_
                          refine wl_v hF rfl rfl rfl (q_move rfl (hF.eval rfl)) fun a hF => ?_
                          refine wl_v hF rfl rfl rfl (q_move rfl (hF.eval rfl)) fun a hF => ?_
                          refine wl_e hF rfl rfl rfl (c_buildSlice hF hO Try.underlying36 Try.sizeOf3 Try.zeroValue3 rfl rfl rfl rfl rfl rfl rfl) ?_
                          rintro a _ w ⟨b1, rfl, hO⟩ hF
                          refine wl_e hF rfl rfl rfl (e_appendT (bytes := 8) (r := [b2]) hO (i := 8) rfl (hO.rd 0 rfl) Try.underlying36 Try_info3 rfl rfl rfl rfl rfl rfl (hF.eval rfl) (hF.eval rfl) (by show (List.length _ + 1) * 8 ≤ _; omega) (by show List.length _ + 1 ≤ _; omega)) ?_
                          rintro a v184 w hO hF
                          have hO : St _ _ _ [_, _, _, _, _, _, _, _, _, _] := hO
                          refine wl_v hF rfl rfl rfl (q_assign rfl (hF.eval rfl)) fun a hF => ?_
                          refine wl_nil ?_
                          refine b_n ?_
                          refine k_n ?_
                          have hO := hO.drop1 0
                          have hO := hO.drop1 8
                          have hO : St _ _ _ [_, _, _, _, _, _, _, _] := hO
                          exact ⟨(h2, vr2, R2, all ++ [b2], _), ⟨⟨hC2, hO2, by rw [List.length_append, List.length_singleton]; omega⟩, hO, hF.sub ⟨rfl, rfl, rfl, rfl, rfl, rfl, rfl, (congrArg (fun z => some (Value.bool z)) (decide_eq_true ⟨rfl, rfl⟩)), trivial⟩⟩⟩
                        · skip
                          refine wp_skip ?_
                          refine b_n ?_
                          refine k_n ?_
                          have hO := hO.drop1 8
                          have hO : St _ _ _ [_, _, _, _, _, _, _, _] := hO
                          exact ⟨(h2, vr2, R2, all, va), ⟨⟨hC2, hO2, by omega⟩, hO, hF.sub ⟨rfl, rfl, rfl, rfl, rfl, rfl, rfl, (congrArg (fun z => some (Value.bool z)) (decide_eq_true ⟨rfl, rfl⟩)), trivial⟩⟩⟩
              · skip
                refine wp_seq ?_
                refine wp_region_lit ?_
                refine wl_v hF rfl rfl rfl (q_eq rfl (hF.eval rfl) (hF.eval rfl)) fun a hF => ?_
                refine wl_v hF rfl rfl rfl (q_assign rfl (hF.eval rfl)) fun a hF => ?_
                refine wl_nil ?_
                refine k_n ?_
                refine wp_ifD hF rfl rfl (fun hc12 => ?_) (fun hc12 => ?_)
                · skip
                  have hO := hO.drew
                  refine wp_region_D [0, 0, 0, 1, 1, 2, 0, 0, 0, 1, 1, 2, 0, 0] (fun w => St w0 [] w [.ob op 39 (opE.cells x), slT vw9 27 wordE (wordsF x.fs x.raw all), .ob ww 27 (wordE.cells y)]) Try_mixed (by kernel_rfl) (St.back (A := [_, _, _, _, _, _, _, _]) hO) ?_
                  refine wd_p hF rfl rfl rfl (fun w => q_move rfl (hF.eval rfl)) fun a hF => ?_
                  refine wd_p hF rfl rfl rfl (fun w => q_move rfl (hF.eval rfl)) fun a hF => ?_
                  refine wd_p hF rfl rfl rfl (fun w => q_fieldAddr0 (d := 6) Try.underlying39 rfl (hF.eval rfl) rfl Try.sizeOf3 (by decide) rfl) fun a hF => ?_
                  refine wd_r hF rfl rfl rfl (fun w hO => q_load Try.isAgg3 rfl (hF.eval rfl) (hO.cell 0 rfl rfl)) fun a hF => ?_
                  refine wd_r hF rfl rfl rfl (fun w hO => q_loadAgg Try.isAgg27 Try.sizeOf27 rfl (hF.eval rfl) (hO.cells 2 rfl) rfl) fun a hF => ?_
                  have hO := hO.pull 3 rfl
                  have hO := hO.pull 3 rfl
                  have hO := hO.pull 3 rfl
                  have hO := hO.pull 3 rfl
                  have hO : St _ _ _ [_, _, _, _, _, _, _, _, _, _, _] := hO
                  refine wd_e hF rfl rfl rfl (c_call hF rfl rfl Try.call17 (set_r _ _ _ _ _ _ hO.own4 hC.sep.wf (Nat.le_trans hC.rlen (by decide)) _ _ y)) (fun _ _ ⟨_, _, _, _, _, hS⟩ => St.back (A := [_, _, _, _, _, _, _, _]) (hO.call4 hS)) ?_
                  rintro a _ w ⟨vr, rs, h2, hset, rfl, hS⟩ hF
                  have hO := hO.call4 hS
                  have hO : St _ _ _ [_, _, _, _, _, _, _, _, _, _, _] := hO
                  refine wd_p hF rfl rfl rfl (fun w => q_move rfl (hF.eval rfl)) fun a hF => ?_
                  refine wd_p hF rfl rfl rfl (fun w => q_move rfl (hF.eval rfl)) fun a hF => ?_
                  refine wd_p hF rfl rfl rfl (fun w => q_fieldAddr0 (d := 6) Try.underlying39 rfl (hF.eval rfl) rfl Try.sizeOf3 (by decide) rfl) fun a hF => ?_
                  refine wd_r hF rfl rfl rfl (fun w hO => q_load Try.isAgg3 rfl (hF.eval rfl) (hO.cell 0 rfl rfl)) fun a hF => ?_
                  refine wd_r hF rfl rfl rfl (fun w hO => q_loadAgg Try.isAgg27 Try.sizeOf27 rfl (hF.eval rfl) (hO.cells 2 rfl) rfl) fun a hF => ?_
                  have hO := hO.pull 6 rfl
                  have hO := hO.pull 6 rfl
                  have hO := hO.pull 6 rfl
                  have hO : St _ _ _ [_, _, _, _, _, _, _, _, _, _, _] := hO
                  refine wd_e hF rfl rfl rfl (c_call hF rfl rfl Try.call30 (set_rr _ _ _ hO.own3 hC.g _ _ y)) (fun _ _ ⟨_, _, _, _, hS⟩ => St.back (A := [_, _, _, _, _, _, _, _]) (hO.call3 hS)) ?_
                  rintro a _ w ⟨re, R2, hsr, rfl, hS⟩ hF
                  have hO := hO.call3 hS
                  have hO : St _ _ _ [_, _, _, _, _, _, _, _, _, _, _] := hO
                  obtain ⟨e1, c1, o1⟩ := hC.set2 hset hsr
                  refine wd_p hF rfl rfl rfl (fun w => q_eq rfl (hF.eval rfl) (hF.eval rfl)) fun a hF => ?_
                  refine wd_p hF rfl rfl rfl (fun w => q_assign rfl (hF.eval rfl)) fun a hF => ?_
                  refine wd_nil ?_
                  refine b_n ?_
                  refine k_n ?_
                  have hO := hO.drop1 8
                  have hO := hO.drop1 8
                  have hO := hO.drop1 8
                  have hO := hO.pull 7 rfl
                  have hO := hO.pull 3 rfl
                  have hO := hO.pull 3 rfl
                  have hO := hO.pull 3 rfl
                  have hO := hO.pull 7 rfl
                  have hO := hO.pull 7 rfl
                  have hO := hO.pull 7 rfl
                  have hO := hO.pull 7 rfl
                  have hO : St _ _ _ [_, _, _, _, _, _, _, _] := hO
                  exact ⟨(h2, vr, R2, all, va), ⟨⟨c1, o1.trans hRO, by omega⟩, hO, hF.sub ⟨rfl, rfl, rfl, rfl, rfl, rfl, rfl, (congrArg (fun z => some (Value.bool z)) (decide_eq_true e1)), trivial⟩⟩⟩
                · skip
                  refine wp_seq ?_
                  refine wp_region_lit ?_
                  refine wl_v hF rfl rfl rfl (q_eq rfl (hF.eval rfl) (hF.eval rfl)) fun a hF => ?_
                  refine wl_v hF rfl rfl rfl (q_assign rfl (hF.eval rfl)) fun a hF => ?_
                  refine wl_nil ?_
                  refine k_n ?_
                  refine wp_ifD hF rfl rfl (fun hc13 => ?_) (fun hc13 => ?_)
                  · skip
                    refine wp_region_lit ?_
                    refine wl_v hF rfl rfl rfl (q_move rfl (hF.eval rfl)) fun a hF => ?_
                    refine wl_v hF rfl rfl rfl (q_move rfl (hF.eval rfl)) fun a hF => ?_
                    have hO := hO.pull 3 rfl
                    have hO := hO.pull 3 rfl
                    have hO := hO.pull 3 rfl
                    have hO := hO.pull 3 rfl
                    have hO : St _ _ _ [_, _, _, _, _, _, _, _, _, _, _] := hO
                    refine wl_e hF rfl rfl rfl (c_call hF rfl rfl Try.call23 (hole_r _ _ _ _ _ _ hO.own4 hC.sep.wf (Nat.le_trans hC.rlen (by decide)) _)) ?_
                    rintro a _ w ⟨vr, rs, h2, hset, rfl, hS⟩ hF
                    have hO := hO.call4 hS
                    have hO : St _ _ _ [_, _, _, _, _, _, _, _, _, _, _] := hO
                    refine wl_v hF rfl rfl rfl (q_move rfl (hF.eval rfl)) fun a hF => ?_
                    refine wl_v hF rfl rfl rfl (q_move rfl (hF.eval rfl)) fun a hF => ?_
                    have hO := hO.pull 6 rfl
                    have hO := hO.pull 6 rfl
                    have hO := hO.pull 6 rfl
                    have hO : St _ _ _ [_, _, _, _, _, _, _, _, _, _, _] := hO
                    refine wl_e hF rfl rfl rfl (c_call hF rfl rfl Try.call31 (hole_rr _ _ _ hO.own3 hC.g _)) ?_
                    rintro a _ w ⟨re, R2, hsr, rfl, hS⟩ hF
                    have hO := hO.call3 hS
                    have hO : St _ _ _ [_, _, _, _, _, _, _, _, _, _, _] := hO
                    obtain ⟨e1, c1, o1⟩ := hC.hole2 hset hsr
                    refine wl_v hF rfl rfl rfl (q_eq rfl (hF.eval rfl) (hF.eval rfl)) fun a hF => ?_
                    refine wl_v hF rfl rfl rfl (q_assign rfl (hF.eval rfl)) fun a hF => ?_
                    refine wl_nil ?_
                    refine b_n ?_
                    refine k_n ?_
                    have hO := hO.drop1 8
                    have hO := hO.drop1 8
                    have hO := hO.drop1 8
                    have hO := hO.pull 7 rfl
                    have hO := hO.pull 3 rfl
                    have hO := hO.pull 3 rfl
                    have hO := hO.pull 3 rfl
                    have hO := hO.pull 7 rfl
                    have hO := hO.pull 7 rfl
                    have hO := hO.pull 7 rfl
                    have hO := hO.pull 7 rfl
                    have hO : St _ _ _ [_, _, _, _, _, _, _, _] := hO
                    exact ⟨(h2, vr, R2, all, va), ⟨⟨c1, o1.trans hRO, by omega⟩, hO, hF.sub ⟨rfl, rfl, rfl, rfl, rfl, rfl, rfl, (congrArg (fun z => some (Value.bool z)) (decide_eq_true e1)), trivial⟩⟩⟩
                  · skip
                    refine wp_seq ?_
                    refine wp_region_lit ?_
                    refine wl_v hF rfl rfl rfl (q_eq rfl (hF.eval rfl) (hF.eval rfl)) fun a hF => ?_
                    refine wl_v hF rfl rfl rfl (q_assign rfl (hF.eval rfl)) fun a hF => ?_
                    refine wl_nil ?_
                    refine k_n ?_
                    refine wp_ifD hF rfl rfl (fun hc14 => ?_) (fun hc14 => ?_)
                    · skip
                      have hO := hO.drew
                      refine wp_region_D [0, 0, 1, 2, 0, 0, 1, 2, 0, 0] (fun w => St w0 [] w [.ob op 39 (opE.cells x), slT vw9 27 wordE (wordsF x.fs x.raw all), .ob ww 27 (wordE.cells y)]) Try_mixed (by kernel_rfl) (St.back (A := [_, _, _, _, _, _, _, _]) hO) ?_
                      refine wd_p hF rfl rfl rfl (fun w => q_move rfl (hF.eval rfl)) fun a hF => ?_
                      refine wd_p hF rfl rfl rfl (fun w => q_move rfl (hF.eval rfl)) fun a hF => ?_
                      refine wd_r hF rfl rfl rfl (fun w hO => q_loadAgg Try.isAgg27 Try.sizeOf27 rfl (hF.eval rfl) (hO.cells 2 rfl) rfl) fun a hF => ?_
                      have hO := hO.pull 3 rfl
                      have hO := hO.pull 3 rfl
                      have hO := hO.pull 3 rfl
                      have hO := hO.pull 3 rfl
                      have hO : St _ _ _ [_, _, _, _, _, _, _, _, _, _, _] := hO
                      refine wd_e hF rfl rfl rfl (c_call hF rfl rfl Try.call13 (link_r _ _ _ _ _ _ hO.own4 hC.sep.wf (Nat.le_trans hC.rlen (by decide)) _ y)) (fun _ _ ⟨_, _, _, _, _, hS⟩ => St.back (A := [_, _, _, _, _, _, _, _]) (hO.call4 hS)) ?_
                      rintro a _ w ⟨vr, rs, h2, hset, rfl, hS⟩ hF
                      have hO := hO.call4 hS
                      have hO : St _ _ _ [_, _, _, _, _, _, _, _, _, _, _] := hO
                      refine wd_p hF rfl rfl rfl (fun w => q_move rfl (hF.eval rfl)) fun a hF => ?_
                      refine wd_p hF rfl rfl rfl (fun w => q_move rfl (hF.eval rfl)) fun a hF => ?_
                      refine wd_r hF rfl rfl rfl (fun w hO => q_loadAgg Try.isAgg27 Try.sizeOf27 rfl (hF.eval rfl) (hO.cells 2 rfl) rfl) fun a hF => ?_
                      have hO := hO.pull 6 rfl
                      have hO := hO.pull 6 rfl
                      have hO := hO.pull 6 rfl
                      have hO : St _ _ _ [_, _, _, _, _, _, _, _, _, _, _] := hO
                      refine wd_e hF rfl rfl rfl (c_call hF rfl rfl Try.call32 (link_rr _ _ _ hO.own3 hC.g _ y)) (fun _ _ ⟨_, _, _, _, _, hS⟩ => St.back (A := [_, _, _, _, _, _, _, _]) (hO.call3 hS)) ?_
                      rintro a _ w ⟨_, re, R2, hsr, rfl, hS⟩ hF
                      have hO := hO.call3 hS
                      have hO : St _ _ _ [_, _, _, _, _, _, _, _, _, _, _] := hO
                      obtain ⟨e1, c1, o1⟩ := hC.link2 hset hsr
                      refine wd_p hF rfl rfl rfl (fun w => q_eq rfl (hF.eval rfl) (hF.eval rfl)) fun a hF => ?_
                      refine wd_p hF rfl rfl rfl (fun w => q_assign rfl (hF.eval rfl)) fun a hF => ?_
                      refine wd_nil ?_
                      refine b_n ?_
                      refine k_n ?_
                      have hO := hO.drop1 8
                      have hO := hO.drop1 8
                      have hO := hO.drop1 8
                      have hO := hO.pull 7 rfl
                      have hO := hO.pull 3 rfl
                      have hO := hO.pull 3 rfl
                      have hO := hO.pull 3 rfl
                      have hO := hO.pull 7 rfl
                      have hO := hO.pull 7 rfl
                      have hO := hO.pull 7 rfl
                      have hO := hO.pull 7 rfl
                      have hO : St _ _ _ [_, _, _, _, _, _, _, _] := hO
                      exact ⟨(h2, vr, R2, all, va), ⟨⟨c1, o1.trans hRO, by omega⟩, hO, hF.sub ⟨rfl, rfl, rfl, rfl, rfl, rfl, rfl, (congrArg (fun z => some (Value.bool z)) (decide_eq_true e1)), trivial⟩⟩⟩
                    · skip
                      refine wp_seq ?_
                      refine wp_region_lit ?_
                      refine wl_v hF rfl rfl rfl (q_eq rfl (hF.eval rfl) (hF.eval rfl)) fun a hF => ?_
                      refine wl_v hF rfl rfl rfl (q_assign rfl (hF.eval rfl)) fun a hF => ?_
                      refine wl_nil ?_
                      refine k_n ?_
                      refine wp_ifD hF rfl rfl (fun hc15 => ?_) (fun hc15 => ?_)
                      · skip
                        have hO := hO.drew
                        refine wp_region_D [0, 1, 2, 0, 1, 2, 0, 0] (fun w => St _ _ w _) Try_mixed (by kernel_rfl) hO ?_
                        refine wd_p hF rfl rfl rfl (fun w => q_move rfl (hF.eval rfl)) fun a hF => ?_
                        refine wd_r hF rfl rfl rfl (fun w hO => q_loadAgg Try.isAgg27 Try.sizeOf27 rfl (hF.eval rfl) (hO.cells 10 rfl) rfl) fun a hF => ?_
                        refine wd_e hF rfl rfl rfl (c_call hF rfl rfl Try.call14 (chase_r _ _ _ _ _ _ (hO.hr 0 1 2 3 rfl rfl rfl rfl) hC.sep.wf y)) (fun _ _ ⟨_, hS⟩ => hO.call0 hS) ?_
                        rintro a _ w ⟨rfl, hS⟩ hF
                        have hO := hO.call0 hS
                        have hO : St _ _ _ [_, _, _, _, _, _, _, _, _, _, _] := hO
                        refine wd_p hF rfl rfl rfl (fun w => q_move rfl (hF.eval rfl)) fun a hF => ?_
                        refine wd_r hF rfl rfl rfl (fun w hO => q_loadAgg Try.isAgg27 Try.sizeOf27 rfl (hF.eval rfl) (hO.cells 10 rfl) rfl) fun a hF => ?_
                        refine wd_e hF rfl rfl rfl (c_call hF rfl rfl Try.call33 (chase_rr _ _ _ (hO.rr 4 5 6 rfl rfl rfl) hC.g y)) (fun _ _ ⟨_, hS⟩ => hO.call0 hS) ?_
                        rintro a _ w ⟨rfl, hS⟩ hF
                        have hO := hO.call0 hS
                        have hO : St _ _ _ [_, _, _, _, _, _, _, _, _, _, _] := hO
                        refine wd_p hF rfl rfl rfl (fun w => q_eqS Try.underlying27 Try.stoodInHeld27 Try.eqGuardType27 rfl (hF.eval rfl) (hF.eval rfl) (ef_bool (by decide) Try.isAgg4 Try.underlying4 rfl rfl (ef_int (by decide) Try.isAgg3 Try.underlying3 rfl rfl ef_nil)) (word_eq _ _)) fun a hF => ?_
                        refine wd_p hF rfl rfl rfl (fun w => q_assign rfl (hF.eval rfl)) fun a hF => ?_
                        refine wd_nil ?_
                        refine b_n ?_
                        refine k_n ?_
                        have hO := hO.drop1 8
                        have hO := hO.drop1 8
                        have hO := hO.drop1 8
                        have hO : St _ _ _ [_, _, _, _, _, _, _, _] := hO
                        exact ⟨(h, vr, R, all, va), ⟨⟨hC, hRO, by omega⟩, hO, hF.sub ⟨rfl, rfl, rfl, rfl, rfl, rfl, rfl, (congrArg (fun z => some (Value.bool z)) (decide_eq_true (hC.chase y))), trivial⟩⟩⟩
                      · skip
                        refine wp_seq ?_
                        refine wp_region_lit ?_
                        refine wl_v hF rfl rfl rfl (q_eq rfl (hF.eval rfl) (hF.eval rfl)) fun a hF => ?_
                        refine wl_v hF rfl rfl rfl (q_assign rfl (hF.eval rfl)) fun a hF => ?_
                        refine wl_nil ?_
                        refine k_n ?_
                        refine wp_ifD hF rfl rfl (fun hc16 => ?_) (fun hc16 => ?_)
                        · skip
                          refine wp_seq ?_
                          refine wp_region_lit ?_
                          refine wl_v hF rfl rfl rfl (q_move rfl (hF.eval rfl)) fun a hF => ?_
                          refine wl_v hF rfl rfl rfl (q_move rfl (hF.eval rfl)) fun a hF => ?_
                          refine wl_e hF rfl rfl rfl (c_call hF rfl rfl Try.call18 (object_r _ _ _ _ _ _ (hO.hr 0 1 2 3 rfl rfl rfl rfl) hC.sep.wf _)) ?_
                          rintro a _ w ⟨vo, ro, hro, rfl, hS⟩ hF
                          have hO := hO.call0 hS
                          have hO : St _ _ _ [_, _, _, _, _, _, _, _, _, _, _, _] := hO
                          obtain ⟨Ao, co, rfl, _⟩ := Rd.is (hO.rd 0 rfl)
                          refine wl_v hF rfl rfl rfl (q_move rfl (hF.eval rfl)) fun a hF => ?_
                          refine wl_v hF rfl rfl rfl (q_extract rfl (hF.eval rfl) rfl) fun a hF => ?_
                          refine wl_v hF rfl rfl rfl (q_extract rfl (hF.eval rfl) rfl) fun a hF => ?_
                          refine wl_e hF rfl rfl rfl (e_alloc hO Try.zeroValue42 rfl rfl) ?_
                          rintro a _ w ⟨o1, rfl, hO⟩ hF
                          refine wl_s hF rfl rfl (e_storeAll hO (i := 0) rfl Try.sizeOf42 rfl (hF.eval rfl) (hF.eval rfl) rfl rfl) ?_
                          rintro a _ w ⟨-, hO⟩ hF
                          have hO : St _ _ _ [_, _, _, _, _, _, _, _, _, _, _, _, _] := hO
                          refine wl_v hF rfl rfl rfl (q_assign rfl (hF.eval rfl)) fun a hF => ?_
                          refine wl_nil ?_
                          refine k_n ?_
                          refine wp_seq ?_
                          refine wp_region_lit ?_
                          refine wl_v hF rfl rfl rfl (q_move rfl (hF.eval rfl)) fun a hF => ?_
                          refine wl_v hF rfl rfl rfl (q_move rfl (hF.eval rfl)) fun a hF => ?_
                          refine wl_e hF rfl rfl rfl (c_call hF rfl rfl Try.call34 (object_rr _ _ _ (hO.rr 6 7 8 rfl rfl rfl) hC.g hC.hfs _)) ?_
                          rintro a _ w ⟨vq, rq, hrq, rfl, hS⟩ hF
                          have hO := hO.call0 hS
                          have hO : St _ _ _ [_, _, _, _, _, _, _, _, _, _, _, _, _, _] := hO
                          obtain rfl : ro = rq := hro.symm.trans ((hC.obj _).trans hrq)
                          obtain ⟨Aq, cq, rfl, _⟩ := Rd.is (hO.rd 0 rfl)
                          refine wl_v hF rfl rfl rfl (q_move rfl (hF.eval rfl)) fun a hF => ?_
                          refine wl_v hF rfl rfl rfl (q_extract rfl (hF.eval rfl) rfl) fun a hF => ?_
                          refine wl_v hF rfl rfl rfl (q_extract rfl (hF.eval rfl) rfl) fun a hF => ?_
                          refine wl_e hF rfl rfl rfl (e_alloc hO Try.zeroValue42 rfl rfl) ?_
                          rintro a _ w ⟨o2, rfl, hO⟩ hF
                          refine wl_s hF rfl rfl (e_storeAll hO (i := 0) rfl Try.sizeOf42 rfl (hF.eval rfl) (hF.eval rfl) rfl rfl) ?_
                          rintro a _ w ⟨-, hO⟩ hF
                          have hO : St _ _ _ [_, _, _, _, _, _, _, _, _, _, _, _, _, _, _] := hO
                          refine wl_v hF rfl rfl rfl (q_assign rfl (hF.eval rfl)) fun a hF => ?_
                          refine wl_nil ?_
                          refine k_n ?_
                          refine wp_seq ?_
                          refine wp_region_lit ?_
                          refine wl_v hF rfl rfl rfl (q_move rfl (hF.eval rfl)) fun a hF => ?_
                          refine wl_v hF rfl rfl rfl (q_move rfl (hF.eval rfl)) fun a hF => ?_
                          refine wl_v hF rfl rfl rfl (q_eq rfl (hF.eval rfl) (hF.eval rfl)) fun a hF => ?_
                          refine wl_v hF rfl rfl rfl (q_move rfl (hF.eval rfl)) fun a hF => ?_
                          refine wl_g hF rfl rfl rfl rfl rfl rfl (fun hg => q_loadAgg Try.isAgg42 Try.sizeOf42 rfl (hF.eval rfl) (hO.cells 2 rfl) rfl) fun a hF => ?_
                          refine wl_g hF rfl rfl rfl rfl rfl rfl (fun hg => q_loadAgg Try.isAgg42 Try.sizeOf42 rfl (hF.eval rfl) (hO.cells 0 rfl) rfl) fun a hF => ?_
                          refine wl_gk hO hF rfl rfl rfl rfl rfl rfl (fun hg => c_callG hF rfl rfl (by first | with_reducible rfl | (simp only [gv_of hg]; done) | (simp only [gv_of hg]; rfl)) Try.call35 (same_r _ _ _ _ _ _ _ _ _ _ _ (hO.rdT 3 rfl) (hO.rdT 1 rfl))) fun a w hO hF => ?_
                          refine wl_v hF rfl rfl rfl (q_and rfl (hF.eval rfl) rfl (fun hg2 => ((hF.eval rfl).trans (gv_of hg2))) rfl) fun a hF => ?_
                          refine wl_v hF rfl rfl rfl (q_assign rfl (hF.eval rfl)) fun a hF => ?_
                          refine wl_nil ?_
                          refine k_n ?_
                          refine wp_seq ?_
                          refine wp_region_lit ?_
                          refine wl_v hF rfl rfl rfl (q_assign rfl (hF.eval rfl)) fun a hF => ?_
                          refine wl_nil ?_
                          refine k_n ?_
                          refine wp_block ?_
                          have hO := hO.drop1 0
                          have hO := hO.drop1 0
                          have hO := hO.drop1 10
                          have hO := hO.drop1 10
                          have hO := hO.drop1 10
                          have hO := hO.pull 1 rfl
                          have hO := hO.pull 9 rfl
                          have hO := hO.pull 9 rfl
                          have hO := hO.pull 9 rfl
                          have hO := hO.pull 9 rfl
                          have hO := hO.pull 9 rfl
                          have hO := hO.pull 9 rfl
                          have hO := hO.pull 9 rfl
                          have hO := hO.pull 9 rfl
                          have hO : St _ _ _ [_, _, _, _, _, _, _, _, _, _] := hO
                          refine wp_loopS (fun (s3 : Nat × List Wd) a w' => match s3 with | (n, ws) => (True) ∧ St w0 [] w' [.ob bh 77 (hpC vw vh vr h), slT vw 27 wordE h.words, slT vh 84 headE h.heads, slT vr 3 intE h.rem, .ob br 94 (rfC R), Ent.grp (pgE 99 R), Ent.grp (rowsE 27 R), slT va 3 intE all, slT (.slice Ao ro.1.fields.length co) 27 wordE ws, .ob o1 42 [i64 ro.1.kind, i64 ro.1.info, .slice Ao ro.1.fields.length co]] ∧ Fr a 370 [(1, i64 o), (2, vl), (7, ptr (adr bh)), (9, ptr (adr br)), (11, va), (12, i64 i), (14, i64 (whereF x.at_ x.raw all)), (17, .bool true), (24, ptr (adr o1)), (28, i64 n)]) (fun (s3 : Nat × List Wd) => match s3 with | (n, ws) => ws.length - n) (0, ro.1.fields) ⟨trivial, hO, hF.sub ⟨rfl, rfl, rfl, rfl, rfl, rfl, rfl, (congrArg (fun z => some (Value.bool z)) (decide_eq_true ⟨rfl, rfl, rfl, rfl⟩)), rfl, rfl, trivial⟩⟩ ?_
                          rintro ⟨n, ws⟩ a w ⟨_, hO, hF⟩
                          have hwsl := RdT.lenle (hO.rdT 8 rfl)
                          refine wp_seq ?_
                          refine wp_seq ?_
                          refine wp_region_lit ?_
                          refine wl_v hF rfl rfl rfl (q_move rfl (hF.eval rfl)) fun a hF => ?_
                          refine wl_v hF rfl rfl rfl (q_fieldAddr0 (d := 2) Try.underlying42 rfl (hF.eval rfl) rfl Try.sizeOf37 (by decide) rfl) fun a hF => ?_
                          refine wl_v hF rfl rfl rfl (q_load Try.isAgg37 rfl (hF.eval rfl) (hO.cell 9 rfl rfl)) fun a hF => ?_
                          refine wl_v hF rfl rfl rfl (q_lenRd (hO.rd 8 rfl) Try.underlying37 rfl (hF.eval rfl)) fun a hF => ?_
                          refine wl_v hF rfl rfl rfl (q_lt rfl (hF.eval rfl) (hF.eval rfl)) fun a hF => ?_
                          refine wl_nil ?_
                          refine k_n ?_
                          refine wp_ifD hF rfl rfl (fun hc17 => ?_) (fun hc17 => ?_)
                          · skip
                            refine wp_skip ?_
                            refine k_n ?_
                            refine wp_seq ?_
                            refine wp_block ?_
                            refine wp_region_lit ?_
                            refine wl_v hF rfl rfl rfl (q_fieldAddr0 (d := 2) Try.underlying42 rfl (hF.eval rfl) rfl Try.sizeOf37 (by decide) rfl) fun a hF => ?_
                            refine wl_v hF rfl rfl rfl (q_load Try.isAgg37 rfl (hF.eval rfl) (hO.cell 9 rfl rfl)) fun a hF => ?_
                            refine wl_v hF rfl rfl rfl (q_move rfl (hF.eval rfl)) fun a hF => ?_
                            refine wl_v hF rfl rfl rfl (c_build hF Try.underlying27 Try.zeroValue27 Try_places27 rfl rfl rfl rfl) fun a hF => ?_
                            refine wl_v hF rfl rfl rfl (q_at (i := n) (hO.rd 8 rfl) Try.underlying37 Try.sizeOf27 rfl (hF.eval rfl) (hF.eval rfl) (by omega)) fun a hF => ?_
                            refine wl_s hF rfl rfl (e_storeElT (m := n) (off := 0) (q := ⟨false, -7⟩) hO (i := 8) rfl Try.sizeOf27 rfl (hF.eval rfl) rfl (hF.eval rfl) rfl (get_D (d := wd0) (by omega)) rfl (Nat.le_of_ble_eq_true rfl) rfl (all1 rfl)) ?_
                            rintro a _ w ⟨-, hO⟩ hF
                            have hO : St _ _ _ [_, _, _, _, _, _, _, _, _, _] := hO
                            refine wl_nil ?_
                            refine b_n ?_
                            refine k_n ?_
                            refine wp_region_lit ?_
                            refine wl_v hF rfl rfl rfl (q_move rfl (hF.eval rfl)) fun a hF => ?_
                            refine wl_v hF rfl rfl rfl (q_add rfl (hF.eval rfl) (hF.eval rfl) (by omega)) fun a hF => ?_
                            refine wl_v hF rfl rfl rfl (q_assign rfl (hF.eval rfl)) fun a hF => ?_
                            refine wl_nil ?_
                            refine k_n ?_
                            have hO : St _ _ _ [_, _, _, _, _, _, _, _, _, _] := hO
                            exact ⟨(n + 1, ws.set n ⟨false, -7⟩), ⟨trivial, hO, hF.sub ⟨rfl, rfl, rfl, rfl, rfl, rfl, rfl, rfl, rfl, rfl, trivial⟩⟩, by dsimp only; rw [List.length_set]; omega⟩
                          · skip
                            refine wp_exit ?_
                            refine k_x ?_
                            refine k_x ?_
                            refine b_x ?_
                            refine b_n ?_
                            refine k_n ?_
                            have hO := hO.drop1 8
                            have hO := hO.drop1 8
                            have hO : St _ _ _ [_, _, _, _, _, _, _, _] := hO
                            exact ⟨(h, vr, R, all, va), ⟨⟨hC, hRO, by omega⟩, hO, hF.sub ⟨rfl, rfl, rfl, rfl, rfl, rfl, rfl, rfl, trivial⟩⟩⟩
                        · skip
                          refine wp_seq ?_
                          refine wp_region_lit ?_
                          refine wl_v hF rfl rfl rfl (q_eq rfl (hF.eval rfl) (hF.eval rfl)) fun a hF => ?_
                          refine wl_v hF rfl rfl rfl (q_assign rfl (hF.eval rfl)) fun a hF => ?_
                          refine wl_nil ?_
                          refine k_n ?_
                          refine wp_ifD hF rfl rfl (fun hc18 => ?_) (fun hc18 => ?_)
                          · skip
                            refine wp_seq ?_
                            refine wp_region_lit ?_
                            refine wl_v hF rfl rfl rfl (q_move rfl (hF.eval rfl)) fun a hF => ?_
                            have hO := hO.pull 3 rfl
                            have hO := hO.pull 3 rfl
                            have hO := hO.pull 3 rfl
                            have hO := hO.pull 3 rfl
                            have hO : St _ _ _ [_, _, _, _, _, _, _, _, _, _, _] := hO
                            refine wl_e hF rfl rfl rfl (c_call hF rfl rfl Try.call20 (clear_r _ _ _ _ _ _ hO.own4 hC.sep.wf (Nat.le_trans hC.rlen (by decide)) )) ?_
                            rintro a _ w ⟨vr, rfl, hS⟩ hF
                            have hO := hO.call4 hS
                            have hO : St _ _ _ [_, _, _, _, _, _, _, _, _, _, _] := hO
                            refine wl_nil ?_
                            refine k_n ?_
                            refine wp_region_lit ?_
                            refine wl_v hF rfl rfl rfl (q_move rfl (hF.eval rfl)) fun a hF => ?_
                            have hO := hO.pull 6 rfl
                            have hO := hO.pull 6 rfl
                            have hO := hO.pull 6 rfl
                            have hO : St _ _ _ [_, _, _, _, _, _, _, _, _, _, _] := hO
                            refine wl_e hF rfl rfl rfl (c_call hF rfl rfl Try.call36 (clear_rr _ _ _ hO.own3 hC.g )) ?_
                            rintro a _ w ⟨rfl, hS⟩ hF
                            have hO := hO.call3 hS
                            have hO : St _ _ _ [_, _, _, _, _, _, _, _, _, _, _] := hO
                            refine wl_nil ?_
                            refine b_n ?_
                            refine k_n ?_
                            have hO := hO.drop1 8
                            have hO := hO.drop1 8
                            have hO := hO.drop1 8
                            have hO := hO.pull 7 rfl
                            have hO := hO.pull 3 rfl
                            have hO := hO.pull 3 rfl
                            have hO := hO.pull 3 rfl
                            have hO := hO.pull 7 rfl
                            have hO := hO.pull 7 rfl
                            have hO := hO.pull 7 rfl
                            have hO := hO.pull 7 rfl
                            have hO : St _ _ _ [_, _, _, _, _, _, _, _] := hO
                            exact ⟨(clearH h, vr, clearR R, all, va), ⟨⟨hC.clear, hRO, by omega⟩, hO, hF.sub ⟨rfl, rfl, rfl, rfl, rfl, rfl, rfl, rfl, trivial⟩⟩⟩
                          · skip
                            refine wp_seq ?_
                            refine wp_region_lit ?_
                            refine wl_v hF rfl rfl rfl (q_eq rfl (hF.eval rfl) (hF.eval rfl)) fun a hF => ?_
                            refine wl_v hF rfl rfl rfl (q_assign rfl (hF.eval rfl)) fun a hF => ?_
                            refine wl_nil ?_
                            refine k_n ?_
                            refine wp_ifD hF rfl rfl (fun hc19 => ?_) (fun hc19 => ?_)
                            · skip
                              refine wp_seq ?_
                              refine wp_region_lit ?_
                              refine wl_v hF rfl rfl rfl (q_move rfl (hF.eval rfl)) fun a hF => ?_
                              have hO := hO.pull 3 rfl
                              have hO := hO.pull 3 rfl
                              have hO := hO.pull 3 rfl
                              have hO := hO.pull 3 rfl
                              have hO : St _ _ _ [_, _, _, _, _, _, _, _, _, _, _] := hO
                              refine wl_e hF rfl rfl rfl (c_call hF rfl rfl Try.call24 (flip_r _ _ _ _ _ _ hO.own4 hC.sep.wf (Nat.le_trans hC.rlen (by decide)) )) ?_
                              rintro a _ w ⟨vr, rfl, hS⟩ hF
                              have hO := hO.call4 hS
                              have hO : St _ _ _ [_, _, _, _, _, _, _, _, _, _, _] := hO
                              refine wl_nil ?_
                              refine k_n ?_
                              refine wp_region_lit ?_
                              refine wl_v hF rfl rfl rfl (q_move rfl (hF.eval rfl)) fun a hF => ?_
                              have hO := hO.pull 6 rfl
                              have hO := hO.pull 6 rfl
                              have hO := hO.pull 6 rfl
                              have hO : St _ _ _ [_, _, _, _, _, _, _, _, _, _, _] := hO
                              refine wl_e hF rfl rfl rfl (c_call hF rfl rfl Try.call37 (flip_rr _ _ _ hO.own3 hC.g )) ?_
                              rintro a _ w ⟨rfl, hS⟩ hF
                              have hO := hO.call3 hS
                              have hO : St _ _ _ [_, _, _, _, _, _, _, _, _, _, _] := hO
                              refine wl_nil ?_
                              refine b_n ?_
                              refine k_n ?_
                              have hO := hO.drop1 8
                              have hO := hO.drop1 8
                              have hO := hO.drop1 8
                              have hO := hO.pull 7 rfl
                              have hO := hO.pull 3 rfl
                              have hO := hO.pull 3 rfl
                              have hO := hO.pull 3 rfl
                              have hO := hO.pull 7 rfl
                              have hO := hO.pull 7 rfl
                              have hO := hO.pull 7 rfl
                              have hO := hO.pull 7 rfl
                              have hO : St _ _ _ [_, _, _, _, _, _, _, _] := hO
                              exact ⟨(flipH h, vr, flipR R, all, va), ⟨⟨hC.flip, hRO, by omega⟩, hO, hF.sub ⟨rfl, rfl, rfl, rfl, rfl, rfl, rfl, rfl, trivial⟩⟩⟩
                            · skip
                              refine wp_seq ?_
                              refine wp_region_lit ?_
                              refine wl_v hF rfl rfl rfl (q_eq rfl (hF.eval rfl) (hF.eval rfl)) fun a hF => ?_
                              refine wl_v hF rfl rfl rfl (q_assign rfl (hF.eval rfl)) fun a hF => ?_
                              refine wl_nil ?_
                              refine k_n ?_
                              refine wp_ifD hF rfl rfl (fun hc20 => ?_) (fun hc20 => ?_)
                              · skip
                                refine wp_seq ?_
                                refine wp_region_lit ?_
                                refine wl_v hF rfl rfl rfl (q_move rfl (hF.eval rfl)) fun a hF => ?_
                                have hO := hO.pull 3 rfl
                                have hO := hO.pull 3 rfl
                                have hO := hO.pull 3 rfl
                                have hO := hO.pull 3 rfl
                                have hO : St _ _ _ [_, _, _, _, _, _, _, _, _, _, _] := hO
                                refine wl_e hF rfl rfl rfl (c_call hF rfl rfl Try.call38 (dropG_r _ _ _ _ _ _ hO.own4 hC.sep.wf (Nat.le_trans hC.rlen (by decide)) )) ?_
                                rintro a _ w ⟨vr, rfl, hS⟩ hF
                                have hO := hO.call4 hS
                                have hO : St _ _ _ [_, _, _, _, _, _, _, _, _, _, _] := hO
                                refine wl_nil ?_
                                refine k_n ?_
                                refine wp_region_lit ?_
                                refine wl_v hF rfl rfl rfl (q_move rfl (hF.eval rfl)) fun a hF => ?_
                                have hO := hO.pull 6 rfl
                                have hO := hO.pull 6 rfl
                                have hO := hO.pull 6 rfl
                                have hO : St _ _ _ [_, _, _, _, _, _, _, _, _, _, _] := hO
                                refine wl_e hF rfl rfl rfl (c_call hF rfl rfl Try.call39 (drop_rr _ _ _ hO.own3 hC.g )) ?_
                                rintro a _ w ⟨rfl, hS⟩ hF
                                have hO := hO.call3 hS
                                have hO : St _ _ _ [_, _, _, _, _, _, _, _, _, _, _] := hO
                                refine wl_nil ?_
                                refine b_n ?_
                                refine k_n ?_
                                have hO := hO.drop1 8
                                have hO := hO.drop1 8
                                have hO := hO.drop1 8
                                have hO := hO.pull 7 rfl
                                have hO := hO.pull 3 rfl
                                have hO := hO.pull 3 rfl
                                have hO := hO.pull 3 rfl
                                have hO := hO.pull 7 rfl
                                have hO := hO.pull 7 rfl
                                have hO := hO.pull 7 rfl
                                have hO := hO.pull 7 rfl
                                have hO : St _ _ _ [_, _, _, _, _, _, _, _] := hO
                                exact ⟨(dropH h, vr, dropR R, all, va), ⟨⟨hC.drop, hRO, by omega⟩, hO, hF.sub ⟨rfl, rfl, rfl, rfl, rfl, rfl, rfl, rfl, trivial⟩⟩⟩
                              · skip
                                refine wp_skip ?_
                                refine b_n ?_
                                refine k_n ?_
                                have hO := hO.drop1 8
                                have hO := hO.drop1 8
                                have hO := hO.drop1 8
                                have hO : St _ _ _ [_, _, _, _, _, _, _, _] := hO
                                exact ⟨(h, vr, R, all, va), ⟨⟨hC, hRO, by omega⟩, hO, hF.sub ⟨rfl, rfl, rfl, rfl, rfl, rfl, rfl, rfl, trivial⟩⟩⟩
          · skip
            rintro ⟨h1, vr1, R1, all1, va1⟩ a w ⟨⟨hC1, hO1, hal1⟩, hO, hF⟩
            refine wp_seq ?_
            refine wp_region_lit ?_
            refine wl_v hF rfl rfl rfl (q_move rfl (hF.eval rfl)) fun a hF => ?_
            refine wl_e hF rfl rfl rfl (c_call hF rfl rfl Try.call19 (used_r _ _ _ _ _ _ (hO.hr 0 1 2 3 rfl rfl rfl rfl) hC1.sep.wf)) ?_
            rintro a _ w ⟨rfl, hS⟩ hF
            have hO := hO.call0 hS
            have hO : St _ _ _ [_, _, _, _, _, _, _, _] := hO
            rw [hC1.used] at hF
            refine wl_v hF rfl rfl rfl (q_move rfl (hF.eval rfl)) fun a hF => ?_
            refine wl_v hF rfl rfl rfl (q_extract rfl (hF.eval rfl) rfl) fun a hF => ?_
            refine wl_v hF rfl rfl rfl (q_extract rfl (hF.eval rfl) rfl) fun a hF => ?_
            refine wl_v hF rfl rfl rfl (q_assign rfl (hF.eval rfl)) fun a hF => ?_
            refine wl_v hF rfl rfl rfl (q_assign rfl (hF.eval rfl)) fun a hF => ?_
            refine wl_nil ?_
            refine k_n ?_
            refine wp_seq ?_
            refine wp_region_lit ?_
            refine wl_v hF rfl rfl rfl (q_move rfl (hF.eval rfl)) fun a hF => ?_
            refine wl_e hF rfl rfl rfl (c_call hF rfl rfl Try.call40 (used2_rr _ _ _ (hO.rr 4 5 6 rfl rfl rfl) hC1.g )) ?_
            rintro a _ w ⟨rfl, hS⟩ hF
            have hO := hO.call0 hS
            have hO : St _ _ _ [_, _, _, _, _, _, _, _] := hO
            refine wl_v hF rfl rfl rfl (q_move rfl (hF.eval rfl)) fun a hF => ?_
            refine wl_v hF rfl rfl rfl (q_extract rfl (hF.eval rfl) rfl) fun a hF => ?_
            refine wl_v hF rfl rfl rfl (q_extract rfl (hF.eval rfl) rfl) fun a hF => ?_
            refine wl_v hF rfl rfl rfl (q_assign rfl (hF.eval rfl)) fun a hF => ?_
            refine wl_v hF rfl rfl rfl (q_assign rfl (hF.eval rfl)) fun a hF => ?_
            refine wl_nil ?_
            refine k_n ?_
            refine wp_seq ?_
            refine wp_seq ?_
            refine wp_region_lit ?_
            refine wl_v hF rfl rfl rfl (q_move rfl (hF.eval rfl)) fun a hF => ?_
            refine wl_v hF rfl rfl rfl (q_not rfl (hF.eval rfl) (dec_b _)) fun a hF => ?_
            refine wl_v hF rfl rfl rfl (q_move rfl (hF.eval rfl)) fun a hF => ?_
            refine wl_un hF rfl rfl rfl rfl (isB_F (by simp)) ?_
            refine wl_v hF rfl rfl rfl (q_move rfl (hF.eval rfl)) fun a hF => ?_
            refine wl_un hF rfl rfl rfl rfl (isB_F (by simp)) ?_
            refine wl_v hF rfl rfl rfl (q_move rfl (hF.eval rfl)) fun a hF => ?_
            refine wl_un hF rfl rfl rfl rfl (isB_F (by simp)) ?_
            refine wl_v hF rfl rfl rfl (q_ne rfl (hF.eval rfl) (hF.eval rfl)) fun a hF => ?_
            refine wl_v hF rfl rfl rfl (q_or rfl (hF.eval rfl) rfl (fun hg2 => (hF.eval rfl)) rfl) fun a hF => ?_
            refine wl_v hF rfl rfl rfl (q_move rfl (hF.eval rfl)) fun a hF => ?_
            refine wl_un hF rfl rfl rfl rfl (isB_F (by simp)) ?_
            refine wl_v hF rfl rfl rfl (q_move rfl (hF.eval rfl)) fun a hF => ?_
            refine wl_un hF rfl rfl rfl rfl (isB_F (by simp)) ?_
            refine wl_v hF rfl rfl rfl (q_move rfl (hF.eval rfl)) fun a hF => ?_
            refine wl_un hF rfl rfl rfl rfl (isB_F (by simp)) ?_
            refine wl_v hF rfl rfl rfl (q_ne rfl (hF.eval rfl) (hF.eval rfl)) fun a hF => ?_
            refine wl_v hF rfl rfl rfl (q_or rfl (hF.eval rfl) rfl (fun hg2 => (hF.eval rfl)) rfl) fun a hF => ?_
            refine wl_v hF rfl rfl rfl (q_move rfl (hF.eval rfl)) fun a hF => ?_
            refine wl_un hF rfl rfl rfl rfl (isB_F (by simp)) ?_
            refine wl_v hF rfl rfl rfl (q_move rfl (hF.eval rfl)) fun a hF => ?_
            refine wl_un hF rfl rfl rfl rfl (isB_F (by simp)) ?_
            refine wl_e hF rfl rfl rfl (c_call hF rfl rfl Try.call41 (left_r _ _ _ _ _ _ (hO.hr 0 1 2 3 rfl rfl rfl rfl) hC1.sep.wf)) ?_
            rintro a _ w ⟨rfl, hS⟩ hF
            have hO := hO.call0 hS
            have hO : St _ _ _ [_, _, _, _, _, _, _, _] := hO
            rw [hC1.left] at hF
            refine wl_un hF rfl rfl rfl rfl (isB_F (by simp)) ?_
            refine wl_v hF rfl rfl rfl (q_move rfl (hF.eval rfl)) fun a hF => ?_
            refine wl_un hF rfl rfl rfl rfl (isB_F (by simp)) ?_
            refine wl_e hF rfl rfl rfl (c_call hF rfl rfl Try.call42 (left_rr _ _ _ (hO.rr 4 5 6 rfl rfl rfl) hC1.g )) ?_
            rintro a _ w ⟨rfl, hS⟩ hF
            have hO := hO.call0 hS
            have hO : St _ _ _ [_, _, _, _, _, _, _, _] := hO
            refine wl_un hF rfl rfl rfl rfl (isB_F (by simp)) ?_
            refine wl_v hF rfl rfl rfl (q_ne rfl (hF.eval rfl) (hF.eval rfl)) fun a hF => ?_
            refine wl_v hF rfl rfl rfl (q_or rfl (hF.eval rfl) rfl (fun hg2 => (hF.eval rfl)) rfl) fun a hF => ?_
            refine wl_v hF rfl rfl rfl (q_move rfl (hF.eval rfl)) fun a hF => ?_
            refine wl_un hF rfl rfl rfl rfl (isB_F (by simp)) ?_
            refine wl_v hF rfl rfl rfl (q_move rfl (hF.eval rfl)) fun a hF => ?_
            refine wl_un hF rfl rfl rfl rfl (isB_F (by simp)) ?_
            refine wl_e hF rfl rfl rfl (c_call hF rfl rfl Try.call43 (half_r _ _ _ _ _ _ (hO.hr 0 1 2 3 rfl rfl rfl rfl) hC1.sep.wf)) ?_
            rintro a _ w ⟨rfl, hS⟩ hF
            have hO := hO.call0 hS
            have hO : St _ _ _ [_, _, _, _, _, _, _, _] := hO
            rw [hC1.half, hO1] at hF
            refine wl_un hF rfl rfl rfl rfl (isB_F (by simp)) ?_
            refine wl_v hF rfl rfl rfl (q_move rfl (hF.eval rfl)) fun a hF => ?_
            refine wl_un hF rfl rfl rfl rfl (isB_F (by simp)) ?_
            refine wl_v hF rfl rfl rfl (q_ne rfl (hF.eval rfl) (hF.eval rfl)) fun a hF => ?_
            refine wl_v hF rfl rfl rfl (q_or rfl (hF.eval rfl) rfl (fun hg2 => (hF.eval rfl)) rfl) fun a hF => ?_
            refine wl_v hF rfl rfl rfl (q_move rfl (hF.eval rfl)) fun a hF => ?_
            refine wl_un hF rfl rfl rfl rfl (isB_F (by simp)) ?_
            refine wl_v hF rfl rfl rfl (q_move rfl (hF.eval rfl)) fun a hF => ?_
            refine wl_un hF rfl rfl rfl rfl (isB_F (by simp)) ?_
            refine wl_v hF rfl rfl rfl (q_move rfl (hF.eval rfl)) fun a hF => ?_
            refine wl_un hF rfl rfl rfl rfl (isB_F (by simp)) ?_
            refine wl_e hF rfl rfl rfl (c_call hF rfl rfl Try.call26 (young_r _ _ _ _ _ _ (hO.hr 0 1 2 3 rfl rfl rfl rfl) _)) ?_
            rintro a _ w ⟨rfl, hS⟩ hF
            have hO := hO.call0 hS
            have hO : St _ _ _ [_, _, _, _, _, _, _, _] := hO
            rw [show decide (youngH h1 (whereF x.at_ x.raw all)) = decide (youngR R1 (whereF x.at_ x.raw all)) from decide_eq_decide.2 hC1.young.symm] at hF
            refine wl_un hF rfl rfl rfl rfl (isB_F (by simp)) ?_
            refine wl_v hF rfl rfl rfl (q_move rfl (hF.eval rfl)) fun a hF => ?_
            refine wl_un hF rfl rfl rfl rfl (isB_F (by simp)) ?_
            refine wl_v hF rfl rfl rfl (q_move rfl (hF.eval rfl)) fun a hF => ?_
            refine wl_un hF rfl rfl rfl rfl (isB_F (by simp)) ?_
            refine wl_e hF rfl rfl rfl (c_call hF rfl rfl Try.call44 (young_rr _ _ _ (hO.rr 4 5 6 rfl rfl rfl) hC1.g _)) ?_
            rintro a _ w ⟨rfl, hS⟩ hF
            have hO := hO.call0 hS
            have hO : St _ _ _ [_, _, _, _, _, _, _, _] := hO
            refine wl_un hF rfl rfl rfl rfl (isB_F (by simp)) ?_
            refine wl_v hF rfl rfl rfl (q_bne Try.underlying4 rfl (hF.eval rfl) (hF.eval rfl)) fun a hF => ?_
            refine wl_v hF rfl rfl rfl (q_or rfl (hF.eval rfl) rfl (fun hg2 => (hF.eval rfl)) rfl) fun a hF => ?_
            refine wl_v hF rfl rfl rfl (q_move rfl (hF.eval rfl)) fun a hF => ?_
            refine wl_un hF rfl rfl rfl rfl (isB_F (by simp)) ?_
            refine wl_v hF rfl rfl rfl (q_move rfl (hF.eval rfl)) fun a hF => ?_
            refine wl_un hF rfl rfl rfl rfl (isB_F (by simp)) ?_
            refine wl_e hF rfl rfl rfl (c_call hF rfl rfl Try.call25 (remembered_r _ _ _ _ _ _ (hO.hr 0 1 2 3 rfl rfl rfl rfl) (Nat.le_trans hC1.rlen (by decide)))) ?_
            rintro a v9 w ⟨_, rfl, hS⟩ hF
            have hO := hO.call0 hS
            have hO : St _ _ _ [_, _, _, _, _, _, _, _, _] := hO
            rw [hC1.rem] at hO
            refine wl_un hF rfl rfl rfl rfl (isB_F (by simp)) ?_
            refine wl_v hF rfl rfl rfl (q_move rfl (hF.eval rfl)) fun a hF => ?_
            refine wl_un hF rfl rfl rfl rfl (isB_F (by simp)) ?_
            refine wl_e hF rfl rfl rfl (c_call hF rfl rfl Try.call46 (rem_rr _ _ _ (hO.rr 5 6 7 rfl rfl rfl) hC1.g)) ?_
            rintro a v8 w ⟨_, rfl, hS⟩ hF
            have hO := hO.call0 hS
            have hO : St _ _ _ [_, _, _, _, _, _, _, _, _, _] := hO
            refine wl_un hF rfl rfl rfl rfl (isB_F (by simp)) ?_
            refine wl_e hF rfl rfl rfl (c_call hF rfl rfl Try.call45 (ints_r _ _ _ _ _ (hO.rdT 1 rfl) (hO.rdT 0 rfl))) ?_
            rintro a _ w ⟨rfl, hS⟩ hF
            have hO := hO.call0 hS
            have hO : St _ _ _ [_, _, _, _, _, _, _, _, _, _] := hO
            refine wl_un hF rfl rfl rfl rfl (isB_F (by simp)) ?_
            refine wl_v hF rfl rfl rfl (q_not rfl (hF.eval rfl) rfl) fun a hF => ?_
            refine wl_v hF rfl rfl rfl (q_or rfl (hF.eval rfl) rfl (fun hg2 => (hF.eval rfl)) rfl) fun a hF => ?_
            refine wl_nil ?_
            refine k_n ?_
            refine wp_ifD hF rfl rfl (fun hc21 => ?_) (fun hc21 => ?_)
            · skip
              exact absurd hc21 (by simp)
            · skip
              refine wp_skip ?_
              refine k_n ?_
              refine wp_seq ?_
              refine wp_region_lit ?_
              refine wl_v hF rfl rfl rfl (q_move rfl (hF.eval rfl)) fun a hF => ?_
              refine wl_v hF rfl rfl rfl (q_lenRd (hO.rd 9 rfl) Try.underlying36 rfl (hF.eval rfl)) fun a hF => ?_
              refine wl_v hF rfl rfl rfl (q_gt rfl (hF.eval rfl) (hF.eval rfl)) fun a hF => ?_
              refine wl_nil ?_
              refine k_n ?_
              refine wp_ifD hF rfl rfl (fun hc22 => ?_) (fun hc22 => ?_)
              · skip
                have hal0 : 0 < (all1.length : Int) := by omega
                have hk0 : 0 ≤ ((i : Int).tmod (all1.length : Int)) := Int.tmod_nonneg _ (by omega)
                have hk1 := Int.tmod_lt_of_pos (i : Int) hal0
                refine wp_seq ?_
                refine wp_region_lit ?_
                refine wl_v hF rfl rfl rfl (q_move rfl (hF.eval rfl)) fun a hF => ?_
                refine wl_v hF rfl rfl rfl (q_move rfl (hF.eval rfl)) fun a hF => ?_
                refine wl_v hF rfl rfl rfl (q_move rfl (hF.eval rfl)) fun a hF => ?_
                refine wl_v hF rfl rfl rfl (q_move rfl (hF.eval rfl)) fun a hF => ?_
                refine wl_v hF rfl rfl rfl (q_lenRd (hO.rd 9 rfl) Try.underlying36 rfl (hF.eval rfl)) fun a hF => ?_
                refine wl_v hF rfl rfl rfl (q_rem rfl (hF.eval rfl) (hF.eval rfl) (by omega)) fun a hF => ?_
                refine wl_v hF rfl rfl rfl (q_at (i := ((i : Int).tmod (all1.length : Int)).toNat) (hO.rd 9 rfl) Try.underlying36 Try.sizeOf3 rfl (hF.eval rfl) ((hF.eval rfl).trans (congrArg i64 ((Int.toNat_of_nonneg (hk0)).symm))) (by omega)) fun a hF => ?_
                refine wl_v hF rfl rfl rfl (q_load Try.isAgg3 rfl (hF.eval rfl) (RdT.cell0 (hO.rdT 9 rfl) (get_D (d := 0) (by omega)) rfl)) fun a hF => ?_
                refine wl_e hF rfl rfl rfl (c_call hF rfl rfl Try.call18 (object_r _ _ _ _ _ _ (hO.hr 2 3 4 5 rfl rfl rfl rfl) hC1.sep.wf _)) ?_
                rintro a _ w ⟨vo, ro, hro, rfl, hS⟩ hF
                have hO := hO.call0 hS
                have hO : St _ _ _ [_, _, _, _, _, _, _, _, _, _, _] := hO
                obtain ⟨Ao, co, rfl, _⟩ := Rd.is (hO.rd 0 rfl)
                refine wl_v hF rfl rfl rfl (q_move rfl (hF.eval rfl)) fun a hF => ?_
                refine wl_v hF rfl rfl rfl (q_extract rfl (hF.eval rfl) rfl) fun a hF => ?_
                refine wl_v hF rfl rfl rfl (q_extract rfl (hF.eval rfl) rfl) fun a hF => ?_
                refine wl_e hF rfl rfl rfl (e_alloc hO Try.zeroValue42 rfl rfl) ?_
                rintro a _ w ⟨o1, rfl, hO⟩ hF
                refine wl_s hF rfl rfl (e_storeAll hO (i := 0) rfl Try.sizeOf42 rfl (hF.eval rfl) (hF.eval rfl) rfl rfl) ?_
                rintro a _ w ⟨-, hO⟩ hF
                have hO : St _ _ _ [_, _, _, _, _, _, _, _, _, _, _, _] := hO
                refine wl_v hF rfl rfl rfl (q_assign rfl (hF.eval rfl)) fun a hF => ?_
                refine wl_nil ?_
                refine k_n ?_
                refine wp_seq ?_
                refine wp_region_lit ?_
                refine wl_v hF rfl rfl rfl (q_move rfl (hF.eval rfl)) fun a hF => ?_
                refine wl_v hF rfl rfl rfl (q_move rfl (hF.eval rfl)) fun a hF => ?_
                refine wl_v hF rfl rfl rfl (q_move rfl (hF.eval rfl)) fun a hF => ?_
                refine wl_v hF rfl rfl rfl (q_move rfl (hF.eval rfl)) fun a hF => ?_
                refine wl_v hF rfl rfl rfl (q_lenRd (hO.rd 11 rfl) Try.underlying36 rfl (hF.eval rfl)) fun a hF => ?_
                refine wl_v hF rfl rfl rfl (q_rem rfl (hF.eval rfl) (hF.eval rfl) (by omega)) fun a hF => ?_
                refine wl_v hF rfl rfl rfl (q_at (i := ((i : Int).tmod (all1.length : Int)).toNat) (hO.rd 11 rfl) Try.underlying36 Try.sizeOf3 rfl (hF.eval rfl) ((hF.eval rfl).trans (congrArg i64 ((Int.toNat_of_nonneg (hk0)).symm))) (by omega)) fun a hF => ?_
                refine wl_v hF rfl rfl rfl (q_load Try.isAgg3 rfl (hF.eval rfl) (RdT.cell0 (hO.rdT 11 rfl) (get_D (d := 0) (by omega)) rfl)) fun a hF => ?_
                refine wl_e hF rfl rfl rfl (c_call hF rfl rfl Try.call34 (object_rr _ _ _ (hO.rr 8 9 10 rfl rfl rfl) hC1.g hC1.hfs _)) ?_
                rintro a _ w ⟨vq, rq, hrq, rfl, hS⟩ hF
                have hO := hO.call0 hS
                have hO : St _ _ _ [_, _, _, _, _, _, _, _, _, _, _, _, _] := hO
                obtain rfl : ro = rq := hro.symm.trans ((hC1.obj _).trans hrq)
                obtain ⟨Aq, cq, rfl, _⟩ := Rd.is (hO.rd 0 rfl)
                refine wl_v hF rfl rfl rfl (q_move rfl (hF.eval rfl)) fun a hF => ?_
                refine wl_v hF rfl rfl rfl (q_extract rfl (hF.eval rfl) rfl) fun a hF => ?_
                refine wl_v hF rfl rfl rfl (q_extract rfl (hF.eval rfl) rfl) fun a hF => ?_
                refine wl_e hF rfl rfl rfl (e_alloc hO Try.zeroValue42 rfl rfl) ?_
                rintro a _ w ⟨o2, rfl, hO⟩ hF
                refine wl_s hF rfl rfl (e_storeAll hO (i := 0) rfl Try.sizeOf42 rfl (hF.eval rfl) (hF.eval rfl) rfl rfl) ?_
                rintro a _ w ⟨-, hO⟩ hF
                have hO : St _ _ _ [_, _, _, _, _, _, _, _, _, _, _, _, _, _] := hO
                refine wl_v hF rfl rfl rfl (q_assign rfl (hF.eval rfl)) fun a hF => ?_
                refine wl_nil ?_
                refine k_n ?_
                refine wp_seq ?_
                refine wp_region_lit ?_
                refine wl_v hF rfl rfl rfl (q_move rfl (hF.eval rfl)) fun a hF => ?_
                refine wl_v hF rfl rfl rfl (q_move rfl (hF.eval rfl)) fun a hF => ?_
                refine wl_v hF rfl rfl rfl (q_ne rfl (hF.eval rfl) (hF.eval rfl)) fun a hF => ?_
                refine wl_v hF rfl rfl rfl (q_move rfl (hF.eval rfl)) fun a hF => ?_
                refine wl_un hF rfl rfl rfl rfl (isB_F (by simp)) ?_
                refine wl_v hF rfl rfl rfl (q_loadAgg Try.isAgg42 Try.sizeOf42 rfl (hF.eval rfl) (hO.cells 2 rfl) rfl) fun a hF => ?_
                refine wl_un hF rfl rfl rfl rfl (isB_F (by simp)) ?_
                refine wl_v hF rfl rfl rfl (q_loadAgg Try.isAgg42 Try.sizeOf42 rfl (hF.eval rfl) (hO.cells 0 rfl) rfl) fun a hF => ?_
                refine wl_un hF rfl rfl rfl rfl (isB_F (by simp)) ?_
                refine wl_e hF rfl rfl rfl (c_call hF rfl rfl Try.call35 (same_r _ _ _ _ _ _ _ _ _ _ _ (hO.rdT 3 rfl) (hO.rdT 1 rfl))) ?_
                rintro a _ w ⟨rfl, hS⟩ hF
                have hO := hO.call0 hS
                have hO : St _ _ _ [_, _, _, _, _, _, _, _, _, _, _, _, _, _] := hO
                refine wl_un hF rfl rfl rfl rfl (isB_F (by simp)) ?_
                refine wl_v hF rfl rfl rfl (q_not rfl (hF.eval rfl) rfl) fun a hF => ?_
                refine wl_v hF rfl rfl rfl (q_or rfl (hF.eval rfl) rfl (fun hg2 => (hF.eval rfl)) rfl) fun a hF => ?_
                refine wl_nil ?_
                refine k_n ?_
                refine wp_ifD hF rfl rfl (fun hc23 => ?_) (fun hc23 => ?_)
                · skip
                  exact absurd hc23 (by simp)
                · skip
                  refine wp_skip ?_
                  refine b_n ?_
                  refine k_n ?_
                  refine wp_region_lit ?_
                  refine wl_v hF rfl rfl rfl (q_move rfl (hF.eval rfl)) fun a hF => ?_
                  refine wl_v hF rfl rfl rfl (q_add rfl (hF.eval rfl) (hF.eval rfl) (by omega)) fun a hF => ?_
                  refine wl_v hF rfl rfl rfl (q_assign rfl (hF.eval rfl)) fun a hF => ?_
                  refine wl_nil ?_
                  refine k_n ?_
                  have hO := hO.drop1 0
                  have hO := hO.drop1 0
                  have hO := hO.drop1 0
                  have hO := hO.drop1 0
                  have hO := hO.drop1 0
                  have hO := hO.drop1 0
                  have hO : St _ _ _ [_, _, _, _, _, _, _, _] := hO
                  exact ⟨(i + 1, h1, vr1, R1, all1, va1), ⟨⟨hC1, hO1, by omega, by omega, by omega⟩, hO, hF.sub ⟨rfl, rfl, rfl, rfl, rfl, rfl, trivial⟩⟩, by dsimp only; omega⟩
              · skip
                refine wp_skip ?_
                refine b_n ?_
                refine k_n ?_
                refine wp_region_lit ?_
                refine wl_v hF rfl rfl rfl (q_move rfl (hF.eval rfl)) fun a hF => ?_
                refine wl_v hF rfl rfl rfl (q_add rfl (hF.eval rfl) (hF.eval rfl) (by omega)) fun a hF => ?_
                refine wl_v hF rfl rfl rfl (q_assign rfl (hF.eval rfl)) fun a hF => ?_
                refine wl_nil ?_
                refine k_n ?_
                have hO := hO.drop1 0
                have hO := hO.drop1 0
                have hO : St _ _ _ [_, _, _, _, _, _, _, _] := hO
                exact ⟨(i + 1, h1, vr1, R1, all1, va1), ⟨⟨hC1, hO1, by omega, by omega, by omega⟩, hO, hF.sub ⟨rfl, rfl, rfl, rfl, rfl, rfl, trivial⟩⟩, by dsimp only; omega⟩
      · skip
        refine wp_exit ?_
        refine k_x ?_
        refine k_x ?_
        refine b_x ?_
        refine k_n ?_
        refine wp_seq ?_
        refine wp_region_lit ?_
        refine wl_e hF rfl rfl rfl (c_call hF rfl rfl Try.call15 (awake_r _)) ?_
        rintro a _ w ⟨rfl, hS⟩ hF
        have hO := hO.call0 hS
        have hO : St _ _ _ [_, _, _, _, _, _, _, _] := hO
        refine wl_v hF rfl rfl rfl (q_assign rfl (hF.eval rfl)) fun a hF => ?_
        refine wl_nil ?_
        refine k_n ?_
        refine wp_ret ?_
        refine r_1 hF rfl rfl ?_
        have hO := hO.drop1 0
        have hO := hO.drop1 0
        have hO := hO.drop1 0
        have hO := hO.drop1 0
        have hO := hO.drop1 0
        have hO := hO.drop1 0
        have hO := hO.drop1 0
        have hO := hO.drop1 0
        have hO : St _ _ _ [] := hO
        exact ⟨rfl, hO⟩


theorem hplays_r (w0 : World) (yg o : Int) (vl : Value) (l : List OpV) (hR : RdT w0 [] vl opE l) (hQ : ∀ x ∈ l, opQ w0 x) : Ret Try.prog 7 #[i64 yg, i64 o, vl] w0 (fun v w' => v = .bool true ∧ St w0 [] w' []) := by
  by_cases h : newBad yg o
  · exact hplaysB_r w0 yg o vl l hR hQ h
  · exact hplaysG_r w0 yg o vl l hR hQ h
end Go.Proofs.Ytglienidnffnjaa
