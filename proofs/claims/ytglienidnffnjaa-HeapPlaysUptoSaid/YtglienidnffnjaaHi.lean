import Derived.Test.YtglienidnffnjaaGf
import Derived.Test.YtglienidnffnjaaGw19
import Derived.Test.YtglienidnffnjaaPl7
namespace Go.Proofs.Ytglienidnffnjaa
open Go
set_option maxRecDepth 100000
set_option linter.unusedVariables false
theorem head_r (w0 : World) (bh : Nat) (vw vh vr : Value) (h : Hp) (hH : HR w0 [] bh vw vh vr h) (at_ : Int) : Ret Try.prog 53 #[ptr (adr bh), i64 at_] w0 (fun v w' => v = .pointer (hdP vh (headAt h.heads at_)) ∧ St w0 [] w' []) := by
  have hO := St.init0 w0
  refine ret_of (m := 33) Try.func53 rfl Try.ntmps53 [(0, ptr (adr bh)), (1, i64 at_)] rfl ⟨rfl, rfl, trivial⟩ fun a hF => ?_
  refine wp_seq ?_
  refine wp_region_lit ?_
  refine wl_v hF rfl rfl rfl (q_assign rfl (hF.eval rfl)) fun a hF => ?_
  refine wl_nil ?_
  refine k_n ?_
  refine wp_seq ?_
  refine wp_seq ?_
  refine wp_region_lit ?_
  refine wl_v hF rfl rfl rfl (q_move rfl (hF.eval rfl)) fun a hF => ?_
  refine wl_v hF rfl rfl rfl (q_lt rfl (hF.eval rfl) (hF.eval rfl)) fun a hF => ?_
  refine wl_v hF rfl rfl rfl (q_move rfl (hF.eval rfl)) fun a hF => ?_
  refine wl_g hF rfl rfl rfl rfl rfl rfl (fun hg => q_move rfl (hF.eval rfl)) fun a hF => ?_
  refine wl_g hF rfl rfl rfl rfl rfl rfl (fun hg => q_move rfl (hF.eval rfl)) fun a hF => ?_
  refine wl_g hF rfl rfl rfl rfl rfl rfl (fun hg => q_nilCheck rfl ((hF.eval rfl).trans (gv_of hg))) fun a hF => ?_
  refine wl_g hF rfl rfl rfl rfl rfl rfl (fun hg => q_fieldAddr0 (d := 1) Try.underlying77 rfl ((hF.eval rfl).trans (gv_of hg)) rfl Try.sizeOf72 (by decide) rfl) fun a hF => ?_
  refine wl_g hF rfl rfl rfl rfl rfl rfl (fun hg => q_load Try.isAgg72 rfl ((hF.eval rfl).trans (gv_of hg)) (rdB_cell (HR.now hH hO).blk rfl)) fun a hF => ?_
  refine wl_g hF rfl rfl rfl rfl rfl rfl (fun hg => q_lenRd hH.hs Try.underlying72 rfl ((hF.eval rfl).trans (gv_of hg))) fun a hF => ?_
  refine wl_g hF rfl rfl rfl rfl rfl rfl (fun hg => q_ge rfl ((hF.eval rfl).trans (gv_of hg)) ((hF.eval rfl).trans (gv_of hg))) fun a hF => ?_
  refine wl_v hF rfl rfl rfl (q_or rfl (hF.eval rfl) rfl (fun hg2 => ((hF.eval rfl).trans (gv_of hg2))) rfl) fun a hF => ?_
  refine wl_v hF rfl rfl rfl (q_move rfl (hF.eval rfl)) fun a hF => ?_
  refine wl_g hF rfl rfl rfl rfl rfl rfl (fun hg => q_move rfl (hF.eval rfl)) fun a hF => ?_
  refine wl_g hF rfl rfl rfl rfl rfl rfl (fun hg => q_nilCheck rfl ((hF.eval rfl).trans (gv_of hg))) fun a hF => ?_
  refine wl_g hF rfl rfl rfl rfl rfl rfl (fun hg => q_fieldAddr0 (d := 1) Try.underlying77 rfl ((hF.eval rfl).trans (gv_of hg)) rfl Try.sizeOf72 (by decide) rfl) fun a hF => ?_
  refine wl_g hF rfl rfl rfl rfl rfl rfl (fun hg => q_load Try.isAgg72 rfl ((hF.eval rfl).trans (gv_of hg)) (rdB_cell (HR.now hH hO).blk rfl)) fun a hF => ?_
  refine wl_g hF rfl rfl rfl rfl rfl rfl (fun hg => q_move rfl (hF.eval rfl)) fun a hF => ?_
  refine wl_g hF rfl rfl rfl rfl rfl rfl (fun hg => q_at (i := at_.toNat) hH.hs Try.underlying72 Try.sizeOf84 rfl ((hF.eval rfl).trans (gv_of hg)) (((hF.eval rfl).trans (gv_of hg)).trans (congrArg i64 ((Int.toNat_of_nonneg (by have := not_or.1 (of_gn hg); omega)).symm))) (by have := not_or.1 (of_gn hg); omega)) fun a hF => ?_
  refine wl_g hF rfl rfl rfl rfl rfl rfl (fun hg => q_fieldAddr0 (d := 0) Try.underlying84 rfl ((hF.eval rfl).trans (gv_of hg)) rfl Try.sizeOf3 (by decide) rfl) fun a hF => ?_
  refine wl_g hF rfl rfl rfl rfl rfl rfl (fun hg => q_load Try.isAgg3 rfl ((hF.eval rfl).trans (gv_of hg)) (RdT.cells (hH.hs.now hO) (get_D (d := hd0) (by have := not_or.1 (of_gn hg); omega)) _ _ rfl)) fun a hF => ?_
  refine wl_g hF rfl rfl rfl rfl rfl rfl (fun hg => q_eq rfl ((hF.eval rfl).trans (gv_of hg)) (hF.eval rfl)) fun a hF => ?_
  refine wl_v hF rfl rfl rfl (q_or rfl (hF.eval rfl) rfl (fun hg2 => ((hF.eval rfl).trans (gv_of hg2))) rfl) fun a hF => ?_
  refine wl_nil ?_
  refine k_n ?_
  refine wp_ifD hF rfl rfl (fun hc1 => ?_) (fun hc1 => ?_)
  · skip
    refine wp_seq ?_
    refine wp_region_lit ?_
    refine wl_v hF rfl rfl rfl (q_assign rfl (hF.eval rfl)) fun a hF => ?_
    refine wl_nil ?_
    refine k_n ?_
    refine wp_ret ?_
    refine k_r ?_
    refine r_1 hF rfl rfl ?_
    have hO : St _ _ _ [] := hO
    exact ⟨by unfold headAt; rw [if_pos hc1]; rfl, hO⟩
  · skip
    refine wp_skip ?_
    refine k_n ?_
    refine wp_seq ?_
    refine wp_region_lit ?_
    refine wl_v hF rfl rfl rfl (q_move rfl (hF.eval rfl)) fun a hF => ?_
    refine wl_v hF rfl rfl rfl (q_nilCheck rfl (hF.eval rfl)) fun a hF => ?_
    refine wl_v hF rfl rfl rfl (q_fieldAddr0 (d := 1) Try.underlying77 rfl (hF.eval rfl) rfl Try.sizeOf72 (by decide) rfl) fun a hF => ?_
    refine wl_v hF rfl rfl rfl (q_load Try.isAgg72 rfl (hF.eval rfl) (rdB_cell (HR.now hH hO).blk rfl)) fun a hF => ?_
    refine wl_v hF rfl rfl rfl (q_move rfl (hF.eval rfl)) fun a hF => ?_
    refine wl_v hF rfl rfl rfl (q_at (i := at_.toNat) hH.hs Try.underlying72 Try.sizeOf84 rfl (hF.eval rfl) ((hF.eval rfl).trans (congrArg i64 ((Int.toNat_of_nonneg (by have := not_or.1 (not_or.1 hc1).1; omega)).symm))) (by have := not_or.1 (not_or.1 hc1).1; omega)) fun a hF => ?_
    refine wl_v hF rfl rfl rfl (q_assign rfl (hF.eval rfl)) fun a hF => ?_
    refine wl_nil ?_
    refine k_n ?_
    refine wp_ret ?_
    refine r_1 hF rfl rfl ?_
    have hO : St _ _ _ [] := hO
    exact ⟨by unfold headAt; rw [if_neg hc1]; rfl, hO⟩

theorem real1_r (w0 : World) (bx bh : Nat) (vw vh vr : Value) (h : Hp) (hB : Rd w0 [] (gl1 bx) 1 1 [ptr (adr bh)]) (hH : HR w0 [] bh vw vh vr h) (x : Wd) : Ret Try.prog 74 #[.agg (wordE.cells x).toArray, ptr (adr bx)] w0 (fun v w' => v = .bool (decide (badW h.heads x)) ∧ St w0 [] w' []) := by
  have hO := St.init0 w0
  refine ret_of (m := 13) Try.func74 rfl Try.ntmps74 [(0, .agg (wordE.cells x).toArray), (1, ptr (adr bx))] rfl ⟨rfl, rfl, trivial⟩ fun a hF => ?_
  refine wp_seq ?_
  refine wp_region_lit ?_
  refine wl_e hF rfl rfl rfl (e_box hO rfl (hF.eval rfl) rfl) ?_
  rintro a _ w ⟨tk, rfl, hO⟩ hF
  refine wl_v hF rfl rfl rfl (q_assign rfl (hF.eval rfl)) fun a hF => ?_
  refine wl_nil ?_
  refine k_n ?_
  refine wp_seq ?_
  refine wp_region_lit ?_
  refine wl_v hF rfl rfl rfl (q_fieldAddr0 (d := 0) Try.underlying27 rfl (hF.eval rfl) rfl Try.sizeOf4 (by decide) rfl) fun a hF => ?_
  refine wl_v hF rfl rfl rfl (q_load Try.isAgg4 rfl (hF.eval rfl) (hO.cell 0 rfl rfl)) fun a hF => ?_
  refine wl_v hF rfl rfl rfl (q_move rfl (hF.eval rfl)) fun a hF => ?_
  refine wl_g hF rfl rfl rfl rfl rfl rfl (fun hg => q_load Try.isAgg22 rfl (hF.eval rfl) (rdB_cell0 (Rd.now hB hO) rfl)) fun a hF => ?_
  refine wl_g hF rfl rfl rfl rfl rfl rfl (fun hg => q_fieldAddr0 (d := 1) Try.underlying27 rfl (hF.eval rfl) rfl Try.sizeOf3 (by decide) rfl) fun a hF => ?_
  refine wl_g hF rfl rfl rfl rfl rfl rfl (fun hg => q_load Try.isAgg3 rfl ((hF.eval rfl).trans (gv_of hg)) (hO.cell 0 rfl rfl)) fun a hF => ?_
  refine wl_gk hO hF rfl rfl rfl rfl rfl rfl (fun hg => c_callG hF rfl rfl (by first | with_reducible rfl | (simp only [gv_of hg]; done) | (simp only [gv_of hg]; rfl)) Try.call53 (head_r _ _ _ _ _ _ (hH.at0 hO) _)) fun a w hO hF => ?_
  refine wl_g hF rfl rfl rfl rfl rfl rfl (fun hg => q_peq Try.underlying80 rfl ((hF.eval rfl).trans (gv_of hg)) (hF.eval rfl)) fun a hF => ?_
  refine wl_v hF rfl rfl rfl (q_and rfl (hF.eval rfl) (dec_b _) (fun hg2 => ((hF.eval rfl).trans (gv_of hg2))) rfl) fun a hF => ?_
  refine wl_v hF rfl rfl rfl (q_assign rfl (hF.eval rfl)) fun a hF => ?_
  refine wl_nil ?_
  refine k_n ?_
  refine wp_ret ?_
  refine r_1 hF rfl rfl ?_
  have hO := hO.drop1 0
  have hO : St _ _ _ [] := hO
  exact ⟨congrArg Value.bool (decide_eq_decide.2 (and_congr Iff.rfl hdP_none)), hO⟩

theorem indexFW_r (w0 : World) (bx bh : Nat) (vw vh vr : Value) (h : Hp) (hB : Rd w0 [] (gl1 bx) 1 1 [ptr (adr bh)]) (hH : HR w0 [] bh vw vh vr h) (vt : Value) (ts : List Wd) (hR : RdT w0 [] vt wordE ts) : Ret Try.prog 83 #[vt, .func (.func 74) #[] #[ptr (adr bx)]] w0 (fun v w' => ∃ n : Int, v = i64 n ∧ decide (0 ≤ n) = decide (realF h.heads ts = false) ∧ St w0 [] w' []) := by
  have hO := St.init0 w0
  have hn := RdT.lenle hR
  refine ret_of (m := 19) Try.func83 rfl Try.ntmps83 [(0, vt), (1, .func (.func 74) #[] #[ptr (adr bx)])] rfl ⟨rfl, rfl, trivial⟩ fun a hF => ?_
  refine wp_seq ?_
  refine wp_region_lit ?_
  refine wl_v hF rfl rfl rfl (q_assign rfl (hF.eval rfl)) fun a hF => ?_
  refine wl_nil ?_
  refine k_n ?_
  refine wp_seq ?_
  refine wp_seq ?_
  refine wp_region_lit ?_
  refine wl_v hF rfl rfl rfl (q_move rfl (hF.eval rfl)) fun a hF => ?_
  refine wl_v hF rfl rfl rfl (q_lenRd hR Try.underlying37 rfl (hF.eval rfl)) fun a hF => ?_
  refine wl_v hF rfl rfl rfl (q_move rfl (hF.eval rfl)) fun a hF => ?_
  refine wl_nil ?_
  refine k_n ?_
  refine wp_block ?_
  have hO : St _ _ _ [] := hO
  refine wp_loopS (fun (k : Nat) a w' => (k ≤ ts.length ∧ (ts.take k).all (fun x => decide (¬ badW h.heads x)) = true) ∧ St w0 [] w' [] ∧ Fr a 19 [(0, vt), (1, .func (.func 74) #[] #[ptr (adr bx)]), (7, i64 ts.length), (8, i64 k)]) (fun (k : Nat) => ts.length - k) 0 ⟨⟨by omega, by simp⟩, hO, hF.sub ⟨rfl, rfl, rfl, rfl, trivial⟩⟩ ?_
  rintro k a w ⟨⟨hk, hn9⟩, hO, hF⟩
  refine wp_seq ?_
  refine wp_region_lit ?_
  refine wl_v hF rfl rfl rfl (q_lt rfl (hF.eval rfl) (hF.eval rfl)) fun a hF => ?_
  refine wl_nil ?_
  refine k_n ?_
  refine wp_seq ?_
  refine wp_ifD hF rfl rfl (fun hc1 => ?_) (fun hc1 => ?_)
  · skip
    refine wp_skip ?_
    refine k_n ?_
    refine wp_seq ?_
    refine wp_block ?_
    refine wp_seq ?_
    refine wp_region_lit ?_
    refine wl_v hF rfl rfl rfl (q_move rfl (hF.eval rfl)) fun a hF => ?_
    refine wl_v hF rfl rfl rfl (q_assign rfl (hF.eval rfl)) fun a hF => ?_
    refine wl_nil ?_
    refine k_n ?_
    refine wp_seq ?_
    refine wp_region_lit ?_
    refine wl_v hF rfl rfl rfl (q_move rfl (hF.eval rfl)) fun a hF => ?_
    refine wl_v hF rfl rfl rfl (q_move rfl (hF.eval rfl)) fun a hF => ?_
    refine wl_v hF rfl rfl rfl (q_move rfl (hF.eval rfl)) fun a hF => ?_
    obtain ⟨x, hx⟩ := get_ex (l := ts) (i := k) (by omega)
    refine wl_v hF rfl rfl rfl (q_at (i := k) hR Try.underlying37 Try.sizeOf27 rfl (hF.eval rfl) (hF.eval rfl) (by omega)) fun a hF => ?_
    refine wl_v hF rfl rfl rfl (q_loadAgg Try.isAgg27 Try.sizeOf27 rfl (hF.eval rfl) (RdT.cells (hR.now hO) hx) rfl) fun a hF => ?_
    refine wl_e hF rfl rfl rfl (c_callV hF rfl (hF.eval rfl) rfl rfl Try.call74 (real1_r _ _ _ _ _ _ _ (Rd.at0 hB hO) (hH.at0 hO) _)) ?_
    rintro a _ w ⟨rfl, hS⟩ hF
    have hO := hO.call0 hS
    have hO : St _ _ _ [] := hO
    refine wl_nil ?_
    refine k_n ?_
    refine wp_ifD hF rfl rfl (fun hc2 => ?_) (fun hc2 => ?_)
    · skip
      refine wp_seq ?_
      refine wp_region_lit ?_
      refine wl_v hF rfl rfl rfl (q_move rfl (hF.eval rfl)) fun a hF => ?_
      refine wl_v hF rfl rfl rfl (q_assign rfl (hF.eval rfl)) fun a hF => ?_
      refine wl_nil ?_
      refine k_n ?_
      refine wp_ret ?_
      refine b_r ?_
      refine k_r ?_
      refine k_r ?_
      refine b_r ?_
      refine k_r ?_
      refine r_1 hF rfl rfl ?_
      have hf : realF h.heads ts = false := by
        cases hr : realF h.heads ts with
        | false => rfl
        | true => exact absurd hc2 (of_decide_eq_true (List.all_eq_true.1 hr x (List.mem_of_getElem? hx)))
      exact ⟨_, rfl, by rw [hf]; exact decide_eq_true (by omega), hO⟩
    · skip
      refine wp_skip ?_
      refine b_n ?_
      refine k_n ?_
      refine wp_region_lit ?_
      refine wl_v hF rfl rfl rfl (q_add rfl (hF.eval rfl) (hF.eval rfl) (by omega)) fun a hF => ?_
      refine wl_v hF rfl rfl rfl (q_move rfl (hF.eval rfl)) fun a hF => ?_
      refine wl_nil ?_
      refine k_n ?_
      have hO : St _ _ _ [] := hO
      exact ⟨k + 1, ⟨⟨by omega, by rw [takeAt hx, List.all_append, hn9]; simpa using hc2⟩, hO, hF.sub ⟨rfl, rfl, rfl, rfl, trivial⟩⟩, by omega⟩
  · skip
    refine wp_exit ?_
    refine k_x ?_
    refine k_x ?_
    refine b_x ?_
    refine k_n ?_
    refine wp_seq ?_
    refine wp_region_lit ?_
    refine wl_v hF rfl rfl rfl (q_assign rfl (hF.eval rfl)) fun a hF => ?_
    refine wl_nil ?_
    refine k_n ?_
    refine wp_ret ?_
    refine r_1 hF rfl rfl ?_
    have hf : realF h.heads ts = true := by rw [← List.take_length (l := ts), show ts.length = k by omega]; exact hn9
    exact ⟨_, rfl, by rw [hf]; exact decide_eq_false (by omega), hO⟩

theorem containsFW_r (w0 : World) (bx bh : Nat) (vw vh vr : Value) (h : Hp) (hB : Rd w0 [] (gl1 bx) 1 1 [ptr (adr bh)]) (hH : HR w0 [] bh vw vh vr h) (vt : Value) (ts : List Wd) (hR : RdT w0 [] vt wordE ts) : Ret Try.prog 73 #[vt, .func (.func 74) #[] #[ptr (adr bx)]] w0 (fun v w' => v = .bool (decide (realF h.heads ts = false)) ∧ St w0 [] w' []) := by
  have hO := St.init0 w0
  refine ret_of (m := 9) Try.func73 rfl Try.ntmps73 [(0, vt), (1, .func (.func 74) #[] #[ptr (adr bx)])] rfl ⟨rfl, rfl, trivial⟩ fun a hF => ?_
  refine wp_seq ?_
  refine wp_region_lit ?_
  refine wl_v hF rfl rfl rfl (q_assign rfl (hF.eval rfl)) fun a hF => ?_
  refine wl_nil ?_
  refine k_n ?_
  refine wp_seq ?_
  refine wp_region_lit ?_
  refine wl_v hF rfl rfl rfl (q_move rfl (hF.eval rfl)) fun a hF => ?_
  refine wl_v hF rfl rfl rfl (q_move rfl (hF.eval rfl)) fun a hF => ?_
  refine wl_e hF rfl rfl rfl (c_call hF rfl rfl Try.call83 (indexFW_r _ _ _ _ _ _ _ (Rd.at0 hB hO) (hH.at0 hO) _ _ (hR.at0 hO))) ?_
  rintro a _ w ⟨ix, rfl, hix, hS⟩ hF
  have hO := hO.call0 hS
  have hO : St _ _ _ [] := hO
  refine wl_v hF rfl rfl rfl (q_ge rfl (hF.eval rfl) (hF.eval rfl)) fun a hF => ?_
  refine wl_v hF rfl rfl rfl (q_assign rfl (hF.eval rfl)) fun a hF => ?_
  refine wl_nil ?_
  refine k_n ?_
  refine wp_ret ?_
  refine r_1 hF rfl rfl ?_
  have hO : St _ _ _ [] := hO
  exact ⟨congrArg Value.bool hix, hO⟩

theorem hreal_r (w0 : World) (bh : Nat) (vw vh vr : Value) (h : Hp) (hH : HR w0 [] bh vw vh vr h) (vt : Value) (ts : List Wd) (hR : RdT w0 [] vt wordE ts) : Ret Try.prog 54 #[ptr (adr bh), vt] w0 (fun v w' => v = .bool (realF h.heads ts) ∧ St w0 [] w' []) := by
  have hO := St.init0 w0
  refine ret_of (m := 9) Try.func54 rfl Try.ntmps54 [(0, ptr (adr bh)), (1, vt)] rfl ⟨rfl, rfl, trivial⟩ fun a hF => ?_
  refine wp_seq ?_
  refine wp_region_lit ?_
  refine wl_e hF rfl rfl rfl (e_box hO rfl (hF.eval rfl) rfl) ?_
  rintro a _ w ⟨bx, rfl, hO⟩ hF
  refine wl_v hF rfl rfl rfl (q_assign rfl (hF.eval rfl)) fun a hF => ?_
  refine wl_nil ?_
  refine k_n ?_
  refine wp_seq ?_
  refine wp_region_lit ?_
  refine wl_v hF rfl rfl rfl (q_move rfl (hF.eval rfl)) fun a hF => ?_
  refine wl_v hF rfl rfl rfl (c_makeFunc hF rfl rfl rfl) fun a hF => ?_
  refine wl_e hF rfl rfl rfl (c_call hF rfl rfl Try.call73 (containsFW_r _ _ _ _ _ _ _ (hO.rdOb 0 rfl) (hH.at0 hO) _ _ (hR.at0 hO))) ?_
  rintro a _ w ⟨rfl, hS⟩ hF
  have hO := hO.call0 hS
  have hO : St _ _ _ [_] := hO
  refine wl_v hF rfl rfl rfl (q_not rfl (hF.eval rfl) rfl) fun a hF => ?_
  refine wl_v hF rfl rfl rfl (q_assign rfl (hF.eval rfl)) fun a hF => ?_
  refine wl_nil ?_
  refine k_n ?_
  refine wp_ret ?_
  refine r_1 hF rfl rfl ?_
  have hO := hO.drop1 0
  have hO : St _ _ _ [] := hO
  exact ⟨congrArg Value.bool (by cases realF h.heads ts <;> rfl), hO⟩

end Go.Proofs.Ytglienidnffnjaa
namespace Go.Proofs.Ytglienidnffnjaa
open Go
set_option maxRecDepth 100000
set_option linter.unusedVariables false
set_option maxHeartbeats 1000000 in
theorem note_r (w0 : World) (bh : Nat) (vw vh vr : Value) (h : Hp) (hA : Owns w0 [.ob bh 77 (hpC vw vh vr h), slT vw 27 wordE h.words, slT vh 84 headE h.heads, slT vr 3 intE h.rem]) (hw : Wf h) (hrl : h.rem.length ≤ 1000000000000) (at_ : Int) (hat : 0 ≤ at_ ∧ at_ < h.heads.length) (x : Wd) : Ret Try.prog 55 #[ptr (adr bh), i64 at_, .agg (wordE.cells x).toArray] w0 (fun v w' => ∃ vr2, v = .tuple #[] ∧ St w0 (blks [.ob bh 77 (hpC vw vh vr h), slT vw 27 wordE h.words, slT vh 84 headE h.heads, slT vr 3 intE h.rem]) w' [.ob bh 77 (hpC vw vh vr2 (noteF h at_ x)), slT vw 27 wordE (noteF h at_ x).words, slT vh 84 headE (noteF h at_ x).heads, slT vr2 3 intE (noteF h at_ x).rem]) := by
  have hO := St.init hA
  have hle := hw.le
  have hlen := hw.len
  refine ret_of (m := 55) Try.func55 rfl Try.ntmps55 [(0, ptr (adr bh)), (1, i64 at_), (2, .agg (wordE.cells x).toArray)] rfl ⟨rfl, rfl, rfl, trivial⟩ fun a hF => ?_
  refine wp_seq ?_
  refine wp_region_lit ?_
  refine wl_e hF rfl rfl rfl (e_box hO rfl (hF.eval rfl) rfl) ?_
  rintro a _ w ⟨tk, rfl, hO⟩ hF
  refine wl_nil ?_
  refine k_n ?_
  refine wp_seq ?_
  refine wp_seq ?_
  have hO := hO.drew
  refine wp_region_E [0, 0, 0, 0, 0, 1, 0, 0, 0, 1, 0, 0, 0, 0, 1, 0, 0, 0, 0, 1, 0, 0, 0, 0, 0, 0, 1, 0, 0, 0, 1, 0] [0, 0, 2, 6, 14, 30, 63, 127, 255, 511, 1023, 2047, 4095, 8191, 16383, 8191, 40959, 106495, 237567, 499711, 1048575, 2097151, 4194303, 8388607, 16777215, 33554431, 67108863, 8388607, 268435455, 536870911, 1073741823, 2147483647] (fun w => St _ _ w _) Try_mixed (by kernel_rfl) hO ?_
  refine wd_p hF rfl rfl rfl (fun w => q_move rfl (hF.eval rfl)) fun a hF => ?_
  refine wd_p hF rfl rfl rfl (fun w => q_move rfl (hF.eval rfl)) fun a hF => ?_
  refine wd_p hF rfl rfl rfl (fun w => q_nilCheck rfl (hF.eval rfl)) fun a hF => ?_
  refine wd_p hF rfl rfl rfl (fun w => q_fieldAddr0 (d := 2) Try.underlying77 rfl (hF.eval rfl) rfl Try.sizeOf74 (by decide) rfl) fun a hF => ?_
  refine wd_p hF rfl rfl rfl (fun w => q_fieldAddr (d := 2) Try.underlying74 rfl (hF.eval rfl) rfl Try.sizeOf3 (by decide) rfl) fun a hF => ?_
  refine wd_r hF rfl rfl rfl (fun w hO => q_load Try.isAgg3 rfl (hF.eval rfl) (hO.cell 1 rfl rfl)) fun a hF => ?_
  refine wd_p hF rfl rfl rfl (fun w => q_lt rfl (hF.eval rfl) (hF.eval rfl)) fun a hF => ?_
  refine wd_p hF rfl rfl rfl (fun w => q_move rfl (hF.eval rfl)) fun a hF => ?_
  refine wd_gp hF rfl rfl rfl rfl rfl rfl (fun hg w => q_fieldAddr0 (d := 0) Try.underlying27 rfl (hF.eval rfl) rfl Try.sizeOf4 (by decide) rfl) fun a hF => ?_
  refine wd_gr hF rfl rfl rfl rfl rfl rfl (fun hg w hO => q_load Try.isAgg4 rfl ((hF.eval rfl).trans (gv_of hg)) (hO.cell 0 rfl rfl)) fun a hF => ?_
  refine wd_gp hF rfl rfl rfl rfl rfl rfl (fun hg w => q_not rfl ((hF.eval rfl).trans (gv_of hg)) (dec_b _)) fun a hF => ?_
  refine wd_p hF rfl rfl rfl (fun w => q_or rfl (hF.eval rfl) rfl (fun hg2 => ((hF.eval rfl).trans (gv_of hg2))) rfl) fun a hF => ?_
  refine wd_p hF rfl rfl rfl (fun w => q_move rfl (hF.eval rfl)) fun a hF => ?_
  refine wd_gp hF rfl rfl rfl rfl rfl rfl (fun hg w => q_fieldAddr0 (d := 1) Try.underlying27 rfl (hF.eval rfl) rfl Try.sizeOf3 (by decide) rfl) fun a hF => ?_
  refine wd_gr hF rfl rfl rfl rfl rfl rfl (fun hg w hO => q_load Try.isAgg3 rfl ((hF.eval rfl).trans (gv_of hg)) (hO.cell 0 rfl rfl)) fun a hF => ?_
  refine wd_gp hF rfl rfl rfl rfl rfl rfl (fun hg w => q_move rfl (hF.eval rfl)) fun a hF => ?_
  refine wd_gp hF rfl rfl rfl rfl rfl rfl (fun hg w => q_nilCheck rfl ((hF.eval rfl).trans (gv_of hg))) fun a hF => ?_
  refine wd_gp hF rfl rfl rfl rfl rfl rfl (fun hg w => q_fieldAddr0 (d := 2) Try.underlying77 rfl ((hF.eval rfl).trans (gv_of hg)) rfl Try.sizeOf74 (by decide) rfl) fun a hF => ?_
  refine wd_gp hF rfl rfl rfl rfl rfl rfl (fun hg w => q_fieldAddr (d := 2) Try.underlying74 rfl ((hF.eval rfl).trans (gv_of hg)) rfl Try.sizeOf3 (by decide) rfl) fun a hF => ?_
  refine wd_gr hF rfl rfl rfl rfl rfl rfl (fun hg w hO => q_load Try.isAgg3 rfl ((hF.eval rfl).trans (gv_of hg)) (hO.cell 1 rfl rfl)) fun a hF => ?_
  refine wd_gp hF rfl rfl rfl rfl rfl rfl (fun hg w => q_ge rfl ((hF.eval rfl).trans (gv_of hg)) ((hF.eval rfl).trans (gv_of hg))) fun a hF => ?_
  refine wd_p hF rfl rfl rfl (fun w => q_or rfl (hF.eval rfl) rfl (fun hg2 => ((hF.eval rfl).trans (gv_of hg2))) rfl) fun a hF => ?_
  refine wd_p hF rfl rfl rfl (fun w => q_move rfl (hF.eval rfl)) fun a hF => ?_
  refine wd_gp hF rfl rfl rfl rfl rfl rfl (fun hg w => q_move rfl (hF.eval rfl)) fun a hF => ?_
  refine wd_gp hF rfl rfl rfl rfl rfl rfl (fun hg w => q_nilCheck rfl ((hF.eval rfl).trans (gv_of hg))) fun a hF => ?_
  refine wd_gp hF rfl rfl rfl rfl rfl rfl (fun hg w => q_fieldAddr0 (d := 1) Try.underlying77 rfl ((hF.eval rfl).trans (gv_of hg)) rfl Try.sizeOf72 (by decide) rfl) fun a hF => ?_
  refine wd_gr hF rfl rfl rfl rfl rfl rfl (fun hg w hO => q_load Try.isAgg72 rfl ((hF.eval rfl).trans (gv_of hg)) (hO.cell 1 rfl rfl)) fun a hF => ?_
  refine wd_gp hF rfl rfl rfl rfl rfl rfl (fun hg w => q_move rfl (hF.eval rfl)) fun a hF => ?_
  refine wd_gp hF rfl rfl rfl rfl rfl rfl (fun hg w => q_at (i := at_.toNat) (hO.rd 3 rfl) Try.underlying72 Try.sizeOf84 rfl ((hF.eval rfl).trans (gv_of hg)) (((hF.eval rfl).trans (gv_of hg)).trans (congrArg i64 ((Int.toNat_of_nonneg (hat.1)).symm))) (by omega)) fun a hF => ?_
  refine wd_gp hF rfl rfl rfl rfl rfl rfl (fun hg w => q_fieldAddr0 (d := 4) Try.underlying84 rfl ((hF.eval rfl).trans (gv_of hg)) rfl Try.sizeOf4 (by decide) rfl) fun a hF => ?_
  refine wd_gr hF rfl rfl rfl rfl rfl rfl (fun hg w hO => q_load Try.isAgg4 rfl ((hF.eval rfl).trans (gv_of hg)) (RdT.cells (hO.rdT 3 rfl) (get_D (d := hd0) (by omega)) _ _ rfl)) fun a hF => ?_
  refine wd_p hF rfl rfl rfl (fun w => q_or rfl (hF.eval rfl) rfl (fun hg2 => ((hF.eval rfl).trans (gv_of hg2))) (dec_b _)) fun a hF => ?_
  refine wd_nil ?_
  refine k_n ?_
  refine wp_ifD hF rfl rfl (fun hc1 => ?_) (fun hc1 => ?_)
  · skip
    refine wp_ret ?_
    refine k_r ?_
    refine r_0 hF rfl ?_
    have hO := hO.drop1 0
    have hO : St _ _ _ [_, _, _, _] := hO
    exact ⟨_, rfl, by rw [note_yes (show knowP h at_ x from hc1)]; exact hO⟩
  · skip
    refine wp_skip ?_
    refine k_n ?_
    refine wp_seq ?_
    refine wp_region_lit ?_
    refine wl_v hF rfl rfl rfl (q_move rfl (hF.eval rfl)) fun a hF => ?_
    refine wl_v hF rfl rfl rfl (q_nilCheck rfl (hF.eval rfl)) fun a hF => ?_
    refine wl_v hF rfl rfl rfl (q_fieldAddr0 (d := 1) Try.underlying77 rfl (hF.eval rfl) rfl Try.sizeOf72 (by decide) rfl) fun a hF => ?_
    refine wl_v hF rfl rfl rfl (q_load Try.isAgg72 rfl (hF.eval rfl) (hO.cell 1 rfl rfl)) fun a hF => ?_
    refine wl_v hF rfl rfl rfl (q_move rfl (hF.eval rfl)) fun a hF => ?_
    refine wl_v hF rfl rfl rfl (q_at (i := at_.toNat) (hO.rd 3 rfl) Try.underlying72 Try.sizeOf84 rfl (hF.eval rfl) ((hF.eval rfl).trans (congrArg i64 ((Int.toNat_of_nonneg (hat.1)).symm))) (by omega)) fun a hF => ?_
    refine wl_v hF rfl rfl rfl (q_fieldAddr0 (d := 4) Try.underlying84 rfl (hF.eval rfl) rfl Try.sizeOf4 (by decide) rfl) fun a hF => ?_
    refine wl_s hF rfl rfl (e_storeElT (m := at_.toNat) (off := 4) (q := setK (h.heads.getD at_.toNat hd0) true) hO (i := 3) rfl Try.sizeOf4 rfl ((hF.eval rfl).trans (congrArg ptr (add_add' _ _ _))) rfl (hF.eval rfl) rfl (get_D (d := hd0) (by omega)) rfl (Nat.le_of_ble_eq_true rfl) rfl (all1 rfl)) ?_
    rintro a _ w ⟨-, hO⟩ hF
    have hO : St _ _ _ [_, _, _, _, _] := hO
    refine wl_nil ?_
    refine k_n ?_
    refine wp_region_lit ?_
    refine wl_v hF rfl rfl rfl (q_move rfl (hF.eval rfl)) fun a hF => ?_
    refine wl_v hF rfl rfl rfl (q_move rfl (hF.eval rfl)) fun a hF => ?_
    refine wl_v hF rfl rfl rfl (q_nilCheck rfl (hF.eval rfl)) fun a hF => ?_
    refine wl_v hF rfl rfl rfl (q_fieldAddr0 (d := 12) Try.underlying77 rfl (hF.eval rfl) rfl Try.sizeOf36 (by decide) rfl) fun a hF => ?_
    refine wl_v hF rfl rfl rfl (q_load Try.isAgg36 rfl (hF.eval rfl) (hO.cell 1 rfl rfl)) fun a hF => ?_
    refine wl_v hF rfl rfl rfl (q_move rfl (hF.eval rfl)) fun a hF => ?_
    refine wl_e hF rfl rfl rfl (c_buildSlice hF hO Try.underlying36 Try.sizeOf3 Try.zeroValue3 rfl rfl rfl rfl rfl rfl rfl) ?_
    rintro a _ w ⟨b1, rfl, hO⟩ hF
    refine wl_e hF rfl rfl rfl (e_appendT (bytes := 8) (r := [at_]) hO (i := 5) rfl (hO.rd 0 rfl) Try.underlying36 Try_info3 rfl rfl rfl rfl rfl rfl (hF.eval rfl) (hF.eval rfl) (by show (List.length _ + 1) * 8 ≤ _; omega) (by show List.length _ + 1 ≤ _; omega)) ?_
    rintro a vr2 w hO hF
    have hO : St _ _ _ [_, _, _, _, _, _] := hO
    refine wl_v hF rfl rfl rfl (q_nilCheck rfl (hF.eval rfl)) fun a hF => ?_
    refine wl_v hF rfl rfl rfl (q_fieldAddr0 (d := 12) Try.underlying77 rfl (hF.eval rfl) rfl Try.sizeOf36 (by decide) rfl) fun a hF => ?_
    refine wl_s hF rfl rfl (e_store1 hO (i := 2) rfl Try.sizeOf36 rfl (hF.eval rfl) (hF.eval rfl) (cells_one (hO.slOne 5 rfl)) rfl (hO.slOne 5 rfl)) ?_
    rintro a _ w ⟨-, hO⟩ hF
    have hO : St _ _ _ [_, _, _, _, _, _] := hO
    refine wl_nil ?_
    refine r_0n hF rfl ?_
    have hO := hO.drop1 0
    have hO := hO.drop1 0
    have hO : St _ _ _ [_, _, _, _] := hO
    exact ⟨_, rfl, by rw [note_no (show ¬ knowP h at_ x from hc1)]; exact hO⟩

end Go.Proofs.Ytglienidnffnjaa
namespace Go.Proofs.Ytglienidnffnjaa
open Go
set_option maxRecDepth 100000
set_option linter.unusedVariables false
set_option maxHeartbeats 2000000 in
theorem lay0_r (w0 : World) (bh : Nat) (vw vh vr : Value) (h : Hp) (hA : Owns w0 [.ob bh 77 (hpC vw vh vr h), slT vw 27 wordE h.words, slT vh 84 headE h.heads, slT vr 3 intE h.rem]) (hw : Wf h) (hrl : h.rem.length ≤ 100000000000) (kind info : Int) (vf : Value) (fs : List Wd) (hR : RdT w0 (blks [.ob bh 77 (hpC vw vh vr h), slT vw 27 wordE h.words, slT vh 84 headE h.heads, slT vr 3 intE h.rem]) vf wordE fs) : Ret Try.prog 52 #[ptr (adr bh), ptr ((adr bh).add 2), i64 kind, i64 info, vf] w0 (fun v w' => ∃ vr2 r h2, layH h 0 kind info fs = (r, h2) ∧ v = .tuple #[i64 r.1, i64 r.2] ∧ St w0 (blks [.ob bh 77 (hpC vw vh vr h), slT vw 27 wordE h.words, slT vh 84 headE h.heads, slT vr 3 intE h.rem]) w' [.ob bh 77 (hpC vw vh vr2 h2), slT vw 27 wordE h2.words, slT vh 84 headE h2.heads, slT vr2 3 intE h2.rem]) := by
  have hO := St.init hA
  have hle := hw.le
  have hlen := hw.len
  obtain ⟨r1, r2, r3, r4⟩ := hw.y
  have hnf := RdT.lenle hR
  obtain ⟨t1, t2, t3⟩ := takes_ge fs
  have etk : takesF fs = 1 + max 1 (fs.length : Int) := rfl
  refine ret_of (m := 108) Try.func52 rfl Try.ntmps52 [(0, ptr (adr bh)), (1, ptr ((adr bh).add 2)), (2, i64 kind), (3, i64 info), (4, vf)] rfl ⟨rfl, rfl, rfl, rfl, rfl, trivial⟩ fun a hF => ?_
  refine wp_seq ?_
  refine wp_region_lit ?_
  refine wl_v hF rfl rfl rfl (q_assign rfl (hF.eval rfl)) fun a hF => ?_
  refine wl_v hF rfl rfl rfl (q_assign rfl (hF.eval rfl)) fun a hF => ?_
  refine wl_nil ?_
  refine k_n ?_
  refine wp_seq ?_
  refine wp_seq ?_
  refine wp_region_lit ?_
  refine wl_v hF rfl rfl rfl (q_move rfl (hF.eval rfl)) fun a hF => ?_
  refine wl_v hF rfl rfl rfl (q_lt rfl (hF.eval rfl) (hF.eval rfl)) fun a hF => ?_
  refine wl_v hF rfl rfl rfl (q_move rfl (hF.eval rfl)) fun a hF => ?_
  refine wl_g hF rfl rfl rfl rfl rfl rfl (fun hg => q_move rfl (hF.eval rfl)) fun a hF => ?_
  refine wl_g hF rfl rfl rfl rfl rfl rfl (fun hg => q_gt rfl ((hF.eval rfl).trans (gv_of hg)) (hF.eval rfl)) fun a hF => ?_
  refine wl_v hF rfl rfl rfl (q_or rfl (hF.eval rfl) rfl (fun hg2 => ((hF.eval rfl).trans (gv_of hg2))) rfl) fun a hF => ?_
  refine wl_v hF rfl rfl rfl (q_move rfl (hF.eval rfl)) fun a hF => ?_
  refine wl_g hF rfl rfl rfl rfl rfl rfl (fun hg => q_move rfl (hF.eval rfl)) fun a hF => ?_
  refine wl_g hF rfl rfl rfl rfl rfl rfl (fun hg => q_lt rfl ((hF.eval rfl).trans (gv_of hg)) (hF.eval rfl)) fun a hF => ?_
  refine wl_v hF rfl rfl rfl (q_or rfl (hF.eval rfl) rfl (fun hg2 => ((hF.eval rfl).trans (gv_of hg2))) rfl) fun a hF => ?_
  refine wl_v hF rfl rfl rfl (q_move rfl (hF.eval rfl)) fun a hF => ?_
  refine wl_g hF rfl rfl rfl rfl rfl rfl (fun hg => q_move rfl (hF.eval rfl)) fun a hF => ?_
  refine wl_g hF rfl rfl rfl rfl rfl rfl (fun hg => q_gt rfl ((hF.eval rfl).trans (gv_of hg)) (hF.eval rfl)) fun a hF => ?_
  refine wl_v hF rfl rfl rfl (q_or rfl (hF.eval rfl) rfl (fun hg2 => ((hF.eval rfl).trans (gv_of hg2))) rfl) fun a hF => ?_
  refine wl_v hF rfl rfl rfl (q_move rfl (hF.eval rfl)) fun a hF => ?_
  refine wl_g hF rfl rfl rfl rfl rfl rfl (fun hg => q_move rfl (hF.eval rfl)) fun a hF => ?_
  refine wl_g hF rfl rfl rfl rfl rfl rfl (fun hg => q_lenRd hR Try.underlying37 rfl ((hF.eval rfl).trans (gv_of hg))) fun a hF => ?_
  refine wl_g hF rfl rfl rfl rfl rfl rfl (fun hg => q_gt rfl ((hF.eval rfl).trans (gv_of hg)) (hF.eval rfl)) fun a hF => ?_
  refine wl_v hF rfl rfl rfl (q_or rfl (hF.eval rfl) rfl (fun hg2 => ((hF.eval rfl).trans (gv_of hg2))) rfl) fun a hF => ?_
  refine wl_v hF rfl rfl rfl (q_move rfl (hF.eval rfl)) fun a hF => ?_
  refine wl_g hF rfl rfl rfl rfl rfl rfl (fun hg => q_move rfl (hF.eval rfl)) fun a hF => ?_
  refine wl_g hF rfl rfl rfl rfl rfl rfl (fun hg => q_eq rfl ((hF.eval rfl).trans (gv_of hg)) (hF.eval rfl)) fun a hF => ?_
  refine wl_g hF rfl rfl rfl rfl rfl rfl (fun hg => q_move rfl ((hF.eval rfl).trans (gv_of hg))) fun a hF => ?_
  refine wl_g hF rfl rfl rfl rfl rfl rfl (fun hg => q_move rfl (hF.eval rfl)) fun a hF => ?_
  refine wl_g hF rfl rfl rfl rfl rfl rfl (fun hg => q_lenRd hR Try.underlying37 rfl ((hF.eval rfl).trans (gv_of hg))) fun a hF => ?_
  refine wl_g hF rfl rfl rfl rfl rfl rfl (fun hg => q_ne rfl ((hF.eval rfl).trans (gv_of hg)) (hF.eval rfl)) fun a hF => ?_
  refine wl_g hF rfl rfl rfl rfl rfl rfl (fun hg => q_and rfl ((hF.eval rfl).trans (gv_of hg)) rfl (fun hg2 => ((hF.eval rfl).trans (gv_of2 hg hg2))) rfl) fun a hF => ?_
  refine wl_v hF rfl rfl rfl (q_or rfl (hF.eval rfl) rfl (fun hg2 => ((hF.eval rfl).trans (gv_of hg2))) rfl) fun a hF => ?_
  refine wl_nil ?_
  refine k_n ?_
  refine wp_ifD hF rfl rfl (fun hc1 => ?_) (fun hc1 => ?_)
  · skip
    refine wp_seq ?_
    refine wp_region_lit ?_
    refine wl_v hF rfl rfl rfl (q_assign rfl (hF.eval rfl)) fun a hF => ?_
    refine wl_v hF rfl rfl rfl (q_assign rfl (hF.eval rfl)) fun a hF => ?_
    refine wl_nil ?_
    refine k_n ?_
    refine wp_ret ?_
    refine k_r ?_
    refine r_2 hF rfl rfl rfl ?_
    have hO : St _ _ _ [_, _, _, _] := hO
    exact ⟨_, (0, 1), h, lay_1 hc1, rfl, hO⟩
  · skip
    have hfl : fs.length ≤ 1000 := by have := (not_or.1 (not_or.1 hc1).1).2; omega
    refine wp_skip ?_
    refine k_n ?_
    refine wp_seq ?_
    refine wp_seq ?_
    refine wp_region_lit ?_
    refine wl_v hF rfl rfl rfl (q_move rfl (hF.eval rfl)) fun a hF => ?_
    refine wl_v hF rfl rfl rfl (q_move rfl (hF.eval rfl)) fun a hF => ?_
    refine wl_e hF rfl rfl rfl (c_call hF rfl rfl Try.call54 (hreal_r _ _ _ _ _ _ (hO.hr 0 1 2 3 rfl rfl rfl rfl) _ _ (hR.at0 hO))) ?_
    rintro a _ w ⟨rfl, hS⟩ hF
    have hO := hO.call0 hS
    have hO : St _ _ _ [_, _, _, _] := hO
    refine wl_v hF rfl rfl rfl (q_not rfl (hF.eval rfl) (dec_b _)) fun a hF => ?_
    refine wl_nil ?_
    refine k_n ?_
    refine wp_ifD hF rfl rfl (fun hc2 => ?_) (fun hc2 => ?_)
    · skip
      refine wp_seq ?_
      refine wp_region_lit ?_
      refine wl_v hF rfl rfl rfl (q_assign rfl (hF.eval rfl)) fun a hF => ?_
      refine wl_v hF rfl rfl rfl (q_assign rfl (hF.eval rfl)) fun a hF => ?_
      refine wl_nil ?_
      refine k_n ?_
      refine wp_ret ?_
      refine k_r ?_
      refine r_2 hF rfl rfl rfl ?_
      have hO : St _ _ _ [_, _, _, _] := hO
      exact ⟨_, (0, 181), h, lay_2 hc1 hc2, rfl, hO⟩
    · skip
      refine wp_skip ?_
      refine k_n ?_
      refine wp_seq ?_
      refine wp_region_lit ?_
      refine wl_v hF rfl rfl rfl (q_move rfl (hF.eval rfl)) fun a hF => ?_
      refine wl_v hF rfl rfl rfl (q_lenRd hR Try.underlying37 rfl (hF.eval rfl)) fun a hF => ?_
      refine wl_v hF rfl rfl rfl (q_max rfl (hF.eval rfl) (hF.eval rfl)) fun a hF => ?_
      refine wl_v hF rfl rfl rfl (q_add rfl (hF.eval rfl) (hF.eval rfl) (by omega)) fun a hF => ?_
      refine wl_v hF rfl rfl rfl (q_assign rfl (hF.eval rfl)) fun a hF => ?_
      refine wl_nil ?_
      refine k_n ?_
      refine wp_seq ?_
      refine wp_seq ?_
      have hO := hO.drew
      refine wp_region_D [0, 0, 0, 0, 1, 0, 0, 0, 1, 0, 0] (fun w => St _ _ w _) Try_mixed (by kernel_rfl) hO ?_
      refine wd_p hF rfl rfl rfl (fun w => q_move rfl (hF.eval rfl)) fun a hF => ?_
      refine wd_p hF rfl rfl rfl (fun w => q_move rfl (hF.eval rfl)) fun a hF => ?_
      refine wd_p hF rfl rfl rfl (fun w => q_nilCheck rfl (hF.eval rfl)) fun a hF => ?_
      refine wd_p hF rfl rfl rfl (fun w => q_fieldAddr (d := 2) Try.underlying74 rfl (hF.eval rfl) rfl Try.sizeOf3 (by decide) rfl) fun a hF => ?_
      refine wd_r hF rfl rfl rfl (fun w hO => q_load Try.isAgg3 rfl (hF.eval rfl) (hO.cell 0 rfl rfl)) fun a hF => ?_
      refine wd_p hF rfl rfl rfl (fun w => q_move rfl (hF.eval rfl)) fun a hF => ?_
      refine wd_p hF rfl rfl rfl (fun w => q_nilCheck rfl (hF.eval rfl)) fun a hF => ?_
      refine wd_p hF rfl rfl rfl (fun w => q_fieldAddr (d := 1) Try.underlying74 rfl (hF.eval rfl) rfl Try.sizeOf3 (by decide) rfl) fun a hF => ?_
      refine wd_r hF rfl rfl rfl (fun w hO => q_load Try.isAgg3 rfl (hF.eval rfl) (hO.cell 0 rfl rfl)) fun a hF => ?_
      refine wd_p hF rfl rfl rfl (fun w => q_sub rfl (hF.eval rfl) (hF.eval rfl) (by omega)) fun a hF => ?_
      refine wd_p hF rfl rfl rfl (fun w => q_gt rfl (hF.eval rfl) (hF.eval rfl)) fun a hF => ?_
      refine wd_nil ?_
      refine k_n ?_
      refine wp_ifD hF rfl rfl (fun hc3 => ?_) (fun hc3 => ?_)
      · skip
        refine wp_seq ?_
        refine wp_region_lit ?_
        refine wl_v hF rfl rfl rfl (q_assign rfl (hF.eval rfl)) fun a hF => ?_
        refine wl_v hF rfl rfl rfl (q_assign rfl (hF.eval rfl)) fun a hF => ?_
        refine wl_nil ?_
        refine k_n ?_
        refine wp_ret ?_
        refine k_r ?_
        refine r_2 hF rfl rfl rfl ?_
        have hO : St _ _ _ [_, _, _, _] := hO
        exact ⟨_, (0, 180), h, lay_3 (k := 0) hc1 hc2 hc3, rfl, hO⟩
      · skip
        have hfit : ¬ h.y.end_ - h.y.next < takesF fs := hc3
        have hl4 := lay_4 (k := 0) hc1 hc2 hc3
        refine wp_skip ?_
        refine k_n ?_
        refine wp_seq ?_
        refine wp_region_lit ?_
        refine wl_v hF rfl rfl rfl (q_move rfl (hF.eval rfl)) fun a hF => ?_
        refine wl_v hF rfl rfl rfl (q_nilCheck rfl (hF.eval rfl)) fun a hF => ?_
        refine wl_v hF rfl rfl rfl (q_fieldAddr (d := 1) Try.underlying74 rfl (hF.eval rfl) rfl Try.sizeOf3 (by decide) rfl) fun a hF => ?_
        refine wl_v hF rfl rfl rfl (q_load Try.isAgg3 rfl (hF.eval rfl) (hO.cell 0 rfl rfl)) fun a hF => ?_
        refine wl_v hF rfl rfl rfl (q_assign rfl (hF.eval rfl)) fun a hF => ?_
        refine wl_nil ?_
        refine k_n ?_
        refine wp_seq ?_
        refine wp_region_lit ?_
        refine wl_v hF rfl rfl rfl (q_move rfl (hF.eval rfl)) fun a hF => ?_
        refine wl_v hF rfl rfl rfl (q_nilCheck rfl (hF.eval rfl)) fun a hF => ?_
        refine wl_v hF rfl rfl rfl (q_fieldAddr (d := 1) Try.underlying74 rfl (hF.eval rfl) rfl Try.sizeOf3 (by decide) rfl) fun a hF => ?_
        refine wl_v hF rfl rfl rfl (q_load Try.isAgg3 rfl (hF.eval rfl) (hO.cell 0 rfl rfl)) fun a hF => ?_
        refine wl_v hF rfl rfl rfl (q_move rfl (hF.eval rfl)) fun a hF => ?_
        refine wl_v hF rfl rfl rfl (q_add rfl (hF.eval rfl) (hF.eval rfl) (by omega)) fun a hF => ?_
        refine wl_v hF rfl rfl rfl (q_nilCheck rfl (hF.eval rfl)) fun a hF => ?_
        refine wl_v hF rfl rfl rfl (q_fieldAddr (d := 1) Try.underlying74 rfl (hF.eval rfl) rfl Try.sizeOf3 (by decide) rfl) fun a hF => ?_
        refine wl_s hF rfl rfl (e_store1 hO (i := 0) rfl Try.sizeOf3 rfl (hF.eval rfl) (hF.eval rfl) rfl rfl rfl) ?_
        rintro a _ w ⟨-, hO⟩ hF
        have hO : St _ _ _ [_, _, _, _] := hO
        replace hO : St _ _ _ [.ob bh 77 (hpC vw vh vr (h.setN 0 (h.y.next + takesF fs))), _, _, _] := hO
        refine wl_nil ?_
        refine k_n ?_
        refine wp_seq ?_
        refine wp_region_lit ?_
        refine wl_v hF rfl rfl rfl (q_move rfl (hF.eval rfl)) fun a hF => ?_
        refine wl_v hF rfl rfl rfl (q_nilCheck rfl (hF.eval rfl)) fun a hF => ?_
        refine wl_v hF rfl rfl rfl (q_fieldAddr0 (d := 1) Try.underlying77 rfl (hF.eval rfl) rfl Try.sizeOf72 (by decide) rfl) fun a hF => ?_
        refine wl_v hF rfl rfl rfl (q_load Try.isAgg72 rfl (hF.eval rfl) (hO.cell 0 rfl rfl)) fun a hF => ?_
        refine wl_v hF rfl rfl rfl (q_move rfl (hF.eval rfl)) fun a hF => ?_
        refine wl_v hF rfl rfl rfl (q_move rfl (hF.eval rfl)) fun a hF => ?_
        refine wl_v hF rfl rfl rfl (q_move rfl (hF.eval rfl)) fun a hF => ?_
        refine wl_v hF rfl rfl rfl (q_move rfl (hF.eval rfl)) fun a hF => ?_
        refine wl_v hF rfl rfl rfl (q_lenRd hR Try.underlying37 rfl (hF.eval rfl)) fun a hF => ?_
        refine wl_v hF rfl rfl rfl (q_move rfl (hF.eval rfl)) fun a hF => ?_
        refine wl_v hF rfl rfl rfl (c_build hF Try.underlying84 Try.zeroValue84 Try_places84 rfl rfl rfl rfl) fun a hF => ?_
        refine wl_v hF rfl rfl rfl (q_at (i := h.y.next.toNat) (hO.rd 2 rfl) Try.underlying72 Try.sizeOf84 rfl (hF.eval rfl) ((hF.eval rfl).trans (congrArg i64 ((Int.toNat_of_nonneg (by omega)).symm))) (by omega)) fun a hF => ?_
        refine wl_s hF rfl rfl (e_storeElT (m := h.y.next.toNat) (off := 0) (q := ⟨kind, info, fs.length, takesF fs, false⟩) hO (i := 2) rfl Try.sizeOf84 rfl (hF.eval rfl) rfl (hF.eval rfl) rfl (get_D (d := hd0) (by omega)) rfl (Nat.le_of_ble_eq_true rfl) rfl (all1 rfl)) ?_
        rintro a _ w ⟨-, hO⟩ hF
        have hO : St _ _ _ [_, _, _, _] := hO
        refine wl_nil ?_
        refine k_n ?_
        refine wp_seq ?_
        refine wp_region_lit ?_
        refine wl_v hF rfl rfl rfl (q_move rfl (hF.eval rfl)) fun a hF => ?_
        refine wl_v hF rfl rfl rfl (q_nilCheck rfl (hF.eval rfl)) fun a hF => ?_
        refine wl_v hF rfl rfl rfl (q_fieldAddr0 (d := 0) Try.underlying77 rfl (hF.eval rfl) rfl Try.sizeOf37 (by decide) rfl) fun a hF => ?_
        refine wl_v hF rfl rfl rfl (q_load Try.isAgg37 rfl (hF.eval rfl) (hO.cell 0 rfl rfl)) fun a hF => ?_
        refine wl_v hF rfl rfl rfl (q_move rfl (hF.eval rfl)) fun a hF => ?_
        refine wl_v hF rfl rfl rfl (q_add rfl (hF.eval rfl) (hF.eval rfl) (by omega)) fun a hF => ?_
        refine wl_v hF rfl rfl rfl (q_drop (j := (h.y.next.toNat + 1)) (hO.rd 1 rfl) Try.underlying37 Try.sizeOf27 rfl (hF.eval rfl) ((hF.eval rfl).trans (congrArg i64 (show h.y.next + 1 = ((h.y.next.toNat + 1 : Nat) : Int) by omega))) (by omega)) fun a hF => ?_
        refine wl_v hF rfl rfl rfl (q_move rfl (hF.eval rfl)) fun a hF => ?_
        refine wl_e hF rfl rfl rfl (e_copyT (k := (h.y.next.toNat + 1)) hO (i := 1) rfl (hR.now hO) Try.underlying37 Try.sizeOf27 rfl (hF.eval rfl) (hF.eval rfl) (by omega) rfl) ?_
        rintro a v95 w hO hF
        have hO : St _ _ _ [_, _, _, _] := hO
        replace hO : St _ _ _ [.ob bh 77 (hpC vw vh vr (laidH h 0 kind info fs)), slT vw 27 wordE (laidH h 0 kind info fs).words, slT vh 84 headE (laidH h 0 kind info fs).heads, slT vr 3 intE (laidH h 0 kind info fs).rem] := hO
        refine wl_nil ?_
        refine k_n ?_
        refine wp_seq ?_
        refine wp_seq ?_
        refine wp_region_lit ?_
        refine wl_v hF rfl rfl rfl (q_move rfl (hF.eval rfl)) fun a hF => ?_
        refine wl_v hF rfl rfl rfl (q_lenRd hR Try.underlying37 rfl (hF.eval rfl)) fun a hF => ?_
        refine wl_v hF rfl rfl rfl (q_move rfl (hF.eval rfl)) fun a hF => ?_
        refine wl_nil ?_
        refine k_n ?_
        refine wp_block ?_
        have hO : St _ _ _ [_, _, _, _] := hO
        refine wp_loopS (fun (q : Nat × Value) a w' => match q with | (j, vr2) => (j ≤ fs.length) ∧ St w0 (blks [.ob bh 77 (hpC vw vh vr h), slT vw 27 wordE h.words, slT vh 84 headE h.heads, slT vr 3 intE h.rem]) w' [.ob bh 77 (hpC vw vh vr2 (notesF (laidH h 0 kind info fs) h.y.next (fs.take j))), slT vw 27 wordE (notesF (laidH h 0 kind info fs) h.y.next (fs.take j)).words, slT vh 84 headE (notesF (laidH h 0 kind info fs) h.y.next (fs.take j)).heads, slT vr2 3 intE (notesF (laidH h 0 kind info fs) h.y.next (fs.take j)).rem] ∧ Fr a 108 [(0, ptr (adr bh)), (13, i64 h.y.next), (96, vf), (97, i64 fs.length), (98, i64 j)]) (fun (q : Nat × Value) => match q with | (j, vr2) => fs.length - j) (0, vr) ⟨by omega, hO, hF.sub ⟨rfl, rfl, rfl, rfl, rfl, trivial⟩⟩ ?_
        rintro ⟨j, vr2⟩ a w ⟨hj, hO, hF⟩
        obtain ⟨hnl, _, _, _, _, _, hnr⟩ := notes_len h.y.next (fs.take j) (laidH h 0 kind info fs)
        obtain ⟨e1, e2⟩ := laid_len h 0 kind info fs
        rw [e1] at hnl
        rw [e2, List.length_take] at hnr
        refine wp_seq ?_
        refine wp_region_lit ?_
        refine wl_v hF rfl rfl rfl (q_lt rfl (hF.eval rfl) (hF.eval rfl)) fun a hF => ?_
        refine wl_nil ?_
        refine k_n ?_
        refine wp_seq ?_
        refine wp_ifD hF rfl rfl (fun hc4 => ?_) (fun hc4 => ?_)
        · skip
          refine wp_skip ?_
          refine k_n ?_
          refine wp_seq ?_
          refine wp_block ?_
          refine wp_seq ?_
          refine wp_region_lit ?_
          obtain ⟨x, hx⟩ := get_ex (l := fs) (i := j) (by omega)
          refine wl_v hF rfl rfl rfl (q_at (i := j) hR Try.underlying37 Try.sizeOf27 rfl (hF.eval rfl) (hF.eval rfl) (by omega)) fun a hF => ?_
          refine wl_v hF rfl rfl rfl (q_loadAgg Try.isAgg27 Try.sizeOf27 rfl (hF.eval rfl) (RdT.cells (hR.now hO) hx) rfl) fun a hF => ?_
          refine wl_e hF rfl rfl rfl (e_alloc hO Try.zeroValue27 rfl rfl) ?_
          rintro a _ w ⟨tk, rfl, hO⟩ hF
          refine wl_s hF rfl rfl (e_storeAll hO (i := 0) rfl Try.sizeOf27 rfl (hF.eval rfl) (hF.eval rfl) rfl rfl) ?_
          rintro a _ w ⟨-, hO⟩ hF
          have hO : St _ _ _ [_, _, _, _, _] := hO
          refine wl_nil ?_
          refine k_n ?_
          refine wp_region_lit ?_
          refine wl_v hF rfl rfl rfl (q_move rfl (hF.eval rfl)) fun a hF => ?_
          refine wl_v hF rfl rfl rfl (q_move rfl (hF.eval rfl)) fun a hF => ?_
          refine wl_v hF rfl rfl rfl (q_loadAgg Try.isAgg27 Try.sizeOf27 rfl (hF.eval rfl) (hO.cells 0 rfl) rfl) fun a hF => ?_
          have hO := hO.pull 4 rfl
          have hO := hO.pull 4 rfl
          have hO := hO.pull 4 rfl
          have hO := hO.pull 4 rfl
          have hO : St _ _ _ [_, _, _, _, _] := hO
          refine wl_e hF rfl rfl rfl (c_call hF rfl rfl Try.call55 (note_r _ _ _ _ _ _ hO.own4 (Wf.notes _ (hw.laid (k := 0) (by decide) hfit) (by omega) (by rw [(laid_len h 0 kind info fs).1]; show h.y.next < _; omega)) (by omega) _ ⟨by omega, by rw [hnl]; show h.y.next < _; omega⟩ _)) ?_
          rintro a _ w ⟨vr2, rfl, hS⟩ hF
          have hO := hO.call4 hS
          have hO : St _ _ _ [_, _, _, _, _] := hO
          refine wl_nil ?_
          refine b_n ?_
          refine k_n ?_
          refine wp_region_lit ?_
          refine wl_v hF rfl rfl rfl (q_add rfl (hF.eval rfl) (hF.eval rfl) (by omega)) fun a hF => ?_
          refine wl_v hF rfl rfl rfl (q_move rfl (hF.eval rfl)) fun a hF => ?_
          refine wl_nil ?_
          refine k_n ?_
          have hO := hO.drop1 4
          have hO : St _ _ _ [_, _, _, _] := hO
          rw [← notes_on, ← takeAt hx] at hO
          exact ⟨(j + 1, _), ⟨by omega, hO, hF.sub ⟨rfl, rfl, rfl, rfl, rfl, trivial⟩⟩, by dsimp only; omega⟩
        · skip
          refine wp_exit ?_
          refine k_x ?_
          refine k_x ?_
          refine b_x ?_
          refine k_n ?_
          refine wp_seq ?_
          refine wp_region_lit ?_
          refine wl_v hF rfl rfl rfl (q_move rfl (hF.eval rfl)) fun a hF => ?_
          refine wl_v hF rfl rfl rfl (q_assign rfl (hF.eval rfl)) fun a hF => ?_
          refine wl_v hF rfl rfl rfl (q_assign rfl (hF.eval rfl)) fun a hF => ?_
          refine wl_nil ?_
          refine k_n ?_
          refine wp_ret ?_
          refine r_2 hF rfl rfl rfl ?_
          have hO : St _ _ _ [_, _, _, _] := hO
          obtain rfl : j = fs.length := by omega
          rw [List.take_length] at hO
          exact ⟨_, _, _, hl4, rfl, hO⟩

set_option maxHeartbeats 2000000 in
theorem lay1_r (w0 : World) (bh : Nat) (vw vh vr : Value) (h : Hp) (hA : Owns w0 [.ob bh 77 (hpC vw vh vr h), slT vw 27 wordE h.words, slT vh 84 headE h.heads, slT vr 3 intE h.rem]) (hw : Wf h) (hrl : h.rem.length ≤ 100000000000) (kind info : Int) (vf : Value) (fs : List Wd) (hR : RdT w0 (blks [.ob bh 77 (hpC vw vh vr h), slT vw 27 wordE h.words, slT vh 84 headE h.heads, slT vr 3 intE h.rem]) vf wordE fs) : Ret Try.prog 52 #[ptr (adr bh), ptr ((adr bh).add 5), i64 kind, i64 info, vf] w0 (fun v w' => ∃ vr2 r h2, layH h 1 kind info fs = (r, h2) ∧ v = .tuple #[i64 r.1, i64 r.2] ∧ St w0 (blks [.ob bh 77 (hpC vw vh vr h), slT vw 27 wordE h.words, slT vh 84 headE h.heads, slT vr 3 intE h.rem]) w' [.ob bh 77 (hpC vw vh vr2 h2), slT vw 27 wordE h2.words, slT vh 84 headE h2.heads, slT vr2 3 intE h2.rem]) := by
  have hO := St.init hA
  have hle := hw.le
  have hlen := hw.len
  obtain ⟨r1, r2, r3, r4⟩ := hw.a
  have hnf := RdT.lenle hR
  obtain ⟨t1, t2, t3⟩ := takes_ge fs
  have etk : takesF fs = 1 + max 1 (fs.length : Int) := rfl
  refine ret_of (m := 108) Try.func52 rfl Try.ntmps52 [(0, ptr (adr bh)), (1, ptr ((adr bh).add 5)), (2, i64 kind), (3, i64 info), (4, vf)] rfl ⟨rfl, rfl, rfl, rfl, rfl, trivial⟩ fun a hF => ?_
  refine wp_seq ?_
  refine wp_region_lit ?_
  refine wl_v hF rfl rfl rfl (q_assign rfl (hF.eval rfl)) fun a hF => ?_
  refine wl_v hF rfl rfl rfl (q_assign rfl (hF.eval rfl)) fun a hF => ?_
  refine wl_nil ?_
  refine k_n ?_
  refine wp_seq ?_
  refine wp_seq ?_
  refine wp_region_lit ?_
  refine wl_v hF rfl rfl rfl (q_move rfl (hF.eval rfl)) fun a hF => ?_
  refine wl_v hF rfl rfl rfl (q_lt rfl (hF.eval rfl) (hF.eval rfl)) fun a hF => ?_
  refine wl_v hF rfl rfl rfl (q_move rfl (hF.eval rfl)) fun a hF => ?_
  refine wl_g hF rfl rfl rfl rfl rfl rfl (fun hg => q_move rfl (hF.eval rfl)) fun a hF => ?_
  refine wl_g hF rfl rfl rfl rfl rfl rfl (fun hg => q_gt rfl ((hF.eval rfl).trans (gv_of hg)) (hF.eval rfl)) fun a hF => ?_
  refine wl_v hF rfl rfl rfl (q_or rfl (hF.eval rfl) rfl (fun hg2 => ((hF.eval rfl).trans (gv_of hg2))) rfl) fun a hF => ?_
  refine wl_v hF rfl rfl rfl (q_move rfl (hF.eval rfl)) fun a hF => ?_
  refine wl_g hF rfl rfl rfl rfl rfl rfl (fun hg => q_move rfl (hF.eval rfl)) fun a hF => ?_
  refine wl_g hF rfl rfl rfl rfl rfl rfl (fun hg => q_lt rfl ((hF.eval rfl).trans (gv_of hg)) (hF.eval rfl)) fun a hF => ?_
  refine wl_v hF rfl rfl rfl (q_or rfl (hF.eval rfl) rfl (fun hg2 => ((hF.eval rfl).trans (gv_of hg2))) rfl) fun a hF => ?_
  refine wl_v hF rfl rfl rfl (q_move rfl (hF.eval rfl)) fun a hF => ?_
  refine wl_g hF rfl rfl rfl rfl rfl rfl (fun hg => q_move rfl (hF.eval rfl)) fun a hF => ?_
  refine wl_g hF rfl rfl rfl rfl rfl rfl (fun hg => q_gt rfl ((hF.eval rfl).trans (gv_of hg)) (hF.eval rfl)) fun a hF => ?_
  refine wl_v hF rfl rfl rfl (q_or rfl (hF.eval rfl) rfl (fun hg2 => ((hF.eval rfl).trans (gv_of hg2))) rfl) fun a hF => ?_
  refine wl_v hF rfl rfl rfl (q_move rfl (hF.eval rfl)) fun a hF => ?_
  refine wl_g hF rfl rfl rfl rfl rfl rfl (fun hg => q_move rfl (hF.eval rfl)) fun a hF => ?_
  refine wl_g hF rfl rfl rfl rfl rfl rfl (fun hg => q_lenRd hR Try.underlying37 rfl ((hF.eval rfl).trans (gv_of hg))) fun a hF => ?_
  refine wl_g hF rfl rfl rfl rfl rfl rfl (fun hg => q_gt rfl ((hF.eval rfl).trans (gv_of hg)) (hF.eval rfl)) fun a hF => ?_
  refine wl_v hF rfl rfl rfl (q_or rfl (hF.eval rfl) rfl (fun hg2 => ((hF.eval rfl).trans (gv_of hg2))) rfl) fun a hF => ?_
  refine wl_v hF rfl rfl rfl (q_move rfl (hF.eval rfl)) fun a hF => ?_
  refine wl_g hF rfl rfl rfl rfl rfl rfl (fun hg => q_move rfl (hF.eval rfl)) fun a hF => ?_
  refine wl_g hF rfl rfl rfl rfl rfl rfl (fun hg => q_eq rfl ((hF.eval rfl).trans (gv_of hg)) (hF.eval rfl)) fun a hF => ?_
  refine wl_g hF rfl rfl rfl rfl rfl rfl (fun hg => q_move rfl ((hF.eval rfl).trans (gv_of hg))) fun a hF => ?_
  refine wl_g hF rfl rfl rfl rfl rfl rfl (fun hg => q_move rfl (hF.eval rfl)) fun a hF => ?_
  refine wl_g hF rfl rfl rfl rfl rfl rfl (fun hg => q_lenRd hR Try.underlying37 rfl ((hF.eval rfl).trans (gv_of hg))) fun a hF => ?_
  refine wl_g hF rfl rfl rfl rfl rfl rfl (fun hg => q_ne rfl ((hF.eval rfl).trans (gv_of hg)) (hF.eval rfl)) fun a hF => ?_
  refine wl_g hF rfl rfl rfl rfl rfl rfl (fun hg => q_and rfl ((hF.eval rfl).trans (gv_of hg)) rfl (fun hg2 => ((hF.eval rfl).trans (gv_of2 hg hg2))) rfl) fun a hF => ?_
  refine wl_v hF rfl rfl rfl (q_or rfl (hF.eval rfl) rfl (fun hg2 => ((hF.eval rfl).trans (gv_of hg2))) rfl) fun a hF => ?_
  refine wl_nil ?_
  refine k_n ?_
  refine wp_ifD hF rfl rfl (fun hc1 => ?_) (fun hc1 => ?_)
  · skip
    refine wp_seq ?_
    refine wp_region_lit ?_
    refine wl_v hF rfl rfl rfl (q_assign rfl (hF.eval rfl)) fun a hF => ?_
    refine wl_v hF rfl rfl rfl (q_assign rfl (hF.eval rfl)) fun a hF => ?_
    refine wl_nil ?_
    refine k_n ?_
    refine wp_ret ?_
    refine k_r ?_
    refine r_2 hF rfl rfl rfl ?_
    have hO : St _ _ _ [_, _, _, _] := hO
    exact ⟨_, (0, 1), h, lay_1 hc1, rfl, hO⟩
  · skip
    have hfl : fs.length ≤ 1000 := by have := (not_or.1 (not_or.1 hc1).1).2; omega
    refine wp_skip ?_
    refine k_n ?_
    refine wp_seq ?_
    refine wp_seq ?_
    refine wp_region_lit ?_
    refine wl_v hF rfl rfl rfl (q_move rfl (hF.eval rfl)) fun a hF => ?_
    refine wl_v hF rfl rfl rfl (q_move rfl (hF.eval rfl)) fun a hF => ?_
    refine wl_e hF rfl rfl rfl (c_call hF rfl rfl Try.call54 (hreal_r _ _ _ _ _ _ (hO.hr 0 1 2 3 rfl rfl rfl rfl) _ _ (hR.at0 hO))) ?_
    rintro a _ w ⟨rfl, hS⟩ hF
    have hO := hO.call0 hS
    have hO : St _ _ _ [_, _, _, _] := hO
    refine wl_v hF rfl rfl rfl (q_not rfl (hF.eval rfl) (dec_b _)) fun a hF => ?_
    refine wl_nil ?_
    refine k_n ?_
    refine wp_ifD hF rfl rfl (fun hc2 => ?_) (fun hc2 => ?_)
    · skip
      refine wp_seq ?_
      refine wp_region_lit ?_
      refine wl_v hF rfl rfl rfl (q_assign rfl (hF.eval rfl)) fun a hF => ?_
      refine wl_v hF rfl rfl rfl (q_assign rfl (hF.eval rfl)) fun a hF => ?_
      refine wl_nil ?_
      refine k_n ?_
      refine wp_ret ?_
      refine k_r ?_
      refine r_2 hF rfl rfl rfl ?_
      have hO : St _ _ _ [_, _, _, _] := hO
      exact ⟨_, (0, 181), h, lay_2 hc1 hc2, rfl, hO⟩
    · skip
      refine wp_skip ?_
      refine k_n ?_
      refine wp_seq ?_
      refine wp_region_lit ?_
      refine wl_v hF rfl rfl rfl (q_move rfl (hF.eval rfl)) fun a hF => ?_
      refine wl_v hF rfl rfl rfl (q_lenRd hR Try.underlying37 rfl (hF.eval rfl)) fun a hF => ?_
      refine wl_v hF rfl rfl rfl (q_max rfl (hF.eval rfl) (hF.eval rfl)) fun a hF => ?_
      refine wl_v hF rfl rfl rfl (q_add rfl (hF.eval rfl) (hF.eval rfl) (by omega)) fun a hF => ?_
      refine wl_v hF rfl rfl rfl (q_assign rfl (hF.eval rfl)) fun a hF => ?_
      refine wl_nil ?_
      refine k_n ?_
      refine wp_seq ?_
      refine wp_seq ?_
      have hO := hO.drew
      refine wp_region_D [0, 0, 0, 0, 1, 0, 0, 0, 1, 0, 0] (fun w => St _ _ w _) Try_mixed (by kernel_rfl) hO ?_
      refine wd_p hF rfl rfl rfl (fun w => q_move rfl (hF.eval rfl)) fun a hF => ?_
      refine wd_p hF rfl rfl rfl (fun w => q_move rfl (hF.eval rfl)) fun a hF => ?_
      refine wd_p hF rfl rfl rfl (fun w => q_nilCheck rfl (hF.eval rfl)) fun a hF => ?_
      refine wd_p hF rfl rfl rfl (fun w => q_fieldAddr (d := 2) Try.underlying74 rfl (hF.eval rfl) rfl Try.sizeOf3 (by decide) rfl) fun a hF => ?_
      refine wd_r hF rfl rfl rfl (fun w hO => q_load Try.isAgg3 rfl (hF.eval rfl) (hO.cell 0 rfl rfl)) fun a hF => ?_
      refine wd_p hF rfl rfl rfl (fun w => q_move rfl (hF.eval rfl)) fun a hF => ?_
      refine wd_p hF rfl rfl rfl (fun w => q_nilCheck rfl (hF.eval rfl)) fun a hF => ?_
      refine wd_p hF rfl rfl rfl (fun w => q_fieldAddr (d := 1) Try.underlying74 rfl (hF.eval rfl) rfl Try.sizeOf3 (by decide) rfl) fun a hF => ?_
      refine wd_r hF rfl rfl rfl (fun w hO => q_load Try.isAgg3 rfl (hF.eval rfl) (hO.cell 0 rfl rfl)) fun a hF => ?_
      refine wd_p hF rfl rfl rfl (fun w => q_sub rfl (hF.eval rfl) (hF.eval rfl) (by omega)) fun a hF => ?_
      refine wd_p hF rfl rfl rfl (fun w => q_gt rfl (hF.eval rfl) (hF.eval rfl)) fun a hF => ?_
      refine wd_nil ?_
      refine k_n ?_
      refine wp_ifD hF rfl rfl (fun hc3 => ?_) (fun hc3 => ?_)
      · skip
        refine wp_seq ?_
        refine wp_region_lit ?_
        refine wl_v hF rfl rfl rfl (q_assign rfl (hF.eval rfl)) fun a hF => ?_
        refine wl_v hF rfl rfl rfl (q_assign rfl (hF.eval rfl)) fun a hF => ?_
        refine wl_nil ?_
        refine k_n ?_
        refine wp_ret ?_
        refine k_r ?_
        refine r_2 hF rfl rfl rfl ?_
        have hO : St _ _ _ [_, _, _, _] := hO
        exact ⟨_, (0, 180), h, lay_3 (k := 1) hc1 hc2 hc3, rfl, hO⟩
      · skip
        have hfit : ¬ h.a.end_ - h.a.next < takesF fs := hc3
        have hl4 := lay_4 (k := 1) hc1 hc2 hc3
        refine wp_skip ?_
        refine k_n ?_
        refine wp_seq ?_
        refine wp_region_lit ?_
        refine wl_v hF rfl rfl rfl (q_move rfl (hF.eval rfl)) fun a hF => ?_
        refine wl_v hF rfl rfl rfl (q_nilCheck rfl (hF.eval rfl)) fun a hF => ?_
        refine wl_v hF rfl rfl rfl (q_fieldAddr (d := 1) Try.underlying74 rfl (hF.eval rfl) rfl Try.sizeOf3 (by decide) rfl) fun a hF => ?_
        refine wl_v hF rfl rfl rfl (q_load Try.isAgg3 rfl (hF.eval rfl) (hO.cell 0 rfl rfl)) fun a hF => ?_
        refine wl_v hF rfl rfl rfl (q_assign rfl (hF.eval rfl)) fun a hF => ?_
        refine wl_nil ?_
        refine k_n ?_
        refine wp_seq ?_
        refine wp_region_lit ?_
        refine wl_v hF rfl rfl rfl (q_move rfl (hF.eval rfl)) fun a hF => ?_
        refine wl_v hF rfl rfl rfl (q_nilCheck rfl (hF.eval rfl)) fun a hF => ?_
        refine wl_v hF rfl rfl rfl (q_fieldAddr (d := 1) Try.underlying74 rfl (hF.eval rfl) rfl Try.sizeOf3 (by decide) rfl) fun a hF => ?_
        refine wl_v hF rfl rfl rfl (q_load Try.isAgg3 rfl (hF.eval rfl) (hO.cell 0 rfl rfl)) fun a hF => ?_
        refine wl_v hF rfl rfl rfl (q_move rfl (hF.eval rfl)) fun a hF => ?_
        refine wl_v hF rfl rfl rfl (q_add rfl (hF.eval rfl) (hF.eval rfl) (by omega)) fun a hF => ?_
        refine wl_v hF rfl rfl rfl (q_nilCheck rfl (hF.eval rfl)) fun a hF => ?_
        refine wl_v hF rfl rfl rfl (q_fieldAddr (d := 1) Try.underlying74 rfl (hF.eval rfl) rfl Try.sizeOf3 (by decide) rfl) fun a hF => ?_
        refine wl_s hF rfl rfl (e_store1 hO (i := 0) rfl Try.sizeOf3 rfl (hF.eval rfl) (hF.eval rfl) rfl rfl rfl) ?_
        rintro a _ w ⟨-, hO⟩ hF
        have hO : St _ _ _ [_, _, _, _] := hO
        replace hO : St _ _ _ [.ob bh 77 (hpC vw vh vr (h.setN 1 (h.a.next + takesF fs))), _, _, _] := hO
        refine wl_nil ?_
        refine k_n ?_
        refine wp_seq ?_
        refine wp_region_lit ?_
        refine wl_v hF rfl rfl rfl (q_move rfl (hF.eval rfl)) fun a hF => ?_
        refine wl_v hF rfl rfl rfl (q_nilCheck rfl (hF.eval rfl)) fun a hF => ?_
        refine wl_v hF rfl rfl rfl (q_fieldAddr0 (d := 1) Try.underlying77 rfl (hF.eval rfl) rfl Try.sizeOf72 (by decide) rfl) fun a hF => ?_
        refine wl_v hF rfl rfl rfl (q_load Try.isAgg72 rfl (hF.eval rfl) (hO.cell 0 rfl rfl)) fun a hF => ?_
        refine wl_v hF rfl rfl rfl (q_move rfl (hF.eval rfl)) fun a hF => ?_
        refine wl_v hF rfl rfl rfl (q_move rfl (hF.eval rfl)) fun a hF => ?_
        refine wl_v hF rfl rfl rfl (q_move rfl (hF.eval rfl)) fun a hF => ?_
        refine wl_v hF rfl rfl rfl (q_move rfl (hF.eval rfl)) fun a hF => ?_
        refine wl_v hF rfl rfl rfl (q_lenRd hR Try.underlying37 rfl (hF.eval rfl)) fun a hF => ?_
        refine wl_v hF rfl rfl rfl (q_move rfl (hF.eval rfl)) fun a hF => ?_
        refine wl_v hF rfl rfl rfl (c_build hF Try.underlying84 Try.zeroValue84 Try_places84 rfl rfl rfl rfl) fun a hF => ?_
        refine wl_v hF rfl rfl rfl (q_at (i := h.a.next.toNat) (hO.rd 2 rfl) Try.underlying72 Try.sizeOf84 rfl (hF.eval rfl) ((hF.eval rfl).trans (congrArg i64 ((Int.toNat_of_nonneg (by omega)).symm))) (by omega)) fun a hF => ?_
        refine wl_s hF rfl rfl (e_storeElT (m := h.a.next.toNat) (off := 0) (q := ⟨kind, info, fs.length, takesF fs, false⟩) hO (i := 2) rfl Try.sizeOf84 rfl (hF.eval rfl) rfl (hF.eval rfl) rfl (get_D (d := hd0) (by omega)) rfl (Nat.le_of_ble_eq_true rfl) rfl (all1 rfl)) ?_
        rintro a _ w ⟨-, hO⟩ hF
        have hO : St _ _ _ [_, _, _, _] := hO
        refine wl_nil ?_
        refine k_n ?_
        refine wp_seq ?_
        refine wp_region_lit ?_
        refine wl_v hF rfl rfl rfl (q_move rfl (hF.eval rfl)) fun a hF => ?_
        refine wl_v hF rfl rfl rfl (q_nilCheck rfl (hF.eval rfl)) fun a hF => ?_
        refine wl_v hF rfl rfl rfl (q_fieldAddr0 (d := 0) Try.underlying77 rfl (hF.eval rfl) rfl Try.sizeOf37 (by decide) rfl) fun a hF => ?_
        refine wl_v hF rfl rfl rfl (q_load Try.isAgg37 rfl (hF.eval rfl) (hO.cell 0 rfl rfl)) fun a hF => ?_
        refine wl_v hF rfl rfl rfl (q_move rfl (hF.eval rfl)) fun a hF => ?_
        refine wl_v hF rfl rfl rfl (q_add rfl (hF.eval rfl) (hF.eval rfl) (by omega)) fun a hF => ?_
        refine wl_v hF rfl rfl rfl (q_drop (j := (h.a.next.toNat + 1)) (hO.rd 1 rfl) Try.underlying37 Try.sizeOf27 rfl (hF.eval rfl) ((hF.eval rfl).trans (congrArg i64 (show h.a.next + 1 = ((h.a.next.toNat + 1 : Nat) : Int) by omega))) (by omega)) fun a hF => ?_
        refine wl_v hF rfl rfl rfl (q_move rfl (hF.eval rfl)) fun a hF => ?_
        refine wl_e hF rfl rfl rfl (e_copyT (k := (h.a.next.toNat + 1)) hO (i := 1) rfl (hR.now hO) Try.underlying37 Try.sizeOf27 rfl (hF.eval rfl) (hF.eval rfl) (by omega) rfl) ?_
        rintro a v95 w hO hF
        have hO : St _ _ _ [_, _, _, _] := hO
        replace hO : St _ _ _ [.ob bh 77 (hpC vw vh vr (laidH h 1 kind info fs)), slT vw 27 wordE (laidH h 1 kind info fs).words, slT vh 84 headE (laidH h 1 kind info fs).heads, slT vr 3 intE (laidH h 1 kind info fs).rem] := hO
        refine wl_nil ?_
        refine k_n ?_
        refine wp_seq ?_
        refine wp_seq ?_
        refine wp_region_lit ?_
        refine wl_v hF rfl rfl rfl (q_move rfl (hF.eval rfl)) fun a hF => ?_
        refine wl_v hF rfl rfl rfl (q_lenRd hR Try.underlying37 rfl (hF.eval rfl)) fun a hF => ?_
        refine wl_v hF rfl rfl rfl (q_move rfl (hF.eval rfl)) fun a hF => ?_
        refine wl_nil ?_
        refine k_n ?_
        refine wp_block ?_
        have hO : St _ _ _ [_, _, _, _] := hO
        refine wp_loopS (fun (q : Nat × Value) a w' => match q with | (j, vr2) => (j ≤ fs.length) ∧ St w0 (blks [.ob bh 77 (hpC vw vh vr h), slT vw 27 wordE h.words, slT vh 84 headE h.heads, slT vr 3 intE h.rem]) w' [.ob bh 77 (hpC vw vh vr2 (notesF (laidH h 1 kind info fs) h.a.next (fs.take j))), slT vw 27 wordE (notesF (laidH h 1 kind info fs) h.a.next (fs.take j)).words, slT vh 84 headE (notesF (laidH h 1 kind info fs) h.a.next (fs.take j)).heads, slT vr2 3 intE (notesF (laidH h 1 kind info fs) h.a.next (fs.take j)).rem] ∧ Fr a 108 [(0, ptr (adr bh)), (13, i64 h.a.next), (96, vf), (97, i64 fs.length), (98, i64 j)]) (fun (q : Nat × Value) => match q with | (j, vr2) => fs.length - j) (0, vr) ⟨by omega, hO, hF.sub ⟨rfl, rfl, rfl, rfl, rfl, trivial⟩⟩ ?_
        rintro ⟨j, vr2⟩ a w ⟨hj, hO, hF⟩
        obtain ⟨hnl, _, _, _, _, _, hnr⟩ := notes_len h.a.next (fs.take j) (laidH h 1 kind info fs)
        obtain ⟨e1, e2⟩ := laid_len h 1 kind info fs
        rw [e1] at hnl
        rw [e2, List.length_take] at hnr
        refine wp_seq ?_
        refine wp_region_lit ?_
        refine wl_v hF rfl rfl rfl (q_lt rfl (hF.eval rfl) (hF.eval rfl)) fun a hF => ?_
        refine wl_nil ?_
        refine k_n ?_
        refine wp_seq ?_
        refine wp_ifD hF rfl rfl (fun hc4 => ?_) (fun hc4 => ?_)
        · skip
          refine wp_skip ?_
          refine k_n ?_
          refine wp_seq ?_
          refine wp_block ?_
          refine wp_seq ?_
          refine wp_region_lit ?_
          obtain ⟨x, hx⟩ := get_ex (l := fs) (i := j) (by omega)
          refine wl_v hF rfl rfl rfl (q_at (i := j) hR Try.underlying37 Try.sizeOf27 rfl (hF.eval rfl) (hF.eval rfl) (by omega)) fun a hF => ?_
          refine wl_v hF rfl rfl rfl (q_loadAgg Try.isAgg27 Try.sizeOf27 rfl (hF.eval rfl) (RdT.cells (hR.now hO) hx) rfl) fun a hF => ?_
          refine wl_e hF rfl rfl rfl (e_alloc hO Try.zeroValue27 rfl rfl) ?_
          rintro a _ w ⟨tk, rfl, hO⟩ hF
          refine wl_s hF rfl rfl (e_storeAll hO (i := 0) rfl Try.sizeOf27 rfl (hF.eval rfl) (hF.eval rfl) rfl rfl) ?_
          rintro a _ w ⟨-, hO⟩ hF
          have hO : St _ _ _ [_, _, _, _, _] := hO
          refine wl_nil ?_
          refine k_n ?_
          refine wp_region_lit ?_
          refine wl_v hF rfl rfl rfl (q_move rfl (hF.eval rfl)) fun a hF => ?_
          refine wl_v hF rfl rfl rfl (q_move rfl (hF.eval rfl)) fun a hF => ?_
          refine wl_v hF rfl rfl rfl (q_loadAgg Try.isAgg27 Try.sizeOf27 rfl (hF.eval rfl) (hO.cells 0 rfl) rfl) fun a hF => ?_
          have hO := hO.pull 4 rfl
          have hO := hO.pull 4 rfl
          have hO := hO.pull 4 rfl
          have hO := hO.pull 4 rfl
          have hO : St _ _ _ [_, _, _, _, _] := hO
          refine wl_e hF rfl rfl rfl (c_call hF rfl rfl Try.call55 (note_r _ _ _ _ _ _ hO.own4 (Wf.notes _ (hw.laid (k := 1) (by decide) hfit) (by omega) (by rw [(laid_len h 1 kind info fs).1]; show h.a.next < _; omega)) (by omega) _ ⟨by omega, by rw [hnl]; show h.a.next < _; omega⟩ _)) ?_
          rintro a _ w ⟨vr2, rfl, hS⟩ hF
          have hO := hO.call4 hS
          have hO : St _ _ _ [_, _, _, _, _] := hO
          refine wl_nil ?_
          refine b_n ?_
          refine k_n ?_
          refine wp_region_lit ?_
          refine wl_v hF rfl rfl rfl (q_add rfl (hF.eval rfl) (hF.eval rfl) (by omega)) fun a hF => ?_
          refine wl_v hF rfl rfl rfl (q_move rfl (hF.eval rfl)) fun a hF => ?_
          refine wl_nil ?_
          refine k_n ?_
          have hO := hO.drop1 4
          have hO : St _ _ _ [_, _, _, _] := hO
          rw [← notes_on, ← takeAt hx] at hO
          exact ⟨(j + 1, _), ⟨by omega, hO, hF.sub ⟨rfl, rfl, rfl, rfl, rfl, trivial⟩⟩, by dsimp only; omega⟩
        · skip
          refine wp_exit ?_
          refine k_x ?_
          refine k_x ?_
          refine b_x ?_
          refine k_n ?_
          refine wp_seq ?_
          refine wp_region_lit ?_
          refine wl_v hF rfl rfl rfl (q_move rfl (hF.eval rfl)) fun a hF => ?_
          refine wl_v hF rfl rfl rfl (q_assign rfl (hF.eval rfl)) fun a hF => ?_
          refine wl_v hF rfl rfl rfl (q_assign rfl (hF.eval rfl)) fun a hF => ?_
          refine wl_nil ?_
          refine k_n ?_
          refine wp_ret ?_
          refine r_2 hF rfl rfl rfl ?_
          have hO : St _ _ _ [_, _, _, _] := hO
          obtain rfl : j = fs.length := by omega
          rw [List.take_length] at hO
          exact ⟨_, _, _, hl4, rfl, hO⟩

set_option maxHeartbeats 2000000 in
theorem lay2_r (w0 : World) (bh : Nat) (vw vh vr : Value) (h : Hp) (hA : Owns w0 [.ob bh 77 (hpC vw vh vr h), slT vw 27 wordE h.words, slT vh 84 headE h.heads, slT vr 3 intE h.rem]) (hw : Wf h) (hrl : h.rem.length ≤ 100000000000) (kind info : Int) (vf : Value) (fs : List Wd) (hR : RdT w0 (blks [.ob bh 77 (hpC vw vh vr h), slT vw 27 wordE h.words, slT vh 84 headE h.heads, slT vr 3 intE h.rem]) vf wordE fs) : Ret Try.prog 52 #[ptr (adr bh), ptr ((adr bh).add 8), i64 kind, i64 info, vf] w0 (fun v w' => ∃ vr2 r h2, layH h 2 kind info fs = (r, h2) ∧ v = .tuple #[i64 r.1, i64 r.2] ∧ St w0 (blks [.ob bh 77 (hpC vw vh vr h), slT vw 27 wordE h.words, slT vh 84 headE h.heads, slT vr 3 intE h.rem]) w' [.ob bh 77 (hpC vw vh vr2 h2), slT vw 27 wordE h2.words, slT vh 84 headE h2.heads, slT vr2 3 intE h2.rem]) := by
  have hO := St.init hA
  have hle := hw.le
  have hlen := hw.len
  obtain ⟨r1, r2, r3, r4⟩ := hw.b
  have hnf := RdT.lenle hR
  obtain ⟨t1, t2, t3⟩ := takes_ge fs
  have etk : takesF fs = 1 + max 1 (fs.length : Int) := rfl
  refine ret_of (m := 108) Try.func52 rfl Try.ntmps52 [(0, ptr (adr bh)), (1, ptr ((adr bh).add 8)), (2, i64 kind), (3, i64 info), (4, vf)] rfl ⟨rfl, rfl, rfl, rfl, rfl, trivial⟩ fun a hF => ?_
  refine wp_seq ?_
  refine wp_region_lit ?_
  refine wl_v hF rfl rfl rfl (q_assign rfl (hF.eval rfl)) fun a hF => ?_
  refine wl_v hF rfl rfl rfl (q_assign rfl (hF.eval rfl)) fun a hF => ?_
  refine wl_nil ?_
  refine k_n ?_
  refine wp_seq ?_
  refine wp_seq ?_
  refine wp_region_lit ?_
  refine wl_v hF rfl rfl rfl (q_move rfl (hF.eval rfl)) fun a hF => ?_
  refine wl_v hF rfl rfl rfl (q_lt rfl (hF.eval rfl) (hF.eval rfl)) fun a hF => ?_
  refine wl_v hF rfl rfl rfl (q_move rfl (hF.eval rfl)) fun a hF => ?_
  refine wl_g hF rfl rfl rfl rfl rfl rfl (fun hg => q_move rfl (hF.eval rfl)) fun a hF => ?_
  refine wl_g hF rfl rfl rfl rfl rfl rfl (fun hg => q_gt rfl ((hF.eval rfl).trans (gv_of hg)) (hF.eval rfl)) fun a hF => ?_
  refine wl_v hF rfl rfl rfl (q_or rfl (hF.eval rfl) rfl (fun hg2 => ((hF.eval rfl).trans (gv_of hg2))) rfl) fun a hF => ?_
  refine wl_v hF rfl rfl rfl (q_move rfl (hF.eval rfl)) fun a hF => ?_
  refine wl_g hF rfl rfl rfl rfl rfl rfl (fun hg => q_move rfl (hF.eval rfl)) fun a hF => ?_
  refine wl_g hF rfl rfl rfl rfl rfl rfl (fun hg => q_lt rfl ((hF.eval rfl).trans (gv_of hg)) (hF.eval rfl)) fun a hF => ?_
  refine wl_v hF rfl rfl rfl (q_or rfl (hF.eval rfl) rfl (fun hg2 => ((hF.eval rfl).trans (gv_of hg2))) rfl) fun a hF => ?_
  refine wl_v hF rfl rfl rfl (q_move rfl (hF.eval rfl)) fun a hF => ?_
  refine wl_g hF rfl rfl rfl rfl rfl rfl (fun hg => q_move rfl (hF.eval rfl)) fun a hF => ?_
  refine wl_g hF rfl rfl rfl rfl rfl rfl (fun hg => q_gt rfl ((hF.eval rfl).trans (gv_of hg)) (hF.eval rfl)) fun a hF => ?_
  refine wl_v hF rfl rfl rfl (q_or rfl (hF.eval rfl) rfl (fun hg2 => ((hF.eval rfl).trans (gv_of hg2))) rfl) fun a hF => ?_
  refine wl_v hF rfl rfl rfl (q_move rfl (hF.eval rfl)) fun a hF => ?_
  refine wl_g hF rfl rfl rfl rfl rfl rfl (fun hg => q_move rfl (hF.eval rfl)) fun a hF => ?_
  refine wl_g hF rfl rfl rfl rfl rfl rfl (fun hg => q_lenRd hR Try.underlying37 rfl ((hF.eval rfl).trans (gv_of hg))) fun a hF => ?_
  refine wl_g hF rfl rfl rfl rfl rfl rfl (fun hg => q_gt rfl ((hF.eval rfl).trans (gv_of hg)) (hF.eval rfl)) fun a hF => ?_
  refine wl_v hF rfl rfl rfl (q_or rfl (hF.eval rfl) rfl (fun hg2 => ((hF.eval rfl).trans (gv_of hg2))) rfl) fun a hF => ?_
  refine wl_v hF rfl rfl rfl (q_move rfl (hF.eval rfl)) fun a hF => ?_
  refine wl_g hF rfl rfl rfl rfl rfl rfl (fun hg => q_move rfl (hF.eval rfl)) fun a hF => ?_
  refine wl_g hF rfl rfl rfl rfl rfl rfl (fun hg => q_eq rfl ((hF.eval rfl).trans (gv_of hg)) (hF.eval rfl)) fun a hF => ?_
  refine wl_g hF rfl rfl rfl rfl rfl rfl (fun hg => q_move rfl ((hF.eval rfl).trans (gv_of hg))) fun a hF => ?_
  refine wl_g hF rfl rfl rfl rfl rfl rfl (fun hg => q_move rfl (hF.eval rfl)) fun a hF => ?_
  refine wl_g hF rfl rfl rfl rfl rfl rfl (fun hg => q_lenRd hR Try.underlying37 rfl ((hF.eval rfl).trans (gv_of hg))) fun a hF => ?_
  refine wl_g hF rfl rfl rfl rfl rfl rfl (fun hg => q_ne rfl ((hF.eval rfl).trans (gv_of hg)) (hF.eval rfl)) fun a hF => ?_
  refine wl_g hF rfl rfl rfl rfl rfl rfl (fun hg => q_and rfl ((hF.eval rfl).trans (gv_of hg)) rfl (fun hg2 => ((hF.eval rfl).trans (gv_of2 hg hg2))) rfl) fun a hF => ?_
  refine wl_v hF rfl rfl rfl (q_or rfl (hF.eval rfl) rfl (fun hg2 => ((hF.eval rfl).trans (gv_of hg2))) rfl) fun a hF => ?_
  refine wl_nil ?_
  refine k_n ?_
  refine wp_ifD hF rfl rfl (fun hc1 => ?_) (fun hc1 => ?_)
  · skip
    refine wp_seq ?_
    refine wp_region_lit ?_
    refine wl_v hF rfl rfl rfl (q_assign rfl (hF.eval rfl)) fun a hF => ?_
    refine wl_v hF rfl rfl rfl (q_assign rfl (hF.eval rfl)) fun a hF => ?_
    refine wl_nil ?_
    refine k_n ?_
    refine wp_ret ?_
    refine k_r ?_
    refine r_2 hF rfl rfl rfl ?_
    have hO : St _ _ _ [_, _, _, _] := hO
    exact ⟨_, (0, 1), h, lay_1 hc1, rfl, hO⟩
  · skip
    have hfl : fs.length ≤ 1000 := by have := (not_or.1 (not_or.1 hc1).1).2; omega
    refine wp_skip ?_
    refine k_n ?_
    refine wp_seq ?_
    refine wp_seq ?_
    refine wp_region_lit ?_
    refine wl_v hF rfl rfl rfl (q_move rfl (hF.eval rfl)) fun a hF => ?_
    refine wl_v hF rfl rfl rfl (q_move rfl (hF.eval rfl)) fun a hF => ?_
    refine wl_e hF rfl rfl rfl (c_call hF rfl rfl Try.call54 (hreal_r _ _ _ _ _ _ (hO.hr 0 1 2 3 rfl rfl rfl rfl) _ _ (hR.at0 hO))) ?_
    rintro a _ w ⟨rfl, hS⟩ hF
    have hO := hO.call0 hS
    have hO : St _ _ _ [_, _, _, _] := hO
    refine wl_v hF rfl rfl rfl (q_not rfl (hF.eval rfl) (dec_b _)) fun a hF => ?_
    refine wl_nil ?_
    refine k_n ?_
    refine wp_ifD hF rfl rfl (fun hc2 => ?_) (fun hc2 => ?_)
    · skip
      refine wp_seq ?_
      refine wp_region_lit ?_
      refine wl_v hF rfl rfl rfl (q_assign rfl (hF.eval rfl)) fun a hF => ?_
      refine wl_v hF rfl rfl rfl (q_assign rfl (hF.eval rfl)) fun a hF => ?_
      refine wl_nil ?_
      refine k_n ?_
      refine wp_ret ?_
      refine k_r ?_
      refine r_2 hF rfl rfl rfl ?_
      have hO : St _ _ _ [_, _, _, _] := hO
      exact ⟨_, (0, 181), h, lay_2 hc1 hc2, rfl, hO⟩
    · skip
      refine wp_skip ?_
      refine k_n ?_
      refine wp_seq ?_
      refine wp_region_lit ?_
      refine wl_v hF rfl rfl rfl (q_move rfl (hF.eval rfl)) fun a hF => ?_
      refine wl_v hF rfl rfl rfl (q_lenRd hR Try.underlying37 rfl (hF.eval rfl)) fun a hF => ?_
      refine wl_v hF rfl rfl rfl (q_max rfl (hF.eval rfl) (hF.eval rfl)) fun a hF => ?_
      refine wl_v hF rfl rfl rfl (q_add rfl (hF.eval rfl) (hF.eval rfl) (by omega)) fun a hF => ?_
      refine wl_v hF rfl rfl rfl (q_assign rfl (hF.eval rfl)) fun a hF => ?_
      refine wl_nil ?_
      refine k_n ?_
      refine wp_seq ?_
      refine wp_seq ?_
      have hO := hO.drew
      refine wp_region_D [0, 0, 0, 0, 1, 0, 0, 0, 1, 0, 0] (fun w => St _ _ w _) Try_mixed (by kernel_rfl) hO ?_
      refine wd_p hF rfl rfl rfl (fun w => q_move rfl (hF.eval rfl)) fun a hF => ?_
      refine wd_p hF rfl rfl rfl (fun w => q_move rfl (hF.eval rfl)) fun a hF => ?_
      refine wd_p hF rfl rfl rfl (fun w => q_nilCheck rfl (hF.eval rfl)) fun a hF => ?_
      refine wd_p hF rfl rfl rfl (fun w => q_fieldAddr (d := 2) Try.underlying74 rfl (hF.eval rfl) rfl Try.sizeOf3 (by decide) rfl) fun a hF => ?_
      refine wd_r hF rfl rfl rfl (fun w hO => q_load Try.isAgg3 rfl (hF.eval rfl) (hO.cell 0 rfl rfl)) fun a hF => ?_
      refine wd_p hF rfl rfl rfl (fun w => q_move rfl (hF.eval rfl)) fun a hF => ?_
      refine wd_p hF rfl rfl rfl (fun w => q_nilCheck rfl (hF.eval rfl)) fun a hF => ?_
      refine wd_p hF rfl rfl rfl (fun w => q_fieldAddr (d := 1) Try.underlying74 rfl (hF.eval rfl) rfl Try.sizeOf3 (by decide) rfl) fun a hF => ?_
      refine wd_r hF rfl rfl rfl (fun w hO => q_load Try.isAgg3 rfl (hF.eval rfl) (hO.cell 0 rfl rfl)) fun a hF => ?_
      refine wd_p hF rfl rfl rfl (fun w => q_sub rfl (hF.eval rfl) (hF.eval rfl) (by omega)) fun a hF => ?_
      refine wd_p hF rfl rfl rfl (fun w => q_gt rfl (hF.eval rfl) (hF.eval rfl)) fun a hF => ?_
      refine wd_nil ?_
      refine k_n ?_
      refine wp_ifD hF rfl rfl (fun hc3 => ?_) (fun hc3 => ?_)
      · skip
        refine wp_seq ?_
        refine wp_region_lit ?_
        refine wl_v hF rfl rfl rfl (q_assign rfl (hF.eval rfl)) fun a hF => ?_
        refine wl_v hF rfl rfl rfl (q_assign rfl (hF.eval rfl)) fun a hF => ?_
        refine wl_nil ?_
        refine k_n ?_
        refine wp_ret ?_
        refine k_r ?_
        refine r_2 hF rfl rfl rfl ?_
        have hO : St _ _ _ [_, _, _, _] := hO
        exact ⟨_, (0, 180), h, lay_3 (k := 2) hc1 hc2 hc3, rfl, hO⟩
      · skip
        have hfit : ¬ h.b.end_ - h.b.next < takesF fs := hc3
        have hl4 := lay_4 (k := 2) hc1 hc2 hc3
        refine wp_skip ?_
        refine k_n ?_
        refine wp_seq ?_
        refine wp_region_lit ?_
        refine wl_v hF rfl rfl rfl (q_move rfl (hF.eval rfl)) fun a hF => ?_
        refine wl_v hF rfl rfl rfl (q_nilCheck rfl (hF.eval rfl)) fun a hF => ?_
        refine wl_v hF rfl rfl rfl (q_fieldAddr (d := 1) Try.underlying74 rfl (hF.eval rfl) rfl Try.sizeOf3 (by decide) rfl) fun a hF => ?_
        refine wl_v hF rfl rfl rfl (q_load Try.isAgg3 rfl (hF.eval rfl) (hO.cell 0 rfl rfl)) fun a hF => ?_
        refine wl_v hF rfl rfl rfl (q_assign rfl (hF.eval rfl)) fun a hF => ?_
        refine wl_nil ?_
        refine k_n ?_
        refine wp_seq ?_
        refine wp_region_lit ?_
        refine wl_v hF rfl rfl rfl (q_move rfl (hF.eval rfl)) fun a hF => ?_
        refine wl_v hF rfl rfl rfl (q_nilCheck rfl (hF.eval rfl)) fun a hF => ?_
        refine wl_v hF rfl rfl rfl (q_fieldAddr (d := 1) Try.underlying74 rfl (hF.eval rfl) rfl Try.sizeOf3 (by decide) rfl) fun a hF => ?_
        refine wl_v hF rfl rfl rfl (q_load Try.isAgg3 rfl (hF.eval rfl) (hO.cell 0 rfl rfl)) fun a hF => ?_
        refine wl_v hF rfl rfl rfl (q_move rfl (hF.eval rfl)) fun a hF => ?_
        refine wl_v hF rfl rfl rfl (q_add rfl (hF.eval rfl) (hF.eval rfl) (by omega)) fun a hF => ?_
        refine wl_v hF rfl rfl rfl (q_nilCheck rfl (hF.eval rfl)) fun a hF => ?_
        refine wl_v hF rfl rfl rfl (q_fieldAddr (d := 1) Try.underlying74 rfl (hF.eval rfl) rfl Try.sizeOf3 (by decide) rfl) fun a hF => ?_
        refine wl_s hF rfl rfl (e_store1 hO (i := 0) rfl Try.sizeOf3 rfl (hF.eval rfl) (hF.eval rfl) rfl rfl rfl) ?_
        rintro a _ w ⟨-, hO⟩ hF
        have hO : St _ _ _ [_, _, _, _] := hO
        replace hO : St _ _ _ [.ob bh 77 (hpC vw vh vr (h.setN 2 (h.b.next + takesF fs))), _, _, _] := hO
        refine wl_nil ?_
        refine k_n ?_
        refine wp_seq ?_
        refine wp_region_lit ?_
        refine wl_v hF rfl rfl rfl (q_move rfl (hF.eval rfl)) fun a hF => ?_
        refine wl_v hF rfl rfl rfl (q_nilCheck rfl (hF.eval rfl)) fun a hF => ?_
        refine wl_v hF rfl rfl rfl (q_fieldAddr0 (d := 1) Try.underlying77 rfl (hF.eval rfl) rfl Try.sizeOf72 (by decide) rfl) fun a hF => ?_
        refine wl_v hF rfl rfl rfl (q_load Try.isAgg72 rfl (hF.eval rfl) (hO.cell 0 rfl rfl)) fun a hF => ?_
        refine wl_v hF rfl rfl rfl (q_move rfl (hF.eval rfl)) fun a hF => ?_
        refine wl_v hF rfl rfl rfl (q_move rfl (hF.eval rfl)) fun a hF => ?_
        refine wl_v hF rfl rfl rfl (q_move rfl (hF.eval rfl)) fun a hF => ?_
        refine wl_v hF rfl rfl rfl (q_move rfl (hF.eval rfl)) fun a hF => ?_
        refine wl_v hF rfl rfl rfl (q_lenRd hR Try.underlying37 rfl (hF.eval rfl)) fun a hF => ?_
        refine wl_v hF rfl rfl rfl (q_move rfl (hF.eval rfl)) fun a hF => ?_
        refine wl_v hF rfl rfl rfl (c_build hF Try.underlying84 Try.zeroValue84 Try_places84 rfl rfl rfl rfl) fun a hF => ?_
        refine wl_v hF rfl rfl rfl (q_at (i := h.b.next.toNat) (hO.rd 2 rfl) Try.underlying72 Try.sizeOf84 rfl (hF.eval rfl) ((hF.eval rfl).trans (congrArg i64 ((Int.toNat_of_nonneg (by omega)).symm))) (by omega)) fun a hF => ?_
        refine wl_s hF rfl rfl (e_storeElT (m := h.b.next.toNat) (off := 0) (q := ⟨kind, info, fs.length, takesF fs, false⟩) hO (i := 2) rfl Try.sizeOf84 rfl (hF.eval rfl) rfl (hF.eval rfl) rfl (get_D (d := hd0) (by omega)) rfl (Nat.le_of_ble_eq_true rfl) rfl (all1 rfl)) ?_
        rintro a _ w ⟨-, hO⟩ hF
        have hO : St _ _ _ [_, _, _, _] := hO
        refine wl_nil ?_
        refine k_n ?_
        refine wp_seq ?_
        refine wp_region_lit ?_
        refine wl_v hF rfl rfl rfl (q_move rfl (hF.eval rfl)) fun a hF => ?_
        refine wl_v hF rfl rfl rfl (q_nilCheck rfl (hF.eval rfl)) fun a hF => ?_
        refine wl_v hF rfl rfl rfl (q_fieldAddr0 (d := 0) Try.underlying77 rfl (hF.eval rfl) rfl Try.sizeOf37 (by decide) rfl) fun a hF => ?_
        refine wl_v hF rfl rfl rfl (q_load Try.isAgg37 rfl (hF.eval rfl) (hO.cell 0 rfl rfl)) fun a hF => ?_
        refine wl_v hF rfl rfl rfl (q_move rfl (hF.eval rfl)) fun a hF => ?_
        refine wl_v hF rfl rfl rfl (q_add rfl (hF.eval rfl) (hF.eval rfl) (by omega)) fun a hF => ?_
        refine wl_v hF rfl rfl rfl (q_drop (j := (h.b.next.toNat + 1)) (hO.rd 1 rfl) Try.underlying37 Try.sizeOf27 rfl (hF.eval rfl) ((hF.eval rfl).trans (congrArg i64 (show h.b.next + 1 = ((h.b.next.toNat + 1 : Nat) : Int) by omega))) (by omega)) fun a hF => ?_
        refine wl_v hF rfl rfl rfl (q_move rfl (hF.eval rfl)) fun a hF => ?_
        refine wl_e hF rfl rfl rfl (e_copyT (k := (h.b.next.toNat + 1)) hO (i := 1) rfl (hR.now hO) Try.underlying37 Try.sizeOf27 rfl (hF.eval rfl) (hF.eval rfl) (by omega) rfl) ?_
        rintro a v95 w hO hF
        have hO : St _ _ _ [_, _, _, _] := hO
        replace hO : St _ _ _ [.ob bh 77 (hpC vw vh vr (laidH h 2 kind info fs)), slT vw 27 wordE (laidH h 2 kind info fs).words, slT vh 84 headE (laidH h 2 kind info fs).heads, slT vr 3 intE (laidH h 2 kind info fs).rem] := hO
        refine wl_nil ?_
        refine k_n ?_
        refine wp_seq ?_
        refine wp_seq ?_
        refine wp_region_lit ?_
        refine wl_v hF rfl rfl rfl (q_move rfl (hF.eval rfl)) fun a hF => ?_
        refine wl_v hF rfl rfl rfl (q_lenRd hR Try.underlying37 rfl (hF.eval rfl)) fun a hF => ?_
        refine wl_v hF rfl rfl rfl (q_move rfl (hF.eval rfl)) fun a hF => ?_
        refine wl_nil ?_
        refine k_n ?_
        refine wp_block ?_
        have hO : St _ _ _ [_, _, _, _] := hO
        refine wp_loopS (fun (q : Nat × Value) a w' => match q with | (j, vr2) => (j ≤ fs.length) ∧ St w0 (blks [.ob bh 77 (hpC vw vh vr h), slT vw 27 wordE h.words, slT vh 84 headE h.heads, slT vr 3 intE h.rem]) w' [.ob bh 77 (hpC vw vh vr2 (notesF (laidH h 2 kind info fs) h.b.next (fs.take j))), slT vw 27 wordE (notesF (laidH h 2 kind info fs) h.b.next (fs.take j)).words, slT vh 84 headE (notesF (laidH h 2 kind info fs) h.b.next (fs.take j)).heads, slT vr2 3 intE (notesF (laidH h 2 kind info fs) h.b.next (fs.take j)).rem] ∧ Fr a 108 [(0, ptr (adr bh)), (13, i64 h.b.next), (96, vf), (97, i64 fs.length), (98, i64 j)]) (fun (q : Nat × Value) => match q with | (j, vr2) => fs.length - j) (0, vr) ⟨by omega, hO, hF.sub ⟨rfl, rfl, rfl, rfl, rfl, trivial⟩⟩ ?_
        rintro ⟨j, vr2⟩ a w ⟨hj, hO, hF⟩
        obtain ⟨hnl, _, _, _, _, _, hnr⟩ := notes_len h.b.next (fs.take j) (laidH h 2 kind info fs)
        obtain ⟨e1, e2⟩ := laid_len h 2 kind info fs
        rw [e1] at hnl
        rw [e2, List.length_take] at hnr
        refine wp_seq ?_
        refine wp_region_lit ?_
        refine wl_v hF rfl rfl rfl (q_lt rfl (hF.eval rfl) (hF.eval rfl)) fun a hF => ?_
        refine wl_nil ?_
        refine k_n ?_
        refine wp_seq ?_
        refine wp_ifD hF rfl rfl (fun hc4 => ?_) (fun hc4 => ?_)
        · skip
          refine wp_skip ?_
          refine k_n ?_
          refine wp_seq ?_
          refine wp_block ?_
          refine wp_seq ?_
          refine wp_region_lit ?_
          obtain ⟨x, hx⟩ := get_ex (l := fs) (i := j) (by omega)
          refine wl_v hF rfl rfl rfl (q_at (i := j) hR Try.underlying37 Try.sizeOf27 rfl (hF.eval rfl) (hF.eval rfl) (by omega)) fun a hF => ?_
          refine wl_v hF rfl rfl rfl (q_loadAgg Try.isAgg27 Try.sizeOf27 rfl (hF.eval rfl) (RdT.cells (hR.now hO) hx) rfl) fun a hF => ?_
          refine wl_e hF rfl rfl rfl (e_alloc hO Try.zeroValue27 rfl rfl) ?_
          rintro a _ w ⟨tk, rfl, hO⟩ hF
          refine wl_s hF rfl rfl (e_storeAll hO (i := 0) rfl Try.sizeOf27 rfl (hF.eval rfl) (hF.eval rfl) rfl rfl) ?_
          rintro a _ w ⟨-, hO⟩ hF
          have hO : St _ _ _ [_, _, _, _, _] := hO
          refine wl_nil ?_
          refine k_n ?_
          refine wp_region_lit ?_
          refine wl_v hF rfl rfl rfl (q_move rfl (hF.eval rfl)) fun a hF => ?_
          refine wl_v hF rfl rfl rfl (q_move rfl (hF.eval rfl)) fun a hF => ?_
          refine wl_v hF rfl rfl rfl (q_loadAgg Try.isAgg27 Try.sizeOf27 rfl (hF.eval rfl) (hO.cells 0 rfl) rfl) fun a hF => ?_
          have hO := hO.pull 4 rfl
          have hO := hO.pull 4 rfl
          have hO := hO.pull 4 rfl
          have hO := hO.pull 4 rfl
          have hO : St _ _ _ [_, _, _, _, _] := hO
          refine wl_e hF rfl rfl rfl (c_call hF rfl rfl Try.call55 (note_r _ _ _ _ _ _ hO.own4 (Wf.notes _ (hw.laid (k := 2) (by decide) hfit) (by omega) (by rw [(laid_len h 2 kind info fs).1]; show h.b.next < _; omega)) (by omega) _ ⟨by omega, by rw [hnl]; show h.b.next < _; omega⟩ _)) ?_
          rintro a _ w ⟨vr2, rfl, hS⟩ hF
          have hO := hO.call4 hS
          have hO : St _ _ _ [_, _, _, _, _] := hO
          refine wl_nil ?_
          refine b_n ?_
          refine k_n ?_
          refine wp_region_lit ?_
          refine wl_v hF rfl rfl rfl (q_add rfl (hF.eval rfl) (hF.eval rfl) (by omega)) fun a hF => ?_
          refine wl_v hF rfl rfl rfl (q_move rfl (hF.eval rfl)) fun a hF => ?_
          refine wl_nil ?_
          refine k_n ?_
          have hO := hO.drop1 4
          have hO : St _ _ _ [_, _, _, _] := hO
          rw [← notes_on, ← takeAt hx] at hO
          exact ⟨(j + 1, _), ⟨by omega, hO, hF.sub ⟨rfl, rfl, rfl, rfl, rfl, trivial⟩⟩, by dsimp only; omega⟩
        · skip
          refine wp_exit ?_
          refine k_x ?_
          refine k_x ?_
          refine b_x ?_
          refine k_n ?_
          refine wp_seq ?_
          refine wp_region_lit ?_
          refine wl_v hF rfl rfl rfl (q_move rfl (hF.eval rfl)) fun a hF => ?_
          refine wl_v hF rfl rfl rfl (q_assign rfl (hF.eval rfl)) fun a hF => ?_
          refine wl_v hF rfl rfl rfl (q_assign rfl (hF.eval rfl)) fun a hF => ?_
          refine wl_nil ?_
          refine k_n ?_
          refine wp_ret ?_
          refine r_2 hF rfl rfl rfl ?_
          have hO : St _ _ _ [_, _, _, _] := hO
          obtain rfl : j = fs.length := by omega
          rw [List.take_length] at hO
          exact ⟨_, _, _, hl4, rfl, hO⟩

end Go.Proofs.Ytglienidnffnjaa
namespace Go.Proofs.Ytglienidnffnjaa
open Go
set_option maxRecDepth 100000
set_option linter.unusedVariables false
theorem alloc_r (w0 : World) (bh : Nat) (vw vh vr : Value) (h : Hp) (hA : Owns w0 [.ob bh 77 (hpC vw vh vr h), slT vw 27 wordE h.words, slT vh 84 headE h.heads, slT vr 3 intE h.rem]) (hw : Wf h) (hrl : h.rem.length ≤ 100000000000) (kind info : Int) (vf : Value) (fs : List Wd) (hR : RdT w0 (blks [.ob bh 77 (hpC vw vh vr h), slT vw 27 wordE h.words, slT vh 84 headE h.heads, slT vr 3 intE h.rem]) vf wordE fs) : Ret Try.prog 12 #[ptr (adr bh), i64 kind, i64 info, vf] w0 (fun v w' => ∃ vr2 r h2, layH h 0 kind info fs = (r, h2) ∧ v = .tuple #[i64 r.1, i64 r.2] ∧ St w0 (blks [.ob bh 77 (hpC vw vh vr h), slT vw 27 wordE h.words, slT vh 84 headE h.heads, slT vr 3 intE h.rem]) w' [.ob bh 77 (hpC vw vh vr2 h2), slT vw 27 wordE h2.words, slT vh 84 headE h2.heads, slT vr2 3 intE h2.rem]) := by
  have hO := St.init hA
  have hle := hw.le
  have hlen := hw.len
  refine ret_of (m := 22) Try.func12 rfl Try.ntmps12 [(0, ptr (adr bh)), (1, i64 kind), (2, i64 info), (3, vf)] rfl ⟨rfl, rfl, rfl, rfl, trivial⟩ fun a hF => ?_
  refine wp_seq ?_
  refine wp_region_lit ?_
  refine wl_v hF rfl rfl rfl (q_assign rfl (hF.eval rfl)) fun a hF => ?_
  refine wl_v hF rfl rfl rfl (q_assign rfl (hF.eval rfl)) fun a hF => ?_
  refine wl_nil ?_
  refine k_n ?_
  refine wp_seq ?_
  refine wp_seq ?_
  refine wp_region_lit ?_
  refine wl_v hF rfl rfl rfl (q_move rfl (hF.eval rfl)) fun a hF => ?_
  refine wl_v hF rfl rfl rfl (q_peq Try.underlying22 rfl (hF.eval rfl) (hF.eval rfl)) fun a hF => ?_
  refine wl_nil ?_
  refine k_n ?_
  refine wp_ifD hF rfl rfl (fun hc1 => ?_) (fun hc1 => ?_)
  · skip
    exact absurd hc1 (by simp)
  · skip
    refine wp_skip ?_
    refine k_n ?_
    refine wp_seq ?_
    refine wp_region_lit ?_
    refine wl_v hF rfl rfl rfl (q_move rfl (hF.eval rfl)) fun a hF => ?_
    refine wl_v hF rfl rfl rfl (q_move rfl (hF.eval rfl)) fun a hF => ?_
    refine wl_v hF rfl rfl rfl (q_nilCheck rfl (hF.eval rfl)) fun a hF => ?_
    refine wl_v hF rfl rfl rfl (q_fieldAddr0 (d := 2) Try.underlying77 rfl (hF.eval rfl) rfl Try.sizeOf74 (by decide) rfl) fun a hF => ?_
    refine wl_v hF rfl rfl rfl (q_move rfl (hF.eval rfl)) fun a hF => ?_
    refine wl_v hF rfl rfl rfl (q_move rfl (hF.eval rfl)) fun a hF => ?_
    refine wl_v hF rfl rfl rfl (q_move rfl (hF.eval rfl)) fun a hF => ?_
    have hO := hO.pull 3 rfl
    have hO := hO.pull 3 rfl
    have hO := hO.pull 3 rfl
    have hO := hO.pull 3 rfl
    have hO : St _ _ _ [_, _, _, _] := hO
    refine wl_e hF rfl rfl rfl (c_call hF rfl rfl Try.call52 (lay0_r _ _ _ _ _ _ hO.own4 hw hrl _ _ _ _ (hR.at4 hO))) ?_
    rintro a _ w ⟨vr2, r, h2, hly, rfl, hS⟩ hF
    have hO := hO.call4 hS
    have hO : St _ _ _ [_, _, _, _] := hO
    refine wl_v hF rfl rfl rfl (q_extract rfl (hF.eval rfl) rfl) fun a hF => ?_
    refine wl_v hF rfl rfl rfl (q_extract rfl (hF.eval rfl) rfl) fun a hF => ?_
    refine wl_v hF rfl rfl rfl (q_assign rfl (hF.eval rfl)) fun a hF => ?_
    refine wl_v hF rfl rfl rfl (q_assign rfl (hF.eval rfl)) fun a hF => ?_
    refine wl_nil ?_
    refine k_n ?_
    refine wp_ret ?_
    refine r_2 hF rfl rfl rfl ?_
    have hO : St _ _ _ [_, _, _, _] := hO
    exact ⟨_, _, _, hly, rfl, hO⟩

theorem keep0_r (w0 : World) (bh : Nat) (vw vh vr : Value) (h : Hp) (hA : Owns w0 [.ob bh 77 (hpC vw vh vr h), slT vw 27 wordE h.words, slT vh 84 headE h.heads, slT vr 3 intE h.rem]) (hw : Wf h) (hrl : h.rem.length ≤ 100000000000) (hu : h.use = 0) (kind info : Int) (vf : Value) (fs : List Wd) (hR : RdT w0 (blks [.ob bh 77 (hpC vw vh vr h), slT vw 27 wordE h.words, slT vh 84 headE h.heads, slT vr 3 intE h.rem]) vf wordE fs) : Ret Try.prog 16 #[ptr (adr bh), i64 kind, i64 info, vf] w0 (fun v w' => ∃ vr2 r h2, layH h 1 kind info fs = (r, h2) ∧ v = .tuple #[i64 r.1, i64 r.2] ∧ St w0 (blks [.ob bh 77 (hpC vw vh vr h), slT vw 27 wordE h.words, slT vh 84 headE h.heads, slT vr 3 intE h.rem]) w' [.ob bh 77 (hpC vw vh vr2 h2), slT vw 27 wordE h2.words, slT vh 84 headE h2.heads, slT vr2 3 intE h2.rem]) := by
  have hO := St.init hA
  have hle := hw.le
  have hlen := hw.len
  refine ret_of (m := 27) Try.func16 rfl Try.ntmps16 [(0, ptr (adr bh)), (1, i64 kind), (2, i64 info), (3, vf)] rfl ⟨rfl, rfl, rfl, rfl, trivial⟩ fun a hF => ?_
  refine wp_seq ?_
  refine wp_region_lit ?_
  refine wl_v hF rfl rfl rfl (q_assign rfl (hF.eval rfl)) fun a hF => ?_
  refine wl_v hF rfl rfl rfl (q_assign rfl (hF.eval rfl)) fun a hF => ?_
  refine wl_nil ?_
  refine k_n ?_
  refine wp_seq ?_
  refine wp_seq ?_
  refine wp_region_lit ?_
  refine wl_v hF rfl rfl rfl (q_move rfl (hF.eval rfl)) fun a hF => ?_
  refine wl_v hF rfl rfl rfl (q_peq Try.underlying22 rfl (hF.eval rfl) (hF.eval rfl)) fun a hF => ?_
  refine wl_nil ?_
  refine k_n ?_
  refine wp_ifD hF rfl rfl (fun hc1 => ?_) (fun hc1 => ?_)
  · skip
    exact absurd hc1 (by simp)
  · skip
    refine wp_skip ?_
    refine k_n ?_
    refine wp_seq ?_
    have hO := hO.drew
    refine wp_region_D [0, 0, 0, 0, 0, 1, 0, 0, 0, 0, 0, 0, 3, 0, 0, 0, 0] (fun w => St _ _ w _) Try_mixed (by kernel_rfl) hO ?_
    refine wd_p hF rfl rfl rfl (fun w => q_move rfl (hF.eval rfl)) fun a hF => ?_
    refine wd_p hF rfl rfl rfl (fun w => q_move rfl (hF.eval rfl)) fun a hF => ?_
    refine wd_p hF rfl rfl rfl (fun w => q_move rfl (hF.eval rfl)) fun a hF => ?_
    refine wd_p hF rfl rfl rfl (fun w => q_nilCheck rfl (hF.eval rfl)) fun a hF => ?_
    refine wd_p hF rfl rfl rfl (fun w => q_fieldAddr0 (d := 11) Try.underlying77 rfl (hF.eval rfl) rfl Try.sizeOf3 (by decide) rfl) fun a hF => ?_
    refine wd_r hF rfl rfl rfl (fun w hO => q_load Try.isAgg3 rfl (hF.eval rfl) (hO.cell 0 rfl rfl)) fun a hF => ?_
    refine wd_p hF rfl rfl rfl (fun w => q_nilCheck rfl (hF.eval rfl)) fun a hF => ?_
    refine wd_p hF rfl rfl rfl (fun w => q_fieldAddr0 (d := 5) Try.underlying77 rfl (hF.eval rfl) rfl Try.sizeOf75 (by decide) rfl) fun a hF => ?_
    refine wd_p hF rfl rfl rfl (fun w => q_atArrK (i := 0) (d := 5) Try.underlying75 Try.sizeOf74 rfl (hF.eval rfl) ((hF.eval rfl).trans (congrArg (fun n : Nat => i64 (n : Int)) hu)) (by decide)) fun a hF => ?_
    refine wd_p hF rfl rfl rfl (fun w => q_move rfl (hF.eval rfl)) fun a hF => ?_
    refine wd_p hF rfl rfl rfl (fun w => q_move rfl (hF.eval rfl)) fun a hF => ?_
    refine wd_p hF rfl rfl rfl (fun w => q_move rfl (hF.eval rfl)) fun a hF => ?_
    have hO := hO.pull 3 rfl
    have hO := hO.pull 3 rfl
    have hO := hO.pull 3 rfl
    have hO := hO.pull 3 rfl
    have hO : St _ _ _ [_, _, _, _] := hO
    refine wd_f hF rfl rfl rfl (c_call hF rfl rfl Try.call52 (lay1_r _ _ _ _ _ _ hO.own4 hw hrl _ _ _ _ (hR.at4 hO))) ?_
    rintro a _ w ⟨vr2, r, h2, hly, rfl, hS⟩ hF
    have hO := hO.call4 hS
    have hO : St _ _ _ [_, _, _, _] := hO
    refine wd_p hF rfl rfl rfl (fun w => q_extract rfl (hF.eval rfl) rfl) fun a hF => ?_
    refine wd_p hF rfl rfl rfl (fun w => q_extract rfl (hF.eval rfl) rfl) fun a hF => ?_
    refine wd_p hF rfl rfl rfl (fun w => q_assign rfl (hF.eval rfl)) fun a hF => ?_
    refine wd_p hF rfl rfl rfl (fun w => q_assign rfl (hF.eval rfl)) fun a hF => ?_
    refine wd_nil ?_
    refine k_n ?_
    refine wp_ret ?_
    refine r_2 hF rfl rfl rfl ?_
    have hO : St _ _ _ [_, _, _, _] := hO
    exact ⟨_, _, _, hly, rfl, hO⟩

theorem keep1_r (w0 : World) (bh : Nat) (vw vh vr : Value) (h : Hp) (hA : Owns w0 [.ob bh 77 (hpC vw vh vr h), slT vw 27 wordE h.words, slT vh 84 headE h.heads, slT vr 3 intE h.rem]) (hw : Wf h) (hrl : h.rem.length ≤ 100000000000) (hu : h.use = 1) (kind info : Int) (vf : Value) (fs : List Wd) (hR : RdT w0 (blks [.ob bh 77 (hpC vw vh vr h), slT vw 27 wordE h.words, slT vh 84 headE h.heads, slT vr 3 intE h.rem]) vf wordE fs) : Ret Try.prog 16 #[ptr (adr bh), i64 kind, i64 info, vf] w0 (fun v w' => ∃ vr2 r h2, layH h 2 kind info fs = (r, h2) ∧ v = .tuple #[i64 r.1, i64 r.2] ∧ St w0 (blks [.ob bh 77 (hpC vw vh vr h), slT vw 27 wordE h.words, slT vh 84 headE h.heads, slT vr 3 intE h.rem]) w' [.ob bh 77 (hpC vw vh vr2 h2), slT vw 27 wordE h2.words, slT vh 84 headE h2.heads, slT vr2 3 intE h2.rem]) := by
  have hO := St.init hA
  have hle := hw.le
  have hlen := hw.len
  refine ret_of (m := 27) Try.func16 rfl Try.ntmps16 [(0, ptr (adr bh)), (1, i64 kind), (2, i64 info), (3, vf)] rfl ⟨rfl, rfl, rfl, rfl, trivial⟩ fun a hF => ?_
  refine wp_seq ?_
  refine wp_region_lit ?_
  refine wl_v hF rfl rfl rfl (q_assign rfl (hF.eval rfl)) fun a hF => ?_
  refine wl_v hF rfl rfl rfl (q_assign rfl (hF.eval rfl)) fun a hF => ?_
  refine wl_nil ?_
  refine k_n ?_
  refine wp_seq ?_
  refine wp_seq ?_
  refine wp_region_lit ?_
  refine wl_v hF rfl rfl rfl (q_move rfl (hF.eval rfl)) fun a hF => ?_
  refine wl_v hF rfl rfl rfl (q_peq Try.underlying22 rfl (hF.eval rfl) (hF.eval rfl)) fun a hF => ?_
  refine wl_nil ?_
  refine k_n ?_
  refine wp_ifD hF rfl rfl (fun hc1 => ?_) (fun hc1 => ?_)
  · skip
    exact absurd hc1 (by simp)
  · skip
    refine wp_skip ?_
    refine k_n ?_
    refine wp_seq ?_
    have hO := hO.drew
    refine wp_region_D [0, 0, 0, 0, 0, 1, 0, 0, 0, 0, 0, 0, 3, 0, 0, 0, 0] (fun w => St _ _ w _) Try_mixed (by kernel_rfl) hO ?_
    refine wd_p hF rfl rfl rfl (fun w => q_move rfl (hF.eval rfl)) fun a hF => ?_
    refine wd_p hF rfl rfl rfl (fun w => q_move rfl (hF.eval rfl)) fun a hF => ?_
    refine wd_p hF rfl rfl rfl (fun w => q_move rfl (hF.eval rfl)) fun a hF => ?_
    refine wd_p hF rfl rfl rfl (fun w => q_nilCheck rfl (hF.eval rfl)) fun a hF => ?_
    refine wd_p hF rfl rfl rfl (fun w => q_fieldAddr0 (d := 11) Try.underlying77 rfl (hF.eval rfl) rfl Try.sizeOf3 (by decide) rfl) fun a hF => ?_
    refine wd_r hF rfl rfl rfl (fun w hO => q_load Try.isAgg3 rfl (hF.eval rfl) (hO.cell 0 rfl rfl)) fun a hF => ?_
    refine wd_p hF rfl rfl rfl (fun w => q_nilCheck rfl (hF.eval rfl)) fun a hF => ?_
    refine wd_p hF rfl rfl rfl (fun w => q_fieldAddr0 (d := 5) Try.underlying77 rfl (hF.eval rfl) rfl Try.sizeOf75 (by decide) rfl) fun a hF => ?_
    refine wd_p hF rfl rfl rfl (fun w => q_atArrK (i := 1) (d := 5) Try.underlying75 Try.sizeOf74 rfl (hF.eval rfl) ((hF.eval rfl).trans (congrArg (fun n : Nat => i64 (n : Int)) hu)) (by decide)) fun a hF => ?_
    refine wd_p hF rfl rfl rfl (fun w => q_move rfl (hF.eval rfl)) fun a hF => ?_
    refine wd_p hF rfl rfl rfl (fun w => q_move rfl (hF.eval rfl)) fun a hF => ?_
    refine wd_p hF rfl rfl rfl (fun w => q_move rfl (hF.eval rfl)) fun a hF => ?_
    have hO := hO.pull 3 rfl
    have hO := hO.pull 3 rfl
    have hO := hO.pull 3 rfl
    have hO := hO.pull 3 rfl
    have hO : St _ _ _ [_, _, _, _] := hO
    refine wd_f hF rfl rfl rfl (c_call hF rfl rfl Try.call52 (lay2_r _ _ _ _ _ _ hO.own4 hw hrl _ _ _ _ (hR.at4 hO))) ?_
    rintro a _ w ⟨vr2, r, h2, hly, rfl, hS⟩ hF
    have hO := hO.call4 hS
    have hO : St _ _ _ [_, _, _, _] := hO
    refine wd_p hF rfl rfl rfl (fun w => q_extract rfl (hF.eval rfl) rfl) fun a hF => ?_
    refine wd_p hF rfl rfl rfl (fun w => q_extract rfl (hF.eval rfl) rfl) fun a hF => ?_
    refine wd_p hF rfl rfl rfl (fun w => q_assign rfl (hF.eval rfl)) fun a hF => ?_
    refine wd_p hF rfl rfl rfl (fun w => q_assign rfl (hF.eval rfl)) fun a hF => ?_
    refine wd_nil ?_
    refine k_n ?_
    refine wp_ret ?_
    refine r_2 hF rfl rfl rfl ?_
    have hO : St _ _ _ [_, _, _, _] := hO
    exact ⟨_, _, _, hly, rfl, hO⟩


theorem keep_r (w0 : World) (bh : Nat) (vw vh vr : Value) (h : Hp) (hA : Owns w0 [.ob bh 77 (hpC vw vh vr h), slT vw 27 wordE h.words, slT vh 84 headE h.heads, slT vr 3 intE h.rem]) (hw : Wf h) (hrl : h.rem.length ≤ 100000000000) (kind info : Int) (vf : Value) (fs : List Wd) (hR : RdT w0 (blks [.ob bh 77 (hpC vw vh vr h), slT vw 27 wordE h.words, slT vh 84 headE h.heads, slT vr 3 intE h.rem]) vf wordE fs) : Ret Try.prog 16 #[ptr (adr bh), i64 kind, i64 info, vf] w0 (fun v w' => ∃ vr2 r h2, layH h (1 + h.use) kind info fs = (r, h2) ∧ v = .tuple #[i64 r.1, i64 r.2] ∧ St w0 (blks [.ob bh 77 (hpC vw vh vr h), slT vw 27 wordE h.words, slT vh 84 headE h.heads, slT vr 3 intE h.rem]) w' [.ob bh 77 (hpC vw vh vr2 h2), slT vw 27 wordE h2.words, slT vh 84 headE h2.heads, slT vr2 3 intE h2.rem]) := by
  have hu := hw.use
  rcases (by omega : h.use = 0 ∨ h.use = 1) with hu | hu
  · rw [hu]; exact keep0_r w0 bh vw vh vr h hA hw hrl hu kind info vf fs hR
  · rw [hu]; exact keep1_r w0 bh vw vh vr h hA hw hrl hu kind info vf fs hR
end Go.Proofs.Ytglienidnffnjaa
namespace Go.Proofs.Ytglienidnffnjaa
open Go
set_option maxRecDepth 100000
set_option linter.unusedVariables false
theorem indexI_r (w0 : World) (s : Int) (vl : Value) (ls : List Int) (hR : RdT w0 [] vl intE ls) : Ret Try.prog 75 #[vl, i64 s] w0 (fun v w' => ∃ n : Int, v = i64 n ∧ decide (0 ≤ n) = ls.contains s ∧ St w0 [] w' []) := by
  have hO := St.init0 w0
  have hl := RdT.lenle hR
  refine ret_of (m := 19) Try.func75 rfl Try.ntmps75 [(0, vl), (1, i64 s)] rfl ⟨rfl, rfl, trivial⟩ fun a hF => ?_
  refine wp_seq ?_
  refine wp_region_lit ?_
  refine wl_v hF rfl rfl rfl (q_assign rfl (hF.eval rfl)) fun a hF => ?_
  refine wl_nil ?_
  refine k_n ?_
  refine wp_seq ?_
  refine wp_seq ?_
  refine wp_region_lit ?_
  refine wl_v hF rfl rfl rfl (q_move rfl (hF.eval rfl)) fun a hF => ?_
  refine wl_v hF rfl rfl rfl (q_lenRd hR Try.underlying36 rfl (hF.eval rfl)) fun a hF => ?_
  refine wl_v hF rfl rfl rfl (q_move rfl (hF.eval rfl)) fun a hF => ?_
  refine wl_nil ?_
  refine k_n ?_
  refine wp_block ?_
  have hO : St _ _ _ [] := hO
  refine wp_loopS (fun (k : Nat) a w' => (k ≤ ls.length ∧ (ls.take k).contains s = false) ∧ St w0 [] w' [] ∧ Fr a 19 [(0, vl), (1, i64 s), (7, i64 ls.length), (8, i64 k)]) (fun (k : Nat) => ls.length - k) 0 ⟨⟨by omega, by simp⟩, hO, hF.sub ⟨rfl, rfl, rfl, rfl, trivial⟩⟩ ?_
  rintro k a w ⟨⟨hk, hn⟩, hO, hF⟩
  refine wp_seq ?_
  refine wp_region_lit ?_
  refine wl_v hF rfl rfl rfl (q_lt rfl (hF.eval rfl) (hF.eval rfl)) fun a hF => ?_
  refine wl_nil ?_
  refine k_n ?_
  refine wp_seq ?_
  refine wp_ifD hF rfl rfl (fun hc1 => ?_) (fun hc1 => ?_)
  · skip
    refine wp_skip ?_
    refine k_n ?_
    refine wp_seq ?_
    refine wp_block ?_
    refine wp_seq ?_
    refine wp_region_lit ?_
    refine wl_v hF rfl rfl rfl (q_move rfl (hF.eval rfl)) fun a hF => ?_
    refine wl_v hF rfl rfl rfl (q_assign rfl (hF.eval rfl)) fun a hF => ?_
    refine wl_nil ?_
    refine k_n ?_
    refine wp_seq ?_
    refine wp_region_lit ?_
    refine wl_v hF rfl rfl rfl (q_move rfl (hF.eval rfl)) fun a hF => ?_
    refine wl_v hF rfl rfl rfl (q_move rfl (hF.eval rfl)) fun a hF => ?_
    refine wl_v hF rfl rfl rfl (q_move rfl (hF.eval rfl)) fun a hF => ?_
    obtain ⟨x, hx⟩ := get_ex (l := ls) (i := k) (by omega)
    refine wl_v hF rfl rfl rfl (q_at (i := k) hR Try.underlying36 Try.sizeOf3 rfl (hF.eval rfl) (hF.eval rfl) (by omega)) fun a hF => ?_
    refine wl_v hF rfl rfl rfl (q_load Try.isAgg3 rfl (hF.eval rfl) (RdT.cell0 (hR.now hO) hx rfl)) fun a hF => ?_
    refine wl_v hF rfl rfl rfl (q_eq rfl (hF.eval rfl) (hF.eval rfl)) fun a hF => ?_
    refine wl_nil ?_
    refine k_n ?_
    refine wp_ifD hF rfl rfl (fun hc2 => ?_) (fun hc2 => ?_)
    · skip
      refine wp_seq ?_
      refine wp_region_lit ?_
      refine wl_v hF rfl rfl rfl (q_move rfl (hF.eval rfl)) fun a hF => ?_
      refine wl_v hF rfl rfl rfl (q_assign rfl (hF.eval rfl)) fun a hF => ?_
      refine wl_nil ?_
      refine k_n ?_
      refine wp_ret ?_
      refine b_r ?_
      refine k_r ?_
      refine k_r ?_
      refine b_r ?_
      refine k_r ?_
      refine r_1 hF rfl rfl ?_
      subst hc2
      exact ⟨_, rfl, (decide_eq_true (by omega)).trans (cont_yes hx).symm, hO⟩
    · skip
      refine wp_skip ?_
      refine b_n ?_
      refine k_n ?_
      refine wp_region_lit ?_
      refine wl_v hF rfl rfl rfl (q_add rfl (hF.eval rfl) (hF.eval rfl) (by omega)) fun a hF => ?_
      refine wl_v hF rfl rfl rfl (q_move rfl (hF.eval rfl)) fun a hF => ?_
      refine wl_nil ?_
      refine k_n ?_
      have hO : St _ _ _ [] := hO
      exact ⟨k + 1, ⟨⟨by omega, cont_no hx hn hc2⟩, hO, hF.sub ⟨rfl, rfl, rfl, rfl, trivial⟩⟩, by omega⟩
  · skip
    refine wp_exit ?_
    refine k_x ?_
    refine k_x ?_
    refine b_x ?_
    refine k_n ?_
    refine wp_seq ?_
    refine wp_region_lit ?_
    refine wl_v hF rfl rfl rfl (q_assign rfl (hF.eval rfl)) fun a hF => ?_
    refine wl_nil ?_
    refine k_n ?_
    refine wp_ret ?_
    refine r_1 hF rfl rfl ?_
    exact ⟨_, rfl, (decide_eq_false (by omega)).trans (by rw [← hn, List.take_of_length_le (by omega)]), hO⟩

theorem containsI_r (w0 : World) (s : Int) (vl : Value) (ls : List Int) (hR : RdT w0 [] vl intE ls) : Ret Try.prog 57 #[vl, i64 s] w0 (fun v w' => v = .bool (ls.contains s) ∧ St w0 [] w' []) := by
  have hO := St.init0 w0
  refine ret_of (m := 9) Try.func57 rfl Try.ntmps57 [(0, vl), (1, i64 s)] rfl ⟨rfl, rfl, trivial⟩ fun a hF => ?_
  refine wp_seq ?_
  refine wp_region_lit ?_
  refine wl_v hF rfl rfl rfl (q_assign rfl (hF.eval rfl)) fun a hF => ?_
  refine wl_nil ?_
  refine k_n ?_
  refine wp_seq ?_
  refine wp_region_lit ?_
  refine wl_v hF rfl rfl rfl (q_move rfl (hF.eval rfl)) fun a hF => ?_
  refine wl_v hF rfl rfl rfl (q_move rfl (hF.eval rfl)) fun a hF => ?_
  refine wl_e hF rfl rfl rfl (c_call hF rfl rfl Try.call75 (indexI_r _ _ _ _ (hR.at0 hO))) ?_
  rintro a _ w ⟨ix, rfl, hix, hS⟩ hF
  have hO := hO.call0 hS
  have hO : St _ _ _ [] := hO
  refine wl_v hF rfl rfl rfl (q_ge rfl (hF.eval rfl) (hF.eval rfl)) fun a hF => ?_
  refine wl_v hF rfl rfl rfl (q_assign rfl (hF.eval rfl)) fun a hF => ?_
  refine wl_nil ?_
  refine k_n ?_
  refine wp_ret ?_
  refine r_1 hF rfl rfl ?_
  exact ⟨congrArg Value.bool hix, hO⟩

theorem chase1_r (w0 : World) (bx bh : Nat) (vw vh vr : Value) (h : Hp) (hB : Rd w0 [] (gl1 bx) 1 1 [ptr (adr bh)]) (hH : HR w0 [] bh vw vh vr h) (x : Wd) : Ret Try.prog 56 #[.agg (wordE.cells x).toArray, ptr (adr bx)] w0 (fun v w' => v = .bool (decide (isInd h x)) ∧ St w0 [] w' []) := by
  have hO := St.init0 w0
  refine ret_of (m := 22) Try.func56 rfl Try.ntmps56 [(0, .agg (wordE.cells x).toArray), (1, ptr (adr bx))] rfl ⟨rfl, rfl, trivial⟩ fun a hF => ?_
  refine wp_seq ?_
  refine wp_region_lit ?_
  refine wl_e hF rfl rfl rfl (e_box hO rfl (hF.eval rfl) rfl) ?_
  rintro a _ w ⟨tk, rfl, hO⟩ hF
  refine wl_v hF rfl rfl rfl (q_assign rfl (hF.eval rfl)) fun a hF => ?_
  refine wl_nil ?_
  refine k_n ?_
  refine wp_seq ?_
  refine wp_region_lit ?_
  refine wl_v hF rfl rfl rfl (q_load Try.isAgg22 rfl (hF.eval rfl) (rdB_cell0 (Rd.now hB hO) rfl)) fun a hF => ?_
  refine wl_v hF rfl rfl rfl (q_fieldAddr0 (d := 1) Try.underlying27 rfl (hF.eval rfl) rfl Try.sizeOf3 (by decide) rfl) fun a hF => ?_
  refine wl_v hF rfl rfl rfl (q_load Try.isAgg3 rfl (hF.eval rfl) (hO.cell 0 rfl rfl)) fun a hF => ?_
  refine wl_e hF rfl rfl rfl (c_call hF rfl rfl Try.call53 (head_r _ _ _ _ _ _ (hH.at0 hO) _)) ?_
  rintro a _ w ⟨rfl, hS⟩ hF
  have hO := hO.call0 hS
  have hO : St _ _ _ [_] := hO
  refine wl_v hF rfl rfl rfl (q_assign rfl (hF.eval rfl)) fun a hF => ?_
  refine wl_nil ?_
  refine k_n ?_
  refine wp_seq ?_
  refine wp_region_lit ?_
  refine wl_v hF rfl rfl rfl (q_fieldAddr0 (d := 0) Try.underlying27 rfl (hF.eval rfl) rfl Try.sizeOf4 (by decide) rfl) fun a hF => ?_
  refine wl_v hF rfl rfl rfl (q_load Try.isAgg4 rfl (hF.eval rfl) (hO.cell 0 rfl rfl)) fun a hF => ?_
  refine wl_v hF rfl rfl rfl (q_move rfl (hF.eval rfl)) fun a hF => ?_
  refine wl_g hF rfl rfl rfl rfl rfl rfl (fun hg => q_move rfl (hF.eval rfl)) fun a hF => ?_
  refine wl_g hF rfl rfl rfl rfl rfl rfl (fun hg => q_pne Try.underlying80 rfl ((hF.eval rfl).trans (gv_of hg)) (hF.eval rfl)) fun a hF => ?_
  refine wl_v hF rfl rfl rfl (q_and rfl (hF.eval rfl) (dec_b _) (fun hg2 => ((hF.eval rfl).trans (gv_of hg2))) rfl) fun a hF => ?_
  refine wl_v hF rfl rfl rfl (q_move rfl (hF.eval rfl)) fun a hF => ?_
  refine wl_g hF rfl rfl rfl rfl rfl rfl (fun hg => q_move rfl (hF.eval rfl)) fun a hF => ?_
  refine wl_g hF rfl rfl rfl rfl rfl rfl (fun hg => q_nilCheck (ad := (sa vh).add (x.n.toNat * headE.size)) rfl (((hF.eval rfl).trans (gv_of hg)).trans (congrArg Value.pointer (hdP_at (of_g hg).2).1))) fun a hF => ?_
  refine wl_g hF rfl rfl rfl rfl rfl rfl (fun hg => q_fieldAddr0 (d := 0) Try.underlying84 rfl ((hF.eval rfl).trans (gv_of hg)) rfl Try.sizeOf3 (by decide) rfl) fun a hF => ?_
  refine wl_g hF rfl rfl rfl rfl rfl rfl (fun hg => q_load Try.isAgg3 rfl ((hF.eval rfl).trans (gv_of hg)) (RdT.cells (hH.hs.now hO) (get_D (d := hd0) (hdP_at (of_g hg).2).2) _ _ rfl)) fun a hF => ?_
  refine wl_g hF rfl rfl rfl rfl rfl rfl (fun hg => q_eq rfl ((hF.eval rfl).trans (gv_of hg)) (hF.eval rfl)) fun a hF => ?_
  refine wl_v hF rfl rfl rfl (q_and rfl (hF.eval rfl) rfl (fun hg2 => ((hF.eval rfl).trans (gv_of hg2))) rfl) fun a hF => ?_
  refine wl_v hF rfl rfl rfl (q_assign rfl (hF.eval rfl)) fun a hF => ?_
  refine wl_nil ?_
  refine k_n ?_
  refine wp_ret ?_
  refine r_1 hF rfl rfl ?_
  have hO := hO.drop1 0
  have hO : St _ _ _ [] := hO
  exact ⟨congrArg Value.bool (decide_eq_decide.2 (and_congr (and_congr Iff.rfl (not_congr hdP_none)) Iff.rfl)), hO⟩

set_option maxHeartbeats 1000000 in
theorem chase_r (w0 : World) (bh : Nat) (vw vh vr : Value) (h : Hp) (hH : HR w0 [] bh vw vh vr h) (hw : Wf h) (x0 : Wd) : Ret Try.prog 14 #[ptr (adr bh), .agg (wordE.cells x0).toArray] w0 (fun v w' => v = .agg (wordE.cells (chaseH h x0)).toArray ∧ St w0 [] w' []) := by
  have hO := St.init0 w0
  have hle := hw.le
  have hlen := hw.len
  refine ret_of (m := 36) Try.func14 rfl Try.ntmps14 [(0, ptr (adr bh)), (1, .agg (wordE.cells x0).toArray)] rfl ⟨rfl, rfl, trivial⟩ fun a hF => ?_
  refine wp_seq ?_
  refine wp_region_lit ?_
  refine wl_e hF rfl rfl rfl (e_box hO rfl (hF.eval rfl) rfl) ?_
  rintro a _ w ⟨hb, rfl, hO⟩ hF
  refine wl_e hF rfl rfl rfl (e_box hO rfl (hF.eval rfl) rfl) ?_
  rintro a _ w ⟨wb, rfl, hO⟩ hF
  refine wl_e hF rfl rfl rfl (e_alloc hO Try.zeroValue27 rfl rfl) ?_
  rintro a _ w ⟨rs, rfl, hO⟩ hF
  refine wl_nil ?_
  refine k_n ?_
  refine wp_seq ?_
  refine wp_seq ?_
  refine wp_region_lit ?_
  refine wl_v hF rfl rfl rfl (q_load Try.isAgg22 rfl (hF.eval rfl) (hO.cell0 2 rfl rfl)) fun a hF => ?_
  refine wl_v hF rfl rfl rfl (q_peq Try.underlying22 rfl (hF.eval rfl) (hF.eval rfl)) fun a hF => ?_
  refine wl_nil ?_
  refine k_n ?_
  refine wp_ifD hF rfl rfl (fun hc1 => ?_) (fun hc1 => ?_)
  · skip
    exact absurd hc1 (by simp)
  · skip
    refine wp_skip ?_
    refine k_n ?_
    refine wp_seq ?_
    refine wp_region_lit ?_
    refine wl_v hF rfl rfl rfl (c_makeFunc hF rfl rfl rfl) fun a hF => ?_
    refine wl_v hF rfl rfl rfl (q_assign rfl (hF.eval rfl)) fun a hF => ?_
    refine wl_nil ?_
    refine k_n ?_
    refine wp_seq ?_
    refine wp_region_lit ?_
    refine wl_v hF rfl rfl rfl (q_assign rfl (hF.eval rfl)) fun a hF => ?_
    have hO := hO.nilSl 3 1
    refine wl_nil ?_
    refine k_n ?_
    refine wp_seq ?_
    refine wp_block ?_
    have hO := hO.pull 3 rfl
    have hO := hO.pull 3 rfl
    have hO := hO.pull 3 rfl
    have hO : St _ _ _ [_, _, _, _] := hO
    refine wp_loopS (fun (q : Wd × List Int × Value) a w' => match q with | (x, met, vm) => (chaseG h (h.heads.length + 1 - met.length) x met = chaseH h x0 ∧ met.Nodup ∧ (∀ y ∈ met, 0 ≤ y ∧ y < h.heads.length)) ∧ St w0 [] w' [.ob rs 27 (wordE.cells ⟨false, 0⟩), .ob wb 27 (wordE.cells x), .ob hb 22 [ptr (adr bh)], slT vm 3 intE met] ∧ Fr a 36 [(2, ptr (adr hb)), (3, ptr (adr wb)), (4, ptr (adr rs)), (5, .func (.func 56) #[] #[ptr (adr hb)]), (6, vm)]) (fun (q : Wd × List Int × Value) => match q with | (x, met, vm) => h.heads.length + 1 - met.length) (x0, [], _) ⟨⟨rfl, List.nodup_nil, fun y hy => (by cases hy)⟩, hO, hF.sub ⟨rfl, rfl, rfl, rfl, rfl, trivial⟩⟩ ?_
    rintro ⟨x, met, vm⟩ a w ⟨⟨hch, hnd, hin⟩, hO, hF⟩
    have hml := nodup_le h.heads.length met hnd hin
    refine wp_seq ?_
    refine wp_seq ?_
    refine wp_region_lit ?_
    refine wl_v hF rfl rfl rfl (q_move rfl (hF.eval rfl)) fun a hF => ?_
    refine wl_v hF rfl rfl rfl (q_loadAgg Try.isAgg27 Try.sizeOf27 rfl (hF.eval rfl) (hO.cells 1 rfl) rfl) fun a hF => ?_
    refine wl_e hF rfl rfl rfl (c_callV hF rfl (hF.eval rfl) rfl rfl Try.call56 (chase1_r _ _ _ _ _ _ _ (hO.rdOb 2 rfl) (hH.at0 hO) _)) ?_
    rintro a _ w ⟨rfl, hS⟩ hF
    have hO := hO.call0 hS
    have hO : St _ _ _ [_, _, _, _] := hO
    refine wl_v hF rfl rfl rfl (q_move rfl (hF.eval rfl)) fun a hF => ?_
    refine wl_g hF rfl rfl rfl rfl rfl rfl (fun hg => q_move rfl (hF.eval rfl)) fun a hF => ?_
    refine wl_g hF rfl rfl rfl rfl rfl rfl (fun hg => q_fieldAddr0 (d := 1) Try.underlying27 rfl (hF.eval rfl) rfl Try.sizeOf3 (by decide) rfl) fun a hF => ?_
    refine wl_g hF rfl rfl rfl rfl rfl rfl (fun hg => q_load Try.isAgg3 rfl ((hF.eval rfl).trans (gv_of hg)) (hO.cell 1 rfl rfl)) fun a hF => ?_
    refine wl_gk hO hF rfl rfl rfl rfl rfl rfl (fun hg => c_callG hF rfl rfl (by first | with_reducible rfl | (simp only [gv_of hg]; done) | (simp only [gv_of hg]; rfl)) Try.call57 (containsI_r _ _ _ _ (hO.rdT 3 rfl))) fun a w hO hF => ?_
    refine wl_g hF rfl rfl rfl rfl rfl rfl (fun hg => q_not rfl ((hF.eval rfl).trans (gv_of hg)) (dec_b _)) fun a hF => ?_
    refine wl_v hF rfl rfl rfl (q_and rfl (hF.eval rfl) rfl (fun hg2 => ((hF.eval rfl).trans (gv_of hg2))) rfl) fun a hF => ?_
    refine wl_nil ?_
    refine k_n ?_
    refine wp_ifD hF rfl rfl (fun hc2 => ?_) (fun hc2 => ?_)
    · skip
      obtain ⟨k, hk, hxn, hkl, hk2⟩ := ind_at hw hc2.1
      refine wp_skip ?_
      refine k_n ?_
      refine wp_block ?_
      refine wp_seq ?_
      refine wp_region_lit ?_
      refine wl_v hF rfl rfl rfl (q_move rfl (hF.eval rfl)) fun a hF => ?_
      refine wl_v hF rfl rfl rfl (q_fieldAddr0 (d := 1) Try.underlying27 rfl (hF.eval rfl) rfl Try.sizeOf3 (by decide) rfl) fun a hF => ?_
      refine wl_v hF rfl rfl rfl (q_load Try.isAgg3 rfl (hF.eval rfl) (hO.cell 1 rfl rfl)) fun a hF => ?_
      refine wl_e hF rfl rfl rfl (c_buildSlice hF hO Try.underlying36 Try.sizeOf3 Try.zeroValue3 rfl rfl rfl rfl rfl rfl rfl) ?_
      rintro a _ w ⟨b1, rfl, hO⟩ hF
      refine wl_e hF rfl rfl rfl (e_appendT (bytes := 8) (r := [x.n]) hO (i := 4) rfl (hO.rd 0 rfl) Try.underlying36 Try_info3 rfl rfl rfl rfl rfl rfl (hF.eval rfl) (hF.eval rfl) (by show (List.length _ + 1) * 8 ≤ _; omega) (by show List.length _ + 1 ≤ _; omega)) ?_
      rintro a v25 w hO hF
      have hO : St _ _ _ [_, _, _, _, _] := hO
      refine wl_v hF rfl rfl rfl (q_assign rfl (hF.eval rfl)) fun a hF => ?_
      refine wl_nil ?_
      refine k_n ?_
      have hO := hO.drew
      refine wp_region_D [1, 0, 0, 1, 0, 1, 0, 0, 1, 3] (fun w => St _ _ w _) Try_mixed (by kernel_rfl) hO ?_
      refine wd_r hF rfl rfl rfl (fun w hO => q_load Try.isAgg22 rfl (hF.eval rfl) (hO.cell0 3 rfl rfl)) fun a hF => ?_
      refine wd_p hF rfl rfl rfl (fun w => q_nilCheck rfl (hF.eval rfl)) fun a hF => ?_
      refine wd_p hF rfl rfl rfl (fun w => q_fieldAddr0 (d := 0) Try.underlying77 rfl (hF.eval rfl) rfl Try.sizeOf37 (by decide) rfl) fun a hF => ?_
      refine wd_r hF rfl rfl rfl (fun w hO => q_load Try.isAgg37 rfl (hF.eval rfl) (rdB_cell (HR.now hH hO).blk rfl)) fun a hF => ?_
      refine wd_p hF rfl rfl rfl (fun w => q_fieldAddr0 (d := 1) Try.underlying27 rfl (hF.eval rfl) rfl Try.sizeOf3 (by decide) rfl) fun a hF => ?_
      refine wd_r hF rfl rfl rfl (fun w hO => q_load Try.isAgg3 rfl (hF.eval rfl) (hO.cell 2 rfl rfl)) fun a hF => ?_
      refine wd_p hF rfl rfl rfl (fun w => q_add rfl (hF.eval rfl) (hF.eval rfl) (by omega)) fun a hF => ?_
      refine wd_p hF rfl rfl rfl (fun w => q_at (i := k + 1) hH.ws Try.underlying37 Try.sizeOf27 rfl (hF.eval rfl) ((hF.eval rfl).trans (congrArg i64 (show x.n + 1 = ((k + 1 : Nat) : Int) by omega))) (by omega)) fun a hF => ?_
      refine wd_r hF rfl rfl rfl (fun w hO => q_loadAgg Try.isAgg27 Try.sizeOf27 rfl (hF.eval rfl) (RdT.cells (hH.ws.now hO) (get_D (d := wd0) (by omega))) rfl) fun a hF => ?_
      refine wd_s hF rfl rfl (e_storeAll hO (i := 2) rfl Try.sizeOf27 rfl (hF.eval rfl) (hF.eval rfl) rfl rfl) ?_
      rintro a _ w ⟨-, hO⟩ hF
      have hO : St _ _ _ [_, _, _, _, _] := hO
      refine wd_nil ?_
      refine b_n ?_
      refine k_n ?_
      have hO := hO.drop1 0
      have hO : St _ _ _ [_, _, _, _] := hO
      exact ⟨(h.words.getD (k + 1) wd0, met ++ [x.n], _), ⟨⟨by rw [← hch, show h.heads.length + 1 - met.length = (h.heads.length + 1 - (met ++ [x.n]).length) + 1 by rw [List.length_append, List.length_singleton]; omega, chase_go hc2, hxn, show ((k : Int) + 1).toNat = k + 1 by omega], List.nodup_append.2 ⟨hnd, List.nodup_cons.2 ⟨by simp, List.nodup_nil⟩, fun a ha b hb e => hc2.2 (List.contains_iff_mem.2 (by rw [List.mem_singleton] at hb; subst hb e; exact ha))⟩, fun y hy => by rcases List.mem_append.1 hy with hy | hy; exact hin y hy; rw [List.mem_singleton.1 hy]; omega⟩, hO, hF.sub ⟨rfl, rfl, rfl, rfl, rfl, trivial⟩⟩, by dsimp only; rw [List.length_append, List.length_singleton]; omega⟩
    · skip
      refine wp_exit ?_
      refine k_x ?_
      refine k_x ?_
      refine b_x ?_
      refine k_n ?_
      refine wp_seq ?_
      refine wp_region_lit ?_
      refine wl_v hF rfl rfl rfl (q_loadAgg Try.isAgg27 Try.sizeOf27 rfl (hF.eval rfl) (hO.cells 1 rfl) rfl) fun a hF => ?_
      refine wl_s hF rfl rfl (e_storeAll hO (i := 0) rfl Try.sizeOf27 rfl (hF.eval rfl) (hF.eval rfl) rfl rfl) ?_
      rintro a _ w ⟨-, hO⟩ hF
      have hO : St _ _ _ [_, _, _, _] := hO
      refine wl_nil ?_
      refine k_n ?_
      refine wp_ret ?_
      refine r_c1 hF rfl rfl Try.isAgg27 Try.sizeOf27 (hO.cells 0 rfl) rfl ?_
      have hO := hO.drop1 0
      have hO := hO.drop1 0
      have hO := hO.drop1 0
      have hO := hO.drop1 0
      have hO : St _ _ _ [] := hO
      have hst := (show h.heads.length + 1 - met.length = (h.heads.length - met.length) + 1 by omega) ▸ hch
      rw [chase_stop hc2] at hst
      exact ⟨by rw [← hst], hO⟩

end Go.Proofs.Ytglienidnffnjaa
namespace Go.Proofs.Ytglienidnffnjaa
open Go
set_option maxRecDepth 100000
set_option linter.unusedVariables false
theorem cloneW0_r (w0 : World) (A : Option Addr) (cap : Nat) (fs : List Wd) (hfl : fs.length ≤ 100000000) (hR : RdT w0 [] (.slice A fs.length cap) wordE fs) : Ret Try.prog 58 #[.slice A fs.length cap] w0 (fun v w' => ∃ v2, v = v2 ∧ St w0 [] w' [slT v2 27 wordE fs]) := by
  have hO := St.init0 w0
  refine ret_of (m := 8) Try.func58 rfl Try.ntmps58 [(0, .slice A fs.length cap)] rfl ⟨rfl, trivial⟩ fun a hF => ?_
  refine wp_seq ?_
  refine wp_region_lit ?_
  refine wl_v hF rfl rfl rfl (q_assign rfl (hF.eval rfl)) fun a hF => ?_
  refine wl_nil ?_
  refine k_n ?_
  refine wp_seq ?_
  refine wp_seq ?_
  refine wp_region_lit ?_
  refine wl_v hF rfl rfl rfl (q_move rfl (hF.eval rfl)) fun a hF => ?_
  refine wl_v hF rfl rfl rfl (q_sleq Try.underlying37 rfl (hF.eval rfl) (hF.eval rfl)) fun a hF => ?_
  refine wl_nil ?_
  refine k_n ?_
  refine wp_ifD hF rfl rfl (fun hc1 => ?_) (fun hc1 => ?_)
  · skip
    refine wp_seq ?_
    refine wp_region_lit ?_
    refine wl_v hF rfl rfl rfl (q_assign rfl (hF.eval rfl)) fun a hF => ?_
    refine wl_nil ?_
    refine k_n ?_
    refine wp_ret ?_
    refine k_r ?_
    refine r_1 hF rfl rfl ?_
    obtain rfl : fs = [] := by
      cases fs with
      | nil => rfl
      | cons x r => obtain ⟨_, A2, c2, he, _, _, h0⟩ := hR; obtain ⟨ad, ha, _⟩ := h0 (by simp); simp only [Value.slice.injEq] at he; rw [hc1, ha] at he; exact absurd he.1 (by simp)
    exact ⟨_, rfl, hO.nilSl 27 2⟩
  · skip
    refine wp_skip ?_
    refine k_n ?_
    refine wp_seq ?_
    refine wp_region_lit ?_
    refine wl_e hF rfl rfl rfl (e_build0 hO Try.underlying37 Try.sizeOf27 rfl) ?_
    rintro a _ w ⟨ow, rfl, hO⟩ hF
    replace hO : St _ _ _ [slT _ 27 wordE []] := hO
    refine wl_v hF rfl rfl rfl (q_move rfl (hF.eval rfl)) fun a hF => ?_
    refine wl_e hF rfl rfl rfl (e_appendT (bytes := 16) (r := fs) hO (i := 0) rfl (hR.now hO) Try.underlying37 Try_info27 rfl rfl rfl rfl rfl rfl (hF.eval rfl) (hF.eval rfl) (by show (0 + fs.length) * 16 ≤ _; omega) (by show 0 + fs.length ≤ _; omega)) ?_
    rintro a v2 w hO hF
    have hO : St _ _ _ [_] := hO
    replace hO : St _ _ _ [slT v2 27 wordE fs] := hO
    refine wl_v hF rfl rfl rfl (q_assign rfl (hF.eval rfl)) fun a hF => ?_
    refine wl_nil ?_
    refine k_n ?_
    refine wp_ret ?_
    refine r_1 hF rfl rfl ?_
    exact ⟨_, rfl, hO⟩


theorem cloneW_r (w0 : World) (vf : Value) (fs : List Wd) (hfl : fs.length ≤ 100000000) (hR : RdT w0 [] vf wordE fs) : Ret Try.prog 58 #[vf] w0 (fun v w' => ∃ v2, v = v2 ∧ St w0 [] w' [slT v2 27 wordE fs]) := by
  obtain ⟨A, cap, rfl, _⟩ := Rd.is hR
  exact cloneW0_r w0 A cap fs hfl hR
set_option maxHeartbeats 1000000 in
theorem object_r (w0 : World) (bh : Nat) (vw vh vr : Value) (h : Hp) (hH : HR w0 [] bh vw vh vr h) (hw : Wf h) (at_ : Int) : Ret Try.prog 18 #[ptr (adr bh), i64 at_] w0 (fun v w' => ∃ vf r, objH h at_ = r ∧ v = .tuple #[.agg #[i64 r.1.kind, i64 r.1.info, vf], i64 r.2] ∧ St w0 [] w' [slT vf 27 wordE r.1.fields]) := by
  have hO := St.init0 w0
  have hle := hw.le
  have hlen := hw.len
  refine ret_of (m := 40) Try.func18 rfl Try.ntmps18 [(0, ptr (adr bh)), (1, i64 at_)] rfl ⟨rfl, rfl, trivial⟩ fun a hF => ?_
  refine wp_seq ?_
  refine wp_region_lit ?_
  refine wl_e hF rfl rfl rfl (e_alloc hO Try.zeroValue42 rfl rfl) ?_
  rintro a _ w ⟨ob, rfl, hO⟩ hF
  refine wl_v hF rfl rfl rfl (q_assign rfl (hF.eval rfl)) fun a hF => ?_
  refine wl_nil ?_
  refine k_n ?_
  refine wp_seq ?_
  refine wp_seq ?_
  refine wp_region_lit ?_
  refine wl_v hF rfl rfl rfl (q_move rfl (hF.eval rfl)) fun a hF => ?_
  refine wl_v hF rfl rfl rfl (q_peq Try.underlying22 rfl (hF.eval rfl) (hF.eval rfl)) fun a hF => ?_
  refine wl_nil ?_
  refine k_n ?_
  refine wp_ifD hF rfl rfl (fun hc1 => ?_) (fun hc1 => ?_)
  · skip
    exact absurd hc1 (by simp)
  · skip
    refine wp_skip ?_
    refine k_n ?_
    refine wp_seq ?_
    refine wp_region_lit ?_
    refine wl_v hF rfl rfl rfl (q_move rfl (hF.eval rfl)) fun a hF => ?_
    refine wl_v hF rfl rfl rfl (q_move rfl (hF.eval rfl)) fun a hF => ?_
    refine wl_e hF rfl rfl rfl (c_call hF rfl rfl Try.call53 (head_r _ _ _ _ _ _ (hH.at0 hO) _)) ?_
    rintro a _ w ⟨rfl, hS⟩ hF
    have hO := hO.call0 hS
    have hO : St _ _ _ [_] := hO
    refine wl_v hF rfl rfl rfl (q_assign rfl (hF.eval rfl)) fun a hF => ?_
    refine wl_nil ?_
    refine k_n ?_
    refine wp_seq ?_
    refine wp_seq ?_
    refine wp_region_lit ?_
    refine wl_v hF rfl rfl rfl (q_move rfl (hF.eval rfl)) fun a hF => ?_
    refine wl_v hF rfl rfl rfl (q_peq Try.underlying80 rfl (hF.eval rfl) (hF.eval rfl)) fun a hF => ?_
    refine wl_nil ?_
    refine k_n ?_
    refine wp_ifD hF rfl rfl (fun hc2 => ?_) (fun hc2 => ?_)
    · skip
      refine wp_seq ?_
      refine wp_region_lit ?_
      refine wl_v hF rfl rfl rfl (c_build hF Try.underlying42 Try.zeroValue42 Try_places42 rfl rfl rfl rfl) fun a hF => ?_
      refine wl_s hF rfl rfl (e_storeAll hO (i := 0) rfl Try.sizeOf42 rfl (hF.eval rfl) (hF.eval rfl) rfl rfl) ?_
      rintro a _ w ⟨-, hO⟩ hF
      have hO : St _ _ _ [_] := hO
      refine wl_v hF rfl rfl rfl (q_assign rfl (hF.eval rfl)) fun a hF => ?_
      refine wl_nil ?_
      refine k_n ?_
      refine wp_ret ?_
      refine k_r ?_
      refine r_ct hF rfl rfl rfl Try.isAgg42 Try.sizeOf42 (hO.cells 0 rfl) rfl ?_
      have hO := hO.drop1 0
      exact ⟨_, _, obj_1 hc2, rfl, hO.nilSl 27 2⟩
    · skip
      obtain ⟨k, hk, rfl, hkl, hkk⟩ := head_ne (fun e => hc2 (hdP_none.2 e))
      rw [hk] at hF
      have hob := hw.obj k hkk
      have hdk : hdAt h k = h.heads.getD k hd0 := rfl
      rw [hdk] at hob
      refine wp_skip ?_
      refine k_n ?_
      refine wp_seq ?_
      have hO := hO.drew
      refine wp_region_D [0, 0, 0, 1, 0, 0, 0, 1, 0, 0, 0, 1, 0, 0, 0, 0, 0, 0, 0, 1, 0, 0, 2, 0, 3, 0] (fun w => St _ _ w _) Try_mixed (by kernel_rfl) hO ?_
      refine wd_p hF rfl rfl rfl (fun w => q_move rfl (hF.eval rfl)) fun a hF => ?_
      refine wd_p hF rfl rfl rfl (fun w => q_nilCheck rfl (hF.eval rfl)) fun a hF => ?_
      refine wd_p hF rfl rfl rfl (fun w => q_fieldAddr0 (d := 0) Try.underlying84 rfl (hF.eval rfl) rfl Try.sizeOf3 (by decide) rfl) fun a hF => ?_
      refine wd_r hF rfl rfl rfl (fun w hO => q_load Try.isAgg3 rfl (hF.eval rfl) (RdT.cells (hH.hs.now hO) (get_D (d := hd0) hkl) _ _ rfl)) fun a hF => ?_
      refine wd_p hF rfl rfl rfl (fun w => q_move rfl (hF.eval rfl)) fun a hF => ?_
      refine wd_p hF rfl rfl rfl (fun w => q_nilCheck rfl (hF.eval rfl)) fun a hF => ?_
      refine wd_p hF rfl rfl rfl (fun w => q_fieldAddr0 (d := 1) Try.underlying84 rfl (hF.eval rfl) rfl Try.sizeOf3 (by decide) rfl) fun a hF => ?_
      refine wd_r hF rfl rfl rfl (fun w hO => q_load Try.isAgg3 rfl (hF.eval rfl) (RdT.cells (hH.hs.now hO) (get_D (d := hd0) hkl) _ _ rfl)) fun a hF => ?_
      refine wd_p hF rfl rfl rfl (fun w => q_move rfl (hF.eval rfl)) fun a hF => ?_
      refine wd_p hF rfl rfl rfl (fun w => q_nilCheck rfl (hF.eval rfl)) fun a hF => ?_
      refine wd_p hF rfl rfl rfl (fun w => q_fieldAddr0 (d := 0) Try.underlying77 rfl (hF.eval rfl) rfl Try.sizeOf37 (by decide) rfl) fun a hF => ?_
      refine wd_r hF rfl rfl rfl (fun w hO => q_load Try.isAgg37 rfl (hF.eval rfl) (rdB_cell (HR.now hH hO).blk rfl)) fun a hF => ?_
      refine wd_p hF rfl rfl rfl (fun w => q_move rfl (hF.eval rfl)) fun a hF => ?_
      refine wd_p hF rfl rfl rfl (fun w => q_add rfl (hF.eval rfl) (hF.eval rfl) (by omega)) fun a hF => ?_
      refine wd_p hF rfl rfl rfl (fun w => q_move rfl (hF.eval rfl)) fun a hF => ?_
      refine wd_p hF rfl rfl rfl (fun w => q_add rfl (hF.eval rfl) (hF.eval rfl) (by omega)) fun a hF => ?_
      refine wd_p hF rfl rfl rfl (fun w => q_move rfl (hF.eval rfl)) fun a hF => ?_
      refine wd_p hF rfl rfl rfl (fun w => q_nilCheck rfl (hF.eval rfl)) fun a hF => ?_
      refine wd_p hF rfl rfl rfl (fun w => q_fieldAddr0 (d := 2) Try.underlying84 rfl (hF.eval rfl) rfl Try.sizeOf3 (by decide) rfl) fun a hF => ?_
      refine wd_r hF rfl rfl rfl (fun w hO => q_load Try.isAgg3 rfl (hF.eval rfl) (RdT.cells (hH.hs.now hO) (get_D (d := hd0) hkl) _ _ rfl)) fun a hF => ?_
      refine wd_p hF rfl rfl rfl (fun w => q_add rfl (hF.eval rfl) (hF.eval rfl) (by omega)) fun a hF => ?_
      refine wd_p hF rfl rfl rfl (fun w => q_cut2 (i := k + 1) (j := (k + 1 + (h.heads.getD k hd0).fields.toNat)) hH.ws Try.underlying37 Try.sizeOf27 rfl (hF.eval rfl) ((hF.eval rfl).trans (congrArg i64 (show (k : Int) + 1 = ((k + 1 : Nat) : Int) by omega))) ((hF.eval rfl).trans (congrArg i64 (show (k : Int) + 1 + (h.heads.getD k hd0).fields = ((k + 1 + (h.heads.getD k hd0).fields.toNat : Nat) : Int) by omega))) (by omega) (by omega)) fun a hF => ?_
      refine wd_e hF rfl rfl rfl (c_call hF rfl rfl Try.call58 (cloneW_r _ _ _ (by rw [List.length_take]; omega) ((hH.ws.at0 hO).cut2 (i := k + 1) (j := k + 1 + (h.heads.getD k hd0).fields.toNat) (by omega) (by omega)))) ((fun _ _ ⟨_, _, hS⟩ => (hO.call0 hS).tail)) ?_
      rintro a _ w ⟨vc, rfl, hS⟩ hF
      have hO := hO.call0 hS
      have hO : St _ _ _ [_, _] := hO
      rw [show k + 1 + (h.heads.getD k hd0).fields.toNat - (k + 1) = (h.heads.getD k hd0).fields.toNat by omega] at hO
      obtain ⟨Ac, cc, rfl, _⟩ := Rd.is (hO.rd 0 rfl)
      refine wd_p hF rfl rfl rfl (fun w => c_build hF Try.underlying42 Try.zeroValue42 Try_places42 rfl rfl rfl rfl) fun a hF => ?_
      refine wd_s hF rfl rfl (e_storeAll hO (i := 1) rfl Try.sizeOf42 rfl (hF.eval rfl) (hF.eval rfl) rfl rfl) ?_
      rintro a _ w ⟨-, hO⟩ hF
      have hO : St _ _ _ [_, _] := hO
      refine wd_p hF rfl rfl rfl (fun w => q_assign rfl (hF.eval rfl)) fun a hF => ?_
      refine wd_nil ?_
      refine k_n ?_
      refine wp_ret ?_
      refine r_ct hF rfl rfl rfl Try.isAgg42 Try.sizeOf42 (hO.cells 1 rfl) rfl ?_
      have hO := hO.drop1 1
      exact ⟨_, _, obj_2 hk, rfl, hO⟩

end Go.Proofs.Ytglienidnffnjaa
namespace Go.Proofs.Ytglienidnffnjaa
open Go
set_option maxRecDepth 100000
set_option linter.unusedVariables false
set_option maxHeartbeats 2000000 in
theorem set_r (w0 : World) (bh : Nat) (vw vh vr : Value) (h : Hp) (hA : Owns w0 [.ob bh 77 (hpC vw vh vr h), slT vw 27 wordE h.words, slT vh 84 headE h.heads, slT vr 3 intE h.rem]) (hw : Wf h) (hrl : h.rem.length ≤ 100000000000) (at_ field : Int) (x : Wd) : Ret Try.prog 17 #[ptr (adr bh), i64 at_, i64 field, .agg (wordE.cells x).toArray] w0 (fun v w' => ∃ vr2 r h2, setH h at_ field x = (r, h2) ∧ v = i64 r ∧ St w0 (blks [.ob bh 77 (hpC vw vh vr h), slT vw 27 wordE h.words, slT vh 84 headE h.heads, slT vr 3 intE h.rem]) w' [.ob bh 77 (hpC vw vh vr2 h2), slT vw 27 wordE h2.words, slT vh 84 headE h2.heads, slT vr2 3 intE h2.rem]) := by
  have hO := St.init hA
  have hle := hw.le
  have hlen := hw.len
  refine ret_of (m := 50) Try.func17 rfl Try.ntmps17 [(0, ptr (adr bh)), (1, i64 at_), (2, i64 field), (3, .agg (wordE.cells x).toArray)] rfl ⟨rfl, rfl, rfl, rfl, trivial⟩ fun a hF => ?_
  refine wp_seq ?_
  refine wp_region_lit ?_
  refine wl_e hF rfl rfl rfl (e_box hO rfl (hF.eval rfl) rfl) ?_
  rintro a _ w ⟨tk, rfl, hO⟩ hF
  refine wl_v hF rfl rfl rfl (q_assign rfl (hF.eval rfl)) fun a hF => ?_
  refine wl_nil ?_
  refine k_n ?_
  refine wp_seq ?_
  refine wp_seq ?_
  refine wp_region_lit ?_
  refine wl_v hF rfl rfl rfl (q_move rfl (hF.eval rfl)) fun a hF => ?_
  refine wl_v hF rfl rfl rfl (q_peq Try.underlying22 rfl (hF.eval rfl) (hF.eval rfl)) fun a hF => ?_
  refine wl_nil ?_
  refine k_n ?_
  refine wp_ifD hF rfl rfl (fun hc1 => ?_) (fun hc1 => ?_)
  · skip
    exact absurd hc1 (by simp)
  · skip
    refine wp_skip ?_
    refine k_n ?_
    refine wp_seq ?_
    refine wp_region_lit ?_
    refine wl_v hF rfl rfl rfl (q_move rfl (hF.eval rfl)) fun a hF => ?_
    refine wl_v hF rfl rfl rfl (q_move rfl (hF.eval rfl)) fun a hF => ?_
    refine wl_e hF rfl rfl rfl (c_call hF rfl rfl Try.call53 (head_r _ _ _ _ _ _ (hO.hr 1 2 3 4 rfl rfl rfl rfl) _)) ?_
    rintro a _ w ⟨rfl, hS⟩ hF
    have hO := hO.call0 hS
    have hO : St _ _ _ [_, _, _, _, _] := hO
    refine wl_v hF rfl rfl rfl (q_assign rfl (hF.eval rfl)) fun a hF => ?_
    refine wl_nil ?_
    refine k_n ?_
    refine wp_seq ?_
    refine wp_seq ?_
    refine wp_region_lit ?_
    refine wl_v hF rfl rfl rfl (q_move rfl (hF.eval rfl)) fun a hF => ?_
    refine wl_v hF rfl rfl rfl (q_peq Try.underlying80 rfl (hF.eval rfl) (hF.eval rfl)) fun a hF => ?_
    refine wl_v hF rfl rfl rfl (q_move rfl (hF.eval rfl)) fun a hF => ?_
    refine wl_g hF rfl rfl rfl rfl rfl rfl (fun hg => q_move rfl (hF.eval rfl)) fun a hF => ?_
    refine wl_g hF rfl rfl rfl rfl rfl rfl (fun hg => q_lt rfl ((hF.eval rfl).trans (gv_of hg)) (hF.eval rfl)) fun a hF => ?_
    refine wl_v hF rfl rfl rfl (q_or rfl (hF.eval rfl) rfl (fun hg2 => ((hF.eval rfl).trans (gv_of hg2))) rfl) fun a hF => ?_
    refine wl_v hF rfl rfl rfl (q_move rfl (hF.eval rfl)) fun a hF => ?_
    refine wl_g hF rfl rfl rfl rfl rfl rfl (fun hg => q_move rfl (hF.eval rfl)) fun a hF => ?_
    refine wl_g hF rfl rfl rfl rfl rfl rfl (fun hg => q_move rfl (hF.eval rfl)) fun a hF => ?_
    refine wl_g hF rfl rfl rfl rfl rfl rfl (fun hg => q_nilCheck (ad := (sa vh).add (at_.toNat * headE.size)) rfl (((hF.eval rfl).trans (gv_of hg)).trans (congrArg Value.pointer (hdP_at (fun e => of_gn hg (.inl e))).1))) fun a hF => ?_
    refine wl_g hF rfl rfl rfl rfl rfl rfl (fun hg => q_fieldAddr0 (d := 2) Try.underlying84 rfl ((hF.eval rfl).trans (gv_of hg)) rfl Try.sizeOf3 (by decide) rfl) fun a hF => ?_
    refine wl_g hF rfl rfl rfl rfl rfl rfl (fun hg => q_load Try.isAgg3 rfl ((hF.eval rfl).trans (gv_of hg)) (RdT.cells (hO.rdT 3 rfl) (get_D (d := hd0) (hdP_at (fun e => of_gn hg (.inl e))).2) _ _ rfl)) fun a hF => ?_
    refine wl_g hF rfl rfl rfl rfl rfl rfl (fun hg => q_ge rfl ((hF.eval rfl).trans (gv_of hg)) ((hF.eval rfl).trans (gv_of hg))) fun a hF => ?_
    refine wl_v hF rfl rfl rfl (q_or rfl (hF.eval rfl) rfl (fun hg2 => ((hF.eval rfl).trans (gv_of hg2))) rfl) fun a hF => ?_
    refine wl_v hF rfl rfl rfl (q_move rfl (hF.eval rfl)) fun a hF => ?_
    refine wl_g hF rfl rfl rfl rfl rfl rfl (fun hg => q_move rfl (hF.eval rfl)) fun a hF => ?_
    refine wl_g hF rfl rfl rfl rfl rfl rfl (fun hg => q_loadAgg Try.isAgg27 Try.sizeOf27 rfl (hF.eval rfl) (hO.cells 0 rfl) rfl) fun a hF => ?_
    refine wl_gS (fun (_ : Unit) u w' => St w0 (blks [.ob bh 77 (hpC vw vh vr h), slT vw 27 wordE h.words, slT vh 84 headE h.heads, slT vr 3 intE h.rem]) w' [.ob tk 27 (wordE.cells x), .ob bh 77 (hpC vw vh vr h), slT vw 27 wordE h.words, slT vh 84 headE h.heads, slT vr 3 intE h.rem] ∧ (¬ ((hdP vh (headAt h.heads at_) = none ∨ field < 0) ∨ (h.heads.getD at_.toNat hd0).fields ≤ field) → RdT w' [] u wordE [x])) hF rfl rfl rfl rfl rfl rfl (fun hg => Eff.mono (c_buildSlice hF hO Try.underlying37 Try.sizeOf27 Try.zeroValue27 rfl (congrArg (fun q => some [(0, q)]) (gv_of (v := .agg (wordE.cells x).toArray) hg)) rfl rfl rfl rfl rfl) ?_) (fun hg => ?_) ?_
    · skip
      rintro u w' ⟨b, rfl, hS⟩
      exact ⟨(), hS.tail, fun _ => hS.rdT 0 rfl⟩
    · skip
      exact ⟨(), undef, hO, fun h => absurd (of_gFn hg) h⟩
    rintro _ u a w ⟨hO, hws⟩ hF
    refine wl_gk hO hF rfl rfl rfl rfl rfl rfl (fun hg => c_callG hF rfl rfl (by first | with_reducible rfl | (simp only [gv_of hg]; done) | (simp only [gv_of hg]; rfl)) Try.call54 (hreal_r _ _ _ _ _ _ (hO.hr 1 2 3 4 rfl rfl rfl rfl) _ _ (hws (of_gn hg)))) fun a w hO hF => ?_
    refine wl_g hF rfl rfl rfl rfl rfl rfl (fun hg => q_not rfl ((hF.eval rfl).trans (gv_of hg)) (dec_b _)) fun a hF => ?_
    refine wl_v hF rfl rfl rfl (q_or rfl (hF.eval rfl) rfl (fun hg2 => ((hF.eval rfl).trans (gv_of hg2))) rfl) fun a hF => ?_
    refine wl_nil ?_
    refine k_n ?_
    refine wp_ifD hF rfl rfl (fun hc2 => ?_) (fun hc2 => ?_)
    · skip
      refine wp_seq ?_
      refine wp_region_lit ?_
      refine wl_v hF rfl rfl rfl (q_assign rfl (hF.eval rfl)) fun a hF => ?_
      refine wl_nil ?_
      refine k_n ?_
      refine wp_ret ?_
      refine k_r ?_
      refine r_1 hF rfl rfl ?_
      have hO := hO.drop1 0
      have hO : St _ _ _ [_, _, _, _] := hO
      exact ⟨_, _, _, set_1 hc2, rfl, hO⟩
    · skip
      obtain ⟨k, hk, rfl, hkl, hf0, hf1, hkk, hset⟩ := set_2 hc2
      have hob := hw.obj k hkk
      refine wp_skip ?_
      refine k_n ?_
      refine wp_seq ?_
      have hO := hO.drew
      refine wp_region_D [0, 0, 0, 1, 0, 0, 0, 0, 1, 0, 3] (fun w => St _ _ w _) Try_mixed (by kernel_rfl) hO ?_
      refine wd_p hF rfl rfl rfl (fun w => q_move rfl (hF.eval rfl)) fun a hF => ?_
      refine wd_p hF rfl rfl rfl (fun w => q_nilCheck rfl (hF.eval rfl)) fun a hF => ?_
      refine wd_p hF rfl rfl rfl (fun w => q_fieldAddr0 (d := 0) Try.underlying77 rfl (hF.eval rfl) rfl Try.sizeOf37 (by decide) rfl) fun a hF => ?_
      refine wd_r hF rfl rfl rfl (fun w hO => q_load Try.isAgg37 rfl (hF.eval rfl) (hO.cell 1 rfl rfl)) fun a hF => ?_
      refine wd_p hF rfl rfl rfl (fun w => q_move rfl (hF.eval rfl)) fun a hF => ?_
      refine wd_p hF rfl rfl rfl (fun w => q_add rfl (hF.eval rfl) (hF.eval rfl) (by omega)) fun a hF => ?_
      refine wd_p hF rfl rfl rfl (fun w => q_move rfl (hF.eval rfl)) fun a hF => ?_
      refine wd_p hF rfl rfl rfl (fun w => q_add rfl (hF.eval rfl) (hF.eval rfl) (by omega)) fun a hF => ?_
      refine wd_r hF rfl rfl rfl (fun w hO => q_loadAgg Try.isAgg27 Try.sizeOf27 rfl (hF.eval rfl) (hO.cells 0 rfl) rfl) fun a hF => ?_
      refine wd_p hF rfl rfl rfl (fun w => q_at (i := ((k : Int) + 1 + field).toNat) (hO.rd 2 rfl) Try.underlying37 Try.sizeOf27 rfl (hF.eval rfl) ((hF.eval rfl).trans (congrArg i64 ((Int.toNat_of_nonneg (by omega)).symm))) (by omega)) fun a hF => ?_
      refine wd_s hF rfl rfl (e_storeElT (m := ((k : Int) + 1 + field).toNat) (off := 0) (q := x) hO (i := 2) rfl Try.sizeOf27 rfl (hF.eval rfl) rfl (hF.eval rfl) rfl (get_D (d := wd0) (by omega)) rfl (Nat.le_of_ble_eq_true rfl) rfl (all1 rfl)) ?_
      rintro a _ w ⟨-, hO⟩ hF
      have hO : St _ _ _ [_, _, _, _, _] := hO
      replace hO : St _ _ _ [_, .ob bh 77 (hpC vw vh vr (Hp.mk (h.words.set ((k : Int) + 1 + field).toNat x) h.heads h.y h.a h.b h.use h.rem)), slT vw 27 wordE (Hp.mk (h.words.set ((k : Int) + 1 + field).toNat x) h.heads h.y h.a h.b h.use h.rem).words, slT vh 84 headE (Hp.mk (h.words.set ((k : Int) + 1 + field).toNat x) h.heads h.y h.a h.b h.use h.rem).heads, slT vr 3 intE (Hp.mk (h.words.set ((k : Int) + 1 + field).toNat x) h.heads h.y h.a h.b h.use h.rem).rem] := hO
      refine wd_nil ?_
      refine k_n ?_
      refine wp_seq ?_
      refine wp_region_lit ?_
      refine wl_v hF rfl rfl rfl (q_move rfl (hF.eval rfl)) fun a hF => ?_
      refine wl_v hF rfl rfl rfl (q_move rfl (hF.eval rfl)) fun a hF => ?_
      refine wl_v hF rfl rfl rfl (q_loadAgg Try.isAgg27 Try.sizeOf27 rfl (hF.eval rfl) (hO.cells 0 rfl) rfl) fun a hF => ?_
      have hO := hO.pull 4 rfl
      have hO := hO.pull 4 rfl
      have hO := hO.pull 4 rfl
      have hO := hO.pull 4 rfl
      have hO : St _ _ _ [_, _, _, _, _] := hO
      refine wl_e hF rfl rfl rfl (c_call hF rfl rfl Try.call55 (note_r _ _ _ _ _ _ hO.own4 (hw.words _ (List.length_set ..)) (by show h.rem.length ≤ _; omega) _ ⟨by omega, by show (k : Int) < h.heads.length; omega⟩ _)) ?_
      rintro a _ w ⟨vr2, rfl, hS⟩ hF
      have hO := hO.call4 hS
      have hO : St _ _ _ [_, _, _, _, _] := hO
      refine wl_nil ?_
      refine k_n ?_
      refine wp_seq ?_
      refine wp_region_lit ?_
      refine wl_v hF rfl rfl rfl (q_assign rfl (hF.eval rfl)) fun a hF => ?_
      refine wl_nil ?_
      refine k_n ?_
      refine wp_ret ?_
      refine r_1 hF rfl rfl ?_
      have hO := hO.drop1 4
      have hO : St _ _ _ [_, _, _, _] := hO
      exact ⟨_, _, _, hset, rfl, hO⟩

set_option maxHeartbeats 1000000 in
theorem hole_r (w0 : World) (bh : Nat) (vw vh vr : Value) (h : Hp) (hA : Owns w0 [.ob bh 77 (hpC vw vh vr h), slT vw 27 wordE h.words, slT vh 84 headE h.heads, slT vr 3 intE h.rem]) (hw : Wf h) (hrl : h.rem.length ≤ 100000000000) (at_ : Int) : Ret Try.prog 23 #[ptr (adr bh), i64 at_] w0 (fun v w' => ∃ vr2 r h2, holeH h at_ = (r, h2) ∧ v = i64 r ∧ St w0 (blks [.ob bh 77 (hpC vw vh vr h), slT vw 27 wordE h.words, slT vh 84 headE h.heads, slT vr 3 intE h.rem]) w' [.ob bh 77 (hpC vw vh vr2 h2), slT vw 27 wordE h2.words, slT vh 84 headE h2.heads, slT vr2 3 intE h2.rem]) := by
  have hO := St.init hA
  have hle := hw.le
  have hlen := hw.len
  refine ret_of (m := 23) Try.func23 rfl Try.ntmps23 [(0, ptr (adr bh)), (1, i64 at_)] rfl ⟨rfl, rfl, trivial⟩ fun a hF => ?_
  refine wp_seq ?_
  refine wp_region_lit ?_
  refine wl_v hF rfl rfl rfl (q_assign rfl (hF.eval rfl)) fun a hF => ?_
  refine wl_nil ?_
  refine k_n ?_
  refine wp_seq ?_
  refine wp_seq ?_
  refine wp_region_lit ?_
  refine wl_v hF rfl rfl rfl (q_move rfl (hF.eval rfl)) fun a hF => ?_
  refine wl_v hF rfl rfl rfl (q_peq Try.underlying22 rfl (hF.eval rfl) (hF.eval rfl)) fun a hF => ?_
  refine wl_nil ?_
  refine k_n ?_
  refine wp_ifD hF rfl rfl (fun hc1 => ?_) (fun hc1 => ?_)
  · skip
    exact absurd hc1 (by simp)
  · skip
    refine wp_skip ?_
    refine k_n ?_
    refine wp_seq ?_
    refine wp_seq ?_
    refine wp_region_lit ?_
    refine wl_v hF rfl rfl rfl (q_move rfl (hF.eval rfl)) fun a hF => ?_
    refine wl_v hF rfl rfl rfl (q_move rfl (hF.eval rfl)) fun a hF => ?_
    refine wl_e hF rfl rfl rfl (c_call hF rfl rfl Try.call53 (head_r _ _ _ _ _ _ (hO.hr 0 1 2 3 rfl rfl rfl rfl) _)) ?_
    rintro a _ w ⟨rfl, hS⟩ hF
    have hO := hO.call0 hS
    have hO : St _ _ _ [_, _, _, _] := hO
    refine wl_v hF rfl rfl rfl (q_assign rfl (hF.eval rfl)) fun a hF => ?_
    refine wl_nil ?_
    refine k_n ?_
    refine wp_block ?_
    refine wp_seq ?_
    refine wp_region_lit ?_
    refine wl_v hF rfl rfl rfl (q_move rfl (hF.eval rfl)) fun a hF => ?_
    refine wl_v hF rfl rfl rfl (q_peq Try.underlying80 rfl (hF.eval rfl) (hF.eval rfl)) fun a hF => ?_
    refine wl_v hF rfl rfl rfl (q_assign rfl (hF.eval rfl)) fun a hF => ?_
    refine wl_nil ?_
    refine k_n ?_
    refine wp_ifD hF rfl rfl (fun hc2 => ?_) (fun hc2 => ?_)
    · skip
      refine wp_seq ?_
      refine wp_region_lit ?_
      refine wl_v hF rfl rfl rfl (q_assign rfl (hF.eval rfl)) fun a hF => ?_
      refine wl_nil ?_
      refine k_n ?_
      refine wp_ret ?_
      refine b_r ?_
      refine k_r ?_
      refine r_1 hF rfl rfl ?_
      have hO : St _ _ _ [_, _, _, _] := hO
      exact ⟨_, _, _, hole_1 hc2, rfl, hO⟩
    · skip
      obtain ⟨k, hk, rfl, hkl, hkk⟩ := head_ne (fun e => hc2 (hdP_none.2 e))
      rw [hk] at hF
      have hob := hw.obj k hkk
      have hdk : hdAt h k = h.heads.getD k hd0 := rfl
      rw [hdk] at hob
      refine wp_seq ?_
      refine wp_region_lit ?_
      refine wl_v hF rfl rfl rfl (q_move rfl (hF.eval rfl)) fun a hF => ?_
      refine wl_v hF rfl rfl rfl (q_nilCheck rfl (hF.eval rfl)) fun a hF => ?_
      refine wl_v hF rfl rfl rfl (q_fieldAddr0 (d := 0) Try.underlying84 rfl (hF.eval rfl) rfl Try.sizeOf3 (by decide) rfl) fun a hF => ?_
      refine wl_v hF rfl rfl rfl (q_load Try.isAgg3 rfl (hF.eval rfl) (RdT.cells (hO.rdT 2 rfl) (get_D (d := hd0) hkl) _ _ rfl)) fun a hF => ?_
      refine wl_v hF rfl rfl rfl (q_ne rfl (hF.eval rfl) (hF.eval rfl)) fun a hF => ?_
      refine wl_v hF rfl rfl rfl (q_assign rfl (hF.eval rfl)) fun a hF => ?_
      refine wl_nil ?_
      refine k_n ?_
      refine wp_ifD hF rfl rfl (fun hc3 => ?_) (fun hc3 => ?_)
      · skip
        refine wp_seq ?_
        refine wp_region_lit ?_
        refine wl_v hF rfl rfl rfl (q_assign rfl (hF.eval rfl)) fun a hF => ?_
        refine wl_nil ?_
        refine k_n ?_
        refine wp_ret ?_
        refine b_r ?_
        refine k_r ?_
        refine r_1 hF rfl rfl ?_
        have hO : St _ _ _ [_, _, _, _] := hO
        exact ⟨_, _, _, hole_2 hk hc3, rfl, hO⟩
      · skip
        refine wp_region_lit ?_
        refine wl_v hF rfl rfl rfl (q_move rfl (hF.eval rfl)) fun a hF => ?_
        refine wl_v hF rfl rfl rfl (q_nilCheck rfl (hF.eval rfl)) fun a hF => ?_
        refine wl_v hF rfl rfl rfl (q_fieldAddr0 (d := 0) Try.underlying84 rfl (hF.eval rfl) rfl Try.sizeOf3 (by decide) rfl) fun a hF => ?_
        refine wl_s hF rfl rfl (e_storeElT (m := k) (off := 0) (q := ⟨6, (h.heads.getD k hd0).info, (h.heads.getD k hd0).fields, (h.heads.getD k hd0).takes, (h.heads.getD k hd0).knows⟩) hO (i := 2) rfl Try.sizeOf3 rfl ((hF.eval rfl).trans (congrArg ptr (add_add' _ _ _))) rfl (hF.eval rfl) rfl (get_D (d := hd0) hkl) rfl (Nat.le_of_ble_eq_true rfl) rfl (all1 rfl)) ?_
        rintro a _ w ⟨-, hO⟩ hF
        have hO : St _ _ _ [_, _, _, _] := hO
        refine wl_nil ?_
        refine b_n ?_
        refine k_n ?_
        refine wp_seq ?_
        refine wp_region_lit ?_
        refine wl_v hF rfl rfl rfl (q_assign rfl (hF.eval rfl)) fun a hF => ?_
        refine wl_nil ?_
        refine k_n ?_
        refine wp_ret ?_
        refine r_1 hF rfl rfl ?_
        have hO : St _ _ _ [_, _, _, _] := hO
        exact ⟨_, _, _, hole_3 hk hc3, rfl, hO⟩

set_option maxHeartbeats 2000000 in
theorem link_r (w0 : World) (bh : Nat) (vw vh vr : Value) (h : Hp) (hA : Owns w0 [.ob bh 77 (hpC vw vh vr h), slT vw 27 wordE h.words, slT vh 84 headE h.heads, slT vr 3 intE h.rem]) (hw : Wf h) (hrl : h.rem.length ≤ 100000000000) (at_ : Int) (x : Wd) : Ret Try.prog 13 #[ptr (adr bh), i64 at_, .agg (wordE.cells x).toArray] w0 (fun v w' => ∃ vr2 r h2, linkH h at_ x = (r, h2) ∧ v = i64 r ∧ St w0 (blks [.ob bh 77 (hpC vw vh vr h), slT vw 27 wordE h.words, slT vh 84 headE h.heads, slT vr 3 intE h.rem]) w' [.ob bh 77 (hpC vw vh vr2 h2), slT vw 27 wordE h2.words, slT vh 84 headE h2.heads, slT vr2 3 intE h2.rem]) := by
  have hO := St.init hA
  have hle := hw.le
  have hlen := hw.len
  refine ret_of (m := 57) Try.func13 rfl Try.ntmps13 [(0, ptr (adr bh)), (1, i64 at_), (2, .agg (wordE.cells x).toArray)] rfl ⟨rfl, rfl, rfl, trivial⟩ fun a hF => ?_
  refine wp_seq ?_
  refine wp_region_lit ?_
  refine wl_e hF rfl rfl rfl (e_box hO rfl (hF.eval rfl) rfl) ?_
  rintro a _ w ⟨tk, rfl, hO⟩ hF
  refine wl_v hF rfl rfl rfl (q_assign rfl (hF.eval rfl)) fun a hF => ?_
  refine wl_nil ?_
  refine k_n ?_
  refine wp_seq ?_
  refine wp_seq ?_
  refine wp_region_lit ?_
  refine wl_v hF rfl rfl rfl (q_move rfl (hF.eval rfl)) fun a hF => ?_
  refine wl_v hF rfl rfl rfl (q_peq Try.underlying22 rfl (hF.eval rfl) (hF.eval rfl)) fun a hF => ?_
  refine wl_nil ?_
  refine k_n ?_
  refine wp_ifD hF rfl rfl (fun hc1 => ?_) (fun hc1 => ?_)
  · skip
    exact absurd hc1 (by simp)
  · skip
    refine wp_skip ?_
    refine k_n ?_
    refine wp_seq ?_
    refine wp_seq ?_
    refine wp_region_lit ?_
    refine wl_v hF rfl rfl rfl (q_move rfl (hF.eval rfl)) fun a hF => ?_
    refine wl_v hF rfl rfl rfl (q_move rfl (hF.eval rfl)) fun a hF => ?_
    refine wl_e hF rfl rfl rfl (c_call hF rfl rfl Try.call53 (head_r _ _ _ _ _ _ (hO.hr 1 2 3 4 rfl rfl rfl rfl) _)) ?_
    rintro a _ w ⟨rfl, hS⟩ hF
    have hO := hO.call0 hS
    have hO : St _ _ _ [_, _, _, _, _] := hO
    refine wl_v hF rfl rfl rfl (q_assign rfl (hF.eval rfl)) fun a hF => ?_
    refine wl_nil ?_
    refine k_n ?_
    refine wp_block ?_
    refine wp_seq ?_
    refine wp_region_lit ?_
    refine wl_v hF rfl rfl rfl (q_move rfl (hF.eval rfl)) fun a hF => ?_
    refine wl_v hF rfl rfl rfl (q_peq Try.underlying80 rfl (hF.eval rfl) (hF.eval rfl)) fun a hF => ?_
    refine wl_v hF rfl rfl rfl (q_move rfl (hF.eval rfl)) fun a hF => ?_
    refine wl_g hF rfl rfl rfl rfl rfl rfl (fun hg => q_move rfl (hF.eval rfl)) fun a hF => ?_
    refine wl_g hF rfl rfl rfl rfl rfl rfl (fun hg => q_loadAgg Try.isAgg27 Try.sizeOf27 rfl (hF.eval rfl) (hO.cells 0 rfl) rfl) fun a hF => ?_
    refine wl_gS (fun (_ : Unit) u w' => St w0 (blks [.ob bh 77 (hpC vw vh vr h), slT vw 27 wordE h.words, slT vh 84 headE h.heads, slT vr 3 intE h.rem]) w' [.ob tk 27 (wordE.cells x), .ob bh 77 (hpC vw vh vr h), slT vw 27 wordE h.words, slT vh 84 headE h.heads, slT vr 3 intE h.rem] ∧ (¬ (hdP vh (headAt h.heads at_) = none) → RdT w' [] u wordE [x])) hF rfl rfl rfl rfl rfl rfl (fun hg => Eff.mono (c_buildSlice hF hO Try.underlying37 Try.sizeOf27 Try.zeroValue27 rfl (congrArg (fun q => some [(0, q)]) (gv_of (v := .agg (wordE.cells x).toArray) hg)) rfl rfl rfl rfl rfl) ?_) (fun hg => ?_) ?_
    · skip
      rintro u w' ⟨b, rfl, hS⟩
      exact ⟨(), hS.tail, fun _ => hS.rdT 0 rfl⟩
    · skip
      exact ⟨(), undef, hO, fun h => absurd (of_gFn hg) h⟩
    rintro _ u a w ⟨hO, hws⟩ hF
    refine wl_gk hO hF rfl rfl rfl rfl rfl rfl (fun hg => c_callG hF rfl rfl (by first | with_reducible rfl | (simp only [gv_of hg]; done) | (simp only [gv_of hg]; rfl)) Try.call54 (hreal_r _ _ _ _ _ _ (hO.hr 1 2 3 4 rfl rfl rfl rfl) _ _ (hws (of_gn hg)))) fun a w hO hF => ?_
    refine wl_g hF rfl rfl rfl rfl rfl rfl (fun hg => q_not rfl ((hF.eval rfl).trans (gv_of hg)) (dec_b _)) fun a hF => ?_
    refine wl_v hF rfl rfl rfl (q_or rfl (hF.eval rfl) rfl (fun hg2 => ((hF.eval rfl).trans (gv_of hg2))) rfl) fun a hF => ?_
    refine wl_v hF rfl rfl rfl (q_assign rfl (hF.eval rfl)) fun a hF => ?_
    refine wl_nil ?_
    refine k_n ?_
    refine wp_ifD hF rfl rfl (fun hc2 => ?_) (fun hc2 => ?_)
    · skip
      refine wp_seq ?_
      refine wp_region_lit ?_
      refine wl_v hF rfl rfl rfl (q_assign rfl (hF.eval rfl)) fun a hF => ?_
      refine wl_nil ?_
      refine k_n ?_
      refine wp_ret ?_
      refine b_r ?_
      refine k_r ?_
      refine r_1 hF rfl rfl ?_
      have hO := hO.drop1 0
      have hO : St _ _ _ [_, _, _, _] := hO
      exact ⟨_, _, _, link_1 hc2, rfl, hO⟩
    · skip
      obtain ⟨k, hk, rfl, hkl, hkk, hnb⟩ := link_2 hc2
      rw [hk] at hF
      have hob := hw.obj k hkk
      refine wp_seq ?_
      refine wp_region_lit ?_
      refine wl_v hF rfl rfl rfl (q_move rfl (hF.eval rfl)) fun a hF => ?_
      refine wl_v hF rfl rfl rfl (q_nilCheck rfl (hF.eval rfl)) fun a hF => ?_
      refine wl_v hF rfl rfl rfl (q_fieldAddr0 (d := 0) Try.underlying84 rfl (hF.eval rfl) rfl Try.sizeOf3 (by decide) rfl) fun a hF => ?_
      refine wl_v hF rfl rfl rfl (q_load Try.isAgg3 rfl (hF.eval rfl) (RdT.cells (hO.rdT 3 rfl) (get_D (d := hd0) hkl) _ _ rfl)) fun a hF => ?_
      refine wl_v hF rfl rfl rfl (q_ne rfl (hF.eval rfl) (hF.eval rfl)) fun a hF => ?_
      refine wl_v hF rfl rfl rfl (q_move rfl (hF.eval rfl)) fun a hF => ?_
      refine wl_g hF rfl rfl rfl rfl rfl rfl (fun hg => q_move rfl (hF.eval rfl)) fun a hF => ?_
      refine wl_g hF rfl rfl rfl rfl rfl rfl (fun hg => q_nilCheck rfl ((hF.eval rfl).trans (gv_of hg))) fun a hF => ?_
      refine wl_g hF rfl rfl rfl rfl rfl rfl (fun hg => q_fieldAddr0 (d := 0) Try.underlying84 rfl ((hF.eval rfl).trans (gv_of hg)) rfl Try.sizeOf3 (by decide) rfl) fun a hF => ?_
      refine wl_g hF rfl rfl rfl rfl rfl rfl (fun hg => q_load Try.isAgg3 rfl ((hF.eval rfl).trans (gv_of hg)) (RdT.cells (hO.rdT 3 rfl) (get_D (d := hd0) hkl) _ _ rfl)) fun a hF => ?_
      refine wl_g hF rfl rfl rfl rfl rfl rfl (fun hg => q_ne rfl ((hF.eval rfl).trans (gv_of hg)) (hF.eval rfl)) fun a hF => ?_
      refine wl_v hF rfl rfl rfl (q_and rfl (hF.eval rfl) rfl (fun hg2 => ((hF.eval rfl).trans (gv_of hg2))) rfl) fun a hF => ?_
      refine wl_v hF rfl rfl rfl (q_assign rfl (hF.eval rfl)) fun a hF => ?_
      refine wl_nil ?_
      refine k_n ?_
      refine wp_ifD hF rfl rfl (fun hc3 => ?_) (fun hc3 => ?_)
      · skip
        refine wp_seq ?_
        refine wp_region_lit ?_
        refine wl_v hF rfl rfl rfl (q_assign rfl (hF.eval rfl)) fun a hF => ?_
        refine wl_nil ?_
        refine k_n ?_
        refine wp_ret ?_
        refine b_r ?_
        refine k_r ?_
        refine r_1 hF rfl rfl ?_
        have hO := hO.drop1 0
        have hO : St _ _ _ [_, _, _, _] := hO
        exact ⟨_, _, _, link_3 hk hnb hc3, rfl, hO⟩
      · skip
        have hln := link_4 hk hnb hc3
        refine wp_seq ?_
        refine wp_region_lit ?_
        refine wl_v hF rfl rfl rfl (q_move rfl (hF.eval rfl)) fun a hF => ?_
        refine wl_v hF rfl rfl rfl (q_move rfl (hF.eval rfl)) fun a hF => ?_
        refine wl_v hF rfl rfl rfl (q_move rfl (hF.eval rfl)) fun a hF => ?_
        refine wl_v hF rfl rfl rfl (q_nilCheck rfl (hF.eval rfl)) fun a hF => ?_
        refine wl_v hF rfl rfl rfl (q_fieldAddr0 (d := 0) Try.underlying84 rfl (hF.eval rfl) rfl Try.sizeOf3 (by decide) rfl) fun a hF => ?_
        refine wl_s hF rfl rfl (e_storeElT (m := k) (off := 0) (q := ⟨5, (h.heads.getD k hd0).info, (h.heads.getD k hd0).fields, (h.heads.getD k hd0).takes, (h.heads.getD k hd0).knows⟩) hO (i := 3) rfl Try.sizeOf3 rfl ((hF.eval rfl).trans (congrArg ptr (add_add' _ _ _))) rfl (hF.eval rfl) rfl (get_D (d := hd0) hkl) rfl (Nat.le_of_ble_eq_true rfl) rfl (all1 rfl)) ?_
        rintro a _ w ⟨-, hO⟩ hF
        have hO : St _ _ _ [_, _, _, _, _] := hO
        refine wl_v hF rfl rfl rfl (q_nilCheck rfl (hF.eval rfl)) fun a hF => ?_
        refine wl_v hF rfl rfl rfl (q_fieldAddr0 (d := 1) Try.underlying84 rfl (hF.eval rfl) rfl Try.sizeOf3 (by decide) rfl) fun a hF => ?_
        refine wl_s hF rfl rfl (e_storeElT (m := k) (off := 1) (q := ⟨5, 0, (h.heads.getD k hd0).fields, (h.heads.getD k hd0).takes, (h.heads.getD k hd0).knows⟩) hO (i := 3) rfl Try.sizeOf3 rfl ((hF.eval rfl).trans (congrArg ptr (add_add' _ _ _))) rfl (hF.eval rfl) rfl ((List.getElem?_set_self hkl)) rfl (Nat.le_of_ble_eq_true rfl) rfl (all1 rfl)) ?_
        rintro a _ w ⟨-, hO⟩ hF
        have hO : St _ _ _ [_, _, _, _, _] := hO
        rw [List.set_set] at hO
        refine wl_v hF rfl rfl rfl (q_nilCheck rfl (hF.eval rfl)) fun a hF => ?_
        refine wl_v hF rfl rfl rfl (q_fieldAddr0 (d := 2) Try.underlying84 rfl (hF.eval rfl) rfl Try.sizeOf3 (by decide) rfl) fun a hF => ?_
        refine wl_s hF rfl rfl (e_storeElT (m := k) (off := 2) (q := ⟨5, 0, 1, (h.heads.getD k hd0).takes, (h.heads.getD k hd0).knows⟩) hO (i := 3) rfl Try.sizeOf3 rfl ((hF.eval rfl).trans (congrArg ptr (add_add' _ _ _))) rfl (hF.eval rfl) rfl ((List.getElem?_set_self hkl)) rfl (Nat.le_of_ble_eq_true rfl) rfl (all1 rfl)) ?_
        rintro a _ w ⟨-, hO⟩ hF
        have hO : St _ _ _ [_, _, _, _, _] := hO
        rw [List.set_set] at hO
        refine wl_nil ?_
        refine k_n ?_
        refine wp_seq ?_
        have hO := hO.drew
        refine wp_region_D [0, 0, 0, 1, 0, 0, 1, 0, 3] (fun w => St _ _ w _) Try_mixed (by kernel_rfl) hO ?_
        refine wd_p hF rfl rfl rfl (fun w => q_move rfl (hF.eval rfl)) fun a hF => ?_
        refine wd_p hF rfl rfl rfl (fun w => q_nilCheck rfl (hF.eval rfl)) fun a hF => ?_
        refine wd_p hF rfl rfl rfl (fun w => q_fieldAddr0 (d := 0) Try.underlying77 rfl (hF.eval rfl) rfl Try.sizeOf37 (by decide) rfl) fun a hF => ?_
        refine wd_r hF rfl rfl rfl (fun w hO => q_load Try.isAgg37 rfl (hF.eval rfl) (hO.cell 1 rfl rfl)) fun a hF => ?_
        refine wd_p hF rfl rfl rfl (fun w => q_move rfl (hF.eval rfl)) fun a hF => ?_
        refine wd_p hF rfl rfl rfl (fun w => q_add rfl (hF.eval rfl) (hF.eval rfl) (by omega)) fun a hF => ?_
        refine wd_r hF rfl rfl rfl (fun w hO => q_loadAgg Try.isAgg27 Try.sizeOf27 rfl (hF.eval rfl) (hO.cells 0 rfl) rfl) fun a hF => ?_
        refine wd_p hF rfl rfl rfl (fun w => q_at (i := ((k : Int) + 1).toNat) (hO.rd 2 rfl) Try.underlying37 Try.sizeOf27 rfl (hF.eval rfl) ((hF.eval rfl).trans (congrArg i64 ((Int.toNat_of_nonneg (by omega)).symm))) (by omega)) fun a hF => ?_
        refine wd_s hF rfl rfl (e_storeElT (m := ((k : Int) + 1).toNat) (off := 0) (q := x) hO (i := 2) rfl Try.sizeOf27 rfl (hF.eval rfl) rfl (hF.eval rfl) rfl (get_D (d := wd0) (by omega)) rfl (Nat.le_of_ble_eq_true rfl) rfl (all1 rfl)) ?_
        rintro a _ w ⟨-, hO⟩ hF
        have hO : St _ _ _ [_, _, _, _, _] := hO
        replace hO : St _ _ _ [_, .ob bh 77 (hpC vw vh vr (Hp.mk (h.words.set ((k : Int) + 1).toNat x) (h.heads.set k ⟨5, 0, 1, (h.heads.getD k hd0).takes, (h.heads.getD k hd0).knows⟩) h.y h.a h.b h.use h.rem)), slT vw 27 wordE (Hp.mk (h.words.set ((k : Int) + 1).toNat x) (h.heads.set k ⟨5, 0, 1, (h.heads.getD k hd0).takes, (h.heads.getD k hd0).knows⟩) h.y h.a h.b h.use h.rem).words, slT vh 84 headE (Hp.mk (h.words.set ((k : Int) + 1).toNat x) (h.heads.set k ⟨5, 0, 1, (h.heads.getD k hd0).takes, (h.heads.getD k hd0).knows⟩) h.y h.a h.b h.use h.rem).heads, slT vr 3 intE (Hp.mk (h.words.set ((k : Int) + 1).toNat x) (h.heads.set k ⟨5, 0, 1, (h.heads.getD k hd0).takes, (h.heads.getD k hd0).knows⟩) h.y h.a h.b h.use h.rem).rem] := hO
        refine wd_nil ?_
        refine k_n ?_
        refine wp_region_lit ?_
        refine wl_v hF rfl rfl rfl (q_move rfl (hF.eval rfl)) fun a hF => ?_
        refine wl_v hF rfl rfl rfl (q_move rfl (hF.eval rfl)) fun a hF => ?_
        refine wl_v hF rfl rfl rfl (q_loadAgg Try.isAgg27 Try.sizeOf27 rfl (hF.eval rfl) (hO.cells 0 rfl) rfl) fun a hF => ?_
        have hO := hO.pull 4 rfl
        have hO := hO.pull 4 rfl
        have hO := hO.pull 4 rfl
        have hO := hO.pull 4 rfl
        have hO : St _ _ _ [_, _, _, _, _] := hO
        refine wl_e hF rfl rfl rfl (c_call hF rfl rfl Try.call55 (note_r _ _ _ _ _ _ hO.own4 (hw.turn hkl _ (List.length_set ..) _ ⟨(show (0 : Int) ≤ 1 by decide), by show (k : Int) + 1 + 1 ≤ _; omega, hob.2.2⟩) (by show h.rem.length ≤ _; omega) _ ⟨by omega, by show (k : Int) < (h.heads.set k _).length; rw [List.length_set]; omega⟩ _)) ?_
        rintro a _ w ⟨vr2, rfl, hS⟩ hF
        have hO := hO.call4 hS
        have hO : St _ _ _ [_, _, _, _, _] := hO
        refine wl_nil ?_
        refine b_n ?_
        refine k_n ?_
        refine wp_seq ?_
        refine wp_region_lit ?_
        refine wl_v hF rfl rfl rfl (q_assign rfl (hF.eval rfl)) fun a hF => ?_
        refine wl_nil ?_
        refine k_n ?_
        refine wp_ret ?_
        refine r_1 hF rfl rfl ?_
        have hO := hO.drop1 4
        have hO : St _ _ _ [_, _, _, _] := hO
        exact ⟨_, _, _, hln, rfl, hO⟩

end Go.Proofs.Ytglienidnffnjaa
namespace Go.Proofs.Ytglienidnffnjaa
open Go
set_option maxRecDepth 100000
set_option linter.unusedVariables false
theorem young_r (w0 : World) (bh : Nat) (vw vh vr : Value) (h : Hp) (hH : HR w0 [] bh vw vh vr h) (at_ : Int) : Ret Try.prog 26 #[ptr (adr bh), i64 at_] w0 (fun v w' => v = .bool (decide (youngH h at_)) ∧ St w0 [] w' []) := by
  have hO := St.init0 w0
  refine ret_of (m := 22) Try.func26 rfl Try.ntmps26 [(0, ptr (adr bh)), (1, i64 at_)] rfl ⟨rfl, rfl, trivial⟩ fun a hF => ?_
  refine wp_seq ?_
  refine wp_region_lit ?_
  refine wl_v hF rfl rfl rfl (q_assign rfl (hF.eval rfl)) fun a hF => ?_
  refine wl_nil ?_
  refine k_n ?_
  refine wp_seq ?_
  refine wp_region_lit ?_
  refine wl_v hF rfl rfl rfl (q_move rfl (hF.eval rfl)) fun a hF => ?_
  refine wl_v hF rfl rfl rfl (q_pne Try.underlying22 rfl (hF.eval rfl) (hF.eval rfl)) fun a hF => ?_
  refine wl_v hF rfl rfl rfl (q_move rfl (hF.eval rfl)) fun a hF => ?_
  refine wl_g hF rfl rfl rfl rfl rfl rfl (fun hg => q_move rfl (hF.eval rfl)) fun a hF => ?_
  refine wl_g hF rfl rfl rfl rfl rfl rfl (fun hg => q_move rfl (hF.eval rfl)) fun a hF => ?_
  refine wl_g hF rfl rfl rfl rfl rfl rfl (fun hg => q_nilCheck rfl ((hF.eval rfl).trans (gv_of hg))) fun a hF => ?_
  refine wl_g hF rfl rfl rfl rfl rfl rfl (fun hg => q_fieldAddr0 (d := 2) Try.underlying77 rfl ((hF.eval rfl).trans (gv_of hg)) rfl Try.sizeOf74 (by decide) rfl) fun a hF => ?_
  refine wl_g hF rfl rfl rfl rfl rfl rfl (fun hg => q_fieldAddr (d := 2) Try.underlying74 rfl ((hF.eval rfl).trans (gv_of hg)) rfl Try.sizeOf3 (by decide) rfl) fun a hF => ?_
  refine wl_g hF rfl rfl rfl rfl rfl rfl (fun hg => q_load Try.isAgg3 rfl ((hF.eval rfl).trans (gv_of hg)) (rdB_cell (HR.now hH hO).blk rfl)) fun a hF => ?_
  refine wl_g hF rfl rfl rfl rfl rfl rfl (fun hg => q_lt rfl ((hF.eval rfl).trans (gv_of hg)) ((hF.eval rfl).trans (gv_of hg))) fun a hF => ?_
  refine wl_v hF rfl rfl rfl (q_and rfl (hF.eval rfl) rfl (fun hg2 => ((hF.eval rfl).trans (gv_of hg2))) rfl) fun a hF => ?_
  refine wl_v hF rfl rfl rfl (q_move rfl (hF.eval rfl)) fun a hF => ?_
  refine wl_g hF rfl rfl rfl rfl rfl rfl (fun hg => q_move rfl (hF.eval rfl)) fun a hF => ?_
  refine wl_g hF rfl rfl rfl rfl rfl rfl (fun hg => q_move rfl (hF.eval rfl)) fun a hF => ?_
  refine wl_gk hO hF rfl rfl rfl rfl rfl rfl (fun hg => c_callG hF rfl rfl (by first | with_reducible rfl | (simp only [gv_of hg]; done) | (simp only [gv_of hg]; rfl)) Try.call53 (head_r _ _ _ _ _ _ (hH.at0 hO) _)) fun a w hO hF => ?_
  refine wl_g hF rfl rfl rfl rfl rfl rfl (fun hg => q_pne Try.underlying80 rfl ((hF.eval rfl).trans (gv_of hg)) (hF.eval rfl)) fun a hF => ?_
  refine wl_v hF rfl rfl rfl (q_and rfl (hF.eval rfl) rfl (fun hg2 => ((hF.eval rfl).trans (gv_of hg2))) rfl) fun a hF => ?_
  refine wl_v hF rfl rfl rfl (q_assign rfl (hF.eval rfl)) fun a hF => ?_
  refine wl_nil ?_
  refine k_n ?_
  refine wp_ret ?_
  refine r_1 hF rfl rfl ?_
  have hO : St _ _ _ [] := hO
  exact ⟨congrArg Value.bool (decide_eq_decide.2 ⟨fun g => ⟨g.1.2, fun e => g.2 (hdP_none.2 e)⟩, fun g => ⟨⟨by simp, g.1⟩, fun e => g.2 (hdP_none.1 e)⟩⟩), hO⟩

theorem used0_r (w0 : World) (bh : Nat) (vw vh vr : Value) (h : Hp) (hH : HR w0 [] bh vw vh vr h) (hw : Wf h) (hu : h.use = 0) : Ret Try.prog 19 #[ptr (adr bh)] w0 (fun v w' => v = .tuple #[i64 (h.y.next - h.y.first), i64 (h.a.next - h.a.first)] ∧ St w0 [] w' []) := by
  have hO := St.init0 w0
  obtain ⟨y1, y2, y3, y4⟩ := hw.y
  obtain ⟨r1, r2, r3, r4⟩ := hw.a
  have hle := hw.le
  refine ret_of (m := 32) Try.func19 rfl Try.ntmps19 [(0, ptr (adr bh))] rfl ⟨rfl, trivial⟩ fun a hF => ?_
  refine wp_seq ?_
  refine wp_region_lit ?_
  refine wl_v hF rfl rfl rfl (q_assign rfl (hF.eval rfl)) fun a hF => ?_
  refine wl_v hF rfl rfl rfl (q_assign rfl (hF.eval rfl)) fun a hF => ?_
  refine wl_nil ?_
  refine k_n ?_
  refine wp_seq ?_
  refine wp_seq ?_
  refine wp_region_lit ?_
  refine wl_v hF rfl rfl rfl (q_move rfl (hF.eval rfl)) fun a hF => ?_
  refine wl_v hF rfl rfl rfl (q_peq Try.underlying22 rfl (hF.eval rfl) (hF.eval rfl)) fun a hF => ?_
  refine wl_nil ?_
  refine k_n ?_
  refine wp_ifD hF rfl rfl (fun hc1 => ?_) (fun hc1 => ?_)
  · skip
    exact absurd hc1 (by simp)
  · skip
    refine wp_skip ?_
    refine k_n ?_
    refine wp_seq ?_
    have hO := hO.drew
    refine wp_region_D [0, 0, 0, 0, 1, 0, 0, 0, 1, 2, 3] (fun w => St _ _ w _) Try_mixed (by kernel_rfl) hO ?_
    refine wd_p hF rfl rfl rfl (fun w => q_move rfl (hF.eval rfl)) fun a hF => ?_
    refine wd_p hF rfl rfl rfl (fun w => q_move rfl (hF.eval rfl)) fun a hF => ?_
    refine wd_p hF rfl rfl rfl (fun w => q_nilCheck rfl (hF.eval rfl)) fun a hF => ?_
    refine wd_p hF rfl rfl rfl (fun w => q_fieldAddr0 (d := 11) Try.underlying77 rfl (hF.eval rfl) rfl Try.sizeOf3 (by decide) rfl) fun a hF => ?_
    refine wd_r hF rfl rfl rfl (fun w hO => q_load Try.isAgg3 rfl (hF.eval rfl) (rdB_cell (HR.now hH hO).blk rfl)) fun a hF => ?_
    refine wd_p hF rfl rfl rfl (fun w => q_nilCheck rfl (hF.eval rfl)) fun a hF => ?_
    refine wd_p hF rfl rfl rfl (fun w => q_fieldAddr0 (d := 5) Try.underlying77 rfl (hF.eval rfl) rfl Try.sizeOf75 (by decide) rfl) fun a hF => ?_
    refine wd_p hF rfl rfl rfl (fun w => q_atArrK (i := 0) (d := 5) Try.underlying75 Try.sizeOf74 rfl (hF.eval rfl) ((hF.eval rfl).trans (congrArg (fun n : Nat => i64 (n : Int)) hu)) (by decide)) fun a hF => ?_
    refine wd_r hF rfl rfl rfl (fun w hO => q_loadAgg Try.isAgg74 Try.sizeOf74 rfl (hF.eval rfl) (rdB_cells (HR.now hH hO).blk 5 3 rfl) rfl) fun a hF => ?_
    refine wd_e hF rfl rfl rfl (e_alloc hO Try.zeroValue74 rfl rfl) (fun _ _ ⟨_, _, hO⟩ => hO.tail) ?_
    rintro a _ w ⟨t4, rfl, hO⟩ hF
    refine wd_s hF rfl rfl (e_storeAll hO (i := 0) rfl Try.sizeOf74 rfl (hF.eval rfl) (hF.eval rfl) rfl rfl) ?_
    rintro a _ w ⟨-, hO⟩ hF
    have hO : St _ _ _ [_] := hO
    refine wd_nil ?_
    refine k_n ?_
    refine wp_seq ?_
    have hO := hO.drew
    refine wp_region_D [0, 0, 0, 0, 1, 0, 0, 0, 0, 1, 0, 0, 1, 0, 1, 0, 0, 0] (fun w => St _ _ w _) Try_mixed (by kernel_rfl) hO ?_
    refine wd_p hF rfl rfl rfl (fun w => q_move rfl (hF.eval rfl)) fun a hF => ?_
    refine wd_p hF rfl rfl rfl (fun w => q_nilCheck rfl (hF.eval rfl)) fun a hF => ?_
    refine wd_p hF rfl rfl rfl (fun w => q_fieldAddr0 (d := 2) Try.underlying77 rfl (hF.eval rfl) rfl Try.sizeOf74 (by decide) rfl) fun a hF => ?_
    refine wd_p hF rfl rfl rfl (fun w => q_fieldAddr (d := 1) Try.underlying74 rfl (hF.eval rfl) rfl Try.sizeOf3 (by decide) rfl) fun a hF => ?_
    refine wd_r hF rfl rfl rfl (fun w hO => q_load Try.isAgg3 rfl (hF.eval rfl) (rdB_cell (HR.now hH hO).blk rfl)) fun a hF => ?_
    refine wd_p hF rfl rfl rfl (fun w => q_move rfl (hF.eval rfl)) fun a hF => ?_
    refine wd_p hF rfl rfl rfl (fun w => q_nilCheck rfl (hF.eval rfl)) fun a hF => ?_
    refine wd_p hF rfl rfl rfl (fun w => q_fieldAddr0 (d := 2) Try.underlying77 rfl (hF.eval rfl) rfl Try.sizeOf74 (by decide) rfl) fun a hF => ?_
    refine wd_p hF rfl rfl rfl (fun w => q_fieldAddr (d := 0) Try.underlying74 rfl (hF.eval rfl) rfl Try.sizeOf3 (by decide) rfl) fun a hF => ?_
    refine wd_r hF rfl rfl rfl (fun w hO => q_load Try.isAgg3 rfl (hF.eval rfl) (rdB_cell (HR.now hH hO).blk rfl)) fun a hF => ?_
    refine wd_p hF rfl rfl rfl (fun w => q_sub rfl (hF.eval rfl) (hF.eval rfl) (by omega)) fun a hF => ?_
    refine wd_p hF rfl rfl rfl (fun w => q_fieldAddr0 (d := 1) Try.underlying74 rfl (hF.eval rfl) rfl Try.sizeOf3 (by decide) rfl) fun a hF => ?_
    refine wd_r hF rfl rfl rfl (fun w hO => q_load Try.isAgg3 rfl (hF.eval rfl) (hO.cell 0 rfl rfl)) fun a hF => ?_
    refine wd_p hF rfl rfl rfl (fun w => q_fieldAddr0 (d := 0) Try.underlying74 rfl (hF.eval rfl) rfl Try.sizeOf3 (by decide) rfl) fun a hF => ?_
    refine wd_r hF rfl rfl rfl (fun w hO => q_load Try.isAgg3 rfl (hF.eval rfl) (hO.cell 0 rfl rfl)) fun a hF => ?_
    refine wd_p hF rfl rfl rfl (fun w => q_sub rfl (hF.eval rfl) (hF.eval rfl) (by omega)) fun a hF => ?_
    refine wd_p hF rfl rfl rfl (fun w => q_assign rfl (hF.eval rfl)) fun a hF => ?_
    refine wd_p hF rfl rfl rfl (fun w => q_assign rfl (hF.eval rfl)) fun a hF => ?_
    refine wd_nil ?_
    refine k_n ?_
    refine wp_ret ?_
    refine r_2 hF rfl rfl rfl ?_
    have hO := hO.drop1 0
    have hO : St _ _ _ [] := hO
    exact ⟨rfl, hO⟩

theorem used1_r (w0 : World) (bh : Nat) (vw vh vr : Value) (h : Hp) (hH : HR w0 [] bh vw vh vr h) (hw : Wf h) (hu : h.use = 1) : Ret Try.prog 19 #[ptr (adr bh)] w0 (fun v w' => v = .tuple #[i64 (h.y.next - h.y.first), i64 (h.b.next - h.b.first)] ∧ St w0 [] w' []) := by
  have hO := St.init0 w0
  obtain ⟨y1, y2, y3, y4⟩ := hw.y
  obtain ⟨r1, r2, r3, r4⟩ := hw.b
  have hle := hw.le
  refine ret_of (m := 32) Try.func19 rfl Try.ntmps19 [(0, ptr (adr bh))] rfl ⟨rfl, trivial⟩ fun a hF => ?_
  refine wp_seq ?_
  refine wp_region_lit ?_
  refine wl_v hF rfl rfl rfl (q_assign rfl (hF.eval rfl)) fun a hF => ?_
  refine wl_v hF rfl rfl rfl (q_assign rfl (hF.eval rfl)) fun a hF => ?_
  refine wl_nil ?_
  refine k_n ?_
  refine wp_seq ?_
  refine wp_seq ?_
  refine wp_region_lit ?_
  refine wl_v hF rfl rfl rfl (q_move rfl (hF.eval rfl)) fun a hF => ?_
  refine wl_v hF rfl rfl rfl (q_peq Try.underlying22 rfl (hF.eval rfl) (hF.eval rfl)) fun a hF => ?_
  refine wl_nil ?_
  refine k_n ?_
  refine wp_ifD hF rfl rfl (fun hc1 => ?_) (fun hc1 => ?_)
  · skip
    exact absurd hc1 (by simp)
  · skip
    refine wp_skip ?_
    refine k_n ?_
    refine wp_seq ?_
    have hO := hO.drew
    refine wp_region_D [0, 0, 0, 0, 1, 0, 0, 0, 1, 2, 3] (fun w => St _ _ w _) Try_mixed (by kernel_rfl) hO ?_
    refine wd_p hF rfl rfl rfl (fun w => q_move rfl (hF.eval rfl)) fun a hF => ?_
    refine wd_p hF rfl rfl rfl (fun w => q_move rfl (hF.eval rfl)) fun a hF => ?_
    refine wd_p hF rfl rfl rfl (fun w => q_nilCheck rfl (hF.eval rfl)) fun a hF => ?_
    refine wd_p hF rfl rfl rfl (fun w => q_fieldAddr0 (d := 11) Try.underlying77 rfl (hF.eval rfl) rfl Try.sizeOf3 (by decide) rfl) fun a hF => ?_
    refine wd_r hF rfl rfl rfl (fun w hO => q_load Try.isAgg3 rfl (hF.eval rfl) (rdB_cell (HR.now hH hO).blk rfl)) fun a hF => ?_
    refine wd_p hF rfl rfl rfl (fun w => q_nilCheck rfl (hF.eval rfl)) fun a hF => ?_
    refine wd_p hF rfl rfl rfl (fun w => q_fieldAddr0 (d := 5) Try.underlying77 rfl (hF.eval rfl) rfl Try.sizeOf75 (by decide) rfl) fun a hF => ?_
    refine wd_p hF rfl rfl rfl (fun w => q_atArrK (i := 1) (d := 5) Try.underlying75 Try.sizeOf74 rfl (hF.eval rfl) ((hF.eval rfl).trans (congrArg (fun n : Nat => i64 (n : Int)) hu)) (by decide)) fun a hF => ?_
    refine wd_r hF rfl rfl rfl (fun w hO => q_loadAgg Try.isAgg74 Try.sizeOf74 rfl (hF.eval rfl) (rdB_cells (HR.now hH hO).blk 8 3 rfl) rfl) fun a hF => ?_
    refine wd_e hF rfl rfl rfl (e_alloc hO Try.zeroValue74 rfl rfl) (fun _ _ ⟨_, _, hO⟩ => hO.tail) ?_
    rintro a _ w ⟨t4, rfl, hO⟩ hF
    refine wd_s hF rfl rfl (e_storeAll hO (i := 0) rfl Try.sizeOf74 rfl (hF.eval rfl) (hF.eval rfl) rfl rfl) ?_
    rintro a _ w ⟨-, hO⟩ hF
    have hO : St _ _ _ [_] := hO
    refine wd_nil ?_
    refine k_n ?_
    refine wp_seq ?_
    have hO := hO.drew
    refine wp_region_D [0, 0, 0, 0, 1, 0, 0, 0, 0, 1, 0, 0, 1, 0, 1, 0, 0, 0] (fun w => St _ _ w _) Try_mixed (by kernel_rfl) hO ?_
    refine wd_p hF rfl rfl rfl (fun w => q_move rfl (hF.eval rfl)) fun a hF => ?_
    refine wd_p hF rfl rfl rfl (fun w => q_nilCheck rfl (hF.eval rfl)) fun a hF => ?_
    refine wd_p hF rfl rfl rfl (fun w => q_fieldAddr0 (d := 2) Try.underlying77 rfl (hF.eval rfl) rfl Try.sizeOf74 (by decide) rfl) fun a hF => ?_
    refine wd_p hF rfl rfl rfl (fun w => q_fieldAddr (d := 1) Try.underlying74 rfl (hF.eval rfl) rfl Try.sizeOf3 (by decide) rfl) fun a hF => ?_
    refine wd_r hF rfl rfl rfl (fun w hO => q_load Try.isAgg3 rfl (hF.eval rfl) (rdB_cell (HR.now hH hO).blk rfl)) fun a hF => ?_
    refine wd_p hF rfl rfl rfl (fun w => q_move rfl (hF.eval rfl)) fun a hF => ?_
    refine wd_p hF rfl rfl rfl (fun w => q_nilCheck rfl (hF.eval rfl)) fun a hF => ?_
    refine wd_p hF rfl rfl rfl (fun w => q_fieldAddr0 (d := 2) Try.underlying77 rfl (hF.eval rfl) rfl Try.sizeOf74 (by decide) rfl) fun a hF => ?_
    refine wd_p hF rfl rfl rfl (fun w => q_fieldAddr (d := 0) Try.underlying74 rfl (hF.eval rfl) rfl Try.sizeOf3 (by decide) rfl) fun a hF => ?_
    refine wd_r hF rfl rfl rfl (fun w hO => q_load Try.isAgg3 rfl (hF.eval rfl) (rdB_cell (HR.now hH hO).blk rfl)) fun a hF => ?_
    refine wd_p hF rfl rfl rfl (fun w => q_sub rfl (hF.eval rfl) (hF.eval rfl) (by omega)) fun a hF => ?_
    refine wd_p hF rfl rfl rfl (fun w => q_fieldAddr0 (d := 1) Try.underlying74 rfl (hF.eval rfl) rfl Try.sizeOf3 (by decide) rfl) fun a hF => ?_
    refine wd_r hF rfl rfl rfl (fun w hO => q_load Try.isAgg3 rfl (hF.eval rfl) (hO.cell 0 rfl rfl)) fun a hF => ?_
    refine wd_p hF rfl rfl rfl (fun w => q_fieldAddr0 (d := 0) Try.underlying74 rfl (hF.eval rfl) rfl Try.sizeOf3 (by decide) rfl) fun a hF => ?_
    refine wd_r hF rfl rfl rfl (fun w hO => q_load Try.isAgg3 rfl (hF.eval rfl) (hO.cell 0 rfl rfl)) fun a hF => ?_
    refine wd_p hF rfl rfl rfl (fun w => q_sub rfl (hF.eval rfl) (hF.eval rfl) (by omega)) fun a hF => ?_
    refine wd_p hF rfl rfl rfl (fun w => q_assign rfl (hF.eval rfl)) fun a hF => ?_
    refine wd_p hF rfl rfl rfl (fun w => q_assign rfl (hF.eval rfl)) fun a hF => ?_
    refine wd_nil ?_
    refine k_n ?_
    refine wp_ret ?_
    refine r_2 hF rfl rfl rfl ?_
    have hO := hO.drop1 0
    have hO : St _ _ _ [] := hO
    exact ⟨rfl, hO⟩


theorem used_r (w0 : World) (bh : Nat) (vw vh vr : Value) (h : Hp) (hH : HR w0 [] bh vw vh vr h) (hw : Wf h) : Ret Try.prog 19 #[ptr (adr bh)] w0 (fun v w' => v = .tuple #[i64 (usedH h).1, i64 (usedH h).2] ∧ St w0 [] w' []) := by
  have hu := hw.use
  rcases (by omega : h.use = 0 ∨ h.use = 1) with hu | hu
  · have e : usedH h = (h.y.next - h.y.first, h.a.next - h.a.first) := by unfold usedH; rw [hu]; rfl
    rw [e]; exact used0_r w0 bh vw vh vr h hH hw hu
  · have e : usedH h = (h.y.next - h.y.first, h.b.next - h.b.first) := by unfold usedH; rw [hu]; rfl
    rw [e]; exact used1_r w0 bh vw vh vr h hH hw hu
theorem flip_r (w0 : World) (bh : Nat) (vw vh vr : Value) (h : Hp) (hA : Owns w0 [.ob bh 77 (hpC vw vh vr h), slT vw 27 wordE h.words, slT vh 84 headE h.heads, slT vr 3 intE h.rem]) (hw : Wf h) (hrl : h.rem.length ≤ 100000000000) : Ret Try.prog 24 #[ptr (adr bh)] w0 (fun v w' => ∃ vr2, v = .tuple #[] ∧ St w0 (blks [.ob bh 77 (hpC vw vh vr h), slT vw 27 wordE h.words, slT vh 84 headE h.heads, slT vr 3 intE h.rem]) w' [.ob bh 77 (hpC vw vh vr2 (flipH h)), slT vw 27 wordE (flipH h).words, slT vh 84 headE (flipH h).heads, slT vr2 3 intE (flipH h).rem]) := by
  have hO := St.init hA
  have hle := hw.le
  have hlen := hw.len
  have hus := hw.use
  refine ret_of (m := 12) Try.func24 rfl Try.ntmps24 [(0, ptr (adr bh))] rfl ⟨rfl, trivial⟩ fun a hF => ?_
  refine wp_seq ?_
  refine wp_region_lit ?_
  refine wl_v hF rfl rfl rfl (q_move rfl (hF.eval rfl)) fun a hF => ?_
  refine wl_v hF rfl rfl rfl (q_pne Try.underlying22 rfl (hF.eval rfl) (hF.eval rfl)) fun a hF => ?_
  refine wl_nil ?_
  refine k_n ?_
  refine wp_ifD hF rfl rfl (fun hc1 => ?_) (fun hc1 => ?_)
  · skip
    refine wp_region_lit ?_
    refine wl_v hF rfl rfl rfl (q_move rfl (hF.eval rfl)) fun a hF => ?_
    refine wl_v hF rfl rfl rfl (q_move rfl (hF.eval rfl)) fun a hF => ?_
    refine wl_v hF rfl rfl rfl (q_nilCheck rfl (hF.eval rfl)) fun a hF => ?_
    refine wl_v hF rfl rfl rfl (q_fieldAddr0 (d := 11) Try.underlying77 rfl (hF.eval rfl) rfl Try.sizeOf3 (by decide) rfl) fun a hF => ?_
    refine wl_v hF rfl rfl rfl (q_load Try.isAgg3 rfl (hF.eval rfl) (hO.cell 0 rfl rfl)) fun a hF => ?_
    refine wl_v hF rfl rfl rfl (q_sub rfl (hF.eval rfl) (hF.eval rfl) (by omega)) fun a hF => ?_
    refine wl_v hF rfl rfl rfl (q_nilCheck rfl (hF.eval rfl)) fun a hF => ?_
    refine wl_v hF rfl rfl rfl (q_fieldAddr0 (d := 11) Try.underlying77 rfl (hF.eval rfl) rfl Try.sizeOf3 (by decide) rfl) fun a hF => ?_
    refine wl_s hF rfl rfl (e_store1 hO (i := 0) rfl Try.sizeOf3 rfl (hF.eval rfl) (hF.eval rfl) rfl rfl rfl) ?_
    rintro a _ w ⟨-, hO⟩ hF
    have hO : St _ _ _ [_, _, _, _] := hO
    rw [show (1 : Int) - (h.use : Int) = ((1 - h.use : Nat) : Int) by omega] at hO
    refine wl_nil ?_
    refine r_0n hF rfl ?_
    have hO : St _ _ _ [_, _, _, _] := hO
    exact ⟨vr, rfl, hO⟩
  · skip
    exact absurd (show ¬ some (adr bh) = none by simp) hc1

set_option maxHeartbeats 1000000 in
theorem empty0_r (w0 : World) (bh : Nat) (vw vh vr : Value) (h : Hp) (hA : Owns w0 [.ob bh 77 (hpC vw vh vr h), slT vw 27 wordE h.words, slT vh 84 headE h.heads, slT vr 3 intE h.rem]) (hw : Wf h) (hrl : h.rem.length ≤ 100000000000) : Ret Try.prog 59 #[ptr (adr bh), ptr ((adr bh).add 2)] w0 (fun v w' => v = .tuple #[] ∧ St w0 (blks [.ob bh 77 (hpC vw vh vr h), slT vw 27 wordE h.words, slT vh 84 headE h.heads, slT vr 3 intE h.rem]) w' [.ob bh 77 (hpC vw vh vr (emptyH h 0)), slT vw 27 wordE (emptyH h 0).words, slT vh 84 headE (emptyH h 0).heads, slT vr 3 intE (emptyH h 0).rem]) := by
  have hO := St.init hA
  have hle := hw.le
  have hlen := hw.len
  obtain ⟨r1, r2, r3, r4⟩ := hw.y
  refine ret_of (m := 24) Try.func59 rfl Try.ntmps59 [(0, ptr (adr bh)), (1, ptr ((adr bh).add 2))] rfl ⟨rfl, rfl, trivial⟩ fun a hF => ?_
  refine wp_seq ?_
  have hO := hO.drew
  refine wp_region_D [0, 0, 0, 1, 0, 0, 0, 1, 0, 0, 0, 1, 0, 3] (fun w => St _ _ w _) Try_mixed (by kernel_rfl) hO ?_
  refine wd_p hF rfl rfl rfl (fun w => q_move rfl (hF.eval rfl)) fun a hF => ?_
  refine wd_p hF rfl rfl rfl (fun w => q_nilCheck rfl (hF.eval rfl)) fun a hF => ?_
  refine wd_p hF rfl rfl rfl (fun w => q_fieldAddr0 (d := 1) Try.underlying77 rfl (hF.eval rfl) rfl Try.sizeOf72 (by decide) rfl) fun a hF => ?_
  refine wd_r hF rfl rfl rfl (fun w hO => q_load Try.isAgg72 rfl (hF.eval rfl) (hO.cell 0 rfl rfl)) fun a hF => ?_
  refine wd_p hF rfl rfl rfl (fun w => q_move rfl (hF.eval rfl)) fun a hF => ?_
  refine wd_p hF rfl rfl rfl (fun w => q_nilCheck rfl (hF.eval rfl)) fun a hF => ?_
  refine wd_p hF rfl rfl rfl (fun w => q_fieldAddr (d := 0) Try.underlying74 rfl (hF.eval rfl) rfl Try.sizeOf3 (by decide) rfl) fun a hF => ?_
  refine wd_r hF rfl rfl rfl (fun w hO => q_load Try.isAgg3 rfl (hF.eval rfl) (hO.cell 0 rfl rfl)) fun a hF => ?_
  refine wd_p hF rfl rfl rfl (fun w => q_move rfl (hF.eval rfl)) fun a hF => ?_
  refine wd_p hF rfl rfl rfl (fun w => q_nilCheck rfl (hF.eval rfl)) fun a hF => ?_
  refine wd_p hF rfl rfl rfl (fun w => q_fieldAddr (d := 1) Try.underlying74 rfl (hF.eval rfl) rfl Try.sizeOf3 (by decide) rfl) fun a hF => ?_
  refine wd_r hF rfl rfl rfl (fun w hO => q_load Try.isAgg3 rfl (hF.eval rfl) (hO.cell 0 rfl rfl)) fun a hF => ?_
  refine wd_p hF rfl rfl rfl (fun w => q_cut2 (i := h.y.first.toNat) (j := h.y.next.toNat) (hO.rd 2 rfl) Try.underlying72 Try.sizeOf84 rfl (hF.eval rfl) ((hF.eval rfl).trans (congrArg i64 ((Int.toNat_of_nonneg (by omega)).symm))) ((hF.eval rfl).trans (congrArg i64 ((Int.toNat_of_nonneg (by omega)).symm))) (by omega) (by omega)) fun a hF => ?_
  refine wd_s hF rfl rfl (e_clearT (z0 := hd0) (p := h.y.first.toNat) (q := h.y.next.toNat) hO (i := 2) rfl Try.underlying72 Try.zeroValue84 rfl rfl (hF.eval rfl) (by omega) (by omega) rfl) ?_
  rintro a _ w hO hF
  have hO : St _ _ _ [_, _, _, _] := hO
  refine wd_nil ?_
  refine k_n ?_
  refine wp_region_lit ?_
  refine wl_v hF rfl rfl rfl (q_move rfl (hF.eval rfl)) fun a hF => ?_
  refine wl_v hF rfl rfl rfl (q_move rfl (hF.eval rfl)) fun a hF => ?_
  refine wl_v hF rfl rfl rfl (q_nilCheck rfl (hF.eval rfl)) fun a hF => ?_
  refine wl_v hF rfl rfl rfl (q_fieldAddr (d := 0) Try.underlying74 rfl (hF.eval rfl) rfl Try.sizeOf3 (by decide) rfl) fun a hF => ?_
  refine wl_v hF rfl rfl rfl (q_load Try.isAgg3 rfl (hF.eval rfl) (hO.cell 0 rfl rfl)) fun a hF => ?_
  refine wl_v hF rfl rfl rfl (q_nilCheck rfl (hF.eval rfl)) fun a hF => ?_
  refine wl_v hF rfl rfl rfl (q_fieldAddr (d := 1) Try.underlying74 rfl (hF.eval rfl) rfl Try.sizeOf3 (by decide) rfl) fun a hF => ?_
  refine wl_s hF rfl rfl (e_store1 hO (i := 0) rfl Try.sizeOf3 rfl (hF.eval rfl) (hF.eval rfl) rfl rfl rfl) ?_
  rintro a _ w ⟨-, hO⟩ hF
  have hO : St _ _ _ [_, _, _, _] := hO
  refine wl_nil ?_
  refine r_0n hF rfl ?_
  have hO : St _ _ _ [_, _, _, _] := hO
  exact ⟨rfl, hO⟩

set_option maxHeartbeats 1000000 in
theorem clear_r (w0 : World) (bh : Nat) (vw vh vr : Value) (h : Hp) (hA : Owns w0 [.ob bh 77 (hpC vw vh vr h), slT vw 27 wordE h.words, slT vh 84 headE h.heads, slT vr 3 intE h.rem]) (hw : Wf h) (hrl : h.rem.length ≤ 100000000000) : Ret Try.prog 20 #[ptr (adr bh)] w0 (fun v w' => ∃ vr2, v = .tuple #[] ∧ St w0 (blks [.ob bh 77 (hpC vw vh vr h), slT vw 27 wordE h.words, slT vh 84 headE h.heads, slT vr 3 intE h.rem]) w' [.ob bh 77 (hpC vw vh vr2 (clearH h)), slT vw 27 wordE (clearH h).words, slT vh 84 headE (clearH h).heads, slT vr2 3 intE (clearH h).rem]) := by
  have hO := St.init hA
  have hle := hw.le
  have hlen := hw.len
  have hel := empty_len h hw 0
  refine ret_of (m := 31) Try.func20 rfl Try.ntmps20 [(0, ptr (adr bh))] rfl ⟨rfl, trivial⟩ fun a hF => ?_
  refine wp_seq ?_
  refine wp_seq ?_
  refine wp_region_lit ?_
  refine wl_v hF rfl rfl rfl (q_move rfl (hF.eval rfl)) fun a hF => ?_
  refine wl_v hF rfl rfl rfl (q_peq Try.underlying22 rfl (hF.eval rfl) (hF.eval rfl)) fun a hF => ?_
  refine wl_nil ?_
  refine k_n ?_
  refine wp_ifD hF rfl rfl (fun hc1 => ?_) (fun hc1 => ?_)
  · skip
    exact absurd hc1 (by simp)
  · skip
    refine wp_skip ?_
    refine k_n ?_
    refine wp_seq ?_
    refine wp_region_lit ?_
    refine wl_v hF rfl rfl rfl (q_move rfl (hF.eval rfl)) fun a hF => ?_
    refine wl_v hF rfl rfl rfl (q_move rfl (hF.eval rfl)) fun a hF => ?_
    refine wl_v hF rfl rfl rfl (q_nilCheck rfl (hF.eval rfl)) fun a hF => ?_
    refine wl_v hF rfl rfl rfl (q_fieldAddr0 (d := 2) Try.underlying77 rfl (hF.eval rfl) rfl Try.sizeOf74 (by decide) rfl) fun a hF => ?_
    have hO := hO.pull 3 rfl
    have hO := hO.pull 3 rfl
    have hO := hO.pull 3 rfl
    have hO := hO.pull 3 rfl
    have hO : St _ _ _ [_, _, _, _] := hO
    refine wl_e hF rfl rfl rfl (c_call hF rfl rfl Try.call59 (empty0_r _ _ _ _ _ _ hO.own4 hw hrl)) ?_
    rintro a _ w ⟨rfl, hS⟩ hF
    have hO := hO.call4 hS
    have hO : St _ _ _ [_, _, _, _] := hO
    refine wl_nil ?_
    refine k_n ?_
    refine wp_seq ?_
    refine wp_seq ?_
    refine wp_region_lit ?_
    refine wl_v hF rfl rfl rfl (q_move rfl (hF.eval rfl)) fun a hF => ?_
    refine wl_v hF rfl rfl rfl (q_nilCheck rfl (hF.eval rfl)) fun a hF => ?_
    refine wl_v hF rfl rfl rfl (q_fieldAddr0 (d := 12) Try.underlying77 rfl (hF.eval rfl) rfl Try.sizeOf36 (by decide) rfl) fun a hF => ?_
    refine wl_v hF rfl rfl rfl (q_load Try.isAgg36 rfl (hF.eval rfl) (hO.cell 0 rfl rfl)) fun a hF => ?_
    refine wl_v hF rfl rfl rfl (q_lenRd (hO.rd 3 rfl) Try.underlying36 rfl (hF.eval rfl)) fun a hF => ?_
    refine wl_v hF rfl rfl rfl (q_move rfl (hF.eval rfl)) fun a hF => ?_
    refine wl_nil ?_
    refine k_n ?_
    refine wp_block ?_
    have hO : St _ _ _ [_, _, _, _] := hO
    refine wp_loopS (fun (j : Nat) a w' => (j ≤ h.rem.length) ∧ St w0 (blks [.ob bh 77 (hpC vw vh vr h), slT vw 27 wordE h.words, slT vh 84 headE h.heads, slT vr 3 intE h.rem]) w' [.ob bh 77 (hpC vw vh vr (emptyH h 0)), slT vw 27 wordE h.words, slT vh 84 headE (unknowF (emptyH h 0).heads (h.rem.take j)), slT vr 3 intE h.rem] ∧ Fr a 31 [(0, ptr (adr bh)), (14, vr), (15, i64 h.rem.length), (16, i64 j)]) (fun (j : Nat) => h.rem.length - j) 0 ⟨by omega, hO, hF.sub ⟨rfl, rfl, rfl, rfl, trivial⟩⟩ ?_
    rintro j a w ⟨hj, hO, hF⟩
    have hul := unknow_len (h.rem.take j) (emptyH h 0).heads
    refine wp_seq ?_
    refine wp_region_lit ?_
    refine wl_v hF rfl rfl rfl (q_lt rfl (hF.eval rfl) (hF.eval rfl)) fun a hF => ?_
    refine wl_nil ?_
    refine k_n ?_
    refine wp_seq ?_
    refine wp_ifD hF rfl rfl (fun hc2 => ?_) (fun hc2 => ?_)
    · skip
      refine wp_skip ?_
      refine k_n ?_
      refine wp_seq ?_
      refine wp_block ?_
      refine wp_seq ?_
      refine wp_region_lit ?_
      obtain ⟨x, hx⟩ := get_ex (l := h.rem) (i := j) (by omega)
      refine wl_v hF rfl rfl rfl (q_at (i := j) (hO.rd 3 rfl) Try.underlying36 Try.sizeOf3 rfl (hF.eval rfl) (hF.eval rfl) (by omega)) fun a hF => ?_
      refine wl_v hF rfl rfl rfl (q_load Try.isAgg3 rfl (hF.eval rfl) (RdT.cell0 (hO.rdT 3 rfl) hx rfl)) fun a hF => ?_
      refine wl_v hF rfl rfl rfl (q_assign rfl (hF.eval rfl)) fun a hF => ?_
      have hxr := hw.rem x (List.mem_of_getElem? hx)
      refine wl_nil ?_
      refine k_n ?_
      refine wp_region_lit ?_
      refine wl_v hF rfl rfl rfl (q_move rfl (hF.eval rfl)) fun a hF => ?_
      refine wl_v hF rfl rfl rfl (q_nilCheck rfl (hF.eval rfl)) fun a hF => ?_
      refine wl_v hF rfl rfl rfl (q_fieldAddr0 (d := 1) Try.underlying77 rfl (hF.eval rfl) rfl Try.sizeOf72 (by decide) rfl) fun a hF => ?_
      refine wl_v hF rfl rfl rfl (q_load Try.isAgg72 rfl (hF.eval rfl) (hO.cell 0 rfl rfl)) fun a hF => ?_
      refine wl_v hF rfl rfl rfl (q_move rfl (hF.eval rfl)) fun a hF => ?_
      refine wl_v hF rfl rfl rfl (q_at (i := x.toNat) (hO.rd 2 rfl) Try.underlying72 Try.sizeOf84 rfl (hF.eval rfl) ((hF.eval rfl).trans (congrArg i64 ((Int.toNat_of_nonneg (hxr.1)).symm))) (by omega)) fun a hF => ?_
      refine wl_v hF rfl rfl rfl (q_fieldAddr0 (d := 4) Try.underlying84 rfl (hF.eval rfl) rfl Try.sizeOf4 (by decide) rfl) fun a hF => ?_
      refine wl_s hF rfl rfl (e_storeElT (m := x.toNat) (off := 4) (q := setK ((unknowF (emptyH h 0).heads (h.rem.take j)).getD x.toNat hd0) false) hO (i := 2) rfl Try.sizeOf4 rfl ((hF.eval rfl).trans (congrArg ptr (add_add' _ _ _))) rfl (hF.eval rfl) rfl (get_D (d := hd0) (by omega)) rfl (Nat.le_of_ble_eq_true rfl) rfl (all1 rfl)) ?_
      rintro a _ w ⟨-, hO⟩ hF
      have hO : St _ _ _ [_, _, _, _] := hO
      refine wl_nil ?_
      refine b_n ?_
      refine k_n ?_
      refine wp_region_lit ?_
      refine wl_v hF rfl rfl rfl (q_add rfl (hF.eval rfl) (hF.eval rfl) (by omega)) fun a hF => ?_
      refine wl_v hF rfl rfl rfl (q_move rfl (hF.eval rfl)) fun a hF => ?_
      refine wl_nil ?_
      refine k_n ?_
      have hO : St _ _ _ [_, _, _, _] := hO
      rw [← unknow_on, ← takeAt hx] at hO
      exact ⟨j + 1, ⟨by omega, hO, hF.sub ⟨rfl, rfl, rfl, rfl, trivial⟩⟩, by omega⟩
    · skip
      obtain rfl : j = h.rem.length := by omega
      rw [List.take_length] at hO
      refine wp_exit ?_
      refine k_x ?_
      refine k_x ?_
      refine b_x ?_
      refine k_n ?_
      refine wp_region_lit ?_
      refine wl_v hF rfl rfl rfl (q_move rfl (hF.eval rfl)) fun a hF => ?_
      refine wl_v hF rfl rfl rfl (q_nilCheck rfl (hF.eval rfl)) fun a hF => ?_
      refine wl_v hF rfl rfl rfl (q_fieldAddr0 (d := 12) Try.underlying77 rfl (hF.eval rfl) rfl Try.sizeOf36 (by decide) rfl) fun a hF => ?_
      refine wl_s hF rfl rfl (e_store1 hO (i := 0) rfl Try.sizeOf36 rfl (hF.eval rfl) (hF.eval rfl) rfl rfl rfl) ?_
      rintro a _ w ⟨-, hO⟩ hF
      have hO : St _ _ _ [_, _, _, _] := hO
      have hO := (hO.drop1 3).nilSl 3 1
      have hO := hO.perm (L' := [_, _, _, _]) ((List.perm_append_comm (l₁ := [_]) (l₂ := [_, _, _])).symm)
      refine wl_nil ?_
      refine r_0n hF rfl ?_
      have hO : St _ _ _ [_, _, _, _] := hO
      exact ⟨_, rfl, hO⟩

set_option maxHeartbeats 2000000 in
theorem new_r (w0 : World) (y o : Int) : Ret Try.prog 11 #[i64 y, i64 o] w0 (fun v w' => (newBad y o ∧ v = .tuple #[.pointer none, i64 1] ∧ St w0 [] w' []) ∨ (¬ newBad y o ∧ ∃ bh vw vh vr, v = .tuple #[ptr (adr bh), i64 0] ∧ St w0 [] w' [.ob bh 77 (hpC vw vh vr (newH y o)), slT vw 27 wordE (newH y o).words, slT vh 84 headE (newH y o).heads, slT vr 3 intE (newH y o).rem])) := by
  have hO := St.init0 w0
  refine ret_of (m := 53) Try.func11 rfl Try.ntmps11 [(0, i64 y), (1, i64 o)] rfl ⟨rfl, rfl, trivial⟩ fun a hF => ?_
  refine wp_seq ?_
  refine wp_region_lit ?_
  refine wl_v hF rfl rfl rfl (q_assign rfl (hF.eval rfl)) fun a hF => ?_
  refine wl_v hF rfl rfl rfl (q_assign rfl (hF.eval rfl)) fun a hF => ?_
  refine wl_nil ?_
  refine k_n ?_
  refine wp_seq ?_
  refine wp_seq ?_
  refine wp_region_lit ?_
  refine wl_v hF rfl rfl rfl (q_move rfl (hF.eval rfl)) fun a hF => ?_
  refine wl_v hF rfl rfl rfl (q_lt rfl (hF.eval rfl) (hF.eval rfl)) fun a hF => ?_
  refine wl_v hF rfl rfl rfl (q_move rfl (hF.eval rfl)) fun a hF => ?_
  refine wl_g hF rfl rfl rfl rfl rfl rfl (fun hg => q_move rfl (hF.eval rfl)) fun a hF => ?_
  refine wl_g hF rfl rfl rfl rfl rfl rfl (fun hg => q_gt rfl ((hF.eval rfl).trans (gv_of hg)) (hF.eval rfl)) fun a hF => ?_
  refine wl_v hF rfl rfl rfl (q_or rfl (hF.eval rfl) rfl (fun hg2 => ((hF.eval rfl).trans (gv_of hg2))) rfl) fun a hF => ?_
  refine wl_v hF rfl rfl rfl (q_move rfl (hF.eval rfl)) fun a hF => ?_
  refine wl_g hF rfl rfl rfl rfl rfl rfl (fun hg => q_move rfl (hF.eval rfl)) fun a hF => ?_
  refine wl_g hF rfl rfl rfl rfl rfl rfl (fun hg => q_lt rfl ((hF.eval rfl).trans (gv_of hg)) (hF.eval rfl)) fun a hF => ?_
  refine wl_v hF rfl rfl rfl (q_or rfl (hF.eval rfl) rfl (fun hg2 => ((hF.eval rfl).trans (gv_of hg2))) rfl) fun a hF => ?_
  refine wl_v hF rfl rfl rfl (q_move rfl (hF.eval rfl)) fun a hF => ?_
  refine wl_g hF rfl rfl rfl rfl rfl rfl (fun hg => q_move rfl (hF.eval rfl)) fun a hF => ?_
  refine wl_g hF rfl rfl rfl rfl rfl rfl (fun hg => q_gt rfl ((hF.eval rfl).trans (gv_of hg)) (hF.eval rfl)) fun a hF => ?_
  refine wl_v hF rfl rfl rfl (q_or rfl (hF.eval rfl) rfl (fun hg2 => ((hF.eval rfl).trans (gv_of hg2))) rfl) fun a hF => ?_
  refine wl_nil ?_
  refine k_n ?_
  refine wp_ifD hF rfl rfl (fun hc1 => ?_) (fun hc1 => ?_)
  · skip
    refine wp_seq ?_
    refine wp_region_lit ?_
    refine wl_v hF rfl rfl rfl (q_assign rfl (hF.eval rfl)) fun a hF => ?_
    refine wl_v hF rfl rfl rfl (q_assign rfl (hF.eval rfl)) fun a hF => ?_
    refine wl_nil ?_
    refine k_n ?_
    refine wp_ret ?_
    refine k_r ?_
    refine r_2 hF rfl rfl rfl ?_
    exact .inl ⟨hc1, rfl, hO⟩
  · skip
    have hnb : ¬ newBad y o := hc1
    have g1 := not_or.1 hc1
    have g2 := not_or.1 g1.1
    have g3 := not_or.1 g2.1
    have hN : ((y + 2 * o).toNat : Int) = y + 2 * o := Int.toNat_of_nonneg (by omega)
    refine wp_skip ?_
    refine k_n ?_
    refine wp_seq ?_
    refine wp_region_lit ?_
    refine wl_v hF rfl rfl rfl (q_move rfl (hF.eval rfl)) fun a hF => ?_
    refine wl_v hF rfl rfl rfl (q_move rfl (hF.eval rfl)) fun a hF => ?_
    refine wl_v hF rfl rfl rfl (q_mul rfl (hF.eval rfl) (hF.eval rfl) (by omega)) fun a hF => ?_
    refine wl_v hF rfl rfl rfl (q_add rfl (hF.eval rfl) (hF.eval rfl) (by omega)) fun a hF => ?_
    refine wl_v hF rfl rfl rfl (q_assign rfl (hF.eval rfl)) fun a hF => ?_
    refine wl_nil ?_
    refine k_n ?_
    refine wp_seq ?_
    refine wp_region_C [0, 4, 0, 4, 0, 0, 0, 4, 0] Try_mixed (by kernel_rfl) hO ?_
    refine wc_p hF rfl rfl rfl (fun w => q_move rfl (hF.eval rfl)) fun a hF => ?_
    refine wc_m hF rfl rfl rfl (m_makeT (E := wordE) (z := wd0) (m := (y + 2 * o).toNat) (bytes := 16) Try.underlying37 Try_info27 rfl rfl rfl rfl ((hF.eval rfl).trans (congrArg i64 hN.symm)) ((hF.eval rfl).trans (congrArg i64 hN.symm)) (by omega) (by omega)) fun b_w a hF => ?_
    refine wc_p hF rfl rfl rfl (fun w => q_move rfl (hF.eval rfl)) fun a hF => ?_
    refine wc_m hF rfl rfl rfl (m_makeT (E := headE) (z := hd0) (m := (y + 2 * o).toNat) (bytes := 40) Try.underlying72 Try_info84 rfl rfl rfl rfl ((hF.eval rfl).trans (congrArg i64 hN.symm)) ((hF.eval rfl).trans (congrArg i64 hN.symm)) (by omega) (by omega)) fun b_hd a hF => ?_
    refine wc_p hF rfl rfl rfl (fun w => q_move rfl (hF.eval rfl)) fun a hF => ?_
    refine wc_p hF rfl rfl rfl (fun w => c_build hF Try.underlying74 Try.zeroValue74 Try_places74 rfl rfl rfl rfl) fun a hF => ?_
    refine wc_p hF rfl rfl rfl (fun w => c_buildG hF Try.underlying77 Try.zeroValue77 Try_placesG77 rfl rfl rfl rfl) fun a hF => ?_
    refine wc_m hF rfl rfl rfl (m_box rfl (hF.eval rfl) rfl) fun b_bs a hF => ?_
    refine wc_p hF rfl rfl rfl (fun w => q_assign rfl (hF.eval rfl)) fun a hF => ?_
    refine wc_nil fun w hO => ?_
    have hO : St _ _ _ [_, _, _] := hO
    have hO := hO.asMade (E := wordE) (z := wd0) (i := 2) rfl rfl rfl (by omega)
    have hO := hO.asMade (E := headE) (z := hd0) (i := 1) rfl rfl rfl (by omega)
    have hO := hO.asOb (i := 0) rfl
    have hO : St _ _ _ [_, _, _] := hO
    refine k_n ?_
    refine wp_seq ?_
    refine wp_region_lit ?_
    refine wl_v hF rfl rfl rfl (q_move rfl (hF.eval rfl)) fun a hF => ?_
    refine wl_v hF rfl rfl rfl (q_move rfl (hF.eval rfl)) fun a hF => ?_
    refine wl_v hF rfl rfl rfl (q_move rfl (hF.eval rfl)) fun a hF => ?_
    refine wl_v hF rfl rfl rfl (q_move rfl (hF.eval rfl)) fun a hF => ?_
    refine wl_v hF rfl rfl rfl (q_move rfl (hF.eval rfl)) fun a hF => ?_
    refine wl_v hF rfl rfl rfl (q_add rfl (hF.eval rfl) (hF.eval rfl) (by omega)) fun a hF => ?_
    refine wl_v hF rfl rfl rfl (c_build hF Try.underlying74 Try.zeroValue74 Try_places74 rfl rfl rfl rfl) fun a hF => ?_
    refine wl_v hF rfl rfl rfl (q_move rfl (hF.eval rfl)) fun a hF => ?_
    refine wl_v hF rfl rfl rfl (q_move rfl (hF.eval rfl)) fun a hF => ?_
    refine wl_v hF rfl rfl rfl (q_add rfl (hF.eval rfl) (hF.eval rfl) (by omega)) fun a hF => ?_
    refine wl_v hF rfl rfl rfl (q_move rfl (hF.eval rfl)) fun a hF => ?_
    refine wl_v hF rfl rfl rfl (q_move rfl (hF.eval rfl)) fun a hF => ?_
    refine wl_v hF rfl rfl rfl (q_add rfl (hF.eval rfl) (hF.eval rfl) (by omega)) fun a hF => ?_
    refine wl_v hF rfl rfl rfl (q_move rfl (hF.eval rfl)) fun a hF => ?_
    refine wl_v hF rfl rfl rfl (c_build hF Try.underlying74 Try.zeroValue74 Try_places74 rfl rfl rfl rfl) fun a hF => ?_
    refine wl_v hF rfl rfl rfl (c_buildArr hF Try.underlying75 Try.zeroValue75 Try.sizeOf74 rfl rfl rfl rfl) fun a hF => ?_
    refine wl_v hF rfl rfl rfl (q_nilCheck rfl (hF.eval rfl)) fun a hF => ?_
    refine wl_v hF rfl rfl rfl (q_fieldAddr0 (d := 5) Try.underlying77 rfl (hF.eval rfl) rfl Try.sizeOf75 (by decide) rfl) fun a hF => ?_
    refine wl_s hF rfl rfl (e_store (k := 5) hO (i := 0) rfl Try.sizeOf75 rfl (hF.eval rfl) (hF.eval rfl) rfl (Nat.le_of_ble_eq_true rfl) (all1 rfl)) ?_
    rintro a _ w ⟨-, hO⟩ hF
    have hO : St _ _ _ [_, _, _] := hO
    have hO := hO.nilSl 3 1
    refine wl_nil ?_
    refine k_n ?_
    refine wp_seq ?_
    refine wp_region_lit ?_
    refine wl_v hF rfl rfl rfl (q_move rfl (hF.eval rfl)) fun a hF => ?_
    refine wl_v hF rfl rfl rfl (q_assign rfl (hF.eval rfl)) fun a hF => ?_
    refine wl_v hF rfl rfl rfl (q_assign rfl (hF.eval rfl)) fun a hF => ?_
    refine wl_nil ?_
    refine k_n ?_
    refine wp_ret ?_
    refine r_2 hF rfl rfl rfl ?_
    have hO := hO.pull 2 rfl
    have hO := hO.pull 3 rfl
    have hO := hO.pull 3 rfl
    exact .inr ⟨hnb, _, _, _, _, rfl, hO⟩

end Go.Proofs.Ytglienidnffnjaa
namespace Go.Proofs.Ytglienidnffnjaa
open Go
set_option maxRecDepth 100000
set_option linter.unusedVariables false
theorem nil_clear_r (w0 : World) : Ret Try.prog 20 #[.pointer none] w0 (fun v w' => v = .tuple #[] ∧ St w0 [] w' []) := by
  have hO := St.init0 w0
  refine ret_of (m := 31) Try.func20 rfl Try.ntmps20 [(0, .pointer none)] rfl ⟨rfl, trivial⟩ fun a hF => ?_
  refine wp_seq ?_
  refine wp_seq ?_
  refine wp_region_lit ?_
  refine wl_v hF rfl rfl rfl (q_move rfl (hF.eval rfl)) fun a hF => ?_
  refine wl_v hF rfl rfl rfl (q_peq Try.underlying22 rfl (hF.eval rfl) (hF.eval rfl)) fun a hF => ?_
  refine wl_nil ?_
  refine k_n ?_
  refine wp_ifD hF rfl rfl (fun hc1 => ?_) (fun hc1 => ?_)
  · skip
    refine wp_ret ?_
    refine k_r ?_
    refine r_0 hF rfl ?_
    have hO : St _ _ _ [] := hO
    exact ⟨rfl, hO⟩
  · skip
    exact absurd rfl hc1

theorem nil_flip_r (w0 : World) : Ret Try.prog 24 #[.pointer none] w0 (fun v w' => v = .tuple #[] ∧ St w0 [] w' []) := by
  have hO := St.init0 w0
  refine ret_of (m := 12) Try.func24 rfl Try.ntmps24 [(0, .pointer none)] rfl ⟨rfl, trivial⟩ fun a hF => ?_
  refine wp_seq ?_
  refine wp_region_lit ?_
  refine wl_v hF rfl rfl rfl (q_move rfl (hF.eval rfl)) fun a hF => ?_
  refine wl_v hF rfl rfl rfl (q_pne Try.underlying22 rfl (hF.eval rfl) (hF.eval rfl)) fun a hF => ?_
  refine wl_nil ?_
  refine k_n ?_
  refine wp_ifD hF rfl rfl (fun hc1 => ?_) (fun hc1 => ?_)
  · skip
    exact absurd rfl hc1
  · skip
    refine wp_skip ?_
    refine r_0n hF rfl ?_
    have hO : St _ _ _ [] := hO
    exact ⟨rfl, hO⟩

theorem nil_drop_r (w0 : World) : Ret Try.prog 38 #[.pointer none] w0 (fun v w' => v = .tuple #[] ∧ St w0 [] w' []) := by
  have hO := St.init0 w0
  refine ret_of (m := 24) Try.func38 rfl Try.ntmps38 [(0, .pointer none)] rfl ⟨rfl, trivial⟩ fun a hF => ?_
  refine wp_seq ?_
  refine wp_region_lit ?_
  refine wl_e hF rfl rfl rfl (e_box hO rfl (hF.eval rfl) rfl) ?_
  rintro a _ w ⟨hb, rfl, hO⟩ hF
  refine wl_nil ?_
  refine k_n ?_
  refine wp_seq ?_
  refine wp_seq ?_
  refine wp_region_lit ?_
  refine wl_v hF rfl rfl rfl (q_load Try.isAgg22 rfl (hF.eval rfl) (hO.cell0 0 rfl rfl)) fun a hF => ?_
  refine wl_v hF rfl rfl rfl (q_peq Try.underlying22 rfl (hF.eval rfl) (hF.eval rfl)) fun a hF => ?_
  refine wl_nil ?_
  refine k_n ?_
  refine wp_ifD hF rfl rfl (fun hc1 => ?_) (fun hc1 => ?_)
  · skip
    refine wp_ret ?_
    refine k_r ?_
    refine r_0 hF rfl ?_
    have hO := hO.drop1 0
    have hO : St _ _ _ [] := hO
    exact ⟨rfl, hO⟩
  · skip
    exact absurd rfl hc1

theorem nil_alloc_r (w0 : World) (kind info : Int) (vf : Value) : Ret Try.prog 12 #[.pointer none, i64 kind, i64 info, vf] w0 (fun v w' => v = .tuple #[i64 0, i64 2] ∧ St w0 [] w' []) := by
  have hO := St.init0 w0
  refine ret_of (m := 22) Try.func12 rfl Try.ntmps12 [(0, .pointer none), (1, i64 kind), (2, i64 info), (3, vf)] rfl ⟨rfl, rfl, rfl, rfl, trivial⟩ fun a hF => ?_
  refine wp_seq ?_
  refine wp_region_lit ?_
  refine wl_v hF rfl rfl rfl (q_assign rfl (hF.eval rfl)) fun a hF => ?_
  refine wl_v hF rfl rfl rfl (q_assign rfl (hF.eval rfl)) fun a hF => ?_
  refine wl_nil ?_
  refine k_n ?_
  refine wp_seq ?_
  refine wp_seq ?_
  refine wp_region_lit ?_
  refine wl_v hF rfl rfl rfl (q_move rfl (hF.eval rfl)) fun a hF => ?_
  refine wl_v hF rfl rfl rfl (q_peq Try.underlying22 rfl (hF.eval rfl) (hF.eval rfl)) fun a hF => ?_
  refine wl_nil ?_
  refine k_n ?_
  refine wp_ifD hF rfl rfl (fun hc1 => ?_) (fun hc1 => ?_)
  · skip
    refine wp_seq ?_
    refine wp_region_lit ?_
    refine wl_v hF rfl rfl rfl (q_assign rfl (hF.eval rfl)) fun a hF => ?_
    refine wl_v hF rfl rfl rfl (q_assign rfl (hF.eval rfl)) fun a hF => ?_
    refine wl_nil ?_
    refine k_n ?_
    refine wp_ret ?_
    refine k_r ?_
    refine r_2 hF rfl rfl rfl ?_
    have hO : St _ _ _ [] := hO
    exact ⟨rfl, hO⟩
  · skip
    exact absurd rfl hc1

theorem nil_keep_r (w0 : World) (kind info : Int) (vf : Value) : Ret Try.prog 16 #[.pointer none, i64 kind, i64 info, vf] w0 (fun v w' => v = .tuple #[i64 0, i64 2] ∧ St w0 [] w' []) := by
  have hO := St.init0 w0
  refine ret_of (m := 27) Try.func16 rfl Try.ntmps16 [(0, .pointer none), (1, i64 kind), (2, i64 info), (3, vf)] rfl ⟨rfl, rfl, rfl, rfl, trivial⟩ fun a hF => ?_
  refine wp_seq ?_
  refine wp_region_lit ?_
  refine wl_v hF rfl rfl rfl (q_assign rfl (hF.eval rfl)) fun a hF => ?_
  refine wl_v hF rfl rfl rfl (q_assign rfl (hF.eval rfl)) fun a hF => ?_
  refine wl_nil ?_
  refine k_n ?_
  refine wp_seq ?_
  refine wp_seq ?_
  refine wp_region_lit ?_
  refine wl_v hF rfl rfl rfl (q_move rfl (hF.eval rfl)) fun a hF => ?_
  refine wl_v hF rfl rfl rfl (q_peq Try.underlying22 rfl (hF.eval rfl) (hF.eval rfl)) fun a hF => ?_
  refine wl_nil ?_
  refine k_n ?_
  refine wp_ifD hF rfl rfl (fun hc1 => ?_) (fun hc1 => ?_)
  · skip
    refine wp_seq ?_
    refine wp_region_lit ?_
    refine wl_v hF rfl rfl rfl (q_assign rfl (hF.eval rfl)) fun a hF => ?_
    refine wl_v hF rfl rfl rfl (q_assign rfl (hF.eval rfl)) fun a hF => ?_
    refine wl_nil ?_
    refine k_n ?_
    refine wp_ret ?_
    refine k_r ?_
    refine r_2 hF rfl rfl rfl ?_
    have hO : St _ _ _ [] := hO
    exact ⟨rfl, hO⟩
  · skip
    exact absurd rfl hc1

theorem nil_object_r (w0 : World) (at_ : Int) : Ret Try.prog 18 #[.pointer none, i64 at_] w0 (fun v w' => v = .tuple #[.agg #[i64 0, i64 0, .slice none 0 0], i64 2] ∧ St w0 [] w' []) := by
  have hO := St.init0 w0
  refine ret_of (m := 40) Try.func18 rfl Try.ntmps18 [(0, .pointer none), (1, i64 at_)] rfl ⟨rfl, rfl, trivial⟩ fun a hF => ?_
  refine wp_seq ?_
  refine wp_region_lit ?_
  refine wl_e hF rfl rfl rfl (e_alloc hO Try.zeroValue42 rfl rfl) ?_
  rintro a _ w ⟨ob, rfl, hO⟩ hF
  refine wl_v hF rfl rfl rfl (q_assign rfl (hF.eval rfl)) fun a hF => ?_
  refine wl_nil ?_
  refine k_n ?_
  refine wp_seq ?_
  refine wp_seq ?_
  refine wp_region_lit ?_
  refine wl_v hF rfl rfl rfl (q_move rfl (hF.eval rfl)) fun a hF => ?_
  refine wl_v hF rfl rfl rfl (q_peq Try.underlying22 rfl (hF.eval rfl) (hF.eval rfl)) fun a hF => ?_
  refine wl_nil ?_
  refine k_n ?_
  refine wp_ifD hF rfl rfl (fun hc1 => ?_) (fun hc1 => ?_)
  · skip
    refine wp_seq ?_
    refine wp_region_lit ?_
    refine wl_v hF rfl rfl rfl (c_build hF Try.underlying42 Try.zeroValue42 Try_places42 rfl rfl rfl rfl) fun a hF => ?_
    refine wl_s hF rfl rfl (e_storeAll hO (i := 0) rfl Try.sizeOf42 rfl (hF.eval rfl) (hF.eval rfl) rfl rfl) ?_
    rintro a _ w ⟨-, hO⟩ hF
    have hO : St _ _ _ [_] := hO
    refine wl_v hF rfl rfl rfl (q_assign rfl (hF.eval rfl)) fun a hF => ?_
    refine wl_nil ?_
    refine k_n ?_
    refine wp_ret ?_
    refine k_r ?_
    refine r_ct hF rfl rfl rfl Try.isAgg42 Try.sizeOf42 (hO.cells 0 rfl) rfl ?_
    have hO := hO.drop1 0
    have hO : St _ _ _ [] := hO
    exact ⟨rfl, hO⟩
  · skip
    exact absurd rfl hc1

theorem nil_used_r (w0 : World) : Ret Try.prog 19 #[.pointer none] w0 (fun v w' => v = .tuple #[i64 0, i64 0] ∧ St w0 [] w' []) := by
  have hO := St.init0 w0
  refine ret_of (m := 32) Try.func19 rfl Try.ntmps19 [(0, .pointer none)] rfl ⟨rfl, trivial⟩ fun a hF => ?_
  refine wp_seq ?_
  refine wp_region_lit ?_
  refine wl_v hF rfl rfl rfl (q_assign rfl (hF.eval rfl)) fun a hF => ?_
  refine wl_v hF rfl rfl rfl (q_assign rfl (hF.eval rfl)) fun a hF => ?_
  refine wl_nil ?_
  refine k_n ?_
  refine wp_seq ?_
  refine wp_seq ?_
  refine wp_region_lit ?_
  refine wl_v hF rfl rfl rfl (q_move rfl (hF.eval rfl)) fun a hF => ?_
  refine wl_v hF rfl rfl rfl (q_peq Try.underlying22 rfl (hF.eval rfl) (hF.eval rfl)) fun a hF => ?_
  refine wl_nil ?_
  refine k_n ?_
  refine wp_ifD hF rfl rfl (fun hc1 => ?_) (fun hc1 => ?_)
  · skip
    refine wp_seq ?_
    refine wp_region_lit ?_
    refine wl_v hF rfl rfl rfl (q_assign rfl (hF.eval rfl)) fun a hF => ?_
    refine wl_v hF rfl rfl rfl (q_assign rfl (hF.eval rfl)) fun a hF => ?_
    refine wl_nil ?_
    refine k_n ?_
    refine wp_ret ?_
    refine k_r ?_
    refine r_2 hF rfl rfl rfl ?_
    have hO : St _ _ _ [] := hO
    exact ⟨rfl, hO⟩
  · skip
    exact absurd rfl hc1

theorem nil_set_r (w0 : World) (at_ field : Int) (x : Wd) : Ret Try.prog 17 #[.pointer none, i64 at_, i64 field, .agg (wordE.cells x).toArray] w0 (fun v w' => v = i64 2 ∧ St w0 [] w' []) := by
  have hO := St.init0 w0
  refine ret_of (m := 50) Try.func17 rfl Try.ntmps17 [(0, .pointer none), (1, i64 at_), (2, i64 field), (3, .agg (wordE.cells x).toArray)] rfl ⟨rfl, rfl, rfl, rfl, trivial⟩ fun a hF => ?_
  refine wp_seq ?_
  refine wp_region_lit ?_
  refine wl_e hF rfl rfl rfl (e_box hO rfl (hF.eval rfl) rfl) ?_
  rintro a _ w ⟨tk, rfl, hO⟩ hF
  refine wl_v hF rfl rfl rfl (q_assign rfl (hF.eval rfl)) fun a hF => ?_
  refine wl_nil ?_
  refine k_n ?_
  refine wp_seq ?_
  refine wp_seq ?_
  refine wp_region_lit ?_
  refine wl_v hF rfl rfl rfl (q_move rfl (hF.eval rfl)) fun a hF => ?_
  refine wl_v hF rfl rfl rfl (q_peq Try.underlying22 rfl (hF.eval rfl) (hF.eval rfl)) fun a hF => ?_
  refine wl_nil ?_
  refine k_n ?_
  refine wp_ifD hF rfl rfl (fun hc1 => ?_) (fun hc1 => ?_)
  · skip
    refine wp_seq ?_
    refine wp_region_lit ?_
    refine wl_v hF rfl rfl rfl (q_assign rfl (hF.eval rfl)) fun a hF => ?_
    refine wl_nil ?_
    refine k_n ?_
    refine wp_ret ?_
    refine k_r ?_
    refine r_1 hF rfl rfl ?_
    have hO := hO.drop1 0
    have hO : St _ _ _ [] := hO
    exact ⟨rfl, hO⟩
  · skip
    exact absurd rfl hc1

theorem nil_hole_r (w0 : World) (at_ : Int) : Ret Try.prog 23 #[.pointer none, i64 at_] w0 (fun v w' => v = i64 2 ∧ St w0 [] w' []) := by
  have hO := St.init0 w0
  refine ret_of (m := 23) Try.func23 rfl Try.ntmps23 [(0, .pointer none), (1, i64 at_)] rfl ⟨rfl, rfl, trivial⟩ fun a hF => ?_
  refine wp_seq ?_
  refine wp_region_lit ?_
  refine wl_v hF rfl rfl rfl (q_assign rfl (hF.eval rfl)) fun a hF => ?_
  refine wl_nil ?_
  refine k_n ?_
  refine wp_seq ?_
  refine wp_seq ?_
  refine wp_region_lit ?_
  refine wl_v hF rfl rfl rfl (q_move rfl (hF.eval rfl)) fun a hF => ?_
  refine wl_v hF rfl rfl rfl (q_peq Try.underlying22 rfl (hF.eval rfl) (hF.eval rfl)) fun a hF => ?_
  refine wl_nil ?_
  refine k_n ?_
  refine wp_ifD hF rfl rfl (fun hc1 => ?_) (fun hc1 => ?_)
  · skip
    refine wp_seq ?_
    refine wp_region_lit ?_
    refine wl_v hF rfl rfl rfl (q_assign rfl (hF.eval rfl)) fun a hF => ?_
    refine wl_nil ?_
    refine k_n ?_
    refine wp_ret ?_
    refine k_r ?_
    refine r_1 hF rfl rfl ?_
    have hO : St _ _ _ [] := hO
    exact ⟨rfl, hO⟩
  · skip
    exact absurd rfl hc1

theorem nil_link_r (w0 : World) (at_ : Int) (x : Wd) : Ret Try.prog 13 #[.pointer none, i64 at_, .agg (wordE.cells x).toArray] w0 (fun v w' => v = i64 2 ∧ St w0 [] w' []) := by
  have hO := St.init0 w0
  refine ret_of (m := 57) Try.func13 rfl Try.ntmps13 [(0, .pointer none), (1, i64 at_), (2, .agg (wordE.cells x).toArray)] rfl ⟨rfl, rfl, rfl, trivial⟩ fun a hF => ?_
  refine wp_seq ?_
  refine wp_region_lit ?_
  refine wl_e hF rfl rfl rfl (e_box hO rfl (hF.eval rfl) rfl) ?_
  rintro a _ w ⟨tk, rfl, hO⟩ hF
  refine wl_v hF rfl rfl rfl (q_assign rfl (hF.eval rfl)) fun a hF => ?_
  refine wl_nil ?_
  refine k_n ?_
  refine wp_seq ?_
  refine wp_seq ?_
  refine wp_region_lit ?_
  refine wl_v hF rfl rfl rfl (q_move rfl (hF.eval rfl)) fun a hF => ?_
  refine wl_v hF rfl rfl rfl (q_peq Try.underlying22 rfl (hF.eval rfl) (hF.eval rfl)) fun a hF => ?_
  refine wl_nil ?_
  refine k_n ?_
  refine wp_ifD hF rfl rfl (fun hc1 => ?_) (fun hc1 => ?_)
  · skip
    refine wp_seq ?_
    refine wp_region_lit ?_
    refine wl_v hF rfl rfl rfl (q_assign rfl (hF.eval rfl)) fun a hF => ?_
    refine wl_nil ?_
    refine k_n ?_
    refine wp_ret ?_
    refine k_r ?_
    refine r_1 hF rfl rfl ?_
    have hO := hO.drop1 0
    have hO : St _ _ _ [] := hO
    exact ⟨rfl, hO⟩
  · skip
    exact absurd rfl hc1

theorem nil_chase_r (w0 : World) (x : Wd) : Ret Try.prog 14 #[.pointer none, .agg (wordE.cells x).toArray] w0 (fun v w' => v = .agg (wordE.cells x).toArray ∧ St w0 [] w' []) := by
  have hO := St.init0 w0
  refine ret_of (m := 36) Try.func14 rfl Try.ntmps14 [(0, .pointer none), (1, .agg (wordE.cells x).toArray)] rfl ⟨rfl, rfl, trivial⟩ fun a hF => ?_
  refine wp_seq ?_
  refine wp_region_lit ?_
  refine wl_e hF rfl rfl rfl (e_box hO rfl (hF.eval rfl) rfl) ?_
  rintro a _ w ⟨hb, rfl, hO⟩ hF
  refine wl_e hF rfl rfl rfl (e_box hO rfl (hF.eval rfl) rfl) ?_
  rintro a _ w ⟨wb, rfl, hO⟩ hF
  refine wl_e hF rfl rfl rfl (e_alloc hO Try.zeroValue27 rfl rfl) ?_
  rintro a _ w ⟨rs, rfl, hO⟩ hF
  refine wl_nil ?_
  refine k_n ?_
  refine wp_seq ?_
  refine wp_seq ?_
  refine wp_region_lit ?_
  refine wl_v hF rfl rfl rfl (q_load Try.isAgg22 rfl (hF.eval rfl) (hO.cell0 2 rfl rfl)) fun a hF => ?_
  refine wl_v hF rfl rfl rfl (q_peq Try.underlying22 rfl (hF.eval rfl) (hF.eval rfl)) fun a hF => ?_
  refine wl_nil ?_
  refine k_n ?_
  refine wp_ifD hF rfl rfl (fun hc1 => ?_) (fun hc1 => ?_)
  · skip
    refine wp_seq ?_
    refine wp_region_lit ?_
    refine wl_v hF rfl rfl rfl (q_loadAgg Try.isAgg27 Try.sizeOf27 rfl (hF.eval rfl) (hO.cells 1 rfl) rfl) fun a hF => ?_
    refine wl_s hF rfl rfl (e_storeAll hO (i := 0) rfl Try.sizeOf27 rfl (hF.eval rfl) (hF.eval rfl) rfl rfl) ?_
    rintro a _ w ⟨-, hO⟩ hF
    have hO : St _ _ _ [_, _, _] := hO
    refine wl_nil ?_
    refine k_n ?_
    refine wp_ret ?_
    refine k_r ?_
    refine r_c1 hF rfl rfl Try.isAgg27 Try.sizeOf27 (hO.cells 0 rfl) rfl ?_
    have hO := hO.drop1 0
    have hO := hO.drop1 0
    have hO := hO.drop1 0
    have hO : St _ _ _ [] := hO
    exact ⟨rfl, hO⟩
  · skip
    exact absurd rfl hc1

theorem nil_left_r (w0 : World) : Ret Try.prog 41 #[.pointer none] w0 (fun v w' => v = i64 0 ∧ St w0 [] w' []) := by
  have hO := St.init0 w0
  refine ret_of (m := 21) Try.func41 rfl Try.ntmps41 [(0, .pointer none)] rfl ⟨rfl, trivial⟩ fun a hF => ?_
  refine wp_seq ?_
  refine wp_region_lit ?_
  refine wl_v hF rfl rfl rfl (q_assign rfl (hF.eval rfl)) fun a hF => ?_
  refine wl_nil ?_
  refine k_n ?_
  refine wp_seq ?_
  refine wp_seq ?_
  refine wp_region_lit ?_
  refine wl_v hF rfl rfl rfl (q_move rfl (hF.eval rfl)) fun a hF => ?_
  refine wl_v hF rfl rfl rfl (q_peq Try.underlying22 rfl (hF.eval rfl) (hF.eval rfl)) fun a hF => ?_
  refine wl_nil ?_
  refine k_n ?_
  refine wp_ifD hF rfl rfl (fun hc1 => ?_) (fun hc1 => ?_)
  · skip
    refine wp_seq ?_
    refine wp_region_lit ?_
    refine wl_v hF rfl rfl rfl (q_assign rfl (hF.eval rfl)) fun a hF => ?_
    refine wl_nil ?_
    refine k_n ?_
    refine wp_ret ?_
    refine k_r ?_
    refine r_1 hF rfl rfl ?_
    have hO : St _ _ _ [] := hO
    exact ⟨rfl, hO⟩
  · skip
    exact absurd rfl hc1

theorem nil_half_r (w0 : World) : Ret Try.prog 43 #[.pointer none] w0 (fun v w' => v = i64 0 ∧ St w0 [] w' []) := by
  have hO := St.init0 w0
  refine ret_of (m := 18) Try.func43 rfl Try.ntmps43 [(0, .pointer none)] rfl ⟨rfl, trivial⟩ fun a hF => ?_
  refine wp_seq ?_
  refine wp_region_lit ?_
  refine wl_v hF rfl rfl rfl (q_assign rfl (hF.eval rfl)) fun a hF => ?_
  refine wl_nil ?_
  refine k_n ?_
  refine wp_seq ?_
  refine wp_seq ?_
  refine wp_region_lit ?_
  refine wl_v hF rfl rfl rfl (q_move rfl (hF.eval rfl)) fun a hF => ?_
  refine wl_v hF rfl rfl rfl (q_peq Try.underlying22 rfl (hF.eval rfl) (hF.eval rfl)) fun a hF => ?_
  refine wl_nil ?_
  refine k_n ?_
  refine wp_ifD hF rfl rfl (fun hc1 => ?_) (fun hc1 => ?_)
  · skip
    refine wp_seq ?_
    refine wp_region_lit ?_
    refine wl_v hF rfl rfl rfl (q_assign rfl (hF.eval rfl)) fun a hF => ?_
    refine wl_nil ?_
    refine k_n ?_
    refine wp_ret ?_
    refine k_r ?_
    refine r_1 hF rfl rfl ?_
    have hO : St _ _ _ [] := hO
    exact ⟨rfl, hO⟩
  · skip
    exact absurd rfl hc1

theorem nil_remembered_r (w0 : World) : Ret Try.prog 25 #[.pointer none] w0 (fun v w' => v = .slice none 0 0 ∧ St w0 [] w' []) := by
  have hO := St.init0 w0
  refine ret_of (m := 14) Try.func25 rfl Try.ntmps25 [(0, .pointer none)] rfl ⟨rfl, trivial⟩ fun a hF => ?_
  refine wp_seq ?_
  refine wp_region_lit ?_
  refine wl_v hF rfl rfl rfl (q_assign rfl (hF.eval rfl)) fun a hF => ?_
  refine wl_nil ?_
  refine k_n ?_
  refine wp_seq ?_
  refine wp_seq ?_
  refine wp_region_lit ?_
  refine wl_v hF rfl rfl rfl (q_move rfl (hF.eval rfl)) fun a hF => ?_
  refine wl_v hF rfl rfl rfl (q_peq Try.underlying22 rfl (hF.eval rfl) (hF.eval rfl)) fun a hF => ?_
  refine wl_nil ?_
  refine k_n ?_
  refine wp_ifD hF rfl rfl (fun hc1 => ?_) (fun hc1 => ?_)
  · skip
    refine wp_seq ?_
    refine wp_region_lit ?_
    refine wl_v hF rfl rfl rfl (q_assign rfl (hF.eval rfl)) fun a hF => ?_
    refine wl_nil ?_
    refine k_n ?_
    refine wp_ret ?_
    refine k_r ?_
    refine r_1 hF rfl rfl ?_
    have hO : St _ _ _ [] := hO
    exact ⟨rfl, hO⟩
  · skip
    exact absurd rfl hc1

theorem nil_young_r (w0 : World) (at_ : Int) : Ret Try.prog 26 #[.pointer none, i64 at_] w0 (fun v w' => v = .bool false ∧ St w0 [] w' []) := by
  have hO := St.init0 w0
  refine ret_of (m := 22) Try.func26 rfl Try.ntmps26 [(0, .pointer none), (1, i64 at_)] rfl ⟨rfl, rfl, trivial⟩ fun a hF => ?_
  refine wp_seq ?_
  refine wp_region_lit ?_
  refine wl_v hF rfl rfl rfl (q_assign rfl (hF.eval rfl)) fun a hF => ?_
  refine wl_nil ?_
  refine k_n ?_
  refine wp_seq ?_
  refine wp_region_lit ?_
  refine wl_v hF rfl rfl rfl (q_move rfl (hF.eval rfl)) fun a hF => ?_
  refine wl_v hF rfl rfl rfl (q_pne Try.underlying22 rfl (hF.eval rfl) (hF.eval rfl)) fun a hF => ?_
  refine wl_v hF rfl rfl rfl (q_move rfl (hF.eval rfl)) fun a hF => ?_
  refine wl_g hF rfl rfl rfl rfl rfl rfl (fun hg => q_move rfl (hF.eval rfl)) fun a hF => ?_
  refine wl_g hF rfl rfl rfl rfl rfl rfl (fun hg => q_move rfl (hF.eval rfl)) fun a hF => ?_
  refine wl_g hF rfl rfl rfl rfl rfl rfl (fun hg => (absurd (of_g hg) (fun h => h rfl) : QV _ _ _ _ (ptr (adr 0)))) fun a hF => ?_
  refine wl_g hF rfl rfl rfl rfl rfl rfl (fun hg => q_fieldAddr0 (d := 2) Try.underlying77 rfl ((hF.eval rfl).trans (gv_of hg)) rfl Try.sizeOf74 (by decide) rfl) fun a hF => ?_
  refine wl_g hF rfl rfl rfl rfl rfl rfl (fun hg => q_fieldAddr (d := 2) Try.underlying74 rfl ((hF.eval rfl).trans (gv_of hg)) rfl Try.sizeOf3 (by decide) rfl) fun a hF => ?_
  refine wl_g hF rfl rfl rfl rfl rfl rfl (fun hg => (absurd (of_g hg) (fun h => h rfl) : QV _ _ _ _ (i64 0))) fun a hF => ?_
  refine wl_g hF rfl rfl rfl rfl rfl rfl (fun hg => q_lt rfl ((hF.eval rfl).trans (gv_of hg)) ((hF.eval rfl).trans (gv_of hg))) fun a hF => ?_
  refine wl_v hF rfl rfl rfl (q_and rfl (hF.eval rfl) rfl (fun hg2 => ((hF.eval rfl).trans (gv_of hg2))) rfl) fun a hF => ?_
  refine wl_v hF rfl rfl rfl (q_move rfl (hF.eval rfl)) fun a hF => ?_
  refine wl_g hF rfl rfl rfl rfl rfl rfl (fun hg => q_move rfl (hF.eval rfl)) fun a hF => ?_
  refine wl_g hF rfl rfl rfl rfl rfl rfl (fun hg => q_move rfl (hF.eval rfl)) fun a hF => ?_
  refine wl_gk hO hF rfl rfl rfl rfl rfl rfl (fun hg => c_callG hF rfl rfl (by first | with_reducible rfl | (simp only [gv_of hg]; done) | (simp only [gv_of hg]; rfl)) Try.call53 ((absurd (of_g hg).1 (fun h => h rfl) : Ret _ _ _ _ (fun u w' => u = .pointer none ∧ St _ [] w' [])))) fun a w hO hF => ?_
  refine wl_g hF rfl rfl rfl rfl rfl rfl (fun hg => q_pne Try.underlying80 rfl ((hF.eval rfl).trans (gv_of hg)) (hF.eval rfl)) fun a hF => ?_
  refine wl_v hF rfl rfl rfl (q_and rfl (hF.eval rfl) rfl (fun hg2 => ((hF.eval rfl).trans (gv_of hg2))) rfl) fun a hF => ?_
  refine wl_v hF rfl rfl rfl (q_assign rfl (hF.eval rfl)) fun a hF => ?_
  refine wl_nil ?_
  refine k_n ?_
  refine wp_ret ?_
  refine r_1 hF rfl rfl ?_
  have hO : St _ _ _ [] := hO
  exact ⟨congrArg Value.bool (decide_eq_false fun h => h.1.1 rfl), hO⟩

end Go.Proofs.Ytglienidnffnjaa
