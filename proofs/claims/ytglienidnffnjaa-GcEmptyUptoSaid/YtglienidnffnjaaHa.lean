import Derived.Test.YtglienidnffnjaaGf
import Derived.Test.YtglienidnffnjaaGw19
import Derived.Test.YtglienidnffnjaaPl7
namespace Go.Proofs.Ytglienidnffnjaa
open Go
set_option maxRecDepth 100000
set_option linter.unusedVariables false
theorem head_r (w0 : World) (bh : Nat) (vw vh vr : Value) (h : Hp) (hH : HR w0 [] bh vw vh vr h) (at_ : Int) : Ret Try.prog 53 #[ptr (adr bh), i64 at_] w0 (fun v w' => v = .pointer (hdP vh (headAt h.heads at_)) ∧ St w0 [] w' []) := by
  have hO := St.init0 w0
  refine ret_of (m := 33) Try.func53 rfl Try.ntmps53 [(0, ptr (adr bh)), (1, i64 at_)] rfl ⟨rfl, rfl, trivial⟩ fun a hF => ?_
  refine wp_seq ?_
  refine wp_region_lit ?_
  refine wl_v hF rfl rfl rfl (q_assign rfl (hF.eval rfl)) fun a hF => ?_
  refine wl_nil ?_
  refine k_n ?_
  refine wp_seq ?_
  refine wp_seq ?_
  refine wp_region_lit ?_
  refine wl_v hF rfl rfl rfl (q_move rfl (hF.eval rfl)) fun a hF => ?_
  refine wl_v hF rfl rfl rfl (q_lt rfl (hF.eval rfl) (hF.eval rfl)) fun a hF => ?_
  refine wl_v hF rfl rfl rfl (q_move rfl (hF.eval rfl)) fun a hF => ?_
  refine wl_g hF rfl rfl rfl rfl rfl rfl (fun hg => q_move rfl (hF.eval rfl)) fun a hF => ?_
  refine wl_g hF rfl rfl rfl rfl rfl rfl (fun hg => q_move rfl (hF.eval rfl)) fun a hF => ?_
  refine wl_g hF rfl rfl rfl rfl rfl rfl (fun hg => q_nilCheck rfl ((hF.eval rfl).trans (gv_of hg))) fun a hF => ?_
  refine wl_g hF rfl rfl rfl rfl rfl rfl (fun hg => q_fieldAddr0 (d := 1) Try.underlying77 rfl ((hF.eval rfl).trans (gv_of hg)) rfl Try.sizeOf72 (by decide) rfl) fun a hF => ?_
  refine wl_g hF rfl rfl rfl rfl rfl rfl (fun hg => q_load Try.isAgg72 rfl ((hF.eval rfl).trans (gv_of hg)) (rdB_cell (HR.now hH hO).blk rfl)) fun a hF => ?_
  refine wl_g hF rfl rfl rfl rfl rfl rfl (fun hg => q_lenRd hH.hs Try.underlying72 rfl ((hF.eval rfl).trans (gv_of hg))) fun a hF => ?_
  refine wl_g hF rfl rfl rfl rfl rfl rfl (fun hg => q_ge rfl ((hF.eval rfl).trans (gv_of hg)) ((hF.eval rfl).trans (gv_of hg))) fun a hF => ?_
  refine wl_v hF rfl rfl rfl (q_or rfl (hF.eval rfl) rfl (fun hg2 => ((hF.eval rfl).trans (gv_of hg2))) rfl) fun a hF => ?_
  refine wl_v hF rfl rfl rfl (q_move rfl (hF.eval rfl)) fun a hF => ?_
  refine wl_g hF rfl rfl rfl rfl rfl rfl (fun hg => q_move rfl (hF.eval rfl)) fun a hF => ?_
  refine wl_g hF rfl rfl rfl rfl rfl rfl (fun hg => q_nilCheck rfl ((hF.eval rfl).trans (gv_of hg))) fun a hF => ?_
  refine wl_g hF rfl rfl rfl rfl rfl rfl (fun hg => q_fieldAddr0 (d := 1) Try.underlying77 rfl ((hF.eval rfl).trans (gv_of hg)) rfl Try.sizeOf72 (by decide) rfl) fun a hF => ?_
  refine wl_g hF rfl rfl rfl rfl rfl rfl (fun hg => q_load Try.isAgg72 rfl ((hF.eval rfl).trans (gv_of hg)) (rdB_cell (HR.now hH hO).blk rfl)) fun a hF => ?_
  refine wl_g hF rfl rfl rfl rfl rfl rfl (fun hg => q_move rfl (hF.eval rfl)) fun a hF => ?_
  refine wl_g hF rfl rfl rfl rfl rfl rfl (fun hg => q_at (i := at_.toNat) hH.hs Try.underlying72 Try.sizeOf84 rfl ((hF.eval rfl).trans (gv_of hg)) (((hF.eval rfl).trans (gv_of hg)).trans (congrArg i64 ((Int.toNat_of_nonneg (by have := not_or.1 (of_gn hg); omega)).symm))) (by have := not_or.1 (of_gn hg); omega)) fun a hF => ?_
  refine wl_g hF rfl rfl rfl rfl rfl rfl (fun hg => q_fieldAddr0 (d := 0) Try.underlying84 rfl ((hF.eval rfl).trans (gv_of hg)) rfl Try.sizeOf3 (by decide) rfl) fun a hF => ?_
  refine wl_g hF rfl rfl rfl rfl rfl rfl (fun hg => q_load Try.isAgg3 rfl ((hF.eval rfl).trans (gv_of hg)) (RdT.cells (hH.hs.now hO) (get_D (d := hd0) (by have := not_or.1 (of_gn hg); omega)) _ _ rfl)) fun a hF => ?_
  refine wl_g hF rfl rfl rfl rfl rfl rfl (fun hg => q_eq rfl ((hF.eval rfl).trans (gv_of hg)) (hF.eval rfl)) fun a hF => ?_
  refine wl_v hF rfl rfl rfl (q_or rfl (hF.eval rfl) rfl (fun hg2 => ((hF.eval rfl).trans (gv_of hg2))) rfl) fun a hF => ?_
  refine wl_nil ?_
  refine k_n ?_
  refine wp_ifD hF rfl rfl (fun hc1 => ?_) (fun hc1 => ?_)
  · skip
    refine wp_seq ?_
    refine wp_region_lit ?_
    refine wl_v hF rfl rfl rfl (q_assign rfl (hF.eval rfl)) fun a hF => ?_
    refine wl_nil ?_
    refine k_n ?_
    refine wp_ret ?_
    refine k_r ?_
    refine r_1 hF rfl rfl ?_
    have hO : St _ _ _ [] := hO
    exact ⟨by unfold headAt; rw [if_pos hc1]; rfl, hO⟩
  · skip
    refine wp_skip ?_
    refine k_n ?_
    refine wp_seq ?_
    refine wp_region_lit ?_
    refine wl_v hF rfl rfl rfl (q_move rfl (hF.eval rfl)) fun a hF => ?_
    refine wl_v hF rfl rfl rfl (q_nilCheck rfl (hF.eval rfl)) fun a hF => ?_
    refine wl_v hF rfl rfl rfl (q_fieldAddr0 (d := 1) Try.underlying77 rfl (hF.eval rfl) rfl Try.sizeOf72 (by decide) rfl) fun a hF => ?_
    refine wl_v hF rfl rfl rfl (q_load Try.isAgg72 rfl (hF.eval rfl) (rdB_cell (HR.now hH hO).blk rfl)) fun a hF => ?_
    refine wl_v hF rfl rfl rfl (q_move rfl (hF.eval rfl)) fun a hF => ?_
    refine wl_v hF rfl rfl rfl (q_at (i := at_.toNat) hH.hs Try.underlying72 Try.sizeOf84 rfl (hF.eval rfl) ((hF.eval rfl).trans (congrArg i64 ((Int.toNat_of_nonneg (by have := not_or.1 (not_or.1 hc1).1; omega)).symm))) (by have := not_or.1 (not_or.1 hc1).1; omega)) fun a hF => ?_
    refine wl_v hF rfl rfl rfl (q_assign rfl (hF.eval rfl)) fun a hF => ?_
    refine wl_nil ?_
    refine k_n ?_
    refine wp_ret ?_
    refine r_1 hF rfl rfl ?_
    have hO : St _ _ _ [] := hO
    exact ⟨by unfold headAt; rw [if_neg hc1]; rfl, hO⟩

theorem real1_r (w0 : World) (bx bh : Nat) (vw vh vr : Value) (h : Hp) (hB : Rd w0 [] (gl1 bx) 1 1 [ptr (adr bh)]) (hH : HR w0 [] bh vw vh vr h) (x : Wd) : Ret Try.prog 74 #[.agg (wordE.cells x).toArray, ptr (adr bx)] w0 (fun v w' => v = .bool (decide (badW h.heads x)) ∧ St w0 [] w' []) := by
  have hO := St.init0 w0
  refine ret_of (m := 13) Try.func74 rfl Try.ntmps74 [(0, .agg (wordE.cells x).toArray), (1, ptr (adr bx))] rfl ⟨rfl, rfl, trivial⟩ fun a hF => ?_
  refine wp_seq ?_
  refine wp_region_lit ?_
  refine wl_e hF rfl rfl rfl (e_box hO rfl (hF.eval rfl) rfl) ?_
  rintro a _ w ⟨tk, rfl, hO⟩ hF
  refine wl_v hF rfl rfl rfl (q_assign rfl (hF.eval rfl)) fun a hF => ?_
  refine wl_nil ?_
  refine k_n ?_
  refine wp_seq ?_
  refine wp_region_lit ?_
  refine wl_v hF rfl rfl rfl (q_fieldAddr0 (d := 0) Try.underlying27 rfl (hF.eval rfl) rfl Try.sizeOf4 (by decide) rfl) fun a hF => ?_
  refine wl_v hF rfl rfl rfl (q_load Try.isAgg4 rfl (hF.eval rfl) (hO.cell 0 rfl rfl)) fun a hF => ?_
  refine wl_v hF rfl rfl rfl (q_move rfl (hF.eval rfl)) fun a hF => ?_
  refine wl_g hF rfl rfl rfl rfl rfl rfl (fun hg => q_load Try.isAgg22 rfl (hF.eval rfl) (rdB_cell0 (Rd.now hB hO) rfl)) fun a hF => ?_
  refine wl_g hF rfl rfl rfl rfl rfl rfl (fun hg => q_fieldAddr0 (d := 1) Try.underlying27 rfl (hF.eval rfl) rfl Try.sizeOf3 (by decide) rfl) fun a hF => ?_
  refine wl_g hF rfl rfl rfl rfl rfl rfl (fun hg => q_load Try.isAgg3 rfl ((hF.eval rfl).trans (gv_of hg)) (hO.cell 0 rfl rfl)) fun a hF => ?_
  refine wl_gk hO hF rfl rfl rfl rfl rfl rfl (fun hg => c_callG hF rfl rfl (by first | with_reducible rfl | (simp only [gv_of hg]; done) | (simp only [gv_of hg]; rfl)) Try.call53 (head_r _ _ _ _ _ _ (hH.at0 hO) _)) fun a w hO hF => ?_
  refine wl_g hF rfl rfl rfl rfl rfl rfl (fun hg => q_peq Try.underlying80 rfl ((hF.eval rfl).trans (gv_of hg)) (hF.eval rfl)) fun a hF => ?_
  refine wl_v hF rfl rfl rfl (q_and rfl (hF.eval rfl) (dec_b _) (fun hg2 => ((hF.eval rfl).trans (gv_of hg2))) rfl) fun a hF => ?_
  refine wl_v hF rfl rfl rfl (q_assign rfl (hF.eval rfl)) fun a hF => ?_
  refine wl_nil ?_
  refine k_n ?_
  refine wp_ret ?_
  refine r_1 hF rfl rfl ?_
  have hO := hO.drop1 0
  have hO : St _ _ _ [] := hO
  exact ⟨congrArg Value.bool (decide_eq_decide.2 (and_congr Iff.rfl hdP_none)), hO⟩

theorem indexFW_r (w0 : World) (bx bh : Nat) (vw vh vr : Value) (h : Hp) (hB : Rd w0 [] (gl1 bx) 1 1 [ptr (adr bh)]) (hH : HR w0 [] bh vw vh vr h) (vt : Value) (ts : List Wd) (hR : RdT w0 [] vt wordE ts) : Ret Try.prog 83 #[vt, .func (.func 74) #[] #[ptr (adr bx)]] w0 (fun v w' => ∃ n : Int, v = i64 n ∧ decide (0 ≤ n) = decide (realF h.heads ts = false) ∧ St w0 [] w' []) := by
  have hO := St.init0 w0
  have hn := RdT.lenle hR
  refine ret_of (m := 19) Try.func83 rfl Try.ntmps83 [(0, vt), (1, .func (.func 74) #[] #[ptr (adr bx)])] rfl ⟨rfl, rfl, trivial⟩ fun a hF => ?_
  refine wp_seq ?_
  refine wp_region_lit ?_
  refine wl_v hF rfl rfl rfl (q_assign rfl (hF.eval rfl)) fun a hF => ?_
  refine wl_nil ?_
  refine k_n ?_
  refine wp_seq ?_
  refine wp_seq ?_
  refine wp_region_lit ?_
  refine wl_v hF rfl rfl rfl (q_move rfl (hF.eval rfl)) fun a hF => ?_
  refine wl_v hF rfl rfl rfl (q_lenRd hR Try.underlying37 rfl (hF.eval rfl)) fun a hF => ?_
  refine wl_v hF rfl rfl rfl (q_move rfl (hF.eval rfl)) fun a hF => ?_
  refine wl_nil ?_
  refine k_n ?_
  refine wp_block ?_
  have hO : St _ _ _ [] := hO
  refine wp_loopS (fun (k : Nat) a w' => (k ≤ ts.length ∧ (ts.take k).all (fun x => decide (¬ badW h.heads x)) = true) ∧ St w0 [] w' [] ∧ Fr a 19 [(0, vt), (1, .func (.func 74) #[] #[ptr (adr bx)]), (7, i64 ts.length), (8, i64 k)]) (fun (k : Nat) => ts.length - k) 0 ⟨⟨by omega, by simp⟩, hO, hF.sub ⟨rfl, rfl, rfl, rfl, trivial⟩⟩ ?_
  rintro k a w ⟨⟨hk, hn9⟩, hO, hF⟩
  refine wp_seq ?_
  refine wp_region_lit ?_
  refine wl_v hF rfl rfl rfl (q_lt rfl (hF.eval rfl) (hF.eval rfl)) fun a hF => ?_
  refine wl_nil ?_
  refine k_n ?_
  refine wp_seq ?_
  refine wp_ifD hF rfl rfl (fun hc1 => ?_) (fun hc1 => ?_)
  · skip
    refine wp_skip ?_
    refine k_n ?_
    refine wp_seq ?_
    refine wp_block ?_
    refine wp_seq ?_
    refine wp_region_lit ?_
    refine wl_v hF rfl rfl rfl (q_move rfl (hF.eval rfl)) fun a hF => ?_
    refine wl_v hF rfl rfl rfl (q_assign rfl (hF.eval rfl)) fun a hF => ?_
    refine wl_nil ?_
    refine k_n ?_
    refine wp_seq ?_
    refine wp_region_lit ?_
    refine wl_v hF rfl rfl rfl (q_move rfl (hF.eval rfl)) fun a hF => ?_
    refine wl_v hF rfl rfl rfl (q_move rfl (hF.eval rfl)) fun a hF => ?_
    refine wl_v hF rfl rfl rfl (q_move rfl (hF.eval rfl)) fun a hF => ?_
    obtain ⟨x, hx⟩ := get_ex (l := ts) (i := k) (by omega)
    refine wl_v hF rfl rfl rfl (q_at (i := k) hR Try.underlying37 Try.sizeOf27 rfl (hF.eval rfl) (hF.eval rfl) (by omega)) fun a hF => ?_
    refine wl_v hF rfl rfl rfl (q_loadAgg Try.isAgg27 Try.sizeOf27 rfl (hF.eval rfl) (RdT.cells (hR.now hO) hx) rfl) fun a hF => ?_
    refine wl_e hF rfl rfl rfl (c_callV hF rfl (hF.eval rfl) rfl rfl Try.call74 (real1_r _ _ _ _ _ _ _ (Rd.at0 hB hO) (hH.at0 hO) _)) ?_
    rintro a _ w ⟨rfl, hS⟩ hF
    have hO := hO.call0 hS
    have hO : St _ _ _ [] := hO
    refine wl_nil ?_
    refine k_n ?_
    refine wp_ifD hF rfl rfl (fun hc2 => ?_) (fun hc2 => ?_)
    · skip
      refine wp_seq ?_
      refine wp_region_lit ?_
      refine wl_v hF rfl rfl rfl (q_move rfl (hF.eval rfl)) fun a hF => ?_
      refine wl_v hF rfl rfl rfl (q_assign rfl (hF.eval rfl)) fun a hF => ?_
      refine wl_nil ?_
      refine k_n ?_
      refine wp_ret ?_
      refine b_r ?_
      refine k_r ?_
      refine k_r ?_
      refine b_r ?_
      refine k_r ?_
      refine r_1 hF rfl rfl ?_
      have hf : realF h.heads ts = false := by
        cases hr : realF h.heads ts with
        | false => rfl
        | true => exact absurd hc2 (of_decide_eq_true (List.all_eq_true.1 hr x (List.mem_of_getElem? hx)))
      exact ⟨_, rfl, by rw [hf]; exact decide_eq_true (by omega), hO⟩
    · skip
      refine wp_skip ?_
      refine b_n ?_
      refine k_n ?_
      refine wp_region_lit ?_
      refine wl_v hF rfl rfl rfl (q_add rfl (hF.eval rfl) (hF.eval rfl) (by omega)) fun a hF => ?_
      refine wl_v hF rfl rfl rfl (q_move rfl (hF.eval rfl)) fun a hF => ?_
      refine wl_nil ?_
      refine k_n ?_
      have hO : St _ _ _ [] := hO
      exact ⟨k + 1, ⟨⟨by omega, by rw [takeAt hx, List.all_append, hn9]; simpa using hc2⟩, hO, hF.sub ⟨rfl, rfl, rfl, rfl, trivial⟩⟩, by omega⟩
  · skip
    refine wp_exit ?_
    refine k_x ?_
    refine k_x ?_
    refine b_x ?_
    refine k_n ?_
    refine wp_seq ?_
    refine wp_region_lit ?_
    refine wl_v hF rfl rfl rfl (q_assign rfl (hF.eval rfl)) fun a hF => ?_
    refine wl_nil ?_
    refine k_n ?_
    refine wp_ret ?_
    refine r_1 hF rfl rfl ?_
    have hf : realF h.heads ts = true := by rw [← List.take_length (l := ts), show ts.length = k by omega]; exact hn9
    exact ⟨_, rfl, by rw [hf]; exact decide_eq_false (by omega), hO⟩

theorem containsFW_r (w0 : World) (bx bh : Nat) (vw vh vr : Value) (h : Hp) (hB : Rd w0 [] (gl1 bx) 1 1 [ptr (adr bh)]) (hH : HR w0 [] bh vw vh vr h) (vt : Value) (ts : List Wd) (hR : RdT w0 [] vt wordE ts) : Ret Try.prog 73 #[vt, .func (.func 74) #[] #[ptr (adr bx)]] w0 (fun v w' => v = .bool (decide (realF h.heads ts = false)) ∧ St w0 [] w' []) := by
  have hO := St.init0 w0
  refine ret_of (m := 9) Try.func73 rfl Try.ntmps73 [(0, vt), (1, .func (.func 74) #[] #[ptr (adr bx)])] rfl ⟨rfl, rfl, trivial⟩ fun a hF => ?_
  refine wp_seq ?_
  refine wp_region_lit ?_
  refine wl_v hF rfl rfl rfl (q_assign rfl (hF.eval rfl)) fun a hF => ?_
  refine wl_nil ?_
  refine k_n ?_
  refine wp_seq ?_
  refine wp_region_lit ?_
  refine wl_v hF rfl rfl rfl (q_move rfl (hF.eval rfl)) fun a hF => ?_
  refine wl_v hF rfl rfl rfl (q_move rfl (hF.eval rfl)) fun a hF => ?_
  refine wl_e hF rfl rfl rfl (c_call hF rfl rfl Try.call83 (indexFW_r _ _ _ _ _ _ _ (Rd.at0 hB hO) (hH.at0 hO) _ _ (hR.at0 hO))) ?_
  rintro a _ w ⟨ix, rfl, hix, hS⟩ hF
  have hO := hO.call0 hS
  have hO : St _ _ _ [] := hO
  refine wl_v hF rfl rfl rfl (q_ge rfl (hF.eval rfl) (hF.eval rfl)) fun a hF => ?_
  refine wl_v hF rfl rfl rfl (q_assign rfl (hF.eval rfl)) fun a hF => ?_
  refine wl_nil ?_
  refine k_n ?_
  refine wp_ret ?_
  refine r_1 hF rfl rfl ?_
  have hO : St _ _ _ [] := hO
  exact ⟨congrArg Value.bool hix, hO⟩

theorem hreal_r (w0 : World) (bh : Nat) (vw vh vr : Value) (h : Hp) (hH : HR w0 [] bh vw vh vr h) (vt : Value) (ts : List Wd) (hR : RdT w0 [] vt wordE ts) : Ret Try.prog 54 #[ptr (adr bh), vt] w0 (fun v w' => v = .bool (realF h.heads ts) ∧ St w0 [] w' []) := by
  have hO := St.init0 w0
  refine ret_of (m := 9) Try.func54 rfl Try.ntmps54 [(0, ptr (adr bh)), (1, vt)] rfl ⟨rfl, rfl, trivial⟩ fun a hF => ?_
  refine wp_seq ?_
  refine wp_region_lit ?_
  refine wl_e hF rfl rfl rfl (e_box hO rfl (hF.eval rfl) rfl) ?_
  rintro a _ w ⟨bx, rfl, hO⟩ hF
  refine wl_v hF rfl rfl rfl (q_assign rfl (hF.eval rfl)) fun a hF => ?_
  refine wl_nil ?_
  refine k_n ?_
  refine wp_seq ?_
  refine wp_region_lit ?_
  refine wl_v hF rfl rfl rfl (q_move rfl (hF.eval rfl)) fun a hF => ?_
  refine wl_v hF rfl rfl rfl (c_makeFunc hF rfl rfl rfl) fun a hF => ?_
  refine wl_e hF rfl rfl rfl (c_call hF rfl rfl Try.call73 (containsFW_r _ _ _ _ _ _ _ (hO.rdOb 0 rfl) (hH.at0 hO) _ _ (hR.at0 hO))) ?_
  rintro a _ w ⟨rfl, hS⟩ hF
  have hO := hO.call0 hS
  have hO : St _ _ _ [_] := hO
  refine wl_v hF rfl rfl rfl (q_not rfl (hF.eval rfl) rfl) fun a hF => ?_
  refine wl_v hF rfl rfl rfl (q_assign rfl (hF.eval rfl)) fun a hF => ?_
  refine wl_nil ?_
  refine k_n ?_
  refine wp_ret ?_
  refine r_1 hF rfl rfl ?_
  have hO := hO.drop1 0
  have hO : St _ _ _ [] := hO
  exact ⟨congrArg Value.bool (by cases realF h.heads ts <;> rfl), hO⟩

end Go.Proofs.Ytglienidnffnjaa
