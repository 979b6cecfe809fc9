import Derived.Test.YtglienidnffnjaaRa
import Derived.Test.YtglienidnffnjaaQc
import Derived.Test.YtglienidnffnjaaQd
import Derived.Test.YtglienidnffnjaaQh
import Derived.Test.YtglienidnffnjaaQi
import Derived.Test.YtglienidnffnjaaPl25
namespace Go.Proofs.Ytglienidnffnjaa
open Go
set_option maxRecDepth 100000
set_option linter.unusedVariables false

theorem newB_r (w0 : World) (y o : Int) (h : newBad y o) : Ret Try.prog 11 #[i64 y, i64 o] w0 (fun v w' => v = .tuple #[.pointer none, i64 1] ∧ St w0 [] w' []) :=
  (new_r w0 y o).mono fun v w' hd => (hd.resolve_right fun hb => hb.1 h).2
theorem newQB_r (w0 : World) (y o : Int) (h : newBad y o) : Ret Try.prog 27 #[i64 y, i64 o] w0 (fun v w' => v = .tuple #[.pointer none, i64 1] ∧ St w0 [] w' []) :=
  (new_rr w0 y o).mono fun v w' hd => (hd.resolve_right fun hb => hb.1 h).2
theorem newQ_r (w0 : World) (y o : Int) (h : ¬ newBad y o) : Ret Try.prog 27 #[i64 y, i64 o] w0 (fun v w' => ∃ br, v = .tuple #[ptr (adr br), i64 0] ∧ St w0 [] w' [.ob br 94 (rfC (newR y o)), Ent.grp (pgE 99 (newR y o)), Ent.grp (rowsE 27 (newR y o))]) :=
  (new_rr w0 y o).mono fun v w' hd => (hd.resolve_left fun hb => h hb.1).2
theorem hplaysB_r (w0 : World) (yg o : Int) (vl : Value) (l : List OpV) (hR : RdT w0 [] vl opE l) (hQ : ∀ x ∈ l, opQ w0 x) (hnb : newBad yg o) : Ret Try.prog 7 #[i64 yg, i64 o, vl] w0 (fun v w' => v = .bool true ∧ St w0 [] w' []) := by
  have hO := St.init0 w0
  refine ret_of (m := 370) Try.func7 rfl Try.ntmps7 [(0, i64 yg), (1, i64 o), (2, vl)] rfl ⟨rfl, rfl, rfl, trivial⟩ fun a hF => ?_
  refine wp_seq ?_
  refine wp_region_lit ?_
  refine wl_v hF rfl rfl rfl (q_assign rfl (hF.eval rfl)) fun a hF => ?_
  refine wl_nil ?_
  refine k_n ?_
  refine wp_seq ?_
  refine wp_region_lit ?_
  refine wl_v hF rfl rfl rfl (q_move rfl (hF.eval rfl)) fun a hF => ?_
  refine wl_v hF rfl rfl rfl (q_move rfl (hF.eval rfl)) fun a hF => ?_
  refine wl_e hF rfl rfl rfl (c_call hF rfl rfl Try.call11 (newB_r _ _ _ hnb)) ?_
  rintro a _ w ⟨rfl, hS⟩ hF
  have hO := hO.call0 hS
  have hO : St _ _ _ [] := hO
  refine wl_v hF rfl rfl rfl (q_move rfl (hF.eval rfl)) fun a hF => ?_
  refine wl_v hF rfl rfl rfl (q_extract rfl (hF.eval rfl) rfl) fun a hF => ?_
  refine wl_v hF rfl rfl rfl (q_extract rfl (hF.eval rfl) rfl) fun a hF => ?_
  refine wl_v hF rfl rfl rfl (q_assign rfl (hF.eval rfl)) fun a hF => ?_
  refine wl_v hF rfl rfl rfl (q_assign rfl (hF.eval rfl)) fun a hF => ?_
  refine wl_nil ?_
  refine k_n ?_
  refine wp_seq ?_
  refine wp_region_lit ?_
  refine wl_v hF rfl rfl rfl (q_move rfl (hF.eval rfl)) fun a hF => ?_
  refine wl_v hF rfl rfl rfl (q_move rfl (hF.eval rfl)) fun a hF => ?_
  refine wl_e hF rfl rfl rfl (c_call hF rfl rfl Try.call27 (newQB_r _ _ _ hnb)) ?_
  rintro a _ w ⟨rfl, hS⟩ hF
  have hO := hO.call0 hS
  have hO : St _ _ _ [] := hO
  refine wl_v hF rfl rfl rfl (q_move rfl (hF.eval rfl)) fun a hF => ?_
  refine wl_v hF rfl rfl rfl (q_extract rfl (hF.eval rfl) rfl) fun a hF => ?_
  refine wl_v hF rfl rfl rfl (q_extract rfl (hF.eval rfl) rfl) fun a hF => ?_
  refine wl_v hF rfl rfl rfl (q_assign rfl (hF.eval rfl)) fun a hF => ?_
  refine wl_v hF rfl rfl rfl (q_assign rfl (hF.eval rfl)) fun a hF => ?_
  refine wl_nil ?_
  refine k_n ?_
  refine wp_seq ?_
  refine wp_seq ?_
  refine wp_region_lit ?_
  refine wl_v hF rfl rfl rfl (q_move rfl (hF.eval rfl)) fun a hF => ?_
  refine wl_v hF rfl rfl rfl (q_move rfl (hF.eval rfl)) fun a hF => ?_
  refine wl_v hF rfl rfl rfl (q_ne rfl (hF.eval rfl) (hF.eval rfl)) fun a hF => ?_
  refine wl_v hF rfl rfl rfl (q_move rfl (hF.eval rfl)) fun a hF => ?_
  refine wl_g hF rfl rfl rfl rfl rfl rfl (fun hg => q_move rfl (hF.eval rfl)) fun a hF => ?_
  refine wl_g hF rfl rfl rfl rfl rfl rfl (fun hg => q_pne Try.underlying22 rfl ((hF.eval rfl).trans (gv_of hg)) (hF.eval rfl)) fun a hF => ?_
  refine wl_g hF rfl rfl rfl rfl rfl rfl (fun hg => q_move rfl (hF.eval rfl)) fun a hF => ?_
  refine wl_g hF rfl rfl rfl rfl rfl rfl (fun hg => q_eq rfl ((hF.eval rfl).trans (gv_of hg)) (hF.eval rfl)) fun a hF => ?_
  refine wl_g hF rfl rfl rfl rfl rfl rfl (fun hg => q_bne Try.underlying4 rfl ((hF.eval rfl).trans (gv_of hg)) ((hF.eval rfl).trans (gv_of hg))) fun a hF => ?_
  refine wl_v hF rfl rfl rfl (q_or rfl (hF.eval rfl) rfl (fun hg2 => ((hF.eval rfl).trans (gv_of hg2))) rfl) fun a hF => ?_
  refine wl_nil ?_
  refine k_n ?_
  refine wp_ifD hF rfl rfl (fun hc1 => ?_) (fun hc1 => ?_)
  · skip
    exact absurd hc1 (by simp)
  · skip
    refine wp_skip ?_
    refine k_n ?_
    refine wp_seq ?_
    refine wp_seq ?_
    refine wp_region_lit ?_
    refine wl_v hF rfl rfl rfl (q_move rfl (hF.eval rfl)) fun a hF => ?_
    refine wl_v hF rfl rfl rfl (q_ne rfl (hF.eval rfl) (hF.eval rfl)) fun a hF => ?_
    refine wl_nil ?_
    refine k_n ?_
    refine wp_ifD hF rfl rfl (fun hc2 => ?_) (fun hc2 => ?_)
    · skip
      refine wp_seq ?_
      refine wp_region_lit ?_
      refine wl_e hF rfl rfl rfl (c_call hF rfl rfl Try.call15 (awake_r _)) ?_
      rintro a _ w ⟨rfl, hS⟩ hF
      have hO := hO.call0 hS
      have hO : St _ _ _ [] := hO
      refine wl_v hF rfl rfl rfl (q_assign rfl (hF.eval rfl)) fun a hF => ?_
      refine wl_nil ?_
      refine k_n ?_
      refine wp_ret ?_
      refine k_r ?_
      refine r_1 hF rfl rfl ?_
      have hO : St _ _ _ [] := hO
      exact ⟨rfl, hO⟩
    · skip
      exact absurd (show ¬ (1 : Int) = 0 by decide) hc2

end Go.Proofs.Ytglienidnffnjaa
