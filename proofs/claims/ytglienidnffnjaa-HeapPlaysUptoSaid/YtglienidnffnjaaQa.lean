import Derived.Test.YtglienidnffnjaaHk
import Derived.Test.YtglienidnffnjaaPl18
namespace Go.Proofs.Ytglienidnffnjaa
open Go
set_option maxRecDepth 100000
set_option linter.unusedVariables false
set_option maxHeartbeats 1000000 in
theorem find_rr (w0 : World) (br : Nat) (R : RH) (hR : RR w0 [] br R) (g : RG R) (at_ : Int) : Ret Try.prog 63 #[ptr (adr br), i64 at_] w0 (fun v w' => v = .pointer (ptrO R (findO R at_)) ∧ St w0 [] w' []) := by
  have hO := St.init0 w0
  refine ret_of (m := 73) Try.func63 rfl Try.ntmps63 [(0, ptr (adr br)), (1, i64 at_)] rfl ⟨rfl, rfl, trivial⟩ fun a hF => ?_
  refine wp_seq ?_
  refine wp_region_lit ?_
  refine wl_v hF rfl rfl rfl (q_assign rfl (hF.eval rfl)) fun a hF => ?_
  refine wl_nil ?_
  refine k_n ?_
  refine wp_seq ?_
  refine wp_seq ?_
  refine wp_region_lit ?_
  refine wl_v hF rfl rfl rfl (q_assign rfl (hF.eval rfl)) fun a hF => ?_
  refine wl_nil ?_
  refine k_n ?_
  refine wp_block ?_
  have hO : St _ _ _ [] := hO
  refine wp_loopS (fun (p : Nat) a w' => (p ≤ 3 ∧ ∀ q, q < p → ixO (R.p q) at_ = none) ∧ St w0 [] w' [] ∧ Fr a 73 [(0, ptr (adr br)), (1, i64 at_), (5, i64 p)]) (fun (p : Nat) => 3 - p) 0 ⟨⟨by omega, fun q h => absurd h (by omega)⟩, hO, hF.sub ⟨rfl, rfl, rfl, trivial⟩⟩ ?_
  rintro p a w ⟨⟨hp, hn⟩, hO, hF⟩
  refine wp_seq ?_
  refine wp_seq ?_
  refine wp_region_lit ?_
  refine wl_v hF rfl rfl rfl (q_move rfl (hF.eval rfl)) fun a hF => ?_
  refine wl_v hF rfl rfl rfl (q_lt rfl (hF.eval rfl) (hF.eval rfl)) fun a hF => ?_
  refine wl_nil ?_
  refine k_n ?_
  refine wp_ifD hF rfl rfl (fun hc1 => ?_) (fun hc1 => ?_)
  · skip
    have hp3 : p < 3 := by omega
    have hlen := g.len p hp3
    refine wp_skip ?_
    refine k_n ?_
    refine wp_seq ?_
    refine wp_block ?_
    refine wp_seq ?_
    refine wp_region_lit ?_
    refine wl_v hF rfl rfl rfl (q_assign rfl (hF.eval rfl)) fun a hF => ?_
    refine wl_nil ?_
    refine k_n ?_
    refine wp_seq ?_
    refine wp_region_lit ?_
    refine wl_v hF rfl rfl rfl (q_move rfl (hF.eval rfl)) fun a hF => ?_
    refine wl_v hF rfl rfl rfl (q_move rfl (hF.eval rfl)) fun a hF => ?_
    refine wl_v hF rfl rfl rfl (q_nilCheck rfl (hF.eval rfl)) fun a hF => ?_
    refine wl_v hF rfl rfl rfl (q_fieldAddr0 (d := 2) Try.underlying94 rfl (hF.eval rfl) rfl Try.sizeOf92 (by decide) rfl) fun a hF => ?_
    refine wl_v hF rfl rfl rfl (q_atArrK (i := p) (d := 2) Try.underlying92 Try.sizeOf91 rfl (hF.eval rfl) (hF.eval rfl) (by omega)) fun a hF => ?_
    refine wl_v hF rfl rfl rfl (q_load Try.isAgg91 rfl (hF.eval rfl) (rdB_cell (RR.now hR hO).blk (rfC_at1 (by omega)))) fun a hF => ?_
    refine wl_v hF rfl rfl rfl (q_lenRd (hR.ps p (by omega)) Try.underlying91 rfl (hF.eval rfl)) fun a hF => ?_
    refine wl_v hF rfl rfl rfl (q_assign rfl (hF.eval rfl)) fun a hF => ?_
    refine wl_nil ?_
    refine k_n ?_
    refine wp_seq ?_
    refine wp_block ?_
    have hO : St _ _ _ [] := hO
    refine wp_loopS (fun (s : Nat × Nat) a w' => match s with | (lo, hi) => (lo ≤ hi ∧ hi ≤ (R.p p).length ∧ (∀ (i : Nat) y, i < lo → (R.p p)[i]? = some y → y.at_ < at_) ∧ ∀ (i : Nat) y, hi ≤ i → (R.p p)[i]? = some y → at_ ≤ y.at_) ∧ St w0 [] w' [] ∧ Fr a 73 [(0, ptr (adr br)), (1, i64 at_), (5, i64 p), (6, i64 lo), (7, i64 hi)]) (fun (s : Nat × Nat) => match s with | (lo, hi) => hi - lo) (0, (R.p p).length) ⟨⟨Nat.zero_le _, Nat.le_refl _, fun i y h => absurd h (by omega), ix_over⟩, hO, hF.sub ⟨rfl, rfl, rfl, rfl, rfl, trivial⟩⟩ ?_
    rintro ⟨lo, hi⟩ a w ⟨⟨h1, h2, h3, h4⟩, hO, hF⟩
    refine wp_seq ?_
    refine wp_seq ?_
    refine wp_region_lit ?_
    refine wl_v hF rfl rfl rfl (q_move rfl (hF.eval rfl)) fun a hF => ?_
    refine wl_v hF rfl rfl rfl (q_move rfl (hF.eval rfl)) fun a hF => ?_
    refine wl_v hF rfl rfl rfl (q_lt rfl (hF.eval rfl) (hF.eval rfl)) fun a hF => ?_
    refine wl_nil ?_
    refine k_n ?_
    refine wp_ifD hF rfl rfl (fun hc2 => ?_) (fun hc2 => ?_)
    · skip
      refine wp_skip ?_
      refine k_n ?_
      refine wp_block ?_
      refine wp_seq ?_
      refine wp_region_lit ?_
      refine wl_v hF rfl rfl rfl (q_move rfl (hF.eval rfl)) fun a hF => ?_
      refine wl_v hF rfl rfl rfl (q_move rfl (hF.eval rfl)) fun a hF => ?_
      refine wl_v hF rfl rfl rfl (q_add rfl (hF.eval rfl) (hF.eval rfl) (by omega)) fun a hF => ?_
      refine wl_v hF rfl rfl rfl (q_quo rfl (hF.eval rfl) (hF.eval rfl) (by decide) (by rw [mid_div]; omega)) fun a hF => ?_
      refine wl_v hF rfl rfl rfl (q_assign rfl (hF.eval rfl)) fun a hF => ?_
      rw [mid_div] at hF
      refine wl_nil ?_
      refine k_n ?_
      refine wp_seq ?_
      refine wp_region_lit ?_
      refine wl_v hF rfl rfl rfl (q_move rfl (hF.eval rfl)) fun a hF => ?_
      refine wl_v hF rfl rfl rfl (q_move rfl (hF.eval rfl)) fun a hF => ?_
      refine wl_v hF rfl rfl rfl (q_nilCheck rfl (hF.eval rfl)) fun a hF => ?_
      refine wl_v hF rfl rfl rfl (q_fieldAddr0 (d := 2) Try.underlying94 rfl (hF.eval rfl) rfl Try.sizeOf92 (by decide) rfl) fun a hF => ?_
      refine wl_v hF rfl rfl rfl (q_atArrK (i := p) (d := 2) Try.underlying92 Try.sizeOf91 rfl (hF.eval rfl) (hF.eval rfl) (by omega)) fun a hF => ?_
      refine wl_v hF rfl rfl rfl (q_load Try.isAgg91 rfl (hF.eval rfl) (rdB_cell (RR.now hR hO).blk (rfC_at1 (by omega)))) fun a hF => ?_
      refine wl_v hF rfl rfl rfl (q_move rfl (hF.eval rfl)) fun a hF => ?_
      obtain ⟨x, hx⟩ := get_ex (l := (R.p p)) (i := ((lo + hi) / 2)) (by omega)
      refine wl_v hF rfl rfl rfl (q_at (i := ((lo + hi) / 2)) (hR.ps p (by omega)) Try.underlying91 Try.sizeOf99 rfl (hF.eval rfl) (hF.eval rfl) (by omega)) fun a hF => ?_
      refine wl_v hF rfl rfl rfl (q_fieldAddr0 (d := 0) Try.underlying99 rfl (hF.eval rfl) rfl Try.sizeOf3 (by decide) rfl) fun a hF => ?_
      refine wl_v hF rfl rfl rfl (q_load Try.isAgg3 rfl (hF.eval rfl) (RdT.cells ((hR.ps p (by omega)).now hO) hx _ _ rfl)) fun a hF => ?_
      refine wl_v hF rfl rfl rfl (q_move rfl (hF.eval rfl)) fun a hF => ?_
      refine wl_v hF rfl rfl rfl (q_lt rfl (hF.eval rfl) (hF.eval rfl)) fun a hF => ?_
      refine wl_nil ?_
      refine k_n ?_
      refine wp_ifD hF rfl rfl (fun hc3 => ?_) (fun hc3 => ?_)
      · skip
        refine wp_region_lit ?_
        refine wl_v hF rfl rfl rfl (q_move rfl (hF.eval rfl)) fun a hF => ?_
        refine wl_v hF rfl rfl rfl (q_add rfl (hF.eval rfl) (hF.eval rfl) (by omega)) fun a hF => ?_
        refine wl_v hF rfl rfl rfl (q_assign rfl (hF.eval rfl)) fun a hF => ?_
        refine wl_nil ?_
        refine b_n ?_
        refine k_n ?_
        have hO : St _ _ _ [] := hO
        exact ⟨((lo + hi) / 2 + 1, hi), ⟨⟨by omega, h2, lo_next g (by omega) hx hc3, h4⟩, hO, hF.sub ⟨rfl, rfl, rfl, rfl, rfl, trivial⟩⟩, by dsimp only; omega⟩
      · skip
        refine wp_region_lit ?_
        refine wl_v hF rfl rfl rfl (q_move rfl (hF.eval rfl)) fun a hF => ?_
        refine wl_v hF rfl rfl rfl (q_assign rfl (hF.eval rfl)) fun a hF => ?_
        refine wl_nil ?_
        refine b_n ?_
        refine k_n ?_
        have hO : St _ _ _ [] := hO
        exact ⟨(lo, (lo + hi) / 2), ⟨⟨by omega, by omega, h3, hi_next g (by omega) hx hc3⟩, hO, hF.sub ⟨rfl, rfl, rfl, rfl, rfl, trivial⟩⟩, by dsimp only; omega⟩
    · skip
      refine wp_exit ?_
      refine k_x ?_
      refine k_x ?_
      refine b_x ?_
      refine k_n ?_
      refine wp_seq ?_
      refine wp_region_lit ?_
      refine wl_v hF rfl rfl rfl (q_move rfl (hF.eval rfl)) fun a hF => ?_
      refine wl_v hF rfl rfl rfl (q_move rfl (hF.eval rfl)) fun a hF => ?_
      refine wl_v hF rfl rfl rfl (q_move rfl (hF.eval rfl)) fun a hF => ?_
      refine wl_v hF rfl rfl rfl (q_nilCheck rfl (hF.eval rfl)) fun a hF => ?_
      refine wl_v hF rfl rfl rfl (q_fieldAddr0 (d := 2) Try.underlying94 rfl (hF.eval rfl) rfl Try.sizeOf92 (by decide) rfl) fun a hF => ?_
      refine wl_v hF rfl rfl rfl (q_atArrK (i := p) (d := 2) Try.underlying92 Try.sizeOf91 rfl (hF.eval rfl) (hF.eval rfl) (by omega)) fun a hF => ?_
      refine wl_v hF rfl rfl rfl (q_load Try.isAgg91 rfl (hF.eval rfl) (rdB_cell (RR.now hR hO).blk (rfC_at1 (by omega)))) fun a hF => ?_
      refine wl_v hF rfl rfl rfl (q_lenRd (hR.ps p (by omega)) Try.underlying91 rfl (hF.eval rfl)) fun a hF => ?_
      refine wl_v hF rfl rfl rfl (q_lt rfl (hF.eval rfl) (hF.eval rfl)) fun a hF => ?_
      refine wl_v hF rfl rfl rfl (q_move rfl (hF.eval rfl)) fun a hF => ?_
      refine wl_g hF rfl rfl rfl rfl rfl rfl (fun hg => q_move rfl (hF.eval rfl)) fun a hF => ?_
      refine wl_g hF rfl rfl rfl rfl rfl rfl (fun hg => q_move rfl (hF.eval rfl)) fun a hF => ?_
      refine wl_g hF rfl rfl rfl rfl rfl rfl (fun hg => q_nilCheck rfl ((hF.eval rfl).trans (gv_of hg))) fun a hF => ?_
      refine wl_g hF rfl rfl rfl rfl rfl rfl (fun hg => q_fieldAddr0 (d := 2) Try.underlying94 rfl ((hF.eval rfl).trans (gv_of hg)) rfl Try.sizeOf92 (by decide) rfl) fun a hF => ?_
      refine wl_g hF rfl rfl rfl rfl rfl rfl (fun hg => q_atArrK (i := p) (d := 2) Try.underlying92 Try.sizeOf91 rfl ((hF.eval rfl).trans (gv_of hg)) ((hF.eval rfl).trans (gv_of hg)) (by omega)) fun a hF => ?_
      refine wl_g hF rfl rfl rfl rfl rfl rfl (fun hg => q_load Try.isAgg91 rfl ((hF.eval rfl).trans (gv_of hg)) (rdB_cell (RR.now hR hO).blk (rfC_at1 (by omega)))) fun a hF => ?_
      refine wl_g hF rfl rfl rfl rfl rfl rfl (fun hg => q_move rfl (hF.eval rfl)) fun a hF => ?_
      refine wl_g hF rfl rfl rfl rfl rfl rfl (fun hg => q_at (i := lo) (hR.ps p (by omega)) Try.underlying91 Try.sizeOf99 rfl ((hF.eval rfl).trans (gv_of hg)) ((hF.eval rfl).trans (gv_of hg)) (by have := of_g hg; omega)) fun a hF => ?_
      refine wl_g hF rfl rfl rfl rfl rfl rfl (fun hg => q_fieldAddr0 (d := 0) Try.underlying99 rfl ((hF.eval rfl).trans (gv_of hg)) rfl Try.sizeOf3 (by decide) rfl) fun a hF => ?_
      refine wl_g hF rfl rfl rfl rfl rfl rfl (fun hg => q_load Try.isAgg3 rfl ((hF.eval rfl).trans (gv_of hg)) (RdT.cells ((hR.ps p (by omega)).now hO) (get_D (d := ro0) (by have := of_g hg; omega)) _ _ rfl)) fun a hF => ?_
      refine wl_g hF rfl rfl rfl rfl rfl rfl (fun hg => q_move rfl (hF.eval rfl)) fun a hF => ?_
      refine wl_g hF rfl rfl rfl rfl rfl rfl (fun hg => q_eq rfl ((hF.eval rfl).trans (gv_of hg)) ((hF.eval rfl).trans (gv_of hg))) fun a hF => ?_
      refine wl_v hF rfl rfl rfl (q_and rfl (hF.eval rfl) rfl (fun hg2 => ((hF.eval rfl).trans (gv_of hg2))) rfl) fun a hF => ?_
      refine wl_nil ?_
      refine k_n ?_
      refine wp_ifD hF rfl rfl (fun hc4 => ?_) (fun hc4 => ?_)
      · skip
        refine wp_seq ?_
        refine wp_region_lit ?_
        refine wl_v hF rfl rfl rfl (q_move rfl (hF.eval rfl)) fun a hF => ?_
        refine wl_v hF rfl rfl rfl (q_move rfl (hF.eval rfl)) fun a hF => ?_
        refine wl_v hF rfl rfl rfl (q_nilCheck rfl (hF.eval rfl)) fun a hF => ?_
        refine wl_v hF rfl rfl rfl (q_fieldAddr0 (d := 2) Try.underlying94 rfl (hF.eval rfl) rfl Try.sizeOf92 (by decide) rfl) fun a hF => ?_
        refine wl_v hF rfl rfl rfl (q_atArrK (i := p) (d := 2) Try.underlying92 Try.sizeOf91 rfl (hF.eval rfl) (hF.eval rfl) (by omega)) fun a hF => ?_
        refine wl_v hF rfl rfl rfl (q_load Try.isAgg91 rfl (hF.eval rfl) (rdB_cell (RR.now hR hO).blk (rfC_at1 (by omega)))) fun a hF => ?_
        refine wl_v hF rfl rfl rfl (q_move rfl (hF.eval rfl)) fun a hF => ?_
        refine wl_v hF rfl rfl rfl (q_at (i := lo) (hR.ps p (by omega)) Try.underlying91 Try.sizeOf99 rfl (hF.eval rfl) (hF.eval rfl) (by have := hc4.1; omega)) fun a hF => ?_
        refine wl_v hF rfl rfl rfl (q_assign rfl (hF.eval rfl)) fun a hF => ?_
        refine wl_nil ?_
        refine k_n ?_
        refine wp_ret ?_
        refine b_r ?_
        refine k_r ?_
        refine k_r ?_
        refine b_r ?_
        refine k_r ?_
        refine r_1 hF rfl rfl ?_
        exact ⟨congrArg Value.pointer (by rw [find_some hn hp3 (ix_yes h3 hc4)]; rfl), hO⟩
      · skip
        refine wp_skip ?_
        refine b_n ?_
        refine k_n ?_
        refine wp_region_lit ?_
        refine wl_v hF rfl rfl rfl (q_move rfl (hF.eval rfl)) fun a hF => ?_
        refine wl_v hF rfl rfl rfl (q_add rfl (hF.eval rfl) (hF.eval rfl) (by omega)) fun a hF => ?_
        refine wl_v hF rfl rfl rfl (q_assign rfl (hF.eval rfl)) fun a hF => ?_
        refine wl_nil ?_
        refine k_n ?_
        have hO : St _ _ _ [] := hO
        exact ⟨p + 1, ⟨⟨by omega, find_next hn (ix_no g (by omega) h3 (by rw [show lo = hi by omega]; exact h4) hc4)⟩, hO, hF.sub ⟨rfl, rfl, rfl, trivial⟩⟩, by omega⟩
  · skip
    refine wp_exit ?_
    refine k_x ?_
    refine k_x ?_
    refine b_x ?_
    refine k_n ?_
    refine wp_seq ?_
    refine wp_region_lit ?_
    refine wl_v hF rfl rfl rfl (q_assign rfl (hF.eval rfl)) fun a hF => ?_
    refine wl_nil ?_
    refine k_n ?_
    refine wp_ret ?_
    refine r_1 hF rfl rfl ?_
    exact ⟨congrArg Value.pointer (by rw [find_none (fun q hq => hn q (by omega))]; rfl), hO⟩

theorem stands_rr (w0 : World) (br : Nat) (R : RH) (hR : RR w0 [] br R) (g : RG R) (x : Wd) : Ret Try.prog 64 #[ptr (adr br), .agg (wordE.cells x).toArray] w0 (fun v w' => v = .bool (decide (¬ badR R x)) ∧ St w0 [] w' []) := by
  have hO := St.init0 w0
  refine ret_of (m := 15) Try.func64 rfl Try.ntmps64 [(0, ptr (adr br)), (1, .agg (wordE.cells x).toArray)] rfl ⟨rfl, rfl, trivial⟩ fun a hF => ?_
  refine wp_seq ?_
  refine wp_region_lit ?_
  refine wl_e hF rfl rfl rfl (e_box hO rfl (hF.eval rfl) rfl) ?_
  rintro a _ w ⟨tk, rfl, hO⟩ hF
  refine wl_v hF rfl rfl rfl (q_assign rfl (hF.eval rfl)) fun a hF => ?_
  refine wl_nil ?_
  refine k_n ?_
  refine wp_seq ?_
  refine wp_region_lit ?_
  refine wl_v hF rfl rfl rfl (q_fieldAddr0 (d := 0) Try.underlying27 rfl (hF.eval rfl) rfl Try.sizeOf4 (by decide) rfl) fun a hF => ?_
  refine wl_v hF rfl rfl rfl (q_load Try.isAgg4 rfl (hF.eval rfl) (hO.cell 0 rfl rfl)) fun a hF => ?_
  refine wl_v hF rfl rfl rfl (q_not rfl (hF.eval rfl) (dec_b _)) fun a hF => ?_
  refine wl_v hF rfl rfl rfl (q_move rfl (hF.eval rfl)) fun a hF => ?_
  refine wl_g hF rfl rfl rfl rfl rfl rfl (fun hg => q_move rfl (hF.eval rfl)) fun a hF => ?_
  refine wl_g hF rfl rfl rfl rfl rfl rfl (fun hg => q_fieldAddr0 (d := 1) Try.underlying27 rfl (hF.eval rfl) rfl Try.sizeOf3 (by decide) rfl) fun a hF => ?_
  refine wl_g hF rfl rfl rfl rfl rfl rfl (fun hg => q_load Try.isAgg3 rfl ((hF.eval rfl).trans (gv_of hg)) (hO.cell 0 rfl rfl)) fun a hF => ?_
  refine wl_gk hO hF rfl rfl rfl rfl rfl rfl (fun hg => c_callG hF rfl rfl (by first | with_reducible rfl | (simp only [gv_of hg]; done) | (simp only [gv_of hg]; rfl)) Try.call63 (find_rr _ _ _ (hR.at0 hO) g _)) fun a w hO hF => ?_
  refine wl_g hF rfl rfl rfl rfl rfl rfl (fun hg => q_pne Try.underlying96 rfl ((hF.eval rfl).trans (gv_of hg)) (hF.eval rfl)) fun a hF => ?_
  refine wl_v hF rfl rfl rfl (q_or rfl (hF.eval rfl) rfl (fun hg2 => ((hF.eval rfl).trans (gv_of hg2))) rfl) fun a hF => ?_
  refine wl_v hF rfl rfl rfl (q_assign rfl (hF.eval rfl)) fun a hF => ?_
  refine wl_nil ?_
  refine k_n ?_
  refine wp_ret ?_
  refine r_1 hF rfl rfl ?_
  have hO := hO.drop1 0
  have hO : St _ _ _ [] := hO
  exact ⟨congrArg Value.bool (decide_eq_decide.2 (by unfold badR; rw [Classical.not_and_iff_not_or_not]; exact or_congr Iff.rfl (not_congr ptrO_none))), hO⟩

theorem young_rr (w0 : World) (br : Nat) (R : RH) (hR : RR w0 [] br R) (g : RG R) (at_ : Int) : Ret Try.prog 44 #[ptr (adr br), i64 at_] w0 (fun v w' => v = .bool (decide (youngR R at_)) ∧ St w0 [] w' []) := by
  have hO := St.init0 w0
  refine ret_of (m := 21) Try.func44 rfl Try.ntmps44 [(0, ptr (adr br)), (1, i64 at_)] rfl ⟨rfl, rfl, trivial⟩ fun a hF => ?_
  refine wp_seq ?_
  refine wp_region_lit ?_
  refine wl_v hF rfl rfl rfl (q_assign rfl (hF.eval rfl)) fun a hF => ?_
  refine wl_nil ?_
  refine k_n ?_
  refine wp_seq ?_
  refine wp_region_lit ?_
  refine wl_v hF rfl rfl rfl (q_move rfl (hF.eval rfl)) fun a hF => ?_
  refine wl_v hF rfl rfl rfl (q_ge rfl (hF.eval rfl) (hF.eval rfl)) fun a hF => ?_
  refine wl_v hF rfl rfl rfl (q_move rfl (hF.eval rfl)) fun a hF => ?_
  refine wl_g hF rfl rfl rfl rfl rfl rfl (fun hg => q_move rfl (hF.eval rfl)) fun a hF => ?_
  refine wl_g hF rfl rfl rfl rfl rfl rfl (fun hg => q_move rfl (hF.eval rfl)) fun a hF => ?_
  refine wl_g hF rfl rfl rfl rfl rfl rfl (fun hg => q_nilCheck rfl ((hF.eval rfl).trans (gv_of hg))) fun a hF => ?_
  refine wl_g hF rfl rfl rfl rfl rfl rfl (fun hg => q_fieldAddr0 (d := 0) Try.underlying94 rfl ((hF.eval rfl).trans (gv_of hg)) rfl Try.sizeOf3 (by decide) rfl) fun a hF => ?_
  refine wl_g hF rfl rfl rfl rfl rfl rfl (fun hg => q_load Try.isAgg3 rfl ((hF.eval rfl).trans (gv_of hg)) (rdB_cell (RR.now hR hO).blk rfl)) fun a hF => ?_
  refine wl_g hF rfl rfl rfl rfl rfl rfl (fun hg => q_lt rfl ((hF.eval rfl).trans (gv_of hg)) ((hF.eval rfl).trans (gv_of hg))) fun a hF => ?_
  refine wl_v hF rfl rfl rfl (q_and rfl (hF.eval rfl) rfl (fun hg2 => ((hF.eval rfl).trans (gv_of hg2))) rfl) fun a hF => ?_
  refine wl_v hF rfl rfl rfl (q_move rfl (hF.eval rfl)) fun a hF => ?_
  refine wl_g hF rfl rfl rfl rfl rfl rfl (fun hg => q_move rfl (hF.eval rfl)) fun a hF => ?_
  refine wl_g hF rfl rfl rfl rfl rfl rfl (fun hg => q_move rfl (hF.eval rfl)) fun a hF => ?_
  refine wl_gk hO hF rfl rfl rfl rfl rfl rfl (fun hg => c_callG hF rfl rfl (by first | with_reducible rfl | (simp only [gv_of hg]; done) | (simp only [gv_of hg]; rfl)) Try.call63 (find_rr _ _ _ (hR.at0 hO) g _)) fun a w hO hF => ?_
  refine wl_g hF rfl rfl rfl rfl rfl rfl (fun hg => q_pne Try.underlying96 rfl ((hF.eval rfl).trans (gv_of hg)) (hF.eval rfl)) fun a hF => ?_
  refine wl_v hF rfl rfl rfl (q_and rfl (hF.eval rfl) rfl (fun hg2 => ((hF.eval rfl).trans (gv_of hg2))) rfl) fun a hF => ?_
  refine wl_v hF rfl rfl rfl (q_assign rfl (hF.eval rfl)) fun a hF => ?_
  refine wl_nil ?_
  refine k_n ?_
  refine wp_ret ?_
  refine r_1 hF rfl rfl ?_
  have hO : St _ _ _ [] := hO
  exact ⟨congrArg Value.bool (decide_eq_decide.2 (and_congr Iff.rfl (not_congr ptrO_none))), hO⟩

theorem begins_rr (w0 : World) (br : Nat) (R : RH) (hR : RR w0 [] br R) (g : RG R) (k : Nat) (hk : k < 3) : Ret Try.prog 78 #[ptr (adr br), i64 k] w0 (fun v w' => v = i64 (begR R k) ∧ St w0 [] w' []) := by
  have hO := St.init0 w0
  have gy := g.y
  refine ret_of (m := 19) Try.func78 rfl Try.ntmps78 [(0, ptr (adr br)), (1, i64 k)] rfl ⟨rfl, rfl, trivial⟩ fun a hF => ?_
  refine wp_seq ?_
  refine wp_region_lit ?_
  refine wl_v hF rfl rfl rfl (q_assign rfl (hF.eval rfl)) fun a hF => ?_
  refine wl_nil ?_
  refine k_n ?_
  refine wp_seq ?_
  refine wp_seq ?_
  refine wp_region_lit ?_
  refine wl_v hF rfl rfl rfl (q_move rfl (hF.eval rfl)) fun a hF => ?_
  refine wl_v hF rfl rfl rfl (q_eq rfl (hF.eval rfl) (hF.eval rfl)) fun a hF => ?_
  refine wl_nil ?_
  refine k_n ?_
  refine wp_ifD hF rfl rfl (fun hc1 => ?_) (fun hc1 => ?_)
  · skip
    refine wp_seq ?_
    refine wp_region_lit ?_
    refine wl_v hF rfl rfl rfl (q_assign rfl (hF.eval rfl)) fun a hF => ?_
    refine wl_nil ?_
    refine k_n ?_
    refine wp_ret ?_
    refine k_r ?_
    refine r_1 hF rfl rfl ?_
    exact ⟨congrArg i64 (if_pos (by omega)).symm, hO⟩
  · skip
    obtain ⟨e1, e2, e3⟩ := beg_in g hk hc1
    refine wp_skip ?_
    refine k_n ?_
    refine wp_seq ?_
    have hO := hO.drew
    refine wp_region_D [0, 0, 0, 1, 0, 0, 0, 0, 0, 1, 0, 0, 0] (fun w => St _ _ w _) Try_mixed (by kernel_rfl) hO ?_
    refine wd_p hF rfl rfl rfl (fun w => q_move rfl (hF.eval rfl)) fun a hF => ?_
    refine wd_p hF rfl rfl rfl (fun w => q_nilCheck rfl (hF.eval rfl)) fun a hF => ?_
    refine wd_p hF rfl rfl rfl (fun w => q_fieldAddr0 (d := 0) Try.underlying94 rfl (hF.eval rfl) rfl Try.sizeOf3 (by decide) rfl) fun a hF => ?_
    refine wd_r hF rfl rfl rfl (fun w hO => q_load Try.isAgg3 rfl (hF.eval rfl) (rdB_cell (RR.now hR hO).blk rfl)) fun a hF => ?_
    refine wd_p hF rfl rfl rfl (fun w => q_move rfl (hF.eval rfl)) fun a hF => ?_
    refine wd_p hF rfl rfl rfl (fun w => q_sub rfl (hF.eval rfl) (hF.eval rfl) (by omega)) fun a hF => ?_
    refine wd_p hF rfl rfl rfl (fun w => q_move rfl (hF.eval rfl)) fun a hF => ?_
    refine wd_p hF rfl rfl rfl (fun w => q_nilCheck rfl (hF.eval rfl)) fun a hF => ?_
    refine wd_p hF rfl rfl rfl (fun w => q_fieldAddr0 (d := 1) Try.underlying94 rfl (hF.eval rfl) rfl Try.sizeOf3 (by decide) rfl) fun a hF => ?_
    refine wd_r hF rfl rfl rfl (fun w hO => q_load Try.isAgg3 rfl (hF.eval rfl) (rdB_cell (RR.now hR hO).blk rfl)) fun a hF => ?_
    refine wd_p hF rfl rfl rfl (fun w => q_mul rfl (hF.eval rfl) (hF.eval rfl) (by omega)) fun a hF => ?_
    refine wd_p hF rfl rfl rfl (fun w => q_add rfl (hF.eval rfl) (hF.eval rfl) (by omega)) fun a hF => ?_
    refine wd_p hF rfl rfl rfl (fun w => q_assign rfl (hF.eval rfl)) fun a hF => ?_
    refine wd_nil ?_
    refine k_n ?_
    refine wp_ret ?_
    refine r_1 hF rfl rfl ?_
    exact ⟨congrArg i64 e1.symm, hO⟩

theorem used_rr (w0 : World) (br : Nat) (R : RH) (hR : RR w0 [] br R) (g : RG R) (k : Nat) (hk : k < 3) : Ret Try.prog 68 #[ptr (adr br), i64 k] w0 (fun v w' => v = i64 (usedR R k) ∧ St w0 [] w' []) := by
  have hO := St.init0 w0
  have hlen := g.len k hk
  refine ret_of (m := 35) Try.func68 rfl Try.ntmps68 [(0, ptr (adr br)), (1, i64 k)] rfl ⟨rfl, rfl, trivial⟩ fun a hF => ?_
  refine wp_seq ?_
  refine wp_region_lit ?_
  refine wl_v hF rfl rfl rfl (q_assign rfl (hF.eval rfl)) fun a hF => ?_
  refine wl_nil ?_
  refine k_n ?_
  refine wp_seq ?_
  refine wp_region_lit ?_
  refine wl_v hF rfl rfl rfl (q_move rfl (hF.eval rfl)) fun a hF => ?_
  refine wl_v hF rfl rfl rfl (q_move rfl (hF.eval rfl)) fun a hF => ?_
  refine wl_v hF rfl rfl rfl (q_nilCheck rfl (hF.eval rfl)) fun a hF => ?_
  refine wl_v hF rfl rfl rfl (q_fieldAddr0 (d := 2) Try.underlying94 rfl (hF.eval rfl) rfl Try.sizeOf92 (by decide) rfl) fun a hF => ?_
  refine wl_v hF rfl rfl rfl (q_atArrK (i := k) (d := 2) Try.underlying92 Try.sizeOf91 rfl (hF.eval rfl) (hF.eval rfl) (hk)) fun a hF => ?_
  refine wl_v hF rfl rfl rfl (q_load Try.isAgg91 rfl (hF.eval rfl) (rdB_cell (RR.now hR hO).blk (rfC_at1 (hk)))) fun a hF => ?_
  refine wl_v hF rfl rfl rfl (q_lenRd (hR.ps k (hk)) Try.underlying91 rfl (hF.eval rfl)) fun a hF => ?_
  refine wl_v hF rfl rfl rfl (q_assign rfl (hF.eval rfl)) fun a hF => ?_
  refine wl_nil ?_
  refine k_n ?_
  refine wp_seq ?_
  refine wp_seq ?_
  refine wp_region_lit ?_
  refine wl_v hF rfl rfl rfl (q_move rfl (hF.eval rfl)) fun a hF => ?_
  refine wl_v hF rfl rfl rfl (q_eq rfl (hF.eval rfl) (hF.eval rfl)) fun a hF => ?_
  refine wl_nil ?_
  refine k_n ?_
  refine wp_ifD hF rfl rfl (fun hc1 => ?_) (fun hc1 => ?_)
  · skip
    refine wp_seq ?_
    refine wp_region_lit ?_
    refine wl_v hF rfl rfl rfl (q_assign rfl (hF.eval rfl)) fun a hF => ?_
    refine wl_nil ?_
    refine k_n ?_
    refine wp_ret ?_
    refine k_r ?_
    refine r_1 hF rfl rfl ?_
    have hO : St _ _ _ [] := hO
    exact ⟨congrArg i64 (if_pos (by omega)).symm, hO⟩
  · skip
    have hlast := last_at hc1
    have hrg := ob_rng g hk hlast
    have hbg := beg_rng g hk
    refine wp_skip ?_
    refine k_n ?_
    refine wp_seq ?_
    refine wp_region_lit ?_
    refine wl_v hF rfl rfl rfl (q_move rfl (hF.eval rfl)) fun a hF => ?_
    refine wl_v hF rfl rfl rfl (q_move rfl (hF.eval rfl)) fun a hF => ?_
    refine wl_v hF rfl rfl rfl (q_nilCheck rfl (hF.eval rfl)) fun a hF => ?_
    refine wl_v hF rfl rfl rfl (q_fieldAddr0 (d := 2) Try.underlying94 rfl (hF.eval rfl) rfl Try.sizeOf92 (by decide) rfl) fun a hF => ?_
    refine wl_v hF rfl rfl rfl (q_atArrK (i := k) (d := 2) Try.underlying92 Try.sizeOf91 rfl (hF.eval rfl) (hF.eval rfl) (hk)) fun a hF => ?_
    refine wl_v hF rfl rfl rfl (q_load Try.isAgg91 rfl (hF.eval rfl) (rdB_cell (RR.now hR hO).blk (rfC_at1 (hk)))) fun a hF => ?_
    refine wl_v hF rfl rfl rfl (q_move rfl (hF.eval rfl)) fun a hF => ?_
    refine wl_v hF rfl rfl rfl (q_sub rfl (hF.eval rfl) (hF.eval rfl) (by omega)) fun a hF => ?_
    refine wl_v hF rfl rfl rfl (q_at (i := ((R.p k).length - 1)) (hR.ps k (hk)) Try.underlying91 Try.sizeOf99 rfl (hF.eval rfl) ((hF.eval rfl).trans (congrArg i64 (show ((R.p k).length : Int) - 1 = (((R.p k).length - 1 : Nat) : Int) by omega))) (by omega)) fun a hF => ?_
    refine wl_v hF rfl rfl rfl (q_loadAgg Try.isAgg99 Try.sizeOf99 rfl (hF.eval rfl) (RdT.cells ((hR.ps k (hk)).now hO) hlast) rfl) fun a hF => ?_
    refine wl_e hF rfl rfl rfl (e_alloc hO Try.zeroValue99 rfl rfl) ?_
    rintro a _ w ⟨o6, rfl, hO⟩ hF
    refine wl_s hF rfl rfl (e_storeAll hO (i := 0) rfl Try.sizeOf99 rfl (hF.eval rfl) (hF.eval rfl) rfl rfl) ?_
    rintro a _ w ⟨-, hO⟩ hF
    have hO : St _ _ _ [_] := hO
    refine wl_nil ?_
    refine k_n ?_
    refine wp_seq ?_
    have hO := hO.drew
    refine wp_region_D [0, 1, 0, 1, 0, 0, 0, 2, 0, 0] (fun w => St _ _ w _) Try_mixed (by kernel_rfl) hO ?_
    refine wd_p hF rfl rfl rfl (fun w => q_fieldAddr0 (d := 0) Try.underlying99 rfl (hF.eval rfl) rfl Try.sizeOf3 (by decide) rfl) fun a hF => ?_
    refine wd_r hF rfl rfl rfl (fun w hO => q_load Try.isAgg3 rfl (hF.eval rfl) (hO.cell 0 rfl rfl)) fun a hF => ?_
    refine wd_p hF rfl rfl rfl (fun w => q_fieldAddr0 (d := 1) Try.underlying99 rfl (hF.eval rfl) rfl Try.sizeOf3 (by decide) rfl) fun a hF => ?_
    refine wd_r hF rfl rfl rfl (fun w hO => q_load Try.isAgg3 rfl (hF.eval rfl) (hO.cell 0 rfl rfl)) fun a hF => ?_
    refine wd_p hF rfl rfl rfl (fun w => q_add rfl (hF.eval rfl) (hF.eval rfl) (by omega)) fun a hF => ?_
    refine wd_p hF rfl rfl rfl (fun w => q_move rfl (hF.eval rfl)) fun a hF => ?_
    refine wd_p hF rfl rfl rfl (fun w => q_move rfl (hF.eval rfl)) fun a hF => ?_
    refine wd_e hF rfl rfl rfl (c_call hF rfl rfl Try.call78 (begins_rr _ _ _ (hR.at0 hO) g k (hk))) (fun _ _ ⟨_, hS⟩ => hO.call0 hS) ?_
    rintro a _ w ⟨rfl, hS⟩ hF
    have hO := hO.call0 hS
    have hO : St _ _ _ [_] := hO
    refine wd_p hF rfl rfl rfl (fun w => q_sub rfl (hF.eval rfl) (hF.eval rfl) (by omega)) fun a hF => ?_
    refine wd_p hF rfl rfl rfl (fun w => q_assign rfl (hF.eval rfl)) fun a hF => ?_
    refine wd_nil ?_
    refine k_n ?_
    refine wp_ret ?_
    refine r_1 hF rfl rfl ?_
    have hO := hO.drop1 0
    have hO : St _ _ _ [] := hO
    exact ⟨congrArg i64 (if_neg (by omega)).symm, hO⟩

theorem used2_rr (w0 : World) (br : Nat) (R : RH) (hR : RR w0 [] br R) (g : RG R) : Ret Try.prog 40 #[ptr (adr br)] w0 (fun v w' => v = .tuple #[i64 (usedR R 0), i64 (usedR R R.use)] ∧ St w0 [] w' []) := by
  have hO := St.init0 w0
  have hu := use_rng g
  refine ret_of (m := 12) Try.func40 rfl Try.ntmps40 [(0, ptr (adr br))] rfl ⟨rfl, trivial⟩ fun a hF => ?_
  refine wp_seq ?_
  refine wp_region_lit ?_
  refine wl_v hF rfl rfl rfl (q_assign rfl (hF.eval rfl)) fun a hF => ?_
  refine wl_v hF rfl rfl rfl (q_assign rfl (hF.eval rfl)) fun a hF => ?_
  refine wl_nil ?_
  refine k_n ?_
  refine wp_seq ?_
  have hO := hO.drew
  refine wp_region_D [0, 2, 0, 0, 0, 0, 1, 2, 0, 0] (fun w => St _ _ w _) Try_mixed (by kernel_rfl) hO ?_
  refine wd_p hF rfl rfl rfl (fun w => q_move rfl (hF.eval rfl)) fun a hF => ?_
  refine wd_e hF rfl rfl rfl (c_call hF rfl rfl Try.call68 (used_rr _ _ _ (hR.at0 hO) g 0 (by decide))) (fun _ _ ⟨_, hS⟩ => hO.call0 hS) ?_
  rintro a _ w ⟨rfl, hS⟩ hF
  have hO := hO.call0 hS
  have hO : St _ _ _ [] := hO
  refine wd_p hF rfl rfl rfl (fun w => q_move rfl (hF.eval rfl)) fun a hF => ?_
  refine wd_p hF rfl rfl rfl (fun w => q_move rfl (hF.eval rfl)) fun a hF => ?_
  refine wd_p hF rfl rfl rfl (fun w => q_nilCheck rfl (hF.eval rfl)) fun a hF => ?_
  refine wd_p hF rfl rfl rfl (fun w => q_fieldAddr0 (d := 5) Try.underlying94 rfl (hF.eval rfl) rfl Try.sizeOf3 (by decide) rfl) fun a hF => ?_
  refine wd_r hF rfl rfl rfl (fun w hO => q_load Try.isAgg3 rfl (hF.eval rfl) (rdB_cell (RR.now hR hO).blk rfl)) fun a hF => ?_
  refine wd_e hF rfl rfl rfl (c_call hF rfl rfl Try.call68 (used_rr _ _ _ (hR.at0 hO) g R.use (hu.1))) (fun _ _ ⟨_, hS⟩ => hO.call0 hS) ?_
  rintro a _ w ⟨rfl, hS⟩ hF
  have hO := hO.call0 hS
  have hO : St _ _ _ [] := hO
  refine wd_p hF rfl rfl rfl (fun w => q_assign rfl (hF.eval rfl)) fun a hF => ?_
  refine wd_p hF rfl rfl rfl (fun w => q_assign rfl (hF.eval rfl)) fun a hF => ?_
  refine wd_nil ?_
  refine k_n ?_
  refine wp_ret ?_
  refine r_2 hF rfl rfl rfl ?_
  have hO : St _ _ _ [] := hO
  exact ⟨rfl, hO⟩

theorem left_rr (w0 : World) (br : Nat) (R : RH) (hR : RR w0 [] br R) (g : RG R) : Ret Try.prog 42 #[ptr (adr br)] w0 (fun v w' => v = i64 (usedR R (3 - R.use)) ∧ St w0 [] w' []) := by
  have hO := St.init0 w0
  have hu := use_rng g
  refine ret_of (m := 10) Try.func42 rfl Try.ntmps42 [(0, ptr (adr br))] rfl ⟨rfl, trivial⟩ fun a hF => ?_
  refine wp_seq ?_
  refine wp_region_lit ?_
  refine wl_v hF rfl rfl rfl (q_assign rfl (hF.eval rfl)) fun a hF => ?_
  refine wl_nil ?_
  refine k_n ?_
  refine wp_seq ?_
  refine wp_region_lit ?_
  refine wl_v hF rfl rfl rfl (q_move rfl (hF.eval rfl)) fun a hF => ?_
  refine wl_v hF rfl rfl rfl (q_move rfl (hF.eval rfl)) fun a hF => ?_
  refine wl_v hF rfl rfl rfl (q_nilCheck rfl (hF.eval rfl)) fun a hF => ?_
  refine wl_v hF rfl rfl rfl (q_fieldAddr0 (d := 5) Try.underlying94 rfl (hF.eval rfl) rfl Try.sizeOf3 (by decide) rfl) fun a hF => ?_
  refine wl_v hF rfl rfl rfl (q_load Try.isAgg3 rfl (hF.eval rfl) (rdB_cell (RR.now hR hO).blk rfl)) fun a hF => ?_
  refine wl_v hF rfl rfl rfl (q_sub rfl (hF.eval rfl) (hF.eval rfl) (by omega)) fun a hF => ?_
  rw [hu.2.2.2.2] at hF
  refine wl_e hF rfl rfl rfl (c_call hF rfl rfl Try.call68 (used_rr _ _ _ (hR.at0 hO) g (3 - R.use) (hu.2.1))) ?_
  rintro a _ w ⟨rfl, hS⟩ hF
  have hO := hO.call0 hS
  have hO : St _ _ _ [] := hO
  refine wl_v hF rfl rfl rfl (q_assign rfl (hF.eval rfl)) fun a hF => ?_
  refine wl_nil ?_
  refine k_n ?_
  refine wp_ret ?_
  refine r_1 hF rfl rfl ?_
  have hO : St _ _ _ [] := hO
  exact ⟨rfl, hO⟩

end Go.Proofs.Ytglienidnffnjaa
