import Derived.Test.YtnnagjbkpmkelaaDoorRj
import Derived.Test.YtnnagjbkpmkelaaDoorPl3
import Derived.Test.YtnnagjbkpmkelaaDoorGw10
namespace Go.Proofs.YtnnagjbkpmkelaaDoor
open Go
set_option maxRecDepth 100000

theorem back_stops (n : Nat) (w : World) (bx : Nat) (v : Value) (st : List Thg) (bs : List Nat) (hlen : st.length ≤ 2000000000000) (hbox : w.cell? (adr bx) = some v) (hbl : bx < w.heap.size) (hv : RdT w [] v itmE st) (hb1 : bx ∈ bs) (hb2 : 0 < st.length → (sa v).block ∈ bs) :
    SeqStopsK Fence.wide n Tryd.prog 55 #[ptr (adr bx)] (fun x : Nat × Thg => #[i64 (x.1 : Int), .agg (itmE.cells x.2).toArray]) (KeepB bs) (fun xs => xs = backs st st.length) (fun pre => ∃ k, k ≤ st.length ∧ pre = backs st k) st.length w := by
  intro l J Jx W hW _ _ hY h0
  have hbW : W.cell? (adr bx) = some v := (hW.cell (p := adr bx) hbl).trans hbox
  have hvW : RdT W [] v itmE st := hv.below hW
  have key : Ret Tryd.prog 55 #[.func (.yield l) #[] #[], ptr (adr bx)] W (fun _ w' => (∃ xs, xs = backs st st.length ∧ J xs w') ∨ (∃ pre, (∃ k, k ≤ st.length ∧ pre = backs st k) ∧ Jx pre w')) := by
    refine ret_of (m := 19) Tryd.func55 rfl Tryd.ntmps55 [(0, .func (.yield l) #[] #[]), (1, ptr (adr bx))] rfl ⟨rfl, rfl, trivial⟩ fun a hF => ?_
    refine wp_seq ?_
    refine wp_region_lit ?_
    refine wl_v hF rfl rfl rfl (q_load Tryd.isAgg54 rfl (hF.eval rfl) hbW) fun a hF => ?_
    refine wl_v hF rfl rfl rfl (q_lenRd hvW Tryd.underlying54 rfl (hF.eval rfl)) fun a hF => ?_
    refine wl_v hF rfl rfl rfl (q_sub rfl (hF.eval rfl) (hF.eval rfl) (by omega)) fun a hF => ?_
    refine wl_v hF rfl rfl rfl (q_assign rfl (hF.eval rfl)) fun a hF => ?_
    refine wl_nil ?_
    refine k_n ?_
    refine wp_block ?_
    refine wp_loopS (fun (k : Nat) a w' => (k ≤ st.length ∧ J (backs st (st.length - k)) w' ∧ KeepB bs W w') ∧ Fr a 19 [(0, .func (.yield l) #[] #[]), (1, ptr (adr bx)), (3, i64 ((k : Int) - 1))]) (fun k => k) st.length ⟨⟨Nat.le_refl _, by rw [Nat.sub_self]; exact h0, KeepB.refl _ _⟩, hF.sub ⟨rfl, rfl, rfl, trivial⟩⟩ ?_
    rintro k a wr ⟨⟨hk, hJ, hK⟩, hF⟩
    refine wp_seq ?_
    refine wp_seq ?_
    refine wp_region_lit ?_
    refine wl_v hF rfl rfl rfl (q_move rfl (hF.eval rfl)) fun a hF => ?_
    refine wl_v hF rfl rfl rfl (q_ge rfl (hF.eval rfl) (hF.eval rfl)) fun a hF => ?_
    refine wl_nil ?_
    refine k_n ?_
    refine wp_ifD hF rfl rfl (fun hc1 => ?_) (fun hc1 => ?_)
    · refine wp_skip ?_
      refine k_n ?_
      obtain ⟨m, rfl⟩ : ∃ m, k = m + 1 := ⟨k - 1, by omega⟩
      have em : ((m + 1 : Nat) : Int) - 1 = (m : Int) := by omega
      rw [em] at hF
      have hbr : wr.cell? (adr bx) = some v := (World.cell?_of_block (hK.2 _ hb1)).trans hbW
      have hvr : RdT wr [] v itmE st := hvW.keepB hK hb2
      refine wp_seq ?_
      refine wp_block ?_
      refine wp_seq ?_
      refine wp_region_y n ?_
      refine wy_v hF rfl rfl rfl (q_move rfl (hF.eval rfl)) fun a hF => ?_
      refine wy_v hF rfl rfl rfl (q_move rfl (hF.eval rfl)) fun a hF => ?_
      refine wy_v hF rfl rfl rfl (q_load Tryd.isAgg54 rfl (hF.eval rfl) hbr) fun a hF => ?_
      refine wy_v hF rfl rfl rfl (q_move rfl (hF.eval rfl)) fun a hF => ?_
      refine wy_v hF rfl rfl rfl (q_at (i := m) hvr Tryd.underlying54 Tryd.sizeOf63 rfl (hF.eval rfl) (hF.eval rfl) (by omega)) fun a hF => ?_
      refine wy_v hF rfl rfl rfl (q_loadAgg Tryd.isAgg63 Tryd.sizeOf63 rfl (hF.eval rfl) (RdT.cells hvr (get_D (d := thg0) (by omega : m < st.length))) rfl) fun a hF => ?_
      have hYm := hY (backs st (st.length - (m + 1))) (m, st.getD m thg0) wr hJ (by rw [backs_len]; omega)
      refine wy_yield hF rfl rfl rfl rfl rfl rfl hYm (fun e w' h => ?_) fun a u w' hR hF => ?_
      · rcases h with ⟨rfl, _⟩ | ⟨rfl, _⟩ <;> exact ⟨_, rfl⟩
      have eb : backs st (st.length - (m + 1)) ++ [(m, st.getD m thg0)] = backs st (st.length - m) := by
        rw [show st.length - m = st.length - (m + 1) + 1 by omega, backs_succ, show st.length - 1 - (st.length - (m + 1)) = m by omega]
      rw [eb] at hR
      obtain ⟨b, rfl, hbt, hbf⟩ : ∃ b : Bool, u = .bool b ∧ (b = true → J (backs st (st.length - m)) w' ∧ KeepB bs wr w') ∧ (b = false → Jx (backs st (st.length - m)) w') := by
        rcases hR with ⟨h, h2, h3⟩ | ⟨h, h2⟩
        · cases h; exact ⟨true, rfl, fun _ => ⟨h2, h3⟩, fun h => by cases h⟩
        · cases h; exact ⟨false, rfl, (fun h => by cases h), fun _ => h2⟩
      refine wy_v hF rfl rfl rfl (q_not rfl (hF.eval rfl) (dec_b _)) fun a hF => ?_
      refine wy_nil ?_
      refine k_n ?_
      refine wp_ifD hF rfl rfl (fun hc2 => ?_) (fun hc2 => ?_)
      · refine wp_ret ?_
        refine b_r ?_
        refine k_r ?_
        refine k_r ?_
        refine b_r ?_
        refine r_0 hF rfl ?_
        exact .inr ⟨_, ⟨st.length - m, by omega, rfl⟩, hbf (by simpa using hc2)⟩
      · refine wp_skip ?_
        refine b_n ?_
        refine k_n ?_
        obtain ⟨hJ2, hK2⟩ := hbt (by simpa using hc2)
        refine wp_region_lit ?_
        refine wl_v hF rfl rfl rfl (q_move rfl (hF.eval rfl)) fun a hF => ?_
        refine wl_v hF rfl rfl rfl (q_sub rfl (hF.eval rfl) (hF.eval rfl) (by omega)) fun a hF => ?_
        refine wl_v hF rfl rfl rfl (q_assign rfl (hF.eval rfl)) fun a hF => ?_
        refine wl_nil ?_
        exact ⟨m, ⟨⟨by omega, hJ2, hK.trans hK2⟩, hF.sub ⟨rfl, rfl, rfl, trivial⟩⟩, by omega⟩
    · refine wp_exit ?_
      refine k_x ?_
      refine k_x ?_
      refine b_x ?_
      refine r_0n hF rfl ?_
      obtain rfl : k = 0 := by omega
      exact .inl ⟨_, rfl, hJ⟩
  exact callsIn_wide.2 (Calls.mono key fun e w' ⟨v, he, h⟩ => ⟨⟨v, he⟩, h⟩)
end Go.Proofs.YtnnagjbkpmkelaaDoor
