import Derived.Test.YtanpeofnlihhoaaDoorRc
import Derived.Test.YtanpeofnlihhoaaDoorPl1
import Derived.Test.YtanpeofnlihhoaaDoorGw8
namespace Go.Proofs.YtanpeofnlihhoaaDoor
open Go
set_option maxRecDepth 100000

/-- What a remark, a text, comes to. -/
def RemR (s : List UInt8) (at_ : Nat) (n : Int) : Prop := (remarkF s at_ = none ∧ n = -1) ∨ ∃ k : Nat, remarkF s at_ = some k ∧ n = k
def TextR (s : List UInt8) (at_ : Nat) (t : List UInt8) (n : Int) : Prop := (textF s at_ = none ∧ n = -1) ∨ ∃ k : Nat, textF s at_ = some (t, k) ∧ n = k
theorem remark_r2 (w0 : World) (br : Nat) (s : List UInt8) (at_ : Nat) (hA : Owns w0 [.ob br 44 (rdr s at_)]) (hs : s.length ≤ 16384) (ha : at_ < s.length) :
    Ret Tryd.prog 16 #[ptr (adr br)] w0 (fun v w' => ∃ n : Int, v = i64 n ∧ RemR s at_ n ∧ St w0 [br] w' [.ob br 44 (rdr s at_)]) :=
  (remark_r w0 br s at_ hA hs ha).mono fun v w' ⟨hv, hS⟩ => by
    cases h : remarkF s at_ with
    | none => rw [h] at hv; exact ⟨_, hv, .inl ⟨h, rfl⟩, hS⟩
    | some k => rw [h] at hv; exact ⟨_, hv, .inr ⟨k, h, rfl⟩, hS⟩
theorem text_r2 (w0 : World) (br : Nat) (s : List UInt8) (at_ : Nat) (hA : Owns w0 [.ob br 44 (rdr s at_)]) (hs : s.length ≤ 16384) (ha : at_ < s.length) :
    Ret Tryd.prog 26 #[ptr (adr br)] w0 (fun v w' => ∃ t, ∃ n : Int, v = .tuple #[str t, i64 n] ∧ TextR s at_ t n ∧ St w0 [br] w' [.ob br 44 (rdr s at_)]) :=
  (text_r w0 br s at_ hA hs ha).mono fun v w' ⟨hv, hS⟩ => by
    cases h : textF s at_ with
    | none => rw [h] at hv; exact ⟨_, _, hv, .inl ⟨h, rfl⟩, hS⟩
    | some p => rw [h] at hv; exact ⟨_, _, hv, .inr ⟨p.2, h, rfl⟩, hS⟩
theorem same_on {la lb : List Tok} {k : Nat} {x y : Tok} (hx : la[k]? = some x) (hy : lb[k]? = some y) (hn : la.take k = lb.take k) (h : x = y) : la.take (k + 1) = lb.take (k + 1) := by
  rw [List.take_add_one, List.take_add_one, hx, hy, hn, h]
theorem same_r (w0 : World) (va vb : Value) (la lb : List Tok) (hl : la.length ≤ 9223372036854775807) (hl2 : lb.length ≤ 9223372036854775807) (hA : RdT w0 [] va tokE la) (hB : RdT w0 [] vb tokE lb) : Ret Tryd.prog 10 #[va, vb] w0 (fun v w' => v = .bool (decide (la = lb)) ∧ St w0 [] w' []) := by
  have hO := St.init0 w0
  refine ret_of (m := 26) Tryd.func10 rfl Tryd.ntmps10 [(0, va), (1, vb)] rfl ⟨rfl, rfl, trivial⟩ fun a hF => ?_
  refine wp_seq ?_
  refine wp_region_lit ?_
  refine wl_v hF rfl rfl rfl (q_assign rfl (hF.eval rfl)) fun a hF => ?_
  refine wl_nil ?_
  refine k_n ?_
  refine wp_seq ?_
  refine wp_seq ?_
  refine wp_region_lit ?_
  refine wl_v hF rfl rfl rfl (q_move rfl (hF.eval rfl)) fun a hF => ?_
  refine wl_v hF rfl rfl rfl (q_lenRd hA Tryd.underlying22 rfl (hF.eval rfl)) fun a hF => ?_
  refine wl_v hF rfl rfl rfl (q_move rfl (hF.eval rfl)) fun a hF => ?_
  refine wl_v hF rfl rfl rfl (q_lenRd hB Tryd.underlying22 rfl (hF.eval rfl)) fun a hF => ?_
  refine wl_v hF rfl rfl rfl (q_ne rfl (hF.eval rfl) (hF.eval rfl)) fun a hF => ?_
  refine wl_nil ?_
  refine k_n ?_
  refine wp_ifD hF rfl rfl (fun hc1 => ?_) (fun hc1 => ?_)
  · skip
    refine wp_seq ?_
    refine wp_region_lit ?_
    refine wl_v hF rfl rfl rfl (q_assign rfl (hF.eval rfl)) fun a hF => ?_
    refine wl_nil ?_
    refine k_n ?_
    refine wp_ret ?_
    refine k_r ?_
    refine r_1 hF rfl rfl ?_
    refine ⟨?_, hO⟩
    rw [decide_eq_false (fun e => hc1 (by rw [e]))]
  · skip
    refine wp_skip ?_
    refine k_n ?_
    refine wp_seq ?_
    refine wp_seq ?_
    refine wp_region_lit ?_
    refine wl_v hF rfl rfl rfl (q_assign rfl (hF.eval rfl)) fun a hF => ?_
    refine wl_nil ?_
    refine k_n ?_
    refine wp_block ?_
    have hO : St _ _ _ [] := hO
    refine wp_loopS (fun (k : Nat) a w' => (k ≤ la.length ∧ la.take k = lb.take k) ∧ St w0 [] w' [] ∧ Fr a 26 [(0, va), (1, vb), (5, i64 k)]) (fun (k : Nat) => la.length - k) 0 ⟨⟨by omega, by simp⟩, hO, hF.sub ⟨rfl, rfl, rfl, trivial⟩⟩ ?_
    rintro k a w ⟨⟨hk, hn⟩, hO, hF⟩
    refine wp_seq ?_
    refine wp_seq ?_
    refine wp_region_lit ?_
    refine wl_v hF rfl rfl rfl (q_move rfl (hF.eval rfl)) fun a hF => ?_
    refine wl_v hF rfl rfl rfl (q_move rfl (hF.eval rfl)) fun a hF => ?_
    refine wl_v hF rfl rfl rfl (q_lenRd hA Tryd.underlying22 rfl (hF.eval rfl)) fun a hF => ?_
    refine wl_v hF rfl rfl rfl (q_lt rfl (hF.eval rfl) (hF.eval rfl)) fun a hF => ?_
    refine wl_nil ?_
    refine k_n ?_
    refine wp_ifD hF rfl rfl (fun hc2 => ?_) (fun hc2 => ?_)
    · skip
      refine wp_skip ?_
      refine k_n ?_
      refine wp_seq ?_
      refine wp_block ?_
      refine wp_seq ?_
      have hO := hO.drew
      refine wp_region_D [0, 0, 0, 1, 0, 0, 0, 1, 0] (fun w => St _ _ w _) Tryd_mixed (by kernel_rfl) hO ?_
      refine wd_p hF rfl rfl rfl (fun w => q_move rfl (hF.eval rfl)) fun a hF => ?_
      refine wd_p hF rfl rfl rfl (fun w => q_move rfl (hF.eval rfl)) fun a hF => ?_
      obtain ⟨x, hx⟩ := get_ex (l := la) (i := k) (by omega)
      refine wd_p hF rfl rfl rfl (fun w => q_at (i := k) hA Tryd.underlying22 Tryd.sizeOf32 rfl (hF.eval rfl) (hF.eval rfl) (by omega)) fun a hF => ?_
      refine wd_r hF rfl rfl rfl (fun w hO => q_loadAgg Tryd.isAgg32 Tryd.sizeOf32 rfl (hF.eval rfl) (RdT.cells (hA.now hO) hx) rfl) fun a hF => ?_
      refine wd_p hF rfl rfl rfl (fun w => q_move rfl (hF.eval rfl)) fun a hF => ?_
      refine wd_p hF rfl rfl rfl (fun w => q_move rfl (hF.eval rfl)) fun a hF => ?_
      obtain ⟨y, hy⟩ := get_ex (l := lb) (i := k) (by omega)
      refine wd_p hF rfl rfl rfl (fun w => q_at (i := k) hB Tryd.underlying22 Tryd.sizeOf32 rfl (hF.eval rfl) (hF.eval rfl) (by omega)) fun a hF => ?_
      refine wd_r hF rfl rfl rfl (fun w hO => q_loadAgg Tryd.isAgg32 Tryd.sizeOf32 rfl (hF.eval rfl) (RdT.cells (hB.now hO) hy) rfl) fun a hF => ?_
      refine wd_p hF rfl rfl rfl (fun w => q_neS Tryd.underlying32 Tryd.stoodInHeld32 Tryd.eqGuardType32 rfl (hF.eval rfl) (hF.eval rfl) (ef_int (by decide) Tryd.isAgg3 Tryd.underlying3 rfl rfl (ef_str (by decide) Tryd.isAgg9 Tryd.underlying9 rfl rfl (ef_int (by decide) Tryd.isAgg3 Tryd.underlying3 rfl rfl (ef_int (by decide) Tryd.isAgg3 Tryd.underlying3 rfl rfl (ef_int (by decide) Tryd.isAgg3 Tryd.underlying3 rfl rfl ef_nil))))) (tok_eq _ _)) fun a hF => ?_
      refine wd_nil ?_
      refine k_n ?_
      refine wp_ifD hF rfl rfl (fun hc3 => ?_) (fun hc3 => ?_)
      · skip
        refine wp_seq ?_
        refine wp_region_lit ?_
        refine wl_v hF rfl rfl rfl (q_assign rfl (hF.eval rfl)) fun a hF => ?_
        refine wl_nil ?_
        refine k_n ?_
        refine wp_ret ?_
        refine b_r ?_
        refine k_r ?_
        refine k_r ?_
        refine b_r ?_
        refine k_r ?_
        refine r_1 hF rfl rfl ?_
        refine ⟨?_, hO⟩
        rw [decide_eq_false (fun e => hc3 (by rw [e, hy] at hx; exact (Option.some.inj hx).symm))]
      · skip
        refine wp_skip ?_
        refine b_n ?_
        refine k_n ?_
        refine wp_region_lit ?_
        refine wl_v hF rfl rfl rfl (q_move rfl (hF.eval rfl)) fun a hF => ?_
        refine wl_v hF rfl rfl rfl (q_add rfl (hF.eval rfl) (hF.eval rfl) (by omega)) fun a hF => ?_
        refine wl_v hF rfl rfl rfl (q_assign rfl (hF.eval rfl)) fun a hF => ?_
        refine wl_nil ?_
        refine k_n ?_
        have hO : St _ _ _ [] := hO
        exact ⟨k + 1, ⟨⟨by omega, same_on hx hy hn (Classical.not_not.1 hc3)⟩, hO, hF.sub ⟨rfl, rfl, rfl, trivial⟩⟩, by omega⟩
    · skip
      refine wp_exit ?_
      refine k_x ?_
      refine k_x ?_
      refine b_x ?_
      refine k_n ?_
      refine wp_seq ?_
      refine wp_region_lit ?_
      refine wl_v hF rfl rfl rfl (q_assign rfl (hF.eval rfl)) fun a hF => ?_
      refine wl_nil ?_
      refine k_n ?_
      refine wp_ret ?_
      refine r_1 hF rfl rfl ?_
      refine ⟨?_, hO⟩
      rw [decide_eq_true (by rw [List.take_of_length_le (by omega), List.take_of_length_le (by omega)] at hn; exact hn)]

end Go.Proofs.YtanpeofnlihhoaaDoor
