import Derived.Test.YtglienidnffnjaaIa
import Derived.Test.YtglienidnffnjaaPl9
import Derived.Test.YtglienidnffnjaaGw19
import Derived.Test.YtglienidnffnjaaPl7
namespace Go.Proofs.Ytglienidnffnjaa
open Go
set_option maxRecDepth 100000
set_option maxHeartbeats 4000000 in
theorem hchains_r (w0 : World) (n en : Int) : Ret Try.prog 3 #[i64 n, i64 en] w0 (fun v w' => v = .bool true ∧ St w0 [] w' []) := by
  have hO := St.init0 w0
  have hp : (⟨false, en⟩ : Wd).ptr = false := rfl
  refine ret_of (m := 75) Try.func3 rfl Try.ntmps3 [(0, i64 n), (1, i64 en)] rfl ⟨rfl, rfl, trivial⟩ fun a hF => ?_
  refine wp_seq ?_
  refine wp_region_lit ?_
  refine wl_v hF rfl rfl rfl (q_assign rfl (hF.eval rfl)) fun a hF => ?_
  refine wl_nil ?_
  refine k_n ?_
  refine wp_seq ?_
  refine wp_region_lit ?_
  refine wl_e hF rfl rfl rfl (c_call hF rfl rfl Try.call11 (newOk_r _ _ _ (by decide))) ?_
  rintro a _ w ⟨bh, vw, vh, vr, rfl, hS⟩ hF
  have hO := hO.call0 hS
  have hO : St _ _ _ [_, _, _, _] := hO
  refine wl_v hF rfl rfl rfl (q_move rfl (hF.eval rfl)) fun a hF => ?_
  refine wl_v hF rfl rfl rfl (q_extract rfl (hF.eval rfl) rfl) fun a hF => ?_
  refine wl_v hF rfl rfl rfl (q_extract rfl (hF.eval rfl) rfl) fun a hF => ?_
  refine wl_v hF rfl rfl rfl (q_assign rfl (hF.eval rfl)) fun a hF => ?_
  refine wl_v hF rfl rfl rfl (q_assign rfl (hF.eval rfl)) fun a hF => ?_
  refine wl_nil ?_
  refine k_n ?_
  refine wp_seq ?_
  refine wp_seq ?_
  refine wp_region_lit ?_
  refine wl_v hF rfl rfl rfl (q_move rfl (hF.eval rfl)) fun a hF => ?_
  refine wl_v hF rfl rfl rfl (q_ne rfl (hF.eval rfl) (hF.eval rfl)) fun a hF => ?_
  refine wl_v hF rfl rfl rfl (q_move rfl (hF.eval rfl)) fun a hF => ?_
  refine wl_g hF rfl rfl rfl rfl rfl rfl (fun hg => q_move rfl (hF.eval rfl)) fun a hF => ?_
  refine wl_g hF rfl rfl rfl rfl rfl rfl (fun hg => q_peq Try.underlying22 rfl ((hF.eval rfl).trans (gv_of hg)) (hF.eval rfl)) fun a hF => ?_
  refine wl_v hF rfl rfl rfl (q_or rfl (hF.eval rfl) rfl (fun hg2 => ((hF.eval rfl).trans (gv_of hg2))) rfl) fun a hF => ?_
  refine wl_nil ?_
  refine k_n ?_
  refine wp_ifD hF rfl rfl (fun hc1 => ?_) (fun hc1 => ?_)
  · skip
    exact absurd hc1 (by simp)
  · skip
    refine wp_skip ?_
    refine k_n ?_
    refine wp_seq ?_
    refine wp_region_lit ?_
    refine wl_v hF rfl rfl rfl (q_move rfl (hF.eval rfl)) fun a hF => ?_
    refine wl_v hF rfl rfl rfl (q_max rfl (hF.eval rfl) (hF.eval rfl)) fun a hF => ?_
    refine wl_v hF rfl rfl rfl (q_min rfl (hF.eval rfl) (hF.eval rfl)) fun a hF => ?_
    refine wl_v hF rfl rfl rfl (q_assign rfl (hF.eval rfl)) fun a hF => ?_
    refine wl_nil ?_
    refine k_n ?_
    refine wp_seq ?_
    refine wp_region_lit ?_
    refine wl_v hF rfl rfl rfl (q_move rfl (hF.eval rfl)) fun a hF => ?_
    refine wl_v hF rfl rfl rfl (c_build hF Try.underlying27 Try.zeroValue27 Try_places27 rfl rfl rfl rfl) fun a hF => ?_
    refine wl_e hF rfl rfl rfl (e_alloc hO Try.zeroValue27 rfl rfl) ?_
    rintro a vw9 w ⟨ww, rfl, hO⟩ hF
    refine wl_s hF rfl rfl (e_storeAll hO (i := 0) rfl Try.sizeOf27 rfl (hF.eval rfl) (hF.eval rfl) rfl rfl) ?_
    rintro a _ w ⟨-, hO⟩ hF
    have hO : St _ _ _ [_, _, _, _, _] := hO
    refine wl_nil ?_
    refine k_n ?_
    refine wp_seq ?_
    refine wp_region_lit ?_
    refine wl_v hF rfl rfl rfl (q_loadAgg Try.isAgg27 Try.sizeOf27 rfl (hF.eval rfl) (hO.cells 0 rfl) rfl) fun a hF => ?_
    refine wl_e hF rfl rfl rfl (e_alloc hO Try.zeroValue27 rfl rfl) ?_
    rintro a _ w ⟨wf, rfl, hO⟩ hF
    refine wl_s hF rfl rfl (e_storeAll hO (i := 0) rfl Try.sizeOf27 rfl (hF.eval rfl) (hF.eval rfl) rfl rfl) ?_
    rintro a _ w ⟨-, hO⟩ hF
    have hO : St _ _ _ [_, _, _, _, _, _] := hO
    refine wl_nil ?_
    refine k_n ?_
    refine wp_seq ?_
    refine wp_seq ?_
    refine wp_region_lit ?_
    refine wl_v hF rfl rfl rfl (q_assign rfl (hF.eval rfl)) fun a hF => ?_
    refine wl_nil ?_
    refine k_n ?_
    refine wp_block ?_
    have hO := hO.pull 1 rfl
    have hO := hO.pull 5 rfl
    have hO := hO.pull 5 rfl
    have hO := hO.pull 5 rfl
    have hO := hO.pull 5 rfl
    have hO : St _ _ _ [_, _, _, _, _, _] := hO
    refine wp_loopS (fun (q : Nat × Wd × Hp × Value) a w' => match q with | (i, x, h, vr) => (Ch ⟨false, en⟩ i x h ∧ (i : Int) ≤ (min (max n 1) 100)) ∧ St w0 [] w' [.ob bh 77 (hpC vw vh vr h), slT vw 27 wordE h.words, slT vh 84 headE h.heads, slT vr 3 intE h.rem, .ob ww 27 (wordE.cells x), .ob wf 27 (wordE.cells ⟨false, en⟩)] ∧ Fr a 75 [(5, ptr (adr bh)), (7, i64 (min (max n 1) 100)), (8, ptr (adr ww)), (9, ptr (adr wf)), (10, i64 i)]) (fun (q : Nat × Wd × Hp × Value) => match q with | (i, x, h, vr) => 100 - i) (0, ⟨false, en⟩, newH 1024 16, vr) ⟨⟨ch_new _, by show (0 : Int) ≤ _; omega⟩, hO, hF.sub ⟨rfl, rfl, rfl, rfl, rfl, trivial⟩⟩ ?_
    rintro ⟨i, x, h, vr⟩ a w ⟨⟨hC, hik⟩, hO, hF⟩
    have hrl : h.rem.length ≤ 1000 := by rw [hC.rem]; decide
    refine wp_seq ?_
    refine wp_seq ?_
    refine wp_region_lit ?_
    refine wl_v hF rfl rfl rfl (q_move rfl (hF.eval rfl)) fun a hF => ?_
    refine wl_v hF rfl rfl rfl (q_move rfl (hF.eval rfl)) fun a hF => ?_
    refine wl_v hF rfl rfl rfl (q_lt rfl (hF.eval rfl) (hF.eval rfl)) fun a hF => ?_
    refine wl_nil ?_
    refine k_n ?_
    refine wp_ifD hF rfl rfl (fun hc2 => ?_) (fun hc2 => ?_)
    · skip
      have hi : i < 100 := by omega
      refine wp_skip ?_
      refine k_n ?_
      refine wp_seq ?_
      refine wp_block ?_
      refine wp_seq ?_
      refine wp_region_lit ?_
      refine wl_v hF rfl rfl rfl (q_move rfl (hF.eval rfl)) fun a hF => ?_
      have hO := hO.pull 3 rfl
      have hO := hO.pull 3 rfl
      have hO := hO.pull 3 rfl
      have hO := hO.pull 3 rfl
      have hO : St _ _ _ [_, _, _, _, _, _] := hO
      refine wl_e hF rfl rfl rfl (c_call hF rfl rfl Try.call12 (alloc_r _ _ _ _ _ _ hO.own4 hC.wf (by omega) _ _ _ [] (Rd.nil _ _ 2))) ?_
      rintro a _ w ⟨vr, r1, h1, hl1, rfl, hS⟩ hF
      have hO := hO.call4 hS
      have hO : St _ _ _ [_, _, _, _, _, _] := hO
      obtain rfl : r1 = (((2 * i : Nat) : Int), 0) := (congrArg Prod.fst hl1).symm.trans (congrArg Prod.fst (hC.lay (by omega) (by decide)))
      obtain rfl : chA h i 3 0 = h1 := (congrArg Prod.snd (hC.lay (by omega) (by decide))).symm.trans (congrArg Prod.snd hl1)
      refine wl_v hF rfl rfl rfl (q_move rfl (hF.eval rfl)) fun a hF => ?_
      refine wl_v hF rfl rfl rfl (q_extract rfl (hF.eval rfl) rfl) fun a hF => ?_
      refine wl_v hF rfl rfl rfl (q_extract rfl (hF.eval rfl) rfl) fun a hF => ?_
      refine wl_v hF rfl rfl rfl (q_assign rfl (hF.eval rfl)) fun a hF => ?_
      refine wl_v hF rfl rfl rfl (q_assign rfl (hF.eval rfl)) fun a hF => ?_
      refine wl_nil ?_
      refine k_n ?_
      refine wp_seq ?_
      refine wp_seq ?_
      refine wp_region_lit ?_
      refine wl_v hF rfl rfl rfl (q_move rfl (hF.eval rfl)) fun a hF => ?_
      refine wl_v hF rfl rfl rfl (q_ne rfl (hF.eval rfl) (hF.eval rfl)) fun a hF => ?_
      refine wl_v hF rfl rfl rfl (q_move rfl (hF.eval rfl)) fun a hF => ?_
      refine wl_un hF rfl rfl rfl rfl (isB_F (by simp)) ?_
      refine wl_v hF rfl rfl rfl (q_move rfl (hF.eval rfl)) fun a hF => ?_
      refine wl_un hF rfl rfl rfl rfl (isB_F (by simp)) ?_
      refine wl_v hF rfl rfl rfl (q_move rfl (hF.eval rfl)) fun a hF => ?_
      refine wl_un hF rfl rfl rfl rfl (isB_F (by simp)) ?_
      refine wl_v hF rfl rfl rfl (q_loadAgg Try.isAgg27 Try.sizeOf27 rfl (hF.eval rfl) (hO.cells 4 rfl) rfl) fun a hF => ?_
      refine wl_un hF rfl rfl rfl rfl (isB_F (by simp)) ?_
      have hO := hO.pull 3 rfl
      have hO := hO.pull 3 rfl
      have hO := hO.pull 3 rfl
      have hO := hO.pull 3 rfl
      have hO : St _ _ _ [_, _, _, _, _, _] := hO
      refine wl_e hF rfl rfl rfl (c_call hF rfl rfl Try.call13 (link_r _ _ _ _ _ _ hO.own4 (hC.wfA (by omega) (by decide)) (by rw [show (chA h i 3 0).rem = h.rem from rfl]; omega) _ x)) ?_
      rintro a _ w ⟨vr, r2, h2, hl2, rfl, hS⟩ hF
      have hO := hO.call4 hS
      have hO : St _ _ _ [_, _, _, _, _, _] := hO
      obtain rfl : r2 = 0 := (congrArg Prod.fst hl2).symm.trans (congrArg Prod.fst (hC.link hi hp))
      obtain rfl : chB h i x = h2 := (congrArg Prod.snd (hC.link hi hp)).symm.trans (congrArg Prod.snd hl2)
      have hC2 := hC.next hi hp
      have hch2 := hC2.chase (by omega) hp
      refine wl_un hF rfl rfl rfl rfl (isB_F (by simp)) ?_
      refine wl_v hF rfl rfl rfl (q_ne rfl (hF.eval rfl) (hF.eval rfl)) fun a hF => ?_
      refine wl_v hF rfl rfl rfl (q_or rfl (hF.eval rfl) rfl (fun hg2 => (hF.eval rfl)) rfl) fun a hF => ?_
      refine wl_nil ?_
      refine k_n ?_
      refine wp_ifD hF rfl rfl (fun hc3 => ?_) (fun hc3 => ?_)
      · skip
        exact absurd hc3 (by simp)
      · skip
        refine wp_skip ?_
        refine k_n ?_
        refine wp_seq ?_
        refine wp_region_lit ?_
        refine wl_v hF rfl rfl rfl (q_move rfl (hF.eval rfl)) fun a hF => ?_
        refine wl_v hF rfl rfl rfl (c_build hF Try.underlying27 Try.zeroValue27 Try_places27 rfl rfl rfl rfl) fun a hF => ?_
        refine wl_s hF rfl rfl (e_storeAll hO (i := 4) rfl Try.sizeOf27 rfl (hF.eval rfl) (hF.eval rfl) rfl rfl) ?_
        rintro a _ w ⟨-, hO⟩ hF
        have hO : St _ _ _ [_, _, _, _, _, _] := hO
        refine wl_nil ?_
        refine k_n ?_
        refine wp_seq ?_
        have hO := hO.drew
        refine wp_region_D [0, 1, 2, 1, 0] (fun w => St _ _ w _) Try_mixed (by kernel_rfl) hO ?_
        refine wd_p hF rfl rfl rfl (fun w => q_move rfl (hF.eval rfl)) fun a hF => ?_
        refine wd_r hF rfl rfl rfl (fun w hO => q_loadAgg Try.isAgg27 Try.sizeOf27 rfl (hF.eval rfl) (hO.cells 4 rfl) rfl) fun a hF => ?_
        refine wd_e hF rfl rfl rfl (c_call hF rfl rfl Try.call14 (chase_r _ _ _ _ _ _ (hO.hr 0 1 2 3 rfl rfl rfl rfl) hC2.wf ⟨true, ((2 * i : Nat) : Int)⟩)) (fun _ _ ⟨_, hS⟩ => hO.call0 hS) ?_
        rintro a _ w ⟨rfl, hS⟩ hF
        have hO := hO.call0 hS
        have hO : St _ _ _ [_, _, _, _, _, _] := hO
        refine wd_r hF rfl rfl rfl (fun w hO => q_loadAgg Try.isAgg27 Try.sizeOf27 rfl (hF.eval rfl) (hO.cells 5 rfl) rfl) fun a hF => ?_
        refine wd_p hF rfl rfl rfl (fun w => q_neS Try.underlying27 Try.stoodInHeld27 Try.eqGuardType27 rfl (hF.eval rfl) (hF.eval rfl) (ef_bool (by decide) Try.isAgg4 Try.underlying4 rfl rfl (ef_int (by decide) Try.isAgg3 Try.underlying3 rfl rfl ef_nil)) (word_eq _ _)) fun a hF => ?_
        refine wd_nil ?_
        refine k_n ?_
        refine wp_ifD hF rfl rfl (fun hc4 => ?_) (fun hc4 => ?_)
        · skip
          exact absurd hch2 hc4
        · skip
          refine wp_skip ?_
          refine b_n ?_
          refine k_n ?_
          refine wp_region_lit ?_
          refine wl_v hF rfl rfl rfl (q_move rfl (hF.eval rfl)) fun a hF => ?_
          refine wl_v hF rfl rfl rfl (q_add rfl (hF.eval rfl) (hF.eval rfl) (by omega)) fun a hF => ?_
          refine wl_v hF rfl rfl rfl (q_assign rfl (hF.eval rfl)) fun a hF => ?_
          refine wl_nil ?_
          refine k_n ?_
          have hO : St _ _ _ [_, _, _, _, _, _] := hO
          exact ⟨(i + 1, ⟨true, ((2 * i : Nat) : Int)⟩, chB h i x, vr), ⟨⟨hC.next hi hp, by omega⟩, hO, hF.sub ⟨rfl, rfl, rfl, rfl, rfl, trivial⟩⟩, by dsimp only; omega⟩
    · skip
      have hi : i ≤ 100 := by omega
      refine wp_exit ?_
      refine k_x ?_
      refine k_x ?_
      refine b_x ?_
      refine k_n ?_
      refine wp_seq ?_
      refine wp_region_lit ?_
      refine wl_v hF rfl rfl rfl (q_move rfl (hF.eval rfl)) fun a hF => ?_
      have hO := hO.pull 3 rfl
      have hO := hO.pull 3 rfl
      have hO := hO.pull 3 rfl
      have hO := hO.pull 3 rfl
      have hO : St _ _ _ [_, _, _, _, _, _] := hO
      refine wl_e hF rfl rfl rfl (c_call hF rfl rfl Try.call12 (alloc_r _ _ _ _ _ _ hO.own4 hC.wf (by omega) _ _ _ [] (Rd.nil _ _ 2))) ?_
      rintro a _ w ⟨vr, r3, h3, hl3, rfl, hS⟩ hF
      have hO := hO.call4 hS
      have hO : St _ _ _ [_, _, _, _, _, _] := hO
      obtain rfl : r3 = (((2 * i : Nat) : Int), 0) := (congrArg Prod.fst hl3).symm.trans (congrArg Prod.fst (hC.lay hi (by decide)))
      obtain rfl : chA h i 1 1 = h3 := (congrArg Prod.snd (hC.lay hi (by decide))).symm.trans (congrArg Prod.snd hl3)
      have hch3 := hC.last hi
      refine wl_v hF rfl rfl rfl (q_move rfl (hF.eval rfl)) fun a hF => ?_
      refine wl_v hF rfl rfl rfl (q_extract rfl (hF.eval rfl) rfl) fun a hF => ?_
      refine wl_v hF rfl rfl rfl (q_extract rfl (hF.eval rfl) rfl) fun a hF => ?_
      refine wl_v hF rfl rfl rfl (q_assign rfl (hF.eval rfl)) fun a hF => ?_
      refine wl_v hF rfl rfl rfl (q_assign rfl (hF.eval rfl)) fun a hF => ?_
      refine wl_nil ?_
      refine k_n ?_
      refine wp_seq ?_
      refine wp_seq ?_
      refine wp_region_lit ?_
      refine wl_v hF rfl rfl rfl (q_move rfl (hF.eval rfl)) fun a hF => ?_
      refine wl_v hF rfl rfl rfl (q_ne rfl (hF.eval rfl) (hF.eval rfl)) fun a hF => ?_
      refine wl_nil ?_
      refine k_n ?_
      refine wp_ifD hF rfl rfl (fun hc5 => ?_) (fun hc5 => ?_)
      · skip
        exact absurd hc5 (by simp)
      · skip
        refine wp_skip ?_
        refine k_n ?_
        refine wp_seq ?_
        refine wp_region_lit ?_
        refine wl_v hF rfl rfl rfl (q_move rfl (hF.eval rfl)) fun a hF => ?_
        refine wl_v hF rfl rfl rfl (c_build hF Try.underlying27 Try.zeroValue27 Try_places27 rfl rfl rfl rfl) fun a hF => ?_
        refine wl_e hF rfl rfl rfl (e_alloc hO Try.zeroValue27 rfl rfl) ?_
        rintro a _ w ⟨wc, rfl, hO⟩ hF
        refine wl_s hF rfl rfl (e_storeAll hO (i := 0) rfl Try.sizeOf27 rfl (hF.eval rfl) (hF.eval rfl) rfl rfl) ?_
        rintro a _ w ⟨-, hO⟩ hF
        have hO : St _ _ _ [_, _, _, _, _, _, _] := hO
        refine wl_nil ?_
        refine k_n ?_
        refine wp_seq ?_
        have hO := hO.drew
        refine wp_region_D [0, 1, 2, 1, 0, 0, 3, 0, 0] (fun w => St _ _ w _) Try_mixed (by kernel_rfl) hO ?_
        refine wd_p hF rfl rfl rfl (fun w => q_move rfl (hF.eval rfl)) fun a hF => ?_
        refine wd_r hF rfl rfl rfl (fun w hO => q_loadAgg Try.isAgg27 Try.sizeOf27 rfl (hF.eval rfl) (hO.cells 0 rfl) rfl) fun a hF => ?_
        refine wd_e hF rfl rfl rfl (c_call hF rfl rfl Try.call14 (chase_r _ _ _ _ _ _ (hO.hr 1 2 3 4 rfl rfl rfl rfl) (hC.wfA hi (by decide)) ⟨true, ((2 * i : Nat) : Int)⟩)) (fun _ _ ⟨_, hS⟩ => hO.call0 hS) ?_
        rintro a _ w ⟨rfl, hS⟩ hF
        have hO := hO.call0 hS
        have hO : St _ _ _ [_, _, _, _, _, _, _] := hO
        rw [hch3] at hF
        refine wd_r hF rfl rfl rfl (fun w hO => q_loadAgg Try.isAgg27 Try.sizeOf27 rfl (hF.eval rfl) (hO.cells 0 rfl) rfl) fun a hF => ?_
        refine wd_p hF rfl rfl rfl (fun w => q_eqS Try.underlying27 Try.stoodInHeld27 Try.eqGuardType27 rfl (hF.eval rfl) (hF.eval rfl) (ef_bool (by decide) Try.isAgg4 Try.underlying4 rfl rfl (ef_int (by decide) Try.isAgg3 Try.underlying3 rfl rfl ef_nil)) (word_eq ⟨true, ((2 * i : Nat) : Int)⟩ ⟨true, ((2 * i : Nat) : Int)⟩)) fun a hF => ?_
        refine wd_p hF rfl rfl rfl (fun w => q_move rfl (hF.eval rfl)) fun a hF => ?_
        refine wd_gk hO hF rfl rfl rfl rfl rfl rfl (fun hg => c_callG hF rfl rfl (by first | (simp only [gv_of hg]; done) | (simp only [gv_of hg]; rfl)) Try.call15 (awake_r _)) fun a w hO hF => ?_
        refine wd_p hF rfl rfl rfl (fun w => q_and rfl (hF.eval rfl) rfl (fun hg2 => ((hF.eval rfl).trans (gv_of hg2))) (dec_b _)) fun a hF => ?_
        refine wd_p hF rfl rfl rfl (fun w => q_assign rfl (hF.eval rfl)) fun a hF => ?_
        refine wd_nil ?_
        refine k_n ?_
        refine wp_ret ?_
        refine r_1 hF rfl rfl ?_
        have hO := hO.drop1 0
        have hO := hO.drop1 0
        have hO := hO.drop1 0
        have hO := hO.drop1 0
        have hO := hO.drop1 0
        have hO := hO.drop1 0
        have hO := hO.drop1 0
        have hO : St _ _ _ [] := hO
        exact ⟨congrArg Value.bool (by simp), hO⟩

end Go.Proofs.Ytglienidnffnjaa
