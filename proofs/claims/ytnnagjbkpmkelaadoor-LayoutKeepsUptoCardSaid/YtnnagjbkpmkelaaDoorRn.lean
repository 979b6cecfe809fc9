import Derived.Test.YtnnagjbkpmkelaaDoorRm
import Derived.Test.YtnnagjbkpmkelaaDoorPl3
import Derived.Test.YtnnagjbkpmkelaaDoorGw12
namespace Go.Proofs.YtnnagjbkpmkelaaDoor
open Go
set_option maxRecDepth 100000
set_option maxHeartbeats 2000000 in
theorem last_r (w0 : World) (bs : Nat) (vo vs : Value) (st : List Thg) (hA : Owns w0 [.ob bs 56 [vo, vs], slT vs 63 itmE st]) (hn : st.length ≤ 2000000000000) (hk : okS st) (hG : GlB w0 (blks [.ob bs 56 [vo, vs], slT vs 63 itmE st])) : Ret Tryd.prog 42 #[ptr (adr bs)] w0 (fun v2 w' => ∃ fr : Bool, v2 = .tuple #[i64 (blkF st st.length), .bool fr] ∧ (∀ b : Nat, blkF st st.length = b → fr = onlyF st b) ∧ St w0 (blks [.ob bs 56 [vo, vs], slT vs 63 itmE st]) w' [.ob bs 56 [vo, vs], slT vs 63 itmE st]) := by
  have hO := St.init hA
  refine ret_ofM 1 (m := 30) Tryd.func42 rfl Tryd.ntmps42 [(0, ptr (adr bs))] rfl ⟨rfl, trivial⟩ fun a hF => ?_
  refine wp_seq ?_
  refine wp_region_lit ?_
  refine wl_e hF rfl rfl rfl (e_alloc hO Tryd.zeroValue3 rfl rfl) ?_
  rintro a _ w ⟨r1, rfl, hO⟩ hF
  refine wl_e hF rfl rfl rfl (e_alloc hO Tryd.zeroValue4 rfl rfl) ?_
  rintro a _ w ⟨r2, rfl, hO⟩ hF
  refine wl_nil ?_
  refine k_n ?_
  refine wp_seq ?_
  refine wp_region_lit ?_
  refine wl_e hF rfl rfl rfl (e_alloc hO Tryd.zeroValue4 rfl rfl) ?_
  rintro a _ w ⟨fr, rfl, hO⟩ hF
  refine wl_s hF rfl rfl (e_store0 hO (i := 0) rfl Tryd.sizeOf4 rfl (hF.eval rfl) (hF.eval rfl) rfl rfl rfl) ?_
  rintro a _ w ⟨-, hO⟩ hF
  have hO : St _ _ _ [_, _, _, _, _] := hO
  refine wl_nil ?_
  refine k_n ?_
  refine wp_seq ?_
  refine wp_seq ?_
  refine wp_region_lit ?_
  refine wl_v hF rfl rfl rfl (q_move rfl (hF.eval rfl)) fun a hF => ?_
  refine wl_v hF rfl rfl rfl (q_nilCheck rfl (hF.eval rfl)) fun a hF => ?_
  refine wl_v hF rfl rfl rfl (q_fieldAddr0 (d := 1) Tryd.underlying56 rfl (hF.eval rfl) rfl Tryd.sizeOf54 (by decide) rfl) fun a hF => ?_
  refine wl_v hF rfl rfl rfl (q_load Tryd.isAgg54 rfl (hF.eval rfl) (hO.cell 3 rfl rfl)) fun a hF => ?_
  refine wl_e hF rfl rfl rfl (c_call hF rfl rfl Tryd.call50 (backward_r _ _ _ (hO.rdT 4 rfl))) ?_
  rintro a _ w ⟨bx, rfl, hS⟩ hF
  have hO := hO.call0 hS
  have hO : St _ _ _ [_, _, _, _, _, _] := hO
  refine wl_nil ?_
  refine k_n ?_
  refine wp_block ?_
  have hO := hO.pull 5 rfl
  have hO := hO.pull 5 rfl
  have hO := hO.pull 2 rfl
  have hO := hO.pull 4 rfl
  have hO := hO.pull 5 rfl
  have hO := hO.pull 5 rfl
  have hO : St _ _ _ [_, _, _, _, _, _] := hO
  have hle := hO.le
  have hbx := hO.cell0 3 rfl rfl
  have hbl : bx < w.heap.size := Ent.ok_lt (hO.ok (i := 3) rfl) rfl
  have hv := hO.rdT 5 rfl
  have hsa := hO.saOwn 5 rfl
  have hbm : ∀ b ∈ bx :: vs.ownBlock.toList, b ∈ blks [.ob bx 54 [vs], .ob bs 56 [vo, vs], slT vs 63 itmE st] := by
    intro b hb
    rcases List.mem_cons.1 hb with hb | hb
    · rw [hb]; exact mem_blks.2 ⟨.ob bx 54 [vs], by simp, rfl⟩
    · exact mem_blks.2 ⟨slT vs 63 itmE st, by simp, Option.mem_toList.1 hb⟩
  have hbw : ∀ b ∈ bx :: vs.ownBlock.toList, b < w.heap.size := fun b hb => (St.back (A := [.ob fr 4 [.bool true], .ob r1 3 [i64 0], .ob r2 4 [.bool false]]) hO).lt (hbm b hb)
  refine wp_range (α := Nat × Thg) 1 (hF.eval rfl) Tryd.call55 (back_stops 2 w bx vs st (bx :: vs.ownBlock.toList) hn hbx hbl hv (by simp) (fun h => List.mem_cons_of_mem _ (hsa h))) (fun h k => KeepB.trans h k) (fun W l o o2 hl _ => ⟨by simp [World.putObj], fun b hb => World.putObj_heap_other (by have := hbw b hb; omega)⟩) (fun _ => rfl)
    (fun xs W => ∃ f : Bool, St w0 (blks [.ob bs 56 [vo, vs], slT vs 63 itmE st]) W [.ob fr 4 [.bool f], .ob r1 3 [i64 0], .ob r2 4 [.bool false], .ob bx 54 [vs], .ob bs 56 [vo, vs], slT vs 63 itmE st] ∧ LastI st xs f)
    (fun pre x a W => pre.length < st.length ∧ ∃ (f : Bool) (t6 : Nat), St w0 (blks [.ob bs 56 [vo, vs], slT vs 63 itmE st]) W (.ob t6 63 (itmE.cells x.2) :: [.ob fr 4 [.bool f], .ob r1 3 [i64 0], .ob r2 4 [.bool false], .ob bx 54 [vs], .ob bs 56 [vo, vs], slT vs 63 itmE st]) ∧ LastI st pre f ∧ Fr a 30 [(2, ptr (adr r1)), (3, ptr (adr r2)), (4, ptr (adr fr)), (5, i64 (x.1 : Int)), (6, ptr (adr t6))])
    (fun c xs W => c = .ret ∧ ∃ (i : Int) (f : Bool), St w0 (blks [.ob bs 56 [vo, vs], slT vs 63 itmE st]) W [.ob fr 4 [.bool f], .ob r1 3 [i64 i], .ob r2 4 [.bool f], .ob bx 54 [vs], .ob bs 56 [vo, vs], slT vs 63 itmE st] ∧ LastX st xs i f)
    (fun s W W2 row ⟨f, hS, hp⟩ hg hr => ⟨f, hS.grown rfl hg (fun r e => ⟨Nat.le_trans hO.le (hr r e).1, (hr r e).2⟩), hp⟩)
    (fun pre x a s W W2 row ⟨hl, f, t6, hS, hp, hF⟩ hg hr => ⟨hl, f, t6, hS.grown rfl hg (fun r e => ⟨Nat.le_trans hO.le (hr r e).1, (hr r e).2⟩), hp, hF⟩)
    (fun c s W W2 row ⟨hc, i, f, hS, hp⟩ hg hr => ⟨hc, i, f, hS.grown rfl hg (fun r e => ⟨Nat.le_trans hO.le (hr r e).1, (hr r e).2⟩), hp⟩)
    ⟨true, hO, LastI.nil st⟩ ?_ ?_ ?_ ?_
  · skip
    rintro l pre x W ⟨f, hU, hp⟩ hlen
    have hA := (St.front (A := [.ob fr 4 [.bool f], .ob r1 3 [i64 0], .ob r2 4 [.bool false]]) hU).owns
    have hO := St.init hA
    have hF := fr_yield2 (t := 12) (u := 13) hF (i64 (x.1 : Int)) (.agg (itmE.cells x.2).toArray) rfl rfl
    refine wi_seq ?_
    refine wi_region_lit (by kernel_rfl) (fun ⟨_, _, h⟩ => h) ?_
    refine wl_v hF rfl rfl rfl (q_assign rfl (hF.eval rfl)) fun a hF => ?_
    refine wl_nil ?_
    refine k_n ?_
    refine wi_region_lit (by kernel_rfl) (fun ⟨_, _, h⟩ => h) ?_
    refine wl_e hF rfl rfl rfl (e_alloc hO Tryd.zeroValue63 rfl rfl) ?_
    rintro a _ w ⟨t6, rfl, hO⟩ hF
    refine wl_s hF rfl rfl (e_storeAll hO (i := 0) rfl Tryd.sizeOf63 rfl (hF.eval rfl) (hF.eval rfl) rfl rfl) ?_
    rintro a _ w ⟨-, hO⟩ hF
    have hO : St _ _ _ [_, _, _, _] := hO
    refine wl_nil ?_
    refine k_n ?_
    exact ⟨St.others hA.own rfl hO, ⟨hO.le, fun b hb => St.keepOf (A := [.ob fr 4 [.bool f], .ob r1 3 [i64 0], .ob r2 4 [.bool false]]) hU hO (hbm b hb)⟩, hlen, f, t6, St.call (A := [.ob fr 4 [.bool f], .ob r1 3 [i64 0], .ob r2 4 [.bool false]]) hU hO, hp, hF.sub ⟨rfl, rfl, rfl, rfl, rfl, trivial⟩⟩
  · skip
    rintro l pre x a W ⟨hlen, f, t6, hU, hp, hF⟩
    have hA := (St.front (A := [.ob t6 63 (itmE.cells x.2), .ob fr 4 [.bool f], .ob r1 3 [i64 0], .ob r2 4 [.bool false]]) hU).owns
    have hO := St.init hA
    have hG := hG.now (St.front (A := [.ob t6 63 (itmE.cells x.2), .ob fr 4 [.bool f], .ob r1 3 [i64 0], .ob r2 4 [.bool false]]) hU)
    refine wi_block ?_
    refine wi_seq ?_
    refine wi_block ?_
    refine wi_seq ?_
    refine wi_region_lit (by kernel_rfl) (fun ⟨_, _, h⟩ => h) ?_
    refine wl_v hF rfl rfl rfl (q_loadAgg Tryd.isAgg63 Tryd.sizeOf63 rfl (hF.eval rfl) (hO.cells 0 rfl) rfl) fun a hF => ?_
    refine wl_v hF rfl rfl rfl (q_loadAgg Tryd.isAgg63 Tryd.sizeOf63 rfl (hF.eval rfl) ((hG.now hO).cb) rfl) fun a hF => ?_
    refine wl_v hF rfl rfl rfl (q_eqS Tryd.underlying63 Tryd.stoodInHeld63 Tryd.eqGuardType63 rfl (hF.eval rfl) (hF.eval rfl) (ef_str (by decide) Tryd.isAgg9 Tryd.underlying9 rfl rfl (ef_int (by decide) Tryd.isAgg3 Tryd.underlying3 rfl rfl ef_nil)) (itm_eq _ _ _ _)) fun a hF => ?_
    refine wl_v hF rfl rfl rfl (q_assign rfl (hF.eval rfl)) fun a hF => ?_
    refine wl_nil ?_
    refine k_n ?_
    refine wi_ifD hF rfl rfl (fun hc1 => ?_) (fun hc1 => ?_)
    · skip
      refine wi_seq ?_
      have hO := hO.drew
      refine wi_region_D [1, 2, 2] (fun w => w.cell? (adr fr) = some (.bool f)) Tryd_mixed (by kernel_rfl) (hO.cell0 1 rfl rfl) (by kernel_rfl) (fun ⟨_, _, h⟩ => h) ?_
      refine wd_r hF rfl rfl rfl (fun w hO => q_load Tryd.isAgg4 rfl (hF.eval rfl) hO) fun a hF => ?_
      refine wd_s2 hF rfl rfl (e_store0 hO (i := 2) rfl Tryd.sizeOf3 rfl (hF.eval rfl) (hF.eval rfl) rfl rfl rfl) ((fun _ _ ⟨_, hS⟩ => hS.cell0 1 rfl rfl)) ?_
      rintro a _ w ⟨-, hO⟩ hF
      have hO : St _ _ _ [_, _, _, _] := hO
      refine wd_s2 hF rfl rfl (e_store0 hO (i := 3) rfl Tryd.sizeOf4 rfl (hF.eval rfl) (hF.eval rfl) rfl rfl rfl) ((fun _ _ ⟨_, hS⟩ => hS.cell0 1 rfl rfl)) ?_
      rintro a _ w ⟨-, hO⟩ hF
      have hO : St _ _ _ [_, _, _, _] := hO
      refine wd_nil ?_
      refine k_n ?_
      refine wi_ret ?_
      refine b_r ?_
      refine k_r ?_
      refine b_r ?_
      exact ⟨St.others hA.own rfl hO, rfl, _, f, ((St.call (A := [.ob t6 63 (itmE.cells x.2), .ob fr 4 [.bool f], .ob r1 3 [i64 0], .ob r2 4 [.bool false]]) hU hO).drop1 0), last_1 hk hp hc1⟩
    · skip
      refine wi_seq ?_
      refine wi_region_lit (by kernel_rfl) (fun ⟨_, _, h⟩ => h) ?_
      refine wl_v hF rfl rfl rfl (q_loadAgg Tryd.isAgg63 Tryd.sizeOf63 rfl (hF.eval rfl) (hO.cells 0 rfl) rfl) fun a hF => ?_
      refine wl_e hF rfl rfl rfl (c_call hF rfl rfl Tryd.call43 (iblock_r _ _)) ?_
      rintro a _ w ⟨rfl, hS⟩ hF
      have hO := hO.call0 hS
      have hO : St _ _ _ [_, _, _, _] := hO
      refine wl_v hF rfl rfl rfl (q_assign rfl (hF.eval rfl)) fun a hF => ?_
      refine wl_nil ?_
      refine k_n ?_
      refine wi_ifD hF rfl rfl (fun hc2 => ?_) (fun hc2 => ?_)
      · skip
        refine wi_seq ?_
        have hO := hO.drew
        refine wi_region_D [0, 1, 2, 2] (fun w => w.cell? (adr fr) = some (.bool f)) Tryd_mixed (by kernel_rfl) (hO.cell0 1 rfl rfl) (by kernel_rfl) (fun ⟨_, _, h⟩ => h) ?_
        refine wd_p hF rfl rfl rfl (fun w => q_move rfl (hF.eval rfl)) fun a hF => ?_
        refine wd_r hF rfl rfl rfl (fun w hO => q_load Tryd.isAgg4 rfl (hF.eval rfl) hO) fun a hF => ?_
        refine wd_s2 hF rfl rfl (e_store0 hO (i := 2) rfl Tryd.sizeOf3 rfl (hF.eval rfl) (hF.eval rfl) rfl rfl rfl) ((fun _ _ ⟨_, hS⟩ => hS.cell0 1 rfl rfl)) ?_
        rintro a _ w ⟨-, hO⟩ hF
        have hO : St _ _ _ [_, _, _, _] := hO
        refine wd_s2 hF rfl rfl (e_store0 hO (i := 3) rfl Tryd.sizeOf4 rfl (hF.eval rfl) (hF.eval rfl) rfl rfl rfl) ((fun _ _ ⟨_, hS⟩ => hS.cell0 1 rfl rfl)) ?_
        rintro a _ w ⟨-, hO⟩ hF
        have hO : St _ _ _ [_, _, _, _] := hO
        refine wd_nil ?_
        refine k_n ?_
        refine wi_ret ?_
        refine b_r ?_
        refine k_r ?_
        refine b_r ?_
        exact ⟨St.others hA.own rfl hO, rfl, _, f, ((St.call (A := [.ob t6 63 (itmE.cells x.2), .ob fr 4 [.bool f], .ob r1 3 [i64 0], .ob r2 4 [.bool false]]) hU hO).drop1 0), last_2 hp hc2⟩
      · skip
        refine wi_skip ?_
        refine b_n ?_
        refine k_n ?_
        refine wi_region_lit (by kernel_rfl) (fun ⟨_, _, h⟩ => h) ?_
        refine wl_v hF rfl rfl rfl (q_load Tryd.isAgg4 rfl (hF.eval rfl) (hO.cell0 1 rfl rfl)) fun a hF => ?_
        refine wl_v hF rfl rfl rfl (q_move rfl (hF.eval rfl)) fun a hF => ?_
        refine wl_g hF rfl rfl rfl rfl rfl rfl (fun hg => q_loadAgg Tryd.isAgg63 Tryd.sizeOf63 rfl (hF.eval rfl) (hO.cells 0 rfl) rfl) fun a hF => ?_
        refine wl_gk hO hF rfl rfl rfl rfl rfl rfl (fun hg => c_callG hF rfl rfl (by first | (simp only [gv_of hg]; done) | (simp only [gv_of hg]; rfl)) Tryd.call51 (iloose_r _ _ (hG.at0 hO))) fun a w hO hF => ?_
        refine wl_v hF rfl rfl rfl (q_and rfl (hF.eval rfl) (dec_b _) (fun hg2 => ((hF.eval rfl).trans (gv_of hg2))) rfl) fun a hF => ?_
        refine wl_s hF rfl rfl (e_store0 hO (i := 1) rfl Tryd.sizeOf4 rfl (hF.eval rfl) (hF.eval rfl) rfl rfl rfl) ?_
        rintro a _ w ⟨-, hO⟩ hF
        have hO : St _ _ _ [_, _, _, _] := hO
        refine wl_nil ?_
        refine b_n ?_
        exact ⟨St.others hA.own rfl hO, ⟨hO.le, fun b hb => St.keepOf (A := [.ob t6 63 (itmE.cells x.2), .ob fr 4 [.bool f], .ob r1 3 [i64 0], .ob r2 4 [.bool false]]) hU hO (hbm b hb)⟩, _, ((St.call (A := [.ob t6 63 (itmE.cells x.2), .ob fr 4 [.bool f], .ob r1 3 [i64 0], .ob r2 4 [.bool false]]) hU hO).drop1 0), last_3 hk hp hc1 hc2 (fun h => decide_eq_decide.2 (and_congr Iff.rfl (looseI_iff h)))⟩
  · skip
    rintro D xs W hD rfl ⟨f, hO, hp⟩ hdf
    rw [hF.defs]
    have hDw := Nat.le_trans (show w0.heap.size ≤ w.heap.size from hle) hD
    have hO := hO.addMp rfl hDw hdf rfl
    refine b_n ?_
    refine k_n ?_
    refine wp_seq ?_
    have hO := hO.drew
    refine wp_region_DW _ [1, 2, 2] (fun w => w.cell? (adr fr) = some (.bool f)) (fun a w => Exit.then (Code.wp _ _ _) _ .normal (wd _ a) w) Tryd_mixed (by kernel_rfl) (hO.cell0 1 rfl rfl) (by kernel_rfl) (fun _ _ h => h) ?_
    refine wd_r hF rfl rfl rfl (fun w hO => q_load Tryd.isAgg4 rfl (hF.eval rfl) hO) fun a hF => ?_
    refine wd_s2 hF rfl rfl (e_store0 hO (i := 2) rfl Tryd.sizeOf3 rfl (hF.eval rfl) (hF.eval rfl) rfl rfl rfl) ((fun _ _ ⟨_, hS⟩ => hS.cell0 1 rfl rfl)) ?_
    rintro a _ w ⟨-, hO⟩ hF
    have hO : St _ _ _ [_, _, _, _, _, _, _] := hO
    refine wd_s2 hF rfl rfl (e_store0 hO (i := 3) rfl Tryd.sizeOf4 rfl (hF.eval rfl) (hF.eval rfl) rfl rfl rfl) ((fun _ _ ⟨_, hS⟩ => hS.cell0 1 rfl rfl)) ?_
    rintro a _ w ⟨-, hO⟩ hF
    have hO : St _ _ _ [_, _, _, _, _, _, _] := hO
    refine wd_nil ?_
    refine k_n ?_
    refine wp_ret ?_
    have hd := hO.ok (i := 0) rfl
    have hO := (hO.drop1 0).grown rfl (grownBy_putObj' w D (.deferred none)) (fun r e => by cases e; exact ⟨hDw, _, hd, rfl⟩)
    exact rM_cc hF rfl rfl rfl Tryd.isAgg3 Tryd.isAgg4 hd (hO.cell0 1 rfl rfl) (hO.cell0 2 rfl rfl) ⟨f, by rw [(last_end hp _ (Nat.le_refl _) rfl).1]; rfl, fun b hb => (last_end hp _ (Nat.le_refl _) rfl).2 b ((last_end hp _ (Nat.le_refl _) rfl).1.trans hb), ((((hO.drop1 0).drop1 0).drop1 0).drop1 0)⟩
  · skip
    rintro D c pre W hD ⟨k, hkk, rfl⟩ ⟨rfl, i, f, hO, hp⟩ hdf
    rw [hF.defs]
    have hDw := Nat.le_trans (show w0.heap.size ≤ w.heap.size from hle) hD
    refine wp_ret ?_
    refine b_r ?_
    refine k_r ?_
    have hO := hO.grown rfl (grownBy_putObj' W D (.deferred none)) (fun r e => by cases e; exact ⟨hDw, _, hdf, rfl⟩)
    exact rM_cc hF rfl rfl rfl Tryd.isAgg3 Tryd.isAgg4 hdf (hO.cell0 1 rfl rfl) (hO.cell0 2 rfl rfl) ⟨f, by rw [(hp k hkk rfl).1], fun b hb => (hp k hkk rfl).2 b ((hp k hkk rfl).1.trans hb), ((((hO.drop1 0).drop1 0).drop1 0).drop1 0)⟩

end Go.Proofs.YtnnagjbkpmkelaaDoor
