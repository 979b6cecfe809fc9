import Derived.Test.YtglienidnffnjaaHk
import Derived.Test.YtglienidnffnjaaPl18
import Derived.Test.YtglienidnffnjaaQd
import Derived.Test.YtglienidnffnjaaPl19
namespace Go.Proofs.Ytglienidnffnjaa
open Go
set_option maxRecDepth 100000
set_option linter.unusedVariables false
theorem flip_rr (w0 : World) (br : Nat) (R : RH) (hA : Owns w0 [.ob br 94 (rfC R), Ent.grp (pgE 99 R), Ent.grp (rowsE 27 R)]) (g : RG R) : Ret Try.prog 37 #[ptr (adr br)] w0 (fun v w' => v = .tuple #[] ∧ St w0 (blks [.ob br 94 (rfC R), Ent.grp (pgE 99 R), Ent.grp (rowsE 27 R)]) w' [.ob br 94 (rfC (flipR R)), Ent.grp (pgE 99 (flipR R)), Ent.grp (rowsE 27 (flipR R))]) := by
  have hO := St.init hA
  have hu := use_rng g
  refine ret_of (m := 10) Try.func37 rfl Try.ntmps37 [(0, ptr (adr br))] rfl ⟨rfl, trivial⟩ fun a hF => ?_
  refine wp_region_lit ?_
  refine wl_v hF rfl rfl rfl (q_move rfl (hF.eval rfl)) fun a hF => ?_
  refine wl_v hF rfl rfl rfl (q_move rfl (hF.eval rfl)) fun a hF => ?_
  refine wl_v hF rfl rfl rfl (q_nilCheck rfl (hF.eval rfl)) fun a hF => ?_
  refine wl_v hF rfl rfl rfl (q_fieldAddr0 (d := 5) Try.underlying94 rfl (hF.eval rfl) rfl Try.sizeOf3 (by decide) rfl) fun a hF => ?_
  refine wl_v hF rfl rfl rfl (q_load Try.isAgg3 rfl (hF.eval rfl) (hO.cell 0 rfl rfl)) fun a hF => ?_
  refine wl_v hF rfl rfl rfl (q_sub rfl (hF.eval rfl) (hF.eval rfl) (by omega)) fun a hF => ?_
  rw [hu.2.2.2.2] at hF
  refine wl_v hF rfl rfl rfl (q_nilCheck rfl (hF.eval rfl)) fun a hF => ?_
  refine wl_v hF rfl rfl rfl (q_fieldAddr0 (d := 5) Try.underlying94 rfl (hF.eval rfl) rfl Try.sizeOf3 (by decide) rfl) fun a hF => ?_
  refine wl_s hF rfl rfl (e_store1 hO (i := 0) rfl Try.sizeOf3 rfl (hF.eval rfl) (hF.eval rfl) rfl rfl rfl) ?_
  rintro a _ w ⟨-, hO⟩ hF
  have hO : St _ _ _ [_, _, _] := hO
  replace hO : St _ _ _ [.ob br 94 (rfC (flipR R)), Ent.grp (pgE 99 (flipR R)), Ent.grp (rowsE 27 (flipR R))] := hO
  refine wl_nil ?_
  refine r_0n hF rfl ?_
  have hO : St _ _ _ [_, _, _] := hO
  exact ⟨rfl, hO⟩

theorem drop_rr (w0 : World) (br : Nat) (R : RH) (hA : Owns w0 [.ob br 94 (rfC R), Ent.grp (pgE 99 R), Ent.grp (rowsE 27 R)]) (g : RG R) : Ret Try.prog 39 #[ptr (adr br)] w0 (fun v w' => v = .tuple #[] ∧ St w0 (blks [.ob br 94 (rfC R), Ent.grp (pgE 99 R), Ent.grp (rowsE 27 R)]) w' [.ob br 94 (rfC (dropR R)), Ent.grp (pgE 99 (dropR R)), Ent.grp (rowsE 27 (dropR R))]) := by
  have hO := St.init hA
  have hu := use_rng g
  refine ret_of (m := 11) Try.func39 rfl Try.ntmps39 [(0, ptr (adr br))] rfl ⟨rfl, trivial⟩ fun a hF => ?_
  have hO := hO.drew
  refine wp_region_D [0, 0, 0, 0, 1, 0, 0, 0, 0, 3] (fun w => St _ _ w _) Try_mixed (by kernel_rfl) hO ?_
  refine wd_p hF rfl rfl rfl (fun w => q_move rfl (hF.eval rfl)) fun a hF => ?_
  refine wd_p hF rfl rfl rfl (fun w => q_move rfl (hF.eval rfl)) fun a hF => ?_
  refine wd_p hF rfl rfl rfl (fun w => q_nilCheck rfl (hF.eval rfl)) fun a hF => ?_
  refine wd_p hF rfl rfl rfl (fun w => q_fieldAddr0 (d := 5) Try.underlying94 rfl (hF.eval rfl) rfl Try.sizeOf3 (by decide) rfl) fun a hF => ?_
  refine wd_r hF rfl rfl rfl (fun w hO => q_load Try.isAgg3 rfl (hF.eval rfl) (hO.cell 0 rfl rfl)) fun a hF => ?_
  refine wd_p hF rfl rfl rfl (fun w => q_sub rfl (hF.eval rfl) (hF.eval rfl) (by omega)) fun a hF => ?_
  rw [hu.2.2.2.2] at hF
  refine wd_p hF rfl rfl rfl (fun w => q_nilCheck rfl (hF.eval rfl)) fun a hF => ?_
  refine wd_p hF rfl rfl rfl (fun w => q_fieldAddr0 (d := 2) Try.underlying94 rfl (hF.eval rfl) rfl Try.sizeOf92 (by decide) rfl) fun a hF => ?_
  refine wd_p hF rfl rfl rfl (fun w => q_atArrK (i := (3 - R.use)) (d := 2) Try.underlying92 Try.sizeOf91 rfl (hF.eval rfl) (hF.eval rfl) (hu.2.1)) fun a hF => ?_
  refine wd_s hF rfl rfl (e_store1 (k := 2 + (3 - R.use) * 1) hO (i := 0) rfl Try.sizeOf91 rfl (hF.eval rfl) (hF.eval rfl) rfl (ble_rf (k := (3 - R.use)) (hu.2.1)) rfl) ?_
  rintro a _ w ⟨-, hO⟩ hF
  have hO : St _ _ _ [_, _, _] := hO
  refine wd_nil ?_
  refine r_0n hF rfl ?_
  have hO : St _ _ _ [_, _, _] := hO
  exact ⟨rfl, put_nil_fin hu.2.1 hO⟩

set_option maxHeartbeats 1000000 in
theorem clear_rr (w0 : World) (br : Nat) (R : RH) (hA : Owns w0 [.ob br 94 (rfC R), Ent.grp (pgE 99 R), Ent.grp (rowsE 27 R)]) (g : RG R) : Ret Try.prog 36 #[ptr (adr br)] w0 (fun v w' => v = .tuple #[] ∧ St w0 (blks [.ob br 94 (rfC R), Ent.grp (pgE 99 R), Ent.grp (rowsE 27 R)]) w' [.ob br 94 (rfC (clearR R)), Ent.grp (pgE 99 (clearR R)), Ent.grp (rowsE 27 (clearR R))]) := by
  have hO := St.init hA
  refine ret_of (m := 32) Try.func36 rfl Try.ntmps36 [(0, ptr (adr br))] rfl ⟨rfl, trivial⟩ fun a hF => ?_
  refine wp_seq ?_
  refine wp_region_lit ?_
  refine wl_v hF rfl rfl rfl (q_move rfl (hF.eval rfl)) fun a hF => ?_
  refine wl_v hF rfl rfl rfl (q_nilCheck rfl (hF.eval rfl)) fun a hF => ?_
  refine wl_v hF rfl rfl rfl (q_fieldAddr0 (d := 2) Try.underlying94 rfl (hF.eval rfl) rfl Try.sizeOf92 (by decide) rfl) fun a hF => ?_
  refine wl_v hF rfl rfl rfl (q_atArrK (i := 0) (d := 2) Try.underlying92 Try.sizeOf91 rfl (hF.eval rfl) (hF.eval rfl) (by decide)) fun a hF => ?_
  refine wl_s hF rfl rfl (e_store1 (k := 2 + 0 * 1) hO (i := 0) rfl Try.sizeOf91 rfl (hF.eval rfl) (hF.eval rfl) rfl (ble_rf (k := 0) (by decide)) rfl) ?_
  rintro a _ w ⟨-, hO⟩ hF
  have hO : St _ _ _ [_, _, _] := hO
  have hO := put_nil_fin (k := 0) (by decide) hO
  rw [← clearTo_1] at hO
  refine wl_nil ?_
  refine k_n ?_
  refine wp_seq ?_
  refine wp_region_lit ?_
  refine wl_v hF rfl rfl rfl (q_assign rfl (hF.eval rfl)) fun a hF => ?_
  refine wl_nil ?_
  refine k_n ?_
  refine wp_block ?_
  have hO : St _ _ _ [_, _, _] := hO
  refine wp_loopS (fun (p : Nat) a w' => (1 ≤ p ∧ p ≤ 3) ∧ St w0 (blks [.ob br 94 (rfC R), Ent.grp (pgE 99 R), Ent.grp (rowsE 27 R)]) w' [.ob br 94 (rfC (clearTo R p 0)), Ent.grp (pgE 99 (clearTo R p 0)), Ent.grp (rowsE 27 (clearTo R p 0))] ∧ Fr a 32 [(0, ptr (adr br)), (2, i64 p)]) (fun (p : Nat) => 3 - p) 1 ⟨⟨by omega, by omega⟩, hO, hF.sub ⟨rfl, rfl, trivial⟩⟩ ?_
  rintro p a w ⟨⟨hp1, hp3⟩, hO, hF⟩
  refine wp_seq ?_
  refine wp_seq ?_
  refine wp_region_lit ?_
  refine wl_v hF rfl rfl rfl (q_move rfl (hF.eval rfl)) fun a hF => ?_
  refine wl_v hF rfl rfl rfl (q_lt rfl (hF.eval rfl) (hF.eval rfl)) fun a hF => ?_
  refine wl_nil ?_
  refine k_n ?_
  refine wp_ifD hF rfl rfl (fun hc1 => ?_) (fun hc1 => ?_)
  · skip
    have hp : p < 3 := by omega
    have hlen := g.len p hp
    refine wp_skip ?_
    refine k_n ?_
    refine wp_seq ?_
    refine wp_block ?_
    refine wp_seq ?_
    refine wp_region_lit ?_
    refine wl_v hF rfl rfl rfl (q_assign rfl (hF.eval rfl)) fun a hF => ?_
    refine wl_nil ?_
    refine k_n ?_
    refine wp_block ?_
    have hO : St _ _ _ [_, _, _] := hO
    refine wp_loopS (fun (i : Nat) a w' => (i ≤ (R.p p).length) ∧ St w0 (blks [.ob br 94 (rfC R), Ent.grp (pgE 99 R), Ent.grp (rowsE 27 R)]) w' [.ob br 94 (rfC (clearTo R p i)), Ent.grp (pgE 99 (clearTo R p i)), Ent.grp (rowsE 27 (clearTo R p i))] ∧ Fr a 32 [(0, ptr (adr br)), (2, i64 p), (3, i64 i)]) (fun (i : Nat) => (R.p p).length - i) 0 ⟨by omega, hO, hF.sub ⟨rfl, rfl, rfl, trivial⟩⟩ ?_
    rintro i a w ⟨hi, hO, hF⟩
    have hcl := clearTo_len (R := R) (i := i) hp1
    refine wp_seq ?_
    refine wp_seq ?_
    refine wp_region_lit ?_
    refine wl_v hF rfl rfl rfl (q_move rfl (hF.eval rfl)) fun a hF => ?_
    refine wl_v hF rfl rfl rfl (q_move rfl (hF.eval rfl)) fun a hF => ?_
    refine wl_v hF rfl rfl rfl (q_move rfl (hF.eval rfl)) fun a hF => ?_
    refine wl_v hF rfl rfl rfl (q_nilCheck rfl (hF.eval rfl)) fun a hF => ?_
    refine wl_v hF rfl rfl rfl (q_fieldAddr0 (d := 2) Try.underlying94 rfl (hF.eval rfl) rfl Try.sizeOf92 (by decide) rfl) fun a hF => ?_
    refine wl_v hF rfl rfl rfl (q_atArrK (i := p) (d := 2) Try.underlying92 Try.sizeOf91 rfl (hF.eval rfl) (hF.eval rfl) (hp)) fun a hF => ?_
    refine wl_v hF rfl rfl rfl (q_load Try.isAgg91 rfl (hF.eval rfl) (hO.cell 0 rfl (rfC_at1 (R := (clearTo R p i)) (hp)))) fun a hF => ?_
    refine wl_v hF rfl rfl rfl (q_lenRd (hO.rdTG 1 rfl (pgE_at (R := (clearTo R p i)) (hp))) Try.underlying91 rfl (hF.eval rfl)) fun a hF => ?_
    refine wl_v hF rfl rfl rfl (q_lt rfl (hF.eval rfl) (hF.eval rfl)) fun a hF => ?_
    refine wl_nil ?_
    refine k_n ?_
    refine wp_ifD hF rfl rfl (fun hc2 => ?_) (fun hc2 => ?_)
    · skip
      obtain ⟨x, hx⟩ := get_ex (l := R.p p) (i := i) (by rw [hcl] at hc2; omega)
      have hx2 := clearTo_at hp1 hx
      refine wp_skip ?_
      refine k_n ?_
      refine wp_seq ?_
      refine wp_block ?_
      refine wp_region_lit ?_
      refine wl_v hF rfl rfl rfl (q_move rfl (hF.eval rfl)) fun a hF => ?_
      refine wl_v hF rfl rfl rfl (q_move rfl (hF.eval rfl)) fun a hF => ?_
      refine wl_v hF rfl rfl rfl (q_nilCheck rfl (hF.eval rfl)) fun a hF => ?_
      refine wl_v hF rfl rfl rfl (q_fieldAddr0 (d := 2) Try.underlying94 rfl (hF.eval rfl) rfl Try.sizeOf92 (by decide) rfl) fun a hF => ?_
      refine wl_v hF rfl rfl rfl (q_atArrK (i := p) (d := 2) Try.underlying92 Try.sizeOf91 rfl (hF.eval rfl) (hF.eval rfl) (hp)) fun a hF => ?_
      refine wl_v hF rfl rfl rfl (q_load Try.isAgg91 rfl (hF.eval rfl) (hO.cell 0 rfl (rfC_at1 (R := (clearTo R p i)) (hp)))) fun a hF => ?_
      refine wl_v hF rfl rfl rfl (q_move rfl (hF.eval rfl)) fun a hF => ?_
      refine wl_v hF rfl rfl rfl (q_at (i := i) (hO.rdTG 1 rfl (pgE_at (R := (clearTo R p i)) (hp))) Try.underlying91 Try.sizeOf99 rfl (hF.eval rfl) (hF.eval rfl) (by omega)) fun a hF => ?_
      refine wl_v hF rfl rfl rfl (q_fieldAddr0 (d := 5) Try.underlying99 rfl (hF.eval rfl) rfl Try.sizeOf4 (by decide) rfl) fun a hF => ?_
      refine wl_s hF rfl rfl (e_storeG (q := (setKn x false)) (m := (p, i).2) hO (i := 1) rfl (pgE_at (R := (clearTo R p i)) hp) fun hO hi => e_storeElT (m := (p, i).2) (off := 5) hO hi Try.sizeOf4 rfl ((hF.eval rfl).trans (congrArg ptr (add_add' _ _ _))) rfl (hF.eval rfl) rfl hx2 rfl (Nat.le_of_ble_eq_true rfl) rfl (all1 rfl)) ?_
      rintro a _ w ⟨-, hO⟩ hF
      have hO : St _ _ _ [_, _, _] := hO
      rw [pgE_setO (R := (clearTo R p i)) (q := (p, i)) hp, ← rows_same (R := (clearTo R p i)) (q := (p, i)) (x := setKn x false) hp hx2 rfl rfl, clearTo_on hp1 hx] at hO
      replace hO : St _ _ _ [.ob br 94 (rfC (clearTo R p (i + 1))), Ent.grp (pgE 99 (clearTo R p (i + 1))), Ent.grp (rowsE 27 (clearTo R p (i + 1)))] := hO
      refine wl_nil ?_
      refine b_n ?_
      refine k_n ?_
      refine wp_region_lit ?_
      refine wl_v hF rfl rfl rfl (q_move rfl (hF.eval rfl)) fun a hF => ?_
      refine wl_v hF rfl rfl rfl (q_add rfl (hF.eval rfl) (hF.eval rfl) (by omega)) fun a hF => ?_
      refine wl_v hF rfl rfl rfl (q_assign rfl (hF.eval rfl)) fun a hF => ?_
      refine wl_nil ?_
      refine k_n ?_
      have hO : St _ _ _ [_, _, _] := hO
      exact ⟨i + 1, ⟨by rw [hcl] at hc2; omega, hO, hF.sub ⟨rfl, rfl, rfl, trivial⟩⟩, by rw [hcl] at hc2; omega⟩
    · skip
      refine wp_exit ?_
      refine k_x ?_
      refine k_x ?_
      refine b_x ?_
      refine b_n ?_
      refine k_n ?_
      refine wp_region_lit ?_
      refine wl_v hF rfl rfl rfl (q_move rfl (hF.eval rfl)) fun a hF => ?_
      refine wl_v hF rfl rfl rfl (q_add rfl (hF.eval rfl) (hF.eval rfl) (by omega)) fun a hF => ?_
      refine wl_v hF rfl rfl rfl (q_assign rfl (hF.eval rfl)) fun a hF => ?_
      refine wl_nil ?_
      refine k_n ?_
      have hO : St _ _ _ [_, _, _] := hO
      rw [clearTo_next (R := R) (show (R.p p).length ≤ i by rw [hcl] at hc2; omega)] at hO
      exact ⟨p + 1, ⟨⟨by omega, by omega⟩, hO, hF.sub ⟨rfl, rfl, trivial⟩⟩, by omega⟩
  · skip
    obtain rfl : p = 3 := by omega
    rw [clearTo_3] at hO
    refine wp_exit ?_
    refine k_x ?_
    refine k_x ?_
    refine b_x ?_
    refine r_0n hF rfl ?_
    have hO : St _ _ _ [_, _, _] := hO
    exact ⟨rfl, hO⟩

theorem new_rr (w0 : World) (y o : Int) : Ret Try.prog 27 #[i64 y, i64 o] w0 (fun v w' => (newBad y o ∧ v = .tuple #[.pointer none, i64 1] ∧ St w0 [] w' []) ∨ (¬ newBad y o ∧ ∃ br, v = .tuple #[ptr (adr br), i64 0] ∧ St w0 [] w' [.ob br 94 (rfC (newR y o)), Ent.grp (pgE 99 (newR y o)), Ent.grp (rowsE 27 (newR y o))])) := by
  have hO := St.init0 w0
  refine ret_of (m := 24) Try.func27 rfl Try.ntmps27 [(0, i64 y), (1, i64 o)] rfl ⟨rfl, rfl, trivial⟩ fun a hF => ?_
  refine wp_seq ?_
  refine wp_region_lit ?_
  refine wl_v hF rfl rfl rfl (q_assign rfl (hF.eval rfl)) fun a hF => ?_
  refine wl_v hF rfl rfl rfl (q_assign rfl (hF.eval rfl)) fun a hF => ?_
  refine wl_nil ?_
  refine k_n ?_
  refine wp_seq ?_
  refine wp_seq ?_
  refine wp_region_lit ?_
  refine wl_v hF rfl rfl rfl (q_move rfl (hF.eval rfl)) fun a hF => ?_
  refine wl_v hF rfl rfl rfl (q_lt rfl (hF.eval rfl) (hF.eval rfl)) fun a hF => ?_
  refine wl_v hF rfl rfl rfl (q_move rfl (hF.eval rfl)) fun a hF => ?_
  refine wl_g hF rfl rfl rfl rfl rfl rfl (fun hg => q_move rfl (hF.eval rfl)) fun a hF => ?_
  refine wl_g hF rfl rfl rfl rfl rfl rfl (fun hg => q_gt rfl ((hF.eval rfl).trans (gv_of hg)) (hF.eval rfl)) fun a hF => ?_
  refine wl_v hF rfl rfl rfl (q_or rfl (hF.eval rfl) rfl (fun hg2 => ((hF.eval rfl).trans (gv_of hg2))) rfl) fun a hF => ?_
  refine wl_v hF rfl rfl rfl (q_move rfl (hF.eval rfl)) fun a hF => ?_
  refine wl_g hF rfl rfl rfl rfl rfl rfl (fun hg => q_move rfl (hF.eval rfl)) fun a hF => ?_
  refine wl_g hF rfl rfl rfl rfl rfl rfl (fun hg => q_lt rfl ((hF.eval rfl).trans (gv_of hg)) (hF.eval rfl)) fun a hF => ?_
  refine wl_v hF rfl rfl rfl (q_or rfl (hF.eval rfl) rfl (fun hg2 => ((hF.eval rfl).trans (gv_of hg2))) rfl) fun a hF => ?_
  refine wl_v hF rfl rfl rfl (q_move rfl (hF.eval rfl)) fun a hF => ?_
  refine wl_g hF rfl rfl rfl rfl rfl rfl (fun hg => q_move rfl (hF.eval rfl)) fun a hF => ?_
  refine wl_g hF rfl rfl rfl rfl rfl rfl (fun hg => q_gt rfl ((hF.eval rfl).trans (gv_of hg)) (hF.eval rfl)) fun a hF => ?_
  refine wl_v hF rfl rfl rfl (q_or rfl (hF.eval rfl) rfl (fun hg2 => ((hF.eval rfl).trans (gv_of hg2))) rfl) fun a hF => ?_
  refine wl_nil ?_
  refine k_n ?_
  refine wp_ifD hF rfl rfl (fun hc1 => ?_) (fun hc1 => ?_)
  · skip
    refine wp_seq ?_
    refine wp_region_lit ?_
    refine wl_v hF rfl rfl rfl (q_assign rfl (hF.eval rfl)) fun a hF => ?_
    refine wl_v hF rfl rfl rfl (q_assign rfl (hF.eval rfl)) fun a hF => ?_
    refine wl_nil ?_
    refine k_n ?_
    refine wp_ret ?_
    refine k_r ?_
    refine r_2 hF rfl rfl rfl ?_
    exact .inl ⟨hc1, rfl, hO⟩
  · skip
    refine wp_skip ?_
    refine k_n ?_
    refine wp_seq ?_
    refine wp_region_lit ?_
    refine wl_v hF rfl rfl rfl (q_move rfl (hF.eval rfl)) fun a hF => ?_
    refine wl_v hF rfl rfl rfl (q_move rfl (hF.eval rfl)) fun a hF => ?_
    refine wl_v hF rfl rfl rfl (c_buildG hF Try.underlying94 Try.zeroValue94 Try_placesG94 rfl rfl rfl rfl) fun a hF => ?_
    refine wl_e hF rfl rfl rfl (e_box hO rfl (hF.eval rfl) rfl) ?_
    rintro a _ w ⟨rb, rfl, hO⟩ hF
    refine wl_v hF rfl rfl rfl (q_assign rfl (hF.eval rfl)) fun a hF => ?_
    refine wl_v hF rfl rfl rfl (q_assign rfl (hF.eval rfl)) fun a hF => ?_
    refine wl_nil ?_
    refine k_n ?_
    refine wp_ret ?_
    refine r_2 hF rfl rfl rfl ?_
    exact .inr ⟨hc1, _, rfl, new_fin hO⟩

end Go.Proofs.Ytglienidnffnjaa
namespace Go.Proofs.Ytglienidnffnjaa
open Go
set_option maxRecDepth 100000
set_option linter.unusedVariables false
set_option maxHeartbeats 2000000 in
theorem lay_rr (w0 : World) (br : Nat) (R : RH) (hA : Owns w0 [.ob br 94 (rfC R), Ent.grp (pgE 99 R), Ent.grp (rowsE 27 R)]) (g : RG R) (k : Nat) (hk : k < 3) (kind info : Int) (vf : Value) (fs : List Wd) (hR : RdT w0 (blks [.ob br 94 (rfC R), Ent.grp (pgE 99 R), Ent.grp (rowsE 27 R)]) vf wordE fs) : Ret Try.prog 62 #[ptr (adr br), i64 k, i64 kind, i64 info, vf] w0 (fun v w' => ∃ q v2 r R2, layR R k kind info fs q v2 = (r, R2) ∧ v = .tuple #[i64 r.1, i64 r.2] ∧ St w0 (blks [.ob br 94 (rfC R), Ent.grp (pgE 99 R), Ent.grp (rowsE 27 R)]) w' [.ob br 94 (rfC R2), Ent.grp (pgE 99 R2), Ent.grp (rowsE 27 R2)]) := by
  have hO := St.init hA
  have hnf := RdT.lenle hR
  have hug := used_rng g hk
  have hbg := beg_rng g hk
  have hsg := siz_rng g k
  obtain ⟨t1, t2, t3⟩ := takes_ge fs
  have etk : takesF fs = 1 + max 1 (fs.length : Int) := rfl
  refine ret_of (m := 130) Try.func62 rfl Try.ntmps62 [(0, ptr (adr br)), (1, i64 k), (2, i64 kind), (3, i64 info), (4, vf)] rfl ⟨rfl, rfl, rfl, rfl, rfl, trivial⟩ fun a hF => ?_
  refine wp_seq ?_
  refine wp_region_lit ?_
  refine wl_v hF rfl rfl rfl (q_assign rfl (hF.eval rfl)) fun a hF => ?_
  refine wl_v hF rfl rfl rfl (q_assign rfl (hF.eval rfl)) fun a hF => ?_
  refine wl_nil ?_
  refine k_n ?_
  refine wp_seq ?_
  refine wp_seq ?_
  refine wp_region_lit ?_
  refine wl_v hF rfl rfl rfl (q_move rfl (hF.eval rfl)) fun a hF => ?_
  refine wl_v hF rfl rfl rfl (q_lt rfl (hF.eval rfl) (hF.eval rfl)) fun a hF => ?_
  refine wl_v hF rfl rfl rfl (q_move rfl (hF.eval rfl)) fun a hF => ?_
  refine wl_g hF rfl rfl rfl rfl rfl rfl (fun hg => q_move rfl (hF.eval rfl)) fun a hF => ?_
  refine wl_g hF rfl rfl rfl rfl rfl rfl (fun hg => q_gt rfl ((hF.eval rfl).trans (gv_of hg)) (hF.eval rfl)) fun a hF => ?_
  refine wl_v hF rfl rfl rfl (q_or rfl (hF.eval rfl) rfl (fun hg2 => ((hF.eval rfl).trans (gv_of hg2))) rfl) fun a hF => ?_
  refine wl_v hF rfl rfl rfl (q_move rfl (hF.eval rfl)) fun a hF => ?_
  refine wl_g hF rfl rfl rfl rfl rfl rfl (fun hg => q_move rfl (hF.eval rfl)) fun a hF => ?_
  refine wl_g hF rfl rfl rfl rfl rfl rfl (fun hg => q_lt rfl ((hF.eval rfl).trans (gv_of hg)) (hF.eval rfl)) fun a hF => ?_
  refine wl_v hF rfl rfl rfl (q_or rfl (hF.eval rfl) rfl (fun hg2 => ((hF.eval rfl).trans (gv_of hg2))) rfl) fun a hF => ?_
  refine wl_v hF rfl rfl rfl (q_move rfl (hF.eval rfl)) fun a hF => ?_
  refine wl_g hF rfl rfl rfl rfl rfl rfl (fun hg => q_move rfl (hF.eval rfl)) fun a hF => ?_
  refine wl_g hF rfl rfl rfl rfl rfl rfl (fun hg => q_gt rfl ((hF.eval rfl).trans (gv_of hg)) (hF.eval rfl)) fun a hF => ?_
  refine wl_v hF rfl rfl rfl (q_or rfl (hF.eval rfl) rfl (fun hg2 => ((hF.eval rfl).trans (gv_of hg2))) rfl) fun a hF => ?_
  refine wl_v hF rfl rfl rfl (q_move rfl (hF.eval rfl)) fun a hF => ?_
  refine wl_g hF rfl rfl rfl rfl rfl rfl (fun hg => q_move rfl (hF.eval rfl)) fun a hF => ?_
  refine wl_g hF rfl rfl rfl rfl rfl rfl (fun hg => q_lenRd hR Try.underlying37 rfl ((hF.eval rfl).trans (gv_of hg))) fun a hF => ?_
  refine wl_g hF rfl rfl rfl rfl rfl rfl (fun hg => q_gt rfl ((hF.eval rfl).trans (gv_of hg)) (hF.eval rfl)) fun a hF => ?_
  refine wl_v hF rfl rfl rfl (q_or rfl (hF.eval rfl) rfl (fun hg2 => ((hF.eval rfl).trans (gv_of hg2))) rfl) fun a hF => ?_
  refine wl_v hF rfl rfl rfl (q_move rfl (hF.eval rfl)) fun a hF => ?_
  refine wl_g hF rfl rfl rfl rfl rfl rfl (fun hg => q_move rfl (hF.eval rfl)) fun a hF => ?_
  refine wl_g hF rfl rfl rfl rfl rfl rfl (fun hg => q_eq rfl ((hF.eval rfl).trans (gv_of hg)) (hF.eval rfl)) fun a hF => ?_
  refine wl_g hF rfl rfl rfl rfl rfl rfl (fun hg => q_move rfl ((hF.eval rfl).trans (gv_of hg))) fun a hF => ?_
  refine wl_g hF rfl rfl rfl rfl rfl rfl (fun hg => q_move rfl (hF.eval rfl)) fun a hF => ?_
  refine wl_g hF rfl rfl rfl rfl rfl rfl (fun hg => q_lenRd hR Try.underlying37 rfl ((hF.eval rfl).trans (gv_of hg))) fun a hF => ?_
  refine wl_g hF rfl rfl rfl rfl rfl rfl (fun hg => q_ne rfl ((hF.eval rfl).trans (gv_of hg)) (hF.eval rfl)) fun a hF => ?_
  refine wl_g hF rfl rfl rfl rfl rfl rfl (fun hg => q_and rfl ((hF.eval rfl).trans (gv_of hg)) rfl (fun hg2 => ((hF.eval rfl).trans (gv_of2 hg hg2))) rfl) fun a hF => ?_
  refine wl_v hF rfl rfl rfl (q_or rfl (hF.eval rfl) rfl (fun hg2 => ((hF.eval rfl).trans (gv_of hg2))) rfl) fun a hF => ?_
  refine wl_nil ?_
  refine k_n ?_
  refine wp_ifD hF rfl rfl (fun hc1 => ?_) (fun hc1 => ?_)
  · skip
    refine wp_seq ?_
    refine wp_region_lit ?_
    refine wl_v hF rfl rfl rfl (q_assign rfl (hF.eval rfl)) fun a hF => ?_
    refine wl_v hF rfl rfl rfl (q_assign rfl (hF.eval rfl)) fun a hF => ?_
    refine wl_nil ?_
    refine k_n ?_
    refine wp_ret ?_
    refine k_r ?_
    refine r_2 hF rfl rfl rfl ?_
    have hO : St _ _ _ [_, _, _] := hO
    exact ⟨⟨none, 0, 0⟩, undef, (0, 1), R, if_pos hc1, rfl, hO⟩
  · skip
    have hfl : fs.length ≤ 1000 := by have := (not_or.1 (not_or.1 hc1).1).2; omega
    have hR3 := hR.at0 hO
    refine wp_skip ?_
    refine k_n ?_
    refine wp_seq ?_
    refine wp_region_lit ?_
    refine wl_v hF rfl rfl rfl (q_assign rfl (hF.eval rfl)) fun a hF => ?_
    refine wl_nil ?_
    refine k_n ?_
    refine wp_seq ?_
    refine wp_seq ?_
    refine wp_region_lit ?_
    refine wl_v hF rfl rfl rfl (q_assign rfl (hF.eval rfl)) fun a hF => ?_
    refine wl_nil ?_
    refine k_n ?_
    refine wp_block ?_
    have hO : St _ _ _ [_, _, _] := hO
    refine wp_loopS (fun (i : Nat) a w' => (i ≤ fs.length ∧ realR R (fs.take i) = true) ∧ St w0 (blks [.ob br 94 (rfC R), Ent.grp (pgE 99 R), Ent.grp (rowsE 27 R)]) w' [.ob br 94 (rfC R), Ent.grp (pgE 99 R), Ent.grp (rowsE 27 R)] ∧ Fr a 130 [(0, ptr (adr br)), (1, i64 k), (2, i64 kind), (3, i64 info), (4, vf), (12, .bool (knR R k (fs.take i))), (13, i64 i)]) (fun (i : Nat) => fs.length - i) 0 ⟨⟨by omega, rfl⟩, hO, hF.sub ⟨rfl, rfl, rfl, rfl, rfl, rfl, rfl, trivial⟩⟩ ?_
    rintro i a w ⟨⟨hi, hre⟩, hO, hF⟩
    refine wp_seq ?_
    refine wp_seq ?_
    refine wp_region_lit ?_
    refine wl_v hF rfl rfl rfl (q_move rfl (hF.eval rfl)) fun a hF => ?_
    refine wl_v hF rfl rfl rfl (q_move rfl (hF.eval rfl)) fun a hF => ?_
    refine wl_v hF rfl rfl rfl (q_lenRd hR Try.underlying37 rfl (hF.eval rfl)) fun a hF => ?_
    refine wl_v hF rfl rfl rfl (q_lt rfl (hF.eval rfl) (hF.eval rfl)) fun a hF => ?_
    refine wl_nil ?_
    refine k_n ?_
    refine wp_ifD hF rfl rfl (fun hc2 => ?_) (fun hc2 => ?_)
    · skip
      refine wp_skip ?_
      refine k_n ?_
      refine wp_seq ?_
      refine wp_block ?_
      refine wp_seq ?_
      refine wp_seq ?_
      refine wp_region_lit ?_
      refine wl_v hF rfl rfl rfl (q_move rfl (hF.eval rfl)) fun a hF => ?_
      refine wl_v hF rfl rfl rfl (q_move rfl (hF.eval rfl)) fun a hF => ?_
      refine wl_v hF rfl rfl rfl (q_move rfl (hF.eval rfl)) fun a hF => ?_
      obtain ⟨x, hx⟩ := get_ex (l := fs) (i := i) (by omega)
      refine wl_v hF rfl rfl rfl (q_at (i := i) hR Try.underlying37 Try.sizeOf27 rfl (hF.eval rfl) (hF.eval rfl) (by omega)) fun a hF => ?_
      refine wl_v hF rfl rfl rfl (q_loadAgg Try.isAgg27 Try.sizeOf27 rfl (hF.eval rfl) (RdT.cells (hR.now hO) hx) rfl) fun a hF => ?_
      refine wl_e hF rfl rfl rfl (c_call hF rfl rfl Try.call64 (stands_rr _ _ _ (hO.rr 0 1 2 rfl rfl rfl) g _)) ?_
      rintro a _ w ⟨rfl, hS⟩ hF
      have hO := hO.call0 hS
      have hO : St _ _ _ [_, _, _] := hO
      refine wl_v hF rfl rfl rfl (q_not rfl (hF.eval rfl) rfl) fun a hF => ?_
      refine wl_nil ?_
      refine k_n ?_
      refine wp_ifD hF rfl rfl (fun hc3 => ?_) (fun hc3 => ?_)
      · skip
        refine wp_seq ?_
        refine wp_region_lit ?_
        refine wl_v hF rfl rfl rfl (q_assign rfl (hF.eval rfl)) fun a hF => ?_
        refine wl_v hF rfl rfl rfl (q_assign rfl (hF.eval rfl)) fun a hF => ?_
        refine wl_nil ?_
        refine k_n ?_
        refine wp_ret ?_
        refine k_r ?_
        refine b_r ?_
        refine k_r ?_
        refine k_r ?_
        refine b_r ?_
        refine k_r ?_
        refine r_2 hF rfl rfl rfl ?_
        have hO : St _ _ _ [_, _, _] := hO
        exact ⟨⟨none, 0, 0⟩, undef, (0, 181), R, lay_e1 hc1 (real_bad hx (Classical.not_not.1 hc3)), rfl, hO⟩
      · skip
        refine wp_skip ?_
        refine k_n ?_
        refine wp_region_lit ?_
        refine wl_v hF rfl rfl rfl (q_move rfl (hF.eval rfl)) fun a hF => ?_
        refine wl_v hF rfl rfl rfl (q_move rfl (hF.eval rfl)) fun a hF => ?_
        refine wl_g hF rfl rfl rfl rfl rfl rfl (fun hg => q_move rfl (hF.eval rfl)) fun a hF => ?_
        refine wl_g hF rfl rfl rfl rfl rfl rfl (fun hg => q_gt rfl ((hF.eval rfl).trans (gv_of hg)) (hF.eval rfl)) fun a hF => ?_
        refine wl_g hF rfl rfl rfl rfl rfl rfl (fun hg => q_move rfl ((hF.eval rfl).trans (gv_of hg))) fun a hF => ?_
        refine wl_g hF rfl rfl rfl rfl rfl rfl (fun hg => q_move rfl (hF.eval rfl)) fun a hF => ?_
        refine wl_g hF rfl rfl rfl rfl rfl rfl (fun hg => q_move rfl (hF.eval rfl)) fun a hF => ?_
        refine wl_g hF rfl rfl rfl rfl rfl rfl (fun hg => q_at (i := i) hR Try.underlying37 Try.sizeOf27 rfl ((hF.eval rfl).trans (gv_of hg)) ((hF.eval rfl).trans (gv_of hg)) (by omega)) fun a hF => ?_
        refine wl_g hF rfl rfl rfl rfl rfl rfl (fun hg => q_fieldAddr0 (d := 0) Try.underlying27 rfl ((hF.eval rfl).trans (gv_of hg)) rfl Try.sizeOf4 (by decide) rfl) fun a hF => ?_
        refine wl_g hF rfl rfl rfl rfl rfl rfl (fun hg => q_load Try.isAgg4 rfl ((hF.eval rfl).trans (gv_of hg)) (RdT.cells (hR.now hO) hx _ _ rfl)) fun a hF => ?_
        refine wl_g hF rfl rfl rfl rfl rfl rfl (fun hg => q_and rfl ((hF.eval rfl).trans (gv_of hg)) rfl (fun hg2 => ((hF.eval rfl).trans (gv_of2 hg hg2))) (dec_b _)) fun a hF => ?_
        refine wl_g hF rfl rfl rfl rfl rfl rfl (fun hg => q_move rfl ((hF.eval rfl).trans (gv_of hg))) fun a hF => ?_
        refine wl_g hF rfl rfl rfl rfl rfl rfl (fun hg => q_move rfl (hF.eval rfl)) fun a hF => ?_
        refine wl_g hF rfl rfl rfl rfl rfl rfl (fun hg => q_move rfl (hF.eval rfl)) fun a hF => ?_
        refine wl_g hF rfl rfl rfl rfl rfl rfl (fun hg => q_move rfl (hF.eval rfl)) fun a hF => ?_
        refine wl_g hF rfl rfl rfl rfl rfl rfl (fun hg => q_at (i := i) hR Try.underlying37 Try.sizeOf27 rfl ((hF.eval rfl).trans (gv_of hg)) ((hF.eval rfl).trans (gv_of hg)) (by omega)) fun a hF => ?_
        refine wl_g hF rfl rfl rfl rfl rfl rfl (fun hg => q_fieldAddr0 (d := 1) Try.underlying27 rfl ((hF.eval rfl).trans (gv_of hg)) rfl Try.sizeOf3 (by decide) rfl) fun a hF => ?_
        refine wl_g hF rfl rfl rfl rfl rfl rfl (fun hg => q_load Try.isAgg3 rfl ((hF.eval rfl).trans (gv_of hg)) (RdT.cells (hR.now hO) hx _ _ rfl)) fun a hF => ?_
        refine wl_gk hO hF rfl rfl rfl rfl rfl rfl (fun hg => c_callG hF rfl rfl (by first | with_reducible rfl | (simp only [gv_of hg]; done) | (simp only [gv_of hg]; rfl)) Try.call44 (young_rr _ _ _ (hO.rr 0 1 2 rfl rfl rfl) g _)) fun a w hO hF => ?_
        refine wl_g hF rfl rfl rfl rfl rfl rfl (fun hg => q_and rfl ((hF.eval rfl).trans (gv_of hg)) rfl (fun hg2 => ((hF.eval rfl).trans (gv_of2 hg hg2))) rfl) fun a hF => ?_
        refine wl_v hF rfl rfl rfl (q_or rfl (hF.eval rfl) (dec_b _) (fun hg2 => ((hF.eval rfl).trans (gv_of hg2))) rfl) fun a hF => ?_
        refine wl_v hF rfl rfl rfl (q_assign rfl (hF.eval rfl)) fun a hF => ?_
        refine wl_nil ?_
        refine b_n ?_
        refine k_n ?_
        refine wp_region_lit ?_
        refine wl_v hF rfl rfl rfl (q_move rfl (hF.eval rfl)) fun a hF => ?_
        refine wl_v hF rfl rfl rfl (q_add rfl (hF.eval rfl) (hF.eval rfl) (by omega)) fun a hF => ?_
        refine wl_v hF rfl rfl rfl (q_assign rfl (hF.eval rfl)) fun a hF => ?_
        refine wl_nil ?_
        refine k_n ?_
        have hO : St _ _ _ [_, _, _] := hO
        exact ⟨i + 1, ⟨⟨by omega, real_take hx hre (fun h => hc3 (not_not_intro h))⟩, hO, hF.sub ⟨rfl, rfl, rfl, rfl, rfl, (congrArg (fun z => some (Value.bool z)) ((decide_eq_decide.2 Iff.rfl).trans (kn_take hx).symm)), rfl, trivial⟩⟩, by omega⟩
    · skip
      obtain rfl : i = fs.length := by omega
      rw [List.take_length] at hF hre
      refine wp_exit ?_
      refine k_x ?_
      refine k_x ?_
      refine b_x ?_
      refine k_n ?_
      refine wp_seq ?_
      refine wp_region_lit ?_
      refine wl_v hF rfl rfl rfl (q_move rfl (hF.eval rfl)) fun a hF => ?_
      refine wl_v hF rfl rfl rfl (q_lenRd hR Try.underlying37 rfl (hF.eval rfl)) fun a hF => ?_
      refine wl_v hF rfl rfl rfl (q_max rfl (hF.eval rfl) (hF.eval rfl)) fun a hF => ?_
      refine wl_v hF rfl rfl rfl (q_add rfl (hF.eval rfl) (hF.eval rfl) (by omega)) fun a hF => ?_
      refine wl_v hF rfl rfl rfl (q_assign rfl (hF.eval rfl)) fun a hF => ?_
      refine wl_nil ?_
      refine k_n ?_
      refine wp_seq ?_
      refine wp_region_lit ?_
      refine wl_v hF rfl rfl rfl (q_move rfl (hF.eval rfl)) fun a hF => ?_
      refine wl_v hF rfl rfl rfl (q_nilCheck rfl (hF.eval rfl)) fun a hF => ?_
      refine wl_v hF rfl rfl rfl (q_fieldAddr0 (d := 1) Try.underlying94 rfl (hF.eval rfl) rfl Try.sizeOf3 (by decide) rfl) fun a hF => ?_
      refine wl_v hF rfl rfl rfl (q_load Try.isAgg3 rfl (hF.eval rfl) (hO.cell 0 rfl rfl)) fun a hF => ?_
      refine wl_v hF rfl rfl rfl (q_assign rfl (hF.eval rfl)) fun a hF => ?_
      refine wl_nil ?_
      refine k_n ?_
      refine wp_seqJ (fun (mo : Int) a w' => (mo = sizR R k) ∧ St w0 (blks [.ob br 94 (rfC R), Ent.grp (pgE 99 R), Ent.grp (rowsE 27 R)]) w' [.ob br 94 (rfC R), Ent.grp (pgE 99 R), Ent.grp (rowsE 27 R)] ∧ Fr a 130 [(0, ptr (adr br)), (1, i64 k), (2, i64 kind), (3, i64 info), (4, vf), (12, .bool (knR R k fs)), (14, i64 (takesF fs)), (15, i64 mo)]) ?_ ?_
      · skip
        refine wp_seq ?_
        refine wp_region_lit ?_
        refine wl_v hF rfl rfl rfl (q_move rfl (hF.eval rfl)) fun a hF => ?_
        refine wl_v hF rfl rfl rfl (q_eq rfl (hF.eval rfl) (hF.eval rfl)) fun a hF => ?_
        refine wl_nil ?_
        refine k_n ?_
        refine wp_ifD hF rfl rfl (fun hc4 => ?_) (fun hc4 => ?_)
        · skip
          refine wp_region_lit ?_
          refine wl_v hF rfl rfl rfl (q_move rfl (hF.eval rfl)) fun a hF => ?_
          refine wl_v hF rfl rfl rfl (q_nilCheck rfl (hF.eval rfl)) fun a hF => ?_
          refine wl_v hF rfl rfl rfl (q_fieldAddr0 (d := 0) Try.underlying94 rfl (hF.eval rfl) rfl Try.sizeOf3 (by decide) rfl) fun a hF => ?_
          refine wl_v hF rfl rfl rfl (q_load Try.isAgg3 rfl (hF.eval rfl) (hO.cell 0 rfl rfl)) fun a hF => ?_
          refine wl_v hF rfl rfl rfl (q_assign rfl (hF.eval rfl)) fun a hF => ?_
          refine wl_nil ?_
          refine k_n ?_
          have hO : St _ _ _ [_, _, _] := hO
          exact ⟨_, ⟨(if_pos (by omega)).symm, hO, hF.sub ⟨rfl, rfl, rfl, rfl, rfl, rfl, rfl, rfl, trivial⟩⟩⟩
        · skip
          refine wp_skip ?_
          refine k_n ?_
          have hO : St _ _ _ [_, _, _] := hO
          exact ⟨_, ⟨(if_neg (by omega)).symm, hO, hF.sub ⟨rfl, rfl, rfl, rfl, rfl, rfl, rfl, rfl, trivial⟩⟩⟩
      · skip
        rintro mo a w ⟨rfl, hO, hF⟩
        refine wp_seq ?_
        refine wp_seq ?_
        refine wp_region_lit ?_
        refine wl_v hF rfl rfl rfl (q_move rfl (hF.eval rfl)) fun a hF => ?_
        refine wl_v hF rfl rfl rfl (q_move rfl (hF.eval rfl)) fun a hF => ?_
        refine wl_e hF rfl rfl rfl (c_call hF rfl rfl Try.call68 (used_rr _ _ _ (hO.rr 0 1 2 rfl rfl rfl) g k (hk))) ?_
        rintro a _ w ⟨rfl, hS⟩ hF
        have hO := hO.call0 hS
        have hO : St _ _ _ [_, _, _] := hO
        refine wl_v hF rfl rfl rfl (q_move rfl (hF.eval rfl)) fun a hF => ?_
        refine wl_v hF rfl rfl rfl (q_add rfl (hF.eval rfl) (hF.eval rfl) (by omega)) fun a hF => ?_
        refine wl_v hF rfl rfl rfl (q_move rfl (hF.eval rfl)) fun a hF => ?_
        refine wl_v hF rfl rfl rfl (q_gt rfl (hF.eval rfl) (hF.eval rfl)) fun a hF => ?_
        refine wl_nil ?_
        refine k_n ?_
        refine wp_ifD hF rfl rfl (fun hc5 => ?_) (fun hc5 => ?_)
        · skip
          refine wp_seq ?_
          refine wp_region_lit ?_
          refine wl_v hF rfl rfl rfl (q_assign rfl (hF.eval rfl)) fun a hF => ?_
          refine wl_v hF rfl rfl rfl (q_assign rfl (hF.eval rfl)) fun a hF => ?_
          refine wl_nil ?_
          refine k_n ?_
          refine wp_ret ?_
          refine k_r ?_
          refine r_2 hF rfl rfl rfl ?_
          have hO : St _ _ _ [_, _, _] := hO
          exact ⟨⟨none, 0, 0⟩, undef, (0, 180), R, lay_e2 hc1 hre hc5, rfl, hO⟩
        · skip
          refine wp_skip ?_
          refine k_n ?_
          refine wp_seq ?_
          refine wp_region_lit ?_
          refine wl_v hF rfl rfl rfl (q_move rfl (hF.eval rfl)) fun a hF => ?_
          refine wl_v hF rfl rfl rfl (q_move rfl (hF.eval rfl)) fun a hF => ?_
          refine wl_e hF rfl rfl rfl (c_call hF rfl rfl Try.call78 (begins_rr _ _ _ (hO.rr 0 1 2 rfl rfl rfl) g k (hk))) ?_
          rintro a _ w ⟨rfl, hS⟩ hF
          have hO := hO.call0 hS
          have hO : St _ _ _ [_, _, _] := hO
          refine wl_v hF rfl rfl rfl (q_move rfl (hF.eval rfl)) fun a hF => ?_
          refine wl_v hF rfl rfl rfl (q_move rfl (hF.eval rfl)) fun a hF => ?_
          refine wl_e hF rfl rfl rfl (c_call hF rfl rfl Try.call68 (used_rr _ _ _ (hO.rr 0 1 2 rfl rfl rfl) g k (hk))) ?_
          rintro a _ w ⟨rfl, hS⟩ hF
          have hO := hO.call0 hS
          have hO : St _ _ _ [_, _, _] := hO
          refine wl_v hF rfl rfl rfl (q_add rfl (hF.eval rfl) (hF.eval rfl) (by omega)) fun a hF => ?_
          refine wl_v hF rfl rfl rfl (q_assign rfl (hF.eval rfl)) fun a hF => ?_
          have hO := St.swapG (hO.nilSl 99 6) 1 rfl (pgE_at (T := 99) (R := R) hk)
          have hO : St _ _ _ [_, _, _, _] := hO
          refine wl_nil ?_
          refine k_n ?_
          refine wp_seq ?_
          have hO := hO.drew
          refine wp_region_D [0, 0, 0, 0, 0, 0, 0, 1, 0, 0, 0, 0, 0, 2, 0, 0, 0, 2, 3, 0, 0, 0, 3] (fun w => St _ _ w _) Try_mixed (by kernel_rfl) hO ?_
          refine wd_p hF rfl rfl rfl (fun w => q_move rfl (hF.eval rfl)) fun a hF => ?_
          refine wd_p hF rfl rfl rfl (fun w => q_move rfl (hF.eval rfl)) fun a hF => ?_
          refine wd_p hF rfl rfl rfl (fun w => q_move rfl (hF.eval rfl)) fun a hF => ?_
          refine wd_p hF rfl rfl rfl (fun w => q_move rfl (hF.eval rfl)) fun a hF => ?_
          refine wd_p hF rfl rfl rfl (fun w => q_nilCheck rfl (hF.eval rfl)) fun a hF => ?_
          refine wd_p hF rfl rfl rfl (fun w => q_fieldAddr0 (d := 2) Try.underlying94 rfl (hF.eval rfl) rfl Try.sizeOf92 (by decide) rfl) fun a hF => ?_
          refine wd_p hF rfl rfl rfl (fun w => q_atArrK (i := k) (d := 2) Try.underlying92 Try.sizeOf91 rfl (hF.eval rfl) (hF.eval rfl) (hk)) fun a hF => ?_
          refine wd_r hF rfl rfl rfl (fun w hO => q_load Try.isAgg91 rfl (hF.eval rfl) (hO.cell 1 rfl (rfC_at1 (R := R) hk))) fun a hF => ?_
          refine wd_p hF rfl rfl rfl (fun w => q_move rfl (hF.eval rfl)) fun a hF => ?_
          refine wd_p hF rfl rfl rfl (fun w => q_move rfl (hF.eval rfl)) fun a hF => ?_
          refine wd_p hF rfl rfl rfl (fun w => q_move rfl (hF.eval rfl)) fun a hF => ?_
          refine wd_p hF rfl rfl rfl (fun w => q_move rfl (hF.eval rfl)) fun a hF => ?_
          refine wd_p hF rfl rfl rfl (fun w => q_move rfl (hF.eval rfl)) fun a hF => ?_
          refine wd_e hF rfl rfl rfl (c_call hF rfl rfl Try.call65 (copied_rr _ _ _ (by omega) (hR.at0 hO))) ((fun _ _ ⟨_, _, hS⟩ => (hO.call0 hS).tail)) ?_
          rintro a _ w ⟨vc, rfl, hS⟩ hF
          have hO := hO.call0 hS
          have hO : St _ _ _ [_, _, _, _, _] := hO
          obtain ⟨Ac, cc, rfl, _⟩ := Rd.is (hO.rd 0 rfl)
          refine wd_p hF rfl rfl rfl (fun w => c_build hF Try.underlying42 Try.zeroValue42 Try_places42 rfl rfl rfl rfl) fun a hF => ?_
          refine wd_p hF rfl rfl rfl (fun w => q_move rfl (hF.eval rfl)) fun a hF => ?_
          refine wd_p hF rfl rfl rfl (fun w => c_buildG hF Try.underlying99 Try.zeroValue99 Try_placesG99 rfl rfl rfl rfl) fun a hF => ?_
          refine wd_e hF rfl rfl rfl (c_buildSlice hF hO Try.underlying91 Try.sizeOf99 Try.zeroValue99 rfl rfl rfl rfl rfl rfl rfl) (fun _ _ ⟨_, _, hO⟩ => hO.tail.tail) ?_
          rintro a _ w ⟨b1, rfl, hO⟩ hF
          refine wd_f hF rfl rfl rfl (e_appendT (bytes := 64) (r := [newO R k kind info fs ⟨Ac, fs.length, cc⟩]) hO (i := 2) rfl (hO.rd 0 rfl) Try.underlying91 Try_info99 rfl rfl rfl rfl rfl rfl (hF.eval rfl) (hF.eval rfl) (by show (List.length (R.p k) + 1) * 64 ≤ _; have := g.len k hk; omega) (by show List.length (R.p k) + 1 ≤ _; have := g.len k hk; omega)) ?_
          rintro a v2 w hO hF
          have hO : St _ _ _ [_, _, _, _, _, _] := hO
          refine wd_p hF rfl rfl rfl (fun w => q_nilCheck rfl (hF.eval rfl)) fun a hF => ?_
          refine wd_p hF rfl rfl rfl (fun w => q_fieldAddr0 (d := 2) Try.underlying94 rfl (hF.eval rfl) rfl Try.sizeOf92 (by decide) rfl) fun a hF => ?_
          refine wd_p hF rfl rfl rfl (fun w => q_atArrK (i := k) (d := 2) Try.underlying92 Try.sizeOf91 rfl (hF.eval rfl) (hF.eval rfl) (hk)) fun a hF => ?_
          refine wd_s hF rfl rfl (e_store1 (k := 2 + k * 1) hO (i := 3) rfl Try.sizeOf91 rfl (hF.eval rfl) (hF.eval rfl) (cells_one (hO.slOne 2 rfl)) (ble_rf hk) (hO.slOne 2 rfl)) ?_
          rintro a _ w ⟨-, hO⟩ hF
          have hO : St _ _ _ [_, _, _, _, _, _] := hO
          have hO := hO.drop1 0
          have hO := hO.pull 4 rfl
          have hO := hO.pull 4 rfl
          have hO := hO.pull 4 rfl
          have hO := hO.pull 3 rfl
          have hO := hO.pull 4 rfl
          have hO : St _ _ _ [_, _, _, _, _] := hO
          have hO := lay_fin (x := newO R k kind info fs ⟨Ac, fs.length, cc⟩) hk hO
          refine wd_nil ?_
          refine k_n ?_
          refine wp_seq ?_
          refine wp_region_lit ?_
          refine wl_v hF rfl rfl rfl (q_move rfl (hF.eval rfl)) fun a hF => ?_
          refine wl_v hF rfl rfl rfl (q_assign rfl (hF.eval rfl)) fun a hF => ?_
          refine wl_v hF rfl rfl rfl (q_assign rfl (hF.eval rfl)) fun a hF => ?_
          refine wl_nil ?_
          refine k_n ?_
          refine wp_ret ?_
          refine r_2 hF rfl rfl rfl ?_
          have hO : St _ _ _ [_, _, _] := hO
          exact ⟨⟨Ac, fs.length, cc⟩, v2, _, _, lay_e3 hc1 hre hc5, rfl, hO⟩

theorem alloc_rr (w0 : World) (br : Nat) (R : RH) (hA : Owns w0 [.ob br 94 (rfC R), Ent.grp (pgE 99 R), Ent.grp (rowsE 27 R)]) (g : RG R) (kind info : Int) (vf : Value) (fs : List Wd) (hR : RdT w0 (blks [.ob br 94 (rfC R), Ent.grp (pgE 99 R), Ent.grp (rowsE 27 R)]) vf wordE fs) : Ret Try.prog 28 #[ptr (adr br), i64 kind, i64 info, vf] w0 (fun v w' => ∃ q v2 r R2, layR R 0 kind info fs q v2 = (r, R2) ∧ v = .tuple #[i64 r.1, i64 r.2] ∧ St w0 (blks [.ob br 94 (rfC R), Ent.grp (pgE 99 R), Ent.grp (rowsE 27 R)]) w' [.ob br 94 (rfC R2), Ent.grp (pgE 99 R2), Ent.grp (rowsE 27 R2)]) := by
  have hO := St.init hA
  refine ret_of (m := 17) Try.func28 rfl Try.ntmps28 [(0, ptr (adr br)), (1, i64 kind), (2, i64 info), (3, vf)] rfl ⟨rfl, rfl, rfl, rfl, trivial⟩ fun a hF => ?_
  refine wp_seq ?_
  refine wp_region_lit ?_
  refine wl_v hF rfl rfl rfl (q_assign rfl (hF.eval rfl)) fun a hF => ?_
  refine wl_v hF rfl rfl rfl (q_assign rfl (hF.eval rfl)) fun a hF => ?_
  refine wl_nil ?_
  refine k_n ?_
  refine wp_seq ?_
  refine wp_region_lit ?_
  refine wl_v hF rfl rfl rfl (q_move rfl (hF.eval rfl)) fun a hF => ?_
  refine wl_v hF rfl rfl rfl (q_move rfl (hF.eval rfl)) fun a hF => ?_
  refine wl_v hF rfl rfl rfl (q_move rfl (hF.eval rfl)) fun a hF => ?_
  refine wl_v hF rfl rfl rfl (q_move rfl (hF.eval rfl)) fun a hF => ?_
  have hO := hO.pull 2 rfl
  have hO := hO.pull 2 rfl
  have hO := hO.pull 2 rfl
  have hO : St _ _ _ [_, _, _] := hO
  refine wl_e hF rfl rfl rfl (c_call hF rfl rfl Try.call62 (lay_rr _ _ _ hO.own3 g 0 (by decide) _ _ _ _ (hR.at3 hO))) ?_
  rintro a _ w ⟨q, v2, r, R2, hly, rfl, hS⟩ hF
  have hO := hO.call3 hS
  have hO : St _ _ _ [_, _, _] := hO
  refine wl_v hF rfl rfl rfl (q_extract rfl (hF.eval rfl) rfl) fun a hF => ?_
  refine wl_v hF rfl rfl rfl (q_extract rfl (hF.eval rfl) rfl) fun a hF => ?_
  refine wl_v hF rfl rfl rfl (q_assign rfl (hF.eval rfl)) fun a hF => ?_
  refine wl_v hF rfl rfl rfl (q_assign rfl (hF.eval rfl)) fun a hF => ?_
  refine wl_nil ?_
  refine k_n ?_
  refine wp_ret ?_
  refine r_2 hF rfl rfl rfl ?_
  have hO : St _ _ _ [_, _, _] := hO
  exact ⟨_, _, _, _, hly, rfl, hO⟩

theorem keep_rr (w0 : World) (br : Nat) (R : RH) (hA : Owns w0 [.ob br 94 (rfC R), Ent.grp (pgE 99 R), Ent.grp (rowsE 27 R)]) (g : RG R) (kind info : Int) (vf : Value) (fs : List Wd) (hR : RdT w0 (blks [.ob br 94 (rfC R), Ent.grp (pgE 99 R), Ent.grp (rowsE 27 R)]) vf wordE fs) : Ret Try.prog 29 #[ptr (adr br), i64 kind, i64 info, vf] w0 (fun v w' => ∃ q v2 r R2, layR R R.use kind info fs q v2 = (r, R2) ∧ v = .tuple #[i64 r.1, i64 r.2] ∧ St w0 (blks [.ob br 94 (rfC R), Ent.grp (pgE 99 R), Ent.grp (rowsE 27 R)]) w' [.ob br 94 (rfC R2), Ent.grp (pgE 99 R2), Ent.grp (rowsE 27 R2)]) := by
  have hO := St.init hA
  have hu := use_rng g
  refine ret_of (m := 21) Try.func29 rfl Try.ntmps29 [(0, ptr (adr br)), (1, i64 kind), (2, i64 info), (3, vf)] rfl ⟨rfl, rfl, rfl, rfl, trivial⟩ fun a hF => ?_
  refine wp_seq ?_
  refine wp_region_lit ?_
  refine wl_v hF rfl rfl rfl (q_assign rfl (hF.eval rfl)) fun a hF => ?_
  refine wl_v hF rfl rfl rfl (q_assign rfl (hF.eval rfl)) fun a hF => ?_
  refine wl_nil ?_
  refine k_n ?_
  refine wp_seq ?_
  refine wp_region_lit ?_
  refine wl_v hF rfl rfl rfl (q_move rfl (hF.eval rfl)) fun a hF => ?_
  refine wl_v hF rfl rfl rfl (q_move rfl (hF.eval rfl)) fun a hF => ?_
  refine wl_v hF rfl rfl rfl (q_nilCheck rfl (hF.eval rfl)) fun a hF => ?_
  refine wl_v hF rfl rfl rfl (q_fieldAddr0 (d := 5) Try.underlying94 rfl (hF.eval rfl) rfl Try.sizeOf3 (by decide) rfl) fun a hF => ?_
  refine wl_v hF rfl rfl rfl (q_load Try.isAgg3 rfl (hF.eval rfl) (hO.cell 0 rfl rfl)) fun a hF => ?_
  refine wl_v hF rfl rfl rfl (q_move rfl (hF.eval rfl)) fun a hF => ?_
  refine wl_v hF rfl rfl rfl (q_move rfl (hF.eval rfl)) fun a hF => ?_
  refine wl_v hF rfl rfl rfl (q_move rfl (hF.eval rfl)) fun a hF => ?_
  have hO := hO.pull 2 rfl
  have hO := hO.pull 2 rfl
  have hO := hO.pull 2 rfl
  have hO : St _ _ _ [_, _, _] := hO
  refine wl_e hF rfl rfl rfl (c_call hF rfl rfl Try.call62 (lay_rr _ _ _ hO.own3 g R.use (hu.1) _ _ _ _ (hR.at3 hO))) ?_
  rintro a _ w ⟨q, v2, r, R2, hly, rfl, hS⟩ hF
  have hO := hO.call3 hS
  have hO : St _ _ _ [_, _, _] := hO
  refine wl_v hF rfl rfl rfl (q_extract rfl (hF.eval rfl) rfl) fun a hF => ?_
  refine wl_v hF rfl rfl rfl (q_extract rfl (hF.eval rfl) rfl) fun a hF => ?_
  refine wl_v hF rfl rfl rfl (q_assign rfl (hF.eval rfl)) fun a hF => ?_
  refine wl_v hF rfl rfl rfl (q_assign rfl (hF.eval rfl)) fun a hF => ?_
  refine wl_nil ?_
  refine k_n ?_
  refine wp_ret ?_
  refine r_2 hF rfl rfl rfl ?_
  have hO : St _ _ _ [_, _, _] := hO
  exact ⟨_, _, _, _, hly, rfl, hO⟩

end Go.Proofs.Ytglienidnffnjaa
namespace Go.Proofs.Ytglienidnffnjaa
open Go
set_option maxRecDepth 100000
set_option linter.unusedVariables false
set_option maxHeartbeats 2000000 in
theorem set_rr (w0 : World) (br : Nat) (R : RH) (hA : Owns w0 [.ob br 94 (rfC R), Ent.grp (pgE 99 R), Ent.grp (rowsE 27 R)]) (g : RG R) (at_ field : Int) (x : Wd) : Ret Try.prog 30 #[ptr (adr br), i64 at_, i64 field, .agg (wordE.cells x).toArray] w0 (fun v w' => ∃ r R2, setR R at_ field x = (r, R2) ∧ v = i64 r ∧ St w0 (blks [.ob br 94 (rfC R), Ent.grp (pgE 99 R), Ent.grp (rowsE 27 R)]) w' [.ob br 94 (rfC R2), Ent.grp (pgE 99 R2), Ent.grp (rowsE 27 R2)]) := by
  have hO := St.init hA
  refine ret_of (m := 68) Try.func30 rfl Try.ntmps30 [(0, ptr (adr br)), (1, i64 at_), (2, i64 field), (3, .agg (wordE.cells x).toArray)] rfl ⟨rfl, rfl, rfl, rfl, trivial⟩ fun a hF => ?_
  refine wp_seq ?_
  refine wp_region_lit ?_
  refine wl_e hF rfl rfl rfl (e_box hO rfl (hF.eval rfl) rfl) ?_
  rintro a _ w ⟨tk, rfl, hO⟩ hF
  refine wl_v hF rfl rfl rfl (q_assign rfl (hF.eval rfl)) fun a hF => ?_
  refine wl_nil ?_
  refine k_n ?_
  refine wp_seq ?_
  refine wp_region_lit ?_
  refine wl_v hF rfl rfl rfl (q_move rfl (hF.eval rfl)) fun a hF => ?_
  refine wl_v hF rfl rfl rfl (q_move rfl (hF.eval rfl)) fun a hF => ?_
  refine wl_e hF rfl rfl rfl (c_call hF rfl rfl Try.call63 (find_rr _ _ _ (hO.rr 1 2 3 rfl rfl rfl) g _)) ?_
  rintro a _ w ⟨rfl, hS⟩ hF
  have hO := hO.call0 hS
  have hO : St _ _ _ [_, _, _, _] := hO
  refine wl_v hF rfl rfl rfl (q_assign rfl (hF.eval rfl)) fun a hF => ?_
  refine wl_nil ?_
  refine k_n ?_
  refine wp_seq ?_
  refine wp_seq ?_
  refine wp_region_lit ?_
  refine wl_v hF rfl rfl rfl (q_move rfl (hF.eval rfl)) fun a hF => ?_
  refine wl_v hF rfl rfl rfl (q_peq Try.underlying96 rfl (hF.eval rfl) (hF.eval rfl)) fun a hF => ?_
  refine wl_v hF rfl rfl rfl (q_move rfl (hF.eval rfl)) fun a hF => ?_
  refine wl_g hF rfl rfl rfl rfl rfl rfl (fun hg => q_move rfl (hF.eval rfl)) fun a hF => ?_
  refine wl_g hF rfl rfl rfl rfl rfl rfl (fun hg => q_lt rfl ((hF.eval rfl).trans (gv_of hg)) (hF.eval rfl)) fun a hF => ?_
  refine wl_v hF rfl rfl rfl (q_or rfl (hF.eval rfl) rfl (fun hg2 => ((hF.eval rfl).trans (gv_of hg2))) rfl) fun a hF => ?_
  refine wl_v hF rfl rfl rfl (q_move rfl (hF.eval rfl)) fun a hF => ?_
  refine wl_g hF rfl rfl rfl rfl rfl rfl (fun hg => q_move rfl (hF.eval rfl)) fun a hF => ?_
  refine wl_g hF rfl rfl rfl rfl rfl rfl (fun hg => q_move rfl (hF.eval rfl)) fun a hF => ?_
  refine wl_g hF rfl rfl rfl rfl rfl rfl (fun hg => q_nilCheck rfl (((hF.eval rfl).trans (gv_of hg)).trans (congrArg Value.pointer (fo_at (fun e => of_gn hg (.inl e))).1))) fun a hF => ?_
  refine wl_g hF rfl rfl rfl rfl rfl rfl (fun hg => q_fieldAddr0 (d := 2) Try.underlying99 rfl ((hF.eval rfl).trans (gv_of hg)) rfl Try.sizeOf42 (by decide) rfl) fun a hF => ?_
  refine wl_g hF rfl rfl rfl rfl rfl rfl (fun hg => q_fieldAddr (d := 2) Try.underlying42 rfl ((hF.eval rfl).trans (gv_of hg)) rfl Try.sizeOf37 (by decide) rfl) fun a hF => ?_
  refine wl_g hF rfl rfl rfl rfl rfl rfl (fun hg => q_load Try.isAgg37 rfl ((hF.eval rfl).trans (gv_of hg)) (RdT.cells (hO.rdTG 2 rfl (pgE_at (R := R) (fo_at (fun e => of_gn hg (.inl e))).2.1)) (fo_at (fun e => of_gn hg (.inl e))).2.2.1 _ _ rfl)) fun a hF => ?_
  refine wl_g hF rfl rfl rfl rfl rfl rfl (fun hg => q_lenRd (hO.rdTG 3 rfl (rows_at (R := R) (fo_at (fun e => of_gn hg (.inl e))).2.1 (fo_at (fun e => of_gn hg (.inl e))).2.2.1)) Try.underlying37 rfl ((hF.eval rfl).trans (gv_of hg))) fun a hF => ?_
  refine wl_g hF rfl rfl rfl rfl rfl rfl (fun hg => q_ge rfl ((hF.eval rfl).trans (gv_of hg)) ((hF.eval rfl).trans (gv_of hg))) fun a hF => ?_
  refine wl_v hF rfl rfl rfl (q_or rfl (hF.eval rfl) rfl (fun hg2 => ((hF.eval rfl).trans (gv_of hg2))) rfl) fun a hF => ?_
  refine wl_v hF rfl rfl rfl (q_move rfl (hF.eval rfl)) fun a hF => ?_
  refine wl_g hF rfl rfl rfl rfl rfl rfl (fun hg => q_move rfl (hF.eval rfl)) fun a hF => ?_
  refine wl_g hF rfl rfl rfl rfl rfl rfl (fun hg => q_loadAgg Try.isAgg27 Try.sizeOf27 rfl (hF.eval rfl) (hO.cells 0 rfl) rfl) fun a hF => ?_
  refine wl_gk hO hF rfl rfl rfl rfl rfl rfl (fun hg => c_callG hF rfl rfl (by first | with_reducible rfl | (simp only [gv_of hg]; done) | (simp only [gv_of hg]; rfl)) Try.call64 (stands_rr _ _ _ (hO.rr 1 2 3 rfl rfl rfl) g _)) fun a w hO hF => ?_
  refine wl_g hF rfl rfl rfl rfl rfl rfl (fun hg => q_not rfl ((hF.eval rfl).trans (gv_of hg)) rfl) fun a hF => ?_
  refine wl_v hF rfl rfl rfl (q_or rfl (hF.eval rfl) rfl (fun hg2 => ((hF.eval rfl).trans (gv_of hg2))) rfl) fun a hF => ?_
  refine wl_nil ?_
  refine k_n ?_
  refine wp_ifD hF rfl rfl (fun hc1 => ?_) (fun hc1 => ?_)
  · skip
    refine wp_seq ?_
    refine wp_region_lit ?_
    refine wl_v hF rfl rfl rfl (q_assign rfl (hF.eval rfl)) fun a hF => ?_
    refine wl_nil ?_
    refine k_n ?_
    refine wp_ret ?_
    refine k_r ?_
    refine r_1 hF rfl rfl ?_
    have hO := hO.drop1 0
    have hO : St _ _ _ [_, _, _] := hO
    exact ⟨_, _, set_e1 hc1, rfl, hO⟩
  · skip
    obtain ⟨q, hq, q1, q2, q3, hf0, hf1, hset⟩ := set_e2 hc1
    rw [hq] at hF
    refine wp_skip ?_
    refine k_n ?_
    refine wp_seq ?_
    have hO := hO.drew
    refine wp_region_D [0, 0, 0, 0, 1, 0, 1, 0, 3] (fun w => St _ _ w _) Try_mixed (by kernel_rfl) hO ?_
    refine wd_p hF rfl rfl rfl (fun w => q_move rfl (hF.eval rfl)) fun a hF => ?_
    refine wd_p hF rfl rfl rfl (fun w => q_nilCheck rfl (hF.eval rfl)) fun a hF => ?_
    refine wd_p hF rfl rfl rfl (fun w => q_fieldAddr0 (d := 2) Try.underlying99 rfl (hF.eval rfl) rfl Try.sizeOf42 (by decide) rfl) fun a hF => ?_
    refine wd_p hF rfl rfl rfl (fun w => q_fieldAddr (d := 2) Try.underlying42 rfl (hF.eval rfl) rfl Try.sizeOf37 (by decide) rfl) fun a hF => ?_
    refine wd_r hF rfl rfl rfl (fun w hO => q_load Try.isAgg37 rfl (hF.eval rfl) (RdT.cells (hO.rdTG 2 rfl (pgE_at (R := R) q1)) q3 _ _ rfl)) fun a hF => ?_
    refine wd_p hF rfl rfl rfl (fun w => q_move rfl (hF.eval rfl)) fun a hF => ?_
    refine wd_r hF rfl rfl rfl (fun w hO => q_loadAgg Try.isAgg27 Try.sizeOf27 rfl (hF.eval rfl) (hO.cells 0 rfl) rfl) fun a hF => ?_
    refine wd_p hF rfl rfl rfl (fun w => q_at (i := field.toNat) (hO.rdTG 3 rfl (rows_at (R := R) q1 q3)) Try.underlying37 Try.sizeOf27 rfl (hF.eval rfl) ((hF.eval rfl).trans (congrArg i64 ((Int.toNat_of_nonneg (hf0)).symm))) (by omega)) fun a hF => ?_
    refine wd_s hF rfl rfl (e_storeG (q := x) (m := field.toNat) hO (i := 3) rfl (rows_at (R := R) q1 q3) fun hO hi => e_storeElT (m := field.toNat) (off := 0) hO hi Try.sizeOf27 rfl (hF.eval rfl) rfl (hF.eval rfl) rfl (get_D (d := wd0) (by omega)) rfl (Nat.le_of_ble_eq_true rfl) rfl (all1 rfl)) ?_
    rintro a _ w ⟨-, hO⟩ hF
    have hO : St _ _ _ [_, _, _, _] := hO
    have hO : St _ _ _ [_, _, _, Ent.grp ((rowsE 27 R).set (posR R q) (rowW 27 (setFs (R.ob q) ((R.ob q).fs.set field.toNat x))))] := hO
    replace hO : St w0 (blks [.ob br 94 (rfC R), Ent.grp (pgE 99 R), Ent.grp (rowsE 27 R)]) w [.ob tk 27 (wordE.cells x), .ob br 94 (rfC (R.setO q (setFs (R.ob q) ((R.ob q).fs.set field.toNat x)))), Ent.grp (pgE 99 (R.setO q (setFs (R.ob q) ((R.ob q).fs.set field.toNat x)))), Ent.grp (rowsE 27 (R.setO q (setFs (R.ob q) ((R.ob q).fs.set field.toNat x))))] := by rw [pgE_same (T := 99) (x := (setFs (R.ob q) ((R.ob q).fs.set field.toNat x))) q1 q3 rfl, ← rows_set q1 q2]; exact hO
    have hx1 : ((R.setO q (setFs (R.ob q) ((R.ob q).fs.set field.toNat x))).p q.1)[q.2]? = some (setFs (R.ob q) ((R.ob q).fs.set field.toNat x)) := setO_at q2
    have g1 : RG (R.setO q (setFs (R.ob q) ((R.ob q).fs.set field.toNat x))) := g.setO q3 rfl rfl (fun h => by show (List.set _ _ _).length = 1; rw [List.length_set]; exact g.ind q.1 q1 _ (List.mem_of_getElem? q3) h)
    refine wd_nil ?_
    refine k_n ?_
    refine wp_seq ?_
    refine wp_region_lit ?_
    refine wl_v hF rfl rfl rfl (q_move rfl (hF.eval rfl)) fun a hF => ?_
    refine wl_v hF rfl rfl rfl (q_move rfl (hF.eval rfl)) fun a hF => ?_
    refine wl_v hF rfl rfl rfl (q_nilCheck rfl (hF.eval rfl)) fun a hF => ?_
    refine wl_v hF rfl rfl rfl (q_fieldAddr0 (d := 5) Try.underlying99 rfl (hF.eval rfl) rfl Try.sizeOf4 (by decide) rfl) fun a hF => ?_
    refine wl_v hF rfl rfl rfl (q_load Try.isAgg4 rfl (hF.eval rfl) (RdT.cells (hO.rdTG 2 rfl (pgE_at (R := (R.setO q (setFs (R.ob q) ((R.ob q).fs.set field.toNat x)))) q1)) hx1 _ _ rfl)) fun a hF => ?_
    refine wl_v hF rfl rfl rfl (q_move rfl (hF.eval rfl)) fun a hF => ?_
    refine wl_g hF rfl rfl rfl rfl rfl rfl (fun hg => q_move rfl (hF.eval rfl)) fun a hF => ?_
    refine wl_g hF rfl rfl rfl rfl rfl rfl (fun hg => q_move rfl (hF.eval rfl)) fun a hF => ?_
    refine wl_g hF rfl rfl rfl rfl rfl rfl (fun hg => q_nilCheck rfl ((hF.eval rfl).trans (gv_of hg))) fun a hF => ?_
    refine wl_g hF rfl rfl rfl rfl rfl rfl (fun hg => q_fieldAddr0 (d := 0) Try.underlying94 rfl ((hF.eval rfl).trans (gv_of hg)) rfl Try.sizeOf3 (by decide) rfl) fun a hF => ?_
    refine wl_g hF rfl rfl rfl rfl rfl rfl (fun hg => q_load Try.isAgg3 rfl ((hF.eval rfl).trans (gv_of hg)) (hO.cell 1 rfl rfl)) fun a hF => ?_
    refine wl_g hF rfl rfl rfl rfl rfl rfl (fun hg => q_ge rfl ((hF.eval rfl).trans (gv_of hg)) ((hF.eval rfl).trans (gv_of hg))) fun a hF => ?_
    refine wl_g hF rfl rfl rfl rfl rfl rfl (fun hg => q_move rfl ((hF.eval rfl).trans (gv_of hg))) fun a hF => ?_
    refine wl_g hF rfl rfl rfl rfl rfl rfl (fun hg => q_fieldAddr0 (d := 0) Try.underlying27 rfl (hF.eval rfl) rfl Try.sizeOf4 (by decide) rfl) fun a hF => ?_
    refine wl_g hF rfl rfl rfl rfl rfl rfl (fun hg => q_load Try.isAgg4 rfl ((hF.eval rfl).trans (gv_of hg)) (hO.cell 0 rfl rfl)) fun a hF => ?_
    refine wl_g hF rfl rfl rfl rfl rfl rfl (fun hg => q_and rfl ((hF.eval rfl).trans (gv_of hg)) rfl (fun hg2 => ((hF.eval rfl).trans (gv_of2 hg hg2))) (dec_b _)) fun a hF => ?_
    refine wl_g hF rfl rfl rfl rfl rfl rfl (fun hg => q_move rfl ((hF.eval rfl).trans (gv_of hg))) fun a hF => ?_
    refine wl_g hF rfl rfl rfl rfl rfl rfl (fun hg => q_move rfl (hF.eval rfl)) fun a hF => ?_
    refine wl_g hF rfl rfl rfl rfl rfl rfl (fun hg => q_fieldAddr0 (d := 1) Try.underlying27 rfl (hF.eval rfl) rfl Try.sizeOf3 (by decide) rfl) fun a hF => ?_
    refine wl_g hF rfl rfl rfl rfl rfl rfl (fun hg => q_load Try.isAgg3 rfl ((hF.eval rfl).trans (gv_of hg)) (hO.cell 0 rfl rfl)) fun a hF => ?_
    refine wl_gk hO hF rfl rfl rfl rfl rfl rfl (fun hg => c_callG hF rfl rfl (by first | with_reducible rfl | (simp only [gv_of hg]; done) | (simp only [gv_of hg]; rfl)) Try.call44 (young_rr _ _ _ (hO.rr 1 2 3 rfl rfl rfl) g1 _)) fun a w hO hF => ?_
    refine wl_g hF rfl rfl rfl rfl rfl rfl (fun hg => q_and rfl ((hF.eval rfl).trans (gv_of hg)) rfl (fun hg2 => ((hF.eval rfl).trans (gv_of2 hg hg2))) rfl) fun a hF => ?_
    refine wl_v hF rfl rfl rfl (q_or rfl (hF.eval rfl) (dec_b _) (fun hg2 => ((hF.eval rfl).trans (gv_of hg2))) rfl) fun a hF => ?_
    refine wl_v hF rfl rfl rfl (q_nilCheck rfl (hF.eval rfl)) fun a hF => ?_
    refine wl_v hF rfl rfl rfl (q_fieldAddr0 (d := 5) Try.underlying99 rfl (hF.eval rfl) rfl Try.sizeOf4 (by decide) rfl) fun a hF => ?_
    refine wl_s hF rfl rfl (e_storeG (q := (setKn (setFs (R.ob q) ((R.ob q).fs.set field.toNat x)) (decide ((setFs (R.ob q) ((R.ob q).fs.set field.toNat x)).knows = true ∨ ((R.Y ≤ at_ ∧ x.ptr = true) ∧ youngR (R.setO q (setFs (R.ob q) ((R.ob q).fs.set field.toNat x))) x.n))))) (m := q.2) hO (i := 2) rfl (pgE_at (R := (R.setO q (setFs (R.ob q) ((R.ob q).fs.set field.toNat x)))) q1) fun hO hi => e_storeElT (m := q.2) (off := 5) hO hi Try.sizeOf4 rfl ((hF.eval rfl).trans (congrArg ptr (add_add' _ _ _))) rfl (hF.eval rfl) rfl hx1 rfl (Nat.le_of_ble_eq_true rfl) rfl (all1 rfl)) ?_
    rintro a _ w ⟨-, hO⟩ hF
    have hO : St _ _ _ [_, _, _, _] := hO
    rw [pgE_setO (R := (R.setO q (setFs (R.ob q) ((R.ob q).fs.set field.toNat x)))) (q := q) q1, ← rows_same (R := (R.setO q (setFs (R.ob q) ((R.ob q).fs.set field.toNat x)))) (q := q) (x := (setKn (setFs (R.ob q) ((R.ob q).fs.set field.toNat x)) (decide ((setFs (R.ob q) ((R.ob q).fs.set field.toNat x)).knows = true ∨ ((R.Y ≤ at_ ∧ x.ptr = true) ∧ youngR (R.setO q (setFs (R.ob q) ((R.ob q).fs.set field.toNat x))) x.n))))) q1 hx1 rfl rfl] at hO
    replace hO : St _ _ _ [.ob tk 27 (wordE.cells x), .ob br 94 (rfC ((R.setO q (setFs (R.ob q) ((R.ob q).fs.set field.toNat x))).setO q (setKn (setFs (R.ob q) ((R.ob q).fs.set field.toNat x)) (decide ((setFs (R.ob q) ((R.ob q).fs.set field.toNat x)).knows = true ∨ ((R.Y ≤ at_ ∧ x.ptr = true) ∧ youngR (R.setO q (setFs (R.ob q) ((R.ob q).fs.set field.toNat x))) x.n)))))), Ent.grp (pgE 99 ((R.setO q (setFs (R.ob q) ((R.ob q).fs.set field.toNat x))).setO q (setKn (setFs (R.ob q) ((R.ob q).fs.set field.toNat x)) (decide ((setFs (R.ob q) ((R.ob q).fs.set field.toNat x)).knows = true ∨ ((R.Y ≤ at_ ∧ x.ptr = true) ∧ youngR (R.setO q (setFs (R.ob q) ((R.ob q).fs.set field.toNat x))) x.n)))))), Ent.grp (rowsE 27 ((R.setO q (setFs (R.ob q) ((R.ob q).fs.set field.toNat x))).setO q (setKn (setFs (R.ob q) ((R.ob q).fs.set field.toNat x)) (decide ((setFs (R.ob q) ((R.ob q).fs.set field.toNat x)).knows = true ∨ ((R.Y ≤ at_ ∧ x.ptr = true) ∧ youngR (R.setO q (setFs (R.ob q) ((R.ob q).fs.set field.toNat x))) x.n))))))] := hO
    rw [← rem1_is q2 at_ x] at hO
    refine wl_nil ?_
    refine k_n ?_
    refine wp_seq ?_
    refine wp_region_lit ?_
    refine wl_v hF rfl rfl rfl (q_assign rfl (hF.eval rfl)) fun a hF => ?_
    refine wl_nil ?_
    refine k_n ?_
    refine wp_ret ?_
    refine r_1 hF rfl rfl ?_
    have hO := hO.drop1 0
    have hO : St _ _ _ [_, _, _] := hO
    exact ⟨_, _, hset, rfl, hO⟩

theorem hole_rr (w0 : World) (br : Nat) (R : RH) (hA : Owns w0 [.ob br 94 (rfC R), Ent.grp (pgE 99 R), Ent.grp (rowsE 27 R)]) (g : RG R) (at_ : Int) : Ret Try.prog 31 #[ptr (adr br), i64 at_] w0 (fun v w' => ∃ r R2, holeR R at_ = (r, R2) ∧ v = i64 r ∧ St w0 (blks [.ob br 94 (rfC R), Ent.grp (pgE 99 R), Ent.grp (rowsE 27 R)]) w' [.ob br 94 (rfC R2), Ent.grp (pgE 99 R2), Ent.grp (rowsE 27 R2)]) := by
  have hO := St.init hA
  refine ret_of (m := 21) Try.func31 rfl Try.ntmps31 [(0, ptr (adr br)), (1, i64 at_)] rfl ⟨rfl, rfl, trivial⟩ fun a hF => ?_
  refine wp_seq ?_
  refine wp_region_lit ?_
  refine wl_v hF rfl rfl rfl (q_assign rfl (hF.eval rfl)) fun a hF => ?_
  refine wl_nil ?_
  refine k_n ?_
  refine wp_seq ?_
  refine wp_region_lit ?_
  refine wl_v hF rfl rfl rfl (q_move rfl (hF.eval rfl)) fun a hF => ?_
  refine wl_v hF rfl rfl rfl (q_move rfl (hF.eval rfl)) fun a hF => ?_
  refine wl_e hF rfl rfl rfl (c_call hF rfl rfl Try.call63 (find_rr _ _ _ (hO.rr 0 1 2 rfl rfl rfl) g _)) ?_
  rintro a _ w ⟨rfl, hS⟩ hF
  have hO := hO.call0 hS
  have hO : St _ _ _ [_, _, _] := hO
  refine wl_v hF rfl rfl rfl (q_assign rfl (hF.eval rfl)) fun a hF => ?_
  refine wl_nil ?_
  refine k_n ?_
  refine wp_seq ?_
  refine wp_seq ?_
  refine wp_region_lit ?_
  refine wl_v hF rfl rfl rfl (q_move rfl (hF.eval rfl)) fun a hF => ?_
  refine wl_v hF rfl rfl rfl (q_peq Try.underlying96 rfl (hF.eval rfl) (hF.eval rfl)) fun a hF => ?_
  refine wl_nil ?_
  refine k_n ?_
  refine wp_ifD hF rfl rfl (fun hc1 => ?_) (fun hc1 => ?_)
  · skip
    refine wp_seq ?_
    refine wp_region_lit ?_
    refine wl_v hF rfl rfl rfl (q_assign rfl (hF.eval rfl)) fun a hF => ?_
    refine wl_nil ?_
    refine k_n ?_
    refine wp_ret ?_
    refine k_r ?_
    refine r_1 hF rfl rfl ?_
    have hO : St _ _ _ [_, _, _] := hO
    exact ⟨_, _, hole_e1 hc1, rfl, hO⟩
  · skip
    obtain ⟨q, hq⟩ : ∃ q, findO R at_ = some q := Option.ne_none_iff_exists'.1 (fun e => hc1 (ptrO_none.2 e))
    obtain ⟨q1, q2, q3, q4⟩ := find_is hq
    rw [hq] at hF
    refine wp_skip ?_
    refine k_n ?_
    refine wp_seq ?_
    refine wp_seq ?_
    refine wp_region_lit ?_
    refine wl_v hF rfl rfl rfl (q_move rfl (hF.eval rfl)) fun a hF => ?_
    refine wl_v hF rfl rfl rfl (q_nilCheck rfl (hF.eval rfl)) fun a hF => ?_
    refine wl_v hF rfl rfl rfl (q_fieldAddr0 (d := 2) Try.underlying99 rfl (hF.eval rfl) rfl Try.sizeOf42 (by decide) rfl) fun a hF => ?_
    refine wl_v hF rfl rfl rfl (q_fieldAddr (d := 0) Try.underlying42 rfl (hF.eval rfl) rfl Try.sizeOf3 (by decide) rfl) fun a hF => ?_
    refine wl_v hF rfl rfl rfl (q_load Try.isAgg3 rfl (hF.eval rfl) (RdT.cells (hO.rdTG 1 rfl (pgE_at (R := R) q1)) q3 _ _ rfl)) fun a hF => ?_
    refine wl_v hF rfl rfl rfl (q_ne rfl (hF.eval rfl) (hF.eval rfl)) fun a hF => ?_
    refine wl_nil ?_
    refine k_n ?_
    refine wp_ifD hF rfl rfl (fun hc2 => ?_) (fun hc2 => ?_)
    · skip
      refine wp_seq ?_
      refine wp_region_lit ?_
      refine wl_v hF rfl rfl rfl (q_assign rfl (hF.eval rfl)) fun a hF => ?_
      refine wl_nil ?_
      refine k_n ?_
      refine wp_ret ?_
      refine k_r ?_
      refine r_1 hF rfl rfl ?_
      have hO : St _ _ _ [_, _, _] := hO
      exact ⟨_, _, hole_e2 hq hc2, rfl, hO⟩
    · skip
      refine wp_skip ?_
      refine k_n ?_
      refine wp_seq ?_
      refine wp_region_lit ?_
      refine wl_v hF rfl rfl rfl (q_move rfl (hF.eval rfl)) fun a hF => ?_
      refine wl_v hF rfl rfl rfl (q_nilCheck rfl (hF.eval rfl)) fun a hF => ?_
      refine wl_v hF rfl rfl rfl (q_fieldAddr0 (d := 2) Try.underlying99 rfl (hF.eval rfl) rfl Try.sizeOf42 (by decide) rfl) fun a hF => ?_
      refine wl_v hF rfl rfl rfl (q_fieldAddr (d := 0) Try.underlying42 rfl (hF.eval rfl) rfl Try.sizeOf3 (by decide) rfl) fun a hF => ?_
      refine wl_s hF rfl rfl (e_storeG (q := (setKd (R.ob q) 6)) (m := q.2) hO (i := 1) rfl (pgE_at (R := R) q1) fun hO hi => e_storeElT (m := q.2) (off := 2) hO hi Try.sizeOf3 rfl ((hF.eval rfl).trans (congrArg ptr (add_add' _ _ _))) rfl (hF.eval rfl) rfl q3 rfl (Nat.le_of_ble_eq_true rfl) rfl (all1 rfl)) ?_
      rintro a _ w ⟨-, hO⟩ hF
      have hO : St _ _ _ [_, _, _] := hO
      replace hO : St w0 (blks [.ob br 94 (rfC R), Ent.grp (pgE 99 R), Ent.grp (rowsE 27 R)]) w [.ob br 94 (rfC (R.setO q (setKd (R.ob q) 6))), Ent.grp (pgE 99 (R.setO q (setKd (R.ob q) 6))), Ent.grp (rowsE 27 (R.setO q (setKd (R.ob q) 6)))] := by rw [← pgE_setO (R := R) (q := q) q1, rows_same (R := R) (q := q) (x := (setKd (R.ob q) 6)) q1 q3 rfl rfl]; exact hO
      refine wl_nil ?_
      refine k_n ?_
      refine wp_seq ?_
      refine wp_region_lit ?_
      refine wl_v hF rfl rfl rfl (q_assign rfl (hF.eval rfl)) fun a hF => ?_
      refine wl_nil ?_
      refine k_n ?_
      refine wp_ret ?_
      refine r_1 hF rfl rfl ?_
      have hO : St _ _ _ [_, _, _] := hO
      exact ⟨_, _, hole_e3 hq hc2, rfl, hO⟩

end Go.Proofs.Ytglienidnffnjaa
namespace Go.Proofs.Ytglienidnffnjaa
open Go
set_option maxRecDepth 100000
set_option linter.unusedVariables false
set_option maxHeartbeats 2000000 in
theorem link_rr (w0 : World) (br : Nat) (R : RH) (hA : Owns w0 [.ob br 94 (rfC R), Ent.grp (pgE 99 R), Ent.grp (rowsE 27 R)]) (g : RG R) (at_ : Int) (x : Wd) : Ret Try.prog 32 #[ptr (adr br), i64 at_, .agg (wordE.cells x).toArray] w0 (fun v w' => ∃ hd r R2, linkR R at_ x hd = (r, R2) ∧ v = i64 r ∧ St w0 (blks [.ob br 94 (rfC R), Ent.grp (pgE 99 R), Ent.grp (rowsE 27 R)]) w' [.ob br 94 (rfC R2), Ent.grp (pgE 99 R2), Ent.grp (rowsE 27 R2)]) := by
  have hO := St.init hA
  refine ret_of (m := 64) Try.func32 rfl Try.ntmps32 [(0, ptr (adr br)), (1, i64 at_), (2, .agg (wordE.cells x).toArray)] rfl ⟨rfl, rfl, rfl, trivial⟩ fun a hF => ?_
  refine wp_seq ?_
  refine wp_region_lit ?_
  refine wl_e hF rfl rfl rfl (e_box hO rfl (hF.eval rfl) rfl) ?_
  rintro a _ w ⟨tk, rfl, hO⟩ hF
  refine wl_v hF rfl rfl rfl (q_assign rfl (hF.eval rfl)) fun a hF => ?_
  refine wl_nil ?_
  refine k_n ?_
  refine wp_seq ?_
  refine wp_region_lit ?_
  refine wl_v hF rfl rfl rfl (q_move rfl (hF.eval rfl)) fun a hF => ?_
  refine wl_v hF rfl rfl rfl (q_move rfl (hF.eval rfl)) fun a hF => ?_
  refine wl_e hF rfl rfl rfl (c_call hF rfl rfl Try.call63 (find_rr _ _ _ (hO.rr 1 2 3 rfl rfl rfl) g _)) ?_
  rintro a _ w ⟨rfl, hS⟩ hF
  have hO := hO.call0 hS
  have hO : St _ _ _ [_, _, _, _] := hO
  refine wl_v hF rfl rfl rfl (q_assign rfl (hF.eval rfl)) fun a hF => ?_
  refine wl_nil ?_
  refine k_n ?_
  refine wp_seq ?_
  refine wp_seq ?_
  refine wp_region_lit ?_
  refine wl_v hF rfl rfl rfl (q_move rfl (hF.eval rfl)) fun a hF => ?_
  refine wl_v hF rfl rfl rfl (q_peq Try.underlying96 rfl (hF.eval rfl) (hF.eval rfl)) fun a hF => ?_
  refine wl_v hF rfl rfl rfl (q_move rfl (hF.eval rfl)) fun a hF => ?_
  refine wl_g hF rfl rfl rfl rfl rfl rfl (fun hg => q_move rfl (hF.eval rfl)) fun a hF => ?_
  refine wl_g hF rfl rfl rfl rfl rfl rfl (fun hg => q_loadAgg Try.isAgg27 Try.sizeOf27 rfl (hF.eval rfl) (hO.cells 0 rfl) rfl) fun a hF => ?_
  refine wl_gk hO hF rfl rfl rfl rfl rfl rfl (fun hg => c_callG hF rfl rfl (by first | with_reducible rfl | (simp only [gv_of hg]; done) | (simp only [gv_of hg]; rfl)) Try.call64 (stands_rr _ _ _ (hO.rr 1 2 3 rfl rfl rfl) g _)) fun a w hO hF => ?_
  refine wl_g hF rfl rfl rfl rfl rfl rfl (fun hg => q_not rfl ((hF.eval rfl).trans (gv_of hg)) rfl) fun a hF => ?_
  refine wl_v hF rfl rfl rfl (q_or rfl (hF.eval rfl) rfl (fun hg2 => ((hF.eval rfl).trans (gv_of hg2))) rfl) fun a hF => ?_
  refine wl_nil ?_
  refine k_n ?_
  refine wp_ifD hF rfl rfl (fun hc1 => ?_) (fun hc1 => ?_)
  · skip
    refine wp_seq ?_
    refine wp_region_lit ?_
    refine wl_v hF rfl rfl rfl (q_assign rfl (hF.eval rfl)) fun a hF => ?_
    refine wl_nil ?_
    refine k_n ?_
    refine wp_ret ?_
    refine k_r ?_
    refine r_1 hF rfl rfl ?_
    have hO := hO.drop1 0
    have hO : St _ _ _ [_, _, _] := hO
    exact ⟨⟨none, 0, 0⟩, _, _, link_e1 hc1, rfl, hO⟩
  · skip
    obtain ⟨q, hq, q1, q2, q3, hnb⟩ := link_e2 hc1
    rw [hq] at hF
    refine wp_skip ?_
    refine k_n ?_
    refine wp_seq ?_
    refine wp_seq ?_
    refine wp_region_lit ?_
    refine wl_v hF rfl rfl rfl (q_move rfl (hF.eval rfl)) fun a hF => ?_
    refine wl_v hF rfl rfl rfl (q_nilCheck rfl (hF.eval rfl)) fun a hF => ?_
    refine wl_v hF rfl rfl rfl (q_fieldAddr0 (d := 2) Try.underlying99 rfl (hF.eval rfl) rfl Try.sizeOf42 (by decide) rfl) fun a hF => ?_
    refine wl_v hF rfl rfl rfl (q_fieldAddr (d := 0) Try.underlying42 rfl (hF.eval rfl) rfl Try.sizeOf3 (by decide) rfl) fun a hF => ?_
    refine wl_v hF rfl rfl rfl (q_load Try.isAgg3 rfl (hF.eval rfl) (RdT.cells (hO.rdTG 2 rfl (pgE_at (R := R) q1)) q3 _ _ rfl)) fun a hF => ?_
    refine wl_v hF rfl rfl rfl (q_ne rfl (hF.eval rfl) (hF.eval rfl)) fun a hF => ?_
    refine wl_v hF rfl rfl rfl (q_move rfl (hF.eval rfl)) fun a hF => ?_
    refine wl_g hF rfl rfl rfl rfl rfl rfl (fun hg => q_move rfl (hF.eval rfl)) fun a hF => ?_
    refine wl_g hF rfl rfl rfl rfl rfl rfl (fun hg => q_nilCheck rfl ((hF.eval rfl).trans (gv_of hg))) fun a hF => ?_
    refine wl_g hF rfl rfl rfl rfl rfl rfl (fun hg => q_fieldAddr0 (d := 2) Try.underlying99 rfl ((hF.eval rfl).trans (gv_of hg)) rfl Try.sizeOf42 (by decide) rfl) fun a hF => ?_
    refine wl_g hF rfl rfl rfl rfl rfl rfl (fun hg => q_fieldAddr (d := 0) Try.underlying42 rfl ((hF.eval rfl).trans (gv_of hg)) rfl Try.sizeOf3 (by decide) rfl) fun a hF => ?_
    refine wl_g hF rfl rfl rfl rfl rfl rfl (fun hg => q_load Try.isAgg3 rfl ((hF.eval rfl).trans (gv_of hg)) (RdT.cells (hO.rdTG 2 rfl (pgE_at (R := R) q1)) q3 _ _ rfl)) fun a hF => ?_
    refine wl_g hF rfl rfl rfl rfl rfl rfl (fun hg => q_ne rfl ((hF.eval rfl).trans (gv_of hg)) (hF.eval rfl)) fun a hF => ?_
    refine wl_v hF rfl rfl rfl (q_and rfl (hF.eval rfl) rfl (fun hg2 => ((hF.eval rfl).trans (gv_of hg2))) rfl) fun a hF => ?_
    refine wl_nil ?_
    refine k_n ?_
    refine wp_ifD hF rfl rfl (fun hc2 => ?_) (fun hc2 => ?_)
    · skip
      refine wp_seq ?_
      refine wp_region_lit ?_
      refine wl_v hF rfl rfl rfl (q_assign rfl (hF.eval rfl)) fun a hF => ?_
      refine wl_nil ?_
      refine k_n ?_
      refine wp_ret ?_
      refine k_r ?_
      refine r_1 hF rfl rfl ?_
      have hO := hO.drop1 0
      have hO : St _ _ _ [_, _, _] := hO
      exact ⟨⟨none, 0, 0⟩, _, _, link_e3 hq hnb hc2, rfl, hO⟩
    · skip
      refine wp_skip ?_
      refine k_n ?_
      refine wp_seq ?_
      refine wp_region_lit ?_
      refine wl_v hF rfl rfl rfl (q_move rfl (hF.eval rfl)) fun a hF => ?_
      refine wl_v hF rfl rfl rfl (q_loadAgg Try.isAgg27 Try.sizeOf27 rfl (hF.eval rfl) (hO.cells 0 rfl) rfl) fun a hF => ?_
      refine wl_e hF rfl rfl rfl (c_buildSlice hF hO Try.underlying37 Try.sizeOf27 Try.zeroValue27 rfl rfl rfl rfl rfl rfl rfl) ?_
      rintro a _ w ⟨b1, rfl, hO⟩ hF
      refine wl_v hF rfl rfl rfl (c_build hF Try.underlying42 Try.zeroValue42 Try_places42 rfl rfl rfl rfl) fun a hF => ?_
      refine wl_v hF rfl rfl rfl (q_nilCheck rfl (hF.eval rfl)) fun a hF => ?_
      refine wl_v hF rfl rfl rfl (q_fieldAddr0 (d := 2) Try.underlying99 rfl (hF.eval rfl) rfl Try.sizeOf42 (by decide) rfl) fun a hF => ?_
      refine wl_s hF rfl rfl (e_storeG (q := (setOb (R.ob q) ⟨some (adr b1), 1, 1⟩ x)) (m := q.2) hO (i := 3) rfl (pgE_at (R := R) q1) fun hO hi => e_storeElT (m := q.2) (off := 2) hO hi Try.sizeOf42 rfl ((hF.eval rfl).trans (congrArg ptr (add_add' _ _ _))) rfl (hF.eval rfl) rfl q3 rfl (Nat.le_of_ble_eq_true rfl) rfl (all1 rfl)) ?_
      rintro a _ w ⟨-, hO⟩ hF
      have hO : St _ _ _ [_, _, _, _, _] := hO
      have hO : St _ _ _ [rowW 27 (setOb (R.ob q) ⟨some (adr b1), 1, 1⟩ x), _, _, _, _] := hO
      have hO := (St.swapG hO 3 rfl (rows_at (R := R) q1 q3)).tail
      have hO : St _ _ _ [_, _, _, _] := hO
      rw [pgE_setO (R := R) (q := q) q1, rows_set q1 q2] at hO
      replace hO : St _ _ _ [.ob tk 27 (wordE.cells x), .ob br 94 (rfC (R.setO q (setOb (R.ob q) ⟨some (adr b1), 1, 1⟩ x))), Ent.grp (pgE 99 (R.setO q (setOb (R.ob q) ⟨some (adr b1), 1, 1⟩ x))), Ent.grp (rowsE 27 (R.setO q (setOb (R.ob q) ⟨some (adr b1), 1, 1⟩ x)))] := hO
      have hx1 : ((R.setO q (setOb (R.ob q) ⟨some (adr b1), 1, 1⟩ x)).p q.1)[q.2]? = some (setOb (R.ob q) ⟨some (adr b1), 1, 1⟩ x) := setO_at q2
      have g1 : RG (R.setO q (setOb (R.ob q) ⟨some (adr b1), 1, 1⟩ x)) := g.setO q3 rfl rfl (fun _ => rfl)
      refine wl_nil ?_
      refine k_n ?_
      refine wp_seq ?_
      refine wp_region_lit ?_
      refine wl_v hF rfl rfl rfl (q_move rfl (hF.eval rfl)) fun a hF => ?_
      refine wl_v hF rfl rfl rfl (q_move rfl (hF.eval rfl)) fun a hF => ?_
      refine wl_v hF rfl rfl rfl (q_nilCheck rfl (hF.eval rfl)) fun a hF => ?_
      refine wl_v hF rfl rfl rfl (q_fieldAddr0 (d := 5) Try.underlying99 rfl (hF.eval rfl) rfl Try.sizeOf4 (by decide) rfl) fun a hF => ?_
      refine wl_v hF rfl rfl rfl (q_load Try.isAgg4 rfl (hF.eval rfl) (RdT.cells (hO.rdTG 2 rfl (pgE_at (R := (R.setO q (setOb (R.ob q) ⟨some (adr b1), 1, 1⟩ x))) q1)) hx1 _ _ rfl)) fun a hF => ?_
      refine wl_v hF rfl rfl rfl (q_move rfl (hF.eval rfl)) fun a hF => ?_
      refine wl_g hF rfl rfl rfl rfl rfl rfl (fun hg => q_move rfl (hF.eval rfl)) fun a hF => ?_
      refine wl_g hF rfl rfl rfl rfl rfl rfl (fun hg => q_move rfl (hF.eval rfl)) fun a hF => ?_
      refine wl_g hF rfl rfl rfl rfl rfl rfl (fun hg => q_nilCheck rfl ((hF.eval rfl).trans (gv_of hg))) fun a hF => ?_
      refine wl_g hF rfl rfl rfl rfl rfl rfl (fun hg => q_fieldAddr0 (d := 0) Try.underlying94 rfl ((hF.eval rfl).trans (gv_of hg)) rfl Try.sizeOf3 (by decide) rfl) fun a hF => ?_
      refine wl_g hF rfl rfl rfl rfl rfl rfl (fun hg => q_load Try.isAgg3 rfl ((hF.eval rfl).trans (gv_of hg)) (hO.cell 1 rfl rfl)) fun a hF => ?_
      refine wl_g hF rfl rfl rfl rfl rfl rfl (fun hg => q_ge rfl ((hF.eval rfl).trans (gv_of hg)) ((hF.eval rfl).trans (gv_of hg))) fun a hF => ?_
      refine wl_g hF rfl rfl rfl rfl rfl rfl (fun hg => q_move rfl ((hF.eval rfl).trans (gv_of hg))) fun a hF => ?_
      refine wl_g hF rfl rfl rfl rfl rfl rfl (fun hg => q_fieldAddr0 (d := 0) Try.underlying27 rfl (hF.eval rfl) rfl Try.sizeOf4 (by decide) rfl) fun a hF => ?_
      refine wl_g hF rfl rfl rfl rfl rfl rfl (fun hg => q_load Try.isAgg4 rfl ((hF.eval rfl).trans (gv_of hg)) (hO.cell 0 rfl rfl)) fun a hF => ?_
      refine wl_g hF rfl rfl rfl rfl rfl rfl (fun hg => q_and rfl ((hF.eval rfl).trans (gv_of hg)) rfl (fun hg2 => ((hF.eval rfl).trans (gv_of2 hg hg2))) (dec_b _)) fun a hF => ?_
      refine wl_g hF rfl rfl rfl rfl rfl rfl (fun hg => q_move rfl ((hF.eval rfl).trans (gv_of hg))) fun a hF => ?_
      refine wl_g hF rfl rfl rfl rfl rfl rfl (fun hg => q_move rfl (hF.eval rfl)) fun a hF => ?_
      refine wl_g hF rfl rfl rfl rfl rfl rfl (fun hg => q_fieldAddr0 (d := 1) Try.underlying27 rfl (hF.eval rfl) rfl Try.sizeOf3 (by decide) rfl) fun a hF => ?_
      refine wl_g hF rfl rfl rfl rfl rfl rfl (fun hg => q_load Try.isAgg3 rfl ((hF.eval rfl).trans (gv_of hg)) (hO.cell 0 rfl rfl)) fun a hF => ?_
      refine wl_gk hO hF rfl rfl rfl rfl rfl rfl (fun hg => c_callG hF rfl rfl (by first | with_reducible rfl | (simp only [gv_of hg]; done) | (simp only [gv_of hg]; rfl)) Try.call44 (young_rr _ _ _ (hO.rr 1 2 3 rfl rfl rfl) g1 _)) fun a w hO hF => ?_
      refine wl_g hF rfl rfl rfl rfl rfl rfl (fun hg => q_and rfl ((hF.eval rfl).trans (gv_of hg)) rfl (fun hg2 => ((hF.eval rfl).trans (gv_of2 hg hg2))) rfl) fun a hF => ?_
      refine wl_v hF rfl rfl rfl (q_or rfl (hF.eval rfl) (dec_b _) (fun hg2 => ((hF.eval rfl).trans (gv_of hg2))) rfl) fun a hF => ?_
      refine wl_v hF rfl rfl rfl (q_nilCheck rfl (hF.eval rfl)) fun a hF => ?_
      refine wl_v hF rfl rfl rfl (q_fieldAddr0 (d := 5) Try.underlying99 rfl (hF.eval rfl) rfl Try.sizeOf4 (by decide) rfl) fun a hF => ?_
      refine wl_s hF rfl rfl (e_storeG (q := (setKn (setOb (R.ob q) ⟨some (adr b1), 1, 1⟩ x) (decide ((setOb (R.ob q) ⟨some (adr b1), 1, 1⟩ x).knows = true ∨ ((R.Y ≤ at_ ∧ x.ptr = true) ∧ youngR (R.setO q (setOb (R.ob q) ⟨some (adr b1), 1, 1⟩ x)) x.n))))) (m := q.2) hO (i := 2) rfl (pgE_at (R := (R.setO q (setOb (R.ob q) ⟨some (adr b1), 1, 1⟩ x))) q1) fun hO hi => e_storeElT (m := q.2) (off := 5) hO hi Try.sizeOf4 rfl ((hF.eval rfl).trans (congrArg ptr (add_add' _ _ _))) rfl (hF.eval rfl) rfl hx1 rfl (Nat.le_of_ble_eq_true rfl) rfl (all1 rfl)) ?_
      rintro a _ w ⟨-, hO⟩ hF
      have hO : St _ _ _ [_, _, _, _] := hO
      rw [pgE_setO (R := (R.setO q (setOb (R.ob q) ⟨some (adr b1), 1, 1⟩ x))) (q := q) q1, ← rows_same (R := (R.setO q (setOb (R.ob q) ⟨some (adr b1), 1, 1⟩ x))) (q := q) (x := (setKn (setOb (R.ob q) ⟨some (adr b1), 1, 1⟩ x) (decide ((setOb (R.ob q) ⟨some (adr b1), 1, 1⟩ x).knows = true ∨ ((R.Y ≤ at_ ∧ x.ptr = true) ∧ youngR (R.setO q (setOb (R.ob q) ⟨some (adr b1), 1, 1⟩ x)) x.n))))) q1 hx1 rfl rfl] at hO
      replace hO : St _ _ _ [.ob tk 27 (wordE.cells x), .ob br 94 (rfC ((R.setO q (setOb (R.ob q) ⟨some (adr b1), 1, 1⟩ x)).setO q (setKn (setOb (R.ob q) ⟨some (adr b1), 1, 1⟩ x) (decide ((setOb (R.ob q) ⟨some (adr b1), 1, 1⟩ x).knows = true ∨ ((R.Y ≤ at_ ∧ x.ptr = true) ∧ youngR (R.setO q (setOb (R.ob q) ⟨some (adr b1), 1, 1⟩ x)) x.n)))))), Ent.grp (pgE 99 ((R.setO q (setOb (R.ob q) ⟨some (adr b1), 1, 1⟩ x)).setO q (setKn (setOb (R.ob q) ⟨some (adr b1), 1, 1⟩ x) (decide ((setOb (R.ob q) ⟨some (adr b1), 1, 1⟩ x).knows = true ∨ ((R.Y ≤ at_ ∧ x.ptr = true) ∧ youngR (R.setO q (setOb (R.ob q) ⟨some (adr b1), 1, 1⟩ x)) x.n)))))), Ent.grp (rowsE 27 ((R.setO q (setOb (R.ob q) ⟨some (adr b1), 1, 1⟩ x)).setO q (setKn (setOb (R.ob q) ⟨some (adr b1), 1, 1⟩ x) (decide ((setOb (R.ob q) ⟨some (adr b1), 1, 1⟩ x).knows = true ∨ ((R.Y ≤ at_ ∧ x.ptr = true) ∧ youngR (R.setO q (setOb (R.ob q) ⟨some (adr b1), 1, 1⟩ x)) x.n))))))] := hO
      rw [← rem1_is q2 at_ x] at hO
      refine wl_nil ?_
      refine k_n ?_
      refine wp_seq ?_
      refine wp_region_lit ?_
      refine wl_v hF rfl rfl rfl (q_assign rfl (hF.eval rfl)) fun a hF => ?_
      refine wl_nil ?_
      refine k_n ?_
      refine wp_ret ?_
      refine r_1 hF rfl rfl ?_
      have hO := hO.drop1 0
      have hO : St _ _ _ [_, _, _] := hO
      exact ⟨_, _, _, link_e4 hq hnb hc2, rfl, hO⟩

end Go.Proofs.Ytglienidnffnjaa
