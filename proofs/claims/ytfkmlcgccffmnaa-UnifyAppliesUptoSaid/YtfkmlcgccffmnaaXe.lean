/- PU18, PLAIN: how big a type is that another is put into; texts of equal types. -/
import Derived.Test.YtfkmlcgccffmnaaXd
namespace Go.Proofs.Ytfkmlcgccffmnaa
open Go
theorem subst_wt {f : Nam → Ty} {m : Nat} (hm : 1 ≤ m) (hf : ∀ n, wtF (f n) ≤ (1 + n.length) * m) : ∀ r : RT, wtF (substF f r.ty) ≤ wtR r * m
  | .var n => hf n
  | .con n => by
    show 1 + n.length + 0 ≤ (1 + n.length + 0) * m
    exact Nat.le_mul_of_pos_right _ hm
  | .app a b => by
    have ha := subst_wt hm hf a
    have hb := subst_wt hm hf b
    rw [wtR_app, Nat.add_mul, Nat.add_mul]
    show 1 + 0 + (wtF (substF f a.ty) + (wtF (substF f b.ty) + 0)) ≤ _
    omega
theorem sigF_wt {l : List (Nam × Ty)} {m : Nat} (hm : 1 ≤ m) (hl : ∀ p ∈ l, wtF p.2 ≤ m) (n : Nam) : wtF (sigF l n) ≤ (1 + n.length) * m := by
  unfold sigF
  cases h : l.find? fun s => decide (s.1 = n) with
  | none =>
    show 1 + n.length + 0 ≤ _
    exact Nat.le_mul_of_pos_right _ hm
  | some s =>
    have := hl s (List.mem_of_find?_eq_some h)
    show wtF s.2 ≤ _
    exact Nat.le_trans this (Nat.le_mul_of_pos_left _ (by omega))
theorem apply_wt {t : Ty} {l : List (Nam × Ty)} {m : Nat} (hm : 1 ≤ m) (hl : ∀ p ∈ l, wtF p.2 ≤ m) : wtF (applyF t l) ≤ wtF t * m + 1 := by
  unfold applyF
  split
  · rename_i h
    obtain ⟨r, _, rfl⟩ := right_ex t h.1
    exact Nat.le_succ_of_le (subst_wt hm (sigF_wt hm hl) r)
  · show 1 + 0 + 0 ≤ _
    omega
def TextIs (t : Ty) (s : Nam) : Prop := (rightF t = false ∧ s = []) ∨ ∃ r : RT, rightF t = true ∧ t = r.ty ∧ s = (toldN (r.nodes + 1) r).1
theorem TextIs.uniq {t u : Ty} {s s' : Nam} (h : TextIs t s) (h' : TextIs u s') (e : t = u) : s = s' := by
  subst e
  rcases h with ⟨h1, rfl⟩ | ⟨r, h1, rfl, rfl⟩
  · rcases h' with ⟨_, rfl⟩ | ⟨r, h2, _⟩
    · rfl
    · rw [h1] at h2; cases h2
  · rcases h' with ⟨h2, _⟩ | ⟨r', _, h3, rfl⟩
    · rw [h1] at h2; cases h2
    · obtain rfl := RT.ty_inj h3; rfl
end Go.Proofs.Ytfkmlcgccffmnaa
namespace Go.Proofs.Ytfkmlcgccffmnaa
open Go
set_option maxRecDepth 100000
set_option linter.unusedVariables false
set_option maxHeartbeats 4000000 in
theorem applies_r (w0 : World) (t : TN) (vs : Value) (ss : List SbN) (hR : RdN w0 [] t) (hSs : RdT w0 [] vs sbE ss) (hSn : ∀ s ∈ ss, RdN w0 [] s.t) (hw : wtF t.er ≤ 1048576) (hws : ∀ s ∈ ss, wtF s.t.er ≤ 1048576 ∧ s.name.length ≤ 1048576) (hlen : ss.length ≤ 1048576) : Ret Try.prog 5 #[.agg (tnE.cells t).toArray, vs] w0 (fun v w' => v = .bool true ∧ St w0 [] w' []) := by
  have hO := St.init0 w0
  have hnt := nodes_wt t.er
  have hns : ∀ s ∈ ss, nodesF s.t.er ≤ 1048576 := fun s hs => Nat.le_trans (nodes_wt s.t.er) (hws s hs).1
  refine ret_of (m := 56) Try.func5 rfl Try.ntmps5 [(0, .agg (tnE.cells t).toArray), (1, vs)] rfl ⟨rfl, rfl, trivial⟩ fun a hF => ?_
  refine wp_seq ?_
  refine wp_region_lit ?_
  refine wl_e hF rfl rfl rfl (e_box hO rfl (hF.eval rfl) rfl) ?_
  rintro a _ w ⟨tk, rfl, hO⟩ hF
  refine wl_v hF rfl rfl rfl (q_assign rfl (hF.eval rfl)) fun a hF => ?_
  refine wl_nil ?_
  refine k_n ?_
  refine wp_seq ?_
  refine wp_region_lit ?_
  refine wl_v hF rfl rfl rfl (q_loadAgg Try.isAgg33 Try.sizeOf33 rfl (hF.eval rfl) (hO.cells 0 rfl) rfl) fun a hF => ?_
  refine wl_e hF rfl rfl rfl (c_call hF rfl rfl Try.call13 (copy_r t _ (hR.at0 hO) (by omega))) ?_
  rintro a _ w ⟨z1, rfl, hz1, hS⟩ hF
  have hO := hO.call0 hS
  have hO : St _ _ _ [_, _] := hO
  refine wl_e hF rfl rfl rfl (e_alloc hO Try.zeroValue33 rfl rfl) ?_
  rintro a _ w ⟨bx, rfl, hO⟩ hF
  refine wl_s hF rfl rfl (e_storeAll hO (i := 0) rfl Try.sizeOf33 rfl (hF.eval rfl) (hF.eval rfl) rfl rfl) ?_
  rintro a _ w ⟨-, hO⟩ hF
  have hO : St _ _ _ [_, _, _] := hO
  refine wl_nil ?_
  refine k_n ?_
  refine wp_seq ?_
  refine wp_region_lit ?_
  refine wl_v hF rfl rfl rfl (q_move rfl (hF.eval rfl)) fun a hF => ?_
  refine wl_e hF rfl rfl rfl (c_call hF rfl rfl Try.call14 (ownL_r _ _ ss (hSs.at0 hO) (fun s hs => (hSn s hs).at0 hO) (fun s hs => Nat.le_trans (hns s hs) (by decide)) (by omega))) ?_
  rintro a _ w ⟨h2, zs, rfl, hzs, hS⟩ hF
  have hO := hO.call0 hS
  have hO : St _ _ _ [_, _, _, _, _] := hO
  have hzl : zs.length = ss.length := by have := congrArg List.length hzs; rwa [List.length_map, List.length_map] at this
  have hzf : ∀ s ∈ zs, Fit s.t.er ∧ s.name.length ≤ 4611686018427387904 := fun s hs => by
    have h9 : SbN.er s ∈ ss.map SbN.er := by rw [← hzs]; exact List.mem_map_of_mem hs
    obtain ⟨s2, h10, h11⟩ := List.mem_map.1 h9
    have e1 : s2.name = s.name := congrArg Prod.fst h11
    have e2 : s2.t.er = s.t.er := congrArg Prod.snd h11
    rw [← e1, ← e2]; exact ⟨Nat.le_trans (hws s2 h10).1 (by decide), Nat.le_trans (hws s2 h10).2 (by decide)⟩
  refine wl_v hF rfl rfl rfl (q_assign rfl (hF.eval rfl)) fun a hF => ?_
  refine wl_nil ?_
  refine k_n ?_
  refine wp_seq ?_
  refine wp_region_lit ?_
  refine wl_v hF rfl rfl rfl (q_loadAgg Try.isAgg33 Try.sizeOf33 rfl (hF.eval rfl) (hO.cells 2 rfl) rfl) fun a hF => ?_
  refine wl_v hF rfl rfl rfl (q_move rfl (hF.eval rfl)) fun a hF => ?_
  refine wl_e hF rfl rfl rfl (c_call hF rfl rfl Try.call15 (apply_r _ z1 _ zs (hO.rdN 3 rfl) (hO.rdT 0 rfl) (hO.rdSb 1 rfl) (by rw [hz1]; exact Nat.le_trans hw (by decide)) hzf (by omega))) ?_
  rintro a _ w ⟨z3, rfl, hz3, hS⟩ hF
  have hO := hO.call0 hS
  have hO : St _ _ _ [_, _, _, _, _, _] := hO
  have hz3 : z3.er = applyF t.er (ss.map SbN.er) := by rw [hz3, hz1, hzs]
  refine wl_e hF rfl rfl rfl (e_alloc hO Try.zeroValue33 rfl rfl) ?_
  rintro a _ w ⟨ba, rfl, hO⟩ hF
  refine wl_s hF rfl rfl (e_storeAll hO (i := 0) rfl Try.sizeOf33 rfl (hF.eval rfl) (hF.eval rfl) rfl rfl) ?_
  rintro a _ w ⟨-, hO⟩ hF
  have hO : St _ _ _ [_, _, _, _, _, _, _] := hO
  refine wl_nil ?_
  refine k_n ?_
  refine wp_seq ?_
  refine wp_region_lit ?_
  refine wl_v hF rfl rfl rfl (q_loadAgg Try.isAgg33 Try.sizeOf33 rfl (hF.eval rfl) (hO.cells 6 rfl) rfl) fun a hF => ?_
  refine wl_v hF rfl rfl rfl (q_move rfl (hF.eval rfl)) fun a hF => ?_
  refine wl_e hF rfl rfl rfl (c_call hF rfl rfl Try.call16 (ApplyR_r _ t _ ss (hR.at0 hO) (hSs.at0 hO) (fun s hs => (hSn s hs).at0 hO) (by omega) (fun s hs => Nat.le_trans (hns s hs) (by decide)))) ?_
  rintro a _ w ⟨z4, rfl, hz4, hS⟩ hF
  have hO := hO.call0 hS
  have hO : St _ _ _ [_, _, _, _, _, _, _, _] := hO
  have h34 : z3.er = z4.er := hz3.trans hz4.symm
  have hwa : wtF (applyF t.er (ss.map SbN.er)) ≤ wtF t.er * 1048576 + 1 := apply_wt (by decide) fun p hp => by obtain ⟨s, hs, rfl⟩ := List.mem_map.1 hp; exact (hws s hs).1
  have hwb : wtF (applyF t.er (ss.map SbN.er)) ≤ 2199023255552 := Nat.le_trans hwa (Nat.le_trans (Nat.succ_le_succ (Nat.mul_le_mul_right _ hw)) (by decide))
  have hc9 : checkF z1.er = checkF t.er := by rw [hz1]
  have hn1 : nodesF z1.er ≤ 2305843009213693952 := by rw [hz1]; omega
  refine wl_e hF rfl rfl rfl (e_alloc hO Try.zeroValue33 rfl rfl) ?_
  rintro a _ w ⟨bb, rfl, hO⟩ hF
  refine wl_s hF rfl rfl (e_storeAll hO (i := 0) rfl Try.sizeOf33 rfl (hF.eval rfl) (hF.eval rfl) rfl rfl) ?_
  rintro a _ w ⟨-, hO⟩ hF
  have hO : St _ _ _ [_, _, _, _, _, _, _, _, _] := hO
  refine wl_nil ?_
  refine k_n ?_
  refine wp_seq ?_
  have hO := hO.pull 2 rfl
  have hO := hO.pull 8 rfl
  have hO := hO.pull 7 rfl
  have hO := hO.drew
  refine wp_region_E [1, 2, 1, 2, 0, 0, 1, 1, 2, 0, 0, 1, 2, 1, 2, 0, 0, 0, 1, 2, 1, 2, 0, 0, 0, 1, 1, 2, 0, 0, 0, 0, 2, 0, 0, 3, 0, 0] [0, 1, 0, 7, 15, 31, 63, 63, 255, 511, 1023, 2047, 4095, 2047, 16383, 32767, 65535, 131071, 262143, 524287, 262143, 2097151, 4194303, 8388607, 16777215, 33554431, 33554431, 134217727, 268435455, 536870911, 1073741823, 1073741823, 4294967295, 8589934591, 17179869183, 34359738367, 68719476735, 137438953471] (fun w => ∃ L', St w0 [] w (.ob bx 33 (tnE.cells z1) :: .ob tk 33 (tnE.cells t) :: .ob ba 33 (tnE.cells z3) :: .ob bb 33 (tnE.cells z4) :: L')) Try_mixed (by kernel_rfl) ⟨_, hO⟩ ?_
  refine wd_r hF rfl rfl rfl (fun w ⟨_, hO⟩ => q_loadAgg Try.isAgg33 Try.sizeOf33 rfl (hF.eval rfl) (hO.cells 0 rfl) rfl) fun a hF => ?_
  refine wd_e hF rfl rfl rfl (c_call hF rfl rfl Try.call17 (check_r _ z1 (hO.rdN 8 rfl) hn1)) (fun _ _ ⟨_, hS⟩ => ⟨_, hO.call0 hS⟩) ?_
  rintro a _ w ⟨rfl, hS⟩ hF
  have hO := hO.call0 hS
  have hO : St _ _ _ [_, _, _, _, _, _, _, _, _] := hO
  refine wd_r hF rfl rfl rfl (fun w ⟨_, hO⟩ => q_loadAgg Try.isAgg33 Try.sizeOf33 rfl (hF.eval rfl) (hO.cells 1 rfl) rfl) fun a hF => ?_
  refine wd_e hF rfl rfl rfl (c_call hF rfl rfl Try.call18 (checkR_r _ t (hR.at0 hO) (by omega))) (fun _ _ ⟨_, hS⟩ => ⟨_, hO.call0 hS⟩) ?_
  rintro a _ w ⟨rfl, hS⟩ hF
  have hO := hO.call0 hS
  have hO : St _ _ _ [_, _, _, _, _, _, _, _, _] := hO
  refine wd_p hF rfl rfl rfl (fun w => q_eq rfl (hF.eval rfl) (hF.eval rfl)) fun a hF => ?_
  refine wd_p hF rfl rfl rfl (fun w => q_move rfl (hF.eval rfl)) fun a hF => ?_
  refine wd_un hF rfl rfl rfl rfl (isB_T hc9) ?_
  refine wd_r hF rfl rfl rfl (fun w ⟨_, hO⟩ => q_loadAgg Try.isAgg33 Try.sizeOf33 rfl (hF.eval rfl) (hO.cells 2 rfl) rfl) fun a hF => ?_
  refine wd_un hF rfl rfl rfl rfl (isB_T hc9) ?_
  refine wd_r hF rfl rfl rfl (fun w ⟨_, hO⟩ => q_loadAgg Try.isAgg33 Try.sizeOf33 rfl (hF.eval rfl) (hO.cells 3 rfl) rfl) fun a hF => ?_
  refine wd_un hF rfl rfl rfl rfl (isB_T hc9) ?_
  refine wd_e hF rfl rfl rfl (c_call hF rfl rfl Try.call19 (same_r z3 z4 _ (hO.rdN 5 rfl) (hO.rdN 4 rfl))) (fun _ _ ⟨_, hS⟩ => ⟨_, hO.call0 hS⟩) ?_
  rintro a _ w ⟨rfl, hS⟩ hF
  have hO := hO.call0 hS
  have hO : St _ _ _ [_, _, _, _, _, _, _, _, _] := hO
  have hs9 : sameF z3.er z4.er = true := same_iff.2 h34
  refine wd_p hF rfl rfl rfl (fun w => q_and rfl (hF.eval rfl) rfl (fun hg2 => (hF.eval rfl)) (dec_b _)) fun a hF => ?_
  refine wd_p hF rfl rfl rfl (fun w => q_move rfl (hF.eval rfl)) fun a hF => ?_
  refine wd_un hF rfl rfl rfl rfl (isB_T ⟨hc9, hs9⟩) ?_
  refine wd_r hF rfl rfl rfl (fun w ⟨_, hO⟩ => q_loadAgg Try.isAgg33 Try.sizeOf33 rfl (hF.eval rfl) (hO.cells 0 rfl) rfl) fun a hF => ?_
  refine wd_un hF rfl rfl rfl rfl (isB_T ⟨hc9, hs9⟩) ?_
  refine wd_e hF rfl rfl rfl (c_call hF rfl rfl Try.call20 (text_r _ z1 (hO.rdN 8 rfl) (by rw [hz1]; omega))) (fun _ _ ⟨_, _, _, hS⟩ => ⟨_, hO.call0 hS⟩) ?_
  rintro a _ w ⟨s1, rfl, hx1, hS⟩ hF
  have hO := hO.call0 hS
  have hO : St _ _ _ [_, _, _, _, _, _, _, _, _] := hO
  refine wd_un hF rfl rfl rfl rfl (isB_T ⟨hc9, hs9⟩) ?_
  refine wd_r hF rfl rfl rfl (fun w ⟨_, hO⟩ => q_loadAgg Try.isAgg33 Try.sizeOf33 rfl (hF.eval rfl) (hO.cells 1 rfl) rfl) fun a hF => ?_
  refine wd_un hF rfl rfl rfl rfl (isB_T ⟨hc9, hs9⟩) ?_
  refine wd_e hF rfl rfl rfl (c_call hF rfl rfl Try.call21 (textR_r _ t (hR.at0 hO) (by omega))) (fun _ _ ⟨_, _, _, hS⟩ => ⟨_, hO.call0 hS⟩) ?_
  rintro a _ w ⟨s2, rfl, hx2, hS⟩ hF
  have hO := hO.call0 hS
  have hO : St _ _ _ [_, _, _, _, _, _, _, _, _] := hO
  have ht1 : s1 = s2 := TextIs.uniq hx1 hx2 hz1
  refine wd_un hF rfl rfl rfl rfl (isB_T ⟨hc9, hs9⟩) ?_
  refine wd_p hF rfl rfl rfl (fun w => q_seq rfl (hF.eval rfl) (hF.eval rfl)) fun a hF => ?_
  refine wd_p hF rfl rfl rfl (fun w => q_and rfl (hF.eval rfl) rfl (fun hg2 => (hF.eval rfl)) rfl) fun a hF => ?_
  refine wd_p hF rfl rfl rfl (fun w => q_move rfl (hF.eval rfl)) fun a hF => ?_
  refine wd_un hF rfl rfl rfl rfl (isB_T ⟨⟨hc9, hs9⟩, ht1⟩) ?_
  refine wd_r hF rfl rfl rfl (fun w ⟨_, hO⟩ => q_loadAgg Try.isAgg33 Try.sizeOf33 rfl (hF.eval rfl) (hO.cells 2 rfl) rfl) fun a hF => ?_
  refine wd_un hF rfl rfl rfl rfl (isB_T ⟨⟨hc9, hs9⟩, ht1⟩) ?_
  refine wd_e hF rfl rfl rfl (c_call hF rfl rfl Try.call20 (text_r _ z3 (hO.rdN 5 rfl) (by rw [hz3]; exact hwb))) (fun _ _ ⟨_, _, _, hS⟩ => ⟨_, hO.call0 hS⟩) ?_
  rintro a _ w ⟨s3, rfl, hx3, hS⟩ hF
  have hO := hO.call0 hS
  have hO : St _ _ _ [_, _, _, _, _, _, _, _, _] := hO
  refine wd_un hF rfl rfl rfl rfl (isB_T ⟨⟨hc9, hs9⟩, ht1⟩) ?_
  refine wd_r hF rfl rfl rfl (fun w ⟨_, hO⟩ => q_loadAgg Try.isAgg33 Try.sizeOf33 rfl (hF.eval rfl) (hO.cells 3 rfl) rfl) fun a hF => ?_
  refine wd_un hF rfl rfl rfl rfl (isB_T ⟨⟨hc9, hs9⟩, ht1⟩) ?_
  refine wd_e hF rfl rfl rfl (c_call hF rfl rfl Try.call21 (textR_r _ z4 (hO.rdN 4 rfl) (by rw [hz4]; exact hwb))) (fun _ _ ⟨_, _, _, hS⟩ => ⟨_, hO.call0 hS⟩) ?_
  rintro a _ w ⟨s4, rfl, hx4, hS⟩ hF
  have hO := hO.call0 hS
  have hO : St _ _ _ [_, _, _, _, _, _, _, _, _] := hO
  have ht2 : s3 = s4 := TextIs.uniq hx3 hx4 h34
  refine wd_un hF rfl rfl rfl rfl (isB_T ⟨⟨hc9, hs9⟩, ht1⟩) ?_
  refine wd_p hF rfl rfl rfl (fun w => q_seq rfl (hF.eval rfl) (hF.eval rfl)) fun a hF => ?_
  refine wd_p hF rfl rfl rfl (fun w => q_and rfl (hF.eval rfl) rfl (fun hg2 => (hF.eval rfl)) rfl) fun a hF => ?_
  refine wd_p hF rfl rfl rfl (fun w => q_move rfl (hF.eval rfl)) fun a hF => ?_
  refine wd_un hF rfl rfl rfl rfl (isB_T ⟨⟨⟨hc9, hs9⟩, ht1⟩, ht2⟩) ?_
  refine wd_r hF rfl rfl rfl (fun w ⟨_, hO⟩ => q_loadAgg Try.isAgg33 Try.sizeOf33 rfl (hF.eval rfl) (hO.cells 0 rfl) rfl) fun a hF => ?_
  refine wd_un hF rfl rfl rfl rfl (isB_T ⟨⟨⟨hc9, hs9⟩, ht1⟩, ht2⟩) ?_
  refine wd_r hF rfl rfl rfl (fun w ⟨_, hO⟩ => q_loadAgg Try.isAgg33 Try.sizeOf33 rfl (hF.eval rfl) (hO.cells 1 rfl) rfl) fun a hF => ?_
  refine wd_un hF rfl rfl rfl rfl (isB_T ⟨⟨⟨hc9, hs9⟩, ht1⟩, ht2⟩) ?_
  refine wd_e hF rfl rfl rfl (c_call hF rfl rfl Try.call19 (same_r z1 t _ (hO.rdN 8 rfl) (hR.at0 hO))) (fun _ _ ⟨_, hS⟩ => ⟨_, hO.call0 hS⟩) ?_
  rintro a _ w ⟨rfl, hS⟩ hF
  have hO := hO.call0 hS
  have hO : St _ _ _ [_, _, _, _, _, _, _, _, _] := hO
  have hs8 : sameF z1.er t.er = true := same_iff.2 hz1
  refine wd_p hF rfl rfl rfl (fun w => q_and rfl (hF.eval rfl) rfl (fun hg2 => (hF.eval rfl)) (dec_b _)) fun a hF => ?_
  refine wd_p hF rfl rfl rfl (fun w => q_move rfl (hF.eval rfl)) fun a hF => ?_
  refine wd_un hF rfl rfl rfl rfl (isB_T ⟨⟨⟨⟨hc9, hs9⟩, ht1⟩, ht2⟩, hs8⟩) ?_
  refine wd_p hF rfl rfl rfl (fun w => q_move rfl (hF.eval rfl)) fun a hF => ?_
  refine wd_un hF rfl rfl rfl rfl (isB_T ⟨⟨⟨⟨hc9, hs9⟩, ht1⟩, ht2⟩, hs8⟩) ?_
  refine wd_p hF rfl rfl rfl (fun w => q_move rfl (hF.eval rfl)) fun a hF => ?_
  refine wd_un hF rfl rfl rfl rfl (isB_T ⟨⟨⟨⟨hc9, hs9⟩, ht1⟩, ht2⟩, hs8⟩) ?_
  refine wd_e hF rfl rfl rfl (c_call hF rfl rfl Try.call11 (sameSubs_r _ _ _ zs ss (hO.rdT 6 rfl) (hSs.at0 hO) (hO.rdSb 7 rfl) (fun s hs => (hSn s hs).at0 hO))) (fun _ _ ⟨_, hS⟩ => ⟨_, hO.call0 hS⟩) ?_
  rintro a _ w ⟨rfl, hS⟩ hF
  have hO := hO.call0 hS
  have hO : St _ _ _ [_, _, _, _, _, _, _, _, _] := hO
  have hs7 : decide (zs.map SbN.er = ss.map SbN.er) = true := decide_eq_true hzs
  refine wd_p hF rfl rfl rfl (fun w => q_and rfl (hF.eval rfl) rfl (fun hg2 => (hF.eval rfl)) (dec_b _)) fun a hF => ?_
  refine wd_p hF rfl rfl rfl (fun w => q_move rfl (hF.eval rfl)) fun a hF => ?_
  refine wd_un hF rfl rfl rfl rfl (isB_T ⟨⟨⟨⟨⟨hc9, hs9⟩, ht1⟩, ht2⟩, hs8⟩, hs7⟩) ?_
  refine wd_f hF rfl rfl rfl (c_call hF rfl rfl Try.call12 (awake_r _)) ?_
  rintro a _ w ⟨rfl, hS⟩ hF
  have hO := hO.call0 hS
  have hO : St _ _ _ [_, _, _, _, _, _, _, _, _] := hO
  refine wd_p hF rfl rfl rfl (fun w => q_and rfl (hF.eval rfl) rfl (fun hg2 => (hF.eval rfl)) (dec_b _)) fun a hF => ?_
  refine wd_p hF rfl rfl rfl (fun w => q_assign rfl (hF.eval rfl)) fun a hF => ?_
  refine wd_nil ?_
  refine k_n ?_
  refine wp_ret ?_
  refine r_1 hF rfl rfl ?_
  have hO := hO.drop1 0
  have hO := hO.drop1 0
  have hO := hO.drop1 0
  have hO := hO.drop1 0
  have hO := hO.drop1 0
  have hO := hO.drop1 0
  have hO := hO.drop1 0
  have hO := hO.drop1 0
  have hO := hO.drop1 0
  have hO : St _ _ _ [] := hO
  refine ⟨congrArg Value.bool (decide_eq_true ?_), hO⟩
  refine ⟨⟨⟨⟨⟨⟨hc9, hs9⟩, ht1⟩, ht2⟩, hs8⟩, hs7⟩, ?_⟩
  rfl

end Go.Proofs.Ytfkmlcgccffmnaa
