import Derived.Test.YtglienidnffnjaaJb
namespace Go.Proofs.Ytglienidnffnjaa
open Go
set_option maxRecDepth 100000
set_option linter.unusedVariables false

def qrow (q : Qo) : Ent := slT q.h.v 27 wordE q.fs
theorem isB_eq {b : Bool} (h : isB (.bool b) true = true) : b = true := by cases b with | true => rfl | false => exact absurd h (by decide)
def krow (q : Ko) : Ent := slT q.h.v 27 wordE q.fs
theorem qrow_at {als : List Qo} {k : Nat} {q : Qo} (h : als[k]? = some q) : (als.map qrow)[k]? = some (slT q.h.v 27 wordE q.fs) := by rw [List.getElem?_map, h]; rfl
theorem krow_at {als : List Ko} {k : Nat} {q : Ko} (h : als[k]? = some q) : (als.map krow)[k]? = some (slT q.h.v 27 wordE q.fs) := by rw [List.getElem?_map, h]; rfl
set_option maxHeartbeats 2000000 in
theorem meet_r (w0 : World) (bh : Nat) (vw vh vr : Value) (h : Hp) (bw bm mc k cnt : Nat) (young : Bool) (s : Wk) (vt : Value) (f : Lit → Option Value) (als : List Qo) (hA : Owns w0 [.ob bw 117 [ptr (adr bh), .bool young, .map (some bm), vt, i64 (s).words], Ent.mapE Try.prog 3 bm mc f, quT vt 42 qoE ((als).drop k), Ent.grp ((als).map qrow)]) (hH : HR w0 (blks [.ob bw 117 [ptr (adr bh), .bool young, .map (some bm), vt, i64 (s).words], Ent.mapE Try.prog 3 bm mc f, quT vt 42 qoE ((als).drop k), Ent.grp ((als).map qrow)]) bh vw vh vr h) (hw : Wf h) (hI : WkI s cnt) (hmc : mc ≤ cnt) (hcb : cnt ≤ 100000000000) (hf : NumF f (metG s.met)) (hk : k ≤ als.length) (hob : (als.drop k).map Qo.ob = s.todo) (x : Wd) : Ret Try.prog 80 #[ptr (adr bw), .agg (wordE.cells x).toArray] w0 (fun v w' => ∃ vt2 mc2 f2 als2, v = .tuple #[] ∧ NumF f2 (metG (meetF h young s x).met) ∧ mc2 ≤ cnt + 1 ∧ k ≤ als2.length ∧ (als2.drop k).map Qo.ob = (meetF h young s x).todo ∧ (∃ r, als2 = als ++ r) ∧ St w0 (blks [.ob bw 117 [ptr (adr bh), .bool young, .map (some bm), vt, i64 (s).words], Ent.mapE Try.prog 3 bm mc f, quT vt 42 qoE ((als).drop k), Ent.grp ((als).map qrow)]) w' [.ob bw 117 [ptr (adr bh), .bool young, .map (some bm), vt2, i64 ((meetF h young s x)).words], Ent.mapE Try.prog 3 bm mc2 f2, quT vt2 42 qoE ((als2).drop k), Ent.grp ((als2).map qrow)]) := by
  have hO := St.init hA
  obtain ⟨i1, i2, i3, i4⟩ := hI
  have htl : (als.drop k).length ≤ cnt := by have := congrArg List.length hob; rw [List.length_map] at this; omega
  refine ret_of (m := 48) Try.func80 rfl Try.ntmps80 [(0, ptr (adr bw)), (1, .agg (wordE.cells x).toArray)] rfl ⟨rfl, rfl, trivial⟩ fun a hF => ?_
  refine wp_seq ?_
  refine wp_region_lit ?_
  refine wl_e hF rfl rfl rfl (e_box hO rfl (hF.eval rfl) rfl) ?_
  rintro a _ w ⟨xb, rfl, hO⟩ hF
  refine wl_nil ?_
  refine k_n ?_
  refine wp_seq ?_
  refine wp_region_lit ?_
  refine wl_v hF rfl rfl rfl (q_move rfl (hF.eval rfl)) fun a hF => ?_
  refine wl_v hF rfl rfl rfl (q_loadAgg Try.isAgg27 Try.sizeOf27 rfl (hF.eval rfl) (hO.cells 0 rfl) rfl) fun a hF => ?_
  refine wl_e hF rfl rfl rfl (c_call hF rfl rfl Try.call95 (find_r _ _ _ _ _ _ (hH.at0 hO) hw _ _ _ (hO.rdOb 1 rfl) rfl rfl x)) ?_
  rintro a _ w ⟨q, rfl, hq, hS⟩ hF
  have hO := hO.call0 hS
  have hO : St _ _ _ [_, _, _, _, _, _] := hO
  have hfl : q.fs.length ≤ 3145728 := by have := find_len (young := young) (x := x) hw; rw [← hq] at this; exact this
  have hsz : 0 ≤ obSize q.ob ∧ obSize q.ob ≤ 3145730 := by unfold obSize; have : q.ob.fields.length = q.fs.length := rfl; omega
  refine wl_v hF rfl rfl rfl (q_move rfl (hF.eval rfl)) fun a hF => ?_
  refine wl_v hF rfl rfl rfl (q_extract rfl (hF.eval rfl) rfl) fun a hF => ?_
  refine wl_v hF rfl rfl rfl (q_extract rfl (hF.eval rfl) rfl) fun a hF => ?_
  refine wl_v hF rfl rfl rfl (q_extract rfl (hF.eval rfl) rfl) fun a hF => ?_
  refine wl_e hF rfl rfl rfl (e_alloc hO Try.zeroValue42 rfl rfl) ?_
  rintro a _ w ⟨ob, rfl, hO⟩ hF
  refine wl_v hF rfl rfl rfl (q_assign rfl (hF.eval rfl)) fun a hF => ?_
  refine wl_s hF rfl rfl (e_storeAll hO (i := 0) rfl Try.sizeOf42 rfl (hF.eval rfl) (hF.eval rfl) rfl rfl) ?_
  rintro a _ w ⟨-, hO⟩ hF
  have hO : St _ _ _ [_, _, _, _, _, _, _] := hO
  refine wl_v hF rfl rfl rfl (q_assign rfl (hF.eval rfl)) fun a hF => ?_
  refine wl_nil ?_
  refine k_n ?_
  refine wp_seq ?_
  refine wp_region_lit ?_
  refine wl_v hF rfl rfl rfl (q_move rfl (hF.eval rfl)) fun a hF => ?_
  refine wl_v hF rfl rfl rfl (q_move rfl (hF.eval rfl)) fun a hF => ?_
  refine wl_g hF rfl rfl rfl rfl rfl rfl (fun hg => q_move rfl (hF.eval rfl)) fun a hF => ?_
  refine wl_g hF rfl rfl rfl rfl rfl rfl (fun hg => q_nilCheck rfl ((hF.eval rfl).trans (gv_of hg))) fun a hF => ?_
  refine wl_g hF rfl rfl rfl rfl rfl rfl (fun hg => q_fieldAddr0 (d := 2) Try.underlying117 rfl ((hF.eval rfl).trans (gv_of hg)) rfl Try.sizeOf114 (by decide) rfl) fun a hF => ?_
  refine wl_g hF rfl rfl rfl rfl rfl rfl (fun hg => q_load Try.isAgg114 rfl ((hF.eval rfl).trans (gv_of hg)) (hO.cell 3 rfl rfl)) fun a hF => ?_
  refine wl_g hF rfl rfl rfl rfl rfl rfl (fun hg => q_move rfl (hF.eval rfl)) fun a hF => ?_
  refine wl_g hF rfl rfl rfl rfl rfl rfl (fun hg => q_met hO (i := 4) rfl hf Try.underlying3 Try.underlying114 (Try.zeroValue4 _) rfl ((hF.eval rfl).trans (gv_of hg)) ((hF.eval rfl).trans (gv_of hg)) (find_at hw (isB_eq hg))) fun a hF => ?_
  refine wl_g hF rfl rfl rfl rfl rfl rfl (fun hg => q_not rfl ((hF.eval rfl).trans (gv_of hg)) (dec_b _)) fun a hF => ?_
  refine wl_v hF rfl rfl rfl (q_and rfl (hF.eval rfl) (dec_b _) (fun hg2 => ((hF.eval rfl).trans (gv_of hg2))) rfl) fun a hF => ?_
  refine wl_nil ?_
  refine k_n ?_
  refine wp_ifD hF rfl rfl (fun hc1 => ?_) (fun hc1 => ?_)
  · skip
    have hme : meetF h young s x = ⟨s.met ++ [(findF h young x).1.1], s.todo ++ [q.ob], s.words + obSize q.ob⟩ := by rw [hq]; exact if_pos hc1
    refine wp_seq ?_
    refine wp_region_lit ?_
    refine wl_v hF rfl rfl rfl (q_move rfl (hF.eval rfl)) fun a hF => ?_
    refine wl_v hF rfl rfl rfl (q_nilCheck rfl (hF.eval rfl)) fun a hF => ?_
    refine wl_v hF rfl rfl rfl (q_fieldAddr0 (d := 2) Try.underlying117 rfl (hF.eval rfl) rfl Try.sizeOf114 (by decide) rfl) fun a hF => ?_
    refine wl_v hF rfl rfl rfl (q_load Try.isAgg114 rfl (hF.eval rfl) (hO.cell 3 rfl rfl)) fun a hF => ?_
    refine wl_v hF rfl rfl rfl (q_move rfl (hF.eval rfl)) fun a hF => ?_
    refine wl_s hF rfl rfl (e_metPut (v := .bool true) hO (i := 4) rfl Try.underlying3 Try.underlying114 (by omega) rfl (hF.eval rfl) (hF.eval rfl) (hF.eval rfl) (find_at hw hc1.1)) ?_
    rintro a _ w ⟨-, hO⟩ hF
    have hO : St _ _ _ [_, _, _, _, _, _, _] := hO
    refine wl_nil ?_
    refine k_n ?_
    refine wp_seq ?_
    have hO := hO.drew
    refine wp_region_D [0, 0, 0, 1, 1, 2, 0, 0, 0, 3] (fun w => St _ _ w _) Try_mixed (by kernel_rfl) hO ?_
    refine wd_p hF rfl rfl rfl (fun w => q_move rfl (hF.eval rfl)) fun a hF => ?_
    refine wd_p hF rfl rfl rfl (fun w => q_nilCheck rfl (hF.eval rfl)) fun a hF => ?_
    refine wd_p hF rfl rfl rfl (fun w => q_fieldAddr0 (d := 4) Try.underlying117 rfl (hF.eval rfl) rfl Try.sizeOf3 (by decide) rfl) fun a hF => ?_
    refine wd_r hF rfl rfl rfl (fun w hO => q_load Try.isAgg3 rfl (hF.eval rfl) (hO.cell 3 rfl rfl)) fun a hF => ?_
    refine wd_r hF rfl rfl rfl (fun w hO => q_loadAgg Try.isAgg42 Try.sizeOf42 rfl (hF.eval rfl) (hO.cells 0 rfl) rfl) fun a hF => ?_
    refine wd_e hF rfl rfl rfl (c_call hF rfl rfl Try.call96 (size_r _ q (by omega) (hO.rdT 1 rfl))) (fun _ _ ⟨_, hS⟩ => hO.call0 hS) ?_
    rintro a _ w ⟨rfl, hS⟩ hF
    have hO := hO.call0 hS
    have hO : St _ _ _ [_, _, _, _, _, _, _] := hO
    refine wd_p hF rfl rfl rfl (fun w => q_add rfl (hF.eval rfl) (hF.eval rfl) (by omega)) fun a hF => ?_
    refine wd_p hF rfl rfl rfl (fun w => q_nilCheck rfl (hF.eval rfl)) fun a hF => ?_
    refine wd_p hF rfl rfl rfl (fun w => q_fieldAddr0 (d := 4) Try.underlying117 rfl (hF.eval rfl) rfl Try.sizeOf3 (by decide) rfl) fun a hF => ?_
    refine wd_s hF rfl rfl (e_store1 hO (i := 3) rfl Try.sizeOf3 rfl (hF.eval rfl) (hF.eval rfl) rfl rfl rfl) ?_
    rintro a _ w ⟨-, hO⟩ hF
    have hO : St _ _ _ [_, _, _, _, _, _, _] := hO
    refine wd_nil ?_
    refine k_n ?_
    have hO := hO.drew
    refine wp_region_D [0, 0, 0, 0, 1, 1, 2, 3, 0, 0, 3] (fun w => St _ _ w _) Try_mixed (by kernel_rfl) hO ?_
    refine wd_p hF rfl rfl rfl (fun w => q_move rfl (hF.eval rfl)) fun a hF => ?_
    refine wd_p hF rfl rfl rfl (fun w => q_move rfl (hF.eval rfl)) fun a hF => ?_
    refine wd_p hF rfl rfl rfl (fun w => q_nilCheck rfl (hF.eval rfl)) fun a hF => ?_
    refine wd_p hF rfl rfl rfl (fun w => q_fieldAddr0 (d := 3) Try.underlying117 rfl (hF.eval rfl) rfl Try.sizeOf115 (by decide) rfl) fun a hF => ?_
    refine wd_r hF rfl rfl rfl (fun w hO => q_load Try.isAgg115 rfl (hF.eval rfl) (hO.cell 3 rfl rfl)) fun a hF => ?_
    refine wd_r hF rfl rfl rfl (fun w hO => q_loadAgg Try.isAgg42 Try.sizeOf42 rfl (hF.eval rfl) (hO.cells 0 rfl) rfl) fun a hF => ?_
    refine wd_e hF rfl rfl rfl (c_buildSlice hF hO Try.underlying115 Try.sizeOf42 Try.zeroValue42 rfl rfl rfl rfl rfl rfl rfl) (fun _ _ ⟨_, _, hO⟩ => hO.tail) ?_
    rintro a _ w ⟨b1, rfl, hO⟩ hF
    refine wd_f hF rfl rfl rfl (e_appendQ (bytes := 40) (r := [q]) hO (i := 6) rfl (hO.rd 0 rfl) Try.underlying115 Try_info42 rfl rfl rfl rfl rfl (by simp) rfl (hF.eval rfl) (hF.eval rfl) (by show (List.length _ + 1) * 40 ≤ _; omega) (by show List.length _ + 1 ≤ _; omega)) ?_
    rintro a v45 w hO hF
    have hO : St _ _ _ [_, _, _, _, _, _, _, _] := hO
    refine wd_p hF rfl rfl rfl (fun w => q_nilCheck rfl (hF.eval rfl)) fun a hF => ?_
    refine wd_p hF rfl rfl rfl (fun w => q_fieldAddr0 (d := 3) Try.underlying117 rfl (hF.eval rfl) rfl Try.sizeOf115 (by decide) rfl) fun a hF => ?_
    refine wd_s hF rfl rfl (e_store1 hO (i := 4) rfl Try.sizeOf115 rfl (hF.eval rfl) (hF.eval rfl) (cells_one (hO.quOne 6 rfl)) rfl (hO.quOne 6 rfl)) ?_
    rintro a _ w ⟨-, hO⟩ hF
    have hO : St _ _ _ [_, _, _, _, _, _, _, _] := hO
    have hO := hO.pull 2 rfl
    have hO := hO.into 6 rfl
    have hO : St _ _ _ [_, _, _, _, _, _, _] := hO
    refine wd_nil ?_
    refine r_0n hF rfl ?_
    have hO := hO.drop1 0
    have hO := hO.drop1 0
    have hO := hO.drop1 0
    have hO : St _ _ _ [_, _, _, _] := hO
    rw [hme]
    exact ⟨_, mc + 1, _, als ++ [q], rfl, metG_put hf _, by omega, by rw [List.length_append]; omega, by rw [List.drop_append_of_le_length hk, List.map_append, hob]; rfl, ⟨[q], rfl⟩, by rw [List.drop_append_of_le_length hk, List.map_append]; exact hO⟩
  · skip
    have hme : meetF h young s x = s := if_neg hc1
    refine wp_skip ?_
    refine r_0n hF rfl ?_
    have hO := hO.drop1 0
    have hO := hO.drop1 0
    have hO := hO.drop1 0
    have hO : St _ _ _ [_, _, _, _] := hO
    rw [hme]
    exact ⟨_, _, _, als, rfl, hf, by omega, hk, hob, ⟨[], by simp⟩, hO⟩

set_option maxHeartbeats 4000000 in
theorem measured_r (w0 : World) (bh : Nat) (vw vh vr : Value) (h : Hp) (hH : HR w0 [] bh vw vh vr h) (hw : Wf h) (hrm : h.rem = []) (young : Bool) (vq : Value) (rs : List (Nat × Wd)) (hR : RdT w0 [] vq rtE rs) (hrs : ∀ p ∈ rs, Rd w0 [] (gl1 p.1) 2 1 (wordE.cells p.2)) (hrl : rs.length ≤ 10) (F : Nat) (hF9 : F ≤ 1000) (n : Int) (hm : measF h young F (rs.map (·.2)) = some n) : Ret Try.prog 71 #[ptr (adr bh), vq, .bool young] w0 (fun v w' => v = i64 n ∧ St w0 [] w' []) := by
  have hO := St.init0 w0
  refine ret_of (m := 96) Try.func71 rfl Try.ntmps71 [(0, ptr (adr bh)), (1, vq), (2, .bool young)] rfl ⟨rfl, rfl, rfl, trivial⟩ fun a hF => ?_
  refine wp_seq ?_
  refine wp_region_lit ?_
  refine wl_v hF rfl rfl rfl (q_assign rfl (hF.eval rfl)) fun a hF => ?_
  refine wl_nil ?_
  refine k_n ?_
  refine wp_seq ?_
  refine wp_region_lit ?_
  refine wl_v hF rfl rfl rfl (q_move rfl (hF.eval rfl)) fun a hF => ?_
  refine wl_v hF rfl rfl rfl (q_move rfl (hF.eval rfl)) fun a hF => ?_
  refine wl_e hF rfl rfl rfl (e_makeMap hO 3 rfl) ?_
  rintro a _ w ⟨bm, rfl, hO⟩ hF
  refine wl_v hF rfl rfl rfl (c_build hF Try.underlying117 Try.zeroValue117 Try_places117 rfl rfl rfl rfl) fun a hF => ?_
  refine wl_e hF rfl rfl rfl (e_box hO rfl (hF.eval rfl) rfl) ?_
  rintro a _ w ⟨bw, rfl, hO⟩ hF
  have hO := hO.nilSl 42 3
  have hO := hO.toQ (E := qoE) (l := []) (i := 0) rfl
  have hO := hO.grp0
  refine wl_v hF rfl rfl rfl (q_assign rfl (hF.eval rfl)) fun a hF => ?_
  refine wl_nil ?_
  refine k_n ?_
  refine wp_seq ?_
  refine wp_seq ?_
  refine wp_region_lit ?_
  refine wl_v hF rfl rfl rfl (q_move rfl (hF.eval rfl)) fun a hF => ?_
  refine wl_v hF rfl rfl rfl (q_lenRd hR Try.underlying103 rfl (hF.eval rfl)) fun a hF => ?_
  refine wl_v hF rfl rfl rfl (q_move rfl (hF.eval rfl)) fun a hF => ?_
  refine wl_nil ?_
  refine k_n ?_
  refine wp_block ?_
  have hO := hO.pull 1 rfl
  have hO := hO.pull 3 rfl
  have hO := hO.pull 3 rfl
  have hO : St _ _ _ [_, _, _, _] := hO
  refine wp_loopS (fun (y : Nat × Wk × Value × Nat × (Lit → Option Value) × List Qo) a w' => match y with | (i, s, vt, mc, f, als) => (i ≤ rs.length ∧ s = ((rs.map (·.2)).take i).foldl (meetF h young) wk0 ∧ WkI s i ∧ NumF f (metG s.met) ∧ mc ≤ i ∧ (als.drop 0).map Qo.ob = s.todo) ∧ St w0 [] w' [.ob bw 117 [ptr (adr bh), .bool young, .map (some bm), vt, i64 (s).words], Ent.mapE Try.prog 3 bm mc f, quT vt 42 qoE ((als).drop 0), Ent.grp ((als).map qrow)] ∧ Fr a 96 [(0, ptr (adr bh)), (2, .bool young), (7, ptr (adr bw)), (22, vq), (23, i64 rs.length), (24, i64 i)]) (fun (y : Nat × Wk × Value × Nat × (Lit → Option Value) × List Qo) => match y with | (i, s, vt, mc, f, als) => rs.length - i) (0, wk0, _, 0, fun _ => none, []) ⟨⟨by omega, rfl, ⟨by decide, by decide, by decide, by simp [wk0]⟩, metG_none, by omega, rfl⟩, hO, hF.sub ⟨rfl, rfl, rfl, rfl, rfl, rfl, trivial⟩⟩ ?_
  rintro ⟨i, s, vt, mc, f, als⟩ a w ⟨⟨hi, hs, hI, hf, hmc, hob⟩, hO, hF⟩
  refine wp_seq ?_
  refine wp_region_lit ?_
  refine wl_v hF rfl rfl rfl (q_lt rfl (hF.eval rfl) (hF.eval rfl)) fun a hF => ?_
  refine wl_nil ?_
  refine k_n ?_
  refine wp_seq ?_
  refine wp_ifD hF rfl rfl (fun hc1 => ?_) (fun hc1 => ?_)
  · skip
    refine wp_skip ?_
    refine k_n ?_
    refine wp_seq ?_
    refine wp_block ?_
    refine wp_seq ?_
    refine wp_region_lit ?_
    obtain ⟨p, hp⟩ := get_ex (l := rs) (i := i) (by omega)
    refine wl_v hF rfl rfl rfl (q_at (i := i) hR Try.underlying103 Try.sizeOf70 rfl (hF.eval rfl) (hF.eval rfl) (by omega)) fun a hF => ?_
    refine wl_v hF rfl rfl rfl (q_load Try.isAgg70 rfl (hF.eval rfl) (RdT.cell0 (hR.now hO) hp rfl)) fun a hF => ?_
    refine wl_v hF rfl rfl rfl (q_assign rfl (hF.eval rfl)) fun a hF => ?_
    refine wl_nil ?_
    refine k_n ?_
    refine wp_seq ?_
    refine wp_region_lit ?_
    refine wl_v hF rfl rfl rfl (q_move rfl (hF.eval rfl)) fun a hF => ?_
    refine wl_v hF rfl rfl rfl (q_pne Try.underlying70 rfl (hF.eval rfl) (hF.eval rfl)) fun a hF => ?_
    refine wl_nil ?_
    refine k_n ?_
    refine wp_ifD hF rfl rfl (fun hc2 => ?_) (fun hc2 => ?_)
    · skip
      refine wp_region_lit ?_
      refine wl_v hF rfl rfl rfl (q_move rfl (hF.eval rfl)) fun a hF => ?_
      refine wl_v hF rfl rfl rfl (q_move rfl (hF.eval rfl)) fun a hF => ?_
      refine wl_v hF rfl rfl rfl (q_nilCheck rfl (hF.eval rfl)) fun a hF => ?_
      refine wl_v hF rfl rfl rfl (q_loadAgg Try.isAgg27 Try.sizeOf27 rfl (hF.eval rfl) (rdB_all (Rd.now (hrs p (List.mem_of_getElem? hp)) hO)) rfl) fun a hF => ?_
      have hO := hO.pull 3 rfl
      have hO := hO.pull 3 rfl
      have hO := hO.pull 3 rfl
      have hO := hO.pull 3 rfl
      have hO : St _ _ _ [_, _, _, _] := hO
      refine wl_e hF rfl rfl rfl (c_call hF rfl rfl Try.call80 (meet_r _ _ _ _ _ _ _ _ _ 0 i _ s _ _ _ hO.own4 (hH.now (St.front (A := [_, _, _, _]) hO)) hw hI (hmc) (by omega) hf (by omega) hob p.2)) ?_
      rintro a _ w ⟨vt3, mc3, f3, als3, rfl, hf3, hmc3, hk3, hob3, ⟨r3, hr3⟩, hS⟩ hF
      have hO := hO.call4 hS
      have hO : St _ _ _ [_, _, _, _] := hO
      refine wl_nil ?_
      refine b_n ?_
      refine k_n ?_
      refine wp_region_lit ?_
      refine wl_v hF rfl rfl rfl (q_add rfl (hF.eval rfl) (hF.eval rfl) (by omega)) fun a hF => ?_
      refine wl_v hF rfl rfl rfl (q_move rfl (hF.eval rfl)) fun a hF => ?_
      refine wl_nil ?_
      refine k_n ?_
      have hO : St _ _ _ [_, _, _, _] := hO
      exact ⟨(i + 1, meetF h young s p.2, vt3, mc3, f3, als3), ⟨⟨by omega, by rw [hs]; exact (fold_on _ _ (by rw [List.getElem?_map, hp]; rfl)).symm, hI.meet hw, hf3, hmc3, hob3⟩, hO, hF.sub ⟨rfl, rfl, rfl, rfl, rfl, rfl, trivial⟩⟩, by dsimp only; omega⟩
    · skip
      exact absurd (by simp) hc2
  · skip
    have hil : i = rs.length := by omega
    have hm2 : bfsG h young F s = some n := by
      rw [hs, List.take_of_length_le (by rw [List.length_map]; omega)]; exact hm
    refine wp_exit ?_
    refine k_x ?_
    refine k_x ?_
    refine b_x ?_
    refine k_n ?_
    refine wp_seqJ (fun (u : Unit) a w' => (True) ∧ St w0 [] w' [.ob bw 117 [ptr (adr bh), .bool young, .map (some bm), vt, i64 (s).words], Ent.mapE Try.prog 3 bm mc f, quT vt 42 qoE ((als).drop 0), Ent.grp ((als).map qrow)] ∧ Fr a 96 [(0, ptr (adr bh)), (2, .bool young), (7, ptr (adr bw))]) ?_ ?_
    · skip
      refine wp_seq ?_
      refine wp_region_lit ?_
      refine wl_v hF rfl rfl rfl (q_move rfl (hF.eval rfl)) fun a hF => ?_
      refine wl_nil ?_
      refine k_n ?_
      refine wp_ifD hF rfl (dec_b _) (fun hc3 => ?_) (fun hc3 => ?_)
      · skip
        refine wp_seq ?_
        refine wp_region_lit ?_
        refine wl_v hF rfl rfl rfl (q_move rfl (hF.eval rfl)) fun a hF => ?_
        refine wl_e hF rfl rfl rfl (c_call hF rfl rfl Try.call25 (remembered_r _ _ _ _ _ _ (hH.at0 hO) (by rw [hrm]; decide))) ?_
        rintro a vr9 w ⟨_, rfl, hS⟩ hF
        have hO := hO.call0 hS
        have hO : St _ _ _ [_, _, _, _, _] := hO
        rw [show sortF h.rem = [] by rw [hrm]; simp [sortF]] at hO
        refine wl_v hF rfl rfl rfl (q_lenRd (hO.rd 0 rfl) Try.underlying36 rfl (hF.eval rfl)) fun a hF => ?_
        refine wl_v hF rfl rfl rfl (q_move rfl (hF.eval rfl)) fun a hF => ?_
        refine wl_nil ?_
        refine k_n ?_
        refine wp_block ?_
        have hO := hO.drop1 0
        have hO : St _ _ _ [_, _, _, _] := hO
        refine wp_loopS (fun (j : Nat) a w' => (j = 0) ∧ St w0 [] w' [.ob bw 117 [ptr (adr bh), .bool young, .map (some bm), vt, i64 (s).words], Ent.mapE Try.prog 3 bm mc f, quT vt 42 qoE ((als).drop 0), Ent.grp ((als).map qrow)] ∧ Fr a 96 [(0, ptr (adr bh)), (2, .bool young), (7, ptr (adr bw)), (38, vr9), (39, i64 (([] : List Int).length)), (40, i64 j)]) (fun (j : Nat) => 0) 0 ⟨rfl, hO, hF.sub ⟨rfl, rfl, rfl, rfl, rfl, rfl, trivial⟩⟩ ?_
        rintro j a w ⟨hj, hO, hF⟩
        refine wp_seq ?_
        refine wp_region_lit ?_
        refine wl_v hF rfl rfl rfl (q_lt rfl (hF.eval rfl) (hF.eval rfl)) fun a hF => ?_
        refine wl_nil ?_
        refine k_n ?_
        refine wp_seq ?_
        refine wp_ifD hF rfl rfl (fun hc4 => ?_) (fun hc4 => ?_)
        · skip
          exact absurd hc4 (by rw [hj]; simp)
        · skip
          refine wp_exit ?_
          refine k_x ?_
          refine k_x ?_
          refine b_x ?_
          refine k_n ?_
          have hO : St _ _ _ [_, _, _, _] := hO
          exact ⟨(), ⟨trivial, hO, hF.sub ⟨rfl, rfl, rfl, trivial⟩⟩⟩
      · skip
        refine wp_skip ?_
        refine k_n ?_
        have hO : St _ _ _ [_, _, _, _] := hO
        exact ⟨(), ⟨trivial, hO, hF.sub ⟨rfl, rfl, rfl, trivial⟩⟩⟩
    · skip
      rintro u a w ⟨_, hO, hF⟩
      refine wp_seq ?_
      refine wp_block ?_
      have hO : St _ _ _ [_, _, _, _] := hO
      refine wp_loopS (fun (y : Nat × Wk × Nat × Nat × Value × Nat × (Lit → Option Value) × List Qo) a w' => match y with | (g, s, c, k, vt, mc, f, als) => (bfsG h young g s = some n ∧ WkI s c ∧ c + g * 4194304 ≤ 10 + F * 4194304 ∧ NumF f (metG s.met) ∧ mc ≤ c ∧ k ≤ als.length ∧ (als.drop k).map Qo.ob = s.todo) ∧ St w0 [] w' [.ob bw 117 [ptr (adr bh), .bool young, .map (some bm), vt, i64 (s).words], Ent.mapE Try.prog 3 bm mc f, quT vt 42 qoE ((als).drop k), Ent.grp ((als).map qrow)] ∧ Fr a 96 [(0, ptr (adr bh)), (2, .bool young), (7, ptr (adr bw))]) (fun (y : Nat × Wk × Nat × Nat × Value × Nat × (Lit → Option Value) × List Qo) => match y with | (g, s, c, k, vt, mc, f, als) => g) (F, s, i, 0, vt, mc, f, als) ⟨⟨hm2, hI, by omega, hf, hmc, by omega, hob⟩, hO, hF.sub ⟨rfl, rfl, rfl, trivial⟩⟩ ?_
      rintro ⟨g, s, c, k, vt, mc, f, als⟩ a w ⟨⟨hb, hI, hcg, hf, hmc, hk, hob⟩, hO, hF⟩
      refine wp_seq ?_
      refine wp_seq ?_
      refine wp_region_lit ?_
      refine wl_v hF rfl rfl rfl (q_move rfl (hF.eval rfl)) fun a hF => ?_
      refine wl_v hF rfl rfl rfl (q_nilCheck rfl (hF.eval rfl)) fun a hF => ?_
      refine wl_v hF rfl rfl rfl (q_fieldAddr0 (d := 3) Try.underlying117 rfl (hF.eval rfl) rfl Try.sizeOf115 (by decide) rfl) fun a hF => ?_
      refine wl_v hF rfl rfl rfl (q_load Try.isAgg115 rfl (hF.eval rfl) (hO.cell 0 rfl rfl)) fun a hF => ?_
      refine wl_v hF rfl rfl rfl (q_lenRd (hO.rdQ 2 rfl (by decide)) Try.underlying115 rfl (hF.eval rfl)) fun a hF => ?_
      refine wl_v hF rfl rfl rfl (q_gt rfl (hF.eval rfl) (hF.eval rfl)) fun a hF => ?_
      refine wl_nil ?_
      refine k_n ?_
      refine wp_ifD hF rfl rfl (fun hc5 => ?_) (fun hc5 => ?_)
      · skip
        obtain ⟨g, rfl⟩ := bfs_cons hb
        refine wp_skip ?_
        refine k_n ?_
        refine wp_block ?_
        refine wp_seq ?_
        refine wp_region_lit ?_
        refine wl_v hF rfl rfl rfl (q_move rfl (hF.eval rfl)) fun a hF => ?_
        refine wl_v hF rfl rfl rfl (q_nilCheck rfl (hF.eval rfl)) fun a hF => ?_
        refine wl_v hF rfl rfl rfl (q_fieldAddr0 (d := 3) Try.underlying117 rfl (hF.eval rfl) rfl Try.sizeOf115 (by decide) rfl) fun a hF => ?_
        refine wl_v hF rfl rfl rfl (q_load Try.isAgg115 rfl (hF.eval rfl) (hO.cell 0 rfl rfl)) fun a hF => ?_
        obtain ⟨q, hq⟩ := get_ex (l := (als.drop k)) (i := 0) (by omega)
        refine wl_v hF rfl rfl rfl (q_at (i := 0) (hO.rdQ 2 rfl (by decide)) Try.underlying115 Try.sizeOf42 rfl (hF.eval rfl) (hF.eval rfl) (by omega)) fun a hF => ?_
        have hqk : als[k]? = some q := by rw [List.getElem?_drop, Nat.add_zero] at hq; exact hq
        have hkl := (List.getElem?_eq_some_iff.1 hqk).1
        have hdk : als.drop k = q :: als.drop (k + 1) := by obtain ⟨hi9, rfl⟩ := List.getElem?_eq_some_iff.1 hqk; exact List.drop_eq_getElem_cons hi9
        have htd : s.todo = q.ob :: (als.drop (k + 1)).map Qo.ob := by rw [← hob, hdk]; rfl
        have hb2 := bfs_on htd hb
        have hqf : q.fs.length ≤ 3145728 := hI.2.2.2 q.ob (by rw [htd]; exact List.mem_cons_self)
        have hI1 : WkI ⟨s.met, (als.drop (k + 1)).map Qo.ob, s.words⟩ c := ⟨hI.1, hI.2.1, by have := hI.2.2.1; rw [htd, List.length_cons] at this; exact Nat.le_of_succ_le this, fun o ho => hI.2.2.2 o (by rw [htd]; exact List.mem_cons_of_mem _ ho)⟩
        refine wl_v hF rfl rfl rfl (q_loadAgg Try.isAgg42 Try.sizeOf42 rfl (hF.eval rfl) (RdT.cells (hO.rdQ 2 rfl (by decide)) hq) rfl) fun a hF => ?_
        refine wl_e hF rfl rfl rfl (e_alloc hO Try.zeroValue42 rfl rfl) ?_
        rintro a _ w ⟨oo, rfl, hO⟩ hF
        refine wl_s hF rfl rfl (e_storeAll hO (i := 0) rfl Try.sizeOf42 rfl (hF.eval rfl) (hF.eval rfl) rfl rfl) ?_
        rintro a _ w ⟨-, hO⟩ hF
        have hO : St _ _ _ [_, _, _, _, _] := hO
        refine wl_nil ?_
        refine k_n ?_
        refine wp_seq ?_
        refine wp_region_lit ?_
        refine wl_v hF rfl rfl rfl (q_move rfl (hF.eval rfl)) fun a hF => ?_
        refine wl_v hF rfl rfl rfl (q_move rfl (hF.eval rfl)) fun a hF => ?_
        refine wl_v hF rfl rfl rfl (q_nilCheck rfl (hF.eval rfl)) fun a hF => ?_
        refine wl_v hF rfl rfl rfl (q_fieldAddr0 (d := 3) Try.underlying117 rfl (hF.eval rfl) rfl Try.sizeOf115 (by decide) rfl) fun a hF => ?_
        refine wl_v hF rfl rfl rfl (q_load Try.isAgg115 rfl (hF.eval rfl) (hO.cell 1 rfl rfl)) fun a hF => ?_
        refine wl_v hF rfl rfl rfl (q_drop (j := 1) (hO.rdQ 3 rfl (by decide)) Try.underlying115 Try.sizeOf42 rfl (hF.eval rfl) (hF.eval rfl) (by omega)) fun a hF => ?_
        have hO := hO.dropQ (i := 3) rfl (j := 1) (by omega)
        rw [List.drop_drop] at hO
        have hO : St _ _ _ [_, _, _, _, _] := hO
        refine wl_v hF rfl rfl rfl (q_nilCheck rfl (hF.eval rfl)) fun a hF => ?_
        refine wl_v hF rfl rfl rfl (q_fieldAddr0 (d := 3) Try.underlying117 rfl (hF.eval rfl) rfl Try.sizeOf115 (by decide) rfl) fun a hF => ?_
        refine wl_s hF rfl rfl (e_store1 hO (i := 1) rfl Try.sizeOf115 rfl (hF.eval rfl) (hF.eval rfl) (cells_one (hO.quOne 3 rfl)) rfl (hO.quOne 3 rfl)) ?_
        rintro a _ w ⟨-, hO⟩ hF
        have hO : St _ _ _ [_, _, _, _, _] := hO
        refine wl_nil ?_
        refine k_n ?_
        refine wp_seq ?_
        refine wp_region_lit ?_
        refine wl_v hF rfl rfl rfl (q_fieldAddr0 (d := 2) Try.underlying42 rfl (hF.eval rfl) rfl Try.sizeOf37 (by decide) rfl) fun a hF => ?_
        refine wl_v hF rfl rfl rfl (q_load Try.isAgg37 rfl (hF.eval rfl) (hO.cell 0 rfl rfl)) fun a hF => ?_
        refine wl_v hF rfl rfl rfl (q_lenRd (hO.rdTG 4 rfl (j := k) (qrow_at hqk)) Try.underlying37 rfl (hF.eval rfl)) fun a hF => ?_
        refine wl_v hF rfl rfl rfl (q_move rfl (hF.eval rfl)) fun a hF => ?_
        refine wl_nil ?_
        refine k_n ?_
        refine wp_block ?_
        have hO := hO.drop1 0
        have hO : St _ _ _ [_, _, _, _] := hO
        refine wp_loopS (fun (z : Nat × Wk × Value × Nat × (Lit → Option Value) × List Qo) a w' => match z with | (j, s2, vt2, mc2, f2, als2) => (j ≤ q.fs.length ∧ s2 = (q.fs.take j).foldl (meetF h young) ⟨s.met, (als.drop (k + 1)).map Qo.ob, s.words⟩ ∧ WkI s2 (c + j) ∧ NumF f2 (metG s2.met) ∧ mc2 ≤ c + j ∧ k + 1 ≤ als2.length ∧ (als2.drop (k + 1)).map Qo.ob = s2.todo ∧ als2[k]? = some q) ∧ St w0 [] w' [.ob bw 117 [ptr (adr bh), .bool young, .map (some bm), vt2, i64 (s2).words], Ent.mapE Try.prog 3 bm mc2 f2, quT vt2 42 qoE ((als2).drop (k + 1)), Ent.grp ((als2).map qrow)] ∧ Fr a 96 [(0, ptr (adr bh)), (2, .bool young), (7, ptr (adr bw)), (82, q.h.v), (83, i64 q.fs.length), (84, i64 j)]) (fun (z : Nat × Wk × Value × Nat × (Lit → Option Value) × List Qo) => match z with | (j, s2, vt2, mc2, f2, als2) => q.fs.length - j) (0, ⟨s.met, (als.drop (k + 1)).map Qo.ob, s.words⟩, _, mc, f, als) ⟨⟨by omega, rfl, hI1, hf, by omega, by omega, rfl, hqk⟩, hO, hF.sub ⟨rfl, rfl, rfl, rfl, rfl, rfl, trivial⟩⟩ ?_
        rintro ⟨j, s2, vt2, mc2, f2, als2⟩ a w ⟨⟨hj, hs2, hI2, hf2, hmc2, hk2, hob2, hqk2⟩, hO, hF⟩
        refine wp_seq ?_
        refine wp_region_lit ?_
        refine wl_v hF rfl rfl rfl (q_lt rfl (hF.eval rfl) (hF.eval rfl)) fun a hF => ?_
        refine wl_nil ?_
        refine k_n ?_
        refine wp_seq ?_
        refine wp_ifD hF rfl rfl (fun hc6 => ?_) (fun hc6 => ?_)
        · skip
          refine wp_skip ?_
          refine k_n ?_
          refine wp_seq ?_
          refine wp_block ?_
          refine wp_seq ?_
          refine wp_region_lit ?_
          obtain ⟨x, hx⟩ := get_ex (l := q.fs) (i := j) (by omega)
          refine wl_v hF rfl rfl rfl (q_at (i := j) (hO.rdTG 3 rfl (j := k) (qrow_at hqk2)) Try.underlying37 Try.sizeOf27 rfl (hF.eval rfl) (hF.eval rfl) (by omega)) fun a hF => ?_
          refine wl_v hF rfl rfl rfl (q_loadAgg Try.isAgg27 Try.sizeOf27 rfl (hF.eval rfl) (RdT.cells (hO.rdTG 3 rfl (j := k) (qrow_at hqk2)) hx) rfl) fun a hF => ?_
          refine wl_e hF rfl rfl rfl (e_alloc hO Try.zeroValue27 rfl rfl) ?_
          rintro a _ w ⟨tk, rfl, hO⟩ hF
          refine wl_s hF rfl rfl (e_storeAll hO (i := 0) rfl Try.sizeOf27 rfl (hF.eval rfl) (hF.eval rfl) rfl rfl) ?_
          rintro a _ w ⟨-, hO⟩ hF
          have hO : St _ _ _ [_, _, _, _, _] := hO
          refine wl_nil ?_
          refine k_n ?_
          refine wp_region_lit ?_
          refine wl_v hF rfl rfl rfl (q_move rfl (hF.eval rfl)) fun a hF => ?_
          refine wl_v hF rfl rfl rfl (q_loadAgg Try.isAgg27 Try.sizeOf27 rfl (hF.eval rfl) (hO.cells 0 rfl) rfl) fun a hF => ?_
          have hO := hO.pull 4 rfl
          have hO := hO.pull 4 rfl
          have hO := hO.pull 4 rfl
          have hO := hO.pull 4 rfl
          have hO : St _ _ _ [_, _, _, _, _] := hO
          refine wl_e hF rfl rfl rfl (c_call hF rfl rfl Try.call80 (meet_r _ _ _ _ _ _ _ _ _ (k + 1) (c + j) _ s2 _ _ _ hO.own4 (hH.now (St.front (A := [_, _, _, _]) hO)) hw hI2 (hmc2) (by omega) hf2 (hk2) hob2 x)) ?_
          rintro a _ w ⟨vt3, mc3, f3, als3, rfl, hf3, hmc3, hk3, hob3, ⟨r3, hr3⟩, hS⟩ hF
          have hO := hO.call4 hS
          have hO : St _ _ _ [_, _, _, _, _] := hO
          refine wl_nil ?_
          refine b_n ?_
          refine k_n ?_
          refine wp_region_lit ?_
          refine wl_v hF rfl rfl rfl (q_add rfl (hF.eval rfl) (hF.eval rfl) (by omega)) fun a hF => ?_
          refine wl_v hF rfl rfl rfl (q_move rfl (hF.eval rfl)) fun a hF => ?_
          refine wl_nil ?_
          refine k_n ?_
          have hO := hO.drop1 4
          have hO : St _ _ _ [_, _, _, _] := hO
          exact ⟨(j + 1, meetF h young s2 x, vt3, mc3, f3, als3), ⟨⟨by omega, by rw [hs2]; exact (fold_on _ _ hx).symm, hI2.meet hw, hf3, by omega, hk3, hob3, by rw [hr3, List.getElem?_append_left (by omega)]; exact hqk2⟩, hO, hF.sub ⟨rfl, rfl, rfl, rfl, rfl, rfl, trivial⟩⟩, by dsimp only; omega⟩
        · skip
          have hje : j = q.fs.length := by omega
          rw [hje, List.take_length] at hs2
          refine wp_exit ?_
          refine k_x ?_
          refine k_x ?_
          refine b_x ?_
          refine b_n ?_
          refine k_n ?_
          have hO : St _ _ _ [_, _, _, _] := hO
          exact ⟨(g, s2, c + q.fs.length, k + 1, vt2, mc2, f2, als2), ⟨⟨by rw [hs2]; exact hb2, by rw [← hje]; exact hI2, by omega, hf2, by omega, hk2, hob2⟩, hO, hF.sub ⟨rfl, rfl, rfl, trivial⟩⟩, by dsimp only; omega⟩
      · skip
        have hnil : s.todo = [] := by rw [← hob]; rw [List.eq_nil_of_length_eq_zero (show (als.drop k).length = 0 by omega)]; rfl
        refine wp_exit ?_
        refine k_x ?_
        refine k_x ?_
        refine b_x ?_
        refine k_n ?_
        refine wp_seq ?_
        refine wp_region_lit ?_
        refine wl_v hF rfl rfl rfl (q_move rfl (hF.eval rfl)) fun a hF => ?_
        refine wl_v hF rfl rfl rfl (q_nilCheck rfl (hF.eval rfl)) fun a hF => ?_
        refine wl_v hF rfl rfl rfl (q_fieldAddr0 (d := 4) Try.underlying117 rfl (hF.eval rfl) rfl Try.sizeOf3 (by decide) rfl) fun a hF => ?_
        refine wl_v hF rfl rfl rfl (q_load Try.isAgg3 rfl (hF.eval rfl) (hO.cell 0 rfl rfl)) fun a hF => ?_
        refine wl_v hF rfl rfl rfl (q_assign rfl (hF.eval rfl)) fun a hF => ?_
        refine wl_nil ?_
        refine k_n ?_
        refine wp_ret ?_
        refine r_1 hF rfl rfl ?_
        have hO := hO.drop1 0
        have hO := hO.drop1 0
        have hO := hO.drop1 0
        have hO := hO.drop1 0
        have hO : St _ _ _ [] := hO
        exact ⟨congrArg i64 (bfs_end hnil hb).symm, hO⟩

end Go.Proofs.Ytglienidnffnjaa
