import Derived.Test.YtglienidnffnjaaJc
namespace Go.Proofs.Ytglienidnffnjaa
open Go
set_option maxRecDepth 100000
set_option linter.unusedVariables false

theorem move_no {young : Bool} {m : Mv} {x : Wd} (h : ¬ (findF m.h young x).2 = true) : moveF young m x = (chaseH m.h x, m) := if_neg h
theorem move_has {young : Bool} {m : Mv} {x : Wd} {n : Int} (h : (findF m.h young x).2 = true) (hl : m.to.lookup (findF m.h young x).1.1 = some n) : moveF young m x = (⟨true, n⟩, m) := by
  unfold moveF; rw [if_pos h, hl]
theorem move_new {young : Bool} {m : Mv} {x : Wd} {q : Qo} {kr : Int × Int} {h2 : Hp} (h : (findF m.h young x).2 = true) (hl : m.to.lookup (findF m.h young x).1.1 = none) (hq : q.ob = (findF m.h young x).1.2) (hk : layH m.h (1 + m.h.use) q.kind q.info (List.replicate q.fs.length wd0) = (kr, h2)) :
    moveF young m x = (⟨true, kr.1⟩, ⟨h2, m.to ++ [((findF m.h young x).1.1, kr.1)], m.qs ++ [(kr.1, q.fs)]⟩) := by
  have e : keepK m (findF m.h young x).1.2 = (kr, h2) := by rw [← hq]; exact hk
  unfold moveF; rw [if_pos h, hl, e, ← hq]; rfl
def MvS (bm bh kb tk : Nat) (at_ : Int) (x : Wd) (w : World) : Prop := w.cell? (adr bm) = some (ptr (adr bh)) ∧ w.cell? (adr kb) = some (i64 at_) ∧ ∀ j u, (wordE.cells x)[j]? = some u → w.cell? ((adr tk).add j) = some u
set_option maxHeartbeats 4000000 in
theorem move_r (w0 : World) (bh bm bt mc c : Nat) (vw vh vr vq : Value) (young : Bool) (m : Mv) (f : Lit → Option Value) (ks : List Ko) (hA : Owns w0 [.ob bh 77 (hpC vw vh vr (m).h), slT vw 27 wordE (m).h.words, slT vh 84 headE (m).h.heads, slT vr 3 intE (m).h.rem, .ob bm 123 [ptr (adr bh), .bool young, .map none, .slice none 0 0, i64 0, .map (some bt), vq], Ent.mapE Try.prog 3 bt mc f, slT vq 127 koE ks, Ent.grp ((ks).map krow)]) (hI : MvI m c) (hmc : mc ≤ c) (hcb : c ≤ 10000000000) (hf : NumF f (toG m.to)) (hks : ks.map Ko.pr = m.qs) (x : Wd) : Ret Try.prog 81 #[ptr (adr bm), .agg (wordE.cells x).toArray] w0 (fun v w' => v = .agg (wordE.cells (moveF young m x).1).toArray ∧ ∃ vr2 vq2 mc2 f2 ks2, NumF f2 (toG (moveF young m x).2.to) ∧ mc2 ≤ c + 1 ∧ ks2.map Ko.pr = (moveF young m x).2.qs ∧ (∃ r, ks2 = ks ++ r) ∧ St w0 (blks [.ob bh 77 (hpC vw vh vr (m).h), slT vw 27 wordE (m).h.words, slT vh 84 headE (m).h.heads, slT vr 3 intE (m).h.rem, .ob bm 123 [ptr (adr bh), .bool young, .map none, .slice none 0 0, i64 0, .map (some bt), vq], Ent.mapE Try.prog 3 bt mc f, slT vq 127 koE ks, Ent.grp ((ks).map krow)]) w' [.ob bh 77 (hpC vw vh vr2 ((moveF young m x).2).h), slT vw 27 wordE ((moveF young m x).2).h.words, slT vh 84 headE ((moveF young m x).2).h.heads, slT vr2 3 intE ((moveF young m x).2).h.rem, .ob bm 123 [ptr (adr bh), .bool young, .map none, .slice none 0 0, i64 0, .map (some bt), vq2], Ent.mapE Try.prog 3 bt mc2 f2, slT vq2 127 koE ks2, Ent.grp ((ks2).map krow)]) := by
  have hO := St.init hA
  obtain ⟨hw, hrl, hql, hqf⟩ := hI
  have hkl9 : ks.length = m.qs.length := by rw [← hks, List.length_map]
  refine ret_of (m := 77) Try.func81 rfl Try.ntmps81 [(0, ptr (adr bm)), (1, .agg (wordE.cells x).toArray)] rfl ⟨rfl, rfl, trivial⟩ fun a hF => ?_
  refine wp_seq ?_
  refine wp_region_lit ?_
  refine wl_e hF rfl rfl rfl (e_box hO rfl (hF.eval rfl) rfl) ?_
  rintro a _ w ⟨xb, rfl, hO⟩ hF
  refine wl_e hF rfl rfl rfl (e_alloc hO Try.zeroValue27 rfl rfl) ?_
  rintro a _ w ⟨rs, rfl, hO⟩ hF
  refine wl_nil ?_
  refine k_n ?_
  refine wp_seq ?_
  refine wp_region_5 [0, 0, 0, 1, 5, 0, 0, 0, 0, 4, 0, 3, 0] (fun u A => ∃ q : Qo, u = .tuple #[i64 (findF m.h young x).1.1, .agg (qoE.cells q).toArray, .bool (findF m.h young x).2] ∧ q.ob = (findF m.h young x).1.2 ∧ A = [slT q.h.v 27 wordE q.fs]) Try_mixed (by kernel_rfl) hO ?_
  refine w5_p hF rfl rfl rfl (fun w => q_move rfl (hF.eval rfl)) fun a hF => ?_
  refine w5_p hF rfl rfl rfl (fun w => q_nilCheck rfl (hF.eval rfl)) fun a hF => ?_
  refine w5_p hF rfl rfl rfl (fun w => q_fieldAddr0 (d := 0) Try.underlying123 rfl (hF.eval rfl) rfl Try.sizeOf117 (by decide) rfl) fun a hF => ?_
  refine w5_r hF rfl rfl rfl (fun w hO => q_loadAgg Try.isAgg27 Try.sizeOf27 rfl (hF.eval rfl) (hO.cells 1 rfl) rfl) fun a hF => ?_
  refine w5_c hF rfl rfl rfl (fun w hO => Eff.mono (c_call hF rfl rfl Try.call95 (find_r _ _ _ _ _ _ (hO.hr 2 3 4 5 rfl rfl rfl rfl) hw bm _ young (hO.rdOb 6 rfl) rfl rfl x)) (fun u w2 ⟨q, h1, h2, hS⟩ => ⟨_, ⟨q, h1, h2, rfl⟩, hS⟩)) ?_
  rintro _ _ a ⟨q, rfl, hq, rfl⟩ hF
  refine w5_p hF rfl rfl rfl (fun w => q_move rfl (hF.eval rfl)) fun a hF => ?_
  refine w5_p hF rfl rfl rfl (fun w => q_extract rfl (hF.eval rfl) rfl) fun a hF => ?_
  refine w5_p hF rfl rfl rfl (fun w => q_extract rfl (hF.eval rfl) rfl) fun a hF => ?_
  refine w5_p hF rfl rfl rfl (fun w => q_extract rfl (hF.eval rfl) rfl) fun a hF => ?_
  refine w5_m hF rfl rfl rfl (m_alloc Try.zeroValue42 rfl rfl) fun b_ob a hF => ?_
  refine w5_p hF rfl rfl rfl (fun w => q_assign rfl (hF.eval rfl)) fun a hF => ?_
  refine w5_w (fun w hO => ?_) rfl
  have hO : St _ _ _ [_, _, _, _, _, _, _, _, _, _, _, _] := hO
  have hO := hO.asOb (i := 0) rfl
  have hO : St _ _ _ [_, _, _, _, _, _, _, _, _, _, _, _] := hO
  refine w5_s hF rfl rfl (e_storeAll hO (i := 0) rfl Try.sizeOf42 rfl (hF.eval rfl) (hF.eval rfl) rfl rfl) ?_
  rintro a _ w ⟨-, hO⟩ hF
  have hO : St _ _ _ [_, _, _, _, _, _, _, _, _, _, _, _] := hO
  have hfl : q.fs.length ≤ 3145728 := by have := find_len (young := young) (x := x) hw; rw [← hq] at this; exact this
  refine w5_p hF rfl rfl rfl (fun w => q_assign rfl (hF.eval rfl)) fun a hF => ?_
  refine w5_nilw ?_
  refine k_n ?_
  refine wp_seq ?_
  refine wp_seq ?_
  refine wp_region_lit ?_
  refine wl_v hF rfl rfl rfl (q_move rfl (hF.eval rfl)) fun a hF => ?_
  refine wl_v hF rfl rfl rfl (q_not rfl (hF.eval rfl) (dec_b _)) fun a hF => ?_
  refine wl_nil ?_
  refine k_n ?_
  refine wp_ifD hF rfl rfl (fun hc1 => ?_) (fun hc1 => ?_)
  · skip
    refine wp_seq ?_
    have hO := hO.drew
    refine wp_region_D [0, 0, 0, 0, 1, 1, 3, 3] (fun w => St _ _ w _) Try_mixed (by kernel_rfl) hO ?_
    refine wd_p hF rfl rfl rfl (fun w => q_move rfl (hF.eval rfl)) fun a hF => ?_
    refine wd_p hF rfl rfl rfl (fun w => q_nilCheck rfl (hF.eval rfl)) fun a hF => ?_
    refine wd_p hF rfl rfl rfl (fun w => q_fieldAddr0 (d := 0) Try.underlying123 rfl (hF.eval rfl) rfl Try.sizeOf117 (by decide) rfl) fun a hF => ?_
    refine wd_p hF rfl rfl rfl (fun w => q_fieldAddr (d := 0) Try.underlying117 rfl (hF.eval rfl) rfl Try.sizeOf22 (by decide) rfl) fun a hF => ?_
    refine wd_r hF rfl rfl rfl (fun w hO => q_load Try.isAgg22 rfl (hF.eval rfl) (hO.cell 8 rfl rfl)) fun a hF => ?_
    refine wd_r hF rfl rfl rfl (fun w hO => q_loadAgg Try.isAgg27 Try.sizeOf27 rfl (hF.eval rfl) (hO.cells 3 rfl) rfl) fun a hF => ?_
    refine wd_f hF rfl rfl rfl (c_call hF rfl rfl Try.call14 (chase_r _ _ _ _ _ _ (hO.hr 4 5 6 7 rfl rfl rfl rfl) hw x)) ?_
    rintro a _ w ⟨rfl, hS⟩ hF
    have hO := hO.call0 hS
    have hO : St _ _ _ [_, _, _, _, _, _, _, _, _, _, _, _] := hO
    refine wd_s hF rfl rfl (e_storeAll hO (i := 2) rfl Try.sizeOf27 rfl (hF.eval rfl) (hF.eval rfl) rfl rfl) ?_
    rintro a _ w ⟨-, hO⟩ hF
    have hO : St _ _ _ [_, _, _, _, _, _, _, _, _, _, _, _] := hO
    refine wd_nil ?_
    refine k_n ?_
    refine wp_ret ?_
    refine k_r ?_
    refine r_c1 hF rfl rfl Try.isAgg27 Try.sizeOf27 (hO.cells 2 rfl) rfl ?_
    rw [move_no hc1]
    have hO := hO.drop1 0
    have hO := hO.drop1 0
    have hO := hO.drop1 0
    have hO := hO.drop1 0
    have hO := hO.pull 7 rfl
    have hO := hO.pull 7 rfl
    have hO := hO.pull 7 rfl
    have hO := hO.pull 7 rfl
    have hO := hO.pull 7 rfl
    have hO := hO.pull 7 rfl
    have hO := hO.pull 7 rfl
    have hO := hO.pull 7 rfl
    have hO : St _ _ _ [_, _, _, _, _, _, _, _] := hO
    exact ⟨rfl, _, _, mc, _, ks, hf, by omega, hks, ⟨[], by simp⟩, hO⟩
  · skip
    have his := Classical.not_not.1 hc1
    refine wp_skip ?_
    refine k_n ?_
    refine wp_seq ?_
    refine wp_region_lit ?_
    refine wl_v hF rfl rfl rfl (q_move rfl (hF.eval rfl)) fun a hF => ?_
    refine wl_v hF rfl rfl rfl (q_nilCheck rfl (hF.eval rfl)) fun a hF => ?_
    refine wl_v hF rfl rfl rfl (q_fieldAddr0 (d := 5) Try.underlying123 rfl (hF.eval rfl) rfl Try.sizeOf120 (by decide) rfl) fun a hF => ?_
    refine wl_v hF rfl rfl rfl (q_load Try.isAgg120 rfl (hF.eval rfl) (hO.cell 8 rfl rfl)) fun a hF => ?_
    refine wl_v hF rfl rfl rfl (q_move rfl (hF.eval rfl)) fun a hF => ?_
    refine wl_v hF rfl rfl rfl (q_to hO (i := 9) rfl hf Try.underlying3 Try.underlying120 (Try.zeroValue3 _) rfl (hF.eval rfl) (hF.eval rfl) (find_at hw his)) fun a hF => ?_
    refine wl_v hF rfl rfl rfl (q_move rfl (hF.eval rfl)) fun a hF => ?_
    refine wl_v hF rfl rfl rfl (q_extract rfl (hF.eval rfl) rfl) fun a hF => ?_
    refine wl_v hF rfl rfl rfl (q_extract rfl (hF.eval rfl) rfl) fun a hF => ?_
    refine wl_v hF rfl rfl rfl (q_assign rfl (hF.eval rfl)) fun a hF => ?_
    refine wl_v hF rfl rfl rfl (q_assign rfl (hF.eval rfl)) fun a hF => ?_
    refine wl_nil ?_
    refine k_n ?_
    refine wp_seq ?_
    refine wp_seq ?_
    refine wp_region_lit ?_
    refine wl_v hF rfl rfl rfl (q_move rfl (hF.eval rfl)) fun a hF => ?_
    refine wl_v hF rfl rfl rfl (q_not rfl (hF.eval rfl) (dec_b _)) fun a hF => ?_
    refine wl_nil ?_
    refine k_n ?_
    refine wp_ifD hF rfl rfl (fun hc2 => ?_) (fun hc2 => ?_)
    · skip
      have hlk : m.to.lookup (findF m.h young x).1.1 = none := by
        cases hl : m.to.lookup (findF m.h young x).1.1 with
        | none => rfl
        | some n => rw [hl] at hc2; exact absurd rfl hc2
      refine wp_seq ?_
      have hO := hO.drew
      refine wp_region_D [0, 0, 0, 0, 1, 0, 1, 0, 1, 0, 1, 0, 2, 3, 0, 0, 0, 0] (fun w => St _ _ w _) Try_mixed (by kernel_rfl) hO ?_
      refine wd_p hF rfl rfl rfl (fun w => q_move rfl (hF.eval rfl)) fun a hF => ?_
      refine wd_p hF rfl rfl rfl (fun w => q_nilCheck rfl (hF.eval rfl)) fun a hF => ?_
      refine wd_p hF rfl rfl rfl (fun w => q_fieldAddr0 (d := 0) Try.underlying123 rfl (hF.eval rfl) rfl Try.sizeOf117 (by decide) rfl) fun a hF => ?_
      refine wd_p hF rfl rfl rfl (fun w => q_fieldAddr (d := 0) Try.underlying117 rfl (hF.eval rfl) rfl Try.sizeOf22 (by decide) rfl) fun a hF => ?_
      refine wd_r hF rfl rfl rfl (fun w hO => q_load Try.isAgg22 rfl (hF.eval rfl) (hO.cell 8 rfl rfl)) fun a hF => ?_
      refine wd_p hF rfl rfl rfl (fun w => q_fieldAddr0 (d := 0) Try.underlying42 rfl (hF.eval rfl) rfl Try.sizeOf3 (by decide) rfl) fun a hF => ?_
      refine wd_r hF rfl rfl rfl (fun w hO => q_load Try.isAgg3 rfl (hF.eval rfl) (hO.cell 0 rfl rfl)) fun a hF => ?_
      refine wd_p hF rfl rfl rfl (fun w => q_fieldAddr0 (d := 1) Try.underlying42 rfl (hF.eval rfl) rfl Try.sizeOf3 (by decide) rfl) fun a hF => ?_
      refine wd_r hF rfl rfl rfl (fun w hO => q_load Try.isAgg3 rfl (hF.eval rfl) (hO.cell 0 rfl rfl)) fun a hF => ?_
      refine wd_p hF rfl rfl rfl (fun w => q_fieldAddr0 (d := 2) Try.underlying42 rfl (hF.eval rfl) rfl Try.sizeOf37 (by decide) rfl) fun a hF => ?_
      refine wd_r hF rfl rfl rfl (fun w hO => q_load Try.isAgg37 rfl (hF.eval rfl) (hO.cell 0 rfl rfl)) fun a hF => ?_
      refine wd_p hF rfl rfl rfl (fun w => q_lenRd (hO.rd 1 rfl) Try.underlying37 rfl (hF.eval rfl)) fun a hF => ?_
      refine wd_e hF rfl rfl rfl (e_makeT (E := wordE) (z := wd0) (n := q.fs.length) (bytes := 16) hO Try.underlying37 Try_info27 rfl rfl rfl rfl rfl rfl (hF.eval rfl) (hF.eval rfl) (by omega) (by omega)) (fun _ _ hO => hO.tail) ?_
      rintro a _ w hO hF
      have hO : St _ _ _ [_, _, _, _, _, _, _, _, _, _, _, _, _] := hO
      have hO := hO.pull 8 rfl
      have hO := hO.pull 8 rfl
      have hO := hO.pull 8 rfl
      have hO := hO.pull 8 rfl
      have hO : St _ _ _ [_, _, _, _, _, _, _, _, _, _, _, _, _] := hO
      refine wd_f hF rfl rfl rfl (c_call hF rfl rfl Try.call16 (keep_r _ _ _ _ _ _ hO.own4 hw (by omega) _ _ _ (List.replicate q.fs.length wd0) (hO.rdT4 0 rfl))) ?_
      rintro a _ w ⟨vr2, kr, h2, hkl, rfl, hS⟩ hF
      have hO := hO.call4 hS
      have hO : St _ _ _ [_, _, _, _, _, _, _, _, _, _, _, _, _] := hO
      refine wd_p hF rfl rfl rfl (fun w => q_move rfl (hF.eval rfl)) fun a hF => ?_
      refine wd_p hF rfl rfl rfl (fun w => q_extract rfl (hF.eval rfl) rfl) fun a hF => ?_
      refine wd_p hF rfl rfl rfl (fun w => q_extract rfl (hF.eval rfl) rfl) fun a hF => ?_
      refine wd_p hF rfl rfl rfl (fun w => q_assign rfl (hF.eval rfl)) fun a hF => ?_
      refine wd_nil ?_
      refine k_n ?_
      refine wp_seq ?_
      refine wp_region_lit ?_
      refine wl_v hF rfl rfl rfl (q_move rfl (hF.eval rfl)) fun a hF => ?_
      refine wl_v hF rfl rfl rfl (q_nilCheck rfl (hF.eval rfl)) fun a hF => ?_
      refine wl_v hF rfl rfl rfl (q_fieldAddr0 (d := 5) Try.underlying123 rfl (hF.eval rfl) rfl Try.sizeOf120 (by decide) rfl) fun a hF => ?_
      refine wl_v hF rfl rfl rfl (q_load Try.isAgg120 rfl (hF.eval rfl) (hO.cell 9 rfl rfl)) fun a hF => ?_
      refine wl_v hF rfl rfl rfl (q_move rfl (hF.eval rfl)) fun a hF => ?_
      refine wl_v hF rfl rfl rfl (q_move rfl (hF.eval rfl)) fun a hF => ?_
      refine wl_s hF rfl rfl (e_metPut (v := i64 kr.1) hO (i := 10) rfl Try.underlying3 Try.underlying120 (by omega) rfl (hF.eval rfl) (hF.eval rfl) (hF.eval rfl) (find_at hw his)) ?_
      rintro a _ w ⟨-, hO⟩ hF
      refine wl_nil ?_
      refine k_n ?_
      have hO := hO.drew
      refine wp_region_D [0, 0, 0, 0, 1, 0, 0, 1, 0, 2, 3, 0, 0, 3] (fun w => St _ _ w _) Try_mixed (by kernel_rfl) hO ?_
      refine wd_p hF rfl rfl rfl (fun w => q_move rfl (hF.eval rfl)) fun a hF => ?_
      refine wd_p hF rfl rfl rfl (fun w => q_move rfl (hF.eval rfl)) fun a hF => ?_
      refine wd_p hF rfl rfl rfl (fun w => q_nilCheck rfl (hF.eval rfl)) fun a hF => ?_
      refine wd_p hF rfl rfl rfl (fun w => q_fieldAddr0 (d := 6) Try.underlying123 rfl (hF.eval rfl) rfl Try.sizeOf121 (by decide) rfl) fun a hF => ?_
      refine wd_r hF rfl rfl rfl (fun w hO => q_load Try.isAgg121 rfl (hF.eval rfl) (hO.cell 9 rfl rfl)) fun a hF => ?_
      refine wd_p hF rfl rfl rfl (fun w => q_move rfl (hF.eval rfl)) fun a hF => ?_
      refine wd_p hF rfl rfl rfl (fun w => q_fieldAddr0 (d := 2) Try.underlying42 rfl (hF.eval rfl) rfl Try.sizeOf37 (by decide) rfl) fun a hF => ?_
      refine wd_r hF rfl rfl rfl (fun w hO => q_load Try.isAgg37 rfl (hF.eval rfl) (hO.cell 5 rfl rfl)) fun a hF => ?_
      refine wd_p hF rfl rfl rfl (fun w => c_build hF Try.underlying127 Try.zeroValue127 Try_places127 rfl rfl rfl rfl) fun a hF => ?_
      refine wd_e hF rfl rfl rfl (c_buildSlice hF hO Try.underlying121 Try.sizeOf127 Try.zeroValue127 rfl rfl rfl rfl rfl rfl rfl) (fun _ _ ⟨_, _, hO⟩ => hO.tail) ?_
      rintro a _ w ⟨b1, rfl, hO⟩ hF
      refine wd_f hF rfl rfl rfl (e_appendT (bytes := 32) (r := [⟨kr.1, q.h, q.fs⟩]) hO (i := 12) rfl (hO.rd 0 rfl) Try.underlying121 Try_info127 rfl rfl rfl rfl rfl rfl (hF.eval rfl) (hF.eval rfl) (by show (List.length _ + 1) * 32 ≤ _; omega) (by show List.length _ + 1 ≤ _; omega)) ?_
      rintro a v72 w hO hF
      have hO : St _ _ _ [_, _, _, _, _, _, _, _, _, _, _, _, _, _] := hO
      refine wd_p hF rfl rfl rfl (fun w => q_nilCheck rfl (hF.eval rfl)) fun a hF => ?_
      refine wd_p hF rfl rfl rfl (fun w => q_fieldAddr0 (d := 6) Try.underlying123 rfl (hF.eval rfl) rfl Try.sizeOf121 (by decide) rfl) fun a hF => ?_
      refine wd_s hF rfl rfl (e_store1 hO (i := 10) rfl Try.sizeOf121 rfl (hF.eval rfl) (hF.eval rfl) (cells_one (hO.slOne 12 rfl)) rfl (hO.slOne 12 rfl)) ?_
      rintro a _ w ⟨-, hO⟩ hF
      have hO : St _ _ _ [_, _, _, _, _, _, _, _, _, _, _, _, _, _] := hO
      have hO := hO.pull 7 rfl
      have hO := hO.into 12 rfl
      have hO : St _ _ _ [_, _, _, _, _, _, _, _, _, _, _, _, _] := hO
      refine wd_nil ?_
      refine k_n ?_
      refine wp_seq ?_
      refine wp_region_lit ?_
      refine wl_v hF rfl rfl rfl (q_move rfl (hF.eval rfl)) fun a hF => ?_
      refine wl_v hF rfl rfl rfl (c_build hF Try.underlying27 Try.zeroValue27 Try_places27 rfl rfl rfl rfl) fun a hF => ?_
      refine wl_s hF rfl rfl (e_storeAll hO (i := 7) rfl Try.sizeOf27 rfl (hF.eval rfl) (hF.eval rfl) rfl rfl) ?_
      rintro a _ w ⟨-, hO⟩ hF
      have hO : St _ _ _ [_, _, _, _, _, _, _, _, _, _, _, _, _] := hO
      refine wl_nil ?_
      refine k_n ?_
      refine wp_ret ?_
      refine r_c1 hF rfl rfl Try.isAgg27 Try.sizeOf27 (hO.cells 7 rfl) rfl ?_
      rw [move_new his hlk hq hkl]
      have hO := hO.drop1 0
      have hO := hO.drop1 4
      have hO := hO.drop1 4
      have hO := hO.drop1 4
      have hO := hO.drop1 4
      have hO := hO.pull 7 rfl
      have hO := hO.pull 7 rfl
      have hO := hO.pull 7 rfl
      have hO := hO.pull 7 rfl
      have hO := hO.pull 7 rfl
      have hO := hO.pull 7 rfl
      have hO := hO.pull 7 rfl
      have hO := hO.pull 7 rfl
      have hO : St _ _ _ [_, _, _, _, _, _, _, _] := hO
      exact ⟨rfl, _, _, mc + 1, _, ks ++ [⟨kr.1, q.h, q.fs⟩], toG_put hf _ hlk, by omega, by rw [List.map_append, hks]; rfl, ⟨_, rfl⟩, by rw [List.map_append]; exact hO⟩
    · skip
      obtain ⟨nn, hlk⟩ : ∃ n, m.to.lookup (findF m.h young x).1.1 = some n := by
        cases hl : m.to.lookup (findF m.h young x).1.1 with
        | some n => exact ⟨n, rfl⟩
        | none => rw [hl] at hc2; exact absurd (Classical.not_not.1 hc2) (by simp)
      rw [hlk] at hF
      refine wp_skip ?_
      refine k_n ?_
      refine wp_seq ?_
      refine wp_region_lit ?_
      refine wl_v hF rfl rfl rfl (q_move rfl (hF.eval rfl)) fun a hF => ?_
      refine wl_v hF rfl rfl rfl (c_build hF Try.underlying27 Try.zeroValue27 Try_places27 rfl rfl rfl rfl) fun a hF => ?_
      refine wl_s hF rfl rfl (e_storeAll hO (i := 2) rfl Try.sizeOf27 rfl (hF.eval rfl) (hF.eval rfl) rfl rfl) ?_
      rintro a _ w ⟨-, hO⟩ hF
      have hO : St _ _ _ [_, _, _, _, _, _, _, _, _, _, _, _] := hO
      refine wl_nil ?_
      refine k_n ?_
      refine wp_ret ?_
      refine r_c1 hF rfl rfl Try.isAgg27 Try.sizeOf27 (hO.cells 2 rfl) rfl ?_
      rw [move_has his hlk]
      have hO := hO.drop1 0
      have hO := hO.drop1 0
      have hO := hO.drop1 0
      have hO := hO.drop1 0
      have hO := hO.pull 7 rfl
      have hO := hO.pull 7 rfl
      have hO := hO.pull 7 rfl
      have hO := hO.pull 7 rfl
      have hO := hO.pull 7 rfl
      have hO := hO.pull 7 rfl
      have hO := hO.pull 7 rfl
      have hO := hO.pull 7 rfl
      have hO : St _ _ _ [_, _, _, _, _, _, _, _] := hO
      exact ⟨rfl, _, _, mc, _, ks, hf, by omega, hks, ⟨[], by simp⟩, hO⟩

set_option maxHeartbeats 4000000 in
theorem fields_r (w0 : World) (bh bm bt mc c : Nat) (vw vh vr vq : Value) (young : Bool) (m : Mv) (f : Lit → Option Value) (ks : List Ko) (hA : Owns w0 [.ob bh 77 (hpC vw vh vr (m).h), slT vw 27 wordE (m).h.words, slT vh 84 headE (m).h.heads, slT vr 3 intE (m).h.rem, .ob bm 123 [ptr (adr bh), .bool young, .map none, .slice none 0 0, i64 0, .map (some bt), vq], Ent.mapE Try.prog 3 bt mc f, slT vq 127 koE ks, Ent.grp ((ks).map krow)]) (hI : MvI m c) (hmc : mc ≤ c) (hcb : c ≤ 5000000000) (hf : NumF f (toG m.to)) (hks : ks.map Ko.pr = m.qs) (i : Nat) (k : Ko) (hki : ks[i]? = some k) : Ret Try.prog 82 #[ptr (adr bm), .agg (koE.cells k).toArray] w0 (fun v w' => v = .tuple #[] ∧ MvI (fieldsF young m k.pr) (c + k.fs.length) ∧ ∃ vr2 vq2 mc2 f2 ks2, NumF f2 (toG (fieldsF young m k.pr).to) ∧ mc2 ≤ c + k.fs.length ∧ ks2.map Ko.pr = (fieldsF young m k.pr).qs ∧ (∃ r, ks2 = ks ++ r) ∧ St w0 (blks [.ob bh 77 (hpC vw vh vr (m).h), slT vw 27 wordE (m).h.words, slT vh 84 headE (m).h.heads, slT vr 3 intE (m).h.rem, .ob bm 123 [ptr (adr bh), .bool young, .map none, .slice none 0 0, i64 0, .map (some bt), vq], Ent.mapE Try.prog 3 bt mc f, slT vq 127 koE ks, Ent.grp ((ks).map krow)]) w' [.ob bh 77 (hpC vw vh vr2 ((fieldsF young m k.pr)).h), slT vw 27 wordE ((fieldsF young m k.pr)).h.words, slT vh 84 headE ((fieldsF young m k.pr)).h.heads, slT vr2 3 intE ((fieldsF young m k.pr)).h.rem, .ob bm 123 [ptr (adr bh), .bool young, .map none, .slice none 0 0, i64 0, .map (some bt), vq2], Ent.mapE Try.prog 3 bt mc2 f2, slT vq2 127 koE ks2, Ent.grp ((ks2).map krow)]) := by
  have hO := St.init hA
  have hkf : k.fs.length ≤ 3145728 := hI.2.2.2 k.pr (by rw [← hks]; exact List.mem_map.2 ⟨k, List.mem_of_getElem? hki, rfl⟩)
  have hil := (List.getElem?_eq_some_iff.1 hki).1
  refine ret_of (m := 27) Try.func82 rfl Try.ntmps82 [(0, ptr (adr bm)), (1, .agg (koE.cells k).toArray)] rfl ⟨rfl, rfl, trivial⟩ fun a hF => ?_
  refine wp_seq ?_
  refine wp_region_lit ?_
  refine wl_e hF rfl rfl rfl (e_box hO rfl (hF.eval rfl) rfl) ?_
  rintro a _ w ⟨kb, rfl, hO⟩ hF
  refine wl_nil ?_
  refine k_n ?_
  refine wp_seq ?_
  refine wp_region_lit ?_
  refine wl_v hF rfl rfl rfl (q_fieldAddr0 (d := 1) Try.underlying127 rfl (hF.eval rfl) rfl Try.sizeOf37 (by decide) rfl) fun a hF => ?_
  refine wl_v hF rfl rfl rfl (q_load Try.isAgg37 rfl (hF.eval rfl) (hO.cell 0 rfl rfl)) fun a hF => ?_
  refine wl_v hF rfl rfl rfl (q_lenRd (hO.rdTG 8 rfl (j := i) (krow_at hki)) Try.underlying37 rfl (hF.eval rfl)) fun a hF => ?_
  refine wl_v hF rfl rfl rfl (q_move rfl (hF.eval rfl)) fun a hF => ?_
  refine wl_nil ?_
  refine k_n ?_
  refine wp_block ?_
  have hO := hO.pull 8 rfl
  have hO := hO.pull 8 rfl
  have hO := hO.pull 8 rfl
  have hO := hO.pull 8 rfl
  have hO := hO.pull 8 rfl
  have hO := hO.pull 8 rfl
  have hO := hO.pull 8 rfl
  have hO := hO.pull 8 rfl
  have hO : St _ _ _ [_, _, _, _, _, _, _, _, _] := hO
  refine wp_loopS (fun (y : Nat × Mv × Value × Value × Nat × (Lit → Option Value) × List Ko) a w' => match y with | (j, m2, vr2, vq2, mc2, f2, ks2) => (j ≤ k.fs.length ∧ (m2, j) = (k.fs.take j).foldl (stepF young k.at_) (m, 0) ∧ MvI m2 (c + j) ∧ NumF f2 (toG m2.to) ∧ mc2 ≤ c + j ∧ ks2.map Ko.pr = m2.qs ∧ (∃ r, ks2 = ks ++ r)) ∧ St w0 (blks [.ob bh 77 (hpC vw vh vr (m).h), slT vw 27 wordE (m).h.words, slT vh 84 headE (m).h.heads, slT vr 3 intE (m).h.rem, .ob bm 123 [ptr (adr bh), .bool young, .map none, .slice none 0 0, i64 0, .map (some bt), vq], Ent.mapE Try.prog 3 bt mc f, slT vq 127 koE ks, Ent.grp ((ks).map krow)]) w' [.ob bh 77 (hpC vw vh vr2 (m2).h), slT vw 27 wordE (m2).h.words, slT vh 84 headE (m2).h.heads, slT vr2 3 intE (m2).h.rem, .ob bm 123 [ptr (adr bh), .bool young, .map none, .slice none 0 0, i64 0, .map (some bt), vq2], Ent.mapE Try.prog 3 bt mc2 f2, slT vq2 127 koE ks2, Ent.grp ((ks2).map krow), .ob kb 127 (koE.cells k)] ∧ Fr a 27 [(0, ptr (adr bm)), (3, ptr (adr kb)), (7, k.h.v), (8, i64 k.fs.length), (9, i64 j)]) (fun (y : Nat × Mv × Value × Value × Nat × (Lit → Option Value) × List Ko) => match y with | (j, m2, vr2, vq2, mc2, f2, ks2) => k.fs.length - j) (0, m, vr, vq, mc, f, ks) ⟨⟨by omega, rfl, hI, hf, by omega, hks, ⟨[], by simp⟩⟩, hO, hF.sub ⟨rfl, rfl, rfl, rfl, rfl, trivial⟩⟩ ?_
  rintro ⟨j, m2, vr2, vq2, mc2, f2, ks2⟩ a w ⟨⟨hj, hfo, hI2, hf2, hmc2, hks2, ⟨r2, hr2⟩⟩, hO, hF⟩
  have hki2 : ks2[i]? = some k := by rw [hr2, List.getElem?_append_left hil]; exact hki
  refine wp_seq ?_
  refine wp_region_lit ?_
  refine wl_v hF rfl rfl rfl (q_lt rfl (hF.eval rfl) (hF.eval rfl)) fun a hF => ?_
  refine wl_nil ?_
  refine k_n ?_
  refine wp_seq ?_
  refine wp_ifD hF rfl rfl (fun hc1 => ?_) (fun hc1 => ?_)
  · skip
    refine wp_skip ?_
    refine k_n ?_
    refine wp_seq ?_
    refine wp_block ?_
    refine wp_seq ?_
    refine wp_region_lit ?_
    refine wl_v hF rfl rfl rfl (q_move rfl (hF.eval rfl)) fun a hF => ?_
    obtain ⟨x, hx⟩ := get_ex (l := k.fs) (i := j) (by omega)
    refine wl_v hF rfl rfl rfl (q_at (i := j) (hO.rdTG 7 rfl (j := i) (krow_at hki2)) Try.underlying37 Try.sizeOf27 rfl (hF.eval rfl) (hF.eval rfl) (by omega)) fun a hF => ?_
    refine wl_v hF rfl rfl rfl (q_loadAgg Try.isAgg27 Try.sizeOf27 rfl (hF.eval rfl) (RdT.cells (hO.rdTG 7 rfl (j := i) (krow_at hki2)) hx) rfl) fun a hF => ?_
    refine wl_e hF rfl rfl rfl (e_alloc hO Try.zeroValue27 rfl rfl) ?_
    rintro a _ w ⟨tk, rfl, hO⟩ hF
    refine wl_v hF rfl rfl rfl (q_assign rfl (hF.eval rfl)) fun a hF => ?_
    refine wl_s hF rfl rfl (e_storeAll hO (i := 0) rfl Try.sizeOf27 rfl (hF.eval rfl) (hF.eval rfl) rfl rfl) ?_
    rintro a _ w ⟨-, hO⟩ hF
    have hO : St _ _ _ [_, _, _, _, _, _, _, _, _, _] := hO
    refine wl_nil ?_
    refine k_n ?_
    have hO := hO.drew
    refine wp_region_D [0, 0, 0, 0, 1, 0, 1, 0, 0, 1, 2, 3] (fun w => MvS bm bh kb tk k.at_ x w) Try_mixed (by kernel_rfl) ⟨hO.cell0 5 rfl rfl, hO.cell0 9 rfl rfl, hO.cells 0 rfl⟩ ?_
    refine wd_p hF rfl rfl rfl (fun w => q_move rfl (hF.eval rfl)) fun a hF => ?_
    refine wd_p hF rfl rfl rfl (fun w => q_nilCheck rfl (hF.eval rfl)) fun a hF => ?_
    refine wd_p hF rfl rfl rfl (fun w => q_fieldAddr0 (d := 0) Try.underlying123 rfl (hF.eval rfl) rfl Try.sizeOf117 (by decide) rfl) fun a hF => ?_
    refine wd_p hF rfl rfl rfl (fun w => q_fieldAddr (d := 0) Try.underlying117 rfl (hF.eval rfl) rfl Try.sizeOf22 (by decide) rfl) fun a hF => ?_
    refine wd_r hF rfl rfl rfl (fun w hO => q_load Try.isAgg22 rfl (hF.eval rfl) hO.1) fun a hF => ?_
    refine wd_p hF rfl rfl rfl (fun w => q_fieldAddr0 (d := 0) Try.underlying127 rfl (hF.eval rfl) rfl Try.sizeOf3 (by decide) rfl) fun a hF => ?_
    refine wd_r hF rfl rfl rfl (fun w hO => q_load Try.isAgg3 rfl (hF.eval rfl) hO.2.1) fun a hF => ?_
    refine wd_p hF rfl rfl rfl (fun w => q_move rfl (hF.eval rfl)) fun a hF => ?_
    refine wd_p hF rfl rfl rfl (fun w => q_move rfl (hF.eval rfl)) fun a hF => ?_
    refine wd_r hF rfl rfl rfl (fun w hO => q_loadAgg Try.isAgg27 Try.sizeOf27 rfl (hF.eval rfl) hO.2.2 rfl) fun a hF => ?_
    have hO := hO.pull 8 rfl
    have hO := hO.pull 8 rfl
    have hO := hO.pull 8 rfl
    have hO := hO.pull 8 rfl
    have hO := hO.pull 8 rfl
    have hO := hO.pull 8 rfl
    have hO := hO.pull 8 rfl
    have hO := hO.pull 8 rfl
    have hO : St _ _ _ [_, _, _, _, _, _, _, _, _, _] := hO
    refine wd_e hF rfl rfl rfl (c_call hF rfl rfl Try.call81 (move_r _ bh bm bt _ (c + j) _ _ _ _ young m2 _ _ hO.own8 hI2 (hmc2) (by omega) hf2 hks2 x)) ((fun _ _ ⟨_, _, _, _, _, _, _, _, _, _, hS⟩ => ⟨(hO.call8 hS).cell0 4 rfl rfl, (hO.call8 hS).cell0 9 rfl rfl, (hO.call8 hS).cells 8 rfl⟩)) ?_
    rintro a _ w ⟨rfl, vr3, vq3, mc3, f3, ks3, hf3, hmc3, hks3, ⟨r3, hr3⟩, hS⟩ hF
    have hO := hO.call8 hS
    have hO : St _ _ _ [_, _, _, _, _, _, _, _, _, _] := hO
    have hO := hO.pull 3 rfl
    have hO := hO.pull 3 rfl
    have hO := hO.pull 3 rfl
    have hO := hO.pull 3 rfl
    have hO : St _ _ _ [_, _, _, _, _, _, _, _, _, _] := hO
    refine wd_f hF rfl rfl rfl (c_call hF rfl rfl Try.call17 (set_r _ _ _ _ _ _ hO.own4 (hI2.move young x).1.1 (by have := (hI2.move young x).1.2.1; omega) _ _ _)) ?_
    rintro a _ w ⟨vr4, rs, hs2, hset, rfl, hS⟩ hF
    have hO := hO.call4 hS
    have hO : St _ _ _ [_, _, _, _, _, _, _, _, _, _] := hO
    refine wd_nil ?_
    refine b_n ?_
    refine k_n ?_
    refine wp_region_lit ?_
    refine wl_v hF rfl rfl rfl (q_add rfl (hF.eval rfl) (hF.eval rfl) (by omega)) fun a hF => ?_
    refine wl_v hF rfl rfl rfl (q_move rfl (hF.eval rfl)) fun a hF => ?_
    refine wl_nil ?_
    refine k_n ?_
    have hO := hO.drop1 8
    have hO : St _ _ _ [_, _, _, _, _, _, _, _, _] := hO
    have hst : (stepF young k.at_ (m2, j) x).1 = (Mv.mk hs2 (moveF young m2 x).2.to (moveF young m2 x).2.qs) := by unfold stepF; dsimp only; rw [hset]
    exact ⟨(j + 1, (Mv.mk hs2 (moveF young m2 x).2.to (moveF young m2 x).2.qs), vr4, vq3, mc3, f3, ks3), ⟨⟨by omega, by rw [fold_on _ _ hx, ← hfo]; exact Prod.ext hst.symm rfl, by rw [← hst]; exact hI2.step young k.at_ j x, hf3, by omega, hks3, ⟨r2 ++ r3, by rw [hr3, hr2, List.append_assoc]⟩⟩, hO, hF.sub ⟨rfl, rfl, rfl, rfl, rfl, trivial⟩⟩, by dsimp only; omega⟩
  · skip
    refine wp_exit ?_
    refine k_x ?_
    refine k_x ?_
    refine b_x ?_
    refine r_0n hF rfl ?_
    have hje : j = k.fs.length := by omega
    rw [hje, List.take_length] at hfo
    have hm2 : fieldsF young m k.pr = m2 := (congrArg Prod.fst hfo).symm
    rw [hm2]
    have hO := hO.drop1 8
    have hO := hO.pull 7 rfl
    have hO := hO.pull 7 rfl
    have hO := hO.pull 7 rfl
    have hO := hO.pull 7 rfl
    have hO := hO.pull 7 rfl
    have hO := hO.pull 7 rfl
    have hO := hO.pull 7 rfl
    have hO := hO.pull 7 rfl
    have hO : St _ _ _ [_, _, _, _, _, _, _, _] := hO
    exact ⟨rfl, by rw [← hje]; exact hI2, _, _, mc2, _, ks2, hf2, by omega, hks2, ⟨r2, hr2⟩, hO⟩

end Go.Proofs.Ytglienidnffnjaa
