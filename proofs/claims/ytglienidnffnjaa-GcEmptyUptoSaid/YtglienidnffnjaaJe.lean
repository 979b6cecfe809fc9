import Derived.Test.YtglienidnffnjaaJd
namespace Go.Proofs.Ytglienidnffnjaa
open Go
set_option maxRecDepth 100000
set_option linter.unusedVariables false

theorem remembered0_r (w0 : World) (bh : Nat) (vw vh vr : Value) (h : Hp) (hH : HR w0 [] bh vw vh vr h) (hrm : h.rem = []) : Ret Try.prog 25 #[ptr (adr bh)] w0 (fun v w' => ∃ v2, v = v2 ∧ St w0 [] w' [slT v2 3 intE []]) :=
  (remembered_r w0 bh vw vh vr h hH (by rw [hrm]; decide)).mono fun v w' ⟨v2, h1, hS⟩ => ⟨v2, h1, by
    have e : sortF h.rem = [] := by rw [hrm]; simp [sortF]
    rwa [e] at hS⟩
theorem mv_0 {h : Hp} (hw : Wf h) (hrm : h.rem = []) : MvI (Mv.mk h [] []) 0 := ⟨hw, by rw [hrm]; exact Nat.le_refl _, Nat.le_refl _, fun k hk => by cases hk⟩
set_option maxHeartbeats 4000000 in
theorem mvall0_r (w0 : World) (bh : Nat) (vw vh vr : Value) (h : Hp) (hA : Owns w0 [.ob bh 77 (hpC vw vh vr h), slT vw 27 wordE h.words, slT vh 84 headE h.heads, slT vr 3 intE h.rem]) (hw : Wf h) (hrm : h.rem = []) (young : Bool) (vs : Value) (hR : RdT w0 (blks [.ob bh 77 (hpC vw vh vr h), slT vw 27 wordE h.words, slT vh 84 headE h.heads, slT vr 3 intE h.rem]) vs rtE ([] : List (Nat × Wd))) (F : Nat) (hF9 : F ≤ 1000) (m2 : Mv) (hq : queueG young F 0 (Mv.mk h [] []) = some m2) : Ret Try.prog 72 #[ptr (adr bh), vs, .bool young] w0 (fun v w' => ∃ vr2, v = .tuple #[] ∧ Wf m2.h ∧ m2.h.rem.length ≤ 10000000000 ∧ St w0 (blks [.ob bh 77 (hpC vw vh vr h), slT vw 27 wordE h.words, slT vh 84 headE h.heads, slT vr 3 intE h.rem]) w' [.ob bh 77 (hpC vw vh vr2 m2.h), slT vw 27 wordE m2.h.words, slT vh 84 headE m2.h.heads, slT vr2 3 intE m2.h.rem]) := by
  have hO := St.init hA
  refine ret_of (m := 82) Try.func72 rfl Try.ntmps72 [(0, ptr (adr bh)), (1, vs), (2, .bool young)] rfl ⟨rfl, rfl, rfl, trivial⟩ fun a hF => ?_
  refine wp_seq ?_
  refine wp_region_lit ?_
  refine wl_v hF rfl rfl rfl (q_move rfl (hF.eval rfl)) fun a hF => ?_
  refine wl_v hF rfl rfl rfl (q_move rfl (hF.eval rfl)) fun a hF => ?_
  refine wl_v hF rfl rfl rfl (c_build hF Try.underlying117 Try.zeroValue117 Try_places117 rfl rfl rfl rfl) fun a hF => ?_
  refine wl_e hF rfl rfl rfl (e_makeMap hO 3 rfl) ?_
  rintro a _ w ⟨bt, rfl, hO⟩ hF
  refine wl_v hF rfl rfl rfl (c_buildG hF Try.underlying123 Try.zeroValue123 Try_placesG123 rfl rfl rfl rfl) fun a hF => ?_
  refine wl_e hF rfl rfl rfl (e_box hO rfl (hF.eval rfl) rfl) ?_
  rintro a _ w ⟨bm, rfl, hO⟩ hF
  have hO := hO.nilSl 127 2
  have hO := hO.grp0
  refine wl_v hF rfl rfl rfl (q_assign rfl (hF.eval rfl)) fun a hF => ?_
  refine wl_nil ?_
  refine k_n ?_
  refine wp_seq ?_
  refine wp_region_lit ?_
  refine wl_e hF rfl rfl rfl (e_makeMapO hO rfl) ?_
  rintro a _ w ⟨bd, rfl, hO⟩ hF
  refine wl_s hF rfl rfl (e_insP (v := .bool true) hO (i := 0) rfl Try.underlying124 Try.underlying70 rfl (hF.eval rfl) rfl rfl) ?_
  rintro a _ w ⟨-, hO⟩ hF
  refine wl_v hF rfl rfl rfl (q_move rfl (hF.eval rfl)) fun a hF => ?_
  refine wl_v hF rfl rfl rfl (q_assign rfl (hF.eval rfl)) fun a hF => ?_
  refine wl_nil ?_
  refine k_n ?_
  refine wp_seq ?_
  refine wp_seq ?_
  refine wp_region_lit ?_
  refine wl_v hF rfl rfl rfl (q_move rfl (hF.eval rfl)) fun a hF => ?_
  refine wl_v hF rfl rfl rfl (q_lenRd hR Try.underlying103 rfl (hF.eval rfl)) fun a hF => ?_
  refine wl_v hF rfl rfl rfl (q_move rfl (hF.eval rfl)) fun a hF => ?_
  refine wl_nil ?_
  refine k_n ?_
  refine wp_block ?_
  have hO := hO.pull 1 rfl
  have hO := hO.pull 2 rfl
  have hO := hO.pull 4 rfl
  have hO := hO.pull 4 rfl
  have hO := hO.pull 8 rfl
  have hO := hO.pull 8 rfl
  have hO := hO.pull 8 rfl
  have hO := hO.pull 8 rfl
  have hO : St _ _ _ [_, _, _, _, _, _, _, _, _] := hO
  refine wp_loopS (fun (y : Nat × Unit) a w' => match y with | (i, u) => (i = 0) ∧ St w0 (blks [.ob bh 77 (hpC vw vh vr h), slT vw 27 wordE h.words, slT vh 84 headE h.heads, slT vr 3 intE h.rem]) w' [.ob bh 77 (hpC vw vh vr ((Mv.mk h [] [])).h), slT vw 27 wordE ((Mv.mk h [] [])).h.words, slT vh 84 headE ((Mv.mk h [] [])).h.heads, slT vr 3 intE ((Mv.mk h [] [])).h.rem, .ob bm 123 [ptr (adr bh), .bool young, .map none, .slice none 0 0, i64 0, .map (some bt), (.slice none 0 0)], Ent.mapE Try.prog 3 bt 0 (fun _ => none), slT (.slice none 0 0) 127 koE [], Ent.grp (([]).map krow), .mp bd (.map #[nilEnt (.bool true)] 1)] ∧ Fr a 82 [(0, ptr (adr bh)), (2, .bool young), (6, ptr (adr bm)), (7, .map (some bd)), (23, vs), (24, i64 (([] : List (Nat × Wd))).length), (25, i64 i)]) (fun (y : Nat × Unit) => match y with | (i, u) => 0) (0, ()) ⟨rfl, hO, hF.sub ⟨rfl, rfl, rfl, rfl, rfl, rfl, rfl, trivial⟩⟩ ?_
  rintro ⟨i, u⟩ a w ⟨hi0, hO, hF⟩
  refine wp_seq ?_
  refine wp_region_lit ?_
  refine wl_v hF rfl rfl rfl (q_lt rfl (hF.eval rfl) (hF.eval rfl)) fun a hF => ?_
  refine wl_nil ?_
  refine k_n ?_
  refine wp_seq ?_
  refine wp_ifD hF rfl rfl (fun hc1 => ?_) (fun hc1 => ?_)
  · skip
    exact absurd hc1 (by rw [hi0]; simp)
  · skip
    have hI := mv_0 hw hrm
    have hrm2 := hrm
    have hmc : 0 ≤ 0 := Nat.le_refl _
    have hf : NumF (fun _ => none) (toG []) := toG_none
    have hks : ([] : List Ko).map Ko.pr = [] := rfl
    have hil : i = 0 := hi0
    refine wp_exit ?_
    refine k_x ?_
    refine k_x ?_
    refine b_x ?_
    refine k_n ?_
    refine wp_seqJ (fun (u : Unit) a w' => (True) ∧ St w0 (blks [.ob bh 77 (hpC vw vh vr h), slT vw 27 wordE h.words, slT vh 84 headE h.heads, slT vr 3 intE h.rem]) w' [.ob bh 77 (hpC vw vh vr ((Mv.mk h [] [])).h), slT vw 27 wordE ((Mv.mk h [] [])).h.words, slT vh 84 headE ((Mv.mk h [] [])).h.heads, slT vr 3 intE ((Mv.mk h [] [])).h.rem, .ob bm 123 [ptr (adr bh), .bool young, .map none, .slice none 0 0, i64 0, .map (some bt), (.slice none 0 0)], Ent.mapE Try.prog 3 bt 0 (fun _ => none), slT (.slice none 0 0) 127 koE [], Ent.grp (([]).map krow)] ∧ Fr a 82 [(0, ptr (adr bh)), (2, .bool young), (6, ptr (adr bm))]) ?_ ?_
    · skip
      refine wp_seq ?_
      refine wp_region_lit ?_
      refine wl_v hF rfl rfl rfl (q_move rfl (hF.eval rfl)) fun a hF => ?_
      refine wl_nil ?_
      refine k_n ?_
      refine wp_ifD hF rfl (dec_b _) (fun hc2 => ?_) (fun hc2 => ?_)
      · skip
        refine wp_seq ?_
        refine wp_region_lit ?_
        refine wl_v hF rfl rfl rfl (q_move rfl (hF.eval rfl)) fun a hF => ?_
        refine wl_e hF rfl rfl rfl (c_call hF rfl rfl Try.call25 (remembered0_r _ _ _ _ _ _ (hO.hr 0 1 2 3 rfl rfl rfl rfl) hrm2)) ?_
        rintro a vr9 w ⟨_, rfl, hS⟩ hF
        have hO := hO.call0 hS
        have hO : St _ _ _ [_, _, _, _, _, _, _, _, _, _] := hO
        refine wl_v hF rfl rfl rfl (q_lenRd (hO.rd 0 rfl) Try.underlying36 rfl (hF.eval rfl)) fun a hF => ?_
        refine wl_v hF rfl rfl rfl (q_move rfl (hF.eval rfl)) fun a hF => ?_
        refine wl_nil ?_
        refine k_n ?_
        refine wp_block ?_
        have hO := hO.drop1 0
        have hO := hO.drop1 8
        have hO : St _ _ _ [_, _, _, _, _, _, _, _] := hO
        refine wp_loopS (fun (j : Nat) a w' => (j = 0) ∧ St w0 (blks [.ob bh 77 (hpC vw vh vr h), slT vw 27 wordE h.words, slT vh 84 headE h.heads, slT vr 3 intE h.rem]) w' [.ob bh 77 (hpC vw vh vr ((Mv.mk h [] [])).h), slT vw 27 wordE ((Mv.mk h [] [])).h.words, slT vh 84 headE ((Mv.mk h [] [])).h.heads, slT vr 3 intE ((Mv.mk h [] [])).h.rem, .ob bm 123 [ptr (adr bh), .bool young, .map none, .slice none 0 0, i64 0, .map (some bt), (.slice none 0 0)], Ent.mapE Try.prog 3 bt 0 (fun _ => none), slT (.slice none 0 0) 127 koE [], Ent.grp (([]).map krow)] ∧ Fr a 82 [(0, ptr (adr bh)), (2, .bool young), (6, ptr (adr bm)), (45, vr9), (46, i64 (([] : List Int).length)), (47, i64 j)]) (fun (j : Nat) => 0) 0 ⟨rfl, hO, hF.sub ⟨rfl, rfl, rfl, rfl, rfl, rfl, trivial⟩⟩ ?_
        rintro j a w ⟨hj, hO, hF⟩
        refine wp_seq ?_
        refine wp_region_lit ?_
        refine wl_v hF rfl rfl rfl (q_lt rfl (hF.eval rfl) (hF.eval rfl)) fun a hF => ?_
        refine wl_nil ?_
        refine k_n ?_
        refine wp_seq ?_
        refine wp_ifD hF rfl rfl (fun hc3 => ?_) (fun hc3 => ?_)
        · skip
          exact absurd hc3 (by rw [hj]; simp)
        · skip
          refine wp_exit ?_
          refine k_x ?_
          refine k_x ?_
          refine b_x ?_
          refine k_n ?_
          have hO : St _ _ _ [_, _, _, _, _, _, _, _] := hO
          exact ⟨(), ⟨trivial, hO, hF.sub ⟨rfl, rfl, rfl, trivial⟩⟩⟩
      · skip
        refine wp_skip ?_
        refine k_n ?_
        have hO := hO.drop1 8
        have hO : St _ _ _ [_, _, _, _, _, _, _, _] := hO
        exact ⟨(), ⟨trivial, hO, hF.sub ⟨rfl, rfl, rfl, trivial⟩⟩⟩
    · skip
      rintro u a w ⟨_, hO, hF⟩
      refine wp_seq ?_
      refine wp_region_lit ?_
      refine wl_v hF rfl rfl rfl (q_assign rfl (hF.eval rfl)) fun a hF => ?_
      refine wl_nil ?_
      refine k_n ?_
      refine wp_block ?_
      have hO : St _ _ _ [_, _, _, _, _, _, _, _] := hO
      refine wp_loopS (fun (z : Nat × Nat × Nat × Mv × Value × Value × Nat × (Lit → Option Value) × List Ko) a w' => match z with | (g, i, c, m, vr6, vq, mc, f, ks) => (queueG young g i m = some m2 ∧ MvI m c ∧ c + g * 4194304 ≤ 10 + F * 4194304 ∧ mc ≤ c ∧ NumF f (toG m.to) ∧ ks.map Ko.pr = m.qs ∧ i ≤ ks.length) ∧ St w0 (blks [.ob bh 77 (hpC vw vh vr h), slT vw 27 wordE h.words, slT vh 84 headE h.heads, slT vr 3 intE h.rem]) w' [.ob bh 77 (hpC vw vh vr6 (m).h), slT vw 27 wordE (m).h.words, slT vh 84 headE (m).h.heads, slT vr6 3 intE (m).h.rem, .ob bm 123 [ptr (adr bh), .bool young, .map none, .slice none 0 0, i64 0, .map (some bt), vq], Ent.mapE Try.prog 3 bt mc f, slT vq 127 koE ks, Ent.grp ((ks).map krow)] ∧ Fr a 82 [(0, ptr (adr bh)), (2, .bool young), (6, ptr (adr bm)), (14, i64 i)]) (fun (z : Nat × Nat × Nat × Mv × Value × Value × Nat × (Lit → Option Value) × List Ko) => match z with | (g, i, c, m, vr6, vq, mc, f, ks) => g) (F, 0, 0, (Mv.mk h [] []), vr, (.slice none 0 0), 0, (fun _ => none), []) ⟨⟨hq, hI, by omega, hmc, hf, hks, by omega⟩, hO, hF.sub ⟨rfl, rfl, rfl, rfl, trivial⟩⟩ ?_
      rintro ⟨g, i, c, m, vr6, vq, mc, f, ks⟩ a w ⟨⟨hb, hI, hcg, hmc, hf, hks, hik⟩, hO, hF⟩
      have hql := hI.2.2.1
      have hkl9 : ks.length = m.qs.length := by rw [← hks, List.length_map]
      refine wp_seq ?_
      refine wp_seq ?_
      refine wp_region_lit ?_
      refine wl_v hF rfl rfl rfl (q_move rfl (hF.eval rfl)) fun a hF => ?_
      refine wl_v hF rfl rfl rfl (q_move rfl (hF.eval rfl)) fun a hF => ?_
      refine wl_v hF rfl rfl rfl (q_nilCheck rfl (hF.eval rfl)) fun a hF => ?_
      refine wl_v hF rfl rfl rfl (q_fieldAddr0 (d := 6) Try.underlying123 rfl (hF.eval rfl) rfl Try.sizeOf121 (by decide) rfl) fun a hF => ?_
      refine wl_v hF rfl rfl rfl (q_load Try.isAgg121 rfl (hF.eval rfl) (hO.cell 4 rfl rfl)) fun a hF => ?_
      refine wl_v hF rfl rfl rfl (q_lenRd (hO.rd 6 rfl) Try.underlying121 rfl (hF.eval rfl)) fun a hF => ?_
      refine wl_v hF rfl rfl rfl (q_lt rfl (hF.eval rfl) (hF.eval rfl)) fun a hF => ?_
      refine wl_nil ?_
      refine k_n ?_
      refine wp_ifD hF rfl rfl (fun hc4 => ?_) (fun hc4 => ?_)
      · skip
        obtain ⟨g, rfl⟩ := queue_cons hb
        refine wp_skip ?_
        refine k_n ?_
        refine wp_seq ?_
        refine wp_block ?_
        refine wp_region_lit ?_
        refine wl_v hF rfl rfl rfl (q_move rfl (hF.eval rfl)) fun a hF => ?_
        refine wl_v hF rfl rfl rfl (q_move rfl (hF.eval rfl)) fun a hF => ?_
        refine wl_v hF rfl rfl rfl (q_nilCheck rfl (hF.eval rfl)) fun a hF => ?_
        refine wl_v hF rfl rfl rfl (q_fieldAddr0 (d := 6) Try.underlying123 rfl (hF.eval rfl) rfl Try.sizeOf121 (by decide) rfl) fun a hF => ?_
        refine wl_v hF rfl rfl rfl (q_load Try.isAgg121 rfl (hF.eval rfl) (hO.cell 4 rfl rfl)) fun a hF => ?_
        refine wl_v hF rfl rfl rfl (q_move rfl (hF.eval rfl)) fun a hF => ?_
        obtain ⟨k, hk⟩ := get_ex (l := ks) (i := i) (by omega)
        refine wl_v hF rfl rfl rfl (q_at (i := i) (hO.rd 6 rfl) Try.underlying121 Try.sizeOf127 rfl (hF.eval rfl) (hF.eval rfl) (by omega)) fun a hF => ?_
        refine wl_v hF rfl rfl rfl (q_loadAgg Try.isAgg127 Try.sizeOf127 rfl (hF.eval rfl) (RdT.cells (hO.rdT 6 rfl) hk) rfl) fun a hF => ?_
        have hO := hO.pull 7 rfl
        have hO := hO.pull 7 rfl
        have hO := hO.pull 7 rfl
        have hO := hO.pull 7 rfl
        have hO := hO.pull 7 rfl
        have hO := hO.pull 7 rfl
        have hO := hO.pull 7 rfl
        have hO := hO.pull 7 rfl
        have hO : St _ _ _ [_, _, _, _, _, _, _, _] := hO
        refine wl_e hF rfl rfl rfl (c_call hF rfl rfl Try.call82 (fields_r _ bh bm bt _ c _ _ _ _ young m _ _ hO.own8 hI (hmc) (by omega) hf hks _ k hk)) ?_
        rintro a _ w ⟨rfl, hI3, vr3, vq3, mc3, f3, ks3, hf3, hmc3, hks3, ⟨r3, hr3⟩, hS⟩ hF
        have hO := hO.call8 hS
        have hO : St _ _ _ [_, _, _, _, _, _, _, _] := hO
        refine wl_nil ?_
        refine b_n ?_
        refine k_n ?_
        refine wp_region_lit ?_
        refine wl_v hF rfl rfl rfl (q_move rfl (hF.eval rfl)) fun a hF => ?_
        refine wl_v hF rfl rfl rfl (q_add rfl (hF.eval rfl) (hF.eval rfl) (by omega)) fun a hF => ?_
        refine wl_v hF rfl rfl rfl (q_assign rfl (hF.eval rfl)) fun a hF => ?_
        refine wl_nil ?_
        refine k_n ?_
        have hO : St _ _ _ [_, _, _, _, _, _, _, _] := hO
        have hkf : k.fs.length ≤ 3145728 := hI.2.2.2 k.pr (by rw [← hks]; exact List.mem_map.2 ⟨k, List.mem_of_getElem? hk, rfl⟩)
        exact ⟨(g, i + 1, c + k.fs.length, fieldsF young m k.pr, vr3, vq3, mc3, f3, ks3), ⟨⟨queue_on (by rw [← hks, List.getElem?_map, hk]; rfl) hb, hI3, by omega, hmc3, hf3, hks3, by rw [hr3, List.length_append]; omega⟩, hO, hF.sub ⟨rfl, rfl, rfl, rfl, trivial⟩⟩, by dsimp only; omega⟩
      · skip
        obtain rfl := queue_end (by have := congrArg List.length hks; rw [List.length_map] at this; omega) hb
        have hrl9 := hI.2.1
        refine wp_exit ?_
        refine k_x ?_
        refine k_x ?_
        refine b_x ?_
        refine r_0n hF rfl ?_
        have hO := hO.drop1 4
        have hO := hO.drop1 4
        have hO := hO.drop1 4
        have hO := hO.drop1 4
        have hO : St _ _ _ [_, _, _, _] := hO
        exact ⟨_, rfl, hI.1, by omega, hO⟩

set_option maxHeartbeats 4000000 in
theorem mvall1_r (w0 : World) (bh : Nat) (vw vh vr : Value) (h : Hp) (br : Nat) (x : Wd) (hA : Owns w0 [.ob bh 77 (hpC vw vh vr h), slT vw 27 wordE h.words, slT vh 84 headE h.heads, slT vr 3 intE h.rem, .ob br 27 (wordE.cells x)]) (hw : Wf h) (hrm : h.rem = []) (young : Bool) (vs : Value) (hR : RdT w0 (blks [.ob bh 77 (hpC vw vh vr h), slT vw 27 wordE h.words, slT vh 84 headE h.heads, slT vr 3 intE h.rem, .ob br 27 (wordE.cells x)]) vs rtE [(br, x)]) (F : Nat) (hF9 : F ≤ 1000) (m2 : Mv) (hq : queueG young F 0 (moveF young (Mv.mk h [] []) x).2 = some m2) : Ret Try.prog 72 #[ptr (adr bh), vs, .bool young] w0 (fun v w' => ∃ vr2, v = .tuple #[] ∧ Wf m2.h ∧ m2.h.rem.length ≤ 10000000000 ∧ St w0 (blks [.ob bh 77 (hpC vw vh vr h), slT vw 27 wordE h.words, slT vh 84 headE h.heads, slT vr 3 intE h.rem, .ob br 27 (wordE.cells x)]) w' [.ob bh 77 (hpC vw vh vr2 m2.h), slT vw 27 wordE m2.h.words, slT vh 84 headE m2.h.heads, slT vr2 3 intE m2.h.rem, .ob br 27 (wordE.cells (moveF young (Mv.mk h [] []) x).1)]) := by
  have hO := St.init hA
  refine ret_of (m := 82) Try.func72 rfl Try.ntmps72 [(0, ptr (adr bh)), (1, vs), (2, .bool young)] rfl ⟨rfl, rfl, rfl, trivial⟩ fun a hF => ?_
  refine wp_seq ?_
  refine wp_region_lit ?_
  refine wl_v hF rfl rfl rfl (q_move rfl (hF.eval rfl)) fun a hF => ?_
  refine wl_v hF rfl rfl rfl (q_move rfl (hF.eval rfl)) fun a hF => ?_
  refine wl_v hF rfl rfl rfl (c_build hF Try.underlying117 Try.zeroValue117 Try_places117 rfl rfl rfl rfl) fun a hF => ?_
  refine wl_e hF rfl rfl rfl (e_makeMap hO 3 rfl) ?_
  rintro a _ w ⟨bt, rfl, hO⟩ hF
  refine wl_v hF rfl rfl rfl (c_buildG hF Try.underlying123 Try.zeroValue123 Try_placesG123 rfl rfl rfl rfl) fun a hF => ?_
  refine wl_e hF rfl rfl rfl (e_box hO rfl (hF.eval rfl) rfl) ?_
  rintro a _ w ⟨bm, rfl, hO⟩ hF
  have hO := hO.nilSl 127 2
  have hO := hO.grp0
  refine wl_v hF rfl rfl rfl (q_assign rfl (hF.eval rfl)) fun a hF => ?_
  refine wl_nil ?_
  refine k_n ?_
  refine wp_seq ?_
  refine wp_region_lit ?_
  refine wl_e hF rfl rfl rfl (e_makeMapO hO rfl) ?_
  rintro a _ w ⟨bd, rfl, hO⟩ hF
  refine wl_s hF rfl rfl (e_insP (v := .bool true) hO (i := 0) rfl Try.underlying124 Try.underlying70 rfl (hF.eval rfl) rfl rfl) ?_
  rintro a _ w ⟨-, hO⟩ hF
  refine wl_v hF rfl rfl rfl (q_move rfl (hF.eval rfl)) fun a hF => ?_
  refine wl_v hF rfl rfl rfl (q_assign rfl (hF.eval rfl)) fun a hF => ?_
  refine wl_nil ?_
  refine k_n ?_
  refine wp_seq ?_
  refine wp_seq ?_
  refine wp_region_lit ?_
  refine wl_v hF rfl rfl rfl (q_move rfl (hF.eval rfl)) fun a hF => ?_
  refine wl_v hF rfl rfl rfl (q_lenRd hR Try.underlying103 rfl (hF.eval rfl)) fun a hF => ?_
  refine wl_v hF rfl rfl rfl (q_move rfl (hF.eval rfl)) fun a hF => ?_
  refine wl_nil ?_
  refine k_n ?_
  refine wp_block ?_
  have hO := hO.pull 9 rfl
  have hO := hO.pull 1 rfl
  have hO := hO.pull 2 rfl
  have hO := hO.pull 3 rfl
  have hO := hO.pull 5 rfl
  have hO := hO.pull 5 rfl
  have hO := hO.pull 9 rfl
  have hO := hO.pull 9 rfl
  have hO := hO.pull 9 rfl
  have hO := hO.pull 9 rfl
  have hO : St _ _ _ [_, _, _, _, _, _, _, _, _, _] := hO
  refine wp_loopS (fun (y : Nat × Mv × Wd × Value × Value × Nat × (Lit → Option Value) × List Ko × Array MapEntry × Nat) a w' => match y with | (i, m, y, vr5, vq, mc, f, ks, es, ck) => (((i = 0 ∧ m = (Mv.mk h [] []) ∧ x = y ∧ es = #[nilEnt (.bool true)] ∧ ck = 1) ∨ (i = 1 ∧ m = (moveF young (Mv.mk h [] []) x).2 ∧ y = (moveF young (Mv.mk h [] []) x).1)) ∧ MvI m i ∧ m.h.rem = [] ∧ mc ≤ i ∧ NumF f (toG m.to) ∧ ks.map Ko.pr = m.qs) ∧ St w0 (blks [.ob bh 77 (hpC vw vh vr h), slT vw 27 wordE h.words, slT vh 84 headE h.heads, slT vr 3 intE h.rem, .ob br 27 (wordE.cells x)]) w' [.ob bh 77 (hpC vw vh vr5 (m).h), slT vw 27 wordE (m).h.words, slT vh 84 headE (m).h.heads, slT vr5 3 intE (m).h.rem, .ob bm 123 [ptr (adr bh), .bool young, .map none, .slice none 0 0, i64 0, .map (some bt), vq], Ent.mapE Try.prog 3 bt mc f, slT vq 127 koE ks, Ent.grp ((ks).map krow), .mp bd (.map es ck), .ob br 27 (wordE.cells y)] ∧ Fr a 82 [(0, ptr (adr bh)), (2, .bool young), (6, ptr (adr bm)), (7, .map (some bd)), (23, vs), (24, i64 ([(br, x)]).length), (25, i64 i)]) (fun (y : Nat × Mv × Wd × Value × Value × Nat × (Lit → Option Value) × List Ko × Array MapEntry × Nat) => match y with | (i, m, y, vr5, vq, mc, f, ks, es, ck) => 1 - i) (0, (Mv.mk h [] []), x, vr, _, 0, fun _ => none, [], _, _) ⟨⟨.inl ⟨rfl, rfl, rfl, rfl, rfl⟩, mv_0 hw hrm, hrm, by omega, toG_none, rfl⟩, hO, hF.sub ⟨rfl, rfl, rfl, rfl, rfl, rfl, rfl, trivial⟩⟩ ?_
  rintro ⟨i, m, y, vr5, vq, mc, f, ks, es, ck⟩ a w ⟨⟨hst, hI, hrm2, hmc, hf, hks⟩, hO, hF⟩
  refine wp_seq ?_
  refine wp_region_lit ?_
  refine wl_v hF rfl rfl rfl (q_lt rfl (hF.eval rfl) (hF.eval rfl)) fun a hF => ?_
  refine wl_nil ?_
  refine k_n ?_
  refine wp_seq ?_
  refine wp_ifD hF rfl rfl (fun hc1 => ?_) (fun hc1 => ?_)
  · skip
    have hil : i < 1 := by have : ((([(br, x)] : List (Nat × Wd)).length : Nat) : Int) = 1 := rfl; omega
    obtain ⟨rfl, rfl, rfl, rfl, rfl⟩ := hst.resolve_right (fun h => by omega)
    refine wp_skip ?_
    refine k_n ?_
    refine wp_seq ?_
    refine wp_block ?_
    refine wp_seq ?_
    refine wp_region_lit ?_
    obtain ⟨p, hp⟩ := get_ex (l := [(br, x)]) (i := 0) (by simp)
    refine wl_v hF rfl rfl rfl (q_at (i := 0) hR Try.underlying103 Try.sizeOf70 rfl (hF.eval rfl) (hF.eval rfl) (by simp)) fun a hF => ?_
    obtain rfl : p = (br, x) := (Option.some.inj hp).symm
    refine wl_v hF rfl rfl rfl (q_load Try.isAgg70 rfl (hF.eval rfl) (RdT.cell0 (hR.now hO) hp rfl)) fun a hF => ?_
    refine wl_v hF rfl rfl rfl (q_assign rfl (hF.eval rfl)) fun a hF => ?_
    refine wl_nil ?_
    refine k_n ?_
    refine wp_seq ?_
    refine wp_region_lit ?_
    refine wl_v hF rfl rfl rfl (q_move rfl (hF.eval rfl)) fun a hF => ?_
    refine wl_v hF rfl rfl rfl (q_move rfl (hF.eval rfl)) fun a hF => ?_
    refine wl_v hF rfl rfl rfl (q_lookP hO (i := 8) rfl Try.underlying124 Try.underlying70 (Try.zeroValue4 _) rfl (hF.eval rfl) (hF.eval rfl)) fun a hF => ?_
    refine wl_v hF rfl rfl rfl (q_not rfl (hF.eval rfl) (dec_b _)) fun a hF => ?_
    refine wl_nil ?_
    refine k_n ?_
    refine wp_ifD hF rfl rfl (fun hc2 => ?_) (fun hc2 => ?_)
    · skip
      refine wp_seq ?_
      refine wp_region_lit ?_
      refine wl_v hF rfl rfl rfl (q_move rfl (hF.eval rfl)) fun a hF => ?_
      refine wl_v hF rfl rfl rfl (q_move rfl (hF.eval rfl)) fun a hF => ?_
      refine wl_s hF rfl rfl (e_updP (z := .bool true) hO (i := 8) rfl Try.underlying124 Try.underlying70 rfl (hF.eval rfl) (hF.eval rfl) rfl) ?_
      rintro a _ w ⟨-, hO⟩ hF
      refine wl_nil ?_
      refine k_n ?_
      refine wp_region_lit ?_
      refine wl_v hF rfl rfl rfl (q_move rfl (hF.eval rfl)) fun a hF => ?_
      refine wl_v hF rfl rfl rfl (q_move rfl (hF.eval rfl)) fun a hF => ?_
      refine wl_v hF rfl rfl rfl (q_move rfl (hF.eval rfl)) fun a hF => ?_
      refine wl_v hF rfl rfl rfl (q_nilCheck rfl (hF.eval rfl)) fun a hF => ?_
      refine wl_v hF rfl rfl rfl (q_loadAgg Try.isAgg27 Try.sizeOf27 rfl (hF.eval rfl) (hO.cells 9 rfl) rfl) fun a hF => ?_
      have hO := hO.pull 7 rfl
      have hO := hO.pull 7 rfl
      have hO := hO.pull 7 rfl
      have hO := hO.pull 7 rfl
      have hO := hO.pull 7 rfl
      have hO := hO.pull 7 rfl
      have hO := hO.pull 7 rfl
      have hO := hO.pull 7 rfl
      have hO : St _ _ _ [_, _, _, _, _, _, _, _, _, _] := hO
      refine wl_e hF rfl rfl rfl (c_call hF rfl rfl Try.call81 (move_r _ bh bm bt _ 0 _ _ _ _ young (Mv.mk h [] []) _ _ hO.own8 hI (hmc) (by omega) hf hks x)) ?_
      rintro a _ w ⟨rfl, vr3, vq3, mc3, f3, ks3, hf3, hmc3, hks3, ⟨r3, hr3⟩, hS⟩ hF
      have hO := hO.call8 hS
      have hO : St _ _ _ [_, _, _, _, _, _, _, _, _, _] := hO
      refine wl_v hF rfl rfl rfl (q_nilCheck rfl (hF.eval rfl)) fun a hF => ?_
      refine wl_s hF rfl rfl (e_storeAll hO (i := 9) rfl Try.sizeOf27 rfl (hF.eval rfl) (hF.eval rfl) rfl rfl) ?_
      rintro a _ w ⟨-, hO⟩ hF
      have hO : St _ _ _ [_, _, _, _, _, _, _, _, _, _] := hO
      refine wl_nil ?_
      refine b_n ?_
      refine k_n ?_
      refine wp_region_lit ?_
      refine wl_v hF rfl rfl rfl (q_add rfl (hF.eval rfl) (hF.eval rfl) (by omega)) fun a hF => ?_
      refine wl_v hF rfl rfl rfl (q_move rfl (hF.eval rfl)) fun a hF => ?_
      refine wl_nil ?_
      refine k_n ?_
      have hO : St _ _ _ [_, _, _, _, _, _, _, _, _, _] := hO
      exact ⟨(1, (moveF young (Mv.mk h [] []) x).2, (moveF young (Mv.mk h [] []) x).1, vr3, vq3, mc3, f3, ks3, _, _), ⟨⟨.inr ⟨rfl, rfl, rfl⟩, (hI.move young x).1, (hI.move young x).2.trans hrm, hmc3, hf3, hks3⟩, hO, hF.sub ⟨rfl, rfl, rfl, rfl, rfl, rfl, rfl, trivial⟩⟩, by dsimp only; omega⟩
    · skip
      exact absurd (by simp) hc2
  · skip
    have hil : ¬ i < 1 := by have : ((([(br, x)] : List (Nat × Wd)).length : Nat) : Int) = 1 := rfl; omega
    obtain ⟨rfl, rfl, rfl⟩ := hst.resolve_left (fun h => by omega)
    have hq := hq
    refine wp_exit ?_
    refine k_x ?_
    refine k_x ?_
    refine b_x ?_
    refine k_n ?_
    refine wp_seqJ (fun (u : Unit) a w' => (True) ∧ St w0 (blks [.ob bh 77 (hpC vw vh vr h), slT vw 27 wordE h.words, slT vh 84 headE h.heads, slT vr 3 intE h.rem, .ob br 27 (wordE.cells x)]) w' [.ob bh 77 (hpC vw vh vr5 ((moveF young (Mv.mk h [] []) x).2).h), slT vw 27 wordE ((moveF young (Mv.mk h [] []) x).2).h.words, slT vh 84 headE ((moveF young (Mv.mk h [] []) x).2).h.heads, slT vr5 3 intE ((moveF young (Mv.mk h [] []) x).2).h.rem, .ob bm 123 [ptr (adr bh), .bool young, .map none, .slice none 0 0, i64 0, .map (some bt), vq], Ent.mapE Try.prog 3 bt mc f, slT vq 127 koE ks, Ent.grp ((ks).map krow), .ob br 27 (wordE.cells (moveF young (Mv.mk h [] []) x).1)] ∧ Fr a 82 [(0, ptr (adr bh)), (2, .bool young), (6, ptr (adr bm))]) ?_ ?_
    · skip
      refine wp_seq ?_
      refine wp_region_lit ?_
      refine wl_v hF rfl rfl rfl (q_move rfl (hF.eval rfl)) fun a hF => ?_
      refine wl_nil ?_
      refine k_n ?_
      refine wp_ifD hF rfl (dec_b _) (fun hc3 => ?_) (fun hc3 => ?_)
      · skip
        refine wp_seq ?_
        refine wp_region_lit ?_
        refine wl_v hF rfl rfl rfl (q_move rfl (hF.eval rfl)) fun a hF => ?_
        refine wl_e hF rfl rfl rfl (c_call hF rfl rfl Try.call25 (remembered0_r _ _ _ _ _ _ (hO.hr 0 1 2 3 rfl rfl rfl rfl) hrm2)) ?_
        rintro a vr9 w ⟨_, rfl, hS⟩ hF
        have hO := hO.call0 hS
        have hO : St _ _ _ [_, _, _, _, _, _, _, _, _, _, _] := hO
        refine wl_v hF rfl rfl rfl (q_lenRd (hO.rd 0 rfl) Try.underlying36 rfl (hF.eval rfl)) fun a hF => ?_
        refine wl_v hF rfl rfl rfl (q_move rfl (hF.eval rfl)) fun a hF => ?_
        refine wl_nil ?_
        refine k_n ?_
        refine wp_block ?_
        have hO := hO.drop1 0
        have hO := hO.drop1 8
        have hO : St _ _ _ [_, _, _, _, _, _, _, _, _] := hO
        refine wp_loopS (fun (j : Nat) a w' => (j = 0) ∧ St w0 (blks [.ob bh 77 (hpC vw vh vr h), slT vw 27 wordE h.words, slT vh 84 headE h.heads, slT vr 3 intE h.rem, .ob br 27 (wordE.cells x)]) w' [.ob bh 77 (hpC vw vh vr5 ((moveF young (Mv.mk h [] []) x).2).h), slT vw 27 wordE ((moveF young (Mv.mk h [] []) x).2).h.words, slT vh 84 headE ((moveF young (Mv.mk h [] []) x).2).h.heads, slT vr5 3 intE ((moveF young (Mv.mk h [] []) x).2).h.rem, .ob bm 123 [ptr (adr bh), .bool young, .map none, .slice none 0 0, i64 0, .map (some bt), vq], Ent.mapE Try.prog 3 bt mc f, slT vq 127 koE ks, Ent.grp ((ks).map krow), .ob br 27 (wordE.cells (moveF young (Mv.mk h [] []) x).1)] ∧ Fr a 82 [(0, ptr (adr bh)), (2, .bool young), (6, ptr (adr bm)), (45, vr9), (46, i64 (([] : List Int).length)), (47, i64 j)]) (fun (j : Nat) => 0) 0 ⟨rfl, hO, hF.sub ⟨rfl, rfl, rfl, rfl, rfl, rfl, trivial⟩⟩ ?_
        rintro j a w ⟨hj, hO, hF⟩
        refine wp_seq ?_
        refine wp_region_lit ?_
        refine wl_v hF rfl rfl rfl (q_lt rfl (hF.eval rfl) (hF.eval rfl)) fun a hF => ?_
        refine wl_nil ?_
        refine k_n ?_
        refine wp_seq ?_
        refine wp_ifD hF rfl rfl (fun hc4 => ?_) (fun hc4 => ?_)
        · skip
          exact absurd hc4 (by rw [hj]; simp)
        · skip
          refine wp_exit ?_
          refine k_x ?_
          refine k_x ?_
          refine b_x ?_
          refine k_n ?_
          have hO : St _ _ _ [_, _, _, _, _, _, _, _, _] := hO
          exact ⟨(), ⟨trivial, hO, hF.sub ⟨rfl, rfl, rfl, trivial⟩⟩⟩
      · skip
        refine wp_skip ?_
        refine k_n ?_
        have hO := hO.drop1 8
        have hO : St _ _ _ [_, _, _, _, _, _, _, _, _] := hO
        exact ⟨(), ⟨trivial, hO, hF.sub ⟨rfl, rfl, rfl, trivial⟩⟩⟩
    · skip
      rintro u a w ⟨_, hO, hF⟩
      refine wp_seq ?_
      refine wp_region_lit ?_
      refine wl_v hF rfl rfl rfl (q_assign rfl (hF.eval rfl)) fun a hF => ?_
      refine wl_nil ?_
      refine k_n ?_
      refine wp_block ?_
      have hO : St _ _ _ [_, _, _, _, _, _, _, _, _] := hO
      refine wp_loopS (fun (z : Nat × Nat × Nat × Mv × Value × Value × Nat × (Lit → Option Value) × List Ko) a w' => match z with | (g, i, c, m, vr6, vq, mc, f, ks) => (queueG young g i m = some m2 ∧ MvI m c ∧ c + g * 4194304 ≤ 10 + F * 4194304 ∧ mc ≤ c ∧ NumF f (toG m.to) ∧ ks.map Ko.pr = m.qs ∧ i ≤ ks.length) ∧ St w0 (blks [.ob bh 77 (hpC vw vh vr h), slT vw 27 wordE h.words, slT vh 84 headE h.heads, slT vr 3 intE h.rem, .ob br 27 (wordE.cells x)]) w' [.ob bh 77 (hpC vw vh vr6 (m).h), slT vw 27 wordE (m).h.words, slT vh 84 headE (m).h.heads, slT vr6 3 intE (m).h.rem, .ob bm 123 [ptr (adr bh), .bool young, .map none, .slice none 0 0, i64 0, .map (some bt), vq], Ent.mapE Try.prog 3 bt mc f, slT vq 127 koE ks, Ent.grp ((ks).map krow), .ob br 27 (wordE.cells (moveF young (Mv.mk h [] []) x).1)] ∧ Fr a 82 [(0, ptr (adr bh)), (2, .bool young), (6, ptr (adr bm)), (14, i64 i)]) (fun (z : Nat × Nat × Nat × Mv × Value × Value × Nat × (Lit → Option Value) × List Ko) => match z with | (g, i, c, m, vr6, vq, mc, f, ks) => g) (F, 0, 1, (moveF young (Mv.mk h [] []) x).2, vr5, vq, mc, f, ks) ⟨⟨hq, hI, by omega, hmc, hf, hks, by omega⟩, hO, hF.sub ⟨rfl, rfl, rfl, rfl, trivial⟩⟩ ?_
      rintro ⟨g, i, c, m, vr6, vq, mc, f, ks⟩ a w ⟨⟨hb, hI, hcg, hmc, hf, hks, hik⟩, hO, hF⟩
      have hql := hI.2.2.1
      have hkl9 : ks.length = m.qs.length := by rw [← hks, List.length_map]
      refine wp_seq ?_
      refine wp_seq ?_
      refine wp_region_lit ?_
      refine wl_v hF rfl rfl rfl (q_move rfl (hF.eval rfl)) fun a hF => ?_
      refine wl_v hF rfl rfl rfl (q_move rfl (hF.eval rfl)) fun a hF => ?_
      refine wl_v hF rfl rfl rfl (q_nilCheck rfl (hF.eval rfl)) fun a hF => ?_
      refine wl_v hF rfl rfl rfl (q_fieldAddr0 (d := 6) Try.underlying123 rfl (hF.eval rfl) rfl Try.sizeOf121 (by decide) rfl) fun a hF => ?_
      refine wl_v hF rfl rfl rfl (q_load Try.isAgg121 rfl (hF.eval rfl) (hO.cell 4 rfl rfl)) fun a hF => ?_
      refine wl_v hF rfl rfl rfl (q_lenRd (hO.rd 6 rfl) Try.underlying121 rfl (hF.eval rfl)) fun a hF => ?_
      refine wl_v hF rfl rfl rfl (q_lt rfl (hF.eval rfl) (hF.eval rfl)) fun a hF => ?_
      refine wl_nil ?_
      refine k_n ?_
      refine wp_ifD hF rfl rfl (fun hc5 => ?_) (fun hc5 => ?_)
      · skip
        obtain ⟨g, rfl⟩ := queue_cons hb
        refine wp_skip ?_
        refine k_n ?_
        refine wp_seq ?_
        refine wp_block ?_
        refine wp_region_lit ?_
        refine wl_v hF rfl rfl rfl (q_move rfl (hF.eval rfl)) fun a hF => ?_
        refine wl_v hF rfl rfl rfl (q_move rfl (hF.eval rfl)) fun a hF => ?_
        refine wl_v hF rfl rfl rfl (q_nilCheck rfl (hF.eval rfl)) fun a hF => ?_
        refine wl_v hF rfl rfl rfl (q_fieldAddr0 (d := 6) Try.underlying123 rfl (hF.eval rfl) rfl Try.sizeOf121 (by decide) rfl) fun a hF => ?_
        refine wl_v hF rfl rfl rfl (q_load Try.isAgg121 rfl (hF.eval rfl) (hO.cell 4 rfl rfl)) fun a hF => ?_
        refine wl_v hF rfl rfl rfl (q_move rfl (hF.eval rfl)) fun a hF => ?_
        obtain ⟨k, hk⟩ := get_ex (l := ks) (i := i) (by omega)
        refine wl_v hF rfl rfl rfl (q_at (i := i) (hO.rd 6 rfl) Try.underlying121 Try.sizeOf127 rfl (hF.eval rfl) (hF.eval rfl) (by omega)) fun a hF => ?_
        refine wl_v hF rfl rfl rfl (q_loadAgg Try.isAgg127 Try.sizeOf127 rfl (hF.eval rfl) (RdT.cells (hO.rdT 6 rfl) hk) rfl) fun a hF => ?_
        have hO := hO.pull 7 rfl
        have hO := hO.pull 7 rfl
        have hO := hO.pull 7 rfl
        have hO := hO.pull 7 rfl
        have hO := hO.pull 7 rfl
        have hO := hO.pull 7 rfl
        have hO := hO.pull 7 rfl
        have hO := hO.pull 7 rfl
        have hO : St _ _ _ [_, _, _, _, _, _, _, _, _] := hO
        refine wl_e hF rfl rfl rfl (c_call hF rfl rfl Try.call82 (fields_r _ bh bm bt _ c _ _ _ _ young m _ _ hO.own8 hI (hmc) (by omega) hf hks _ k hk)) ?_
        rintro a _ w ⟨rfl, hI3, vr3, vq3, mc3, f3, ks3, hf3, hmc3, hks3, ⟨r3, hr3⟩, hS⟩ hF
        have hO := hO.call8 hS
        have hO : St _ _ _ [_, _, _, _, _, _, _, _, _] := hO
        refine wl_nil ?_
        refine b_n ?_
        refine k_n ?_
        refine wp_region_lit ?_
        refine wl_v hF rfl rfl rfl (q_move rfl (hF.eval rfl)) fun a hF => ?_
        refine wl_v hF rfl rfl rfl (q_add rfl (hF.eval rfl) (hF.eval rfl) (by omega)) fun a hF => ?_
        refine wl_v hF rfl rfl rfl (q_assign rfl (hF.eval rfl)) fun a hF => ?_
        refine wl_nil ?_
        refine k_n ?_
        have hO : St _ _ _ [_, _, _, _, _, _, _, _, _] := hO
        have hkf : k.fs.length ≤ 3145728 := hI.2.2.2 k.pr (by rw [← hks]; exact List.mem_map.2 ⟨k, List.mem_of_getElem? hk, rfl⟩)
        exact ⟨(g, i + 1, c + k.fs.length, fieldsF young m k.pr, vr3, vq3, mc3, f3, ks3), ⟨⟨queue_on (by rw [← hks, List.getElem?_map, hk]; rfl) hb, hI3, by omega, hmc3, hf3, hks3, by rw [hr3, List.length_append]; omega⟩, hO, hF.sub ⟨rfl, rfl, rfl, rfl, trivial⟩⟩, by dsimp only; omega⟩
      · skip
        obtain rfl := queue_end (by have := congrArg List.length hks; rw [List.length_map] at this; omega) hb
        have hrl9 := hI.2.1
        refine wp_exit ?_
        refine k_x ?_
        refine k_x ?_
        refine b_x ?_
        refine r_0n hF rfl ?_
        have hO := hO.drop1 4
        have hO := hO.drop1 4
        have hO := hO.drop1 4
        have hO := hO.drop1 4
        have hO : St _ _ _ [_, _, _, _, _] := hO
        exact ⟨_, rfl, hI.1, by omega, hO⟩

end Go.Proofs.Ytglienidnffnjaa
