import Derived.Test.YtglienidnffnjaaJe
namespace Go.Proofs.Ytglienidnffnjaa
open Go
set_option maxRecDepth 100000
set_option linter.unusedVariables false
theorem Wf.useD {h : Hp} (hw : Wf h) : 1 + (1 - h.use) ≤ 2 := by have := hw.use; omega
theorem fits_r (w0 : World) (bh : Nat) (vw vh vr : Value) (h : Hp) (hH : HR w0 [] bh vw vh vr h) (hw : Wf h) (n : Int) (fresh : Bool) : Ret Try.prog 70 #[ptr (adr bh), i64 n, .bool fresh] w0 (fun v w' => v = .bool (decide (n ≤ halfF h - (if fresh = true then 0 else (usedH h).2))) ∧ St w0 [] w' []) := by
  have hO := St.init0 w0
  have hub := used_b hw
  obtain ⟨r1, r2, r3, r4⟩ := hw.a
  have hle := hw.le
  have hhf : halfF h = h.a.end_ - h.a.first := rfl
  refine ret_of (m := 21) Try.func70 rfl Try.ntmps70 [(0, ptr (adr bh)), (1, i64 n), (2, .bool fresh)] rfl ⟨rfl, rfl, rfl, trivial⟩ fun a hF => ?_
  refine wp_seq ?_
  refine wp_region_lit ?_
  refine wl_v hF rfl rfl rfl (q_assign rfl (hF.eval rfl)) fun a hF => ?_
  refine wl_nil ?_
  refine k_n ?_
  refine wp_seq ?_
  refine wp_region_lit ?_
  refine wl_v hF rfl rfl rfl (q_move rfl (hF.eval rfl)) fun a hF => ?_
  refine wl_e hF rfl rfl rfl (c_call hF rfl rfl Try.call19 (used_r _ _ _ _ _ _ (hH.at0 hO) hw)) ?_
  rintro a _ w ⟨rfl, hS⟩ hF
  have hO := hO.call0 hS
  have hO : St _ _ _ [] := hO
  refine wl_v hF rfl rfl rfl (q_move rfl (hF.eval rfl)) fun a hF => ?_
  refine wl_v hF rfl rfl rfl (q_extract rfl (hF.eval rfl) rfl) fun a hF => ?_
  refine wl_v hF rfl rfl rfl (q_extract rfl (hF.eval rfl) rfl) fun a hF => ?_
  refine wl_v hF rfl rfl rfl (q_assign rfl (hF.eval rfl)) fun a hF => ?_
  refine wl_v hF rfl rfl rfl (q_assign rfl (hF.eval rfl)) fun a hF => ?_
  refine wl_nil ?_
  refine k_n ?_
  refine wp_seq ?_
  refine wp_seq ?_
  refine wp_region_lit ?_
  refine wl_v hF rfl rfl rfl (q_move rfl (hF.eval rfl)) fun a hF => ?_
  refine wl_nil ?_
  refine k_n ?_
  refine wp_ifD hF rfl (dec_b _) (fun hc1 => ?_) (fun hc1 => ?_)
  · skip
    refine wp_region_lit ?_
    refine wl_v hF rfl rfl rfl (q_assign rfl (hF.eval rfl)) fun a hF => ?_
    refine wl_nil ?_
    refine k_n ?_
    refine wp_seq ?_
    refine wp_region_lit ?_
    refine wl_v hF rfl rfl rfl (q_move rfl (hF.eval rfl)) fun a hF => ?_
    refine wl_v hF rfl rfl rfl (q_move rfl (hF.eval rfl)) fun a hF => ?_
    refine wl_e hF rfl rfl rfl (c_call hF rfl rfl Try.call43 (half_r _ _ _ _ _ _ (hH.at0 hO) hw)) ?_
    rintro a _ w ⟨rfl, hS⟩ hF
    have hO := hO.call0 hS
    have hO : St _ _ _ [] := hO
    refine wl_v hF rfl rfl rfl (q_move rfl (hF.eval rfl)) fun a hF => ?_
    refine wl_v hF rfl rfl rfl (q_sub rfl (hF.eval rfl) (hF.eval rfl) (by omega)) fun a hF => ?_
    refine wl_v hF rfl rfl rfl (q_le rfl (hF.eval rfl) (hF.eval rfl)) fun a hF => ?_
    refine wl_v hF rfl rfl rfl (q_assign rfl (hF.eval rfl)) fun a hF => ?_
    refine wl_nil ?_
    refine k_n ?_
    refine wp_ret ?_
    refine r_1 hF rfl rfl ?_
    have hO : St _ _ _ [] := hO
    exact ⟨by rw [if_pos hc1], hO⟩
  · skip
    refine wp_skip ?_
    refine k_n ?_
    refine wp_seq ?_
    refine wp_region_lit ?_
    refine wl_v hF rfl rfl rfl (q_move rfl (hF.eval rfl)) fun a hF => ?_
    refine wl_v hF rfl rfl rfl (q_move rfl (hF.eval rfl)) fun a hF => ?_
    refine wl_e hF rfl rfl rfl (c_call hF rfl rfl Try.call43 (half_r _ _ _ _ _ _ (hH.at0 hO) hw)) ?_
    rintro a _ w ⟨rfl, hS⟩ hF
    have hO := hO.call0 hS
    have hO : St _ _ _ [] := hO
    refine wl_v hF rfl rfl rfl (q_move rfl (hF.eval rfl)) fun a hF => ?_
    refine wl_v hF rfl rfl rfl (q_sub rfl (hF.eval rfl) (hF.eval rfl) (by omega)) fun a hF => ?_
    refine wl_v hF rfl rfl rfl (q_le rfl (hF.eval rfl) (hF.eval rfl)) fun a hF => ?_
    refine wl_v hF rfl rfl rfl (q_assign rfl (hF.eval rfl)) fun a hF => ?_
    refine wl_nil ?_
    refine k_n ?_
    refine wp_ret ?_
    refine r_1 hF rfl rfl ?_
    have hO : St _ _ _ [] := hO
    exact ⟨by rw [if_neg hc1], hO⟩

theorem live_r (w0 : World) (bh : Nat) (vw vh vr : Value) (h : Hp) (hH : HR w0 [] bh vw vh vr h) (hw : Wf h) (hrm : h.rem = []) (vq : Value) (rs : List (Nat × Wd)) (hR : RdT w0 [] vq rtE rs) (hrs : ∀ p ∈ rs, Rd w0 [] (gl1 p.1) 2 1 (wordE.cells p.2)) (hrl : rs.length ≤ 10) (F : Nat) (hF9 : F ≤ 1000) (n1 n2 : Int) (hm1 : measF h true F (rs.map (·.2)) = some n1) (hm2 : measF h false F (rs.map (·.2)) = some n2) : Ret Try.prog 51 #[ptr (adr bh), vq] w0 (fun v w' => v = .tuple #[i64 n1, i64 n2] ∧ St w0 [] w' []) := by
  have hO := St.init0 w0
  refine ret_of (m := 14) Try.func51 rfl Try.ntmps51 [(0, ptr (adr bh)), (1, vq)] rfl ⟨rfl, rfl, trivial⟩ fun a hF => ?_
  refine wp_seq ?_
  refine wp_region_lit ?_
  refine wl_v hF rfl rfl rfl (q_assign rfl (hF.eval rfl)) fun a hF => ?_
  refine wl_v hF rfl rfl rfl (q_assign rfl (hF.eval rfl)) fun a hF => ?_
  refine wl_nil ?_
  refine k_n ?_
  refine wp_seq ?_
  refine wp_seq ?_
  refine wp_region_lit ?_
  refine wl_v hF rfl rfl rfl (q_move rfl (hF.eval rfl)) fun a hF => ?_
  refine wl_v hF rfl rfl rfl (q_peq Try.underlying22 rfl (hF.eval rfl) (hF.eval rfl)) fun a hF => ?_
  refine wl_nil ?_
  refine k_n ?_
  refine wp_ifD hF rfl rfl (fun hc1 => ?_) (fun hc1 => ?_)
  · skip
    exact absurd hc1 (by simp)
  · skip
    refine wp_skip ?_
    refine k_n ?_
    refine wp_seq ?_
    refine wp_region_lit ?_
    refine wl_v hF rfl rfl rfl (q_move rfl (hF.eval rfl)) fun a hF => ?_
    refine wl_v hF rfl rfl rfl (q_move rfl (hF.eval rfl)) fun a hF => ?_
    refine wl_e hF rfl rfl rfl (c_call hF rfl rfl Try.call71 (measured_r _ _ _ _ _ _ (hH.at0 hO) hw hrm true _ rs (hR.at0 hO) (fun p hp => Rd.at0 (hrs p hp) hO) hrl F hF9 _ hm1)) ?_
    rintro a _ w ⟨rfl, hS⟩ hF
    have hO := hO.call0 hS
    have hO : St _ _ _ [] := hO
    refine wl_v hF rfl rfl rfl (q_move rfl (hF.eval rfl)) fun a hF => ?_
    refine wl_v hF rfl rfl rfl (q_move rfl (hF.eval rfl)) fun a hF => ?_
    refine wl_e hF rfl rfl rfl (c_call hF rfl rfl Try.call71 (measured_r _ _ _ _ _ _ (hH.at0 hO) hw hrm false _ rs (hR.at0 hO) (fun p hp => Rd.at0 (hrs p hp) hO) hrl F hF9 _ hm2)) ?_
    rintro a _ w ⟨rfl, hS⟩ hF
    have hO := hO.call0 hS
    have hO : St _ _ _ [] := hO
    refine wl_v hF rfl rfl rfl (q_assign rfl (hF.eval rfl)) fun a hF => ?_
    refine wl_v hF rfl rfl rfl (q_assign rfl (hF.eval rfl)) fun a hF => ?_
    refine wl_nil ?_
    refine k_n ?_
    refine wp_ret ?_
    refine r_2 hF rfl rfl rfl ?_
    have hO : St _ _ _ [] := hO
    exact ⟨rfl, hO⟩

theorem nil_live_r (w0 : World) (vq : Value) : Ret Try.prog 51 #[.pointer none, vq] w0 (fun v w' => v = .tuple #[i64 0, i64 0] ∧ St w0 [] w' []) := by
  have hO := St.init0 w0
  refine ret_of (m := 14) Try.func51 rfl Try.ntmps51 [(0, .pointer none), (1, vq)] rfl ⟨rfl, rfl, trivial⟩ fun a hF => ?_
  refine wp_seq ?_
  refine wp_region_lit ?_
  refine wl_v hF rfl rfl rfl (q_assign rfl (hF.eval rfl)) fun a hF => ?_
  refine wl_v hF rfl rfl rfl (q_assign rfl (hF.eval rfl)) fun a hF => ?_
  refine wl_nil ?_
  refine k_n ?_
  refine wp_seq ?_
  refine wp_seq ?_
  refine wp_region_lit ?_
  refine wl_v hF rfl rfl rfl (q_move rfl (hF.eval rfl)) fun a hF => ?_
  refine wl_v hF rfl rfl rfl (q_peq Try.underlying22 rfl (hF.eval rfl) (hF.eval rfl)) fun a hF => ?_
  refine wl_nil ?_
  refine k_n ?_
  refine wp_ifD hF rfl rfl (fun hc1 => ?_) (fun hc1 => ?_)
  · skip
    refine wp_seq ?_
    refine wp_region_lit ?_
    refine wl_v hF rfl rfl rfl (q_assign rfl (hF.eval rfl)) fun a hF => ?_
    refine wl_v hF rfl rfl rfl (q_assign rfl (hF.eval rfl)) fun a hF => ?_
    refine wl_nil ?_
    refine k_n ?_
    refine wp_ret ?_
    refine k_r ?_
    refine r_2 hF rfl rfl rfl ?_
    have hO : St _ _ _ [] := hO
    exact ⟨rfl, hO⟩
  · skip
    exact absurd rfl hc1

theorem nil_minor_r (w0 : World) (vq : Value) : Ret Try.prog 48 #[.pointer none, vq] w0 (fun v w' => v = i64 2 ∧ St w0 [] w' []) := by
  have hO := St.init0 w0
  refine ret_of (m := 20) Try.func48 rfl Try.ntmps48 [(0, .pointer none), (1, vq)] rfl ⟨rfl, rfl, trivial⟩ fun a hF => ?_
  refine wp_seq ?_
  refine wp_region_lit ?_
  refine wl_v hF rfl rfl rfl (q_assign rfl (hF.eval rfl)) fun a hF => ?_
  refine wl_nil ?_
  refine k_n ?_
  refine wp_seq ?_
  refine wp_block ?_
  refine wp_seq ?_
  refine wp_region_lit ?_
  refine wl_v hF rfl rfl rfl (q_move rfl (hF.eval rfl)) fun a hF => ?_
  refine wl_v hF rfl rfl rfl (q_peq Try.underlying22 rfl (hF.eval rfl) (hF.eval rfl)) fun a hF => ?_
  refine wl_v hF rfl rfl rfl (q_assign rfl (hF.eval rfl)) fun a hF => ?_
  refine wl_nil ?_
  refine k_n ?_
  refine wp_ifD hF rfl rfl (fun hc1 => ?_) (fun hc1 => ?_)
  · skip
    refine wp_seq ?_
    refine wp_region_lit ?_
    refine wl_v hF rfl rfl rfl (q_assign rfl (hF.eval rfl)) fun a hF => ?_
    refine wl_nil ?_
    refine k_n ?_
    refine wp_ret ?_
    refine b_r ?_
    refine k_r ?_
    refine r_1 hF rfl rfl ?_
    have hO : St _ _ _ [] := hO
    exact ⟨rfl, hO⟩
  · skip
    exact absurd rfl hc1

theorem nil_major_r (w0 : World) (vq : Value) : Ret Try.prog 49 #[.pointer none, vq] w0 (fun v w' => v = i64 2 ∧ St w0 [] w' []) := by
  have hO := St.init0 w0
  refine ret_of (m := 28) Try.func49 rfl Try.ntmps49 [(0, .pointer none), (1, vq)] rfl ⟨rfl, rfl, trivial⟩ fun a hF => ?_
  refine wp_seq ?_
  refine wp_region_lit ?_
  refine wl_v hF rfl rfl rfl (q_assign rfl (hF.eval rfl)) fun a hF => ?_
  refine wl_nil ?_
  refine k_n ?_
  refine wp_seq ?_
  refine wp_block ?_
  refine wp_seq ?_
  refine wp_region_lit ?_
  refine wl_v hF rfl rfl rfl (q_move rfl (hF.eval rfl)) fun a hF => ?_
  refine wl_v hF rfl rfl rfl (q_peq Try.underlying22 rfl (hF.eval rfl) (hF.eval rfl)) fun a hF => ?_
  refine wl_v hF rfl rfl rfl (q_assign rfl (hF.eval rfl)) fun a hF => ?_
  refine wl_nil ?_
  refine k_n ?_
  refine wp_ifD hF rfl rfl (fun hc1 => ?_) (fun hc1 => ?_)
  · skip
    refine wp_seq ?_
    refine wp_region_lit ?_
    refine wl_v hF rfl rfl rfl (q_assign rfl (hF.eval rfl)) fun a hF => ?_
    refine wl_nil ?_
    refine k_n ?_
    refine wp_ret ?_
    refine b_r ?_
    refine k_r ?_
    refine r_1 hF rfl rfl ?_
    have hO : St _ _ _ [] := hO
    exact ⟨rfl, hO⟩
  · skip
    exact absurd rfl hc1

set_option maxHeartbeats 1000000 in
theorem minor0_r (w0 : World) (bh : Nat) (vw vh vr : Value) (h : Hp) (hA : Owns w0 [.ob bh 77 (hpC vw vh vr h), slT vw 27 wordE h.words, slT vh 84 headE h.heads, slT vr 3 intE h.rem]) (hw : Wf h) (hrm : h.rem = []) (vs : Value) (hR : RdT w0 (blks [.ob bh 77 (hpC vw vh vr h), slT vw 27 wordE h.words, slT vh 84 headE h.heads, slT vr 3 intE h.rem]) vs rtE ([] : List (Nat × Wd))) (hfit : 0 ≤ halfF h - (usedH h).2) : Ret Try.prog 48 #[ptr (adr bh), vs] w0 (fun v w' => ∃ vr2, v = i64 0 ∧ Wf h ∧ St w0 (blks [.ob bh 77 (hpC vw vh vr h), slT vw 27 wordE h.words, slT vh 84 headE h.heads, slT vr 3 intE h.rem]) w' [.ob bh 77 (hpC vw vh vr2 (clearH h)), slT vw 27 wordE (clearH h).words, slT vh 84 headE (clearH h).heads, slT vr2 3 intE (clearH h).rem]) := by
  have hO := St.init hA
  refine ret_of (m := 20) Try.func48 rfl Try.ntmps48 [(0, ptr (adr bh)), (1, vs)] rfl ⟨rfl, rfl, trivial⟩ fun a hF => ?_
  refine wp_seq ?_
  refine wp_region_lit ?_
  refine wl_v hF rfl rfl rfl (q_assign rfl (hF.eval rfl)) fun a hF => ?_
  refine wl_nil ?_
  refine k_n ?_
  refine wp_seq ?_
  refine wp_block ?_
  refine wp_seq ?_
  refine wp_region_lit ?_
  refine wl_v hF rfl rfl rfl (q_move rfl (hF.eval rfl)) fun a hF => ?_
  refine wl_v hF rfl rfl rfl (q_peq Try.underlying22 rfl (hF.eval rfl) (hF.eval rfl)) fun a hF => ?_
  refine wl_v hF rfl rfl rfl (q_assign rfl (hF.eval rfl)) fun a hF => ?_
  refine wl_nil ?_
  refine k_n ?_
  refine wp_ifD hF rfl rfl (fun hc1 => ?_) (fun hc1 => ?_)
  · skip
    exact absurd hc1 (by simp)
  · skip
    refine wp_seq ?_
    refine wp_region_lit ?_
    refine wl_v hF rfl rfl rfl (q_move rfl (hF.eval rfl)) fun a hF => ?_
    refine wl_v hF rfl rfl rfl (q_move rfl (hF.eval rfl)) fun a hF => ?_
    refine wl_v hF rfl rfl rfl (q_move rfl (hF.eval rfl)) fun a hF => ?_
    refine wl_e hF rfl rfl rfl (c_call hF rfl rfl Try.call71 (measured_r _ _ _ _ _ _ (hO.hr 0 1 2 3 rfl rfl rfl rfl) hw hrm true _ ([] : List (Nat × Wd)) (hR.at0 hO) (fun p hp => by cases hp) (by simp) 1 (by decide) 0 rfl)) ?_
    rintro a _ w ⟨rfl, hS⟩ hF
    have hO := hO.call0 hS
    have hO : St _ _ _ [_, _, _, _] := hO
    refine wl_e hF rfl rfl rfl (c_call hF rfl rfl Try.call70 (fits_r _ _ _ _ _ _ (hO.hr 0 1 2 3 rfl rfl rfl rfl) hw _ _)) ?_
    rintro a _ w ⟨rfl, hS⟩ hF
    have hO := hO.call0 hS
    have hO : St _ _ _ [_, _, _, _] := hO
    refine wl_v hF rfl rfl rfl (q_not rfl (hF.eval rfl) rfl) fun a hF => ?_
    refine wl_v hF rfl rfl rfl (q_assign rfl (hF.eval rfl)) fun a hF => ?_
    refine wl_nil ?_
    refine k_n ?_
    refine wp_ifD hF rfl rfl (fun hc2 => ?_) (fun hc2 => ?_)
    · skip
      exact absurd (by simpa using hfit) hc2
    · skip
      refine wp_skip ?_
      refine b_n ?_
      refine k_n ?_
      refine wp_seq ?_
      refine wp_region_lit ?_
      refine wl_v hF rfl rfl rfl (q_move rfl (hF.eval rfl)) fun a hF => ?_
      refine wl_v hF rfl rfl rfl (q_move rfl (hF.eval rfl)) fun a hF => ?_
      have hO := hO.pull 3 rfl
      have hO := hO.pull 3 rfl
      have hO := hO.pull 3 rfl
      have hO := hO.pull 3 rfl
      have hO : St _ _ _ [_, _, _, _] := hO
      refine wl_e hF rfl rfl rfl (c_call hF rfl rfl Try.call72 (mvall0_r _ _ _ _ _ _ hO.own4 hw hrm true _ (hR.now (St.front (A := [_, _, _, _]) hO)) 1 (by decide) _ rfl)) ?_
      rintro a _ w ⟨vr2, rfl, hw2, hrl2, hS⟩ hF
      have hO := hO.call4 hS
      have hO : St _ _ _ [_, _, _, _] := hO
      refine wl_nil ?_
      refine k_n ?_
      refine wp_seq ?_
      refine wp_region_lit ?_
      refine wl_v hF rfl rfl rfl (q_move rfl (hF.eval rfl)) fun a hF => ?_
      have hO := hO.pull 3 rfl
      have hO := hO.pull 3 rfl
      have hO := hO.pull 3 rfl
      have hO := hO.pull 3 rfl
      have hO : St _ _ _ [_, _, _, _] := hO
      refine wl_e hF rfl rfl rfl (c_call hF rfl rfl Try.call20 (clear_r _ _ _ _ _ _ hO.own4 hw2 (by omega))) ?_
      rintro a _ w ⟨vr3, rfl, hS⟩ hF
      have hO := hO.call4 hS
      have hO : St _ _ _ [_, _, _, _] := hO
      refine wl_nil ?_
      refine k_n ?_
      refine wp_seq ?_
      refine wp_region_lit ?_
      refine wl_v hF rfl rfl rfl (q_assign rfl (hF.eval rfl)) fun a hF => ?_
      refine wl_nil ?_
      refine k_n ?_
      refine wp_ret ?_
      refine r_1 hF rfl rfl ?_
      have hO : St _ _ _ [_, _, _, _] := hO
      exact ⟨_, rfl, hw2, hO⟩

set_option maxHeartbeats 1000000 in
theorem major0_r (w0 : World) (bh : Nat) (vw vh vr : Value) (h : Hp) (hA : Owns w0 [.ob bh 77 (hpC vw vh vr h), slT vw 27 wordE h.words, slT vh 84 headE h.heads, slT vr 3 intE h.rem]) (hw : Wf h) (hrm : h.rem = []) (vs : Value) (hR : RdT w0 (blks [.ob bh 77 (hpC vw vh vr h), slT vw 27 wordE h.words, slT vh 84 headE h.heads, slT vr 3 intE h.rem]) vs rtE ([] : List (Nat × Wd))) (hlf : leftF h = 0) (hfit : 0 ≤ halfF h) : Ret Try.prog 49 #[ptr (adr bh), vs] w0 (fun v w' => ∃ vr2, v = i64 0 ∧ St w0 (blks [.ob bh 77 (hpC vw vh vr h), slT vw 27 wordE h.words, slT vh 84 headE h.heads, slT vr 3 intE h.rem]) w' [.ob bh 77 (hpC vw vh vr2 (clearH (emptyH (flipH h) (1 + (1 - ((flipH h)).use))))), slT vw 27 wordE (clearH (emptyH (flipH h) (1 + (1 - ((flipH h)).use)))).words, slT vh 84 headE (clearH (emptyH (flipH h) (1 + (1 - ((flipH h)).use)))).heads, slT vr2 3 intE (clearH (emptyH (flipH h) (1 + (1 - ((flipH h)).use)))).rem]) := by
  have hO := St.init hA
  refine ret_of (m := 28) Try.func49 rfl Try.ntmps49 [(0, ptr (adr bh)), (1, vs)] rfl ⟨rfl, rfl, trivial⟩ fun a hF => ?_
  refine wp_seq ?_
  refine wp_region_lit ?_
  refine wl_v hF rfl rfl rfl (q_assign rfl (hF.eval rfl)) fun a hF => ?_
  refine wl_nil ?_
  refine k_n ?_
  refine wp_seq ?_
  refine wp_block ?_
  refine wp_seq ?_
  refine wp_region_lit ?_
  refine wl_v hF rfl rfl rfl (q_move rfl (hF.eval rfl)) fun a hF => ?_
  refine wl_v hF rfl rfl rfl (q_peq Try.underlying22 rfl (hF.eval rfl) (hF.eval rfl)) fun a hF => ?_
  refine wl_v hF rfl rfl rfl (q_assign rfl (hF.eval rfl)) fun a hF => ?_
  refine wl_nil ?_
  refine k_n ?_
  refine wp_ifD hF rfl rfl (fun hc1 => ?_) (fun hc1 => ?_)
  · skip
    exact absurd hc1 (by simp)
  · skip
    refine wp_seq ?_
    refine wp_region_lit ?_
    refine wl_v hF rfl rfl rfl (q_move rfl (hF.eval rfl)) fun a hF => ?_
    refine wl_e hF rfl rfl rfl (c_call hF rfl rfl Try.call41 (left_r _ _ _ _ _ _ (hO.hr 0 1 2 3 rfl rfl rfl rfl) hw)) ?_
    rintro a _ w ⟨rfl, hS⟩ hF
    have hO := hO.call0 hS
    have hO : St _ _ _ [_, _, _, _] := hO
    refine wl_v hF rfl rfl rfl (q_gt rfl (hF.eval rfl) (hF.eval rfl)) fun a hF => ?_
    refine wl_v hF rfl rfl rfl (q_assign rfl (hF.eval rfl)) fun a hF => ?_
    refine wl_nil ?_
    refine k_n ?_
    refine wp_ifD hF rfl rfl (fun hc2 => ?_) (fun hc2 => ?_)
    · skip
      exact absurd hc2 (by rw [hlf]; decide)
    · skip
      refine wp_seq ?_
      refine wp_region_lit ?_
      refine wl_v hF rfl rfl rfl (q_move rfl (hF.eval rfl)) fun a hF => ?_
      refine wl_v hF rfl rfl rfl (q_move rfl (hF.eval rfl)) fun a hF => ?_
      refine wl_v hF rfl rfl rfl (q_move rfl (hF.eval rfl)) fun a hF => ?_
      refine wl_e hF rfl rfl rfl (c_call hF rfl rfl Try.call71 (measured_r _ _ _ _ _ _ (hO.hr 0 1 2 3 rfl rfl rfl rfl) hw hrm false _ ([] : List (Nat × Wd)) (hR.at0 hO) (fun p hp => by cases hp) (by simp) 1 (by decide) 0 rfl)) ?_
      rintro a _ w ⟨rfl, hS⟩ hF
      have hO := hO.call0 hS
      have hO : St _ _ _ [_, _, _, _] := hO
      refine wl_e hF rfl rfl rfl (c_call hF rfl rfl Try.call70 (fits_r _ _ _ _ _ _ (hO.hr 0 1 2 3 rfl rfl rfl rfl) hw _ _)) ?_
      rintro a _ w ⟨rfl, hS⟩ hF
      have hO := hO.call0 hS
      have hO : St _ _ _ [_, _, _, _] := hO
      refine wl_v hF rfl rfl rfl (q_not rfl (hF.eval rfl) rfl) fun a hF => ?_
      refine wl_v hF rfl rfl rfl (q_assign rfl (hF.eval rfl)) fun a hF => ?_
      refine wl_nil ?_
      refine k_n ?_
      refine wp_ifD hF rfl rfl (fun hc3 => ?_) (fun hc3 => ?_)
      · skip
        exact absurd (by simpa using hfit) hc3
      · skip
        refine wp_skip ?_
        refine b_n ?_
        refine k_n ?_
        refine wp_seq ?_
        refine wp_region_lit ?_
        refine wl_v hF rfl rfl rfl (q_move rfl (hF.eval rfl)) fun a hF => ?_
        have hO := hO.pull 3 rfl
        have hO := hO.pull 3 rfl
        have hO := hO.pull 3 rfl
        have hO := hO.pull 3 rfl
        have hO : St _ _ _ [_, _, _, _] := hO
        refine wl_e hF rfl rfl rfl (c_call hF rfl rfl Try.call24 (flip_r _ _ _ _ _ _ hO.own4 hw (by rw [hrm]; decide))) ?_
        rintro a _ w ⟨vr9, rfl, hS⟩ hF
        have hO := hO.call4 hS
        have hO : St _ _ _ [_, _, _, _] := hO
        refine wl_nil ?_
        refine k_n ?_
        refine wp_seq ?_
        refine wp_region_lit ?_
        refine wl_v hF rfl rfl rfl (q_move rfl (hF.eval rfl)) fun a hF => ?_
        refine wl_v hF rfl rfl rfl (q_move rfl (hF.eval rfl)) fun a hF => ?_
        have hO := hO.pull 3 rfl
        have hO := hO.pull 3 rfl
        have hO := hO.pull 3 rfl
        have hO := hO.pull 3 rfl
        have hO : St _ _ _ [_, _, _, _] := hO
        refine wl_e hF rfl rfl rfl (c_call hF rfl rfl Try.call72 (mvall0_r _ _ _ _ _ _ hO.own4 hw.flip hrm false _ (hR.now (St.front (A := [_, _, _, _]) hO)) 1 (by decide) _ rfl)) ?_
        rintro a _ w ⟨vr2, rfl, hw2, hrl2, hS⟩ hF
        have hO := hO.call4 hS
        have hO : St _ _ _ [_, _, _, _] := hO
        refine wl_nil ?_
        refine k_n ?_
        refine wp_seq ?_
        refine wp_region_lit ?_
        refine wl_v hF rfl rfl rfl (q_move rfl (hF.eval rfl)) fun a hF => ?_
        have hO := hO.pull 3 rfl
        have hO := hO.pull 3 rfl
        have hO := hO.pull 3 rfl
        have hO := hO.pull 3 rfl
        have hO : St _ _ _ [_, _, _, _] := hO
        refine wl_e hF rfl rfl rfl (c_call hF rfl rfl Try.call38 (drop_r _ _ _ _ _ _ hO.own4 hw2 (by omega) hrm)) ?_
        rintro a _ w ⟨rfl, hS⟩ hF
        have hO := hO.call4 hS
        have hO : St _ _ _ [_, _, _, _] := hO
        refine wl_nil ?_
        refine k_n ?_
        refine wp_seq ?_
        refine wp_region_lit ?_
        refine wl_v hF rfl rfl rfl (q_move rfl (hF.eval rfl)) fun a hF => ?_
        have hO := hO.pull 3 rfl
        have hO := hO.pull 3 rfl
        have hO := hO.pull 3 rfl
        have hO := hO.pull 3 rfl
        have hO : St _ _ _ [_, _, _, _] := hO
        refine wl_e hF rfl rfl rfl (c_call hF rfl rfl Try.call20 (clear_r _ _ _ _ _ _ hO.own4 (hw2.empty _ hw2.useD) (Nat.le_trans hrl2 (by decide)))) ?_
        rintro a _ w ⟨vr3, rfl, hS⟩ hF
        have hO := hO.call4 hS
        have hO : St _ _ _ [_, _, _, _] := hO
        refine wl_nil ?_
        refine k_n ?_
        refine wp_seq ?_
        refine wp_region_lit ?_
        refine wl_v hF rfl rfl rfl (q_assign rfl (hF.eval rfl)) fun a hF => ?_
        refine wl_nil ?_
        refine k_n ?_
        refine wp_ret ?_
        refine r_1 hF rfl rfl ?_
        have hO : St _ _ _ [_, _, _, _] := hO
        exact ⟨_, rfl, hO⟩

set_option maxHeartbeats 1000000 in
theorem minor1_r (w0 : World) (bh : Nat) (vw vh vr : Value) (h : Hp) (br : Nat) (x : Wd) (hA : Owns w0 [.ob bh 77 (hpC vw vh vr h), slT vw 27 wordE h.words, slT vh 84 headE h.heads, slT vr 3 intE h.rem, .ob br 27 (wordE.cells x)]) (hw : Wf h) (hrm : h.rem = []) (vs : Value) (hR : RdT w0 (blks [.ob bh 77 (hpC vw vh vr h), slT vw 27 wordE h.words, slT vh 84 headE h.heads, slT vr 3 intE h.rem, .ob br 27 (wordE.cells x)]) vs rtE [(br, x)]) (F : Nat) (hF9 : F ≤ 1000) (n : Int) (hm : measF h true F [x] = some n) (hfit : n ≤ halfF h - (usedH h).2) (m2 : Mv) (hq : queueG true F 0 (moveF true (Mv.mk h [] []) x).2 = some m2) : Ret Try.prog 48 #[ptr (adr bh), vs] w0 (fun v w' => ∃ vr2, v = i64 0 ∧ Wf m2.h ∧ St w0 (blks [.ob bh 77 (hpC vw vh vr h), slT vw 27 wordE h.words, slT vh 84 headE h.heads, slT vr 3 intE h.rem, .ob br 27 (wordE.cells x)]) w' [.ob bh 77 (hpC vw vh vr2 (clearH m2.h)), slT vw 27 wordE (clearH m2.h).words, slT vh 84 headE (clearH m2.h).heads, slT vr2 3 intE (clearH m2.h).rem, .ob br 27 (wordE.cells (moveF true (Mv.mk h [] []) x).1)]) := by
  have hO := St.init hA
  refine ret_of (m := 20) Try.func48 rfl Try.ntmps48 [(0, ptr (adr bh)), (1, vs)] rfl ⟨rfl, rfl, trivial⟩ fun a hF => ?_
  refine wp_seq ?_
  refine wp_region_lit ?_
  refine wl_v hF rfl rfl rfl (q_assign rfl (hF.eval rfl)) fun a hF => ?_
  refine wl_nil ?_
  refine k_n ?_
  refine wp_seq ?_
  refine wp_block ?_
  refine wp_seq ?_
  refine wp_region_lit ?_
  refine wl_v hF rfl rfl rfl (q_move rfl (hF.eval rfl)) fun a hF => ?_
  refine wl_v hF rfl rfl rfl (q_peq Try.underlying22 rfl (hF.eval rfl) (hF.eval rfl)) fun a hF => ?_
  refine wl_v hF rfl rfl rfl (q_assign rfl (hF.eval rfl)) fun a hF => ?_
  refine wl_nil ?_
  refine k_n ?_
  refine wp_ifD hF rfl rfl (fun hc1 => ?_) (fun hc1 => ?_)
  · skip
    exact absurd hc1 (by simp)
  · skip
    refine wp_seq ?_
    refine wp_region_lit ?_
    refine wl_v hF rfl rfl rfl (q_move rfl (hF.eval rfl)) fun a hF => ?_
    refine wl_v hF rfl rfl rfl (q_move rfl (hF.eval rfl)) fun a hF => ?_
    refine wl_v hF rfl rfl rfl (q_move rfl (hF.eval rfl)) fun a hF => ?_
    refine wl_e hF rfl rfl rfl (c_call hF rfl rfl Try.call71 (measured_r _ _ _ _ _ _ (hO.hr 0 1 2 3 rfl rfl rfl rfl) hw hrm true _ [(br, x)] (hR.at0 hO) (fun p hp => by obtain rfl := List.mem_singleton.1 hp; exact hO.rdOb 4 rfl) (by simp) F hF9 _ hm)) ?_
    rintro a _ w ⟨rfl, hS⟩ hF
    have hO := hO.call0 hS
    have hO : St _ _ _ [_, _, _, _, _] := hO
    refine wl_e hF rfl rfl rfl (c_call hF rfl rfl Try.call70 (fits_r _ _ _ _ _ _ (hO.hr 0 1 2 3 rfl rfl rfl rfl) hw _ _)) ?_
    rintro a _ w ⟨rfl, hS⟩ hF
    have hO := hO.call0 hS
    have hO : St _ _ _ [_, _, _, _, _] := hO
    refine wl_v hF rfl rfl rfl (q_not rfl (hF.eval rfl) rfl) fun a hF => ?_
    refine wl_v hF rfl rfl rfl (q_assign rfl (hF.eval rfl)) fun a hF => ?_
    refine wl_nil ?_
    refine k_n ?_
    refine wp_ifD hF rfl rfl (fun hc2 => ?_) (fun hc2 => ?_)
    · skip
      exact absurd (by simpa using hfit) hc2
    · skip
      refine wp_skip ?_
      refine b_n ?_
      refine k_n ?_
      refine wp_seq ?_
      refine wp_region_lit ?_
      refine wl_v hF rfl rfl rfl (q_move rfl (hF.eval rfl)) fun a hF => ?_
      refine wl_v hF rfl rfl rfl (q_move rfl (hF.eval rfl)) fun a hF => ?_
      have hO := hO.pull 4 rfl
      have hO := hO.pull 4 rfl
      have hO := hO.pull 4 rfl
      have hO := hO.pull 4 rfl
      have hO := hO.pull 4 rfl
      have hO : St _ _ _ [_, _, _, _, _] := hO
      refine wl_e hF rfl rfl rfl (c_call hF rfl rfl Try.call72 (mvall1_r _ _ _ _ _ _ _ x hO.own5 hw hrm true _ (hR.now (St.front (A := [_, _, _, _, _]) hO)) F hF9 _ hq)) ?_
      rintro a _ w ⟨vr2, rfl, hw2, hrl2, hS⟩ hF
      have hO := hO.call5 hS
      have hO : St _ _ _ [_, _, _, _, _] := hO
      refine wl_nil ?_
      refine k_n ?_
      refine wp_seq ?_
      refine wp_region_lit ?_
      refine wl_v hF rfl rfl rfl (q_move rfl (hF.eval rfl)) fun a hF => ?_
      have hO := hO.pull 3 rfl
      have hO := hO.pull 3 rfl
      have hO := hO.pull 3 rfl
      have hO := hO.pull 3 rfl
      have hO : St _ _ _ [_, _, _, _, _] := hO
      refine wl_e hF rfl rfl rfl (c_call hF rfl rfl Try.call20 (clear_r _ _ _ _ _ _ hO.own4 hw2 (by omega))) ?_
      rintro a _ w ⟨vr3, rfl, hS⟩ hF
      have hO := hO.call4 hS
      have hO : St _ _ _ [_, _, _, _, _] := hO
      refine wl_nil ?_
      refine k_n ?_
      refine wp_seq ?_
      refine wp_region_lit ?_
      refine wl_v hF rfl rfl rfl (q_assign rfl (hF.eval rfl)) fun a hF => ?_
      refine wl_nil ?_
      refine k_n ?_
      refine wp_ret ?_
      refine r_1 hF rfl rfl ?_
      have hO : St _ _ _ [_, _, _, _, _] := hO
      exact ⟨_, rfl, hw2, hO⟩

set_option maxHeartbeats 1000000 in
theorem major1_r (w0 : World) (bh : Nat) (vw vh vr : Value) (h : Hp) (br : Nat) (x : Wd) (hA : Owns w0 [.ob bh 77 (hpC vw vh vr h), slT vw 27 wordE h.words, slT vh 84 headE h.heads, slT vr 3 intE h.rem, .ob br 27 (wordE.cells x)]) (hw : Wf h) (hrm : h.rem = []) (vs : Value) (hR : RdT w0 (blks [.ob bh 77 (hpC vw vh vr h), slT vw 27 wordE h.words, slT vh 84 headE h.heads, slT vr 3 intE h.rem, .ob br 27 (wordE.cells x)]) vs rtE [(br, x)]) (F : Nat) (hF9 : F ≤ 1000) (hlf : leftF h = 0) (n : Int) (hm : measF h false F [x] = some n) (hfit : n ≤ halfF h) (m2 : Mv) (hq : queueG false F 0 (moveF false (Mv.mk (flipH h) [] []) x).2 = some m2) (hrm2 : m2.h.rem = []) : Ret Try.prog 49 #[ptr (adr bh), vs] w0 (fun v w' => ∃ vr2, v = i64 0 ∧ St w0 (blks [.ob bh 77 (hpC vw vh vr h), slT vw 27 wordE h.words, slT vh 84 headE h.heads, slT vr 3 intE h.rem, .ob br 27 (wordE.cells x)]) w' [.ob bh 77 (hpC vw vh vr2 (clearH (emptyH m2.h (1 + (1 - (m2.h).use))))), slT vw 27 wordE (clearH (emptyH m2.h (1 + (1 - (m2.h).use)))).words, slT vh 84 headE (clearH (emptyH m2.h (1 + (1 - (m2.h).use)))).heads, slT vr2 3 intE (clearH (emptyH m2.h (1 + (1 - (m2.h).use)))).rem, .ob br 27 (wordE.cells (moveF false (Mv.mk (flipH h) [] []) x).1)]) := by
  have hO := St.init hA
  refine ret_of (m := 28) Try.func49 rfl Try.ntmps49 [(0, ptr (adr bh)), (1, vs)] rfl ⟨rfl, rfl, trivial⟩ fun a hF => ?_
  refine wp_seq ?_
  refine wp_region_lit ?_
  refine wl_v hF rfl rfl rfl (q_assign rfl (hF.eval rfl)) fun a hF => ?_
  refine wl_nil ?_
  refine k_n ?_
  refine wp_seq ?_
  refine wp_block ?_
  refine wp_seq ?_
  refine wp_region_lit ?_
  refine wl_v hF rfl rfl rfl (q_move rfl (hF.eval rfl)) fun a hF => ?_
  refine wl_v hF rfl rfl rfl (q_peq Try.underlying22 rfl (hF.eval rfl) (hF.eval rfl)) fun a hF => ?_
  refine wl_v hF rfl rfl rfl (q_assign rfl (hF.eval rfl)) fun a hF => ?_
  refine wl_nil ?_
  refine k_n ?_
  refine wp_ifD hF rfl rfl (fun hc1 => ?_) (fun hc1 => ?_)
  · skip
    exact absurd hc1 (by simp)
  · skip
    refine wp_seq ?_
    refine wp_region_lit ?_
    refine wl_v hF rfl rfl rfl (q_move rfl (hF.eval rfl)) fun a hF => ?_
    refine wl_e hF rfl rfl rfl (c_call hF rfl rfl Try.call41 (left_r _ _ _ _ _ _ (hO.hr 0 1 2 3 rfl rfl rfl rfl) hw)) ?_
    rintro a _ w ⟨rfl, hS⟩ hF
    have hO := hO.call0 hS
    have hO : St _ _ _ [_, _, _, _, _] := hO
    refine wl_v hF rfl rfl rfl (q_gt rfl (hF.eval rfl) (hF.eval rfl)) fun a hF => ?_
    refine wl_v hF rfl rfl rfl (q_assign rfl (hF.eval rfl)) fun a hF => ?_
    refine wl_nil ?_
    refine k_n ?_
    refine wp_ifD hF rfl rfl (fun hc2 => ?_) (fun hc2 => ?_)
    · skip
      exact absurd hc2 (by rw [hlf]; decide)
    · skip
      refine wp_seq ?_
      refine wp_region_lit ?_
      refine wl_v hF rfl rfl rfl (q_move rfl (hF.eval rfl)) fun a hF => ?_
      refine wl_v hF rfl rfl rfl (q_move rfl (hF.eval rfl)) fun a hF => ?_
      refine wl_v hF rfl rfl rfl (q_move rfl (hF.eval rfl)) fun a hF => ?_
      refine wl_e hF rfl rfl rfl (c_call hF rfl rfl Try.call71 (measured_r _ _ _ _ _ _ (hO.hr 0 1 2 3 rfl rfl rfl rfl) hw hrm false _ [(br, x)] (hR.at0 hO) (fun p hp => by obtain rfl := List.mem_singleton.1 hp; exact hO.rdOb 4 rfl) (by simp) F hF9 _ hm)) ?_
      rintro a _ w ⟨rfl, hS⟩ hF
      have hO := hO.call0 hS
      have hO : St _ _ _ [_, _, _, _, _] := hO
      refine wl_e hF rfl rfl rfl (c_call hF rfl rfl Try.call70 (fits_r _ _ _ _ _ _ (hO.hr 0 1 2 3 rfl rfl rfl rfl) hw _ _)) ?_
      rintro a _ w ⟨rfl, hS⟩ hF
      have hO := hO.call0 hS
      have hO : St _ _ _ [_, _, _, _, _] := hO
      refine wl_v hF rfl rfl rfl (q_not rfl (hF.eval rfl) rfl) fun a hF => ?_
      refine wl_v hF rfl rfl rfl (q_assign rfl (hF.eval rfl)) fun a hF => ?_
      refine wl_nil ?_
      refine k_n ?_
      refine wp_ifD hF rfl rfl (fun hc3 => ?_) (fun hc3 => ?_)
      · skip
        exact absurd (by simpa using hfit) hc3
      · skip
        refine wp_skip ?_
        refine b_n ?_
        refine k_n ?_
        refine wp_seq ?_
        refine wp_region_lit ?_
        refine wl_v hF rfl rfl rfl (q_move rfl (hF.eval rfl)) fun a hF => ?_
        have hO := hO.pull 3 rfl
        have hO := hO.pull 3 rfl
        have hO := hO.pull 3 rfl
        have hO := hO.pull 3 rfl
        have hO : St _ _ _ [_, _, _, _, _] := hO
        refine wl_e hF rfl rfl rfl (c_call hF rfl rfl Try.call24 (flip_r _ _ _ _ _ _ hO.own4 hw (by rw [hrm]; decide))) ?_
        rintro a _ w ⟨vr9, rfl, hS⟩ hF
        have hO := hO.call4 hS
        have hO : St _ _ _ [_, _, _, _, _] := hO
        refine wl_nil ?_
        refine k_n ?_
        refine wp_seq ?_
        refine wp_region_lit ?_
        refine wl_v hF rfl rfl rfl (q_move rfl (hF.eval rfl)) fun a hF => ?_
        refine wl_v hF rfl rfl rfl (q_move rfl (hF.eval rfl)) fun a hF => ?_
        have hO := hO.pull 4 rfl
        have hO := hO.pull 4 rfl
        have hO := hO.pull 4 rfl
        have hO := hO.pull 4 rfl
        have hO := hO.pull 4 rfl
        have hO : St _ _ _ [_, _, _, _, _] := hO
        refine wl_e hF rfl rfl rfl (c_call hF rfl rfl Try.call72 (mvall1_r _ _ _ _ _ _ _ x hO.own5 hw.flip hrm false _ (hR.now (St.front (A := [_, _, _, _, _]) hO)) F hF9 _ hq)) ?_
        rintro a _ w ⟨vr2, rfl, hw2, hrl2, hS⟩ hF
        have hO := hO.call5 hS
        have hO : St _ _ _ [_, _, _, _, _] := hO
        refine wl_nil ?_
        refine k_n ?_
        refine wp_seq ?_
        refine wp_region_lit ?_
        refine wl_v hF rfl rfl rfl (q_move rfl (hF.eval rfl)) fun a hF => ?_
        have hO := hO.pull 3 rfl
        have hO := hO.pull 3 rfl
        have hO := hO.pull 3 rfl
        have hO := hO.pull 3 rfl
        have hO : St _ _ _ [_, _, _, _, _] := hO
        refine wl_e hF rfl rfl rfl (c_call hF rfl rfl Try.call38 (drop_r _ _ _ _ _ _ hO.own4 hw2 (by omega) hrm2)) ?_
        rintro a _ w ⟨rfl, hS⟩ hF
        have hO := hO.call4 hS
        have hO : St _ _ _ [_, _, _, _, _] := hO
        refine wl_nil ?_
        refine k_n ?_
        refine wp_seq ?_
        refine wp_region_lit ?_
        refine wl_v hF rfl rfl rfl (q_move rfl (hF.eval rfl)) fun a hF => ?_
        have hO := hO.pull 3 rfl
        have hO := hO.pull 3 rfl
        have hO := hO.pull 3 rfl
        have hO := hO.pull 3 rfl
        have hO : St _ _ _ [_, _, _, _, _] := hO
        refine wl_e hF rfl rfl rfl (c_call hF rfl rfl Try.call20 (clear_r _ _ _ _ _ _ hO.own4 (hw2.empty _ hw2.useD) (Nat.le_trans hrl2 (by decide)))) ?_
        rintro a _ w ⟨vr3, rfl, hS⟩ hF
        have hO := hO.call4 hS
        have hO : St _ _ _ [_, _, _, _, _] := hO
        refine wl_nil ?_
        refine k_n ?_
        refine wp_seq ?_
        refine wp_region_lit ?_
        refine wl_v hF rfl rfl rfl (q_assign rfl (hF.eval rfl)) fun a hF => ?_
        refine wl_nil ?_
        refine k_n ?_
        refine wp_ret ?_
        refine r_1 hF rfl rfl ?_
        have hO : St _ _ _ [_, _, _, _, _] := hO
        exact ⟨_, rfl, hO⟩

end Go.Proofs.Ytglienidnffnjaa
