import Derived.Test.YtglienidnffnjaaHk
import Derived.Test.YtglienidnffnjaaPl20
import Derived.Test.YtglienidnffnjaaJa
namespace Go.Proofs.Ytglienidnffnjaa
open Go
set_option maxRecDepth 100000
set_option linter.unusedVariables false
theorem dropF_r (w0 : World) (bx bh : Nat) (vw vh vr : Value) (h : Hp) (hB : Rd w0 [] (gl1 bx) 1 1 [ptr (adr bh)]) (hH : HR w0 [] bh vw vh vr h) (x : Int) : Ret Try.prog 67 #[i64 x, ptr (adr bx)] w0 (fun v w' => v = .bool (decide (headAt h.heads x = none)) ∧ St w0 [] w' []) := by
  have hO := St.init0 w0
  refine ret_of (m := 8) Try.func67 rfl Try.ntmps67 [(0, i64 x), (1, ptr (adr bx))] rfl ⟨rfl, rfl, trivial⟩ fun a hF => ?_
  refine wp_seq ?_
  refine wp_region_lit ?_
  refine wl_v hF rfl rfl rfl (q_assign rfl (hF.eval rfl)) fun a hF => ?_
  refine wl_nil ?_
  refine k_n ?_
  refine wp_seq ?_
  refine wp_region_lit ?_
  refine wl_v hF rfl rfl rfl (q_load Try.isAgg22 rfl (hF.eval rfl) (rdB_cell0 (Rd.now hB hO) rfl)) fun a hF => ?_
  refine wl_v hF rfl rfl rfl (q_move rfl (hF.eval rfl)) fun a hF => ?_
  refine wl_e hF rfl rfl rfl (c_call hF rfl rfl Try.call53 (head_r _ _ _ _ _ _ (hH.at0 hO) _)) ?_
  rintro a _ w ⟨rfl, hS⟩ hF
  have hO := hO.call0 hS
  have hO : St _ _ _ [] := hO
  refine wl_v hF rfl rfl rfl (q_peq Try.underlying80 rfl (hF.eval rfl) (hF.eval rfl)) fun a hF => ?_
  refine wl_v hF rfl rfl rfl (q_assign rfl (hF.eval rfl)) fun a hF => ?_
  refine wl_nil ?_
  refine k_n ?_
  refine wp_ret ?_
  refine r_1 hF rfl rfl ?_
  have hO : St _ _ _ [] := hO
  exact ⟨congrArg Value.bool (decide_eq_decide.2 hdP_none), hO⟩

theorem ixD_r (w0 : World) (bx bh : Nat) (vw vh vr : Value) (h : Hp) (hB : Rd w0 [] (gl1 bx) 1 1 [ptr (adr bh)]) (hH : HR w0 [] bh vw vh vr h) (vt : Value) (ts : List Int) (hT : RdT w0 [] vt intE ts) : Ret Try.prog 79 #[vt, .func (.func 67) #[] #[ptr (adr bx)]] w0 (fun v w' => ∃ n : Int, v = i64 n ∧ ixD h ts n ∧ St w0 [] w' []) := by
  have hO := St.init0 w0
  have hn := RdT.lenle hT
  refine ret_of (m := 19) Try.func79 rfl Try.ntmps79 [(0, vt), (1, .func (.func 67) #[] #[ptr (adr bx)])] rfl ⟨rfl, rfl, trivial⟩ fun a hF => ?_
  refine wp_seq ?_
  refine wp_region_lit ?_
  refine wl_v hF rfl rfl rfl (q_assign rfl (hF.eval rfl)) fun a hF => ?_
  refine wl_nil ?_
  refine k_n ?_
  refine wp_seq ?_
  refine wp_seq ?_
  refine wp_region_lit ?_
  refine wl_v hF rfl rfl rfl (q_move rfl (hF.eval rfl)) fun a hF => ?_
  refine wl_v hF rfl rfl rfl (q_lenRd hT Try.underlying36 rfl (hF.eval rfl)) fun a hF => ?_
  refine wl_v hF rfl rfl rfl (q_move rfl (hF.eval rfl)) fun a hF => ?_
  refine wl_nil ?_
  refine k_n ?_
  refine wp_block ?_
  have hO : St _ _ _ [] := hO
  refine wp_loopS (fun (k : Nat) a w' => (k ≤ ts.length ∧ ∀ y ∈ ts.take k, ¬ headAt h.heads y = none) ∧ St w0 [] w' [] ∧ Fr a 19 [(0, vt), (1, .func (.func 67) #[] #[ptr (adr bx)]), (7, i64 ts.length), (8, i64 k)]) (fun (k : Nat) => ts.length - k) 0 ⟨⟨by omega, by simp⟩, hO, hF.sub ⟨rfl, rfl, rfl, rfl, trivial⟩⟩ ?_
  rintro k a w ⟨⟨hk, hn9⟩, hO, hF⟩
  refine wp_seq ?_
  refine wp_region_lit ?_
  refine wl_v hF rfl rfl rfl (q_lt rfl (hF.eval rfl) (hF.eval rfl)) fun a hF => ?_
  refine wl_nil ?_
  refine k_n ?_
  refine wp_seq ?_
  refine wp_ifD hF rfl rfl (fun hc1 => ?_) (fun hc1 => ?_)
  · skip
    refine wp_skip ?_
    refine k_n ?_
    refine wp_seq ?_
    refine wp_block ?_
    refine wp_seq ?_
    refine wp_region_lit ?_
    refine wl_v hF rfl rfl rfl (q_move rfl (hF.eval rfl)) fun a hF => ?_
    refine wl_v hF rfl rfl rfl (q_assign rfl (hF.eval rfl)) fun a hF => ?_
    refine wl_nil ?_
    refine k_n ?_
    refine wp_seq ?_
    refine wp_region_lit ?_
    refine wl_v hF rfl rfl rfl (q_move rfl (hF.eval rfl)) fun a hF => ?_
    refine wl_v hF rfl rfl rfl (q_move rfl (hF.eval rfl)) fun a hF => ?_
    refine wl_v hF rfl rfl rfl (q_move rfl (hF.eval rfl)) fun a hF => ?_
    obtain ⟨x, hx⟩ := get_ex (l := ts) (i := k) (by omega)
    refine wl_v hF rfl rfl rfl (q_at (i := k) hT Try.underlying36 Try.sizeOf3 rfl (hF.eval rfl) (hF.eval rfl) (by omega)) fun a hF => ?_
    refine wl_v hF rfl rfl rfl (q_load Try.isAgg3 rfl (hF.eval rfl) (RdT.cell0 (hT.now hO) hx rfl)) fun a hF => ?_
    refine wl_e hF rfl rfl rfl (c_callV hF rfl (hF.eval rfl) rfl rfl Try.call67 (dropF_r _ _ _ _ _ _ _ (Rd.at0 hB hO) (hH.at0 hO) _)) ?_
    rintro a _ w ⟨rfl, hS⟩ hF
    have hO := hO.call0 hS
    have hO : St _ _ _ [] := hO
    refine wl_nil ?_
    refine k_n ?_
    refine wp_ifD hF rfl rfl (fun hc2 => ?_) (fun hc2 => ?_)
    · skip
      refine wp_seq ?_
      refine wp_region_lit ?_
      refine wl_v hF rfl rfl rfl (q_move rfl (hF.eval rfl)) fun a hF => ?_
      refine wl_v hF rfl rfl rfl (q_assign rfl (hF.eval rfl)) fun a hF => ?_
      refine wl_nil ?_
      refine k_n ?_
      refine wp_ret ?_
      refine b_r ?_
      refine k_r ?_
      refine k_r ?_
      refine b_r ?_
      refine k_r ?_
      refine r_1 hF rfl rfl ?_
      exact ⟨_, rfl, .inr ⟨k, rfl, x, hx, hc2, hn9⟩, hO⟩
    · skip
      refine wp_skip ?_
      refine b_n ?_
      refine k_n ?_
      refine wp_region_lit ?_
      refine wl_v hF rfl rfl rfl (q_add rfl (hF.eval rfl) (hF.eval rfl) (by omega)) fun a hF => ?_
      refine wl_v hF rfl rfl rfl (q_move rfl (hF.eval rfl)) fun a hF => ?_
      refine wl_nil ?_
      refine k_n ?_
      have hO : St _ _ _ [] := hO
      exact ⟨k + 1, ⟨⟨by omega, nd_next hx hn9 hc2⟩, hO, hF.sub ⟨rfl, rfl, rfl, rfl, trivial⟩⟩, by omega⟩
  · skip
    refine wp_exit ?_
    refine k_x ?_
    refine k_x ?_
    refine b_x ?_
    refine k_n ?_
    refine wp_seq ?_
    refine wp_region_lit ?_
    refine wl_v hF rfl rfl rfl (q_assign rfl (hF.eval rfl)) fun a hF => ?_
    refine wl_nil ?_
    refine k_n ?_
    refine wp_ret ?_
    refine r_1 hF rfl rfl ?_
    obtain rfl : k = ts.length := by omega
    rw [List.take_length] at hn9
    exact ⟨_, rfl, .inl ⟨rfl, hn9⟩, hO⟩

set_option maxHeartbeats 1000000 in
theorem del_r (w0 : World) (bh : Nat) (vw vh vr : Value) (h : Hp) (hA : Owns w0 [.ob bh 77 (hpC vw vh vr h), slT vw 27 wordE h.words, slT vh 84 headE h.heads, slT vr 3 intE h.rem]) (hw : Wf h) (hrl : h.rem.length ≤ 100000000000) (bx : Nat) (hB : Rd w0 (blks [.ob bh 77 (hpC vw vh vr h), slT vw 27 wordE h.words, slT vh 84 headE h.heads, slT vr 3 intE h.rem]) (gl1 bx) 1 1 [ptr (adr bh)]) : Ret Try.prog 66 #[vr, .func (.func 67) #[] #[ptr (adr bx)]] w0 (fun v w' => ∃ vr2, v = vr2 ∧ St w0 (blks [.ob bh 77 (hpC vw vh vr h), slT vw 27 wordE h.words, slT vh 84 headE h.heads, slT vr 3 intE h.rem]) w' [.ob bh 77 (hpC vw vh vr h), slT vw 27 wordE h.words, slT vh 84 headE h.heads, slT vr2 3 intE (keptF h)]) := by
  have hO := St.init hA
  have hle := hw.le
  have hlen := hw.len
  refine ret_of (m := 42) Try.func66 rfl Try.ntmps66 [(0, vr), (1, .func (.func 67) #[] #[ptr (adr bx)])] rfl ⟨rfl, rfl, trivial⟩ fun a hF => ?_
  refine wp_seq ?_
  refine wp_region_lit ?_
  refine wl_v hF rfl rfl rfl (q_assign rfl (hF.eval rfl)) fun a hF => ?_
  refine wl_nil ?_
  refine k_n ?_
  refine wp_seq ?_
  refine wp_region_lit ?_
  refine wl_v hF rfl rfl rfl (q_move rfl (hF.eval rfl)) fun a hF => ?_
  refine wl_v hF rfl rfl rfl (q_move rfl (hF.eval rfl)) fun a hF => ?_
  refine wl_e hF rfl rfl rfl (c_call hF rfl rfl Try.call79 (ixD_r _ _ _ _ _ _ _ (Rd.at0 hB hO) (St.hr (h := h) hO 0 1 2 3 rfl rfl rfl rfl) _ _ (hO.rdT 3 rfl))) ?_
  rintro a _ w ⟨ix, rfl, hix, hS⟩ hF
  have hO := hO.call0 hS
  have hO : St _ _ _ [_, _, _, _] := hO
  refine wl_v hF rfl rfl rfl (q_assign rfl (hF.eval rfl)) fun a hF => ?_
  refine wl_nil ?_
  refine k_n ?_
  refine wp_seq ?_
  refine wp_seq ?_
  refine wp_region_lit ?_
  refine wl_v hF rfl rfl rfl (q_move rfl (hF.eval rfl)) fun a hF => ?_
  refine wl_v hF rfl rfl rfl (q_eq rfl (hF.eval rfl) (hF.eval rfl)) fun a hF => ?_
  refine wl_nil ?_
  refine k_n ?_
  refine wp_ifD hF rfl rfl (fun hc1 => ?_) (fun hc1 => ?_)
  · skip
    have hka := kept_all (hix.resolve_right (fun ⟨k, e, _⟩ => by omega)).2
    refine wp_seq ?_
    refine wp_region_lit ?_
    refine wl_v hF rfl rfl rfl (q_move rfl (hF.eval rfl)) fun a hF => ?_
    refine wl_v hF rfl rfl rfl (q_assign rfl (hF.eval rfl)) fun a hF => ?_
    refine wl_nil ?_
    refine k_n ?_
    refine wp_ret ?_
    refine k_r ?_
    refine r_1 hF rfl rfl ?_
    have hO : St _ _ _ [_, _, _, _] := hO
    rw [← hka] at hO
    exact ⟨_, rfl, hO⟩
  · skip
    obtain ⟨k, rfl, x0, hx0, hp0, hk0⟩ := hix.resolve_left (fun e => hc1 e.1)
    have hkl := (List.getElem?_eq_some_iff.1 hx0).1
    refine wp_skip ?_
    refine k_n ?_
    refine wp_seq ?_
    refine wp_seq ?_
    refine wp_region_lit ?_
    refine wl_v hF rfl rfl rfl (q_move rfl (hF.eval rfl)) fun a hF => ?_
    refine wl_v hF rfl rfl rfl (q_add rfl (hF.eval rfl) (hF.eval rfl) (by omega)) fun a hF => ?_
    refine wl_v hF rfl rfl rfl (q_assign rfl (hF.eval rfl)) fun a hF => ?_
    refine wl_nil ?_
    refine k_n ?_
    refine wp_block ?_
    have hO : St _ _ _ [_, _, _, _] := hO
    refine wp_loopS (fun (s : Nat × Nat × List Int) a w' => match s with | (i, j, l) => (DelI h i j l) ∧ St w0 (blks [.ob bh 77 (hpC vw vh vr h), slT vw 27 wordE h.words, slT vh 84 headE h.heads, slT vr 3 intE h.rem]) w' [.ob bh 77 (hpC vw vh vr h), slT vw 27 wordE h.words, slT vh 84 headE h.heads, slT vr 3 intE l] ∧ Fr a 42 [(0, vr), (1, .func (.func 67) #[] #[ptr (adr bx)]), (5, i64 i), (6, i64 j)]) (fun (s : Nat × Nat × List Int) => match s with | (i, j, l) => l.length - j) (k, k + 1, h.rem) ⟨DelI.init hx0 hp0 hk0, hO, hF.sub ⟨rfl, rfl, rfl, rfl, trivial⟩⟩ ?_
    rintro ⟨i, j, l⟩ a w ⟨hd, hO, hF⟩
    have hd1 := hd.lt
    have hd2 := hd.le
    have hd3 := hd.len
    refine wp_seq ?_
    refine wp_seq ?_
    refine wp_region_lit ?_
    refine wl_v hF rfl rfl rfl (q_move rfl (hF.eval rfl)) fun a hF => ?_
    refine wl_v hF rfl rfl rfl (q_move rfl (hF.eval rfl)) fun a hF => ?_
    refine wl_v hF rfl rfl rfl (q_lenRd (hO.rd 3 rfl) Try.underlying36 rfl (hF.eval rfl)) fun a hF => ?_
    refine wl_v hF rfl rfl rfl (q_lt rfl (hF.eval rfl) (hF.eval rfl)) fun a hF => ?_
    refine wl_nil ?_
    refine k_n ?_
    refine wp_ifD hF rfl rfl (fun hc2 => ?_) (fun hc2 => ?_)
    · skip
      refine wp_skip ?_
      refine k_n ?_
      refine wp_seq ?_
      refine wp_block ?_
      refine wp_seq ?_
      refine wp_region_lit ?_
      refine wl_v hF rfl rfl rfl (q_move rfl (hF.eval rfl)) fun a hF => ?_
      refine wl_v hF rfl rfl rfl (q_move rfl (hF.eval rfl)) fun a hF => ?_
      obtain ⟨x, hx⟩ := get_ex (l := l) (i := j) (by omega)
      refine wl_v hF rfl rfl rfl (q_at (i := j) (hO.rd 3 rfl) Try.underlying36 Try.sizeOf3 rfl (hF.eval rfl) (hF.eval rfl) (by omega)) fun a hF => ?_
      refine wl_v hF rfl rfl rfl (q_load Try.isAgg3 rfl (hF.eval rfl) (RdT.cell0 (hO.rdT 3 rfl) hx rfl)) fun a hF => ?_
      refine wl_v hF rfl rfl rfl (q_assign rfl (hF.eval rfl)) fun a hF => ?_
      refine wl_nil ?_
      refine k_n ?_
      refine wp_seq ?_
      refine wp_region_lit ?_
      refine wl_v hF rfl rfl rfl (q_move rfl (hF.eval rfl)) fun a hF => ?_
      refine wl_v hF rfl rfl rfl (q_move rfl (hF.eval rfl)) fun a hF => ?_
      refine wl_e hF rfl rfl rfl (c_callV hF rfl (hF.eval rfl) rfl rfl Try.call67 (dropF_r _ _ _ _ _ _ _ (Rd.at0 hB hO) (St.hr (h := (h.setRem l)) hO 0 1 2 3 rfl rfl rfl rfl) _)) ?_
      rintro a _ w ⟨rfl, hS⟩ hF
      have hO := hO.call0 hS
      have hO : St _ _ _ [_, _, _, _] := hO
      refine wl_v hF rfl rfl rfl (q_not rfl (hF.eval rfl) rfl) fun a hF => ?_
      refine wl_nil ?_
      refine k_n ?_
      refine wp_ifD hF rfl rfl (fun hc3 => ?_) (fun hc3 => ?_)
      · skip
        refine wp_seq ?_
        refine wp_region_lit ?_
        refine wl_v hF rfl rfl rfl (q_move rfl (hF.eval rfl)) fun a hF => ?_
        refine wl_v hF rfl rfl rfl (q_move rfl (hF.eval rfl)) fun a hF => ?_
        refine wl_v hF rfl rfl rfl (q_move rfl (hF.eval rfl)) fun a hF => ?_
        refine wl_v hF rfl rfl rfl (q_at (i := i) (hO.rd 3 rfl) Try.underlying36 Try.sizeOf3 rfl (hF.eval rfl) (hF.eval rfl) (by omega)) fun a hF => ?_
        refine wl_s hF rfl rfl (e_storeElT (m := i) (off := 0) (q := x) hO (i := 3) rfl Try.sizeOf3 rfl (hF.eval rfl) rfl (hF.eval rfl) rfl (get_D (d := 0) (by omega)) rfl (Nat.le_of_ble_eq_true rfl) rfl (all1 rfl)) ?_
        rintro a _ w ⟨-, hO⟩ hF
        have hO : St _ _ _ [_, _, _, _] := hO
        refine wl_nil ?_
        refine k_n ?_
        refine wp_region_lit ?_
        refine wl_v hF rfl rfl rfl (q_move rfl (hF.eval rfl)) fun a hF => ?_
        refine wl_v hF rfl rfl rfl (q_add rfl (hF.eval rfl) (hF.eval rfl) (by omega)) fun a hF => ?_
        refine wl_v hF rfl rfl rfl (q_assign rfl (hF.eval rfl)) fun a hF => ?_
        refine wl_nil ?_
        refine b_n ?_
        refine k_n ?_
        refine wp_region_lit ?_
        refine wl_v hF rfl rfl rfl (q_move rfl (hF.eval rfl)) fun a hF => ?_
        refine wl_v hF rfl rfl rfl (q_add rfl (hF.eval rfl) (hF.eval rfl) (by omega)) fun a hF => ?_
        refine wl_v hF rfl rfl rfl (q_assign rfl (hF.eval rfl)) fun a hF => ?_
        refine wl_nil ?_
        refine k_n ?_
        have hO : St _ _ _ [_, _, _, _] := hO
        exact ⟨(i + 1, j + 1, l.set i x), ⟨hd.keep hx hc3, hO, hF.sub ⟨rfl, rfl, rfl, rfl, trivial⟩⟩, by dsimp only; rw [List.length_set]; omega⟩
      · skip
        refine wp_skip ?_
        refine b_n ?_
        refine k_n ?_
        refine wp_region_lit ?_
        refine wl_v hF rfl rfl rfl (q_move rfl (hF.eval rfl)) fun a hF => ?_
        refine wl_v hF rfl rfl rfl (q_add rfl (hF.eval rfl) (hF.eval rfl) (by omega)) fun a hF => ?_
        refine wl_v hF rfl rfl rfl (q_assign rfl (hF.eval rfl)) fun a hF => ?_
        refine wl_nil ?_
        refine k_n ?_
        have hO : St _ _ _ [_, _, _, _] := hO
        exact ⟨(i, j + 1, l), ⟨hd.skip hx (Classical.not_not.1 hc3), hO, hF.sub ⟨rfl, rfl, rfl, rfl, trivial⟩⟩, by dsimp only; omega⟩
    · skip
      refine wp_exit ?_
      refine k_x ?_
      refine k_x ?_
      refine b_x ?_
      refine k_n ?_
      refine wp_seq ?_
      refine wp_region_lit ?_
      refine wl_v hF rfl rfl rfl (q_move rfl (hF.eval rfl)) fun a hF => ?_
      refine wl_v hF rfl rfl rfl (q_move rfl (hF.eval rfl)) fun a hF => ?_
      refine wl_v hF rfl rfl rfl (q_drop (j := i) (hO.rd 3 rfl) Try.underlying36 Try.sizeOf3 rfl (hF.eval rfl) (hF.eval rfl) (by omega)) fun a hF => ?_
      refine wl_s hF rfl rfl (e_clearT (z0 := (0 : Int)) (p := i) (q := l.length) hO (i := 3) rfl Try.underlying36 Try.zeroValue3 rfl rfl ((hF.eval rfl).trans (drop_cut (hO.rd 3 rfl))) (by omega) (Nat.le_refl _) rfl) ?_
      rintro a _ w hO hF
      have hO : St _ _ _ [_, _, _, _] := hO
      have hfl : (l.take i ++ List.replicate (l.length - i) (0 : Int) ++ l.drop l.length).length = l.length := by rw [List.length_append, List.length_append, List.length_take, List.length_replicate, List.length_drop]; omega
      refine wl_nil ?_
      refine k_n ?_
      refine wp_seq ?_
      refine wp_region_lit ?_
      refine wl_v hF rfl rfl rfl (q_move rfl (hF.eval rfl)) fun a hF => ?_
      refine wl_v hF rfl rfl rfl (q_move rfl (hF.eval rfl)) fun a hF => ?_
      refine wl_v hF rfl rfl rfl (q_resl (j := i) (hO.rd 3 rfl) Try.underlying36 Try.sizeOf3 rfl (hF.eval rfl) (hF.eval rfl) (by show i ≤ List.length (_ ++ _ ++ _); rw [hfl]; omega)) fun a hF => ?_
      have hO := hO.reslT (i := 3) (j := i) rfl (by show i ≤ List.length (_ ++ _ ++ _); rw [hfl]; omega)
      have hO : St _ _ _ [_, _, _, _] := hO
      rw [hd.fin hc2] at hO
      refine wl_v hF rfl rfl rfl (q_assign rfl (hF.eval rfl)) fun a hF => ?_
      refine wl_nil ?_
      refine k_n ?_
      refine wp_ret ?_
      refine r_1 hF rfl rfl ?_
      have hO : St _ _ _ [_, _, _, _] := hO
      exact ⟨_, rfl, hO⟩

set_option maxHeartbeats 1000000 in
theorem dropG0_r (w0 : World) (bh : Nat) (vw vh vr : Value) (h : Hp) (hA : Owns w0 [.ob bh 77 (hpC vw vh vr h), slT vw 27 wordE h.words, slT vh 84 headE h.heads, slT vr 3 intE h.rem]) (hw : Wf h) (hrl : h.rem.length ≤ 100000000000) (hu : h.use = 0) : Ret Try.prog 38 #[ptr (adr bh)] w0 (fun v w' => ∃ vr2, v = .tuple #[] ∧ St w0 (blks [.ob bh 77 (hpC vw vh vr h), slT vw 27 wordE h.words, slT vh 84 headE h.heads, slT vr 3 intE h.rem]) w' [.ob bh 77 (hpC vw vh vr2 ((emptyH h 2).setRem (keptF (emptyH h 2)))), slT vw 27 wordE ((emptyH h 2).setRem (keptF (emptyH h 2))).words, slT vh 84 headE ((emptyH h 2).setRem (keptF (emptyH h 2))).heads, slT vr2 3 intE ((emptyH h 2).setRem (keptF (emptyH h 2))).rem]) := by
  have hO := St.init hA
  have hle := hw.le
  have hlen := hw.len
  refine ret_of (m := 24) Try.func38 rfl Try.ntmps38 [(0, ptr (adr bh))] rfl ⟨rfl, trivial⟩ fun a hF => ?_
  refine wp_seq ?_
  refine wp_region_lit ?_
  refine wl_e hF rfl rfl rfl (e_box hO rfl (hF.eval rfl) rfl) ?_
  rintro a _ w ⟨hb, rfl, hO⟩ hF
  refine wl_nil ?_
  refine k_n ?_
  refine wp_seq ?_
  refine wp_seq ?_
  refine wp_region_lit ?_
  refine wl_v hF rfl rfl rfl (q_load Try.isAgg22 rfl (hF.eval rfl) (hO.cell0 0 rfl rfl)) fun a hF => ?_
  refine wl_v hF rfl rfl rfl (q_peq Try.underlying22 rfl (hF.eval rfl) (hF.eval rfl)) fun a hF => ?_
  refine wl_nil ?_
  refine k_n ?_
  refine wp_ifD hF rfl rfl (fun hc1 => ?_) (fun hc1 => ?_)
  · skip
    exact absurd hc1 (by simp)
  · skip
    refine wp_skip ?_
    refine k_n ?_
    refine wp_seq ?_
    have hO := hO.drew
    refine wp_region_D [1, 1, 1, 0, 0, 1, 0, 0, 0, 0, 3] (fun w => St _ _ w _) Try_mixed (by kernel_rfl) hO ?_
    refine wd_r hF rfl rfl rfl (fun w hO => q_load Try.isAgg22 rfl (hF.eval rfl) (hO.cell0 0 rfl rfl)) fun a hF => ?_
    refine wd_r hF rfl rfl rfl (fun w hO => q_load Try.isAgg22 rfl (hF.eval rfl) (hO.cell0 0 rfl rfl)) fun a hF => ?_
    refine wd_r hF rfl rfl rfl (fun w hO => q_load Try.isAgg22 rfl (hF.eval rfl) (hO.cell0 0 rfl rfl)) fun a hF => ?_
    refine wd_p hF rfl rfl rfl (fun w => q_nilCheck rfl (hF.eval rfl)) fun a hF => ?_
    refine wd_p hF rfl rfl rfl (fun w => q_fieldAddr0 (d := 11) Try.underlying77 rfl (hF.eval rfl) rfl Try.sizeOf3 (by decide) rfl) fun a hF => ?_
    refine wd_r hF rfl rfl rfl (fun w hO => q_load Try.isAgg3 rfl (hF.eval rfl) (hO.cell 1 rfl rfl)) fun a hF => ?_
    refine wd_p hF rfl rfl rfl (fun w => q_sub rfl (hF.eval rfl) (hF.eval rfl) (by rw [hu]; decide)) fun a hF => ?_
    refine wd_p hF rfl rfl rfl (fun w => q_nilCheck rfl (hF.eval rfl)) fun a hF => ?_
    refine wd_p hF rfl rfl rfl (fun w => q_fieldAddr0 (d := 5) Try.underlying77 rfl (hF.eval rfl) rfl Try.sizeOf75 (by decide) rfl) fun a hF => ?_
    refine wd_p hF rfl rfl rfl (fun w => q_atArrK (i := 1) (d := 5) Try.underlying75 Try.sizeOf74 rfl (hF.eval rfl) ((hF.eval rfl).trans (congrArg i64 (show (1 : Int) - (h.use : Int) = ((1 : Nat) : Int) by rw [hu]; rfl))) (by decide)) fun a hF => ?_
    have hO := hO.pull 4 rfl
    have hO := hO.pull 4 rfl
    have hO := hO.pull 4 rfl
    have hO := hO.pull 4 rfl
    have hO : St _ _ _ [_, _, _, _, _] := hO
    refine wd_f hF rfl rfl rfl (c_call hF rfl rfl Try.call59 (empty2_r _ _ _ _ _ _ hO.own4 hw hrl)) ?_
    rintro a _ w ⟨rfl, hS⟩ hF
    have hO := hO.call4 hS
    have hO : St _ _ _ [_, _, _, _, _] := hO
    refine wd_nil ?_
    refine k_n ?_
    have hO := hO.drew
    refine wp_region_D [1, 1, 0, 0, 1, 0, 2, 0, 0, 3] (fun w => ∃ vr' l', St w0 (blks [.ob bh 77 (hpC vw vh vr h), slT vw 27 wordE h.words, slT vh 84 headE h.heads, slT vr 3 intE h.rem]) w [.ob bh 77 (hpC vw vh vr (emptyH h 2)), slT vw 27 wordE (emptyH h 2).words, slT vh 84 headE (emptyH h 2).heads, slT vr' 3 intE l', .ob hb 22 [ptr (adr bh)]]) Try_mixed (by kernel_rfl) ⟨_, _, hO⟩ ?_
    refine wd_r hF rfl rfl rfl (fun w ⟨_, _, hO⟩ => q_load Try.isAgg22 rfl (hF.eval rfl) (hO.cell0 4 rfl rfl)) fun a hF => ?_
    refine wd_r hF rfl rfl rfl (fun w ⟨_, _, hO⟩ => q_load Try.isAgg22 rfl (hF.eval rfl) (hO.cell0 4 rfl rfl)) fun a hF => ?_
    refine wd_p hF rfl rfl rfl (fun w => q_nilCheck rfl (hF.eval rfl)) fun a hF => ?_
    refine wd_p hF rfl rfl rfl (fun w => q_fieldAddr0 (d := 12) Try.underlying77 rfl (hF.eval rfl) rfl Try.sizeOf36 (by decide) rfl) fun a hF => ?_
    refine wd_r hF rfl rfl rfl (fun w ⟨_, _, hO⟩ => q_load Try.isAgg36 rfl (hF.eval rfl) (hO.cell 0 rfl rfl)) fun a hF => ?_
    refine wd_p hF rfl rfl rfl (fun w => c_makeFunc hF rfl rfl rfl) fun a hF => ?_
    have hO := hO.pull 3 rfl
    have hO := hO.pull 3 rfl
    have hO := hO.pull 3 rfl
    have hO := hO.pull 3 rfl
    have hO : St _ _ _ [_, _, _, _, _] := hO
    refine wd_e hF rfl rfl rfl (c_call hF rfl rfl Try.call66 (del_r _ _ _ _ _ _ hO.own4 (hw.empty 2 (by decide)) (hrl) _ (St.rdOb4 hO 0 rfl))) (fun _ _ ⟨_, _, hS⟩ => ⟨_, _, hO.call4 hS⟩) ?_
    rintro a v3 w ⟨_, rfl, hS⟩ hF
    have hO := hO.call4 hS
    have hO : St _ _ _ [_, _, _, _, _] := hO
    refine wd_p hF rfl rfl rfl (fun w => q_nilCheck rfl (hF.eval rfl)) fun a hF => ?_
    refine wd_p hF rfl rfl rfl (fun w => q_fieldAddr0 (d := 12) Try.underlying77 rfl (hF.eval rfl) rfl Try.sizeOf36 (by decide) rfl) fun a hF => ?_
    refine wd_s hF rfl rfl (e_store1 hO (i := 0) rfl Try.sizeOf36 rfl (hF.eval rfl) (hF.eval rfl) (cells_one (hO.slOne 3 rfl)) rfl (hO.slOne 3 rfl)) ?_
    rintro a _ w ⟨-, hO⟩ hF
    have hO : St _ _ _ [_, _, _, _, _] := hO
    refine wd_nil ?_
    refine r_0n hF rfl ?_
    have hO := hO.drop1 4
    have hO : St _ _ _ [_, _, _, _] := hO
    exact ⟨_, rfl, hO⟩

set_option maxHeartbeats 1000000 in
theorem dropG1_r (w0 : World) (bh : Nat) (vw vh vr : Value) (h : Hp) (hA : Owns w0 [.ob bh 77 (hpC vw vh vr h), slT vw 27 wordE h.words, slT vh 84 headE h.heads, slT vr 3 intE h.rem]) (hw : Wf h) (hrl : h.rem.length ≤ 100000000000) (hu : h.use = 1) : Ret Try.prog 38 #[ptr (adr bh)] w0 (fun v w' => ∃ vr2, v = .tuple #[] ∧ St w0 (blks [.ob bh 77 (hpC vw vh vr h), slT vw 27 wordE h.words, slT vh 84 headE h.heads, slT vr 3 intE h.rem]) w' [.ob bh 77 (hpC vw vh vr2 ((emptyH h 1).setRem (keptF (emptyH h 1)))), slT vw 27 wordE ((emptyH h 1).setRem (keptF (emptyH h 1))).words, slT vh 84 headE ((emptyH h 1).setRem (keptF (emptyH h 1))).heads, slT vr2 3 intE ((emptyH h 1).setRem (keptF (emptyH h 1))).rem]) := by
  have hO := St.init hA
  have hle := hw.le
  have hlen := hw.len
  refine ret_of (m := 24) Try.func38 rfl Try.ntmps38 [(0, ptr (adr bh))] rfl ⟨rfl, trivial⟩ fun a hF => ?_
  refine wp_seq ?_
  refine wp_region_lit ?_
  refine wl_e hF rfl rfl rfl (e_box hO rfl (hF.eval rfl) rfl) ?_
  rintro a _ w ⟨hb, rfl, hO⟩ hF
  refine wl_nil ?_
  refine k_n ?_
  refine wp_seq ?_
  refine wp_seq ?_
  refine wp_region_lit ?_
  refine wl_v hF rfl rfl rfl (q_load Try.isAgg22 rfl (hF.eval rfl) (hO.cell0 0 rfl rfl)) fun a hF => ?_
  refine wl_v hF rfl rfl rfl (q_peq Try.underlying22 rfl (hF.eval rfl) (hF.eval rfl)) fun a hF => ?_
  refine wl_nil ?_
  refine k_n ?_
  refine wp_ifD hF rfl rfl (fun hc1 => ?_) (fun hc1 => ?_)
  · skip
    exact absurd hc1 (by simp)
  · skip
    refine wp_skip ?_
    refine k_n ?_
    refine wp_seq ?_
    have hO := hO.drew
    refine wp_region_D [1, 1, 1, 0, 0, 1, 0, 0, 0, 0, 3] (fun w => St _ _ w _) Try_mixed (by kernel_rfl) hO ?_
    refine wd_r hF rfl rfl rfl (fun w hO => q_load Try.isAgg22 rfl (hF.eval rfl) (hO.cell0 0 rfl rfl)) fun a hF => ?_
    refine wd_r hF rfl rfl rfl (fun w hO => q_load Try.isAgg22 rfl (hF.eval rfl) (hO.cell0 0 rfl rfl)) fun a hF => ?_
    refine wd_r hF rfl rfl rfl (fun w hO => q_load Try.isAgg22 rfl (hF.eval rfl) (hO.cell0 0 rfl rfl)) fun a hF => ?_
    refine wd_p hF rfl rfl rfl (fun w => q_nilCheck rfl (hF.eval rfl)) fun a hF => ?_
    refine wd_p hF rfl rfl rfl (fun w => q_fieldAddr0 (d := 11) Try.underlying77 rfl (hF.eval rfl) rfl Try.sizeOf3 (by decide) rfl) fun a hF => ?_
    refine wd_r hF rfl rfl rfl (fun w hO => q_load Try.isAgg3 rfl (hF.eval rfl) (hO.cell 1 rfl rfl)) fun a hF => ?_
    refine wd_p hF rfl rfl rfl (fun w => q_sub rfl (hF.eval rfl) (hF.eval rfl) (by rw [hu]; decide)) fun a hF => ?_
    refine wd_p hF rfl rfl rfl (fun w => q_nilCheck rfl (hF.eval rfl)) fun a hF => ?_
    refine wd_p hF rfl rfl rfl (fun w => q_fieldAddr0 (d := 5) Try.underlying77 rfl (hF.eval rfl) rfl Try.sizeOf75 (by decide) rfl) fun a hF => ?_
    refine wd_p hF rfl rfl rfl (fun w => q_atArrK (i := 0) (d := 5) Try.underlying75 Try.sizeOf74 rfl (hF.eval rfl) ((hF.eval rfl).trans (congrArg i64 (show (1 : Int) - (h.use : Int) = ((0 : Nat) : Int) by rw [hu]; rfl))) (by decide)) fun a hF => ?_
    have hO := hO.pull 4 rfl
    have hO := hO.pull 4 rfl
    have hO := hO.pull 4 rfl
    have hO := hO.pull 4 rfl
    have hO : St _ _ _ [_, _, _, _, _] := hO
    refine wd_f hF rfl rfl rfl (c_call hF rfl rfl Try.call59 (empty1_r _ _ _ _ _ _ hO.own4 hw hrl)) ?_
    rintro a _ w ⟨rfl, hS⟩ hF
    have hO := hO.call4 hS
    have hO : St _ _ _ [_, _, _, _, _] := hO
    refine wd_nil ?_
    refine k_n ?_
    have hO := hO.drew
    refine wp_region_D [1, 1, 0, 0, 1, 0, 2, 0, 0, 3] (fun w => ∃ vr' l', St w0 (blks [.ob bh 77 (hpC vw vh vr h), slT vw 27 wordE h.words, slT vh 84 headE h.heads, slT vr 3 intE h.rem]) w [.ob bh 77 (hpC vw vh vr (emptyH h 1)), slT vw 27 wordE (emptyH h 1).words, slT vh 84 headE (emptyH h 1).heads, slT vr' 3 intE l', .ob hb 22 [ptr (adr bh)]]) Try_mixed (by kernel_rfl) ⟨_, _, hO⟩ ?_
    refine wd_r hF rfl rfl rfl (fun w ⟨_, _, hO⟩ => q_load Try.isAgg22 rfl (hF.eval rfl) (hO.cell0 4 rfl rfl)) fun a hF => ?_
    refine wd_r hF rfl rfl rfl (fun w ⟨_, _, hO⟩ => q_load Try.isAgg22 rfl (hF.eval rfl) (hO.cell0 4 rfl rfl)) fun a hF => ?_
    refine wd_p hF rfl rfl rfl (fun w => q_nilCheck rfl (hF.eval rfl)) fun a hF => ?_
    refine wd_p hF rfl rfl rfl (fun w => q_fieldAddr0 (d := 12) Try.underlying77 rfl (hF.eval rfl) rfl Try.sizeOf36 (by decide) rfl) fun a hF => ?_
    refine wd_r hF rfl rfl rfl (fun w ⟨_, _, hO⟩ => q_load Try.isAgg36 rfl (hF.eval rfl) (hO.cell 0 rfl rfl)) fun a hF => ?_
    refine wd_p hF rfl rfl rfl (fun w => c_makeFunc hF rfl rfl rfl) fun a hF => ?_
    have hO := hO.pull 3 rfl
    have hO := hO.pull 3 rfl
    have hO := hO.pull 3 rfl
    have hO := hO.pull 3 rfl
    have hO : St _ _ _ [_, _, _, _, _] := hO
    refine wd_e hF rfl rfl rfl (c_call hF rfl rfl Try.call66 (del_r _ _ _ _ _ _ hO.own4 (hw.empty 1 (by decide)) (hrl) _ (St.rdOb4 hO 0 rfl))) (fun _ _ ⟨_, _, hS⟩ => ⟨_, _, hO.call4 hS⟩) ?_
    rintro a v3 w ⟨_, rfl, hS⟩ hF
    have hO := hO.call4 hS
    have hO : St _ _ _ [_, _, _, _, _] := hO
    refine wd_p hF rfl rfl rfl (fun w => q_nilCheck rfl (hF.eval rfl)) fun a hF => ?_
    refine wd_p hF rfl rfl rfl (fun w => q_fieldAddr0 (d := 12) Try.underlying77 rfl (hF.eval rfl) rfl Try.sizeOf36 (by decide) rfl) fun a hF => ?_
    refine wd_s hF rfl rfl (e_store1 hO (i := 0) rfl Try.sizeOf36 rfl (hF.eval rfl) (hF.eval rfl) (cells_one (hO.slOne 3 rfl)) rfl (hO.slOne 3 rfl)) ?_
    rintro a _ w ⟨-, hO⟩ hF
    have hO : St _ _ _ [_, _, _, _, _] := hO
    refine wd_nil ?_
    refine r_0n hF rfl ?_
    have hO := hO.drop1 4
    have hO : St _ _ _ [_, _, _, _] := hO
    exact ⟨_, rfl, hO⟩


theorem dropG_r (w0 : World) (bh : Nat) (vw vh vr : Value) (h : Hp) (hA : Owns w0 [.ob bh 77 (hpC vw vh vr h), slT vw 27 wordE h.words, slT vh 84 headE h.heads, slT vr 3 intE h.rem]) (hw : Wf h) (hrl : h.rem.length ≤ 100000000000) : Ret Try.prog 38 #[ptr (adr bh)] w0 (fun v w' => ∃ vr2, v = .tuple #[] ∧ St w0 (blks [.ob bh 77 (hpC vw vh vr h), slT vw 27 wordE h.words, slT vh 84 headE h.heads, slT vr 3 intE h.rem]) w' [.ob bh 77 (hpC vw vh vr2 (dropH h)), slT vw 27 wordE (dropH h).words, slT vh 84 headE (dropH h).heads, slT vr2 3 intE (dropH h).rem]) := by
  have hu := hw.use
  unfold dropH
  rcases (by omega : h.use = 0 ∨ h.use = 1) with hu | hu
  · rw [hu]; exact dropG0_r w0 bh vw vh vr h hA hw hrl hu
  · rw [hu]; exact dropG1_r w0 bh vw vh vr h hA hw hrl hu
end Go.Proofs.Ytglienidnffnjaa
