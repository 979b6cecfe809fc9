import Derived.Test.YtanpeofnlihhoaaDoorYd
namespace Go.Proofs.YtanpeofnlihhoaaDoor
open Go
set_option maxRecDepth 100000
set_option linter.unusedVariables false

theorem rno_small {s : List UInt8} {p : Nat} {l : List Tok} (h : RnOk s p l) : ∀ x ∈ l, (0 ≤ x.line ∧ x.line ≤ s.length + 1) ∧ (0 ≤ x.col ∧ x.col ≤ s.length + 1) := by
  induction h with
  | fin =>
    intro x hx
    obtain rfl := List.mem_singleton.1 hx
    have := posF_le s s.length
    exact ⟨⟨by simp [endT], by simp only [endT]; omega⟩, by simp [endT], by simp only [endT]; omega⟩
  | skip _ _ _ ih => exact ih
  | @tok i n k v t l h1 h2 _ ih =>
    intro x hx
    rcases List.mem_cons.1 hx with rfl | hx
    · have := posF_le s i
      exact ⟨⟨by simp, by dsimp only; omega⟩, by simp, by dsimp only; omega⟩
    · exact ih x hx
theorem shift_read {s : List UInt8} {m n : Nat} {l l2 : List Tok} {d e : Diag} (hs : (aheadL m n ++ s).length ≤ 16384) (h1 : readF s = (l, d)) (h2 : readF (aheadL m n ++ s) = (l2, e)) :
    d.number = e.number ∧ l.length = l2.length ∧ (0 ≤ d.line ∧ d.line ≤ 16385) ∧ (0 ≤ d.col ∧ d.col ≤ 16385) ∧ (d.number ≠ 0 → e = moveD m n d) ∧ (d.number = 0 → l2 = l.map (moveT m n) ∧ ∀ x ∈ l, (0 ≤ x.line ∧ x.line ≤ 16385) ∧ (0 ≤ x.col ∧ x.col ≤ 16385)) := by
  have hsl : s.length ≤ 16384 := by rw [len_ahead] at hs; omega
  rcases moved hs h1 with ⟨rfl, h3⟩ | ⟨rfl, hn, h3⟩
  · rw [h3] at h2
    cases h2
    obtain ⟨_, hr⟩ := ok_of h1
    refine ⟨rfl, by rw [List.length_map], ⟨by decide, by decide⟩, ⟨by decide, by decide⟩, fun h => absurd rfl h, fun _ => ⟨rfl, fun x hx => ?_⟩⟩
    have := rno_small hr x hx
    omega
  · rw [h3] at h2
    cases h2
    rcases read_is h1 with ⟨g, _, _⟩ | ⟨_, ⟨rfl, g⟩ | ⟨_, g⟩⟩
    · omega
    · exact absurd hn (by decide)
    · obtain ⟨_, p, hp, h5, h6⟩ := rnb_pos g
      have := posF_le s p
      refine ⟨rfl, rfl, ⟨by omega, by omega⟩, ⟨by omega, by omega⟩, fun _ => rfl, fun h => by omega⟩
theorem move_get {l l2 : List Tok} {m n i : Nat} {x z : Tok} (hl2 : l2 = l.map (moveT m n)) (hx : l[i]? = some x) (hz : l2[i]? = some z) : z = moveT m n x := by
  rw [hl2, List.getElem?_map, hx] at hz; exact (Option.some.inj hz).symm
theorem diag_eqL (a : List UInt8) (b c n : Int) (t : Diag) : (decide (a = t.file) && (decide (b = t.line) && (decide (c = t.col) && (decide (n = t.number) && true)))) = decide ((⟨a, b, c, n⟩ : Diag) = t) := diag_eq ⟨a, b, c, n⟩ t
theorem tok_eqL (k : Int) (a : List UInt8) (v b c : Int) (t : Tok) : (decide (k = t.kind) && (decide (a = t.text) && (decide (v = t.num) && (decide (b = t.line) && (decide (c = t.col) && true))))) = decide ((⟨k, a, v, b, c⟩ : Tok) = t) := tok_eq ⟨k, a, v, b, c⟩ t
theorem tok_eqR (s : Tok) (k : Int) (a : List UInt8) (v b c : Int) : (decide (s.kind = k) && (decide (s.text = a) && (decide (s.num = v) && (decide (s.line = b) && (decide (s.col = c) && true))))) = decide (s = (⟨k, a, v, b, c⟩ : Tok)) := tok_eq s ⟨k, a, v, b, c⟩
theorem ahead_up (m i : Nat) : aheadL m i ++ [32] = aheadL m (i + 1) := by
  unfold aheadL; rw [List.replicate_succ' (n := i), List.append_assoc]
theorem ahead_0 (m : Nat) : List.replicate m (10 : UInt8) = aheadL m 0 := by simp [aheadL]
theorem rep_up (i : Nat) : List.replicate i (10 : UInt8) ++ [10] = List.replicate (i + 1) 10 := (List.replicate_succ').symm
set_option maxHeartbeats 4000000 in
theorem lshifts_r (w0 : World) (s : List UInt8) (bl li : Int) (hs : s.length ≤ 1048576) (hG : GlE w0 []) : Ret Tryd.prog 6 #[str s, i64 bl, i64 li] w0 (fun v w' => v = .bool true ∧ St w0 [] w' []) := by
  have hO := St.init0 w0
  obtain ⟨n, hn, hn40⟩ : ∃ n : Nat, min (max bl 0) 40 = (n : Int) ∧ n ≤ 40 := ⟨(min (max bl 0) 40).toNat, by omega, by omega⟩
  obtain ⟨m, hm, hm40⟩ : ∃ m : Nat, min (max li 0) 40 = (m : Int) ∧ m ≤ 40 := ⟨(min (max li 0) 40).toNat, by omega, by omega⟩
  refine ret_of (m := 121) Tryd.func6 rfl Tryd.ntmps6 [(0, str s), (1, i64 bl), (2, i64 li)] rfl ⟨rfl, rfl, rfl, trivial⟩ fun a hF => ?_
  refine wp_seq ?_
  refine wp_region_lit ?_
  refine wl_v hF rfl rfl rfl (q_assign rfl (hF.eval rfl)) fun a hF => ?_
  refine wl_nil ?_
  refine k_n ?_
  refine wp_seq ?_
  refine wp_region_lit ?_
  refine wl_v hF rfl rfl rfl (q_move rfl (hF.eval rfl)) fun a hF => ?_
  refine wl_v hF rfl rfl rfl (q_max rfl (hF.eval rfl) (hF.eval rfl)) fun a hF => ?_
  refine wl_v hF rfl rfl rfl (q_min rfl (hF.eval rfl) (hF.eval rfl)) fun a hF => ?_
  refine wl_v hF rfl rfl rfl (q_assign rfl (hF.eval rfl)) fun a hF => ?_
  refine wl_nil ?_
  refine k_n ?_
  refine wp_seq ?_
  refine wp_region_lit ?_
  refine wl_v hF rfl rfl rfl (q_move rfl (hF.eval rfl)) fun a hF => ?_
  refine wl_v hF rfl rfl rfl (q_max rfl (hF.eval rfl) (hF.eval rfl)) fun a hF => ?_
  refine wl_v hF rfl rfl rfl (q_min rfl (hF.eval rfl) (hF.eval rfl)) fun a hF => ?_
  refine wl_v hF rfl rfl rfl (q_assign rfl (hF.eval rfl)) fun a hF => ?_
  refine wl_nil ?_
  refine k_n ?_
  refine wp_seq ?_
  refine wp_region_lit ?_
  refine wl_v hF rfl rfl rfl (q_assign rfl (hF.eval rfl)) fun a hF => ?_
  refine wl_nil ?_
  refine k_n ?_
  refine wp_seq ?_
  refine wp_seq ?_
  refine wp_region_lit ?_
  refine wl_v hF rfl rfl rfl (q_assign rfl (hF.eval rfl)) fun a hF => ?_
  refine wl_nil ?_
  refine k_n ?_
  refine wp_block ?_
  have hO : St _ _ _ [] := hO
  refine wp_loopS (fun (i : Nat) a w' => (i ≤ m) ∧ St w0 [] w' [] ∧ Fr a 121 [(0, str s), (7, i64 n), (8, i64 m), (9, str (List.replicate i 10)), (10, i64 i)]) (fun (i : Nat) => m - i) 0 ⟨by omega, hO, hF.sub ⟨rfl, (congrArg some (congrArg i64 hn)), (congrArg some (congrArg i64 hm)), rfl, rfl, trivial⟩⟩ ?_
  rintro i a w ⟨hi, hO, hF⟩
  refine wp_seq ?_
  refine wp_seq ?_
  refine wp_region_lit ?_
  refine wl_v hF rfl rfl rfl (q_move rfl (hF.eval rfl)) fun a hF => ?_
  refine wl_v hF rfl rfl rfl (q_move rfl (hF.eval rfl)) fun a hF => ?_
  refine wl_v hF rfl rfl rfl (q_lt rfl (hF.eval rfl) (hF.eval rfl)) fun a hF => ?_
  refine wl_nil ?_
  refine k_n ?_
  refine wp_ifD hF rfl rfl (fun hc1 => ?_) (fun hc1 => ?_)
  · skip
    refine wp_skip ?_
    refine k_n ?_
    refine wp_seq ?_
    refine wp_block ?_
    refine wp_region_lit ?_
    refine wl_v hF rfl rfl rfl (q_move rfl (hF.eval rfl)) fun a hF => ?_
    refine wl_v hF rfl rfl rfl (q_cat rfl (hF.eval rfl) (hF.eval rfl) (by simp; omega)) fun a hF => ?_
    refine wl_v hF rfl rfl rfl (q_assign rfl (hF.eval rfl)) fun a hF => ?_
    refine wl_nil ?_
    refine b_n ?_
    refine k_n ?_
    refine wp_region_lit ?_
    refine wl_v hF rfl rfl rfl (q_move rfl (hF.eval rfl)) fun a hF => ?_
    refine wl_v hF rfl rfl rfl (q_add rfl (hF.eval rfl) (hF.eval rfl) (by omega)) fun a hF => ?_
    refine wl_v hF rfl rfl rfl (q_assign rfl (hF.eval rfl)) fun a hF => ?_
    refine wl_nil ?_
    refine k_n ?_
    have hO : St _ _ _ [] := hO
    exact ⟨i + 1, ⟨by omega, hO, hF.sub ⟨rfl, rfl, rfl, (congrArg some (congrArg str (rep_up i))), rfl, trivial⟩⟩, by omega⟩
  · skip
    refine wp_exit ?_
    refine k_x ?_
    refine k_x ?_
    refine b_x ?_
    refine k_n ?_
    refine wp_seq ?_
    refine wp_seq ?_
    refine wp_region_lit ?_
    refine wl_v hF rfl rfl rfl (q_assign rfl (hF.eval rfl)) fun a hF => ?_
    refine wl_nil ?_
    refine k_n ?_
    refine wp_block ?_
    obtain rfl : m = i := by omega
    have hO : St _ _ _ [] := hO
    refine wp_loopS (fun (i : Nat) a w' => (i ≤ n) ∧ St w0 [] w' [] ∧ Fr a 121 [(0, str s), (7, i64 n), (8, i64 m), (9, str (aheadL m i)), (11, i64 i)]) (fun (i : Nat) => n - i) 0 ⟨by omega, hO, hF.sub ⟨rfl, rfl, rfl, (congrArg some (congrArg str (ahead_0 m))), rfl, trivial⟩⟩ ?_
    rintro i a w ⟨hi, hO, hF⟩
    refine wp_seq ?_
    refine wp_seq ?_
    refine wp_region_lit ?_
    refine wl_v hF rfl rfl rfl (q_move rfl (hF.eval rfl)) fun a hF => ?_
    refine wl_v hF rfl rfl rfl (q_move rfl (hF.eval rfl)) fun a hF => ?_
    refine wl_v hF rfl rfl rfl (q_lt rfl (hF.eval rfl) (hF.eval rfl)) fun a hF => ?_
    refine wl_nil ?_
    refine k_n ?_
    refine wp_ifD hF rfl rfl (fun hc2 => ?_) (fun hc2 => ?_)
    · skip
      refine wp_skip ?_
      refine k_n ?_
      refine wp_seq ?_
      refine wp_block ?_
      refine wp_region_lit ?_
      refine wl_v hF rfl rfl rfl (q_move rfl (hF.eval rfl)) fun a hF => ?_
      refine wl_v hF rfl rfl rfl (q_cat rfl (hF.eval rfl) (hF.eval rfl) (by rw [ahead_len]; simp; omega)) fun a hF => ?_
      refine wl_v hF rfl rfl rfl (q_assign rfl (hF.eval rfl)) fun a hF => ?_
      refine wl_nil ?_
      refine b_n ?_
      refine k_n ?_
      refine wp_region_lit ?_
      refine wl_v hF rfl rfl rfl (q_move rfl (hF.eval rfl)) fun a hF => ?_
      refine wl_v hF rfl rfl rfl (q_add rfl (hF.eval rfl) (hF.eval rfl) (by omega)) fun a hF => ?_
      refine wl_v hF rfl rfl rfl (q_assign rfl (hF.eval rfl)) fun a hF => ?_
      refine wl_nil ?_
      refine k_n ?_
      have hO : St _ _ _ [] := hO
      exact ⟨i + 1, ⟨by omega, hO, hF.sub ⟨rfl, rfl, rfl, (congrArg some (congrArg str (ahead_up m i))), rfl, trivial⟩⟩, by omega⟩
    · skip
      obtain rfl : n = i := by omega
      refine wp_exit ?_
      refine k_x ?_
      refine k_x ?_
      refine b_x ?_
      refine k_n ?_
      refine wp_seq ?_
      refine wp_seq ?_
      refine wp_region_lit ?_
      refine wl_v hF rfl rfl rfl (q_move rfl (hF.eval rfl)) fun a hF => ?_
      refine wl_v hF rfl rfl rfl (q_len Tryd.underlying9 rfl (hF.eval rfl)) fun a hF => ?_
      refine wl_v hF rfl rfl rfl (q_move rfl (hF.eval rfl)) fun a hF => ?_
      refine wl_v hF rfl rfl rfl (q_len Tryd.underlying9 rfl (hF.eval rfl)) fun a hF => ?_
      refine wl_v hF rfl rfl rfl (q_add rfl (hF.eval rfl) (hF.eval rfl) (by rw [ahead_len]; omega)) fun a hF => ?_
      refine wl_v hF rfl rfl rfl (q_gt rfl (hF.eval rfl) (hF.eval rfl)) fun a hF => ?_
      refine wl_nil ?_
      refine k_n ?_
      refine wp_ifD hF rfl rfl (fun hc3 => ?_) (fun hc3 => ?_)
      · skip
        refine wp_seq ?_
        refine wp_region_lit ?_
        refine wl_e hF rfl rfl rfl (c_call hF rfl rfl Tryd.call11 (lawake_r _ (hG.at0 hO))) ?_
        rintro a _ w ⟨rfl, hS⟩ hF
        have hO := hO.call0 hS
        have hO : St _ _ _ [] := hO
        refine wl_v hF rfl rfl rfl (q_assign rfl (hF.eval rfl)) fun a hF => ?_
        refine wl_nil ?_
        refine k_n ?_
        refine wp_ret ?_
        refine k_r ?_
        refine r_1 hF rfl rfl ?_
        have hO : St _ _ _ [] := hO
        exact ⟨rfl, hO⟩
      · skip
        have hsl : (aheadL m n ++ s).length ≤ 16384 := by rw [ahead_len] at hc3; rw [len_ahead]; omega
        refine wp_skip ?_
        refine k_n ?_
        refine wp_seq ?_
        refine wp_region_lit ?_
        refine wl_v hF rfl rfl rfl (q_move rfl (hF.eval rfl)) fun a hF => ?_
        refine wl_e hF rfl rfl rfl (c_call hF rfl rfl Tryd.call8 (pread_r _ _ (by omega) (hG.at0 hO))) ?_
        rintro a _ w ⟨va, l, d, hra, rfl, hS⟩ hF
        have hO := hO.call0 hS
        have hO : St _ _ _ [_] := hO
        refine wl_v hF rfl rfl rfl (q_move rfl (hF.eval rfl)) fun a hF => ?_
        refine wl_v hF rfl rfl rfl (q_extract rfl (hF.eval rfl) rfl) fun a hF => ?_
        refine wl_v hF rfl rfl rfl (q_extract rfl (hF.eval rfl) rfl) fun a hF => ?_
        refine wl_e hF rfl rfl rfl (e_alloc hO Tryd.zeroValue25 rfl rfl) ?_
        rintro a _ w ⟨e1, rfl, hO⟩ hF
        refine wl_v hF rfl rfl rfl (q_assign rfl (hF.eval rfl)) fun a hF => ?_
        refine wl_s hF rfl rfl (e_storeAll hO (i := 0) rfl Tryd.sizeOf25 rfl (hF.eval rfl) (hF.eval rfl) rfl rfl) ?_
        rintro a _ w ⟨-, hO⟩ hF
        have hO : St _ _ _ [_, _] := hO
        refine wl_nil ?_
        refine k_n ?_
        refine wp_seq ?_
        refine wp_region_lit ?_
        refine wl_v hF rfl rfl rfl (q_move rfl (hF.eval rfl)) fun a hF => ?_
        refine wl_v hF rfl rfl rfl (q_move rfl (hF.eval rfl)) fun a hF => ?_
        refine wl_v hF rfl rfl rfl (q_cat rfl (hF.eval rfl) (hF.eval rfl) (by rw [ahead_len]; omega)) fun a hF => ?_
        refine wl_e hF rfl rfl rfl (c_call hF rfl rfl Tryd.call8 (pread_r _ _ (by rw [len_ahead]; omega) (hG.at0 hO))) ?_
        rintro a _ w ⟨vb, l2, e, hrb, rfl, hS⟩ hF
        have hO := hO.call0 hS
        have hO : St _ _ _ [_, _, _] := hO
        obtain ⟨h1, h2, h3, h4, h5, h6⟩ := shift_read hsl hra hrb
        refine wl_v hF rfl rfl rfl (q_move rfl (hF.eval rfl)) fun a hF => ?_
        refine wl_v hF rfl rfl rfl (q_extract rfl (hF.eval rfl) rfl) fun a hF => ?_
        refine wl_v hF rfl rfl rfl (q_extract rfl (hF.eval rfl) rfl) fun a hF => ?_
        refine wl_e hF rfl rfl rfl (e_alloc hO Tryd.zeroValue25 rfl rfl) ?_
        rintro a _ w ⟨e2, rfl, hO⟩ hF
        refine wl_v hF rfl rfl rfl (q_assign rfl (hF.eval rfl)) fun a hF => ?_
        refine wl_s hF rfl rfl (e_storeAll hO (i := 0) rfl Tryd.sizeOf25 rfl (hF.eval rfl) (hF.eval rfl) rfl rfl) ?_
        rintro a _ w ⟨-, hO⟩ hF
        have hO : St _ _ _ [_, _, _, _] := hO
        refine wl_nil ?_
        refine k_n ?_
        refine wp_seq ?_
        refine wp_seq ?_
        refine wp_region_lit ?_
        refine wl_v hF rfl rfl rfl (q_fieldAddr0 (d := 3) Tryd.underlying25 rfl (hF.eval rfl) rfl Tryd.sizeOf23 (by decide) rfl) fun a hF => ?_
        refine wl_v hF rfl rfl rfl (q_load Tryd.isAgg23 rfl (hF.eval rfl) (hO.cell 2 rfl rfl)) fun a hF => ?_
        refine wl_v hF rfl rfl rfl (q_fieldAddr0 (d := 3) Tryd.underlying25 rfl (hF.eval rfl) rfl Tryd.sizeOf23 (by decide) rfl) fun a hF => ?_
        refine wl_v hF rfl rfl rfl (q_load Tryd.isAgg23 rfl (hF.eval rfl) (hO.cell 0 rfl rfl)) fun a hF => ?_
        refine wl_v hF rfl rfl rfl (q_ne rfl (hF.eval rfl) (hF.eval rfl)) fun a hF => ?_
        refine wl_v hF rfl rfl rfl (q_move rfl (hF.eval rfl)) fun a hF => ?_
        refine wl_g hF rfl rfl rfl rfl rfl rfl (fun hg => q_move rfl (hF.eval rfl)) fun a hF => ?_
        refine wl_g hF rfl rfl rfl rfl rfl rfl (fun hg => q_lenRd (hO.rd 3 rfl) Tryd.underlying22 rfl ((hF.eval rfl).trans (gv_of hg))) fun a hF => ?_
        refine wl_g hF rfl rfl rfl rfl rfl rfl (fun hg => q_move rfl (hF.eval rfl)) fun a hF => ?_
        refine wl_g hF rfl rfl rfl rfl rfl rfl (fun hg => q_lenRd (hO.rd 1 rfl) Tryd.underlying22 rfl ((hF.eval rfl).trans (gv_of hg))) fun a hF => ?_
        refine wl_g hF rfl rfl rfl rfl rfl rfl (fun hg => q_ne rfl ((hF.eval rfl).trans (gv_of hg)) ((hF.eval rfl).trans (gv_of hg))) fun a hF => ?_
        refine wl_v hF rfl rfl rfl (q_or rfl (hF.eval rfl) rfl (fun hg2 => ((hF.eval rfl).trans (gv_of hg2))) rfl) fun a hF => ?_
        refine wl_nil ?_
        refine k_n ?_
        refine wp_ifD hF rfl rfl (fun hc4 => ?_) (fun hc4 => ?_)
        · skip
          rcases hc4 with h | h
          · exact absurd h1 h
          · exact absurd (by omega) h
          done
        · skip
          refine wp_skip ?_
          refine k_n ?_
          refine wp_seq ?_
          refine wp_seq ?_
          refine wp_region_lit ?_
          refine wl_v hF rfl rfl rfl (q_fieldAddr0 (d := 3) Tryd.underlying25 rfl (hF.eval rfl) rfl Tryd.sizeOf23 (by decide) rfl) fun a hF => ?_
          refine wl_v hF rfl rfl rfl (q_load Tryd.isAgg23 rfl (hF.eval rfl) (hO.cell 2 rfl rfl)) fun a hF => ?_
          refine wl_v hF rfl rfl rfl (q_ne rfl (hF.eval rfl) (hF.eval rfl)) fun a hF => ?_
          refine wl_nil ?_
          refine k_n ?_
          refine wp_ifD hF rfl rfl (fun hc5 => ?_) (fun hc5 => ?_)
          · skip
            have h5 := h5 hc5
            refine wp_seq ?_
            refine wp_seq ?_
            refine wp_region_lit ?_
            refine wl_v hF rfl rfl rfl (q_fieldAddr0 (d := 1) Tryd.underlying25 rfl (hF.eval rfl) rfl Tryd.sizeOf3 (by decide) rfl) fun a hF => ?_
            refine wl_v hF rfl rfl rfl (q_load Tryd.isAgg3 rfl (hF.eval rfl) (hO.cell 2 rfl rfl)) fun a hF => ?_
            refine wl_v hF rfl rfl rfl (q_eq rfl (hF.eval rfl) (hF.eval rfl)) fun a hF => ?_
            refine wl_nil ?_
            refine k_n ?_
            refine wp_ifD hF rfl rfl (fun hc6 => ?_) (fun hc6 => ?_)
            · skip
              refine wp_region_lit ?_
              refine wl_v hF rfl rfl rfl (q_fieldAddr0 (d := 2) Tryd.underlying25 rfl (hF.eval rfl) rfl Tryd.sizeOf3 (by decide) rfl) fun a hF => ?_
              refine wl_v hF rfl rfl rfl (q_load Tryd.isAgg3 rfl (hF.eval rfl) (hO.cell 2 rfl rfl)) fun a hF => ?_
              refine wl_v hF rfl rfl rfl (q_move rfl (hF.eval rfl)) fun a hF => ?_
              refine wl_v hF rfl rfl rfl (q_add rfl (hF.eval rfl) (hF.eval rfl) (by omega)) fun a hF => ?_
              refine wl_v hF rfl rfl rfl (q_fieldAddr0 (d := 2) Tryd.underlying25 rfl (hF.eval rfl) rfl Tryd.sizeOf3 (by decide) rfl) fun a hF => ?_
              refine wl_s hF rfl rfl (e_store1 hO (i := 2) rfl Tryd.sizeOf3 rfl (hF.eval rfl) (hF.eval rfl) rfl rfl rfl) ?_
              rintro a _ w ⟨-, hO⟩ hF
              have hO : St _ _ _ [_, _, _, _] := hO
              refine wl_nil ?_
              refine k_n ?_
              refine wp_seq ?_
              refine wp_region_lit ?_
              refine wl_v hF rfl rfl rfl (q_fieldAddr0 (d := 1) Tryd.underlying25 rfl (hF.eval rfl) rfl Tryd.sizeOf3 (by decide) rfl) fun a hF => ?_
              refine wl_v hF rfl rfl rfl (q_load Tryd.isAgg3 rfl (hF.eval rfl) (hO.cell 2 rfl rfl)) fun a hF => ?_
              refine wl_v hF rfl rfl rfl (q_move rfl (hF.eval rfl)) fun a hF => ?_
              refine wl_v hF rfl rfl rfl (q_add rfl (hF.eval rfl) (hF.eval rfl) (by omega)) fun a hF => ?_
              refine wl_v hF rfl rfl rfl (q_fieldAddr0 (d := 1) Tryd.underlying25 rfl (hF.eval rfl) rfl Tryd.sizeOf3 (by decide) rfl) fun a hF => ?_
              refine wl_s hF rfl rfl (e_store1 hO (i := 2) rfl Tryd.sizeOf3 rfl (hF.eval rfl) (hF.eval rfl) rfl rfl rfl) ?_
              rintro a _ w ⟨-, hO⟩ hF
              have hO : St _ _ _ [_, _, _, _] := hO
              refine wl_nil ?_
              refine k_n ?_
              refine wp_seq ?_
              refine wp_region_lit ?_
              refine wl_v hF rfl rfl rfl (q_loadAgg Tryd.isAgg25 Tryd.sizeOf25 rfl (hF.eval rfl) (hO.cells 2 rfl) rfl) fun a hF => ?_
              refine wl_v hF rfl rfl rfl (q_loadAgg Tryd.isAgg25 Tryd.sizeOf25 rfl (hF.eval rfl) (hO.cells 0 rfl) rfl) fun a hF => ?_
              refine wl_v hF rfl rfl rfl (q_eqS Tryd.underlying25 Tryd.stoodInHeld25 Tryd.eqGuardType25 rfl (hF.eval rfl) (hF.eval rfl) (ef_str (by decide) Tryd.isAgg9 Tryd.underlying9 rfl rfl (ef_int (by decide) Tryd.isAgg3 Tryd.underlying3 rfl rfl (ef_int (by decide) Tryd.isAgg3 Tryd.underlying3 rfl rfl (ef_int (by decide) Tryd.isAgg23 Tryd.underlying23 rfl rfl ef_nil)))) (diag_eqL _ _ _ _ _)) fun a hF => ?_
              refine wl_v hF rfl rfl rfl (q_move rfl (hF.eval rfl)) fun a hF => ?_
              refine wl_gk hO hF rfl rfl rfl rfl rfl rfl (fun hg => c_callG hF rfl rfl (by first | with_reducible rfl | (simp only [gv_of hg]; done) | (simp only [gv_of hg]; rfl)) Tryd.call11 (lawake_r _ (hG.at0 hO))) fun a w hO hF => ?_
              refine wl_v hF rfl rfl rfl (q_and rfl (hF.eval rfl) rfl (fun hg2 => ((hF.eval rfl).trans (gv_of hg2))) (dec_b _)) fun a hF => ?_
              refine wl_v hF rfl rfl rfl (q_assign rfl (hF.eval rfl)) fun a hF => ?_
              refine wl_nil ?_
              refine k_n ?_
              refine wp_ret ?_
              refine k_r ?_
              refine r_1 hF rfl rfl ?_
              have hO := hO.drop1 0
              have hO := hO.drop1 0
              have hO := hO.drop1 0
              have hO := hO.drop1 0
              have hO : St _ _ _ [] := hO
              refine ⟨congrArg Value.bool (decide_eq_true ⟨?_, rfl⟩), hO⟩
              rw [h5, moveD, if_pos hc6]
              simp only [Diag.mk.injEq]
              refine ⟨?_, ?_, ?_, ?_⟩ <;> first | trivial | omega
            · skip
              refine wp_skip ?_
              refine k_n ?_
              refine wp_seq ?_
              refine wp_region_lit ?_
              refine wl_v hF rfl rfl rfl (q_fieldAddr0 (d := 1) Tryd.underlying25 rfl (hF.eval rfl) rfl Tryd.sizeOf3 (by decide) rfl) fun a hF => ?_
              refine wl_v hF rfl rfl rfl (q_load Tryd.isAgg3 rfl (hF.eval rfl) (hO.cell 2 rfl rfl)) fun a hF => ?_
              refine wl_v hF rfl rfl rfl (q_move rfl (hF.eval rfl)) fun a hF => ?_
              refine wl_v hF rfl rfl rfl (q_add rfl (hF.eval rfl) (hF.eval rfl) (by omega)) fun a hF => ?_
              refine wl_v hF rfl rfl rfl (q_fieldAddr0 (d := 1) Tryd.underlying25 rfl (hF.eval rfl) rfl Tryd.sizeOf3 (by decide) rfl) fun a hF => ?_
              refine wl_s hF rfl rfl (e_store1 hO (i := 2) rfl Tryd.sizeOf3 rfl (hF.eval rfl) (hF.eval rfl) rfl rfl rfl) ?_
              rintro a _ w ⟨-, hO⟩ hF
              have hO : St _ _ _ [_, _, _, _] := hO
              refine wl_nil ?_
              refine k_n ?_
              refine wp_seq ?_
              refine wp_region_lit ?_
              refine wl_v hF rfl rfl rfl (q_loadAgg Tryd.isAgg25 Tryd.sizeOf25 rfl (hF.eval rfl) (hO.cells 2 rfl) rfl) fun a hF => ?_
              refine wl_v hF rfl rfl rfl (q_loadAgg Tryd.isAgg25 Tryd.sizeOf25 rfl (hF.eval rfl) (hO.cells 0 rfl) rfl) fun a hF => ?_
              refine wl_v hF rfl rfl rfl (q_eqS Tryd.underlying25 Tryd.stoodInHeld25 Tryd.eqGuardType25 rfl (hF.eval rfl) (hF.eval rfl) (ef_str (by decide) Tryd.isAgg9 Tryd.underlying9 rfl rfl (ef_int (by decide) Tryd.isAgg3 Tryd.underlying3 rfl rfl (ef_int (by decide) Tryd.isAgg3 Tryd.underlying3 rfl rfl (ef_int (by decide) Tryd.isAgg23 Tryd.underlying23 rfl rfl ef_nil)))) (diag_eqL _ _ _ _ _)) fun a hF => ?_
              refine wl_v hF rfl rfl rfl (q_move rfl (hF.eval rfl)) fun a hF => ?_
              refine wl_gk hO hF rfl rfl rfl rfl rfl rfl (fun hg => c_callG hF rfl rfl (by first | with_reducible rfl | (simp only [gv_of hg]; done) | (simp only [gv_of hg]; rfl)) Tryd.call11 (lawake_r _ (hG.at0 hO))) fun a w hO hF => ?_
              refine wl_v hF rfl rfl rfl (q_and rfl (hF.eval rfl) rfl (fun hg2 => ((hF.eval rfl).trans (gv_of hg2))) (dec_b _)) fun a hF => ?_
              refine wl_v hF rfl rfl rfl (q_assign rfl (hF.eval rfl)) fun a hF => ?_
              refine wl_nil ?_
              refine k_n ?_
              refine wp_ret ?_
              refine k_r ?_
              refine r_1 hF rfl rfl ?_
              have hO := hO.drop1 0
              have hO := hO.drop1 0
              have hO := hO.drop1 0
              have hO := hO.drop1 0
              have hO : St _ _ _ [] := hO
              refine ⟨congrArg Value.bool (decide_eq_true ⟨?_, rfl⟩), hO⟩
              rw [h5, moveD, if_neg hc6]
              simp only [Diag.mk.injEq]
              refine ⟨?_, ?_, ?_, ?_⟩ <;> first | trivial | omega
          · skip
            obtain ⟨hl2, h62⟩ := h6 (Classical.not_not.1 hc5)
            refine wp_skip ?_
            refine k_n ?_
            refine wp_seq ?_
            refine wp_seq ?_
            refine wp_region_lit ?_
            refine wl_v hF rfl rfl rfl (q_assign rfl (hF.eval rfl)) fun a hF => ?_
            refine wl_nil ?_
            refine k_n ?_
            refine wp_block ?_
            have hO := hO.drop1 0
            have hO := hO.drop1 1
            have hO := hO.pull 1 rfl
            have hO : St _ _ _ [_, _] := hO
            refine wp_loopS (fun (i : Nat) a w' => (i ≤ l.length) ∧ St w0 [] w' [slT va 32 tokE l, slT vb 32 tokE l2] ∧ Fr a 121 [(7, i64 n), (8, i64 m), (12, va), (14, vb), (16, i64 i)]) (fun (i : Nat) => l.length - i) 0 ⟨by omega, hO, hF.sub ⟨rfl, rfl, rfl, rfl, rfl, trivial⟩⟩ ?_
            rintro i a w ⟨hi, hO, hF⟩
            have hln := RdT.lenle (hO.rdT 0 rfl)
            refine wp_seq ?_
            refine wp_seq ?_
            refine wp_region_lit ?_
            refine wl_v hF rfl rfl rfl (q_move rfl (hF.eval rfl)) fun a hF => ?_
            refine wl_v hF rfl rfl rfl (q_move rfl (hF.eval rfl)) fun a hF => ?_
            refine wl_v hF rfl rfl rfl (q_lenRd (hO.rd 0 rfl) Tryd.underlying22 rfl (hF.eval rfl)) fun a hF => ?_
            refine wl_v hF rfl rfl rfl (q_lt rfl (hF.eval rfl) (hF.eval rfl)) fun a hF => ?_
            refine wl_nil ?_
            refine k_n ?_
            refine wp_ifD hF rfl rfl (fun hc7 => ?_) (fun hc7 => ?_)
            · skip
              refine wp_skip ?_
              refine k_n ?_
              refine wp_seq ?_
              refine wp_block ?_
              refine wp_seq ?_
              refine wp_region_lit ?_
              refine wl_v hF rfl rfl rfl (q_move rfl (hF.eval rfl)) fun a hF => ?_
              refine wl_v hF rfl rfl rfl (q_move rfl (hF.eval rfl)) fun a hF => ?_
              obtain ⟨x, hx⟩ := get_ex (l := l) (i := i) (by omega)
              refine wl_v hF rfl rfl rfl (q_at (i := i) (hO.rd 0 rfl) Tryd.underlying22 Tryd.sizeOf32 rfl (hF.eval rfl) (hF.eval rfl) (by omega)) fun a hF => ?_
              refine wl_v hF rfl rfl rfl (q_loadAgg Tryd.isAgg32 Tryd.sizeOf32 rfl (hF.eval rfl) (RdT.cells (hO.rdT 0 rfl) hx) rfl) fun a hF => ?_
              refine wl_e hF rfl rfl rfl (e_alloc hO Tryd.zeroValue32 rfl rfl) ?_
              rintro a _ w ⟨tk, rfl, hO⟩ hF
              have hxs := h62 x (List.mem_of_getElem? hx)
              refine wl_s hF rfl rfl (e_storeAll hO (i := 0) rfl Tryd.sizeOf32 rfl (hF.eval rfl) (hF.eval rfl) rfl rfl) ?_
              rintro a _ w ⟨-, hO⟩ hF
              have hO : St _ _ _ [_, _, _] := hO
              refine wl_nil ?_
              refine k_n ?_
              refine wp_seq ?_
              refine wp_seq ?_
              refine wp_region_lit ?_
              refine wl_v hF rfl rfl rfl (q_fieldAddr0 (d := 3) Tryd.underlying32 rfl (hF.eval rfl) rfl Tryd.sizeOf3 (by decide) rfl) fun a hF => ?_
              refine wl_v hF rfl rfl rfl (q_load Tryd.isAgg3 rfl (hF.eval rfl) (hO.cell 0 rfl rfl)) fun a hF => ?_
              refine wl_v hF rfl rfl rfl (q_eq rfl (hF.eval rfl) (hF.eval rfl)) fun a hF => ?_
              refine wl_nil ?_
              refine k_n ?_
              refine wp_ifD hF rfl rfl (fun hc8 => ?_) (fun hc8 => ?_)
              · skip
                refine wp_region_lit ?_
                refine wl_v hF rfl rfl rfl (q_fieldAddr0 (d := 4) Tryd.underlying32 rfl (hF.eval rfl) rfl Tryd.sizeOf3 (by decide) rfl) fun a hF => ?_
                refine wl_v hF rfl rfl rfl (q_load Tryd.isAgg3 rfl (hF.eval rfl) (hO.cell 0 rfl rfl)) fun a hF => ?_
                refine wl_v hF rfl rfl rfl (q_move rfl (hF.eval rfl)) fun a hF => ?_
                refine wl_v hF rfl rfl rfl (q_add rfl (hF.eval rfl) (hF.eval rfl) (by omega)) fun a hF => ?_
                refine wl_v hF rfl rfl rfl (q_fieldAddr0 (d := 4) Tryd.underlying32 rfl (hF.eval rfl) rfl Tryd.sizeOf3 (by decide) rfl) fun a hF => ?_
                refine wl_s hF rfl rfl (e_store1 hO (i := 0) rfl Tryd.sizeOf3 rfl (hF.eval rfl) (hF.eval rfl) rfl rfl rfl) ?_
                rintro a _ w ⟨-, hO⟩ hF
                have hO : St _ _ _ [_, _, _] := hO
                refine wl_nil ?_
                refine k_n ?_
                refine wp_seq ?_
                refine wp_region_lit ?_
                refine wl_v hF rfl rfl rfl (q_fieldAddr0 (d := 3) Tryd.underlying32 rfl (hF.eval rfl) rfl Tryd.sizeOf3 (by decide) rfl) fun a hF => ?_
                refine wl_v hF rfl rfl rfl (q_load Tryd.isAgg3 rfl (hF.eval rfl) (hO.cell 0 rfl rfl)) fun a hF => ?_
                refine wl_v hF rfl rfl rfl (q_move rfl (hF.eval rfl)) fun a hF => ?_
                refine wl_v hF rfl rfl rfl (q_add rfl (hF.eval rfl) (hF.eval rfl) (by omega)) fun a hF => ?_
                refine wl_v hF rfl rfl rfl (q_fieldAddr0 (d := 3) Tryd.underlying32 rfl (hF.eval rfl) rfl Tryd.sizeOf3 (by decide) rfl) fun a hF => ?_
                refine wl_s hF rfl rfl (e_store1 hO (i := 0) rfl Tryd.sizeOf3 rfl (hF.eval rfl) (hF.eval rfl) rfl rfl rfl) ?_
                rintro a _ w ⟨-, hO⟩ hF
                have hO : St _ _ _ [_, _, _] := hO
                refine wl_nil ?_
                refine k_n ?_
                refine wp_seq ?_
                have hO := hO.drew
                refine wp_region_D [1, 0, 0, 0, 1, 0] (fun w => St _ _ w _) Tryd_mixed (by kernel_rfl) hO ?_
                refine wd_r hF rfl rfl rfl (fun w hO => q_loadAgg Tryd.isAgg32 Tryd.sizeOf32 rfl (hF.eval rfl) (hO.cells 0 rfl) rfl) fun a hF => ?_
                refine wd_p hF rfl rfl rfl (fun w => q_move rfl (hF.eval rfl)) fun a hF => ?_
                refine wd_p hF rfl rfl rfl (fun w => q_move rfl (hF.eval rfl)) fun a hF => ?_
                obtain ⟨z, hz⟩ := get_ex (l := l2) (i := i) (by omega)
                refine wd_p hF rfl rfl rfl (fun w => q_at (i := i) (hO.rd 2 rfl) Tryd.underlying22 Tryd.sizeOf32 rfl (hF.eval rfl) (hF.eval rfl) (by omega)) fun a hF => ?_
                refine wd_r hF rfl rfl rfl (fun w hO => q_loadAgg Tryd.isAgg32 Tryd.sizeOf32 rfl (hF.eval rfl) (RdT.cells (hO.rdT 2 rfl) hz) rfl) fun a hF => ?_
                refine wd_p hF rfl rfl rfl (fun w => q_neS Tryd.underlying32 Tryd.stoodInHeld32 Tryd.eqGuardType32 rfl (hF.eval rfl) (hF.eval rfl) (ef_int (by decide) Tryd.isAgg3 Tryd.underlying3 rfl rfl (ef_str (by decide) Tryd.isAgg9 Tryd.underlying9 rfl rfl (ef_int (by decide) Tryd.isAgg3 Tryd.underlying3 rfl rfl (ef_int (by decide) Tryd.isAgg3 Tryd.underlying3 rfl rfl (ef_int (by decide) Tryd.isAgg3 Tryd.underlying3 rfl rfl ef_nil))))) (tok_eqL _ _ _ _ _ _)) fun a hF => ?_
                refine wd_nil ?_
                refine k_n ?_
                refine wp_ifD hF rfl rfl (fun hc9 => ?_) (fun hc9 => ?_)
                · skip
                  refine absurd ?_ hc9
                  rw [move_get hl2 hx hz, moveT, if_pos hc8]
                  simp only [Tok.mk.injEq]
                  refine ⟨?_, ?_, ?_, ?_, ?_⟩ <;> first | trivial | omega
                  done
                · skip
                  refine wp_skip ?_
                  refine b_n ?_
                  refine k_n ?_
                  refine wp_region_lit ?_
                  refine wl_v hF rfl rfl rfl (q_move rfl (hF.eval rfl)) fun a hF => ?_
                  refine wl_v hF rfl rfl rfl (q_add rfl (hF.eval rfl) (hF.eval rfl) (by omega)) fun a hF => ?_
                  refine wl_v hF rfl rfl rfl (q_assign rfl (hF.eval rfl)) fun a hF => ?_
                  refine wl_nil ?_
                  refine k_n ?_
                  have hO := hO.drop1 0
                  have hO : St _ _ _ [_, _] := hO
                  exact ⟨i + 1, ⟨by omega, hO, hF.sub ⟨rfl, rfl, rfl, rfl, rfl, trivial⟩⟩, by omega⟩
              · skip
                refine wp_skip ?_
                refine k_n ?_
                refine wp_seq ?_
                refine wp_region_lit ?_
                refine wl_v hF rfl rfl rfl (q_fieldAddr0 (d := 3) Tryd.underlying32 rfl (hF.eval rfl) rfl Tryd.sizeOf3 (by decide) rfl) fun a hF => ?_
                refine wl_v hF rfl rfl rfl (q_load Tryd.isAgg3 rfl (hF.eval rfl) (hO.cell 0 rfl rfl)) fun a hF => ?_
                refine wl_v hF rfl rfl rfl (q_move rfl (hF.eval rfl)) fun a hF => ?_
                refine wl_v hF rfl rfl rfl (q_add rfl (hF.eval rfl) (hF.eval rfl) (by omega)) fun a hF => ?_
                refine wl_v hF rfl rfl rfl (q_fieldAddr0 (d := 3) Tryd.underlying32 rfl (hF.eval rfl) rfl Tryd.sizeOf3 (by decide) rfl) fun a hF => ?_
                refine wl_s hF rfl rfl (e_store1 hO (i := 0) rfl Tryd.sizeOf3 rfl (hF.eval rfl) (hF.eval rfl) rfl rfl rfl) ?_
                rintro a _ w ⟨-, hO⟩ hF
                have hO : St _ _ _ [_, _, _] := hO
                refine wl_nil ?_
                refine k_n ?_
                refine wp_seq ?_
                have hO := hO.drew
                refine wp_region_D [1, 0, 0, 0, 1, 0] (fun w => St _ _ w _) Tryd_mixed (by kernel_rfl) hO ?_
                refine wd_r hF rfl rfl rfl (fun w hO => q_loadAgg Tryd.isAgg32 Tryd.sizeOf32 rfl (hF.eval rfl) (hO.cells 0 rfl) rfl) fun a hF => ?_
                refine wd_p hF rfl rfl rfl (fun w => q_move rfl (hF.eval rfl)) fun a hF => ?_
                refine wd_p hF rfl rfl rfl (fun w => q_move rfl (hF.eval rfl)) fun a hF => ?_
                obtain ⟨z, hz⟩ := get_ex (l := l2) (i := i) (by omega)
                refine wd_p hF rfl rfl rfl (fun w => q_at (i := i) (hO.rd 2 rfl) Tryd.underlying22 Tryd.sizeOf32 rfl (hF.eval rfl) (hF.eval rfl) (by omega)) fun a hF => ?_
                refine wd_r hF rfl rfl rfl (fun w hO => q_loadAgg Tryd.isAgg32 Tryd.sizeOf32 rfl (hF.eval rfl) (RdT.cells (hO.rdT 2 rfl) hz) rfl) fun a hF => ?_
                refine wd_p hF rfl rfl rfl (fun w => q_neS Tryd.underlying32 Tryd.stoodInHeld32 Tryd.eqGuardType32 rfl (hF.eval rfl) (hF.eval rfl) (ef_int (by decide) Tryd.isAgg3 Tryd.underlying3 rfl rfl (ef_str (by decide) Tryd.isAgg9 Tryd.underlying9 rfl rfl (ef_int (by decide) Tryd.isAgg3 Tryd.underlying3 rfl rfl (ef_int (by decide) Tryd.isAgg3 Tryd.underlying3 rfl rfl (ef_int (by decide) Tryd.isAgg3 Tryd.underlying3 rfl rfl ef_nil))))) (tok_eqL _ _ _ _ _ _)) fun a hF => ?_
                refine wd_nil ?_
                refine k_n ?_
                refine wp_ifD hF rfl rfl (fun hc10 => ?_) (fun hc10 => ?_)
                · skip
                  refine absurd ?_ hc10
                  rw [move_get hl2 hx hz, moveT, if_neg hc8]
                  simp only [Tok.mk.injEq]
                  refine ⟨?_, ?_, ?_, ?_, ?_⟩ <;> first | trivial | omega
                  done
                · skip
                  refine wp_skip ?_
                  refine b_n ?_
                  refine k_n ?_
                  refine wp_region_lit ?_
                  refine wl_v hF rfl rfl rfl (q_move rfl (hF.eval rfl)) fun a hF => ?_
                  refine wl_v hF rfl rfl rfl (q_add rfl (hF.eval rfl) (hF.eval rfl) (by omega)) fun a hF => ?_
                  refine wl_v hF rfl rfl rfl (q_assign rfl (hF.eval rfl)) fun a hF => ?_
                  refine wl_nil ?_
                  refine k_n ?_
                  have hO := hO.drop1 0
                  have hO : St _ _ _ [_, _] := hO
                  exact ⟨i + 1, ⟨by omega, hO, hF.sub ⟨rfl, rfl, rfl, rfl, rfl, trivial⟩⟩, by omega⟩
            · skip
              refine wp_exit ?_
              refine k_x ?_
              refine k_x ?_
              refine b_x ?_
              refine k_n ?_
              refine wp_seq ?_
              refine wp_region_lit ?_
              refine wl_e hF rfl rfl rfl (c_call hF rfl rfl Tryd.call11 (lawake_r _ (hG.at0 hO))) ?_
              rintro a _ w ⟨rfl, hS⟩ hF
              have hO := hO.call0 hS
              have hO : St _ _ _ [_, _] := hO
              refine wl_v hF rfl rfl rfl (q_assign rfl (hF.eval rfl)) fun a hF => ?_
              refine wl_nil ?_
              refine k_n ?_
              refine wp_ret ?_
              refine r_1 hF rfl rfl ?_
              have hO := hO.drop1 0
              have hO := hO.drop1 0
              have hO : St _ _ _ [] := hO
              exact ⟨rfl, hO⟩

end Go.Proofs.YtanpeofnlihhoaaDoor
