import Derived.Test.YtanpeofnlihhoaaDoorYe
namespace Go.Proofs.YtanpeofnlihhoaaDoor
open Go
set_option maxRecDepth 100000
set_option linter.unusedVariables false

theorem rno_len {s : List UInt8} {p : Nat} {l : List Tok} (h : RnOk s p l) : l.length + p ≤ s.length + 1 := by
  induction h with
  | fin => simp; omega
  | @skip i n l h1 h2 _ ih => have := lexF_ok h1; rw [h2] at this; have := this.1; omega
  | @tok i n k v t l h1 h2 _ ih => have := lexF_ok h1; rw [h2] at this; have := this.1; rw [List.length_cons]; omega
theorem joins_read {a b : List UInt8} {l m n : List Tok} {d e f : Diag} (h : a.length + b.length + 1 ≤ 16384) (h1 : readF a = (l, d)) (h2 : readF b = (m, e)) (h3 : readF (a ++ [10] ++ b) = (n, f)) (hd : d.number = 0) (he : e.number = 0) :
    f = .ok ∧ n = l.dropLast ++ m.map (downT (posF a a.length).1) ∧ l ≠ [] ∧ m ≠ [] ∧ (∀ x ∈ m, 0 ≤ x.line ∧ x.line ≤ 16385) ∧ l.length ≤ 16385 ∧ m.length ≤ 16385 := by
  have e1 : a ++ [10] ++ b = a ++ 10 :: b := by simp
  rw [e1] at h3
  have hl2 : (a ++ 10 :: b).length ≤ 16384 := by rw [len_mid]; omega
  rcases read_is h1 with ⟨g, _, _⟩ | ⟨_, ⟨rfl, g⟩ | ⟨rfl, g⟩⟩
  · omega
  · rcases read_is h2 with ⟨g2, _, _⟩ | ⟨_, ⟨rfl, g2⟩ | ⟨rfl, g2⟩⟩
    · omega
    · have := read_ok hl2 (join_ok g g2)
      rw [this] at h3
      cases h3
      refine ⟨rfl, rfl, rno_ne g, rno_ne g2, fun x hx => ?_, by have := rno_len g; omega, by have := rno_len g2; omega⟩
      have := (rno_small g2 x hx).1
      omega
    · have := (rnb_num g2).1; omega
  · have := (rnb_num g).1; omega
theorem down_eq (a : List UInt8) : (posF (a ++ [10]) (a.length + 1)).1 = (posF a a.length).1 + 1 := by
  have := pos_join a [] 0
  rw [Nat.add_zero] at this
  rw [this]; rfl
theorem join_get1 {l r n : List Tok} (hn : n = l.dropLast ++ r) {i : Nat} {x z : Tok} (hi : i + 1 < l.length) (hx : n[i]? = some x) (hz : l[i]? = some z) : x = z := (first_get hn hi hz hx).symm
theorem join_get2 {l m n : List Tok} {c : Int} (hn : n = l.dropLast ++ m.map (downT c)) {i : Nat} {x z : Tok} (hl : 0 < l.length) (hi : l.length ≤ i + 1) (hx : m[i + 1 - l.length]? = some x) (hz : n[i]? = some z) : z = downT c x := by
  rw [hn, List.getElem?_append_right (by rw [List.length_dropLast]; omega), List.length_dropLast, show i - (l.length - 1) = i + 1 - l.length by omega, List.getElem?_map, hx] at hz
  exact (Option.some.inj hz).symm
set_option maxHeartbeats 4000000 in
theorem ljoins_r (w0 : World) (a0 b : List UInt8) (hs : a0.length ≤ 1048576) (hb : b.length ≤ 1048576) (hG : GlE w0 []) : Ret Tryd.prog 7 #[str a0, str b] w0 (fun v w' => v = .bool true ∧ St w0 [] w' []) := by
  have hO := St.init0 w0
  refine ret_of (m := 134) Tryd.func7 rfl Tryd.ntmps7 [(0, str a0), (1, str b)] rfl ⟨rfl, rfl, trivial⟩ fun a hF => ?_
  refine wp_seq ?_
  refine wp_region_lit ?_
  refine wl_v hF rfl rfl rfl (q_assign rfl (hF.eval rfl)) fun a hF => ?_
  refine wl_nil ?_
  refine k_n ?_
  refine wp_seq ?_
  refine wp_seq ?_
  refine wp_region_lit ?_
  refine wl_v hF rfl rfl rfl (q_move rfl (hF.eval rfl)) fun a hF => ?_
  refine wl_v hF rfl rfl rfl (q_len Tryd.underlying9 rfl (hF.eval rfl)) fun a hF => ?_
  refine wl_v hF rfl rfl rfl (q_move rfl (hF.eval rfl)) fun a hF => ?_
  refine wl_v hF rfl rfl rfl (q_len Tryd.underlying9 rfl (hF.eval rfl)) fun a hF => ?_
  refine wl_v hF rfl rfl rfl (q_add rfl (hF.eval rfl) (hF.eval rfl) (by omega)) fun a hF => ?_
  refine wl_v hF rfl rfl rfl (q_add rfl (hF.eval rfl) (hF.eval rfl) (by omega)) fun a hF => ?_
  refine wl_v hF rfl rfl rfl (q_gt rfl (hF.eval rfl) (hF.eval rfl)) fun a hF => ?_
  refine wl_nil ?_
  refine k_n ?_
  refine wp_ifD hF rfl rfl (fun hc1 => ?_) (fun hc1 => ?_)
  · skip
    refine wp_seq ?_
    refine wp_region_lit ?_
    refine wl_e hF rfl rfl rfl (c_call hF rfl rfl Tryd.call11 (lawake_r _ (hG.at0 hO))) ?_
    rintro a _ w ⟨rfl, hS⟩ hF
    have hO := hO.call0 hS
    have hO : St _ _ _ [] := hO
    refine wl_v hF rfl rfl rfl (q_assign rfl (hF.eval rfl)) fun a hF => ?_
    refine wl_nil ?_
    refine k_n ?_
    refine wp_ret ?_
    refine k_r ?_
    refine r_1 hF rfl rfl ?_
    have hO : St _ _ _ [] := hO
    exact ⟨rfl, hO⟩
  · skip
    refine wp_skip ?_
    refine k_n ?_
    refine wp_seq ?_
    refine wp_region_lit ?_
    refine wl_v hF rfl rfl rfl (q_move rfl (hF.eval rfl)) fun a hF => ?_
    refine wl_e hF rfl rfl rfl (c_call hF rfl rfl Tryd.call8 (pread_r _ _ (by omega) (hG.at0 hO))) ?_
    rintro a _ w ⟨va, l, d, hra, rfl, hS⟩ hF
    have hO := hO.call0 hS
    have hO : St _ _ _ [_] := hO
    refine wl_v hF rfl rfl rfl (q_move rfl (hF.eval rfl)) fun a hF => ?_
    refine wl_v hF rfl rfl rfl (q_extract rfl (hF.eval rfl) rfl) fun a hF => ?_
    refine wl_v hF rfl rfl rfl (q_extract rfl (hF.eval rfl) rfl) fun a hF => ?_
    refine wl_e hF rfl rfl rfl (e_alloc hO Tryd.zeroValue25 rfl rfl) ?_
    rintro a _ w ⟨e1, rfl, hO⟩ hF
    refine wl_v hF rfl rfl rfl (q_assign rfl (hF.eval rfl)) fun a hF => ?_
    refine wl_s hF rfl rfl (e_storeAll hO (i := 0) rfl Tryd.sizeOf25 rfl (hF.eval rfl) (hF.eval rfl) rfl rfl) ?_
    rintro a _ w ⟨-, hO⟩ hF
    have hO : St _ _ _ [_, _] := hO
    refine wl_nil ?_
    refine k_n ?_
    refine wp_seq ?_
    refine wp_region_lit ?_
    refine wl_v hF rfl rfl rfl (q_move rfl (hF.eval rfl)) fun a hF => ?_
    refine wl_e hF rfl rfl rfl (c_call hF rfl rfl Tryd.call8 (pread_r _ _ (by omega) (hG.at0 hO))) ?_
    rintro a _ w ⟨vb, m, e, hrb, rfl, hS⟩ hF
    have hO := hO.call0 hS
    have hO : St _ _ _ [_, _, _] := hO
    refine wl_v hF rfl rfl rfl (q_move rfl (hF.eval rfl)) fun a hF => ?_
    refine wl_v hF rfl rfl rfl (q_extract rfl (hF.eval rfl) rfl) fun a hF => ?_
    refine wl_v hF rfl rfl rfl (q_extract rfl (hF.eval rfl) rfl) fun a hF => ?_
    refine wl_e hF rfl rfl rfl (e_alloc hO Tryd.zeroValue25 rfl rfl) ?_
    rintro a _ w ⟨e2, rfl, hO⟩ hF
    refine wl_v hF rfl rfl rfl (q_assign rfl (hF.eval rfl)) fun a hF => ?_
    refine wl_s hF rfl rfl (e_storeAll hO (i := 0) rfl Tryd.sizeOf25 rfl (hF.eval rfl) (hF.eval rfl) rfl rfl) ?_
    rintro a _ w ⟨-, hO⟩ hF
    have hO : St _ _ _ [_, _, _, _] := hO
    refine wl_nil ?_
    refine k_n ?_
    refine wp_seq ?_
    refine wp_seq ?_
    refine wp_region_lit ?_
    refine wl_v hF rfl rfl rfl (q_fieldAddr0 (d := 3) Tryd.underlying25 rfl (hF.eval rfl) rfl Tryd.sizeOf23 (by decide) rfl) fun a hF => ?_
    refine wl_v hF rfl rfl rfl (q_load Tryd.isAgg23 rfl (hF.eval rfl) (hO.cell 2 rfl rfl)) fun a hF => ?_
    refine wl_v hF rfl rfl rfl (q_ne rfl (hF.eval rfl) (hF.eval rfl)) fun a hF => ?_
    refine wl_v hF rfl rfl rfl (q_move rfl (hF.eval rfl)) fun a hF => ?_
    refine wl_g hF rfl rfl rfl rfl rfl rfl (fun hg => q_fieldAddr0 (d := 3) Tryd.underlying25 rfl (hF.eval rfl) rfl Tryd.sizeOf23 (by decide) rfl) fun a hF => ?_
    refine wl_g hF rfl rfl rfl rfl rfl rfl (fun hg => q_load Tryd.isAgg23 rfl ((hF.eval rfl).trans (gv_of hg)) (hO.cell 0 rfl rfl)) fun a hF => ?_
    refine wl_g hF rfl rfl rfl rfl rfl rfl (fun hg => q_ne rfl ((hF.eval rfl).trans (gv_of hg)) (hF.eval rfl)) fun a hF => ?_
    refine wl_v hF rfl rfl rfl (q_or rfl (hF.eval rfl) rfl (fun hg2 => ((hF.eval rfl).trans (gv_of hg2))) rfl) fun a hF => ?_
    refine wl_v hF rfl rfl rfl (q_move rfl (hF.eval rfl)) fun a hF => ?_
    refine wl_g hF rfl rfl rfl rfl rfl rfl (fun hg => q_move rfl (hF.eval rfl)) fun a hF => ?_
    refine wl_g hF rfl rfl rfl rfl rfl rfl (fun hg => q_lenRd (hO.rd 3 rfl) Tryd.underlying22 rfl ((hF.eval rfl).trans (gv_of hg))) fun a hF => ?_
    refine wl_g hF rfl rfl rfl rfl rfl rfl (fun hg => q_eq rfl ((hF.eval rfl).trans (gv_of hg)) (hF.eval rfl)) fun a hF => ?_
    refine wl_v hF rfl rfl rfl (q_or rfl (hF.eval rfl) rfl (fun hg2 => ((hF.eval rfl).trans (gv_of hg2))) rfl) fun a hF => ?_
    refine wl_v hF rfl rfl rfl (q_move rfl (hF.eval rfl)) fun a hF => ?_
    refine wl_g hF rfl rfl rfl rfl rfl rfl (fun hg => q_move rfl (hF.eval rfl)) fun a hF => ?_
    refine wl_g hF rfl rfl rfl rfl rfl rfl (fun hg => q_lenRd (hO.rd 1 rfl) Tryd.underlying22 rfl ((hF.eval rfl).trans (gv_of hg))) fun a hF => ?_
    refine wl_g hF rfl rfl rfl rfl rfl rfl (fun hg => q_eq rfl ((hF.eval rfl).trans (gv_of hg)) (hF.eval rfl)) fun a hF => ?_
    refine wl_v hF rfl rfl rfl (q_or rfl (hF.eval rfl) rfl (fun hg2 => ((hF.eval rfl).trans (gv_of hg2))) rfl) fun a hF => ?_
    refine wl_nil ?_
    refine k_n ?_
    refine wp_ifD hF rfl rfl (fun hc2 => ?_) (fun hc2 => ?_)
    · skip
      refine wp_seq ?_
      refine wp_region_lit ?_
      refine wl_v hF rfl rfl rfl (q_fieldAddr0 (d := 3) Tryd.underlying25 rfl (hF.eval rfl) rfl Tryd.sizeOf23 (by decide) rfl) fun a hF => ?_
      refine wl_v hF rfl rfl rfl (q_load Tryd.isAgg23 rfl (hF.eval rfl) (hO.cell 2 rfl rfl)) fun a hF => ?_
      refine wl_v hF rfl rfl rfl (q_ne rfl (hF.eval rfl) (hF.eval rfl)) fun a hF => ?_
      refine wl_v hF rfl rfl rfl (q_move rfl (hF.eval rfl)) fun a hF => ?_
      refine wl_g hF rfl rfl rfl rfl rfl rfl (fun hg => q_fieldAddr0 (d := 3) Tryd.underlying25 rfl (hF.eval rfl) rfl Tryd.sizeOf23 (by decide) rfl) fun a hF => ?_
      refine wl_g hF rfl rfl rfl rfl rfl rfl (fun hg => q_load Tryd.isAgg23 rfl ((hF.eval rfl).trans (gv_of hg)) (hO.cell 0 rfl rfl)) fun a hF => ?_
      refine wl_g hF rfl rfl rfl rfl rfl rfl (fun hg => q_ne rfl ((hF.eval rfl).trans (gv_of hg)) (hF.eval rfl)) fun a hF => ?_
      refine wl_v hF rfl rfl rfl (q_or rfl (hF.eval rfl) rfl (fun hg2 => ((hF.eval rfl).trans (gv_of hg2))) rfl) fun a hF => ?_
      refine wl_v hF rfl rfl rfl (q_move rfl (hF.eval rfl)) fun a hF => ?_
      refine wl_gk hO hF rfl rfl rfl rfl rfl rfl (fun hg => c_callG hF rfl rfl (by first | with_reducible rfl | (simp only [gv_of hg]; done) | (simp only [gv_of hg]; rfl)) Tryd.call11 (lawake_r _ (hG.at0 hO))) fun a w hO hF => ?_
      refine wl_v hF rfl rfl rfl (q_and rfl (hF.eval rfl) rfl (fun hg2 => ((hF.eval rfl).trans (gv_of hg2))) (dec_b _)) fun a hF => ?_
      refine wl_v hF rfl rfl rfl (q_assign rfl (hF.eval rfl)) fun a hF => ?_
      refine wl_nil ?_
      refine k_n ?_
      refine wp_ret ?_
      refine k_r ?_
      refine r_1 hF rfl rfl ?_
      have hO := hO.drop1 0
      have hO := hO.drop1 0
      have hO := hO.drop1 0
      have hO := hO.drop1 0
      have hO : St _ _ _ [] := hO
      refine ⟨congrArg Value.bool (decide_eq_true ⟨?_, rfl⟩), hO⟩
      apply Classical.byContradiction
      intro hn
      obtain ⟨h1, h2⟩ := not_or.1 hn
      have h1 := Classical.not_not.1 h1
      have h2 := Classical.not_not.1 h2
      obtain ⟨_, _, h3, h4, _⟩ := joins_read (n := (readF (a0 ++ [10] ++ b)).1) (f := (readF (a0 ++ [10] ++ b)).2) (by omega) hra hrb rfl h1 h2
      have := List.length_pos_iff.2 h3
      have := List.length_pos_iff.2 h4
      omega
    · skip
      have hde : d.number = 0 ∧ e.number = 0 := ⟨Classical.not_not.1 fun h => hc2 (.inl (.inl (.inl h))), Classical.not_not.1 fun h => hc2 (.inl (.inl (.inr h)))⟩
      refine wp_skip ?_
      refine k_n ?_
      refine wp_seq ?_
      refine wp_region_lit ?_
      refine wl_v hF rfl rfl rfl (q_move rfl (hF.eval rfl)) fun a hF => ?_
      refine wl_v hF rfl rfl rfl (q_cat rfl (hF.eval rfl) (hF.eval rfl) (by simp; omega)) fun a hF => ?_
      refine wl_v hF rfl rfl rfl (q_move rfl (hF.eval rfl)) fun a hF => ?_
      refine wl_v hF rfl rfl rfl (q_cat rfl (hF.eval rfl) (hF.eval rfl) (by simp; omega)) fun a hF => ?_
      refine wl_e hF rfl rfl rfl (c_call hF rfl rfl Tryd.call8 (pread_r _ _ (by simp; omega) (hG.at0 hO))) ?_
      rintro a _ w ⟨vc, n, f, hrc, rfl, hS⟩ hF
      have hO := hO.call0 hS
      have hO : St _ _ _ [_, _, _, _, _] := hO
      obtain ⟨rfl, hn, hl0, hm0, hms, hlb1, hlb2⟩ := joins_read (by omega) hra hrb hrc hde.1 hde.2
      have hll := List.length_pos_iff.2 hl0
      have hml := List.length_pos_iff.2 hm0
      have hnl : n.length = (l.length - 1) + m.length := by rw [hn, List.length_append, List.length_dropLast, List.length_map]
      have hln1 := RdT.lenle (hO.rdT (E := tokE) (l := n) 0 rfl)
      refine wl_v hF rfl rfl rfl (q_move rfl (hF.eval rfl)) fun a hF => ?_
      refine wl_v hF rfl rfl rfl (q_extract rfl (hF.eval rfl) rfl) fun a hF => ?_
      refine wl_v hF rfl rfl rfl (q_extract rfl (hF.eval rfl) rfl) fun a hF => ?_
      refine wl_e hF rfl rfl rfl (e_alloc hO Tryd.zeroValue25 rfl rfl) ?_
      rintro a _ w ⟨e3, rfl, hO⟩ hF
      refine wl_v hF rfl rfl rfl (q_assign rfl (hF.eval rfl)) fun a hF => ?_
      refine wl_s hF rfl rfl (e_storeAll hO (i := 0) rfl Tryd.sizeOf25 rfl (hF.eval rfl) (hF.eval rfl) rfl rfl) ?_
      rintro a _ w ⟨-, hO⟩ hF
      have hO : St _ _ _ [_, _, _, _, _, _] := hO
      refine wl_nil ?_
      refine k_n ?_
      refine wp_seq ?_
      refine wp_seq ?_
      refine wp_region_lit ?_
      refine wl_v hF rfl rfl rfl (q_fieldAddr0 (d := 3) Tryd.underlying25 rfl (hF.eval rfl) rfl Tryd.sizeOf23 (by decide) rfl) fun a hF => ?_
      refine wl_v hF rfl rfl rfl (q_load Tryd.isAgg23 rfl (hF.eval rfl) (hO.cell 0 rfl rfl)) fun a hF => ?_
      refine wl_v hF rfl rfl rfl (q_ne rfl (hF.eval rfl) (hF.eval rfl)) fun a hF => ?_
      refine wl_v hF rfl rfl rfl (q_move rfl (hF.eval rfl)) fun a hF => ?_
      refine wl_g hF rfl rfl rfl rfl rfl rfl (fun hg => q_move rfl (hF.eval rfl)) fun a hF => ?_
      refine wl_g hF rfl rfl rfl rfl rfl rfl (fun hg => q_lenRd (hO.rd 1 rfl) Tryd.underlying22 rfl ((hF.eval rfl).trans (gv_of hg))) fun a hF => ?_
      refine wl_g hF rfl rfl rfl rfl rfl rfl (fun hg => q_move rfl (hF.eval rfl)) fun a hF => ?_
      refine wl_g hF rfl rfl rfl rfl rfl rfl (fun hg => q_lenRd (hO.rd 5 rfl) Tryd.underlying22 rfl ((hF.eval rfl).trans (gv_of hg))) fun a hF => ?_
      refine wl_g hF rfl rfl rfl rfl rfl rfl (fun hg => q_move rfl (hF.eval rfl)) fun a hF => ?_
      refine wl_g hF rfl rfl rfl rfl rfl rfl (fun hg => q_lenRd (hO.rd 3 rfl) Tryd.underlying22 rfl ((hF.eval rfl).trans (gv_of hg))) fun a hF => ?_
      refine wl_g hF rfl rfl rfl rfl rfl rfl (fun hg => q_add rfl ((hF.eval rfl).trans (gv_of hg)) ((hF.eval rfl).trans (gv_of hg)) (by omega)) fun a hF => ?_
      refine wl_g hF rfl rfl rfl rfl rfl rfl (fun hg => q_sub rfl ((hF.eval rfl).trans (gv_of hg)) (hF.eval rfl) (by omega)) fun a hF => ?_
      refine wl_g hF rfl rfl rfl rfl rfl rfl (fun hg => q_ne rfl ((hF.eval rfl).trans (gv_of hg)) ((hF.eval rfl).trans (gv_of hg))) fun a hF => ?_
      refine wl_v hF rfl rfl rfl (q_or rfl (hF.eval rfl) rfl (fun hg2 => ((hF.eval rfl).trans (gv_of hg2))) rfl) fun a hF => ?_
      refine wl_nil ?_
      refine k_n ?_
      refine wp_ifD hF rfl rfl (fun hc3 => ?_) (fun hc3 => ?_)
      · skip
        rcases hc3 with h | h
        · exact absurd rfl h
        · exact absurd (by omega) h
        done
      · skip
        refine wp_skip ?_
        refine k_n ?_
        refine wp_seq ?_
        refine wp_region_lit ?_
        refine wl_v hF rfl rfl rfl (q_move rfl (hF.eval rfl)) fun a hF => ?_
        refine wl_v hF rfl rfl rfl (q_cat rfl (hF.eval rfl) (hF.eval rfl) (by simp; omega)) fun a hF => ?_
        refine wl_v hF rfl rfl rfl (q_move rfl (hF.eval rfl)) fun a hF => ?_
        refine wl_v hF rfl rfl rfl (q_len Tryd.underlying9 rfl (hF.eval rfl)) fun a hF => ?_
        refine wl_v hF rfl rfl rfl (q_add rfl (hF.eval rfl) (hF.eval rfl) (by omega)) fun a hF => ?_
        refine wl_e hF rfl rfl rfl (c_call hF rfl rfl Tryd.call12 (place_r _ (a0 ++ [10]) (a0.length + 1) (by simp) (by simp; omega))) ?_
        rintro a _ w ⟨rfl, hS⟩ hF
        have hO := hO.call0 hS
        have hO : St _ _ _ [_, _, _, _, _, _] := hO
        refine wl_v hF rfl rfl rfl (q_move rfl (hF.eval rfl)) fun a hF => ?_
        refine wl_v hF rfl rfl rfl (q_extract rfl (hF.eval rfl) rfl) fun a hF => ?_
        refine wl_v hF rfl rfl rfl (q_extract rfl (hF.eval rfl) rfl) fun a hF => ?_
        refine wl_v hF rfl rfl rfl (q_assign rfl (hF.eval rfl)) fun a hF => ?_
        refine wl_v hF rfl rfl rfl (q_assign rfl (hF.eval rfl)) fun a hF => ?_
        refine wl_nil ?_
        refine k_n ?_
        refine wp_seq ?_
        refine wp_seq ?_
        refine wp_region_lit ?_
        refine wl_v hF rfl rfl rfl (q_assign rfl (hF.eval rfl)) fun a hF => ?_
        refine wl_nil ?_
        refine k_n ?_
        refine wp_block ?_
        have hO := hO.drop1 0
        have hO := hO.drop1 1
        have hO := hO.drop1 2
        have hO := hO.pull 1 rfl
        have hO := hO.pull 2 rfl
        have hO : St _ _ _ [_, _, _] := hO
        refine wp_loopS (fun (i : Nat) a w' => (i ≤ n.length) ∧ St w0 [] w' [slT va 32 tokE l, slT vb 32 tokE m, slT vc 32 tokE n] ∧ Fr a 134 [(5, va), (7, vb), (9, vc), (11, i64 ((posF a0 a0.length).1 + 1 : Nat)), (13, i64 i)]) (fun (i : Nat) => n.length - i) 0 ⟨by omega, hO, hF.sub ⟨rfl, rfl, rfl, (congrArg some (congrArg i64 (congrArg _ (down_eq a0)))), rfl, trivial⟩⟩ ?_
        rintro i a w ⟨hi, hO, hF⟩
        refine wp_seq ?_
        refine wp_seq ?_
        refine wp_region_lit ?_
        refine wl_v hF rfl rfl rfl (q_move rfl (hF.eval rfl)) fun a hF => ?_
        refine wl_v hF rfl rfl rfl (q_move rfl (hF.eval rfl)) fun a hF => ?_
        refine wl_v hF rfl rfl rfl (q_lenRd (hO.rd 2 rfl) Tryd.underlying22 rfl (hF.eval rfl)) fun a hF => ?_
        refine wl_v hF rfl rfl rfl (q_lt rfl (hF.eval rfl) (hF.eval rfl)) fun a hF => ?_
        refine wl_nil ?_
        refine k_n ?_
        refine wp_ifD hF rfl rfl (fun hc4 => ?_) (fun hc4 => ?_)
        · skip
          refine wp_skip ?_
          refine k_n ?_
          refine wp_seq ?_
          refine wp_block ?_
          refine wp_seq ?_
          refine wp_seq ?_
          refine wp_region_lit ?_
          refine wl_v hF rfl rfl rfl (q_move rfl (hF.eval rfl)) fun a hF => ?_
          refine wl_v hF rfl rfl rfl (q_move rfl (hF.eval rfl)) fun a hF => ?_
          refine wl_v hF rfl rfl rfl (q_lenRd (hO.rd 0 rfl) Tryd.underlying22 rfl (hF.eval rfl)) fun a hF => ?_
          refine wl_v hF rfl rfl rfl (q_sub rfl (hF.eval rfl) (hF.eval rfl) (by omega)) fun a hF => ?_
          refine wl_v hF rfl rfl rfl (q_lt rfl (hF.eval rfl) (hF.eval rfl)) fun a hF => ?_
          refine wl_nil ?_
          refine k_n ?_
          refine wp_ifD hF rfl rfl (fun hc5 => ?_) (fun hc5 => ?_)
          · skip
            refine wp_seq ?_
            refine wp_seq ?_
            have hO := hO.drew
            refine wp_region_D [0, 0, 0, 1, 0, 0, 0, 1, 0] (fun w => St _ _ w _) Tryd_mixed (by kernel_rfl) hO ?_
            refine wd_p hF rfl rfl rfl (fun w => q_move rfl (hF.eval rfl)) fun a hF => ?_
            refine wd_p hF rfl rfl rfl (fun w => q_move rfl (hF.eval rfl)) fun a hF => ?_
            obtain ⟨z, hz⟩ := get_ex (l := n) (i := i) (by omega)
            refine wd_p hF rfl rfl rfl (fun w => q_at (i := i) (hO.rd 2 rfl) Tryd.underlying22 Tryd.sizeOf32 rfl (hF.eval rfl) (hF.eval rfl) (by omega)) fun a hF => ?_
            refine wd_r hF rfl rfl rfl (fun w hO => q_loadAgg Tryd.isAgg32 Tryd.sizeOf32 rfl (hF.eval rfl) (RdT.cells (hO.rdT 2 rfl) hz) rfl) fun a hF => ?_
            refine wd_p hF rfl rfl rfl (fun w => q_move rfl (hF.eval rfl)) fun a hF => ?_
            refine wd_p hF rfl rfl rfl (fun w => q_move rfl (hF.eval rfl)) fun a hF => ?_
            obtain ⟨x, hx⟩ := get_ex (l := l) (i := i) (by omega)
            refine wd_p hF rfl rfl rfl (fun w => q_at (i := i) (hO.rd 0 rfl) Tryd.underlying22 Tryd.sizeOf32 rfl (hF.eval rfl) (hF.eval rfl) (by omega)) fun a hF => ?_
            refine wd_r hF rfl rfl rfl (fun w hO => q_loadAgg Tryd.isAgg32 Tryd.sizeOf32 rfl (hF.eval rfl) (RdT.cells (hO.rdT 0 rfl) hx) rfl) fun a hF => ?_
            refine wd_p hF rfl rfl rfl (fun w => q_neS Tryd.underlying32 Tryd.stoodInHeld32 Tryd.eqGuardType32 rfl (hF.eval rfl) (hF.eval rfl) (ef_int (by decide) Tryd.isAgg3 Tryd.underlying3 rfl rfl (ef_str (by decide) Tryd.isAgg9 Tryd.underlying9 rfl rfl (ef_int (by decide) Tryd.isAgg3 Tryd.underlying3 rfl rfl (ef_int (by decide) Tryd.isAgg3 Tryd.underlying3 rfl rfl (ef_int (by decide) Tryd.isAgg3 Tryd.underlying3 rfl rfl ef_nil))))) (tok_eq _ _)) fun a hF => ?_
            refine wd_nil ?_
            refine k_n ?_
            refine wp_ifD hF rfl rfl (fun hc6 => ?_) (fun hc6 => ?_)
            · skip
              exact absurd (join_get1 hn (by omega) hz hx) hc6
              done
            · skip
              refine wp_skip ?_
              refine k_n ?_
              refine wp_exit ?_
              refine k_x ?_
              refine b_x ?_
              refine k_n ?_
              refine wp_region_lit ?_
              refine wl_v hF rfl rfl rfl (q_move rfl (hF.eval rfl)) fun a hF => ?_
              refine wl_v hF rfl rfl rfl (q_add rfl (hF.eval rfl) (hF.eval rfl) (by omega)) fun a hF => ?_
              refine wl_v hF rfl rfl rfl (q_assign rfl (hF.eval rfl)) fun a hF => ?_
              refine wl_nil ?_
              refine k_n ?_
              have hO : St _ _ _ [_, _, _] := hO
              exact ⟨i + 1, ⟨by omega, hO, hF.sub ⟨rfl, rfl, rfl, rfl, rfl, trivial⟩⟩, by omega⟩
          · skip
            refine wp_skip ?_
            refine k_n ?_
            refine wp_seq ?_
            refine wp_region_lit ?_
            refine wl_v hF rfl rfl rfl (q_move rfl (hF.eval rfl)) fun a hF => ?_
            refine wl_v hF rfl rfl rfl (q_move rfl (hF.eval rfl)) fun a hF => ?_
            refine wl_v hF rfl rfl rfl (q_move rfl (hF.eval rfl)) fun a hF => ?_
            refine wl_v hF rfl rfl rfl (q_lenRd (hO.rd 0 rfl) Tryd.underlying22 rfl (hF.eval rfl)) fun a hF => ?_
            refine wl_v hF rfl rfl rfl (q_sub rfl (hF.eval rfl) (hF.eval rfl) (by omega)) fun a hF => ?_
            refine wl_v hF rfl rfl rfl (q_add rfl (hF.eval rfl) (hF.eval rfl) (by omega)) fun a hF => ?_
            obtain ⟨x, hx⟩ := get_ex (l := m) (i := i + 1 - l.length) (by omega)
            refine wl_v hF rfl rfl rfl (q_at (i := i + 1 - l.length) (hO.rd 1 rfl) Tryd.underlying22 Tryd.sizeOf32 rfl (hF.eval rfl) ((hF.eval rfl).trans (congrArg i64 (show (i : Int) - l.length + 1 = ((i + 1 - l.length : Nat) : Int) by omega))) (by omega)) fun a hF => ?_
            refine wl_v hF rfl rfl rfl (q_loadAgg Tryd.isAgg32 Tryd.sizeOf32 rfl (hF.eval rfl) (RdT.cells (hO.rdT 1 rfl) hx) rfl) fun a hF => ?_
            refine wl_e hF rfl rfl rfl (e_alloc hO Tryd.zeroValue32 rfl rfl) ?_
            rintro a _ w ⟨tk, rfl, hO⟩ hF
            have hxs := hms x (List.mem_of_getElem? hx)
            have hpl := posF_le a0 a0.length
            refine wl_s hF rfl rfl (e_storeAll hO (i := 0) rfl Tryd.sizeOf32 rfl (hF.eval rfl) (hF.eval rfl) rfl rfl) ?_
            rintro a _ w ⟨-, hO⟩ hF
            have hO : St _ _ _ [_, _, _, _] := hO
            refine wl_nil ?_
            refine k_n ?_
            refine wp_seq ?_
            refine wp_region_lit ?_
            refine wl_v hF rfl rfl rfl (q_fieldAddr0 (d := 3) Tryd.underlying32 rfl (hF.eval rfl) rfl Tryd.sizeOf3 (by decide) rfl) fun a hF => ?_
            refine wl_v hF rfl rfl rfl (q_load Tryd.isAgg3 rfl (hF.eval rfl) (hO.cell 0 rfl rfl)) fun a hF => ?_
            refine wl_v hF rfl rfl rfl (q_move rfl (hF.eval rfl)) fun a hF => ?_
            refine wl_v hF rfl rfl rfl (q_add rfl (hF.eval rfl) (hF.eval rfl) (by omega)) fun a hF => ?_
            refine wl_v hF rfl rfl rfl (q_sub rfl (hF.eval rfl) (hF.eval rfl) (by omega)) fun a hF => ?_
            refine wl_v hF rfl rfl rfl (q_fieldAddr0 (d := 3) Tryd.underlying32 rfl (hF.eval rfl) rfl Tryd.sizeOf3 (by decide) rfl) fun a hF => ?_
            refine wl_s hF rfl rfl (e_store1 hO (i := 0) rfl Tryd.sizeOf3 rfl (hF.eval rfl) (hF.eval rfl) rfl rfl rfl) ?_
            rintro a _ w ⟨-, hO⟩ hF
            have hO : St _ _ _ [_, _, _, _] := hO
            refine wl_nil ?_
            refine k_n ?_
            refine wp_seq ?_
            have hO := hO.drew
            refine wp_region_D [0, 0, 0, 1, 1, 0] (fun w => St _ _ w _) Tryd_mixed (by kernel_rfl) hO ?_
            refine wd_p hF rfl rfl rfl (fun w => q_move rfl (hF.eval rfl)) fun a hF => ?_
            refine wd_p hF rfl rfl rfl (fun w => q_move rfl (hF.eval rfl)) fun a hF => ?_
            obtain ⟨z, hz⟩ := get_ex (l := n) (i := i) (by omega)
            refine wd_p hF rfl rfl rfl (fun w => q_at (i := i) (hO.rd 3 rfl) Tryd.underlying22 Tryd.sizeOf32 rfl (hF.eval rfl) (hF.eval rfl) (by omega)) fun a hF => ?_
            refine wd_r hF rfl rfl rfl (fun w hO => q_loadAgg Tryd.isAgg32 Tryd.sizeOf32 rfl (hF.eval rfl) (RdT.cells (hO.rdT 3 rfl) hz) rfl) fun a hF => ?_
            refine wd_r hF rfl rfl rfl (fun w hO => q_loadAgg Tryd.isAgg32 Tryd.sizeOf32 rfl (hF.eval rfl) (hO.cells 0 rfl) rfl) fun a hF => ?_
            refine wd_p hF rfl rfl rfl (fun w => q_neS Tryd.underlying32 Tryd.stoodInHeld32 Tryd.eqGuardType32 rfl (hF.eval rfl) (hF.eval rfl) (ef_int (by decide) Tryd.isAgg3 Tryd.underlying3 rfl rfl (ef_str (by decide) Tryd.isAgg9 Tryd.underlying9 rfl rfl (ef_int (by decide) Tryd.isAgg3 Tryd.underlying3 rfl rfl (ef_int (by decide) Tryd.isAgg3 Tryd.underlying3 rfl rfl (ef_int (by decide) Tryd.isAgg3 Tryd.underlying3 rfl rfl ef_nil))))) (tok_eqR _ _ _ _ _ _)) fun a hF => ?_
            refine wd_nil ?_
            refine k_n ?_
            refine wp_ifD hF rfl rfl (fun hc7 => ?_) (fun hc7 => ?_)
            · skip
              refine absurd ?_ hc7
              rw [join_get2 hn hll (by omega) hx hz, downT]
              simp only [Tok.mk.injEq]
              refine ⟨?_, ?_, ?_, ?_, ?_⟩ <;> first | trivial | omega
              done
            · skip
              refine wp_skip ?_
              refine b_n ?_
              refine k_n ?_
              refine wp_region_lit ?_
              refine wl_v hF rfl rfl rfl (q_move rfl (hF.eval rfl)) fun a hF => ?_
              refine wl_v hF rfl rfl rfl (q_add rfl (hF.eval rfl) (hF.eval rfl) (by omega)) fun a hF => ?_
              refine wl_v hF rfl rfl rfl (q_assign rfl (hF.eval rfl)) fun a hF => ?_
              refine wl_nil ?_
              refine k_n ?_
              have hO := hO.drop1 0
              have hO : St _ _ _ [_, _, _] := hO
              exact ⟨i + 1, ⟨by omega, hO, hF.sub ⟨rfl, rfl, rfl, rfl, rfl, trivial⟩⟩, by omega⟩
        · skip
          refine wp_exit ?_
          refine k_x ?_
          refine k_x ?_
          refine b_x ?_
          refine k_n ?_
          refine wp_seq ?_
          refine wp_region_lit ?_
          refine wl_e hF rfl rfl rfl (c_call hF rfl rfl Tryd.call11 (lawake_r _ (hG.at0 hO))) ?_
          rintro a _ w ⟨rfl, hS⟩ hF
          have hO := hO.call0 hS
          have hO : St _ _ _ [_, _, _] := hO
          refine wl_v hF rfl rfl rfl (q_assign rfl (hF.eval rfl)) fun a hF => ?_
          refine wl_nil ?_
          refine k_n ?_
          refine wp_ret ?_
          refine r_1 hF rfl rfl ?_
          have hO := hO.drop1 0
          have hO := hO.drop1 0
          have hO := hO.drop1 0
          have hO : St _ _ _ [] := hO
          exact ⟨rfl, hO⟩

end Go.Proofs.YtanpeofnlihhoaaDoor
