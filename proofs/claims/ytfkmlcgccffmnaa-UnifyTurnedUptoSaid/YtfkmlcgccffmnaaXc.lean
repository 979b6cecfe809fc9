/- PU16, PLAIN: what a match gives, applied. -/
import Derived.Test.YtfkmlcgccffmnaaXa
import Derived.Test.YtfkmlcgccffmnaaXb
namespace Go.Proofs.Ytfkmlcgccffmnaa
open Go
theorem match_in : ∀ {r s : RT} {g g' : Sg}, matchF r s g = some g' → ∀ n u, g' n = some u → g n = some u ∨ (n ∈ r.vs ∧ wtF u.ty ≤ wtF s.ty ∧ (rightF s.ty = true → rightF u.ty = true))
  | .var m, s, g, g', h, n, u, hn => by
    have h : (match g m with | none => some (putG g m s) | some w => if sameF w.ty s.ty = true then some g else none) = some g' := h
    cases hm : g m with
    | none =>
      rw [hm] at h
      cases h
      have hn : (if n = m then some s else g n) = some u := hn
      by_cases e : n = m
      · rw [if_pos e] at hn; cases hn; exact .inr ⟨by rw [e]; exact List.mem_singleton.2 rfl, Nat.le_refl _, id⟩
      · rw [if_neg e] at hn; exact .inl hn
    | some w =>
      rw [hm] at h
      have h : (if sameF w.ty s.ty = true then some g else none) = some g' := h
      by_cases e : sameF w.ty s.ty = true
      · rw [if_pos e] at h; cases h; exact .inl hn
      · rw [if_neg e] at h; cases h
  | .con m, .con q, g, g', h, n, u, hn => by
    have h : (if m = q then some g else none) = some g' := h
    by_cases e : m = q
    · rw [if_pos e] at h; cases h; exact .inl hn
    · rw [if_neg e] at h; cases h
  | .app a b, .app c d, g, g', h, n, u, hn => by
    have h : (match matchF a c g with | none => none | some g1 => matchF b d g1) = some g' := h
    have hw : wtF (RT.app c d).ty = 1 + 0 + (wtF c.ty + (wtF d.ty + 0)) := rfl
    have hr : rightF (RT.app c d).ty = true → rightF c.ty = true ∧ rightF d.ty = true := fun h => by
      have h : (decide ((54 : Int) = 54) && decide (([] : Nam) = []) && rightF c.ty && rightF d.ty) = true := h
      rw [Bool.and_eq_true, Bool.and_eq_true] at h
      exact ⟨h.1.2, h.2⟩
    cases h1 : matchF a c g with
    | none => rw [h1] at h; cases h
    | some g1 =>
      rw [h1] at h
      rcases match_in (r := b) (s := d) h n u hn with h2 | ⟨h2, h3, h4⟩
      · rcases match_in h1 n u h2 with h2 | ⟨h2, h3, h4⟩
        · exact .inl h2
        · exact .inr ⟨List.mem_append_left _ h2, by omega, fun h => h4 (hr h).1⟩
      · exact .inr ⟨List.mem_append_right _ h2, by omega, fun h => h4 (hr h).2⟩
  | .con _, .var _, _, _, h, _, _, _ => by cases h
  | .con _, .app _ _, _, _, h, _, _, _ => by cases h
  | .app _ _, .var _, _, _, h, _, _, _ => by cases h
  | .app _ _, .con _, _, _, h, _, _, _ => by cases h
theorem small_vs4 : ∀ {r : RT} {n : Nam}, r.small → n ∈ r.vs → n.length ≤ 4611686018427387904
  | .var m, n, h, hn => by
    obtain rfl := List.mem_singleton.1 hn
    exact h
  | .con _, _, _, hn => by cases hn
  | .app a b, n, h, hn => (List.mem_append.1 hn).elim (small_vs4 h.1) (small_vs4 h.2)
theorem vs_len : ∀ r : RT, r.vs.length ≤ r.nodes
  | .var n => Nat.le_refl _
  | .con n => Nat.zero_le _
  | .app a b => by
    have := vs_len a; have := vs_len b
    show (a.vs ++ b.vs).length ≤ 1 + a.nodes + b.nodes
    rw [List.length_append]; omega
theorem nodup_sub : ∀ {l r : List Nam}, l.Nodup → (∀ x ∈ l, x ∈ r) → l.length ≤ r.length
  | [], _, _, _ => Nat.zero_le _
  | x :: l, r, h, hs => by
    have hx := hs x (List.mem_cons_self ..)
    obtain ⟨h1, h2⟩ := List.nodup_cons.1 h
    have := nodup_sub (r := r.erase x) h2 fun y hy => (List.mem_erase_of_ne (fun (e : y = x) => h1 (by rw [← e]; exact hy))).2 (hs y (List.mem_cons_of_mem _ hy))
    rw [List.length_erase_of_mem hx] at this
    have := List.length_pos_of_mem hx
    show l.length + 1 ≤ _
    omega
theorem sig_ansM (ns : List Nam) (g : Sg) (n : Nam) : sigF (ansM ns g) n = if n ∈ ns then (match g n with | some u => u.ty | none => varT n) else varT n := by
  induction ns with
  | nil => rfl
  | cons m ns ih =>
    by_cases e : m = n
    · subst e
      rw [if_pos (List.mem_cons_self ..)]
      unfold sigF ansM
      rw [List.map_cons, List.find?_cons_of_pos (by simp)]
      rfl
    · have h1 : sigF (ansM (m :: ns) g) n = sigF (ansM ns g) n := by
        unfold sigF ansM
        rw [List.map_cons, List.find?_cons_of_neg (by simpa using e)]
      rw [h1, ih]
      by_cases h : n ∈ ns
      · rw [if_pos h, if_pos (List.mem_cons_of_mem _ h)]
      · rw [if_neg h, if_neg fun h2 => h ((List.mem_cons.1 h2).resolve_left fun e2 => e e2.symm)]
/-- a match that is found: what it says of its answer -/
theorem MatSpec.yes {t u : Ty} {l : List (Nam × Ty)} (h : MatSpec t u l 0) (ht : Fit t) (hu : Fit u) : (∀ p ∈ l, Fit p.2 ∧ p.1.length ≤ 4611686018427387904) ∧ l.length ≤ 1000 ∧ applyF t l = u := by
  rcases h with ⟨h1, _, h2⟩ | ⟨hal, r, s, rfl, rfl, ⟨_, _, h⟩ | ⟨g, ns, hg, hasc, hns, rfl, _⟩⟩
  · exact absurd h2.symm h1
  · cases h
  · obtain ⟨rt1, rt2⟩ := (allF_zero hal).2 r.ty (by simp)
    obtain ⟨ru1, ru2⟩ := (allF_zero hal).2 s.ty (by simp)
    have hin : ∀ n ∈ ns, ∃ w, g n = some w ∧ n ∈ r.vs ∧ wtF w.ty ≤ wtF s.ty ∧ rightF w.ty = true := fun n hn => by
      cases hv : g n with
      | none => exact absurd hv ((hns n).1 hn)
      | some w =>
        rcases match_in hg n w hv with h | ⟨h1, h2, h3⟩
        · cases h
        · exact ⟨w, rfl, h1, h2, h3 ru1⟩
    refine ⟨fun p hp => ?_, ?_, ?_⟩
    · obtain ⟨n, hn, rfl⟩ := List.mem_map.1 hp
      obtain ⟨w, hw, h1, h2, _⟩ := hin n hn
      rw [hw]
      exact ⟨Nat.le_trans h2 hu, small_vs4 (small_of ht) h1⟩
    · rw [ansM_len']
      have h1 := nodup_sub (asc_nodup hasc) (r := r.vs) fun n hn => by obtain ⟨_, _, h, _⟩ := hin n hn; exact h
      have h2 := vs_len r
      rw [r.nodes_ty] at rt2
      omega
    · unfold applyF
      rw [if_pos ⟨rt1, fun p hp => by
        obtain ⟨n, hn, rfl⟩ := List.mem_map.1 hp
        obtain ⟨w, hw, _, _, h3⟩ := hin n hn
        rw [hw]; exact h3⟩]
      have e : sigF (ansM ns g) = fun n => ((match g n with | some w => w | none => .var n : RT)).ty := funext fun n => by
        rw [sig_ansM]
        by_cases h : n ∈ ns
        · obtain ⟨w, hw, _⟩ := hin n h
          rw [if_pos h, hw]
        · have : g n = none := Classical.not_not.1 fun e => h ((hns n).2 e)
          rw [if_neg h, this]; rfl
      rw [e, RT.sub_ty, (match_sub hg).2 _ fun n w hw => by rw [hw]]
where
  ansM_len' {ns : List Nam} {g : Sg} : (ansM ns g).length = ns.length := List.length_map _
end Go.Proofs.Ytfkmlcgccffmnaa
namespace Go.Proofs.Ytfkmlcgccffmnaa
open Go
set_option maxRecDepth 100000
set_option linter.unusedVariables false
set_option maxHeartbeats 2000000 in
theorem matches_r (w0 : World) (t u : TN) (hR : RdN w0 [] t) (hR2 : RdN w0 [] u) (hFt : Fit t.er ∧ Fit u.er) : Ret Try.prog 6 #[.agg (tnE.cells t).toArray, .agg (tnE.cells u).toArray] w0 (fun v w' => v = .bool true ∧ St w0 [] w' []) := by
  have hO := St.init0 w0
  refine ret_of (m := 41) Try.func6 rfl Try.ntmps6 [(0, .agg (tnE.cells t).toArray), (1, .agg (tnE.cells u).toArray)] rfl ⟨rfl, rfl, trivial⟩ fun a hF => ?_
  refine wp_seq ?_
  refine wp_region_lit ?_
  refine wl_e hF rfl rfl rfl (e_box hO rfl (hF.eval rfl) rfl) ?_
  rintro a _ w ⟨tk, rfl, hO⟩ hF
  refine wl_e hF rfl rfl rfl (e_box hO rfl (hF.eval rfl) rfl) ?_
  rintro a _ w ⟨tu, rfl, hO⟩ hF
  refine wl_v hF rfl rfl rfl (q_assign rfl (hF.eval rfl)) fun a hF => ?_
  refine wl_nil ?_
  refine k_n ?_
  refine wp_seq ?_
  refine wp_region_lit ?_
  refine wl_v hF rfl rfl rfl (q_loadAgg Try.isAgg33 Try.sizeOf33 rfl (hF.eval rfl) (hO.cells 1 rfl) rfl) fun a hF => ?_
  refine wl_v hF rfl rfl rfl (q_loadAgg Try.isAgg33 Try.sizeOf33 rfl (hF.eval rfl) (hO.cells 0 rfl) rfl) fun a hF => ?_
  refine wl_e hF rfl rfl rfl (c_call hF rfl rfl Try.call22 (match_r _ t u (hR.at0 hO) (hR2.at0 hO) hFt)) ?_
  rintro a _ w ⟨q1, l1, e1, rfl, hU1, hS⟩ hF
  have hO := hO.call0 hS
  have hO : St _ _ _ [_, _, _, _] := hO
  refine wl_v hF rfl rfl rfl (q_move rfl (hF.eval rfl)) fun a hF => ?_
  refine wl_v hF rfl rfl rfl (q_extract rfl (hF.eval rfl) rfl) fun a hF => ?_
  refine wl_v hF rfl rfl rfl (q_extract rfl (hF.eval rfl) rfl) fun a hF => ?_
  refine wl_v hF rfl rfl rfl (q_assign rfl (hF.eval rfl)) fun a hF => ?_
  refine wl_v hF rfl rfl rfl (q_assign rfl (hF.eval rfl)) fun a hF => ?_
  refine wl_nil ?_
  refine k_n ?_
  refine wp_seq ?_
  refine wp_region_lit ?_
  refine wl_v hF rfl rfl rfl (q_loadAgg Try.isAgg33 Try.sizeOf33 rfl (hF.eval rfl) (hO.cells 3 rfl) rfl) fun a hF => ?_
  refine wl_v hF rfl rfl rfl (q_loadAgg Try.isAgg33 Try.sizeOf33 rfl (hF.eval rfl) (hO.cells 2 rfl) rfl) fun a hF => ?_
  refine wl_e hF rfl rfl rfl (c_call hF rfl rfl Try.call23 (matchRR_r _ t u (hR.at0 hO) (hR2.at0 hO) hFt)) ?_
  rintro a _ w ⟨q2, l2, e2, rfl, hU2, hS⟩ hF
  have hO := hO.call0 hS
  have hO : St _ _ _ [_, _, _, _, _, _] := hO
  obtain ⟨hl, rfl⟩ := MatSpec.uniq hU1 hU2
  refine wl_v hF rfl rfl rfl (q_move rfl (hF.eval rfl)) fun a hF => ?_
  refine wl_v hF rfl rfl rfl (q_extract rfl (hF.eval rfl) rfl) fun a hF => ?_
  refine wl_v hF rfl rfl rfl (q_extract rfl (hF.eval rfl) rfl) fun a hF => ?_
  refine wl_v hF rfl rfl rfl (q_assign rfl (hF.eval rfl)) fun a hF => ?_
  refine wl_v hF rfl rfl rfl (q_assign rfl (hF.eval rfl)) fun a hF => ?_
  refine wl_nil ?_
  refine k_n ?_
  refine wp_seq ?_
  refine wp_seq ?_
  refine wp_region_lit ?_
  refine wl_v hF rfl rfl rfl (q_move rfl (hF.eval rfl)) fun a hF => ?_
  refine wl_v hF rfl rfl rfl (q_move rfl (hF.eval rfl)) fun a hF => ?_
  refine wl_v hF rfl rfl rfl (q_ne rfl (hF.eval rfl) (hF.eval rfl)) fun a hF => ?_
  refine wl_v hF rfl rfl rfl (q_move rfl (hF.eval rfl)) fun a hF => ?_
  refine wl_un hF rfl rfl rfl rfl (isB_F (fun h => h rfl)) ?_
  refine wl_v hF rfl rfl rfl (q_move rfl (hF.eval rfl)) fun a hF => ?_
  refine wl_un hF rfl rfl rfl rfl (isB_F (fun h => h rfl)) ?_
  refine wl_v hF rfl rfl rfl (q_move rfl (hF.eval rfl)) fun a hF => ?_
  refine wl_un hF rfl rfl rfl rfl (isB_F (fun h => h rfl)) ?_
  refine wl_e hF rfl rfl rfl (c_call hF rfl rfl Try.call11 (sameSubs_r _ _ _ l1 l2 (hO.rdT 2 rfl) (hO.rdT 0 rfl) (hO.rdSb 3 rfl) (hO.rdSb 1 rfl))) ?_
  rintro a _ w ⟨rfl, hS⟩ hF
  have hO := hO.call0 hS
  have hO : St _ _ _ [_, _, _, _, _, _] := hO
  have hq : decide (l1.map SbN.er = l2.map SbN.er) = true := decide_eq_true hl
  refine wl_un hF rfl rfl rfl rfl (isB_F (fun h => h rfl)) ?_
  refine wl_v hF rfl rfl rfl (q_not rfl (hF.eval rfl) (dec_b _)) fun a hF => ?_
  refine wl_v hF rfl rfl rfl (q_or rfl (hF.eval rfl) rfl (fun hg2 => (hF.eval rfl)) rfl) fun a hF => ?_
  refine wl_nil ?_
  refine k_n ?_
  refine wp_ifD hF rfl rfl (fun hc1 => ?_) (fun hc1 => ?_)
  · skip
    exact absurd hq (hc1.resolve_left fun h => h rfl)
  · skip
    refine wp_skip ?_
    refine k_n ?_
    refine wp_seq ?_
    refine wp_seq ?_
    refine wp_region_lit ?_
    refine wl_v hF rfl rfl rfl (q_move rfl (hF.eval rfl)) fun a hF => ?_
    refine wl_v hF rfl rfl rfl (q_ne rfl (hF.eval rfl) (hF.eval rfl)) fun a hF => ?_
    refine wl_nil ?_
    refine k_n ?_
    refine wp_ifD hF rfl rfl (fun hc2 => ?_) (fun hc2 => ?_)
    · skip
      refine wp_seq ?_
      refine wp_region_lit ?_
      refine wl_e hF rfl rfl rfl (c_call hF rfl rfl Try.call12 (awake_r _)) ?_
      rintro a _ w ⟨rfl, hS⟩ hF
      have hO := hO.call0 hS
      have hO : St _ _ _ [_, _, _, _, _, _] := hO
      refine wl_v hF rfl rfl rfl (q_assign rfl (hF.eval rfl)) fun a hF => ?_
      refine wl_nil ?_
      refine k_n ?_
      refine wp_ret ?_
      refine k_r ?_
      refine r_1 hF rfl rfl ?_
      have hO := hO.drop1 0
      have hO := hO.drop1 0
      have hO := hO.drop1 0
      have hO := hO.drop1 0
      have hO := hO.drop1 0
      have hO := hO.drop1 0
      have hO : St _ _ _ [] := hO
      exact ⟨rfl, hO⟩
    · skip
      obtain rfl : e1 = 0 := Classical.not_not.1 hc2
      obtain ⟨hf9, hl9, hap⟩ := hU1.yes hFt.1 hFt.2
      rw [List.length_map] at hl9
      refine wp_skip ?_
      refine k_n ?_
      refine wp_seq ?_
      have hO := hO.pull 4 rfl
      have hO := hO.pull 5 rfl
      have hO := hO.drew
      refine wp_region_D [1, 0, 2, 1, 3, 0, 3, 0, 0] (fun w => ∃ L', St w0 [] w (.ob tk 33 (tnE.cells t) :: .ob tu 33 (tnE.cells u) :: L')) Try_mixed (by kernel_rfl) ⟨_, hO⟩ ?_
      refine wd_r hF rfl rfl rfl (fun w ⟨_, hO⟩ => q_loadAgg Try.isAgg33 Try.sizeOf33 rfl (hF.eval rfl) (hO.cells 0 rfl) rfl) fun a hF => ?_
      refine wd_p hF rfl rfl rfl (fun w => q_move rfl (hF.eval rfl)) fun a hF => ?_
      refine wd_e hF rfl rfl rfl (c_call hF rfl rfl Try.call15 (apply_r _ t _ l1 (hR.at0 hO) (hO.rdT 4 rfl) (hO.rdSb 5 rfl) hFt.1 (fun s hs => hf9 (SbN.er s) (List.mem_map_of_mem hs)) (by omega))) (fun _ _ ⟨_, _, _, hS⟩ => ⟨_, ((hO.call0 hS).pull 2 rfl).pull 2 rfl⟩) ?_
      rintro a _ w ⟨z, rfl, hz, hS⟩ hF
      have hO := hO.call0 hS
      have hO : St _ _ _ [_, _, _, _, _, _, _] := hO
      refine wd_r hF rfl rfl rfl (fun w ⟨_, hO⟩ => q_loadAgg Try.isAgg33 Try.sizeOf33 rfl (hF.eval rfl) (hO.cells 1 rfl) rfl) fun a hF => ?_
      refine wd_f hF rfl rfl rfl (c_call hF rfl rfl Try.call19 (same_r z u _ (hO.rdN 0 rfl) (hR2.at0 hO))) ?_
      rintro a _ w ⟨rfl, hS⟩ hF
      have hO := hO.call0 hS
      have hO : St _ _ _ [_, _, _, _, _, _, _] := hO
      have hsm : sameF z.er u.er = true := same_iff.2 (hz.trans hap)
      refine wd_p hF rfl rfl rfl (fun w => q_move rfl (hF.eval rfl)) fun a hF => ?_
      refine wd_un hF rfl rfl rfl rfl (by rw [hsm]; rfl) ?_
      refine wd_f hF rfl rfl rfl (c_call hF rfl rfl Try.call12 (awake_r _)) ?_
      rintro a _ w ⟨rfl, hS⟩ hF
      have hO := hO.call0 hS
      have hO : St _ _ _ [_, _, _, _, _, _, _] := hO
      refine wd_p hF rfl rfl rfl (fun w => q_and rfl (hF.eval rfl) (dec_b _) (fun hg2 => (hF.eval rfl)) (dec_b _)) fun a hF => ?_
      refine wd_p hF rfl rfl rfl (fun w => q_assign rfl (hF.eval rfl)) fun a hF => ?_
      refine wd_nil ?_
      refine k_n ?_
      refine wp_ret ?_
      refine r_1 hF rfl rfl ?_
      have hO := hO.drop1 0
      have hO := hO.drop1 0
      have hO := hO.drop1 0
      have hO := hO.drop1 0
      have hO := hO.drop1 0
      have hO := hO.drop1 0
      have hO := hO.drop1 0
      have hO : St _ _ _ [] := hO
      refine ⟨congrArg Value.bool (decide_eq_true ?_), hO⟩
      exact ⟨hsm, rfl⟩

end Go.Proofs.Ytfkmlcgccffmnaa
