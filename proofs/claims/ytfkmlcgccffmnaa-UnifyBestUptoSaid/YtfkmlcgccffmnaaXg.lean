/- PU22, PLAIN: substitutions that solve the pairs come out of the best one. -/
import Derived.Test.YtfkmlcgccffmnaaXf
namespace Go.Proofs.Ytfkmlcgccffmnaa
open Go
theorem subs_theta {S : List (Nam × Ty)} (h : ∀ q ∈ S, rightF q.2 = true) : ∃ θ : Nam → RT, sigF S = fun n => (θ n).ty := by
  have key : ∀ n, ∃ r : RT, sigF S n = r.ty := fun n => by
    unfold sigF
    cases hf : S.find? fun s => decide (s.1 = n) with
    | none => exact ⟨.var n, rfl⟩
    | some s =>
      obtain ⟨r, _, e⟩ := right_ex _ (h s (List.mem_of_find?_eq_some hf))
      exact ⟨r, e⟩
  exact ⟨fun n => (key n).choose, funext fun n => (key n).choose_spec⟩
theorem app_theta {S : List (Nam × Ty)} {θ : Nam → RT} (h : ∀ q ∈ S, rightF q.2 = true) (hs : sigF S = fun n => (θ n).ty) {t : RT} (ht : t.ok) : applyF t.ty S = (t.sub θ).ty := by
  unfold applyF
  rw [if_pos ⟨ok_right ht, h⟩, hs, RT.sub_ty]
theorem check_right {t : Ty} (h : checkF t = 0) : rightF t = true := by
  unfold checkF at h
  split at h
  · cases h
  · rename_i h1; simpa using h1
/-- a list that solves the pairs -/
theorem no_solve {ps : TPs} {l : List (Nam × Ty)} (h : UniSpec ps l 70) {S : List (Nam × Ty)} (hr : ∀ q ∈ S, rightF q.2 = true) (hs : ∀ p ∈ ps, applyF p.1 S = applyF p.2 S) : False := by
  rcases h with ⟨h1, _, h2⟩ | ⟨hal, rs, rfl, ⟨h, _, _⟩ | ⟨_, _, _, _, _, ⟨_, _, h⟩ | ⟨_, _, h⟩⟩⟩
  · have e : ∀ (l : List Ty) (e : Int), (e = 0 ∨ e = 3) → allF l e = 0 ∨ allF l e = 1 ∨ allF l e = 3 := by
      intro l
      induction l with
      | nil => intro e he; rcases he with rfl | rfl; exact .inl rfl; exact .inr (.inr rfl)
      | cons t l ih =>
        intro e he
        unfold allF
        split
        · exact .inr (.inl rfl)
        · refine ih _ ?_
          split
          · exact .inr rfl
          · exact he
    rcases e (tysOf ps) 0 (.inl rfl) with h | h | h <;> (rw [h] at h2; cases h2)
  · obtain ⟨rs', e, hok⟩ := right_pairs (allF_zero hal).2
    obtain rfl := tyPs_inj e
    obtain ⟨θ, hθ⟩ := subs_theta hr
    refine h θ fun p hp => ?_
    obtain ⟨⟨o1, _⟩, o2, _⟩ := hok p hp
    have := hs (p.1.ty, p.2.ty) (List.mem_map.2 ⟨p, hp, rfl⟩)
    rw [show applyF (p.1.ty, p.2.ty).1 S = _ from app_theta hr hθ o1, show applyF (p.1.ty, p.2.ty).2 S = _ from app_theta hr hθ o2] at this
    rw [ev_rt, ev_rt]; exact RT.ty_inj this
  · cases h
  · cases h
/-- what the best one says of a name, under any other -/
theorem Solved.under {rs : RPs} {σ : Nam → RT} {ns : List Nam} {l : List (Nam × Ty)} {N : Nat} (h : Solved rs σ ns l N) {S : List (Nam × Ty)} (hr : ∀ q ∈ S, rightF q.2 = true) (hs : ∀ p ∈ tyPs rs, applyF p.1 S = applyF p.2 S) : ∀ q ∈ l, applyF q.2 S = applyF (RT.var q.1).ty S := fun q hq => by
  obtain ⟨n, hn, rfl⟩ := h.mem q hq
  obtain ⟨θ, hθ⟩ := subs_theta hr
  have hu : Unif rtG θ rs := fun p hp => by
    obtain ⟨⟨o1, _⟩, o2, _⟩ := h.rt p hp
    have := hs (p.1.ty, p.2.ty) (List.mem_map.2 ⟨p, hp, rfl⟩)
    rw [show applyF (p.1.ty, p.2.ty).1 S = _ from app_theta hr hθ o1, show applyF (p.1.ty, p.2.ty).2 S = _ from app_theta hr hθ o2] at this
    rw [ev_rt, ev_rt]; exact RT.ty_inj this
  have hnn : (RT.var n).ok := by
    obtain ⟨p, hp, hv⟩ := mem_psVs.1 hn
    obtain ⟨⟨o1, _⟩, o2, _⟩ := h.rt p hp
    rcases hv with hv | hv
    · exact fun e => (ok_iff.1 o1).2 (e ▸ hv)
    · exact fun e => (ok_iff.1 o2).2 (e ▸ hv)
  rw [show applyF (n, (σ n).ty).2 S = _ from app_theta hr hθ (h.ok n hn).1, show applyF (RT.var (n, (σ n).ty).1).ty S = _ from app_theta hr hθ hnn, ← h.can.most θ hu n]
  rfl
end Go.Proofs.Ytfkmlcgccffmnaa
namespace Go.Proofs.Ytfkmlcgccffmnaa
open Go
set_option maxRecDepth 100000
set_option linter.unusedVariables false

theorem takeAt9 {α : Type} {l : List α} {i : Nat} {x : α} (h : l[i]? = some x) : l.take (i + 1) = l.take i ++ [x] := by
  rw [List.take_add_one, h]; rfl
theorem err_cases {ps : TPs} {l : List (Nam × Ty)} {e : Int} (h : UniSpec ps l e) (h1 : ¬ e = 0) (h2 : ¬ e = 70) : e = 1 ∨ e = 3 := by
  have key : ∀ (l : List Ty) (e : Int), (e = 0 ∨ e = 3) → allF l e = 0 ∨ allF l e = 1 ∨ allF l e = 3 := by
    intro l
    induction l with
    | nil => intro e he; rcases he with rfl | rfl; exact .inl rfl; exact .inr (.inr rfl)
    | cons t l ih =>
      intro e he
      unfold allF
      split
      · exact .inr (.inl rfl)
      · refine ih _ ?_
        split
        · exact .inr rfl
        · exact he
  rcases h with ⟨h3, _, h4⟩ | ⟨_, _, _, ⟨_, _, h⟩ | ⟨_, _, _, _, _, ⟨_, _, h⟩ | ⟨_, _, h⟩⟩⟩
  · rcases key (tysOf ps) 0 (.inl rfl) with h | h | h
    · exact absurd h h3
    · exact .inl (h4.trans h)
    · exact .inr (h4.trans h)
  · exact absurd h h2
  · exact .inr h
  · exact absurd h h1
set_option maxHeartbeats 8000000 in
theorem best_r (w0 : World) (vp : Value) (ps : List TN2) (vs : Value) (ss : List SbN) (hR : RdT w0 [] vp prE ps) (hRd : ∀ p ∈ ps, RdN w0 [] p.1 ∧ RdN w0 [] p.2) (hw : ∀ p ∈ ps, wtF p.1.er ≤ 1048576 ∧ wtF p.2.er ≤ 1048576) (hlen : ps.length ≤ 1048576) (hSs : RdT w0 [] vs sbE ss) (hSn : ∀ s ∈ ss, RdN w0 [] s.t) (hws : ∀ s ∈ ss, wtF s.t.er ≤ 1048576 ∧ s.name.length ≤ 1048576) (hsl : ss.length ≤ 1048576) : Ret Try.prog 7 #[vp, vs] w0 (fun v w' => v = .bool true ∧ St w0 [] w' []) := by
  have hO := St.init0 w0
  have hFt : ∀ p ∈ ps, Fit p.1.er ∧ Fit p.2.er := fun p hp => ⟨Nat.le_trans (hw p hp).1 (by decide), Nat.le_trans (hw p hp).2 (by decide)⟩
  refine ret_of (m := 121) Try.func7 rfl Try.ntmps7 [(0, vp), (1, vs)] rfl ⟨rfl, rfl, trivial⟩ fun a hF => ?_
  refine wp_seq ?_
  refine wp_region_lit ?_
  refine wl_v hF rfl rfl rfl (q_assign rfl (hF.eval rfl)) fun a hF => ?_
  refine wl_nil ?_
  refine k_n ?_
  refine wp_seq ?_
  refine wp_region_lit ?_
  refine wl_v hF rfl rfl rfl (q_move rfl (hF.eval rfl)) fun a hF => ?_
  refine wl_e hF rfl rfl rfl (c_call hF rfl rfl Try.call9 (unify_r _ _ ps (hR.at0 hO) (fun p hp => ⟨(hRd p hp).1.at0 hO, (hRd p hp).2.at0 hO⟩) hFt (by omega))) ?_
  rintro a _ w ⟨q1, l1, e1, rfl, hU1, hS⟩ hF
  have hO := hO.call0 hS
  have hO : St _ _ _ [_, _] := hO
  refine wl_v hF rfl rfl rfl (q_move rfl (hF.eval rfl)) fun a hF => ?_
  refine wl_v hF rfl rfl rfl (q_extract rfl (hF.eval rfl) rfl) fun a hF => ?_
  refine wl_v hF rfl rfl rfl (q_extract rfl (hF.eval rfl) rfl) fun a hF => ?_
  refine wl_v hF rfl rfl rfl (q_assign rfl (hF.eval rfl)) fun a hF => ?_
  refine wl_v hF rfl rfl rfl (q_assign rfl (hF.eval rfl)) fun a hF => ?_
  refine wl_nil ?_
  refine k_n ?_
  refine wp_seq ?_
  refine wp_seq ?_
  refine wp_region_lit ?_
  refine wl_v hF rfl rfl rfl (q_move rfl (hF.eval rfl)) fun a hF => ?_
  refine wl_v hF rfl rfl rfl (q_ne rfl (hF.eval rfl) (hF.eval rfl)) fun a hF => ?_
  refine wl_v hF rfl rfl rfl (q_move rfl (hF.eval rfl)) fun a hF => ?_
  refine wl_g hF rfl rfl rfl rfl rfl rfl (fun hg => q_move rfl (hF.eval rfl)) fun a hF => ?_
  refine wl_g hF rfl rfl rfl rfl rfl rfl (fun hg => q_ne rfl ((hF.eval rfl).trans (gv_of hg)) (hF.eval rfl)) fun a hF => ?_
  refine wl_v hF rfl rfl rfl (q_and rfl (hF.eval rfl) rfl (fun hg2 => ((hF.eval rfl).trans (gv_of hg2))) rfl) fun a hF => ?_
  refine wl_nil ?_
  refine k_n ?_
  refine wp_ifD hF rfl rfl (fun hc1 => ?_) (fun hc1 => ?_)
  · skip
    have hl0 := nil_er (hU1.err hc1.1)
    have h13 := err_cases hU1 hc1.1 hc1.2
    refine wp_seq ?_
    refine wp_region_lit ?_
    refine wl_v hF rfl rfl rfl (q_move rfl (hF.eval rfl)) fun a hF => ?_
    refine wl_v hF rfl rfl rfl (q_lenRd (hO.rd 0 rfl) Try.underlying23 rfl (hF.eval rfl)) fun a hF => ?_
    refine wl_v hF rfl rfl rfl (q_eq rfl (hF.eval rfl) (hF.eval rfl)) fun a hF => ?_
    refine wl_v hF rfl rfl rfl (q_move rfl (hF.eval rfl)) fun a hF => ?_
    refine wl_un hF rfl rfl rfl rfl (isB_T hl0) ?_
    refine wl_v hF rfl rfl rfl (q_move rfl (hF.eval rfl)) fun a hF => ?_
    refine wl_un hF rfl rfl rfl rfl (isB_T hl0) ?_
    refine wl_v hF rfl rfl rfl (q_eq rfl (hF.eval rfl) (hF.eval rfl)) fun a hF => ?_
    refine wl_un hF rfl rfl rfl rfl (isB_T hl0) ?_
    refine wl_v hF rfl rfl rfl (q_move rfl (hF.eval rfl)) fun a hF => ?_
    refine wl_g hF rfl rfl rfl rfl rfl rfl (fun hg => q_move rfl (hF.eval rfl)) fun a hF => ?_
    refine wl_g hF rfl rfl rfl rfl rfl rfl (fun hg => q_eq rfl ((hF.eval rfl).trans (gv_of hg)) (hF.eval rfl)) fun a hF => ?_
    refine wl_un hF rfl rfl rfl rfl (isB_T hl0) ?_
    refine wl_v hF rfl rfl rfl (q_or rfl (hF.eval rfl) rfl (fun hg2 => ((hF.eval rfl).trans (gv_of hg2))) rfl) fun a hF => ?_
    refine wl_v hF rfl rfl rfl (q_and rfl (hF.eval rfl) rfl (fun hg2 => (hF.eval rfl)) rfl) fun a hF => ?_
    refine wl_v hF rfl rfl rfl (q_move rfl (hF.eval rfl)) fun a hF => ?_
    refine wl_un hF rfl rfl rfl rfl (isB_T ⟨hl0, h13⟩) ?_
    refine wl_e hF rfl rfl rfl (c_call hF rfl rfl Try.call12 (awake_r _)) ?_
    rintro a _ w ⟨rfl, hS⟩ hF
    have hO := hO.call0 hS
    have hO : St _ _ _ [_, _] := hO
    refine wl_v hF rfl rfl rfl (q_and rfl (hF.eval rfl) rfl (fun hg2 => (hF.eval rfl)) (dec_b _)) fun a hF => ?_
    refine wl_v hF rfl rfl rfl (q_assign rfl (hF.eval rfl)) fun a hF => ?_
    refine wl_nil ?_
    refine k_n ?_
    refine wp_ret ?_
    refine k_r ?_
    refine r_1 hF rfl rfl ?_
    have hO := hO.drop1 0
    have hO := hO.drop1 0
    have hO : St _ _ _ [] := hO
    refine ⟨congrArg Value.bool (decide_eq_true ?_), hO⟩
    exact ⟨⟨hl0, h13⟩, rfl⟩
  · skip
    have hyes : e1 = 0 → ∃ rs σ ns, ps.map er2 = tyPs rs ∧ Solved rs σ ns (l1.map SbN.er) 1048576 := fun he => by
      rw [he] at hU1
      exact hU1.yes (fun p hp => by obtain ⟨q, hq, rfl⟩ := List.mem_map.1 hp; exact hw q hq)
    have hbnd : ∀ {rs σ ns}, ps.map er2 = tyPs rs → Solved rs σ ns (l1.map SbN.er) 1048576 → (∀ p ∈ tyPs rs, wtF p.1 ≤ 1048576 ∧ wtF p.2 ≤ 1048576) ∧ l1.length ≤ 1000000000000 := fun hps hSo => by
      have hrl := pairs_len hps
      have := hSo.len
      rw [List.length_map] at this
      exact ⟨fun p hp => by rw [← hps] at hp; obtain ⟨q, hq, rfl⟩ := List.mem_map.1 hp; exact hw q hq, by omega⟩
    refine wp_skip ?_
    refine k_n ?_
    refine wp_seq ?_
    refine wp_region_lit ?_
    refine wl_v hF rfl rfl rfl (q_assign rfl (hF.eval rfl)) fun a hF => ?_
    refine wl_nil ?_
    refine k_n ?_
    refine wp_seq ?_
    refine wp_seq ?_
    refine wp_region_lit ?_
    refine wl_v hF rfl rfl rfl (q_assign rfl (hF.eval rfl)) fun a hF => ?_
    refine wl_nil ?_
    refine k_n ?_
    refine wp_block ?_
    have hO : St _ _ _ [_, _] := hO
    refine wp_loopS (fun (s : Nat × Bool) a w' => match s with | (i, sv) => (i ≤ ss.length ∧ (sv = true → ∀ s ∈ ss.take i, checkF s.t.er = 0)) ∧ St w0 [] w' [slT q1.v 45 sbE l1, sbG 33 l1] ∧ Fr a 121 [(0, vp), (1, vs), (5, q1.v), (6, i64 e1), (7, .bool sv), (8, i64 i)]) (fun (s : Nat × Bool) => match s with | (i, sv) => ss.length - i) (0, true) ⟨⟨by omega, fun _ s hs => by simp at hs⟩, hO, hF.sub ⟨rfl, rfl, rfl, rfl, rfl, rfl, trivial⟩⟩ ?_
    rintro ⟨i, sv⟩ a w ⟨⟨hi, hsv⟩, hO, hF⟩
    refine wp_seq ?_
    refine wp_seq ?_
    refine wp_region_lit ?_
    refine wl_v hF rfl rfl rfl (q_move rfl (hF.eval rfl)) fun a hF => ?_
    refine wl_v hF rfl rfl rfl (q_move rfl (hF.eval rfl)) fun a hF => ?_
    refine wl_v hF rfl rfl rfl (q_lenRd hSs Try.underlying23 rfl (hF.eval rfl)) fun a hF => ?_
    refine wl_v hF rfl rfl rfl (q_lt rfl (hF.eval rfl) (hF.eval rfl)) fun a hF => ?_
    refine wl_nil ?_
    refine k_n ?_
    refine wp_ifD hF rfl rfl (fun hc2 => ?_) (fun hc2 => ?_)
    · skip
      refine wp_skip ?_
      refine k_n ?_
      refine wp_seq ?_
      refine wp_block ?_
      refine wp_region_lit ?_
      cases sv
      · skip
        refine wl_v hF rfl rfl rfl (q_move rfl (hF.eval rfl)) fun a hF => ?_
        refine wl_v hF rfl rfl rfl (q_move rfl (hF.eval rfl)) fun a hF => ?_
        refine wl_sk hF rfl rfl rfl rfl (rfl) rfl rfl fun a hF => ?_
        refine wl_sk hF rfl rfl rfl rfl (rfl) rfl rfl fun a hF => ?_
        refine wl_sk hF rfl rfl rfl rfl (rfl) rfl rfl fun a hF => ?_
        refine wl_sk hF rfl rfl rfl rfl (rfl) rfl rfl fun a hF => ?_
        refine wl_sk hF rfl rfl rfl rfl (rfl) rfl rfl fun a hF => ?_
        refine wl_sk hF rfl rfl rfl rfl (rfl) rfl rfl fun a hF => ?_
        refine wl_sk hF rfl rfl rfl rfl (rfl) rfl rfl fun a hF => ?_
        refine wl_v hF rfl rfl rfl (q_pickF rfl (hF.eval rfl) rfl) fun a hF => ?_
        refine wl_v hF rfl rfl rfl (q_assign rfl (hF.eval rfl)) fun a hF => ?_
        refine wl_nil ?_
        refine b_n ?_
        refine k_n ?_
        refine wp_region_lit ?_
        refine wl_v hF rfl rfl rfl (q_move rfl (hF.eval rfl)) fun a hF => ?_
        refine wl_v hF rfl rfl rfl (q_add rfl (hF.eval rfl) (hF.eval rfl) (by omega)) fun a hF => ?_
        refine wl_v hF rfl rfl rfl (q_assign rfl (hF.eval rfl)) fun a hF => ?_
        refine wl_nil ?_
        refine k_n ?_
        have hO : St _ _ _ [_, _] := hO
        exact ⟨(i + 1, false), ⟨⟨by omega, fun h => (by cases h)⟩, hO, hF.sub ⟨rfl, rfl, rfl, rfl, rfl, rfl, trivial⟩⟩, by dsimp only; omega⟩
      · skip
        refine wl_v hF rfl rfl rfl (q_move rfl (hF.eval rfl)) fun a hF => ?_
        refine wl_v hF rfl rfl rfl (q_move rfl (hF.eval rfl)) fun a hF => ?_
        refine wl_un hF rfl rfl rfl rfl (rfl) ?_
        refine wl_v hF rfl rfl rfl (q_move rfl (hF.eval rfl)) fun a hF => ?_
        refine wl_un hF rfl rfl rfl rfl (rfl) ?_
        refine wl_v hF rfl rfl rfl (q_move rfl (hF.eval rfl)) fun a hF => ?_
        refine wl_un hF rfl rfl rfl rfl (rfl) ?_
        obtain ⟨x, hx⟩ := get_ex (l := ss) (i := i) (by omega)
        refine wl_v hF rfl rfl rfl (q_at (i := i) hSs Try.underlying23 Try.sizeOf45 rfl (hF.eval rfl) (hF.eval rfl) (by omega)) fun a hF => ?_
        refine wl_un hF rfl rfl rfl rfl (rfl) ?_
        refine wl_v hF rfl rfl rfl (q_fieldAddr0 (d := 1) Try.underlying45 rfl (hF.eval rfl) rfl Try.sizeOf33 (by decide) rfl) fun a hF => ?_
        refine wl_un hF rfl rfl rfl rfl (rfl) ?_
        refine wl_v hF rfl rfl rfl (q_loadAgg Try.isAgg33 Try.sizeOf33 rfl (hF.eval rfl) (RdT.cellsK (hSs.now hO) hx 1 3 rfl) rfl) fun a hF => ?_
        refine wl_un hF rfl rfl rfl rfl (rfl) ?_
        refine wl_e hF rfl rfl rfl (c_call hF rfl rfl Try.call17 (check_r _ x.t ((hSn x (List.mem_of_getElem? hx)).at0 hO) (Nat.le_trans (nodes_wt _) (Nat.le_trans (hws x (List.mem_of_getElem? hx)).1 (by decide))))) ?_
        rintro a _ w ⟨rfl, hS⟩ hF
        have hO := hO.call0 hS
        have hO : St _ _ _ [_, _] := hO
        refine wl_un hF rfl rfl rfl rfl (rfl) ?_
        refine wl_v hF rfl rfl rfl (q_eq rfl (hF.eval rfl) (hF.eval rfl)) fun a hF => ?_
        refine wl_v hF rfl rfl rfl (q_pickT rfl (hF.eval rfl) (hF.eval rfl)) fun a hF => ?_
        refine wl_v hF rfl rfl rfl (q_assign rfl (hF.eval rfl)) fun a hF => ?_
        refine wl_nil ?_
        refine b_n ?_
        refine k_n ?_
        refine wp_region_lit ?_
        refine wl_v hF rfl rfl rfl (q_move rfl (hF.eval rfl)) fun a hF => ?_
        refine wl_v hF rfl rfl rfl (q_add rfl (hF.eval rfl) (hF.eval rfl) (by omega)) fun a hF => ?_
        refine wl_v hF rfl rfl rfl (q_assign rfl (hF.eval rfl)) fun a hF => ?_
        refine wl_nil ?_
        refine k_n ?_
        have hO : St _ _ _ [_, _] := hO
        exact ⟨(i + 1, decide (checkF x.t.er = 0)), ⟨⟨by omega, fun h s hs => by rw [takeAt9 hx] at hs; rcases List.mem_append.1 hs with hs | hs; exact hsv rfl s hs; rw [List.mem_singleton.1 hs]; exact of_decide_eq_true h⟩, hO, hF.sub ⟨rfl, rfl, rfl, rfl, rfl, rfl, trivial⟩⟩, by dsimp only; omega⟩
    · skip
      refine wp_exit ?_
      refine k_x ?_
      refine k_x ?_
      refine b_x ?_
      refine k_n ?_
      refine wp_seq ?_
      refine wp_seq ?_
      refine wp_region_lit ?_
      refine wl_v hF rfl rfl rfl (q_assign rfl (hF.eval rfl)) fun a hF => ?_
      refine wl_nil ?_
      refine k_n ?_
      refine wp_block ?_
      have hO : St _ _ _ [_, _] := hO
      refine wp_loopS (fun (s : Nat × Bool) a w' => match s with | (i, sv) => (i ≤ ps.length ∧ (sv = true → (∀ s ∈ ss, checkF s.t.er = 0) ∧ ∀ p ∈ ps.take i, applyF p.1.er (ss.map SbN.er) = applyF p.2.er (ss.map SbN.er))) ∧ St w0 [] w' [slT q1.v 45 sbE l1, sbG 33 l1] ∧ Fr a 121 [(0, vp), (1, vs), (5, q1.v), (6, i64 e1), (7, .bool sv), (9, i64 i)]) (fun (s : Nat × Bool) => match s with | (i, sv) => ps.length - i) (0, sv) ⟨⟨by omega, fun h => ⟨fun s hs => hsv h s (by rw [List.take_of_length_le (by omega)]; exact hs), fun p hp => by simp at hp⟩⟩, hO, hF.sub ⟨rfl, rfl, rfl, rfl, rfl, rfl, trivial⟩⟩ ?_
      rintro ⟨i, sv⟩ a w ⟨⟨hi, hsv⟩, hO, hF⟩
      refine wp_seq ?_
      refine wp_seq ?_
      refine wp_region_lit ?_
      refine wl_v hF rfl rfl rfl (q_move rfl (hF.eval rfl)) fun a hF => ?_
      refine wl_v hF rfl rfl rfl (q_move rfl (hF.eval rfl)) fun a hF => ?_
      refine wl_v hF rfl rfl rfl (q_lenRd hR Try.underlying22 rfl (hF.eval rfl)) fun a hF => ?_
      refine wl_v hF rfl rfl rfl (q_lt rfl (hF.eval rfl) (hF.eval rfl)) fun a hF => ?_
      refine wl_nil ?_
      refine k_n ?_
      refine wp_ifD hF rfl rfl (fun hc3 => ?_) (fun hc3 => ?_)
      · skip
        refine wp_skip ?_
        refine k_n ?_
        refine wp_seq ?_
        refine wp_block ?_
        refine wp_seq ?_
        refine wp_region_lit ?_
        refine wl_v hF rfl rfl rfl (q_move rfl (hF.eval rfl)) fun a hF => ?_
        refine wl_v hF rfl rfl rfl (q_move rfl (hF.eval rfl)) fun a hF => ?_
        obtain ⟨p, hp⟩ := get_ex (l := ps) (i := i) (by omega)
        refine wl_v hF rfl rfl rfl (q_at (i := i) hR Try.underlying22 Try.sizeOf34 rfl (hF.eval rfl) (hF.eval rfl) (by omega)) fun a hF => ?_
        refine wl_v hF rfl rfl rfl (q_atArr (i := 0) Try.underlying34 Try.sizeOf33 rfl (hF.eval rfl) (hF.eval rfl) (by decide)) fun a hF => ?_
        refine wl_v hF rfl rfl rfl (q_loadAgg Try.isAgg33 Try.sizeOf33 rfl (hF.eval rfl) (RdT.cellsK (hR.now hO) hp 0 3 rfl) rfl) fun a hF => ?_
        refine wl_e hF rfl rfl rfl (e_alloc hO Try.zeroValue33 rfl rfl) ?_
        rintro a _ w ⟨bx, rfl, hO⟩ hF
        refine wl_s hF rfl rfl (e_storeAll hO (i := 0) rfl Try.sizeOf33 rfl (hF.eval rfl) (hF.eval rfl) rfl rfl) ?_
        rintro a _ w ⟨-, hO⟩ hF
        have hO : St _ _ _ [_, _, _] := hO
        refine wl_nil ?_
        refine k_n ?_
        refine wp_seq ?_
        refine wp_region_lit ?_
        refine wl_v hF rfl rfl rfl (q_move rfl (hF.eval rfl)) fun a hF => ?_
        refine wl_v hF rfl rfl rfl (q_move rfl (hF.eval rfl)) fun a hF => ?_
        refine wl_v hF rfl rfl rfl (q_at (i := i) hR Try.underlying22 Try.sizeOf34 rfl (hF.eval rfl) (hF.eval rfl) (by omega)) fun a hF => ?_
        refine wl_v hF rfl rfl rfl (q_atArr (i := 1) Try.underlying34 Try.sizeOf33 rfl (hF.eval rfl) (hF.eval rfl) (by decide)) fun a hF => ?_
        refine wl_v hF rfl rfl rfl (q_loadAgg Try.isAgg33 Try.sizeOf33 rfl (hF.eval rfl) (RdT.cellsK (hR.now hO) hp 3 3 rfl) rfl) fun a hF => ?_
        refine wl_e hF rfl rfl rfl (e_alloc hO Try.zeroValue33 rfl rfl) ?_
        rintro a _ w ⟨by_, rfl, hO⟩ hF
        refine wl_s hF rfl rfl (e_storeAll hO (i := 0) rfl Try.sizeOf33 rfl (hF.eval rfl) (hF.eval rfl) rfl rfl) ?_
        rintro a _ w ⟨-, hO⟩ hF
        have hO : St _ _ _ [_, _, _, _] := hO
        refine wl_nil ?_
        refine k_n ?_
        refine wp_seq ?_
        refine wp_seq ?_
        have hO := hO.pull 1 rfl
        have hO := hO.drew
        refine wp_region_D [0, 0, 0, 1, 0, 2, 1, 0, 2, 3, 0, 0] (fun w => ∃ L', St w0 [] w (.ob bx 33 (tnE.cells p.1) :: .ob by_ 33 (tnE.cells p.2) :: L')) Try_mixed (by kernel_rfl) ⟨_, hO⟩ ?_
        by_cases he : e1 = 0
        · skip
          obtain ⟨rs, σ, ns, hps, hSo⟩ := hyes he
          obtain ⟨hwp, hll⟩ := hbnd hps hSo
          refine wd_p hF rfl rfl rfl (fun w => q_move rfl (hF.eval rfl)) fun a hF => ?_
          refine wd_p hF rfl rfl rfl (fun w => q_eq rfl (hF.eval rfl) (hF.eval rfl)) fun a hF => ?_
          refine wd_p hF rfl rfl rfl (fun w => q_move rfl (hF.eval rfl)) fun a hF => ?_
          refine wd_un hF rfl rfl rfl rfl (isB_T he) ?_
          refine wd_r hF rfl rfl rfl (fun w ⟨_, hO⟩ => q_loadAgg Try.isAgg33 Try.sizeOf33 rfl (hF.eval rfl) (hO.cells 0 rfl) rfl) fun a hF => ?_
          refine wd_un hF rfl rfl rfl rfl (isB_T he) ?_
          refine wd_p hF rfl rfl rfl (fun w => q_move rfl (hF.eval rfl)) fun a hF => ?_
          refine wd_un hF rfl rfl rfl rfl (isB_T he) ?_
          refine wd_e hF rfl rfl rfl (c_call hF rfl rfl Try.call15 (apply_r _ p.1 _ l1 ((hRd p (List.mem_of_getElem? hp)).1.at0 hO) (hO.rdT 2 rfl) (hO.rdSb 3 rfl) (hFt p (List.mem_of_getElem? hp)).1 (fun s hs => (hSo.fit hwp (SbN.er s) (List.mem_map_of_mem hs)).1) hll)) (fun _ _ ⟨_, _, _, hS⟩ => ⟨_, ((hO.call0 hS).pull 2 rfl).pull 2 rfl⟩) ?_
          rintro a _ w ⟨z1, rfl, hz1, hS⟩ hF
          have hO := hO.call0 hS
          have hO : St _ _ _ [_, _, _, _, _] := hO
          refine wd_un hF rfl rfl rfl rfl (isB_T he) ?_
          refine wd_r hF rfl rfl rfl (fun w ⟨_, hO⟩ => q_loadAgg Try.isAgg33 Try.sizeOf33 rfl (hF.eval rfl) (hO.cells 1 rfl) rfl) fun a hF => ?_
          refine wd_un hF rfl rfl rfl rfl (isB_T he) ?_
          refine wd_p hF rfl rfl rfl (fun w => q_move rfl (hF.eval rfl)) fun a hF => ?_
          refine wd_un hF rfl rfl rfl rfl (isB_T he) ?_
          refine wd_e hF rfl rfl rfl (c_call hF rfl rfl Try.call15 (apply_r _ p.2 _ l1 ((hRd p (List.mem_of_getElem? hp)).2.at0 hO) (hO.rdT 3 rfl) (hO.rdSb 4 rfl) (hFt p (List.mem_of_getElem? hp)).2 (fun s hs => (hSo.fit hwp (SbN.er s) (List.mem_map_of_mem hs)).1) hll)) (fun _ _ ⟨_, _, _, hS⟩ => ⟨_, ((hO.call0 hS).pull 3 rfl).pull 3 rfl⟩) ?_
          rintro a _ w ⟨z2, rfl, hz2, hS⟩ hF
          have hO := hO.call0 hS
          have hO : St _ _ _ [_, _, _, _, _, _] := hO
          refine wd_un hF rfl rfl rfl rfl (isB_T he) ?_
          refine wd_f hF rfl rfl rfl (c_call hF rfl rfl Try.call19 (same_r z1 z2 _ (hO.rdN 1 rfl) (hO.rdN 0 rfl))) ?_
          rintro a _ w ⟨rfl, hS⟩ hF
          have hO := hO.call0 hS
          have hO : St _ _ _ [_, _, _, _, _, _] := hO
          obtain ⟨r, hr, he1, he2⟩ := pair_at hps hp
          obtain ⟨⟨ro1, _⟩, ro2, _⟩ := hSo.rt r (List.mem_of_getElem? hr)
          have hs1 : sameF z1.er z2.er = true := same_iff.2 (by rw [hz1, hz2, he1, he2, hSo.app ro1, hSo.app ro2, hSo.eqs (List.mem_of_getElem? hr)])
          refine wd_un hF rfl rfl rfl rfl (isB_T he) ?_
          refine wd_p hF rfl rfl rfl (fun w => q_not rfl (hF.eval rfl) (dec_b _)) fun a hF => ?_
          refine wd_p hF rfl rfl rfl (fun w => q_and rfl (hF.eval rfl) rfl (fun hg2 => (hF.eval rfl)) rfl) fun a hF => ?_
          refine wd_nil ?_
          refine k_n ?_
          refine wp_ifD hF rfl rfl (fun hc4 => ?_) (fun hc4 => ?_)
          · skip
            exact absurd hs1 hc4.2
          · skip
            refine wp_skip ?_
            refine k_n ?_
            have hO := hO.pull 3 rfl
            have hO := hO.pull 3 rfl
            have hO := hO.drew
            refine wp_region_D [0, 0, 1, 0, 2, 1, 0, 2, 3, 0, 0] (fun w => ∃ L', St w0 [] w (.ob bx 33 (tnE.cells p.1) :: .ob by_ 33 (tnE.cells p.2) :: L')) Try_mixed (by kernel_rfl) ⟨_, hO⟩ ?_
            cases sv
            · skip
              refine wd_p hF rfl rfl rfl (fun w => q_move rfl (hF.eval rfl)) fun a hF => ?_
              refine wd_p hF rfl rfl rfl (fun w => q_move rfl (hF.eval rfl)) fun a hF => ?_
              refine wd_sk hF rfl rfl rfl rfl (rfl) rfl rfl fun a hF => ?_
              refine wd_sk hF rfl rfl rfl rfl (rfl) rfl rfl fun a hF => ?_
              refine wd_sk hF rfl rfl rfl rfl (rfl) rfl rfl fun a hF => ?_
              refine wd_sk hF rfl rfl rfl rfl (rfl) rfl rfl fun a hF => ?_
              refine wd_sk hF rfl rfl rfl rfl (rfl) rfl rfl fun a hF => ?_
              refine wd_sk hF rfl rfl rfl rfl (rfl) rfl rfl fun a hF => ?_
              refine wd_sk hF rfl rfl rfl rfl (rfl) rfl rfl fun a hF => ?_
              refine wd_p hF rfl rfl rfl (fun w => q_pickF rfl (hF.eval rfl) rfl) fun a hF => ?_
              refine wd_p hF rfl rfl rfl (fun w => q_assign rfl (hF.eval rfl)) fun a hF => ?_
              refine wd_nil ?_
              refine b_n ?_
              refine k_n ?_
              refine wp_region_lit ?_
              refine wl_v hF rfl rfl rfl (q_move rfl (hF.eval rfl)) fun a hF => ?_
              refine wl_v hF rfl rfl rfl (q_add rfl (hF.eval rfl) (hF.eval rfl) (by omega)) fun a hF => ?_
              refine wl_v hF rfl rfl rfl (q_assign rfl (hF.eval rfl)) fun a hF => ?_
              refine wl_nil ?_
              refine k_n ?_
              have hO := hO.drop1 0
              have hO := hO.drop1 0
              have hO := hO.drop1 0
              have hO := hO.drop1 0
              have hO : St _ _ _ [_, _] := hO
              exact ⟨(i + 1, false), ⟨⟨by omega, fun h => (by cases h)⟩, hO, hF.sub ⟨rfl, rfl, rfl, rfl, rfl, rfl, trivial⟩⟩, by dsimp only; omega⟩
            · skip
              refine wd_p hF rfl rfl rfl (fun w => q_move rfl (hF.eval rfl)) fun a hF => ?_
              refine wd_p hF rfl rfl rfl (fun w => q_move rfl (hF.eval rfl)) fun a hF => ?_
              refine wd_un hF rfl rfl rfl rfl (rfl) ?_
              refine wd_r hF rfl rfl rfl (fun w ⟨_, hO⟩ => q_loadAgg Try.isAgg33 Try.sizeOf33 rfl (hF.eval rfl) (hO.cells 0 rfl) rfl) fun a hF => ?_
              refine wd_un hF rfl rfl rfl rfl (rfl) ?_
              refine wd_p hF rfl rfl rfl (fun w => q_move rfl (hF.eval rfl)) fun a hF => ?_
              refine wd_un hF rfl rfl rfl rfl (rfl) ?_
              refine wd_e hF rfl rfl rfl (c_call hF rfl rfl Try.call15 (apply_r _ p.1 _ ss ((hRd p (List.mem_of_getElem? hp)).1.at0 hO) (hSs.at0 hO) (fun s hs => (hSn s hs).at0 hO) (hFt p (List.mem_of_getElem? hp)).1 (fun s hs => ⟨Nat.le_trans (hws s hs).1 (by decide), Nat.le_trans (hws s hs).2 (by decide)⟩) (by omega))) (fun _ _ ⟨_, _, _, hS⟩ => ⟨_, ((hO.call0 hS).pull 2 rfl).pull 2 rfl⟩) ?_
              rintro a _ w ⟨z3, rfl, hz3, hS⟩ hF
              have hO := hO.call0 hS
              have hO : St _ _ _ [_, _, _, _, _, _, _] := hO
              refine wd_un hF rfl rfl rfl rfl (rfl) ?_
              refine wd_r hF rfl rfl rfl (fun w ⟨_, hO⟩ => q_loadAgg Try.isAgg33 Try.sizeOf33 rfl (hF.eval rfl) (hO.cells 1 rfl) rfl) fun a hF => ?_
              refine wd_un hF rfl rfl rfl rfl (rfl) ?_
              refine wd_p hF rfl rfl rfl (fun w => q_move rfl (hF.eval rfl)) fun a hF => ?_
              refine wd_un hF rfl rfl rfl rfl (rfl) ?_
              refine wd_e hF rfl rfl rfl (c_call hF rfl rfl Try.call15 (apply_r _ p.2 _ ss ((hRd p (List.mem_of_getElem? hp)).2.at0 hO) (hSs.at0 hO) (fun s hs => (hSn s hs).at0 hO) (hFt p (List.mem_of_getElem? hp)).2 (fun s hs => ⟨Nat.le_trans (hws s hs).1 (by decide), Nat.le_trans (hws s hs).2 (by decide)⟩) (by omega))) (fun _ _ ⟨_, _, _, hS⟩ => ⟨_, ((hO.call0 hS).pull 3 rfl).pull 3 rfl⟩) ?_
              rintro a _ w ⟨z4, rfl, hz4, hS⟩ hF
              have hO := hO.call0 hS
              have hO : St _ _ _ [_, _, _, _, _, _, _, _] := hO
              refine wd_un hF rfl rfl rfl rfl (rfl) ?_
              refine wd_f hF rfl rfl rfl (c_call hF rfl rfl Try.call19 (same_r z3 z4 _ (hO.rdN 1 rfl) (hO.rdN 0 rfl))) ?_
              rintro a _ w ⟨rfl, hS⟩ hF
              have hO := hO.call0 hS
              have hO : St _ _ _ [_, _, _, _, _, _, _, _] := hO
              refine wd_p hF rfl rfl rfl (fun w => q_pickT rfl (hF.eval rfl) (hF.eval rfl)) fun a hF => ?_
              refine wd_p hF rfl rfl rfl (fun w => q_assign rfl (hF.eval rfl)) fun a hF => ?_
              refine wd_nil ?_
              refine b_n ?_
              refine k_n ?_
              refine wp_region_lit ?_
              refine wl_v hF rfl rfl rfl (q_move rfl (hF.eval rfl)) fun a hF => ?_
              refine wl_v hF rfl rfl rfl (q_add rfl (hF.eval rfl) (hF.eval rfl) (by omega)) fun a hF => ?_
              refine wl_v hF rfl rfl rfl (q_assign rfl (hF.eval rfl)) fun a hF => ?_
              refine wl_nil ?_
              refine k_n ?_
              have hO := hO.drop1 0
              have hO := hO.drop1 0
              have hO := hO.drop1 0
              have hO := hO.drop1 0
              have hO := hO.drop1 0
              have hO := hO.drop1 0
              have hO : St _ _ _ [_, _] := hO
              exact ⟨(i + 1, sameF z3.er z4.er), ⟨⟨by omega, fun h => ⟨(hsv rfl).1, fun q hq => by rw [takeAt9 hp] at hq; rcases List.mem_append.1 hq with hq | hq; exact (hsv rfl).2 q hq; rw [List.mem_singleton.1 hq, ← hz3, ← hz4]; exact same_iff.1 h⟩⟩, hO, hF.sub ⟨rfl, rfl, rfl, rfl, rfl, rfl, trivial⟩⟩, by dsimp only; omega⟩
        · skip
          refine wd_p hF rfl rfl rfl (fun w => q_move rfl (hF.eval rfl)) fun a hF => ?_
          refine wd_p hF rfl rfl rfl (fun w => q_eq rfl (hF.eval rfl) (hF.eval rfl)) fun a hF => ?_
          refine wd_p hF rfl rfl rfl (fun w => q_move rfl (hF.eval rfl)) fun a hF => ?_
          refine wd_sk hF rfl rfl rfl rfl (isN_F he) rfl rfl fun a hF => ?_
          refine wd_sk hF rfl rfl rfl rfl (isN_F he) rfl rfl fun a hF => ?_
          refine wd_sk hF rfl rfl rfl rfl (isN_F he) rfl rfl fun a hF => ?_
          refine wd_sk hF rfl rfl rfl rfl (isN_F he) rfl rfl fun a hF => ?_
          refine wd_sk hF rfl rfl rfl rfl (isN_F he) rfl rfl fun a hF => ?_
          refine wd_sk hF rfl rfl rfl rfl (isN_F he) rfl rfl fun a hF => ?_
          refine wd_sk hF rfl rfl rfl rfl (isN_F he) rfl rfl fun a hF => ?_
          refine wd_sk hF rfl rfl rfl rfl (isN_F he) rfl rfl fun a hF => ?_
          refine wd_p hF rfl rfl rfl (fun w => q_pickF rfl ((hF.eval rfl).trans (congrArg Value.bool (decide_eq_false he))) rfl) fun a hF => ?_
          refine wd_nil ?_
          refine k_n ?_
          refine wp_ifD hF rfl (dec_b _) (fun hc5 => ?_) (fun hc5 => ?_)
          · skip
            cases hc5
          · skip
            refine wp_skip ?_
            refine k_n ?_
            have hO := hO.pull 1 rfl
            have hO := hO.pull 1 rfl
            have hO := hO.drew
            refine wp_region_D [0, 0, 1, 0, 2, 1, 0, 2, 3, 0, 0] (fun w => ∃ L', St w0 [] w (.ob bx 33 (tnE.cells p.1) :: .ob by_ 33 (tnE.cells p.2) :: L')) Try_mixed (by kernel_rfl) ⟨_, hO⟩ ?_
            cases sv
            · skip
              refine wd_p hF rfl rfl rfl (fun w => q_move rfl (hF.eval rfl)) fun a hF => ?_
              refine wd_p hF rfl rfl rfl (fun w => q_move rfl (hF.eval rfl)) fun a hF => ?_
              refine wd_sk hF rfl rfl rfl rfl (rfl) rfl rfl fun a hF => ?_
              refine wd_sk hF rfl rfl rfl rfl (rfl) rfl rfl fun a hF => ?_
              refine wd_sk hF rfl rfl rfl rfl (rfl) rfl rfl fun a hF => ?_
              refine wd_sk hF rfl rfl rfl rfl (rfl) rfl rfl fun a hF => ?_
              refine wd_sk hF rfl rfl rfl rfl (rfl) rfl rfl fun a hF => ?_
              refine wd_sk hF rfl rfl rfl rfl (rfl) rfl rfl fun a hF => ?_
              refine wd_sk hF rfl rfl rfl rfl (rfl) rfl rfl fun a hF => ?_
              refine wd_p hF rfl rfl rfl (fun w => q_pickF rfl (hF.eval rfl) rfl) fun a hF => ?_
              refine wd_p hF rfl rfl rfl (fun w => q_assign rfl (hF.eval rfl)) fun a hF => ?_
              refine wd_nil ?_
              refine b_n ?_
              refine k_n ?_
              refine wp_region_lit ?_
              refine wl_v hF rfl rfl rfl (q_move rfl (hF.eval rfl)) fun a hF => ?_
              refine wl_v hF rfl rfl rfl (q_add rfl (hF.eval rfl) (hF.eval rfl) (by omega)) fun a hF => ?_
              refine wl_v hF rfl rfl rfl (q_assign rfl (hF.eval rfl)) fun a hF => ?_
              refine wl_nil ?_
              refine k_n ?_
              have hO := hO.drop1 0
              have hO := hO.drop1 0
              have hO : St _ _ _ [_, _] := hO
              exact ⟨(i + 1, false), ⟨⟨by omega, fun h => (by cases h)⟩, hO, hF.sub ⟨rfl, rfl, rfl, rfl, rfl, rfl, trivial⟩⟩, by dsimp only; omega⟩
            · skip
              refine wd_p hF rfl rfl rfl (fun w => q_move rfl (hF.eval rfl)) fun a hF => ?_
              refine wd_p hF rfl rfl rfl (fun w => q_move rfl (hF.eval rfl)) fun a hF => ?_
              refine wd_un hF rfl rfl rfl rfl (rfl) ?_
              refine wd_r hF rfl rfl rfl (fun w ⟨_, hO⟩ => q_loadAgg Try.isAgg33 Try.sizeOf33 rfl (hF.eval rfl) (hO.cells 0 rfl) rfl) fun a hF => ?_
              refine wd_un hF rfl rfl rfl rfl (rfl) ?_
              refine wd_p hF rfl rfl rfl (fun w => q_move rfl (hF.eval rfl)) fun a hF => ?_
              refine wd_un hF rfl rfl rfl rfl (rfl) ?_
              refine wd_e hF rfl rfl rfl (c_call hF rfl rfl Try.call15 (apply_r _ p.1 _ ss ((hRd p (List.mem_of_getElem? hp)).1.at0 hO) (hSs.at0 hO) (fun s hs => (hSn s hs).at0 hO) (hFt p (List.mem_of_getElem? hp)).1 (fun s hs => ⟨Nat.le_trans (hws s hs).1 (by decide), Nat.le_trans (hws s hs).2 (by decide)⟩) (by omega))) (fun _ _ ⟨_, _, _, hS⟩ => ⟨_, ((hO.call0 hS).pull 2 rfl).pull 2 rfl⟩) ?_
              rintro a _ w ⟨z3, rfl, hz3, hS⟩ hF
              have hO := hO.call0 hS
              have hO : St _ _ _ [_, _, _, _, _] := hO
              refine wd_un hF rfl rfl rfl rfl (rfl) ?_
              refine wd_r hF rfl rfl rfl (fun w ⟨_, hO⟩ => q_loadAgg Try.isAgg33 Try.sizeOf33 rfl (hF.eval rfl) (hO.cells 1 rfl) rfl) fun a hF => ?_
              refine wd_un hF rfl rfl rfl rfl (rfl) ?_
              refine wd_p hF rfl rfl rfl (fun w => q_move rfl (hF.eval rfl)) fun a hF => ?_
              refine wd_un hF rfl rfl rfl rfl (rfl) ?_
              refine wd_e hF rfl rfl rfl (c_call hF rfl rfl Try.call15 (apply_r _ p.2 _ ss ((hRd p (List.mem_of_getElem? hp)).2.at0 hO) (hSs.at0 hO) (fun s hs => (hSn s hs).at0 hO) (hFt p (List.mem_of_getElem? hp)).2 (fun s hs => ⟨Nat.le_trans (hws s hs).1 (by decide), Nat.le_trans (hws s hs).2 (by decide)⟩) (by omega))) (fun _ _ ⟨_, _, _, hS⟩ => ⟨_, ((hO.call0 hS).pull 3 rfl).pull 3 rfl⟩) ?_
              rintro a _ w ⟨z4, rfl, hz4, hS⟩ hF
              have hO := hO.call0 hS
              have hO : St _ _ _ [_, _, _, _, _, _] := hO
              refine wd_un hF rfl rfl rfl rfl (rfl) ?_
              refine wd_f hF rfl rfl rfl (c_call hF rfl rfl Try.call19 (same_r z3 z4 _ (hO.rdN 1 rfl) (hO.rdN 0 rfl))) ?_
              rintro a _ w ⟨rfl, hS⟩ hF
              have hO := hO.call0 hS
              have hO : St _ _ _ [_, _, _, _, _, _] := hO
              refine wd_p hF rfl rfl rfl (fun w => q_pickT rfl (hF.eval rfl) (hF.eval rfl)) fun a hF => ?_
              refine wd_p hF rfl rfl rfl (fun w => q_assign rfl (hF.eval rfl)) fun a hF => ?_
              refine wd_nil ?_
              refine b_n ?_
              refine k_n ?_
              refine wp_region_lit ?_
              refine wl_v hF rfl rfl rfl (q_move rfl (hF.eval rfl)) fun a hF => ?_
              refine wl_v hF rfl rfl rfl (q_add rfl (hF.eval rfl) (hF.eval rfl) (by omega)) fun a hF => ?_
              refine wl_v hF rfl rfl rfl (q_assign rfl (hF.eval rfl)) fun a hF => ?_
              refine wl_nil ?_
              refine k_n ?_
              have hO := hO.drop1 0
              have hO := hO.drop1 0
              have hO := hO.drop1 0
              have hO := hO.drop1 0
              have hO : St _ _ _ [_, _] := hO
              exact ⟨(i + 1, sameF z3.er z4.er), ⟨⟨by omega, fun h => ⟨(hsv rfl).1, fun q hq => by rw [takeAt9 hp] at hq; rcases List.mem_append.1 hq with hq | hq; exact (hsv rfl).2 q hq; rw [List.mem_singleton.1 hq, ← hz3, ← hz4]; exact same_iff.1 h⟩⟩, hO, hF.sub ⟨rfl, rfl, rfl, rfl, rfl, rfl, trivial⟩⟩, by dsimp only; omega⟩
      · skip
        refine wp_exit ?_
        refine k_x ?_
        refine k_x ?_
        refine b_x ?_
        refine k_n ?_
        refine wp_seq ?_
        refine wp_seq ?_
        refine wp_region_lit ?_
        refine wl_v hF rfl rfl rfl (q_move rfl (hF.eval rfl)) fun a hF => ?_
        refine wl_v hF rfl rfl rfl (q_not rfl (hF.eval rfl) (dec_b _)) fun a hF => ?_
        refine wl_nil ?_
        refine k_n ?_
        refine wp_ifD hF rfl rfl (fun hc6 => ?_) (fun hc6 => ?_)
        · skip
          refine wp_seq ?_
          refine wp_region_lit ?_
          refine wl_e hF rfl rfl rfl (c_call hF rfl rfl Try.call12 (awake_r _)) ?_
          rintro a _ w ⟨rfl, hS⟩ hF
          have hO := hO.call0 hS
          have hO : St _ _ _ [_, _] := hO
          refine wl_v hF rfl rfl rfl (q_assign rfl (hF.eval rfl)) fun a hF => ?_
          refine wl_nil ?_
          refine k_n ?_
          refine wp_ret ?_
          refine k_r ?_
          refine r_1 hF rfl rfl ?_
          have hO := hO.drop1 0
          have hO := hO.drop1 0
          have hO : St _ _ _ [] := hO
          exact ⟨rfl, hO⟩
        · skip
          obtain ⟨hck, heq⟩ := hsv (Classical.not_not.1 hc6)
          have heq2 : ∀ p ∈ ps, applyF p.1.er (ss.map SbN.er) = applyF p.2.er (ss.map SbN.er) := fun p hp => heq p (by rw [List.take_of_length_le (by omega)]; exact hp)
          have hr9 : ∀ q ∈ ss.map SbN.er, rightF q.2 = true := fun q hq => by obtain ⟨s, hs, rfl⟩ := List.mem_map.1 hq; exact check_right (hck s hs)
          have hs9 : ∀ p ∈ ps.map er2, applyF p.1 (ss.map SbN.er) = applyF p.2 (ss.map SbN.er) := fun p hp => by obtain ⟨q, hq, rfl⟩ := List.mem_map.1 hp; exact heq2 q hq
          refine wp_skip ?_
          refine k_n ?_
          refine wp_seq ?_
          refine wp_seq ?_
          refine wp_region_lit ?_
          refine wl_v hF rfl rfl rfl (q_move rfl (hF.eval rfl)) fun a hF => ?_
          refine wl_v hF rfl rfl rfl (q_ne rfl (hF.eval rfl) (hF.eval rfl)) fun a hF => ?_
          refine wl_nil ?_
          refine k_n ?_
          refine wp_ifD hF rfl rfl (fun hc7 => ?_) (fun hc7 => ?_)
          · skip
            have he70 : e1 = 70 := Classical.byContradiction fun h => hc1 ⟨hc7, h⟩
            rw [he70] at hU1
            exact (no_solve hU1 hr9 hs9).elim
          · skip
            obtain ⟨rs, σ, ns, hps, hSo⟩ := hyes (Classical.not_not.1 hc7)
            obtain ⟨hwp, hll⟩ := hbnd hps hSo
            have hun := hSo.under hr9 (by rw [← hps]; exact hs9)
            refine wp_skip ?_
            refine k_n ?_
            refine wp_seq ?_
            refine wp_seq ?_
            refine wp_region_lit ?_
            refine wl_v hF rfl rfl rfl (q_assign rfl (hF.eval rfl)) fun a hF => ?_
            refine wl_nil ?_
            refine k_n ?_
            refine wp_block ?_
            have hO : St _ _ _ [_, _] := hO
            refine wp_loopS (fun (s : Nat) a w' => match s with | j => (j ≤ l1.length) ∧ St w0 [] w' [slT q1.v 45 sbE l1, sbG 33 l1] ∧ Fr a 121 [(1, vs), (5, q1.v), (12, i64 j)]) (fun (s : Nat) => match s with | j => l1.length - j) 0 ⟨by omega, hO, hF.sub ⟨rfl, rfl, rfl, trivial⟩⟩ ?_
            rintro j a w ⟨hj, hO, hF⟩
            refine wp_seq ?_
            refine wp_seq ?_
            refine wp_region_lit ?_
            refine wl_v hF rfl rfl rfl (q_move rfl (hF.eval rfl)) fun a hF => ?_
            refine wl_v hF rfl rfl rfl (q_move rfl (hF.eval rfl)) fun a hF => ?_
            refine wl_v hF rfl rfl rfl (q_lenRd (hO.rd 0 rfl) Try.underlying23 rfl (hF.eval rfl)) fun a hF => ?_
            refine wl_v hF rfl rfl rfl (q_lt rfl (hF.eval rfl) (hF.eval rfl)) fun a hF => ?_
            refine wl_nil ?_
            refine k_n ?_
            refine wp_ifD hF rfl rfl (fun hc8 => ?_) (fun hc8 => ?_)
            · skip
              refine wp_skip ?_
              refine k_n ?_
              refine wp_seq ?_
              refine wp_block ?_
              refine wp_seq ?_
              have hO := hO.drew
              refine wp_region_D [0, 0, 0, 0, 1, 0, 2, 0, 0, 0, 0, 1, 2, 0, 2, 3, 0] (fun w => St _ _ w _) Try_mixed (by kernel_rfl) hO ?_
              refine wd_p hF rfl rfl rfl (fun w => q_move rfl (hF.eval rfl)) fun a hF => ?_
              refine wd_p hF rfl rfl rfl (fun w => q_move rfl (hF.eval rfl)) fun a hF => ?_
              obtain ⟨s, hs⟩ := get_ex (l := l1) (i := j) (by omega)
              refine wd_p hF rfl rfl rfl (fun w => q_at (i := j) (hO.rd 0 rfl) Try.underlying23 Try.sizeOf45 rfl (hF.eval rfl) (hF.eval rfl) (by omega)) fun a hF => ?_
              refine wd_p hF rfl rfl rfl (fun w => q_fieldAddr0 (d := 1) Try.underlying45 rfl (hF.eval rfl) rfl Try.sizeOf33 (by decide) rfl) fun a hF => ?_
              refine wd_r hF rfl rfl rfl (fun w hO => q_loadAgg Try.isAgg33 Try.sizeOf33 rfl (hF.eval rfl) (RdT.cellsK (hO.rdT 0 rfl) hs 1 3 rfl) rfl) fun a hF => ?_
              refine wd_p hF rfl rfl rfl (fun w => q_move rfl (hF.eval rfl)) fun a hF => ?_
              refine wd_e hF rfl rfl rfl (c_call hF rfl rfl Try.call15 (apply_r _ s.t _ ss (hO.rdSb 1 rfl s (List.mem_of_getElem? hs)) (hSs.at0 hO) (fun s hs => (hSn s hs).at0 hO) (hSo.fit hwp (SbN.er s) (List.mem_map_of_mem (List.mem_of_getElem? hs))).1.1 (fun s hs => ⟨Nat.le_trans (hws s hs).1 (by decide), Nat.le_trans (hws s hs).2 (by decide)⟩) (by omega))) (fun _ _ ⟨_, _, _, hS⟩ => (hO.call0 hS).tail) ?_
              rintro a _ w ⟨z1, rfl, hz1, hS⟩ hF
              have hO := hO.call0 hS
              have hO : St _ _ _ [_, _, _] := hO
              refine wd_p hF rfl rfl rfl (fun w => q_move rfl (hF.eval rfl)) fun a hF => ?_
              refine wd_p hF rfl rfl rfl (fun w => q_move rfl (hF.eval rfl)) fun a hF => ?_
              refine wd_p hF rfl rfl rfl (fun w => q_at (i := j) (hO.rd 1 rfl) Try.underlying23 Try.sizeOf45 rfl (hF.eval rfl) (hF.eval rfl) (by omega)) fun a hF => ?_
              refine wd_p hF rfl rfl rfl (fun w => q_fieldAddr0 (d := 0) Try.underlying45 rfl (hF.eval rfl) rfl Try.sizeOf9 (by decide) rfl) fun a hF => ?_
              refine wd_r hF rfl rfl rfl (fun w hO => q_load Try.isAgg9 rfl (hF.eval rfl) (RdT.cells (hO.rdT 0 rfl) hs _ _ rfl)) fun a hF => ?_
              refine wd_e hF rfl rfl rfl (c_call hF rfl rfl Try.call24 (v_r _ s.name)) (fun _ _ ⟨_, hS⟩ => (hO.call0 hS).tail) ?_
              rintro a _ w ⟨rfl, hS⟩ hF
              have hO := hO.call0 hS
              have hO : St _ _ _ [_, _, _] := hO
              refine wd_p hF rfl rfl rfl (fun w => q_move rfl (hF.eval rfl)) fun a hF => ?_
              refine wd_e hF rfl rfl rfl (c_call hF rfl rfl Try.call15 (apply_r _ (vT s.name) _ ss (rdn_l _ _ 52 s.name) (hSs.at0 hO) (fun s hs => (hSn s hs).at0 hO) (by show 1 + (s.name.length + 0) ≤ _; have h9 : s.name.length ≤ 1048576 := hSo.name hwp (SbN.er s) (List.mem_map_of_mem (List.mem_of_getElem? hs)); omega) (fun s hs => ⟨Nat.le_trans (hws s hs).1 (by decide), Nat.le_trans (hws s hs).2 (by decide)⟩) (by omega))) (fun _ _ ⟨_, _, _, hS⟩ => (hO.call0 hS).tail.tail) ?_
              rintro a _ w ⟨z2, rfl, hz2, hS⟩ hF
              have hO := hO.call0 hS
              have hO : St _ _ _ [_, _, _, _] := hO
              refine wd_f hF rfl rfl rfl (c_call hF rfl rfl Try.call19 (same_r z1 z2 _ (hO.rdN 1 rfl) (hO.rdN 0 rfl))) ?_
              rintro a _ w ⟨rfl, hS⟩ hF
              have hO := hO.call0 hS
              have hO : St _ _ _ [_, _, _, _] := hO
              have hsm : sameF z1.er z2.er = true := same_iff.2 (hz1.trans ((hun (SbN.er s) (List.mem_map_of_mem (List.mem_of_getElem? hs))).trans hz2.symm))
              refine wd_p hF rfl rfl rfl (fun w => q_not rfl (hF.eval rfl) (dec_b _)) fun a hF => ?_
              refine wd_nil ?_
              refine k_n ?_
              refine wp_ifD hF rfl rfl (fun hc9 => ?_) (fun hc9 => ?_)
              · skip
                exact absurd hsm hc9
              · skip
                refine wp_skip ?_
                refine b_n ?_
                refine k_n ?_
                refine wp_region_lit ?_
                refine wl_v hF rfl rfl rfl (q_move rfl (hF.eval rfl)) fun a hF => ?_
                refine wl_v hF rfl rfl rfl (q_add rfl (hF.eval rfl) (hF.eval rfl) (by omega)) fun a hF => ?_
                refine wl_v hF rfl rfl rfl (q_assign rfl (hF.eval rfl)) fun a hF => ?_
                refine wl_nil ?_
                refine k_n ?_
                have hO := hO.drop1 0
                have hO := hO.drop1 0
                have hO : St _ _ _ [_, _] := hO
                exact ⟨j + 1, ⟨by omega, hO, hF.sub ⟨rfl, rfl, rfl, trivial⟩⟩, by dsimp only; omega⟩
            · skip
              refine wp_exit ?_
              refine k_x ?_
              refine k_x ?_
              refine b_x ?_
              refine k_n ?_
              refine wp_seq ?_
              refine wp_region_lit ?_
              refine wl_e hF rfl rfl rfl (c_call hF rfl rfl Try.call12 (awake_r _)) ?_
              rintro a _ w ⟨rfl, hS⟩ hF
              have hO := hO.call0 hS
              have hO : St _ _ _ [_, _] := hO
              refine wl_v hF rfl rfl rfl (q_assign rfl (hF.eval rfl)) fun a hF => ?_
              refine wl_nil ?_
              refine k_n ?_
              refine wp_ret ?_
              refine r_1 hF rfl rfl ?_
              have hO := hO.drop1 0
              have hO := hO.drop1 0
              have hO : St _ _ _ [] := hO
              exact ⟨rfl, hO⟩

end Go.Proofs.Ytfkmlcgccffmnaa
