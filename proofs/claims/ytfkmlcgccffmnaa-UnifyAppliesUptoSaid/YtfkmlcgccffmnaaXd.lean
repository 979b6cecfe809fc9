/- PU17, PLAIN: pairs turned about. -/
import Derived.Test.YtfkmlcgccffmnaaXc
namespace Go.Proofs.Ytfkmlcgccffmnaa
open Go
theorem allF_mem {l r : List Ty} (h : ∀ t, t ∈ l ↔ t ∈ r) : allF l 0 = allF r 0 := by
  by_cases h1 : ∃ t ∈ l, rightF t = false
  · obtain ⟨t, ht, hr⟩ := h1
    rw [allF_arg ht hr, allF_arg ((h t).1 ht) hr]
  · have h2 : ∀ t ∈ l, rightF t = true := fun t ht => by
      cases hr : rightF t with
      | true => rfl
      | false => exact absurd ⟨t, ht, hr⟩ h1
    rw [allF_big h2, allF_big fun t ht => h2 t ((h t).2 ht)]
    have e : (∃ t ∈ l, 1000 < (nodesF t : Int)) ↔ ∃ t ∈ r, 1000 < (nodesF t : Int) := ⟨fun ⟨t, h3, h4⟩ => ⟨t, (h t).1 h3, h4⟩, fun ⟨t, h3, h4⟩ => ⟨t, (h t).2 h3, h4⟩⟩
    by_cases h3 : ∃ t ∈ l, 1000 < (nodesF t : Int)
    · rw [if_pos h3, if_pos (e.1 h3)]
    · rw [if_neg h3, if_neg fun h4 => h3 (e.2 h4)]
theorem mem_tys {t : Ty} : ∀ {ps : TPs}, t ∈ tysOf ps ↔ ∃ p ∈ ps, t = p.1 ∨ t = p.2
  | [] => by simp [tysOf]
  | q :: ps => by
    unfold tysOf
    rw [List.mem_cons, List.mem_cons, mem_tys (ps := ps)]
    constructor
    · rintro (h | h | ⟨p, hp, h⟩)
      · exact ⟨q, List.mem_cons_self .., .inl h⟩
      · exact ⟨q, List.mem_cons_self .., .inr h⟩
      · exact ⟨p, List.mem_cons_of_mem _ hp, h⟩
    · rintro ⟨p, hp, h⟩
      rcases List.mem_cons.1 hp with rfl | hp
      · exact h.elim .inl fun h => .inr (.inl h)
      · exact .inr (.inr ⟨p, hp, h⟩)
def swapP {α : Type} (p : α × α) : α × α := (p.2, p.1)
def turnP {α : Type} (ps : List (α × α)) : List (α × α) := ps.reverse.map swapP
theorem mem_turn {α : Type} {ps : List (α × α)} {p : α × α} : p ∈ turnP ps ↔ swapP p ∈ ps := by
  unfold turnP
  rw [List.mem_map]
  constructor
  · rintro ⟨q, hq, rfl⟩; exact List.mem_reverse.1 hq
  · intro h; exact ⟨swapP p, List.mem_reverse.2 h, rfl⟩
theorem turn_er (ps : List TN2) : (turnP ps).map er2 = turnP (ps.map er2) := by
  unfold turnP
  rw [List.map_map, ← List.map_reverse, List.map_map]; rfl
theorem turn_ty (rs : RPs) : tyPs (turnP rs) = turnP (tyPs rs) := by
  unfold turnP tyPs
  rw [List.map_map, ← List.map_reverse, List.map_map]; rfl
theorem UniSpec.turn {ps : TPs} {l l' : List (Nam × Ty)} {e e' : Int} (h : UniSpec ps l e) (h' : UniSpec (turnP ps) l' e') : l = l' ∧ e = e' :=
  h.uniq h' (allF_mem fun t => by
    rw [mem_tys, mem_tys]
    constructor
    · rintro ⟨p, hp, h⟩; exact ⟨swapP p, mem_turn.2 hp, h.symm⟩
    · rintro ⟨p, hp, h⟩; exact ⟨swapP p, mem_turn.1 hp, h.symm⟩) fun rs rs' h1 h2 => by
    obtain rfl : turnP rs = rs' := tyPs_inj (by rw [turn_ty, ← h1, h2])
    refine ⟨fun θ => ⟨fun hu p hp => (hu _ (mem_turn.1 hp)).symm, fun hu p hp => (hu (swapP p) (mem_turn.2 hp)).symm⟩, fun n => ?_⟩
    rw [mem_psVs, mem_psVs]
    constructor
    · rintro ⟨p, hp, h⟩; exact ⟨swapP p, mem_turn.2 hp, h.symm⟩
    · rintro ⟨p, hp, h⟩; exact ⟨swapP p, mem_turn.1 hp, h.symm⟩
theorem turn_next {ps : List TN2} {k : Nat} {p : TN2} (hk : k < ps.length) (hp : ps[ps.length - 1 - k]? = some p) : (ps.reverse.take k).map swapP ++ [swapP p] = (ps.reverse.take (k + 1)).map swapP := by
  have h : ps.reverse[k]? = some p := by rw [List.getElem?_reverse hk]; exact hp
  rw [takeAt h, List.map_append]; rfl
end Go.Proofs.Ytfkmlcgccffmnaa
namespace Go.Proofs.Ytfkmlcgccffmnaa
open Go
set_option maxRecDepth 100000
set_option linter.unusedVariables false
set_option maxHeartbeats 2000000 in
theorem turned_r (w0 : World) (vp : Value) (ps : List TN2) (hR : RdT w0 [] vp prE ps) (hRd : ∀ p ∈ ps, RdN w0 [] p.1 ∧ RdN w0 [] p.2) (hFt : ∀ p ∈ ps, Fit p.1.er ∧ Fit p.2.er) (hlen : ps.length ≤ 2097152) : Ret Try.prog 4 #[vp] w0 (fun v w' => v = .bool true ∧ St w0 [] w' []) := by
  have hO := St.init0 w0
  refine ret_of (m := 51) Try.func4 rfl Try.ntmps4 [(0, vp)] rfl ⟨rfl, trivial⟩ fun a hF => ?_
  refine wp_seq ?_
  refine wp_region_lit ?_
  refine wl_v hF rfl rfl rfl (q_assign rfl (hF.eval rfl)) fun a hF => ?_
  refine wl_nil ?_
  refine k_n ?_
  refine wp_seq ?_
  refine wp_region_lit ?_
  refine wl_v hF rfl rfl rfl (q_move rfl (hF.eval rfl)) fun a hF => ?_
  refine wl_e hF rfl rfl rfl (c_call hF rfl rfl Try.call9 (unify_r _ _ ps (hR.at0 hO) (fun p hp => ⟨(hRd p hp).1.at0 hO, (hRd p hp).2.at0 hO⟩) hFt hlen)) ?_
  rintro a _ w ⟨q1, l1, e1, rfl, hU1, hS⟩ hF
  have hO := hO.call0 hS
  have hO : St _ _ _ [_, _] := hO
  refine wl_v hF rfl rfl rfl (q_move rfl (hF.eval rfl)) fun a hF => ?_
  refine wl_v hF rfl rfl rfl (q_extract rfl (hF.eval rfl) rfl) fun a hF => ?_
  refine wl_v hF rfl rfl rfl (q_extract rfl (hF.eval rfl) rfl) fun a hF => ?_
  refine wl_v hF rfl rfl rfl (q_assign rfl (hF.eval rfl)) fun a hF => ?_
  refine wl_v hF rfl rfl rfl (q_assign rfl (hF.eval rfl)) fun a hF => ?_
  refine wl_nil ?_
  refine k_n ?_
  refine wp_seq ?_
  refine wp_region_lit ?_
  refine wl_v hF rfl rfl rfl (q_assign rfl (hF.eval rfl)) fun a hF => ?_
  have hO := hO.nilSl 34 6
  refine wl_nil ?_
  refine k_n ?_
  refine wp_seq ?_
  refine wp_seq ?_
  refine wp_region_lit ?_
  refine wl_v hF rfl rfl rfl (q_move rfl (hF.eval rfl)) fun a hF => ?_
  refine wl_v hF rfl rfl rfl (q_lenRd hR Try.underlying22 rfl (hF.eval rfl)) fun a hF => ?_
  refine wl_v hF rfl rfl rfl (q_sub rfl (hF.eval rfl) (hF.eval rfl) (by omega)) fun a hF => ?_
  refine wl_v hF rfl rfl rfl (q_assign rfl (hF.eval rfl)) fun a hF => ?_
  refine wl_nil ?_
  refine k_n ?_
  refine wp_block ?_
  have hO : St _ _ _ [_, _, _] := hO
  refine wp_loopS (fun (s : Nat × Int × Value) a w' => match s with | (k, j, vt) => (k ≤ ps.length ∧ j = (ps.length : Int) - 1 - (k : Int)) ∧ St w0 [] w' [slT vt 34 prE ((ps.reverse.take k).map swapP), slT q1.v 45 sbE l1, sbG 33 l1] ∧ Fr a 51 [(0, vp), (3, q1.v), (4, i64 e1), (5, vt), (6, i64 j)]) (fun (s : Nat × Int × Value) => match s with | (k, j, vt) => ps.length - k) (0, (ps.length : Int) - 1, _) ⟨⟨by omega, by show (ps.length : Int) - 1 = (ps.length : Int) - 1 - ((0 : Nat) : Int); omega⟩, hO, hF.sub ⟨rfl, rfl, rfl, rfl, rfl, trivial⟩⟩ ?_
  rintro ⟨k, j, vt⟩ a w ⟨⟨hk, hj⟩, hO, hF⟩
  have htl : ((ps.reverse.take k).map swapP).length = k := by rw [List.length_map, List.length_take, List.length_reverse]; omega
  refine wp_seq ?_
  refine wp_seq ?_
  refine wp_region_lit ?_
  refine wl_v hF rfl rfl rfl (q_move rfl (hF.eval rfl)) fun a hF => ?_
  refine wl_v hF rfl rfl rfl (q_ge rfl (hF.eval rfl) (hF.eval rfl)) fun a hF => ?_
  refine wl_nil ?_
  refine k_n ?_
  refine wp_ifD hF rfl rfl (fun hc1 => ?_) (fun hc1 => ?_)
  · skip
    refine wp_skip ?_
    refine k_n ?_
    refine wp_seq ?_
    refine wp_block ?_
    have hO := hO.drew
    refine wp_region_D [0, 0, 0, 0, 0, 1, 0, 0, 0, 0, 1, 0, 2, 3, 0] (fun w => St _ _ w _) Try_mixed (by kernel_rfl) hO ?_
    refine wd_p hF rfl rfl rfl (fun w => q_move rfl (hF.eval rfl)) fun a hF => ?_
    refine wd_p hF rfl rfl rfl (fun w => q_move rfl (hF.eval rfl)) fun a hF => ?_
    refine wd_p hF rfl rfl rfl (fun w => q_move rfl (hF.eval rfl)) fun a hF => ?_
    obtain ⟨p, hp⟩ := get_ex (l := ps) (i := (ps.length - 1 - k)) (by omega)
    refine wd_p hF rfl rfl rfl (fun w => q_at (i := (ps.length - 1 - k)) hR Try.underlying22 Try.sizeOf34 rfl (hF.eval rfl) ((hF.eval rfl).trans (congrArg i64 ((by omega : j = ((ps.length - 1 - k : Nat) : Int))))) (by omega)) fun a hF => ?_
    refine wd_p hF rfl rfl rfl (fun w => q_atArr (i := 1) Try.underlying34 Try.sizeOf33 rfl (hF.eval rfl) (hF.eval rfl) (by decide)) fun a hF => ?_
    refine wd_r hF rfl rfl rfl (fun w hO => q_loadAgg Try.isAgg33 Try.sizeOf33 rfl (hF.eval rfl) (RdT.cellsK (hR.now hO) hp 3 3 rfl) rfl) fun a hF => ?_
    refine wd_p hF rfl rfl rfl (fun w => q_move rfl (hF.eval rfl)) fun a hF => ?_
    refine wd_p hF rfl rfl rfl (fun w => q_move rfl (hF.eval rfl)) fun a hF => ?_
    refine wd_p hF rfl rfl rfl (fun w => q_at (i := (ps.length - 1 - k)) hR Try.underlying22 Try.sizeOf34 rfl (hF.eval rfl) ((hF.eval rfl).trans (congrArg i64 ((by omega : j = ((ps.length - 1 - k : Nat) : Int))))) (by omega)) fun a hF => ?_
    refine wd_p hF rfl rfl rfl (fun w => q_atArr (i := 0) Try.underlying34 Try.sizeOf33 rfl (hF.eval rfl) (hF.eval rfl) (by decide)) fun a hF => ?_
    refine wd_r hF rfl rfl rfl (fun w hO => q_loadAgg Try.isAgg33 Try.sizeOf33 rfl (hF.eval rfl) (RdT.cellsK (hR.now hO) hp 0 3 rfl) rfl) fun a hF => ?_
    refine wd_p hF rfl rfl rfl (fun w => c_buildArr hF Try.underlying34 Try.zeroValue34 Try.sizeOf33 rfl rfl rfl rfl) fun a hF => ?_
    refine wd_e hF rfl rfl rfl (c_buildSlice hF hO Try.underlying22 Try.sizeOf34 Try.zeroValue34 rfl rfl rfl rfl rfl rfl rfl) (fun _ _ ⟨_, _, hO⟩ => hO.tail) ?_
    rintro a _ w ⟨b2, rfl, hO⟩ hF
    refine wd_f hF rfl rfl rfl (e_appendT (bytes := 96) (r := [swapP p]) hO (i := 1) rfl (hO.rd 0 rfl) Try.underlying22 Try_info34 rfl rfl rfl rfl rfl rfl (hF.eval rfl) (hF.eval rfl) (by show (List.length _ + 1) * 96 ≤ _; omega) (by show List.length _ + 1 ≤ _; omega)) ?_
    rintro a v34 w hO hF
    have hO : St _ _ _ [_, _, _, _] := hO
    refine wd_p hF rfl rfl rfl (fun w => q_assign rfl (hF.eval rfl)) fun a hF => ?_
    refine wd_nil ?_
    refine b_n ?_
    refine k_n ?_
    refine wp_region_lit ?_
    refine wl_v hF rfl rfl rfl (q_move rfl (hF.eval rfl)) fun a hF => ?_
    refine wl_v hF rfl rfl rfl (q_sub rfl (hF.eval rfl) (hF.eval rfl) (by omega)) fun a hF => ?_
    refine wl_v hF rfl rfl rfl (q_assign rfl (hF.eval rfl)) fun a hF => ?_
    refine wl_nil ?_
    refine k_n ?_
    have hO := hO.drop1 0
    have hO : St _ _ _ [_, _, _] := hO
    rw [turn_next (by omega) hp] at hO
    exact ⟨(k + 1, j - 1, _), ⟨⟨by omega, by omega⟩, hO, hF.sub ⟨rfl, rfl, rfl, rfl, rfl, trivial⟩⟩, by dsimp only; omega⟩
  · skip
    have hkk : ps.reverse.take k = ps.reverse := List.take_of_length_le (by rw [List.length_reverse]; omega)
    rw [hkk] at hO
    have hO : St _ _ _ (slT _ _ _ (turnP ps) :: _) := hO
    have htl2 : (turnP ps).length = ps.length := by unfold turnP; rw [List.length_map, List.length_reverse]
    refine wp_exit ?_
    refine k_x ?_
    refine k_x ?_
    refine b_x ?_
    refine k_n ?_
    refine wp_seq ?_
    refine wp_region_lit ?_
    refine wl_v hF rfl rfl rfl (q_move rfl (hF.eval rfl)) fun a hF => ?_
    refine wl_e hF rfl rfl rfl (c_call hF rfl rfl Try.call9 (unify_r _ _ (turnP ps) (hO.rdT 0 rfl) (fun p hp => ⟨(hRd _ (mem_turn.1 hp)).2.at0 hO, (hRd _ (mem_turn.1 hp)).1.at0 hO⟩) (fun p hp => (hFt _ (mem_turn.1 hp)).symm) (by omega))) ?_
    rintro a _ w ⟨q2, l2, e2, rfl, hU2, hS⟩ hF
    have hO := hO.call0 hS
    have hO : St _ _ _ [_, _, _, _, _] := hO
    rw [turn_er] at hU2
    obtain ⟨hl, rfl⟩ := UniSpec.turn hU1 hU2
    refine wl_v hF rfl rfl rfl (q_move rfl (hF.eval rfl)) fun a hF => ?_
    refine wl_v hF rfl rfl rfl (q_extract rfl (hF.eval rfl) rfl) fun a hF => ?_
    refine wl_v hF rfl rfl rfl (q_extract rfl (hF.eval rfl) rfl) fun a hF => ?_
    refine wl_v hF rfl rfl rfl (q_assign rfl (hF.eval rfl)) fun a hF => ?_
    refine wl_v hF rfl rfl rfl (q_assign rfl (hF.eval rfl)) fun a hF => ?_
    refine wl_nil ?_
    refine k_n ?_
    refine wp_seq ?_
    refine wp_region_lit ?_
    refine wl_v hF rfl rfl rfl (q_move rfl (hF.eval rfl)) fun a hF => ?_
    refine wl_v hF rfl rfl rfl (q_move rfl (hF.eval rfl)) fun a hF => ?_
    refine wl_v hF rfl rfl rfl (q_eq rfl (hF.eval rfl) (hF.eval rfl)) fun a hF => ?_
    refine wl_v hF rfl rfl rfl (q_move rfl (hF.eval rfl)) fun a hF => ?_
    refine wl_un hF rfl rfl rfl rfl (isB_T rfl) ?_
    refine wl_v hF rfl rfl rfl (q_move rfl (hF.eval rfl)) fun a hF => ?_
    refine wl_un hF rfl rfl rfl rfl (isB_T rfl) ?_
    refine wl_v hF rfl rfl rfl (q_move rfl (hF.eval rfl)) fun a hF => ?_
    refine wl_un hF rfl rfl rfl rfl (isB_T rfl) ?_
    refine wl_e hF rfl rfl rfl (c_call hF rfl rfl Try.call11 (sameSubs_r _ _ _ l1 l2 (hO.rdT 3 rfl) (hO.rdT 0 rfl) (hO.rdSb 4 rfl) (hO.rdSb 1 rfl))) ?_
    rintro a _ w ⟨rfl, hS⟩ hF
    have hO := hO.call0 hS
    have hO : St _ _ _ [_, _, _, _, _] := hO
    have hq : decide (l1.map SbN.er = l2.map SbN.er) = true := decide_eq_true hl
    refine wl_v hF rfl rfl rfl (q_and rfl (hF.eval rfl) rfl (fun hg2 => (hF.eval rfl)) (dec_b _)) fun a hF => ?_
    refine wl_v hF rfl rfl rfl (q_move rfl (hF.eval rfl)) fun a hF => ?_
    refine wl_un hF rfl rfl rfl rfl (isB_T ⟨rfl, hq⟩) ?_
    refine wl_e hF rfl rfl rfl (c_call hF rfl rfl Try.call12 (awake_r _)) ?_
    rintro a _ w ⟨rfl, hS⟩ hF
    have hO := hO.call0 hS
    have hO : St _ _ _ [_, _, _, _, _] := hO
    refine wl_v hF rfl rfl rfl (q_and rfl (hF.eval rfl) rfl (fun hg2 => (hF.eval rfl)) (dec_b _)) fun a hF => ?_
    refine wl_v hF rfl rfl rfl (q_assign rfl (hF.eval rfl)) fun a hF => ?_
    refine wl_nil ?_
    refine k_n ?_
    refine wp_ret ?_
    refine r_1 hF rfl rfl ?_
    have hO := hO.drop1 0
    have hO := hO.drop1 0
    have hO := hO.drop1 0
    have hO := hO.drop1 0
    have hO := hO.drop1 0
    have hO : St _ _ _ [] := hO
    refine ⟨congrArg Value.bool (decide_eq_true ?_), hO⟩
    exact ⟨⟨rfl, hq⟩, rfl⟩

end Go.Proofs.Ytfkmlcgccffmnaa
