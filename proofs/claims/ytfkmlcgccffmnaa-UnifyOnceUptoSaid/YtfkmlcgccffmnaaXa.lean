/- PU15, PLAIN: the answers at the types that the law tries first. -/
import Derived.Test.YtfkmlcgccffmnaaWh
namespace Go.Proofs.Ytfkmlcgccffmnaa
open Go
set_option maxRecDepth 20000
def awA : RT := .app (.var [97]) (.var [98])
def awB : RT := .app (.con [65]) (.app (.con [66]) (.var [99]))
def awS : Nam → RT := fun n => if n = [97] then .con [65] else if n = [98] then .app (.con [66]) (.var [99]) else .var n
theorem aw_canon : Canon [(awA, awB)] awS := by
  refine ⟨fun p hp => ?_, fun θ h n => ?_, fun m n h => ?_⟩
  · rw [List.mem_singleton.1 hp]; rfl
  · have h1 := h (awA, awB) (List.mem_singleton.2 rfl)
    have h1 : RT.app (θ [97]) (θ [98]) = RT.app (.con [65]) (.app (.con [66]) (θ [99])) := h1
    injection h1 with h2 h3
    unfold awS
    by_cases e1 : n = [97]
    · rw [if_pos e1, e1, h2]; rfl
    · rw [if_neg e1]
      by_cases e2 : n = [98]
      · rw [if_pos e2, e2, h3]; rfl
      · rw [if_neg e2]; rfl
  · unfold awS at h
    by_cases e1 : m = [97]
    · rw [if_pos e1] at h; cases h
    · rw [if_neg e1] at h
      by_cases e2 : m = [98]
      · rw [if_pos e2] at h; cases h
      · rw [if_neg e2] at h; cases h; exact List.le_refl _
theorem aw1 : UniSpec [(awA.ty, awB.ty)] [([97], (RT.con [65]).ty), ([98], (RT.app (.con [66]) (.var [99])).ty)] 0 := by
  refine .inr ⟨by decide, [(awA, awB)], rfl, .inr ⟨awS, [[97], [98], [99]], aw_canon, ?_, fun n => Iff.rfl, .inr ⟨?_, rfl, rfl⟩⟩⟩
  · exact ⟨fun y hy => by simp at hy; rcases hy with rfl | rfl <;> decide, fun y hy => by simp at hy; rw [hy]; decide, fun y hy => by simp at hy, trivial⟩
  · intro n hn
    simp at hn
    rcases hn with rfl | rfl | rfl <;> decide
theorem aw2 : UniSpec [((RT.var [97]).ty, (RT.app (.con [65]) (.var [97])).ty)] [] 70 := by
  refine .inr ⟨by decide, [(.var [97], .app (.con [65]) (.var [97]))], rfl, .inl ⟨fun θ h => ?_, rfl, rfl⟩⟩
  have h1 := h _ (List.mem_singleton.2 rfl)
  have h1 : θ [97] = RT.app (.con [65]) (θ [97]) := h1
  have := congrArg RT.nodes h1
  have h2 : (RT.app (.con [65]) (θ [97])).nodes = 1 + 1 + (θ [97]).nodes := rfl
  omega
theorem aw3 : MatSpec (RT.app (.var [97]) (.var [97])).ty (RT.app (.con [65]) (.con [65])).ty [([97], (RT.con [65]).ty)] 0 := by
  refine .inr ⟨by decide, _, _, rfl, rfl, .inr ⟨putG (fun _ => none) [97] (.con [65]), [[97]], rfl, ⟨fun y hy => by simp at hy, trivial⟩, fun n => ?_, rfl, rfl⟩⟩
  unfold putG
  by_cases e : n = [97]
  · simp [e]
  · simp [e]
def awR : RT := .app (.app (.con sArr) (.var [97])) (.var [98])
def awL : RT := .app (.app (.con sArr) awR) (.app (.con sLst) (.app (.con [65]) (.var [99])))
theorem aw4 : (toldN (awL.nodes + 1) awL).1 = [40, 97, 32, 45, 62, 32, 98, 41, 32, 45, 62, 32, 91, 65, 32, 99, 93] := by decide
theorem aw5 : checkF awR.ty = 0 := by decide
theorem aw6 : rightF awL.ty = true := by decide
theorem UniSpec.same {ps : TPs} {l l' : List (Nam × Ty)} {e e' : Int} (h : UniSpec ps l e) (h' : UniSpec ps l' e') : l = l' ∧ e = e' :=
  h.uniq h' rfl fun rs rs' h1 h2 => by
    obtain rfl := tyPs_inj (h1.symm.trans h2)
    exact ⟨fun _ => Iff.rfl, fun _ => Iff.rfl⟩
end Go.Proofs.Ytfkmlcgccffmnaa
namespace Go.Proofs.Ytfkmlcgccffmnaa
open Go
set_option maxRecDepth 100000
set_option linter.unusedVariables false

abbrev vT (n : Nam) : TN := .mk 52 n nilH []
abbrev cT (n : Nam) : TN := .mk 53 n nilH []
abbrev aT (b : Nat) (t u : TN) : TN := .mk 54 [] ⟨some (adr b), 2, 2⟩ [t, u]
theorem rdn_l (w : World) (M : List Nat) (k : Int) (n : Nam) : RdN w M (.mk k n nilH []) := .mk (rd_nilT w M) fun t ht => by cases ht
theorem rdn_a {w : World} {M : List Nat} {b : Nat} {t u : TN} (h : RdT w M (.slice (some (adr b)) 2 2) tnE [t, u]) (ht : RdN w M t) (hu : RdN w M u) : RdN w M (aT b t u) := .mk h fun x hx => by
  rcases List.mem_cons.1 hx with rfl | hx
  · exact ht
  · rw [List.mem_singleton.1 hx]; exact hu
theorem St.rdSb {w0 w : World} {M : List Nat} {L : List Ent} {T : Nat} {l : List SbN} (hO : St w0 M w L) (i : Nat) (hi : L[i]? = some (sbG T l)) : ∀ s ∈ l, RdN w [] s.t := fun s hs => tE_rd s.t ((hO.ok hi : (Ent.grp _).ok w) _ (List.mem_map.2 ⟨s, hs, rfl⟩))
theorem mem1 {α : Type} {P : α → Prop} {x : α} (h : P x) : ∀ y ∈ [x], P y := fun y hy => by rw [List.mem_singleton.1 hy]; exact h
theorem mem2 {α : Type} {P : α → Prop} {x z : α} (h : P x) (h2 : P z) : ∀ y ∈ [x, z], P y := fun y hy => by
  rcases List.mem_cons.1 hy with rfl | hy
  · exact h
  · rw [List.mem_singleton.1 hy]; exact h2
theorem v_r (w0 : World) (n : Nam) : Ret Try.prog 24 #[str n] w0 (fun v w' => v = .agg (tnE.cells (vT n)).toArray ∧ St w0 [] w' []) := by
  have hO := St.init0 w0
  refine ret_of (m := 5) Try.func24 rfl Try.ntmps24 [(0, str n)] rfl ⟨rfl, trivial⟩ fun a hF => ?_
  refine wp_seq ?_
  refine wp_region_lit ?_
  refine wl_e hF rfl rfl rfl (e_alloc hO Try.zeroValue33 rfl rfl) ?_
  rintro a _ w ⟨tk, rfl, hO⟩ hF
  refine wl_nil ?_
  refine k_n ?_
  refine wp_seq ?_
  refine wp_region_lit ?_
  refine wl_v hF rfl rfl rfl (q_move rfl (hF.eval rfl)) fun a hF => ?_
  refine wl_v hF rfl rfl rfl (c_build hF Try.underlying33 Try.zeroValue33 Try_places33 rfl rfl rfl rfl) fun a hF => ?_
  refine wl_s hF rfl rfl (e_storeAll hO (i := 0) rfl Try.sizeOf33 rfl (hF.eval rfl) (hF.eval rfl) rfl rfl) ?_
  rintro a _ w ⟨-, hO⟩ hF
  have hO : St _ _ _ [_] := hO
  refine wl_nil ?_
  refine k_n ?_
  refine wp_ret ?_
  refine r_c1 hF rfl rfl Try.isAgg33 Try.sizeOf33 (hO.cells 0 rfl) rfl ?_
  have hO := hO.drop1 0
  have hO : St _ _ _ [] := hO
  exact ⟨rfl, hO⟩

theorem c_r (w0 : World) (n : Nam) : Ret Try.prog 41 #[str n] w0 (fun v w' => v = .agg (tnE.cells (cT n)).toArray ∧ St w0 [] w' []) := by
  have hO := St.init0 w0
  refine ret_of (m := 5) Try.func41 rfl Try.ntmps41 [(0, str n)] rfl ⟨rfl, trivial⟩ fun a hF => ?_
  refine wp_seq ?_
  refine wp_region_lit ?_
  refine wl_e hF rfl rfl rfl (e_alloc hO Try.zeroValue33 rfl rfl) ?_
  rintro a _ w ⟨tk, rfl, hO⟩ hF
  refine wl_nil ?_
  refine k_n ?_
  refine wp_seq ?_
  refine wp_region_lit ?_
  refine wl_v hF rfl rfl rfl (q_move rfl (hF.eval rfl)) fun a hF => ?_
  refine wl_v hF rfl rfl rfl (c_build hF Try.underlying33 Try.zeroValue33 Try_places33 rfl rfl rfl rfl) fun a hF => ?_
  refine wl_s hF rfl rfl (e_storeAll hO (i := 0) rfl Try.sizeOf33 rfl (hF.eval rfl) (hF.eval rfl) rfl rfl) ?_
  rintro a _ w ⟨-, hO⟩ hF
  have hO : St _ _ _ [_] := hO
  refine wl_nil ?_
  refine k_n ?_
  refine wp_ret ?_
  refine r_c1 hF rfl rfl Try.isAgg33 Try.sizeOf33 (hO.cells 0 rfl) rfl ?_
  have hO := hO.drop1 0
  have hO : St _ _ _ [] := hO
  exact ⟨rfl, hO⟩

set_option maxHeartbeats 1000000 in
theorem app_r (w0 : World) (t u : TN) : Ret Try.prog 40 #[.agg (tnE.cells t).toArray, .agg (tnE.cells u).toArray] w0 (fun v w' => ∃ b, v = .agg (tnE.cells (aT b t u)).toArray ∧ St w0 [] w' [slT (.slice (some (adr b)) 2 2) 33 tnE [t, u]]) := by
  have hO := St.init0 w0
  refine ret_of (m := 9) Try.func40 rfl Try.ntmps40 [(0, .agg (tnE.cells t).toArray), (1, .agg (tnE.cells u).toArray)] rfl ⟨rfl, rfl, trivial⟩ fun a hF => ?_
  refine wp_seq ?_
  refine wp_region_lit ?_
  refine wl_e hF rfl rfl rfl (e_box hO rfl (hF.eval rfl) rfl) ?_
  rintro a _ w ⟨bf, rfl, hO⟩ hF
  refine wl_e hF rfl rfl rfl (e_box hO rfl (hF.eval rfl) rfl) ?_
  rintro a _ w ⟨bx, rfl, hO⟩ hF
  refine wl_e hF rfl rfl rfl (e_alloc hO Try.zeroValue33 rfl rfl) ?_
  rintro a _ w ⟨br, rfl, hO⟩ hF
  refine wl_nil ?_
  refine k_n ?_
  refine wp_seq ?_
  refine wp_region_lit ?_
  refine wl_v hF rfl rfl rfl (q_loadAgg Try.isAgg33 Try.sizeOf33 rfl (hF.eval rfl) (hO.cells 2 rfl) rfl) fun a hF => ?_
  refine wl_v hF rfl rfl rfl (q_loadAgg Try.isAgg33 Try.sizeOf33 rfl (hF.eval rfl) (hO.cells 1 rfl) rfl) fun a hF => ?_
  refine wl_e hF rfl rfl rfl (c_buildSlice hF hO Try.underlying31 Try.sizeOf33 Try.zeroValue33 rfl rfl rfl rfl rfl rfl rfl) ?_
  rintro a _ w ⟨sb, rfl, hO⟩ hF
  have hO : St _ _ _ (slT (.slice (some (adr sb)) 2 2) 33 tnE [t, u] :: [_, _, _]) := hO
  refine wl_v hF rfl rfl rfl (c_build hF Try.underlying33 Try.zeroValue33 Try_places33 rfl rfl rfl rfl) fun a hF => ?_
  refine wl_s hF rfl rfl (e_storeAll hO (i := 1) rfl Try.sizeOf33 rfl (hF.eval rfl) (hF.eval rfl) rfl rfl) ?_
  rintro a _ w ⟨-, hO⟩ hF
  have hO : St _ _ _ [_, _, _, _] := hO
  refine wl_nil ?_
  refine k_n ?_
  refine wp_ret ?_
  refine r_c1 hF rfl rfl Try.isAgg33 Try.sizeOf33 (hO.cells 1 rfl) rfl ?_
  have hO := hO.drop1 1
  have hO := hO.drop1 1
  have hO := hO.drop1 1
  have hO : St _ _ _ [_] := hO
  exact ⟨sb, rfl, hO⟩


theorem aw_text {s : Nam} (h : (rightF awL.ty = false ∧ s = []) ∨ ∃ r : RT, rightF awL.ty = true ∧ awL.ty = r.ty ∧ s = (toldN (r.nodes + 1) r).1) : s = [40, 97, 32, 45, 62, 32, 98, 41, 32, 45, 62, 32, 91, 65, 32, 99, 93] := by
  rcases h with ⟨h, _⟩ | ⟨r, _, h, rfl⟩
  · rw [aw6] at h; cases h
  · obtain rfl := RT.ty_inj h
    exact aw4
set_option maxHeartbeats 8000000 in
theorem awake_r (w0 : World) : Ret Try.prog 12 #[] w0 (fun v w' => v = .bool true ∧ St w0 [] w' []) := by
  have hO := St.init0 w0
  refine ret_of (m := 93) Try.func12 rfl Try.ntmps12 [] rfl trivial fun a hF => ?_
  refine wp_seq ?_
  refine wp_region_lit ?_
  refine wl_v hF rfl rfl rfl (q_assign rfl (hF.eval rfl)) fun a hF => ?_
  refine wl_nil ?_
  refine k_n ?_
  refine wp_seq ?_
  refine wp_region_lit ?_
  refine wl_e hF rfl rfl rfl (c_call hF rfl rfl Try.call24 (v_r _ [97])) ?_
  rintro a _ w ⟨rfl, hS⟩ hF
  have hO := hO.call0 hS
  have hO : St _ _ _ [] := hO
  refine wl_e hF rfl rfl rfl (c_call hF rfl rfl Try.call24 (v_r _ [98])) ?_
  rintro a _ w ⟨rfl, hS⟩ hF
  have hO := hO.call0 hS
  have hO : St _ _ _ [] := hO
  refine wl_e hF rfl rfl rfl (c_call hF rfl rfl Try.call40 (app_r _ (vT [97]) (vT [98]))) ?_
  rintro a _ w ⟨s1, rfl, hS⟩ hF
  have hO := hO.call0 hS
  have hO : St _ _ _ [_] := hO
  refine wl_e hF rfl rfl rfl (c_call hF rfl rfl Try.call41 (c_r _ [65])) ?_
  rintro a _ w ⟨rfl, hS⟩ hF
  have hO := hO.call0 hS
  have hO : St _ _ _ [_] := hO
  refine wl_e hF rfl rfl rfl (c_call hF rfl rfl Try.call41 (c_r _ [66])) ?_
  rintro a _ w ⟨rfl, hS⟩ hF
  have hO := hO.call0 hS
  have hO : St _ _ _ [_] := hO
  refine wl_e hF rfl rfl rfl (c_call hF rfl rfl Try.call24 (v_r _ [99])) ?_
  rintro a _ w ⟨rfl, hS⟩ hF
  have hO := hO.call0 hS
  have hO : St _ _ _ [_] := hO
  refine wl_e hF rfl rfl rfl (c_call hF rfl rfl Try.call40 (app_r _ (cT [66]) (vT [99]))) ?_
  rintro a _ w ⟨s2, rfl, hS⟩ hF
  have hO := hO.call0 hS
  have hO : St _ _ _ [_, _] := hO
  refine wl_e hF rfl rfl rfl (c_call hF rfl rfl Try.call40 (app_r _ (cT [65]) (aT s2 (cT [66]) (vT [99])))) ?_
  rintro a _ w ⟨s3, rfl, hS⟩ hF
  have hO := hO.call0 hS
  have hO : St _ _ _ [_, _, _] := hO
  refine wl_v hF rfl rfl rfl (c_buildArr hF Try.underlying34 Try.zeroValue34 Try.sizeOf33 rfl rfl rfl rfl) fun a hF => ?_
  refine wl_e hF rfl rfl rfl (c_buildSlice hF hO Try.underlying22 Try.sizeOf34 Try.zeroValue34 rfl rfl rfl rfl rfl rfl rfl) ?_
  rintro a _ w ⟨p1, rfl, hO⟩ hF
  have hO : St _ _ _ (slT (.slice (some (adr p1)) 1 1) 34 prE [((aT s1 (vT [97]) (vT [98])), (aT s3 (cT [65]) (aT s2 (cT [66]) (vT [99]))))] :: [_, _, _]) := hO
  refine wl_e hF rfl rfl rfl (c_call hF rfl rfl Try.call9 (unify_r _ _ [((aT s1 (vT [97]) (vT [98])), (aT s3 (cT [65]) (aT s2 (cT [66]) (vT [99]))))] (hO.rdT 0 rfl) (mem1 ⟨(rdn_a (hO.rdT 3 rfl) (rdn_l _ _ 52 [97]) (rdn_l _ _ 52 [98])), (rdn_a (hO.rdT 1 rfl) (rdn_l _ _ 53 [65]) (rdn_a (hO.rdT 2 rfl) (rdn_l _ _ 53 [66]) (rdn_l _ _ 52 [99])))⟩) (mem1 ⟨(show Fit awA.ty from (by unfold Fit; decide)), (show Fit awB.ty from (by unfold Fit; decide))⟩) (show 1 ≤ 2097152 from by decide))) ?_
  rintro a _ w ⟨q1, l1, e1, rfl, hU1, hS⟩ hF
  have hO := hO.call0 hS
  have hO : St _ _ _ [_, _, _, _, _, _] := hO
  obtain ⟨hl1, rfl⟩ := UniSpec.same hU1 aw1
  refine wl_v hF rfl rfl rfl (q_move rfl (hF.eval rfl)) fun a hF => ?_
  refine wl_v hF rfl rfl rfl (q_extract rfl (hF.eval rfl) rfl) fun a hF => ?_
  refine wl_v hF rfl rfl rfl (q_extract rfl (hF.eval rfl) rfl) fun a hF => ?_
  refine wl_v hF rfl rfl rfl (q_assign rfl (hF.eval rfl)) fun a hF => ?_
  refine wl_v hF rfl rfl rfl (q_assign rfl (hF.eval rfl)) fun a hF => ?_
  refine wl_nil ?_
  refine k_n ?_
  refine wp_seq ?_
  refine wp_region_lit ?_
  refine wl_e hF rfl rfl rfl (c_call hF rfl rfl Try.call24 (v_r _ [97])) ?_
  rintro a _ w ⟨rfl, hS⟩ hF
  have hO := hO.call0 hS
  have hO : St _ _ _ [_, _, _, _, _, _] := hO
  refine wl_e hF rfl rfl rfl (c_call hF rfl rfl Try.call41 (c_r _ [65])) ?_
  rintro a _ w ⟨rfl, hS⟩ hF
  have hO := hO.call0 hS
  have hO : St _ _ _ [_, _, _, _, _, _] := hO
  refine wl_e hF rfl rfl rfl (c_call hF rfl rfl Try.call24 (v_r _ [97])) ?_
  rintro a _ w ⟨rfl, hS⟩ hF
  have hO := hO.call0 hS
  have hO : St _ _ _ [_, _, _, _, _, _] := hO
  refine wl_e hF rfl rfl rfl (c_call hF rfl rfl Try.call40 (app_r _ (cT [65]) (vT [97]))) ?_
  rintro a _ w ⟨s4, rfl, hS⟩ hF
  have hO := hO.call0 hS
  have hO : St _ _ _ [_, _, _, _, _, _, _] := hO
  refine wl_v hF rfl rfl rfl (c_buildArr hF Try.underlying34 Try.zeroValue34 Try.sizeOf33 rfl rfl rfl rfl) fun a hF => ?_
  refine wl_e hF rfl rfl rfl (c_buildSlice hF hO Try.underlying22 Try.sizeOf34 Try.zeroValue34 rfl rfl rfl rfl rfl rfl rfl) ?_
  rintro a _ w ⟨p2, rfl, hO⟩ hF
  have hO : St _ _ _ (slT (.slice (some (adr p2)) 1 1) 34 prE [((vT [97]), (aT s4 (cT [65]) (vT [97])))] :: [_, _, _, _, _, _, _]) := hO
  refine wl_e hF rfl rfl rfl (c_call hF rfl rfl Try.call9 (unify_r _ _ [((vT [97]), (aT s4 (cT [65]) (vT [97])))] (hO.rdT 0 rfl) (mem1 ⟨(rdn_l _ _ 52 [97]), (rdn_a (hO.rdT 1 rfl) (rdn_l _ _ 53 [65]) (rdn_l _ _ 52 [97]))⟩) (mem1 ⟨(show Fit (RT.var [97]).ty from (by unfold Fit; decide)), (show Fit (RT.app (.con [65]) (.var [97])).ty from (by unfold Fit; decide))⟩) (show 1 ≤ 2097152 from by decide))) ?_
  rintro a _ w ⟨q2, l2, e2, rfl, hU2, hS⟩ hF
  have hO := hO.call0 hS
  have hO : St _ _ _ [_, _, _, _, _, _, _, _, _, _] := hO
  obtain ⟨hl2, rfl⟩ := UniSpec.same hU2 aw2
  refine wl_v hF rfl rfl rfl (q_move rfl (hF.eval rfl)) fun a hF => ?_
  refine wl_v hF rfl rfl rfl (q_extract rfl (hF.eval rfl) rfl) fun a hF => ?_
  refine wl_v hF rfl rfl rfl (q_extract rfl (hF.eval rfl) rfl) fun a hF => ?_
  refine wl_v hF rfl rfl rfl (q_assign rfl (hF.eval rfl)) fun a hF => ?_
  refine wl_v hF rfl rfl rfl (q_assign rfl (hF.eval rfl)) fun a hF => ?_
  refine wl_nil ?_
  refine k_n ?_
  refine wp_seq ?_
  refine wp_region_lit ?_
  refine wl_e hF rfl rfl rfl (c_call hF rfl rfl Try.call24 (v_r _ [97])) ?_
  rintro a _ w ⟨rfl, hS⟩ hF
  have hO := hO.call0 hS
  have hO : St _ _ _ [_, _, _, _, _, _, _, _, _, _] := hO
  refine wl_e hF rfl rfl rfl (c_call hF rfl rfl Try.call24 (v_r _ [97])) ?_
  rintro a _ w ⟨rfl, hS⟩ hF
  have hO := hO.call0 hS
  have hO : St _ _ _ [_, _, _, _, _, _, _, _, _, _] := hO
  refine wl_e hF rfl rfl rfl (c_call hF rfl rfl Try.call40 (app_r _ (vT [97]) (vT [97]))) ?_
  rintro a _ w ⟨s5, rfl, hS⟩ hF
  have hO := hO.call0 hS
  have hO : St _ _ _ [_, _, _, _, _, _, _, _, _, _, _] := hO
  refine wl_e hF rfl rfl rfl (c_call hF rfl rfl Try.call41 (c_r _ [65])) ?_
  rintro a _ w ⟨rfl, hS⟩ hF
  have hO := hO.call0 hS
  have hO : St _ _ _ [_, _, _, _, _, _, _, _, _, _, _] := hO
  refine wl_e hF rfl rfl rfl (c_call hF rfl rfl Try.call41 (c_r _ [65])) ?_
  rintro a _ w ⟨rfl, hS⟩ hF
  have hO := hO.call0 hS
  have hO : St _ _ _ [_, _, _, _, _, _, _, _, _, _, _] := hO
  refine wl_e hF rfl rfl rfl (c_call hF rfl rfl Try.call40 (app_r _ (cT [65]) (cT [65]))) ?_
  rintro a _ w ⟨s6, rfl, hS⟩ hF
  have hO := hO.call0 hS
  have hO : St _ _ _ [_, _, _, _, _, _, _, _, _, _, _, _] := hO
  refine wl_e hF rfl rfl rfl (c_call hF rfl rfl Try.call22 (match_r _ (aT s5 (vT [97]) (vT [97])) (aT s6 (cT [65]) (cT [65])) (rdn_a (hO.rdT 1 rfl) (rdn_l _ _ 52 [97]) (rdn_l _ _ 52 [97])) (rdn_a (hO.rdT 0 rfl) (rdn_l _ _ 53 [65]) (rdn_l _ _ 53 [65])) ⟨(show Fit (RT.app (.var [97]) (.var [97])).ty from (by unfold Fit; decide)), (show Fit (RT.app (.con [65]) (.con [65])).ty from (by unfold Fit; decide))⟩)) ?_
  rintro a _ w ⟨q3, l3, e3, rfl, hU3, hS⟩ hF
  have hO := hO.call0 hS
  have hO : St _ _ _ [_, _, _, _, _, _, _, _, _, _, _, _, _, _] := hO
  obtain ⟨hl3, rfl⟩ := MatSpec.uniq hU3 aw3
  refine wl_v hF rfl rfl rfl (q_move rfl (hF.eval rfl)) fun a hF => ?_
  refine wl_v hF rfl rfl rfl (q_extract rfl (hF.eval rfl) rfl) fun a hF => ?_
  refine wl_v hF rfl rfl rfl (q_extract rfl (hF.eval rfl) rfl) fun a hF => ?_
  refine wl_v hF rfl rfl rfl (q_assign rfl (hF.eval rfl)) fun a hF => ?_
  refine wl_v hF rfl rfl rfl (q_assign rfl (hF.eval rfl)) fun a hF => ?_
  refine wl_nil ?_
  refine k_n ?_
  refine wp_seq ?_
  refine wp_region_lit ?_
  refine wl_e hF rfl rfl rfl (c_call hF rfl rfl Try.call41 (c_r _ [80, 114, 105, 109, 46, 45, 62])) ?_
  rintro a _ w ⟨rfl, hS⟩ hF
  have hO := hO.call0 hS
  have hO : St _ _ _ [_, _, _, _, _, _, _, _, _, _, _, _, _, _] := hO
  refine wl_e hF rfl rfl rfl (c_call hF rfl rfl Try.call24 (v_r _ [97])) ?_
  rintro a _ w ⟨rfl, hS⟩ hF
  have hO := hO.call0 hS
  have hO : St _ _ _ [_, _, _, _, _, _, _, _, _, _, _, _, _, _] := hO
  refine wl_e hF rfl rfl rfl (c_call hF rfl rfl Try.call40 (app_r _ (cT [80, 114, 105, 109, 46, 45, 62]) (vT [97]))) ?_
  rintro a _ w ⟨s7, rfl, hS⟩ hF
  have hO := hO.call0 hS
  have hO : St _ _ _ [_, _, _, _, _, _, _, _, _, _, _, _, _, _, _] := hO
  refine wl_e hF rfl rfl rfl (c_call hF rfl rfl Try.call24 (v_r _ [98])) ?_
  rintro a _ w ⟨rfl, hS⟩ hF
  have hO := hO.call0 hS
  have hO : St _ _ _ [_, _, _, _, _, _, _, _, _, _, _, _, _, _, _] := hO
  refine wl_e hF rfl rfl rfl (c_call hF rfl rfl Try.call40 (app_r _ (aT s7 (cT [80, 114, 105, 109, 46, 45, 62]) (vT [97])) (vT [98]))) ?_
  rintro a _ w ⟨s8, rfl, hS⟩ hF
  have hO := hO.call0 hS
  have hO : St _ _ _ [_, _, _, _, _, _, _, _, _, _, _, _, _, _, _, _] := hO
  refine wl_e hF rfl rfl rfl (e_alloc hO Try.zeroValue33 rfl rfl) ?_
  rintro a _ w ⟨ar, rfl, hO⟩ hF
  refine wl_s hF rfl rfl (e_storeAll hO (i := 0) rfl Try.sizeOf33 rfl (hF.eval rfl) (hF.eval rfl) rfl rfl) ?_
  rintro a _ w ⟨-, hO⟩ hF
  have hO : St _ _ _ [_, _, _, _, _, _, _, _, _, _, _, _, _, _, _, _, _] := hO
  have hO := hO.drop1 5
  have hO := hO.drop1 5
  have hO := hO.drop1 5
  have hO := hO.drop1 5
  have hO := hO.drop1 5
  have hO := hO.drop1 5
  have hO := hO.drop1 7
  have hO := hO.drop1 7
  have hO := hO.drop1 7
  have hO := hO.drop1 7
  have hO := hO.pull 1 rfl
  have hO := hO.pull 2 rfl
  have hO := hO.pull 4 rfl
  have hO := hO.pull 4 rfl
  have hO := hO.pull 6 rfl
  have hO := hO.pull 6 rfl
  have hO := hO.pull 6 rfl
  have hO : St _ _ _ [_, _, _, _, _, _, _] := hO
  refine wl_nil ?_
  refine k_n ?_
  refine wp_seq ?_
  have hO := hO.drew
  refine wp_region_E [0, 0, 0, 0, 0, 0, 0, 0, 0, 0, 0, 0, 2, 0, 2, 2, 2, 0, 2, 2, 0, 0, 0, 2, 0, 2, 2, 0, 0, 2, 1, 2, 2, 2, 2, 2, 2, 2, 2, 0, 0, 0, 1, 2, 0, 0, 0] [0, 1, 3, 7, 15, 31, 63, 127, 255, 511, 1023, 2047, 2047, 6143, 6143, 22527, 55295, 120831, 260095, 524287, 1048575, 2097151, 4194303, 4194303, 12582911, 29360127, 67108863, 134217727, 268435455, 536870911, 536870911, 2147483647, 4294967295, 8589934591, 17179869183, 34359738367, 68719476735, 137438953471, 274877906943, 549755813887, 1099511627775, 2199023255551, 4398046511103, 8796093022207, 17592186044415, 35184372088831, 70368744177663] (fun w => ∃ L', St w0 [] w (.ob ar 33 (tnE.cells (aT s8 (aT s7 (cT [80, 114, 105, 109, 46, 45, 62]) (vT [97])) (vT [98]))) :: L')) Try_mixed (by kernel_rfl) ⟨_, hO⟩ ?_
  refine wd_p hF rfl rfl rfl (fun w => q_move rfl (hF.eval rfl)) fun a hF => ?_
  refine wd_p hF rfl rfl rfl (fun w => q_eq rfl (hF.eval rfl) (hF.eval rfl)) fun a hF => ?_
  refine wd_p hF rfl rfl rfl (fun w => q_move rfl (hF.eval rfl)) fun a hF => ?_
  refine wd_un hF rfl rfl rfl rfl (isB_T rfl) ?_
  refine wd_p hF rfl rfl rfl (fun w => q_move rfl (hF.eval rfl)) fun a hF => ?_
  refine wd_un hF rfl rfl rfl rfl (isB_T rfl) ?_
  refine wd_p hF rfl rfl rfl (fun w => q_eq rfl (hF.eval rfl) (hF.eval rfl)) fun a hF => ?_
  refine wd_p hF rfl rfl rfl (fun w => q_and rfl (hF.eval rfl) rfl (fun hg2 => (hF.eval rfl)) rfl) fun a hF => ?_
  refine wd_p hF rfl rfl rfl (fun w => q_move rfl (hF.eval rfl)) fun a hF => ?_
  refine wd_un hF rfl rfl rfl rfl (isB_T ⟨rfl, rfl⟩) ?_
  refine wd_p hF rfl rfl rfl (fun w => q_move rfl (hF.eval rfl)) fun a hF => ?_
  refine wd_un hF rfl rfl rfl rfl (isB_T ⟨rfl, rfl⟩) ?_
  refine wd_p hF rfl rfl rfl (fun w => q_eq rfl (hF.eval rfl) (hF.eval rfl)) fun a hF => ?_
  refine wd_p hF rfl rfl rfl (fun w => q_and rfl (hF.eval rfl) rfl (fun hg2 => (hF.eval rfl)) rfl) fun a hF => ?_
  refine wd_p hF rfl rfl rfl (fun w => q_move rfl (hF.eval rfl)) fun a hF => ?_
  refine wd_un hF rfl rfl rfl rfl (isB_T ⟨⟨rfl, rfl⟩, rfl⟩) ?_
  refine wd_p hF rfl rfl rfl (fun w => q_move rfl (hF.eval rfl)) fun a hF => ?_
  refine wd_un hF rfl rfl rfl rfl (isB_T ⟨⟨rfl, rfl⟩, rfl⟩) ?_
  refine wd_e hF rfl rfl rfl (c_call hF rfl rfl Try.call41 (c_r _ [65])) (fun _ _ ⟨_, hS⟩ => ⟨_, (hO.call0 hS).pull 0 rfl⟩) ?_
  rintro a _ w ⟨rfl, hS⟩ hF
  have hO := hO.call0 hS
  have hO : St _ _ _ [_, _, _, _, _, _, _] := hO
  refine wd_un hF rfl rfl rfl rfl (isB_T ⟨⟨rfl, rfl⟩, rfl⟩) ?_
  refine wd_p hF rfl rfl rfl (fun w => c_buildG hF Try.underlying45 Try.zeroValue45 Try_placesG45 rfl rfl rfl rfl) fun a hF => ?_
  refine wd_un hF rfl rfl rfl rfl (isB_T ⟨⟨rfl, rfl⟩, rfl⟩) ?_
  refine wd_e hF rfl rfl rfl (c_call hF rfl rfl Try.call41 (c_r _ [66])) (fun _ _ ⟨_, hS⟩ => ⟨_, (hO.call0 hS).pull 0 rfl⟩) ?_
  rintro a _ w ⟨rfl, hS⟩ hF
  have hO := hO.call0 hS
  have hO : St _ _ _ [_, _, _, _, _, _, _] := hO
  refine wd_un hF rfl rfl rfl rfl (isB_T ⟨⟨rfl, rfl⟩, rfl⟩) ?_
  refine wd_e hF rfl rfl rfl (c_call hF rfl rfl Try.call24 (v_r _ [99])) (fun _ _ ⟨_, hS⟩ => ⟨_, (hO.call0 hS).pull 0 rfl⟩) ?_
  rintro a _ w ⟨rfl, hS⟩ hF
  have hO := hO.call0 hS
  have hO : St _ _ _ [_, _, _, _, _, _, _] := hO
  refine wd_un hF rfl rfl rfl rfl (isB_T ⟨⟨rfl, rfl⟩, rfl⟩) ?_
  refine wd_e hF rfl rfl rfl (c_call hF rfl rfl Try.call40 (app_r _ (cT [66]) (vT [99]))) (fun _ _ ⟨_, _, hS⟩ => ⟨_, (hO.call0 hS).pull 1 rfl⟩) ?_
  rintro a _ w ⟨s9, rfl, hS⟩ hF
  have hO := hO.call0 hS
  have hO : St _ _ _ [_, _, _, _, _, _, _, _] := hO
  refine wd_un hF rfl rfl rfl rfl (isB_T ⟨⟨rfl, rfl⟩, rfl⟩) ?_
  refine wd_p hF rfl rfl rfl (fun w => c_buildG hF Try.underlying45 Try.zeroValue45 Try_placesG45 rfl rfl rfl rfl) fun a hF => ?_
  refine wd_un hF rfl rfl rfl rfl (isB_T ⟨⟨rfl, rfl⟩, rfl⟩) ?_
  refine wd_e hF rfl rfl rfl (c_buildSlice hF hO Try.underlying23 Try.sizeOf45 Try.zeroValue45 rfl rfl rfl rfl rfl rfl rfl) (fun _ _ ⟨_, _, hO⟩ => ⟨_, hO.pull 2 rfl⟩) ?_
  rintro a _ w ⟨x1, rfl, hO⟩ hF
  have hO : St _ _ _ (slT (.slice (some (adr x1)) 2 2) 45 sbE [⟨[97], (cT [65])⟩, ⟨[98], (aT s9 (cT [66]) (vT [99]))⟩] :: [_, _, _, _, _, _, _, _]) := hO
  refine wd_un hF rfl rfl rfl rfl (isB_T ⟨⟨rfl, rfl⟩, rfl⟩) ?_
  refine wd_e hF rfl rfl rfl (c_call hF rfl rfl Try.call11 (sameSubs_r _ _ _ l1 [⟨[97], (cT [65])⟩, ⟨[98], (aT s9 (cT [66]) (vT [99]))⟩] (hO.rdT 3 rfl) (hO.rdT 0 rfl) (hO.rdSb 4 rfl) (mem2 (rdn_l _ _ 53 [65]) (rdn_a (hO.rdT 1 rfl) (rdn_l _ _ 53 [66]) (rdn_l _ _ 52 [99]))))) (fun _ _ ⟨_, hS⟩ => ⟨_, (hO.call0 hS).pull 2 rfl⟩) ?_
  rintro a _ w ⟨rfl, hS⟩ hF
  have hO := hO.call0 hS
  have hO : St _ _ _ [_, _, _, _, _, _, _, _, _] := hO
  have hq1 : decide (l1.map SbN.er = ([⟨[97], (cT [65])⟩, ⟨[98], (aT s9 (cT [66]) (vT [99]))⟩] : List SbN).map SbN.er) = true := decide_eq_true hl1
  refine wd_p hF rfl rfl rfl (fun w => q_and rfl (hF.eval rfl) rfl (fun hg2 => (hF.eval rfl)) (dec_b _)) fun a hF => ?_
  refine wd_p hF rfl rfl rfl (fun w => q_move rfl (hF.eval rfl)) fun a hF => ?_
  refine wd_un hF rfl rfl rfl rfl (isB_T ⟨⟨⟨rfl, rfl⟩, rfl⟩, hq1⟩) ?_
  refine wd_p hF rfl rfl rfl (fun w => q_move rfl (hF.eval rfl)) fun a hF => ?_
  refine wd_un hF rfl rfl rfl rfl (isB_T ⟨⟨⟨rfl, rfl⟩, rfl⟩, hq1⟩) ?_
  refine wd_e hF rfl rfl rfl (c_call hF rfl rfl Try.call41 (c_r _ [65])) (fun _ _ ⟨_, hS⟩ => ⟨_, (hO.call0 hS).pull 2 rfl⟩) ?_
  rintro a _ w ⟨rfl, hS⟩ hF
  have hO := hO.call0 hS
  have hO : St _ _ _ [_, _, _, _, _, _, _, _, _] := hO
  refine wd_un hF rfl rfl rfl rfl (isB_T ⟨⟨⟨rfl, rfl⟩, rfl⟩, hq1⟩) ?_
  refine wd_p hF rfl rfl rfl (fun w => c_buildG hF Try.underlying45 Try.zeroValue45 Try_placesG45 rfl rfl rfl rfl) fun a hF => ?_
  refine wd_un hF rfl rfl rfl rfl (isB_T ⟨⟨⟨rfl, rfl⟩, rfl⟩, hq1⟩) ?_
  refine wd_e hF rfl rfl rfl (c_buildSlice hF hO Try.underlying23 Try.sizeOf45 Try.zeroValue45 rfl rfl rfl rfl rfl rfl rfl) (fun _ _ ⟨_, _, hO⟩ => ⟨_, hO.pull 3 rfl⟩) ?_
  rintro a _ w ⟨x2, rfl, hO⟩ hF
  have hO : St _ _ _ (slT (.slice (some (adr x2)) 1 1) 45 sbE [⟨[97], (cT [65])⟩] :: [_, _, _, _, _, _, _, _, _]) := hO
  refine wd_un hF rfl rfl rfl rfl (isB_T ⟨⟨⟨rfl, rfl⟩, rfl⟩, hq1⟩) ?_
  refine wd_e hF rfl rfl rfl (c_call hF rfl rfl Try.call11 (sameSubs_r _ _ _ l3 [⟨[97], (cT [65])⟩] (hO.rdT 6 rfl) (hO.rdT 0 rfl) (hO.rdSb 7 rfl) (mem1 (rdn_l _ _ 53 [65])))) (fun _ _ ⟨_, hS⟩ => ⟨_, (hO.call0 hS).pull 3 rfl⟩) ?_
  rintro a _ w ⟨rfl, hS⟩ hF
  have hO := hO.call0 hS
  have hO : St _ _ _ [_, _, _, _, _, _, _, _, _, _] := hO
  have hq2 : decide (l3.map SbN.er = ([⟨[97], (cT [65])⟩] : List SbN).map SbN.er) = true := decide_eq_true hl3
  refine wd_p hF rfl rfl rfl (fun w => q_and rfl (hF.eval rfl) rfl (fun hg2 => (hF.eval rfl)) (dec_b _)) fun a hF => ?_
  refine wd_p hF rfl rfl rfl (fun w => q_move rfl (hF.eval rfl)) fun a hF => ?_
  refine wd_un hF rfl rfl rfl rfl (isB_T ⟨⟨⟨⟨rfl, rfl⟩, rfl⟩, hq1⟩, hq2⟩) ?_
  refine wd_e hF rfl rfl rfl (c_call hF rfl rfl Try.call41 (c_r _ [80, 114, 105, 109, 46, 45, 62])) (fun _ _ ⟨_, hS⟩ => ⟨_, (hO.call0 hS).pull 3 rfl⟩) ?_
  rintro a _ w ⟨rfl, hS⟩ hF
  have hO := hO.call0 hS
  have hO : St _ _ _ [_, _, _, _, _, _, _, _, _, _] := hO
  refine wd_un hF rfl rfl rfl rfl (isB_T ⟨⟨⟨⟨rfl, rfl⟩, rfl⟩, hq1⟩, hq2⟩) ?_
  refine wd_r hF rfl rfl rfl (fun w ⟨_, hO⟩ => q_loadAgg Try.isAgg33 Try.sizeOf33 rfl (hF.eval rfl) (hO.cells 0 rfl) rfl) fun a hF => ?_
  refine wd_un hF rfl rfl rfl rfl (isB_T ⟨⟨⟨⟨rfl, rfl⟩, rfl⟩, hq1⟩, hq2⟩) ?_
  refine wd_e hF rfl rfl rfl (c_call hF rfl rfl Try.call40 (app_r _ (cT [80, 114, 105, 109, 46, 45, 62]) (aT s8 (aT s7 (cT [80, 114, 105, 109, 46, 45, 62]) (vT [97])) (vT [98])))) (fun _ _ ⟨_, _, hS⟩ => ⟨_, (hO.call0 hS).pull 4 rfl⟩) ?_
  rintro a _ w ⟨s10, rfl, hS⟩ hF
  have hO := hO.call0 hS
  have hO : St _ _ _ [_, _, _, _, _, _, _, _, _, _, _] := hO
  refine wd_un hF rfl rfl rfl rfl (isB_T ⟨⟨⟨⟨rfl, rfl⟩, rfl⟩, hq1⟩, hq2⟩) ?_
  refine wd_e hF rfl rfl rfl (c_call hF rfl rfl Try.call41 (c_r _ [80, 114, 105, 109, 46, 91, 93])) (fun _ _ ⟨_, hS⟩ => ⟨_, (hO.call0 hS).pull 4 rfl⟩) ?_
  rintro a _ w ⟨rfl, hS⟩ hF
  have hO := hO.call0 hS
  have hO : St _ _ _ [_, _, _, _, _, _, _, _, _, _, _] := hO
  refine wd_un hF rfl rfl rfl rfl (isB_T ⟨⟨⟨⟨rfl, rfl⟩, rfl⟩, hq1⟩, hq2⟩) ?_
  refine wd_e hF rfl rfl rfl (c_call hF rfl rfl Try.call41 (c_r _ [65])) (fun _ _ ⟨_, hS⟩ => ⟨_, (hO.call0 hS).pull 4 rfl⟩) ?_
  rintro a _ w ⟨rfl, hS⟩ hF
  have hO := hO.call0 hS
  have hO : St _ _ _ [_, _, _, _, _, _, _, _, _, _, _] := hO
  refine wd_un hF rfl rfl rfl rfl (isB_T ⟨⟨⟨⟨rfl, rfl⟩, rfl⟩, hq1⟩, hq2⟩) ?_
  refine wd_e hF rfl rfl rfl (c_call hF rfl rfl Try.call24 (v_r _ [99])) (fun _ _ ⟨_, hS⟩ => ⟨_, (hO.call0 hS).pull 4 rfl⟩) ?_
  rintro a _ w ⟨rfl, hS⟩ hF
  have hO := hO.call0 hS
  have hO : St _ _ _ [_, _, _, _, _, _, _, _, _, _, _] := hO
  refine wd_un hF rfl rfl rfl rfl (isB_T ⟨⟨⟨⟨rfl, rfl⟩, rfl⟩, hq1⟩, hq2⟩) ?_
  refine wd_e hF rfl rfl rfl (c_call hF rfl rfl Try.call40 (app_r _ (cT [65]) (vT [99]))) (fun _ _ ⟨_, _, hS⟩ => ⟨_, (hO.call0 hS).pull 5 rfl⟩) ?_
  rintro a _ w ⟨s11, rfl, hS⟩ hF
  have hO := hO.call0 hS
  have hO : St _ _ _ [_, _, _, _, _, _, _, _, _, _, _, _] := hO
  refine wd_un hF rfl rfl rfl rfl (isB_T ⟨⟨⟨⟨rfl, rfl⟩, rfl⟩, hq1⟩, hq2⟩) ?_
  refine wd_e hF rfl rfl rfl (c_call hF rfl rfl Try.call40 (app_r _ (cT [80, 114, 105, 109, 46, 91, 93]) (aT s11 (cT [65]) (vT [99])))) (fun _ _ ⟨_, _, hS⟩ => ⟨_, (hO.call0 hS).pull 6 rfl⟩) ?_
  rintro a _ w ⟨s13, rfl, hS⟩ hF
  have hO := hO.call0 hS
  have hO : St _ _ _ [_, _, _, _, _, _, _, _, _, _, _, _, _] := hO
  refine wd_un hF rfl rfl rfl rfl (isB_T ⟨⟨⟨⟨rfl, rfl⟩, rfl⟩, hq1⟩, hq2⟩) ?_
  refine wd_e hF rfl rfl rfl (c_call hF rfl rfl Try.call40 (app_r _ (aT s10 (cT [80, 114, 105, 109, 46, 45, 62]) (aT s8 (aT s7 (cT [80, 114, 105, 109, 46, 45, 62]) (vT [97])) (vT [98]))) (aT s13 (cT [80, 114, 105, 109, 46, 91, 93]) (aT s11 (cT [65]) (vT [99]))))) (fun _ _ ⟨_, _, hS⟩ => ⟨_, (hO.call0 hS).pull 7 rfl⟩) ?_
  rintro a _ w ⟨s12, rfl, hS⟩ hF
  have hO := hO.call0 hS
  have hO : St _ _ _ [_, _, _, _, _, _, _, _, _, _, _, _, _, _] := hO
  refine wd_un hF rfl rfl rfl rfl (isB_T ⟨⟨⟨⟨rfl, rfl⟩, rfl⟩, hq1⟩, hq2⟩) ?_
  refine wd_e hF rfl rfl rfl (c_call hF rfl rfl Try.call20 (text_r _ (aT s12 (aT s10 (cT [80, 114, 105, 109, 46, 45, 62]) (aT s8 (aT s7 (cT [80, 114, 105, 109, 46, 45, 62]) (vT [97])) (vT [98]))) (aT s13 (cT [80, 114, 105, 109, 46, 91, 93]) (aT s11 (cT [65]) (vT [99])))) (rdn_a (hO.rdT 0 rfl) (rdn_a (hO.rdT 3 rfl) (rdn_l _ _ 53 [80, 114, 105, 109, 46, 45, 62]) (rdn_a (hO.rdT 13 rfl) (rdn_a (hO.rdT 12 rfl) (rdn_l _ _ 53 [80, 114, 105, 109, 46, 45, 62]) (rdn_l _ _ 52 [97])) (rdn_l _ _ 52 [98]))) (rdn_a (hO.rdT 1 rfl) (rdn_l _ _ 53 [80, 114, 105, 109, 46, 91, 93]) (rdn_a (hO.rdT 2 rfl) (rdn_l _ _ 53 [65]) (rdn_l _ _ 52 [99])))) (show wtF awL.ty ≤ _ from (by decide)))) (fun _ _ ⟨_, _, _, hS⟩ => ⟨_, (hO.call0 hS).pull 7 rfl⟩) ?_
  rintro a _ w ⟨sx, rfl, hsx, hS⟩ hF
  have hO := hO.call0 hS
  have hO : St _ _ _ [_, _, _, _, _, _, _, _, _, _, _, _, _, _] := hO
  have hq3 : sx = [40, 97, 32, 45, 62, 32, 98, 41, 32, 45, 62, 32, 91, 65, 32, 99, 93] := aw_text hsx
  refine wd_un hF rfl rfl rfl rfl (isB_T ⟨⟨⟨⟨rfl, rfl⟩, rfl⟩, hq1⟩, hq2⟩) ?_
  refine wd_p hF rfl rfl rfl (fun w => q_seq rfl (hF.eval rfl) (hF.eval rfl)) fun a hF => ?_
  refine wd_p hF rfl rfl rfl (fun w => q_and rfl (hF.eval rfl) rfl (fun hg2 => (hF.eval rfl)) rfl) fun a hF => ?_
  refine wd_p hF rfl rfl rfl (fun w => q_move rfl (hF.eval rfl)) fun a hF => ?_
  refine wd_un hF rfl rfl rfl rfl (isB_T ⟨⟨⟨⟨⟨rfl, rfl⟩, rfl⟩, hq1⟩, hq2⟩, hq3⟩) ?_
  refine wd_r hF rfl rfl rfl (fun w ⟨_, hO⟩ => q_loadAgg Try.isAgg33 Try.sizeOf33 rfl (hF.eval rfl) (hO.cells 0 rfl) rfl) fun a hF => ?_
  refine wd_un hF rfl rfl rfl rfl (isB_T ⟨⟨⟨⟨⟨rfl, rfl⟩, rfl⟩, hq1⟩, hq2⟩, hq3⟩) ?_
  refine wd_e hF rfl rfl rfl (c_call hF rfl rfl Try.call17 (check_r _ (aT s8 (aT s7 (cT [80, 114, 105, 109, 46, 45, 62]) (vT [97])) (vT [98])) (rdn_a (hO.rdT 13 rfl) (rdn_a (hO.rdT 12 rfl) (rdn_l _ _ 53 [80, 114, 105, 109, 46, 45, 62]) (rdn_l _ _ 52 [97])) (rdn_l _ _ 52 [98])) (show nodesF awR.ty ≤ _ from (by decide)))) (fun _ _ ⟨_, hS⟩ => ⟨_, (hO.call0 hS).pull 7 rfl⟩) ?_
  rintro a _ w ⟨rfl, hS⟩ hF
  have hO := hO.call0 hS
  have hO : St _ _ _ [_, _, _, _, _, _, _, _, _, _, _, _, _, _] := hO
  refine wd_un hF rfl rfl rfl rfl (isB_T ⟨⟨⟨⟨⟨rfl, rfl⟩, rfl⟩, hq1⟩, hq2⟩, hq3⟩) ?_
  refine wd_p hF rfl rfl rfl (fun w => q_eq rfl (hF.eval rfl) (hF.eval rfl)) fun a hF => ?_
  refine wd_p hF rfl rfl rfl (fun w => q_and rfl (hF.eval rfl) rfl (fun hg2 => (hF.eval rfl)) rfl) fun a hF => ?_
  refine wd_p hF rfl rfl rfl (fun w => q_assign rfl (hF.eval rfl)) fun a hF => ?_
  refine wd_nil ?_
  refine k_n ?_
  refine wp_ret ?_
  refine r_1 hF rfl rfl ?_
  have hO := hO.drop1 0
  have hO := hO.drop1 0
  have hO := hO.drop1 0
  have hO := hO.drop1 0
  have hO := hO.drop1 0
  have hO := hO.drop1 0
  have hO := hO.drop1 0
  have hO := hO.drop1 0
  have hO := hO.drop1 0
  have hO := hO.drop1 0
  have hO := hO.drop1 0
  have hO := hO.drop1 0
  have hO := hO.drop1 0
  have hO := hO.drop1 0
  have hO : St _ _ _ [] := hO
  refine ⟨congrArg Value.bool (decide_eq_true ?_), hO⟩
  refine ⟨⟨⟨⟨⟨⟨rfl, rfl⟩, rfl⟩, hq1⟩, hq2⟩, hq3⟩, ?_⟩
  exact aw5

end Go.Proofs.Ytfkmlcgccffmnaa
