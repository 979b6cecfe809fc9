import Derived.Test.YtfkmlcgccffmnaaVc
import Derived.Test.YtfkmlcgccffmnaaUg
namespace Go.Proofs.Ytfkmlcgccffmnaa
open Go
set_option maxRecDepth 100000
set_option linter.unusedVariables false

def nodesR : List RT → Nat
  | [] => 0
  | r :: l => r.nodes + nodesR l
theorem nodesR_app : ∀ (a b : List RT), nodesR (a ++ b) = nodesR a + nodesR b
  | [], b => by simp [nodesR]
  | x :: a, b => by show x.nodes + nodesR (a ++ b) = x.nodes + nodesR a + nodesR b; rw [nodesR_app a b]; omega
theorem nodesR_kids (r : RT) : nodesR r.kids ≤ r.nodes := by
  cases r with
  | var m => exact Nat.zero_le _
  | con m => exact Nat.zero_le _
  | app a b => show a.nodes + (b.nodes + 0) ≤ 1 + a.nodes + b.nodes; omega
theorem nodesR_take {l : List RT} {i : Nat} {r : RT} (h : l[i]? = some r) : nodesR (l.take (i + 1)) = nodesR (l.take i) + r.nodes ∧ nodesR (l.take i) + r.nodes ≤ nodesR l := by
  have e : nodesR (l.take (i + 1)) = nodesR (l.take i) + r.nodes := by rw [takeAt h, nodesR_app]; rfl
  refine ⟨e, ?_⟩
  rw [← e]
  have := nodesR_app (l.take (i + 1)) (l.drop (i + 1))
  rw [List.take_append_drop] at this; omega
theorem er_at {l : List TN} {rl : List RT} (h : l.map TN.er = rl.map RT.ty) {i : Nat} {x : TN} (hx : l[i]? = some x) : ∃ r, rl[i]? = some r ∧ x.er = r.ty := by
  have h1 : (l.map TN.er)[i]? = some x.er := by rw [List.getElem?_map, hx]; rfl
  rw [h, List.getElem?_map] at h1
  obtain ⟨r, hr, e⟩ := Option.map_eq_some_iff.1 h1
  exact ⟨r, hr, e.symm⟩
theorem er_len {l : List TN} {rl : List RT} (h : l.map TN.er = rl.map RT.ty) : l.length = rl.length := by
  have := congrArg List.length h
  rwa [List.length_map, List.length_map] at this
theorem matchL_split {l r : List RT} {i : Nat} {a b : RT} (hl : l[i]? = some a) (hr : r[i]? = some b) (g : Sg) : matchL (l.take (i + 1)) (r.take (i + 1)) g = match matchL (l.take i) (r.take i) g with | none => none | some g1 => matchF a b g1 := by
  rw [takeAt hl, takeAt hr]
  have h1 := (List.getElem?_eq_some_iff.1 hl).1
  have h2 := (List.getElem?_eq_some_iff.1 hr).1
  exact matchL_snoc a b (by rw [List.length_take, List.length_take]; omega)
theorem matchL_cut {l r : List RT} {k : Nat} {g : Sg} (h1 : k ≤ l.length) (h2 : k ≤ r.length) (hn : matchL (l.take k) (r.take k) g = none) : matchL l r g = none := by
  have := matchL_none (l := l.take k) (r := r.take k) (by rw [List.length_take, List.length_take]; omega) (l2 := l.drop k) (r2 := r.drop k) hn
  rwa [List.take_append_drop, List.take_append_drop] at this
theorem matchL_len : ∀ {l r : List RT} (g : Sg), ¬ l.length = r.length → matchL l r g = none
  | [], [], _, h => absurd rfl h
  | [], _ :: _, _, _ => rfl
  | _ :: _, [], _, _ => rfl
  | a :: l, b :: r, g, h => by
    show (match matchF a b g with | none => none | some g1 => matchL l r g1) = none
    cases matchF a b g with
    | none => rfl
    | some g1 => exact matchL_len g1 (by simpa using h)
set_option maxHeartbeats 2000000 in
theorem eqm_r (yb fb mp : Nat) (l l' : List TN) (rl rl' : List RT) (ih : ∀ r ∈ rl, ∀ (s : RT) (t u : TN), ∀ (w0 : World) (cn : Nat) (f : Lit → Option Value) (gT : Nam → Option TN), MapT f gT → cn + r.nodes ≤ 4611686018427387904 → Owns w0 [Ent.mapE Try.prog 9 mp cn f] → Rd w0 (blks [Ent.mapE Try.prog 9 mp cn f]) (gl1 yb) 1 1 [.map (some mp)] → Rd w0 (blks [Ent.mapE Try.prog 9 mp cn f]) (gl1 fb) 1 1 [.func (.func 50) #[] #[ptr (adr yb), ptr (adr fb)]] → (∀ n z, gT n = some z → RdN w0 (blks [Ent.mapE Try.prog 9 mp cn f]) z) → RdN w0 (blks [Ent.mapE Try.prog 9 mp cn f]) t → RdN w0 (blks [Ent.mapE Try.prog 9 mp cn f]) u → t.er = r.ty → u.er = s.ty → Fit u.er → r.small → Ret Try.prog 50 #[.agg (tnE.cells t).toArray, .agg (tnE.cells u).toArray, ptr (adr yb), ptr (adr fb)] w0 (fun v w' => ∃ (cn' : Nat) (f' : Lit → Option Value) (gT' : Nam → Option TN) (ok : Bool), v = .bool ok ∧ MapT f' gT' ∧ cn' ≤ cn + r.nodes ∧ (∀ n z, gT' n = some z → gT n = some z ∨ Sbt u z) ∧ (∀ g, RelG gT g → (ok = true → ∃ g', matchF r s g = some g' ∧ RelG gT' g') ∧ (ok = false → matchF r s g = none)) ∧ St w0 (blks [Ent.mapE Try.prog 9 mp cn f]) w' [Ent.mapE Try.prog 9 mp cn' f'])) (w0 : World) (va vb : Value) (cn : Nat) (f : Lit → Option Value) (gT : Nam → Option TN) (hfT : MapT f gT) (hcn : cn + nodesR rl ≤ 4611686018427387904) (hA : Owns w0 [Ent.mapE Try.prog 9 mp cn f]) (hyb : Rd w0 (blks [Ent.mapE Try.prog 9 mp cn f]) (gl1 yb) 1 1 [.map (some mp)]) (hfb : Rd w0 (blks [Ent.mapE Try.prog 9 mp cn f]) (gl1 fb) 1 1 [.func (.func 50) #[] #[ptr (adr yb), ptr (adr fb)]]) (hgR : ∀ n z, gT n = some z → RdN w0 (blks [Ent.mapE Try.prog 9 mp cn f]) z) (hL : RdT w0 (blks [Ent.mapE Try.prog 9 mp cn f]) va tnE l) (hL' : RdT w0 (blks [Ent.mapE Try.prog 9 mp cn f]) vb tnE l') (hLn : ∀ s ∈ l, RdN w0 (blks [Ent.mapE Try.prog 9 mp cn f]) s) (hLn' : ∀ s ∈ l', RdN w0 (blks [Ent.mapE Try.prog 9 mp cn f]) s) (he : l.map TN.er = rl.map RT.ty) (he' : l'.map TN.er = rl'.map RT.ty) (hFt : ∀ u ∈ l', Fit u.er) (hsm : ∀ r ∈ rl, r.small) : Ret Try.prog 52 #[va, vb, .func (.func 50) #[] #[ptr (adr yb), ptr (adr fb)]] w0 (fun v w' => ∃ (cn' : Nat) (f' : Lit → Option Value) (gT' : Nam → Option TN) (ok : Bool), v = .bool ok ∧ MapT f' gT' ∧ cn' ≤ cn + nodesR rl ∧ (∀ n z, gT' n = some z → gT n = some z ∨ (∃ y ∈ l', Sbt y z)) ∧ (∀ g, RelG gT g → (ok = true → ∃ g', matchL rl rl' g = some g' ∧ RelG gT' g') ∧ (ok = false → matchL rl rl' g = none)) ∧ St w0 (blks [Ent.mapE Try.prog 9 mp cn f]) w' [Ent.mapE Try.prog 9 mp cn' f']) := by
  have hO := St.init hA
  have hla := RdT.lenle hL
  have hlb := RdT.lenle hL'
  have hel := er_len he
  have hel' := er_len he'
  refine ret_of (m := 32) Try.func52 rfl Try.ntmps52 [(0, va), (1, vb), (2, .func (.func 50) #[] #[ptr (adr yb), ptr (adr fb)])] rfl ⟨rfl, rfl, rfl, trivial⟩ fun a hF => ?_
  refine wp_seq ?_
  refine wp_region_lit ?_
  refine wl_v hF rfl rfl rfl (q_assign rfl (hF.eval rfl)) fun a hF => ?_
  refine wl_nil ?_
  refine k_n ?_
  refine wp_seq ?_
  refine wp_seq ?_
  refine wp_region_lit ?_
  refine wl_v hF rfl rfl rfl (q_move rfl (hF.eval rfl)) fun a hF => ?_
  refine wl_v hF rfl rfl rfl (q_lenRd hL Try.underlying31 rfl (hF.eval rfl)) fun a hF => ?_
  refine wl_v hF rfl rfl rfl (q_move rfl (hF.eval rfl)) fun a hF => ?_
  refine wl_v hF rfl rfl rfl (q_lenRd hL' Try.underlying31 rfl (hF.eval rfl)) fun a hF => ?_
  refine wl_v hF rfl rfl rfl (q_ne rfl (hF.eval rfl) (hF.eval rfl)) fun a hF => ?_
  refine wl_nil ?_
  refine k_n ?_
  refine wp_ifD hF rfl rfl (fun hc1 => ?_) (fun hc1 => ?_)
  · skip
    refine wp_seq ?_
    refine wp_region_lit ?_
    refine wl_v hF rfl rfl rfl (q_assign rfl (hF.eval rfl)) fun a hF => ?_
    refine wl_nil ?_
    refine k_n ?_
    refine wp_ret ?_
    refine k_r ?_
    refine r_1 hF rfl rfl ?_
    have hO : St _ _ _ [_] := hO
    exact ⟨cn, f, gT, false, rfl, hfT, by omega, fun n z h => .inl h, fun g hg => ⟨fun h => (by cases h), fun _ => matchL_len g (by omega)⟩, hO⟩
  · skip
    refine wp_skip ?_
    refine k_n ?_
    refine wp_seq ?_
    refine wp_seq ?_
    refine wp_region_lit ?_
    refine wl_v hF rfl rfl rfl (q_move rfl (hF.eval rfl)) fun a hF => ?_
    refine wl_v hF rfl rfl rfl (q_lenRd hL Try.underlying31 rfl (hF.eval rfl)) fun a hF => ?_
    refine wl_v hF rfl rfl rfl (q_move rfl (hF.eval rfl)) fun a hF => ?_
    refine wl_nil ?_
    refine k_n ?_
    refine wp_block ?_
    have hO : St _ _ _ [_] := hO
    refine wp_loopS (fun (s : Nat × Nat × (Lit → Option Value) × (Nam → Option TN)) a w' => match s with | (i, c1, f1, g1) => (i ≤ l.length ∧ MapT f1 g1 ∧ c1 ≤ cn + nodesR (rl.take i) ∧ (∀ n z, g1 n = some z → gT n = some z ∨ ∃ y ∈ l', Sbt y z) ∧ ∀ g, RelG gT g → ∃ g', matchL (rl.take i) (rl'.take i) g = some g' ∧ RelG g1 g') ∧ St w0 (blks [Ent.mapE Try.prog 9 mp cn f]) w' [Ent.mapE Try.prog 9 mp c1 f1] ∧ Fr a 32 [(1, vb), (2, .func (.func 50) #[] #[ptr (adr yb), ptr (adr fb)]), (15, va), (16, i64 l.length), (17, i64 i)]) (fun (s : Nat × Nat × (Lit → Option Value) × (Nam → Option TN)) => match s with | (i, c1, f1, g1) => l.length - i) (0, cn, f, gT) ⟨⟨by omega, hfT, by simp [nodesR], fun n z h => .inl h, fun g hg => ⟨g, rfl, hg⟩⟩, hO, hF.sub ⟨rfl, rfl, rfl, rfl, rfl, trivial⟩⟩ ?_
    rintro ⟨i, c1, f1, g1⟩ a w ⟨⟨hi, hf1, hc1n, hg1, hm1⟩, hO, hF⟩
    have hg1R : ∀ n z, g1 n = some z → RdN w0 [mp] z := fun n z hz => (hg1 n z hz).elim (hgR n z) fun ⟨y, hy, hs⟩ => hs.rd (hLn' y hy)
    refine wp_seq ?_
    refine wp_region_lit ?_
    refine wl_v hF rfl rfl rfl (q_lt rfl (hF.eval rfl) (hF.eval rfl)) fun a hF => ?_
    refine wl_nil ?_
    refine k_n ?_
    refine wp_seq ?_
    refine wp_ifD hF rfl rfl (fun hc2 => ?_) (fun hc2 => ?_)
    · skip
      refine wp_skip ?_
      refine k_n ?_
      refine wp_seq ?_
      refine wp_block ?_
      refine wp_seq ?_
      refine wp_region_lit ?_
      refine wl_v hF rfl rfl rfl (q_move rfl (hF.eval rfl)) fun a hF => ?_
      obtain ⟨x, hx⟩ := get_ex (l := l) (i := i) (by omega)
      refine wl_v hF rfl rfl rfl (q_at (i := i) hL Try.underlying31 Try.sizeOf33 rfl (hF.eval rfl) (hF.eval rfl) (by omega)) fun a hF => ?_
      refine wl_v hF rfl rfl rfl (q_loadAgg Try.isAgg33 Try.sizeOf33 rfl (hF.eval rfl) (RdT.cells (hL.now hO) hx) rfl) fun a hF => ?_
      refine wl_e hF rfl rfl rfl (e_alloc hO Try.zeroValue33 rfl rfl) ?_
      rintro a _ w ⟨tx, rfl, hO⟩ hF
      refine wl_v hF rfl rfl rfl (q_assign rfl (hF.eval rfl)) fun a hF => ?_
      refine wl_s hF rfl rfl (e_storeAll hO (i := 0) rfl Try.sizeOf33 rfl (hF.eval rfl) (hF.eval rfl) rfl rfl) ?_
      rintro a _ w ⟨-, hO⟩ hF
      have hO : St _ _ _ [_, _] := hO
      refine wl_nil ?_
      refine k_n ?_
      refine wp_seq ?_
      refine wp_region_lit ?_
      refine wl_v hF rfl rfl rfl (q_move rfl (hF.eval rfl)) fun a hF => ?_
      refine wl_v hF rfl rfl rfl (q_move rfl (hF.eval rfl)) fun a hF => ?_
      obtain ⟨y, hy⟩ := get_ex (l := l') (i := i) (by omega)
      refine wl_v hF rfl rfl rfl (q_at (i := i) hL' Try.underlying31 Try.sizeOf33 rfl (hF.eval rfl) (hF.eval rfl) (by omega)) fun a hF => ?_
      refine wl_v hF rfl rfl rfl (q_loadAgg Try.isAgg33 Try.sizeOf33 rfl (hF.eval rfl) (RdT.cells (hL'.now hO) hy) rfl) fun a hF => ?_
      refine wl_e hF rfl rfl rfl (e_alloc hO Try.zeroValue33 rfl rfl) ?_
      rintro a _ w ⟨ty, rfl, hO⟩ hF
      refine wl_s hF rfl rfl (e_storeAll hO (i := 0) rfl Try.sizeOf33 rfl (hF.eval rfl) (hF.eval rfl) rfl rfl) ?_
      rintro a _ w ⟨-, hO⟩ hF
      have hO : St _ _ _ [_, _, _] := hO
      refine wl_nil ?_
      refine k_n ?_
      refine wp_seq ?_
      refine wp_region_lit ?_
      refine wl_v hF rfl rfl rfl (q_move rfl (hF.eval rfl)) fun a hF => ?_
      refine wl_v hF rfl rfl rfl (q_loadAgg Try.isAgg33 Try.sizeOf33 rfl (hF.eval rfl) (hO.cells 1 rfl) rfl) fun a hF => ?_
      refine wl_v hF rfl rfl rfl (q_loadAgg Try.isAgg33 Try.sizeOf33 rfl (hF.eval rfl) (hO.cells 0 rfl) rfl) fun a hF => ?_
      have hO := hO.pull 2 rfl
      have hO : St _ _ _ [_, _, _] := hO
      obtain ⟨r, hr, hre⟩ := er_at he hx
      obtain ⟨s, hr', hse⟩ := er_at he' hy
      have hnr := nodesR_take hr
      have hO : St w0 (blks [Ent.mapE Try.prog 9 mp cn f]) _ [_, _, _] := hO
      have h1 := St.front (A := [Ent.mapE Try.prog 9 mp c1 f1]) hO
      refine wl_e hF rfl rfl rfl (c_callV hF rfl (hF.eval rfl) rfl rfl Try.call50 (ih r (List.mem_of_getElem? hr) s x y _ c1 f1 g1 hf1 (by omega) h1.owns (hyb.now h1) (hfb.now h1) (fun n z hz => RdN.now h1 (hg1R n z hz)) (RdN.now h1 (hLn x (List.mem_of_getElem? hx))) (RdN.now h1 (hLn' y (List.mem_of_getElem? hy))) hre hse (hFt y (List.mem_of_getElem? hy)) (hsm r (List.mem_of_getElem? hr)))) ?_
      rintro a _ w ⟨c2, f2, g2, ok, rfl, hf2, hc2n, hg2x, hm2, hS⟩ hF
      have hO := hO.call1 hS
      have hO : St _ _ _ [_, _, _] := hO
      refine wl_v hF rfl rfl rfl (q_not rfl (hF.eval rfl) (dec_b _)) fun a hF => ?_
      refine wl_nil ?_
      refine k_n ?_
      refine wp_ifD hF rfl rfl (fun hc3 => ?_) (fun hc3 => ?_)
      · skip
        have hok : ok = false := by simpa using hc3
        subst hok
        refine wp_seq ?_
        refine wp_region_lit ?_
        refine wl_v hF rfl rfl rfl (q_assign rfl (hF.eval rfl)) fun a hF => ?_
        refine wl_nil ?_
        refine k_n ?_
        refine wp_ret ?_
        refine b_r ?_
        refine k_r ?_
        refine k_r ?_
        refine b_r ?_
        refine k_r ?_
        refine r_1 hF rfl rfl ?_
        have hO := hO.drop1 1
        have hO := hO.drop1 1
        have hO : St _ _ _ [_] := hO
        refine ⟨c2, f2, g2, false, rfl, hf2, by omega, fun n z hz => (hg2x n z hz).elim (hg1 n z) fun h => .inr ⟨y, List.mem_of_getElem? hy, h⟩, fun g hg => ⟨fun h => (by cases h), fun _ => ?_⟩, hO⟩
        obtain ⟨g', e1, r1⟩ := hm1 g hg
        refine matchL_cut (k := i + 1) (by omega) (by omega) ?_
        rw [matchL_split hr hr', e1]
        exact (hm2 g' r1).2 rfl
      · skip
        have hok : ok = true := by simpa using hc3
        subst hok
        refine wp_skip ?_
        refine b_n ?_
        refine k_n ?_
        refine wp_region_lit ?_
        refine wl_v hF rfl rfl rfl (q_add rfl (hF.eval rfl) (hF.eval rfl) (by omega)) fun a hF => ?_
        refine wl_v hF rfl rfl rfl (q_move rfl (hF.eval rfl)) fun a hF => ?_
        refine wl_nil ?_
        refine k_n ?_
        have hO := hO.drop1 1
        have hO := hO.drop1 1
        have hO : St _ _ _ [_] := hO
        exact ⟨(i + 1, c2, f2, g2), ⟨⟨by omega, hf2, by rw [(nodesR_take hr).1]; omega, fun n z hz => (hg2x n z hz).elim (hg1 n z) fun h => .inr ⟨y, List.mem_of_getElem? hy, h⟩, fun g hg => by obtain ⟨g', e1, r1⟩ := hm1 g hg; obtain ⟨g'', e2, r2⟩ := (hm2 g' r1).1 rfl; exact ⟨g'', by rw [matchL_split hr hr', e1]; exact e2, r2⟩⟩, hO, hF.sub ⟨rfl, rfl, rfl, rfl, rfl, trivial⟩⟩, by dsimp only; omega⟩
    · skip
      refine wp_exit ?_
      refine k_x ?_
      refine k_x ?_
      refine b_x ?_
      refine k_n ?_
      refine wp_seq ?_
      refine wp_region_lit ?_
      refine wl_v hF rfl rfl rfl (q_assign rfl (hF.eval rfl)) fun a hF => ?_
      refine wl_nil ?_
      refine k_n ?_
      refine wp_ret ?_
      refine r_1 hF rfl rfl ?_
      have hO : St _ _ _ [_] := hO
      have hti : rl.take i = rl := List.take_of_length_le (by omega)
      have hti' : rl'.take i = rl' := List.take_of_length_le (by omega)
      rw [hti] at hc1n
      exact ⟨c1, f1, g1, true, rfl, hf1, hc1n, hg1, fun g hg => ⟨fun _ => by obtain ⟨g', e1, r1⟩ := hm1 g hg; rw [hti, hti'] at e1; exact ⟨g', e1, r1⟩, fun h => (by cases h)⟩, hO⟩

end Go.Proofs.Ytfkmlcgccffmnaa
namespace Go.Proofs.Ytfkmlcgccffmnaa
open Go
set_option maxRecDepth 100000
set_option linter.unusedVariables false

theorem RT.kids_small {r q : RT} (h : r.small) (hq : q ∈ r.kids) : q.small := by
  cases r with
  | var m => cases hq
  | con m => cases hq
  | app a b =>
    rcases List.mem_cons.1 hq with rfl | hq
    · exact h.1
    · rw [List.mem_singleton.1 hq]; exact h.2
set_option maxHeartbeats 4000000 in
theorem fits_i (yb fb mp : Nat) (r s : RT) (ih : ∀ r' : RT, r'.nodes < r.nodes → ∀ (s : RT) (t u : TN), ∀ (w0 : World) (cn : Nat) (f : Lit → Option Value) (gT : Nam → Option TN), MapT f gT → cn + r'.nodes ≤ 4611686018427387904 → Owns w0 [Ent.mapE Try.prog 9 mp cn f] → Rd w0 (blks [Ent.mapE Try.prog 9 mp cn f]) (gl1 yb) 1 1 [.map (some mp)] → Rd w0 (blks [Ent.mapE Try.prog 9 mp cn f]) (gl1 fb) 1 1 [.func (.func 50) #[] #[ptr (adr yb), ptr (adr fb)]] → (∀ n z, gT n = some z → RdN w0 (blks [Ent.mapE Try.prog 9 mp cn f]) z) → RdN w0 (blks [Ent.mapE Try.prog 9 mp cn f]) t → RdN w0 (blks [Ent.mapE Try.prog 9 mp cn f]) u → t.er = r'.ty → u.er = s.ty → Fit u.er → r'.small → Ret Try.prog 50 #[.agg (tnE.cells t).toArray, .agg (tnE.cells u).toArray, ptr (adr yb), ptr (adr fb)] w0 (fun v w' => ∃ (cn' : Nat) (f' : Lit → Option Value) (gT' : Nam → Option TN) (ok : Bool), v = .bool ok ∧ MapT f' gT' ∧ cn' ≤ cn + r'.nodes ∧ (∀ n z, gT' n = some z → gT n = some z ∨ Sbt u z) ∧ (∀ g, RelG gT g → (ok = true → ∃ g', matchF r' s g = some g' ∧ RelG gT' g') ∧ (ok = false → matchF r' s g = none)) ∧ St w0 (blks [Ent.mapE Try.prog 9 mp cn f]) w' [Ent.mapE Try.prog 9 mp cn' f'])) (k k' : Int) (n n' : List UInt8) (hd hd' : Hdr) (l l' : List TN) (w0 : World) (cn : Nat) (f : Lit → Option Value) (gT : Nam → Option TN) (hfT : MapT f gT) (hcn : cn + r.nodes ≤ 4611686018427387904) (hA : Owns w0 [Ent.mapE Try.prog 9 mp cn f]) (hyb : Rd w0 (blks [Ent.mapE Try.prog 9 mp cn f]) (gl1 yb) 1 1 [.map (some mp)]) (hfb : Rd w0 (blks [Ent.mapE Try.prog 9 mp cn f]) (gl1 fb) 1 1 [.func (.func 50) #[] #[ptr (adr yb), ptr (adr fb)]]) (hgR : ∀ n z, gT n = some z → RdN w0 (blks [Ent.mapE Try.prog 9 mp cn f]) z) (hR : RdN w0 (blks [Ent.mapE Try.prog 9 mp cn f]) (TN.mk k n hd l)) (hR2 : RdN w0 (blks [Ent.mapE Try.prog 9 mp cn f]) (TN.mk k' n' hd' l')) (her : (TN.mk k n hd l).er = r.ty) (her2 : (TN.mk k' n' hd' l').er = s.ty) (hFt : Fit (TN.mk k' n' hd' l').er) (hsm : r.small) : Ret Try.prog 50 #[.agg (tnE.cells (TN.mk k n hd l)).toArray, .agg (tnE.cells (TN.mk k' n' hd' l')).toArray, ptr (adr yb), ptr (adr fb)] w0 (fun v w' => ∃ (cn' : Nat) (f' : Lit → Option Value) (gT' : Nam → Option TN) (ok : Bool), v = .bool ok ∧ MapT f' gT' ∧ cn' ≤ cn + r.nodes ∧ (∀ n z, gT' n = some z → gT n = some z ∨ Sbt (TN.mk k' n' hd' l') z) ∧ (∀ g, RelG gT g → (ok = true → ∃ g', matchF r s g = some g' ∧ RelG gT' g') ∧ (ok = false → matchF r s g = none)) ∧ St w0 (blks [Ent.mapE Try.prog 9 mp cn f]) w' [Ent.mapE Try.prog 9 mp cn' f']) := by
  have hO := St.init hA
  have hpr := r.pos
  refine ret_of (m := 52) Try.func50 rfl Try.ntmps50 [(0, .agg (tnE.cells (TN.mk k n hd l)).toArray), (1, .agg (tnE.cells (TN.mk k' n' hd' l')).toArray), (2, ptr (adr yb)), (3, ptr (adr fb))] rfl ⟨rfl, rfl, rfl, rfl, trivial⟩ fun a hF => ?_
  refine wp_seq ?_
  refine wp_region_lit ?_
  refine wl_e hF rfl rfl rfl (e_box hO rfl (hF.eval rfl) rfl) ?_
  rintro a _ w ⟨tk, rfl, hO⟩ hF
  refine wl_e hF rfl rfl rfl (e_box hO rfl (hF.eval rfl) rfl) ?_
  rintro a _ w ⟨tu, rfl, hO⟩ hF
  refine wl_v hF rfl rfl rfl (q_assign rfl (hF.eval rfl)) fun a hF => ?_
  refine wl_nil ?_
  refine k_n ?_
  refine wp_seq ?_
  refine wp_seq ?_
  refine wp_region_lit ?_
  refine wl_v hF rfl rfl rfl (q_fieldAddr0 (d := 0) Try.underlying33 rfl (hF.eval rfl) rfl Try.sizeOf3 (by decide) rfl) fun a hF => ?_
  refine wl_v hF rfl rfl rfl (q_load Try.isAgg3 rfl (hF.eval rfl) (hO.cell 1 rfl rfl)) fun a hF => ?_
  refine wl_v hF rfl rfl rfl (q_eq rfl (hF.eval rfl) (hF.eval rfl)) fun a hF => ?_
  refine wl_nil ?_
  refine k_n ?_
  refine wp_ifD hF rfl rfl (fun hc1 => ?_) (fun hc1 => ?_)
  · skip
    obtain ⟨rfl, rfl⟩ := er_var her hc1
    obtain rfl : k = 52 := hc1
    have hnl : n.length ≤ 9223372036854775807 := Nat.le_trans hsm (by decide)
    refine wp_seq ?_
    refine wp_region_lit ?_
    refine wl_v hF rfl rfl rfl (q_load Try.isAgg82 rfl (hF.eval rfl) (rdB_cell0 (Rd.at0 hyb hO) rfl)) fun a hF => ?_
    refine wl_v hF rfl rfl rfl (q_fieldAddr0 (d := 1) Try.underlying33 rfl (hF.eval rfl) rfl Try.sizeOf9 (by decide) rfl) fun a hF => ?_
    refine wl_v hF rfl rfl rfl (q_load Try.isAgg9 rfl (hF.eval rfl) (hO.cell 1 rfl rfl)) fun a hF => ?_
    refine wl_v hF rfl rfl rfl (q_lookT (hO.ok (i := 2) rfl) hfT Try.underlying9 Try.underlying82 (Try.zeroValue33 _) rfl (hF.eval rfl) (hF.eval rfl) hnl) fun a hF => ?_
    refine wl_v hF rfl rfl rfl (q_move rfl (hF.eval rfl)) fun a hF => ?_
    refine wl_v hF rfl rfl rfl (q_extract rfl (hF.eval rfl) rfl) fun a hF => ?_
    refine wl_v hF rfl rfl rfl (q_extract rfl (hF.eval rfl) rfl) fun a hF => ?_
    refine wl_e hF rfl rfl rfl (e_alloc hO Try.zeroValue33 rfl rfl) ?_
    rintro a _ w ⟨ol, rfl, hO⟩ hF
    refine wl_s hF rfl rfl (e_storeAll hO (i := 0) rfl Try.sizeOf33 rfl (hF.eval rfl) (hF.eval rfl) rfl rfl) ?_
    rintro a _ w ⟨-, hO⟩ hF
    have hO : St _ _ _ [_, _, _, _] := hO
    refine wl_v hF rfl rfl rfl (q_assign rfl (hF.eval rfl)) fun a hF => ?_
    refine wl_nil ?_
    refine k_n ?_
    refine wp_seq ?_
    refine wp_seq ?_
    refine wp_region_lit ?_
    refine wl_v hF rfl rfl rfl (q_move rfl (hF.eval rfl)) fun a hF => ?_
    refine wl_v hF rfl rfl rfl (q_not rfl (hF.eval rfl) (dec_b _)) fun a hF => ?_
    refine wl_nil ?_
    refine k_n ?_
    refine wp_ifD hF rfl rfl (fun hc2 => ?_) (fun hc2 => ?_)
    · skip
      have hgn : gT n = none := Option.not_isSome_iff_eq_none.1 hc2
      refine wp_region_lit ?_
      refine wl_v hF rfl rfl rfl (q_load Try.isAgg82 rfl (hF.eval rfl) (rdB_cell0 (Rd.at0 hyb hO) rfl)) fun a hF => ?_
      refine wl_v hF rfl rfl rfl (q_fieldAddr0 (d := 1) Try.underlying33 rfl (hF.eval rfl) rfl Try.sizeOf9 (by decide) rfl) fun a hF => ?_
      refine wl_v hF rfl rfl rfl (q_load Try.isAgg9 rfl (hF.eval rfl) (hO.cell 2 rfl rfl)) fun a hF => ?_
      refine wl_v hF rfl rfl rfl (q_loadAgg Try.isAgg33 Try.sizeOf33 rfl (hF.eval rfl) (hO.cells 1 rfl) rfl) fun a hF => ?_
      refine wl_s hF rfl rfl (e_mapPut (v := tyV (TN.mk k' n' hd' l')) hO (i := 3) rfl (Go.Maps.string_keyed Try.underlying9) Try.underlying82 (by unfold Go.maxLen; omega) rfl (hF.eval rfl) (hF.eval rfl) (hF.eval rfl) (keyStr Try.underlying9 hnl)) ?_
      rintro a _ w ⟨-, hO⟩ hF
      have hO : St _ _ _ [_, _, _, _] := hO
      refine wl_nil ?_
      refine k_n ?_
      refine wp_seq ?_
      refine wp_region_lit ?_
      · skip
        refine wl_v hF rfl rfl rfl (q_move rfl (hF.eval rfl)) fun a hF => ?_
        refine wl_v hF rfl rfl rfl (q_not rfl (hF.eval rfl) (dec_b _)) fun a hF => ?_
        refine wl_v hF rfl rfl rfl (q_move rfl (hF.eval rfl)) fun a hF => ?_
        refine wl_sk hF rfl rfl rfl rfl (isN_T hc2) rfl rfl fun a hF => ?_
        refine wl_sk hF rfl rfl rfl rfl (isN_T hc2) rfl rfl fun a hF => ?_
        refine wl_sk hF rfl rfl rfl rfl (isN_T hc2) rfl rfl fun a hF => ?_
        refine wl_v hF rfl rfl rfl (q_pickT rfl ((hF.eval rfl).trans (congrArg Value.bool (decide_eq_true hc2))) rfl) fun a hF => ?_
        refine wl_v hF rfl rfl rfl (q_assign rfl (hF.eval rfl)) fun a hF => ?_
        refine wl_nil ?_
        refine k_n ?_
        refine wp_ret ?_
        refine k_r ?_
        refine r_1 hF rfl rfl ?_
        have hO := hO.drop1 0
        have hO := hO.drop1 0
        have hO := hO.drop1 0
        have hO : St _ _ _ [_] := hO
        refine ⟨cn + 1, putF f (litS n) (tyV (TN.mk k' n' hd' l')), fun m => if m = n then some (TN.mk k' n' hd' l') else gT m, true, rfl, hfT.put n (TN.mk k' n' hd' l'), by omega, fun m z hz => ?_, fun g hg => ⟨fun _ => ?_, fun h => (by cases h)⟩, hO⟩
        · have hz : (if m = n then some (TN.mk k' n' hd' l') else gT m) = some z := hz
          by_cases hm : m = n
          · rw [if_pos hm] at hz; cases hz; exact .inr (.refl _)
          · rw [if_neg hm] at hz; exact .inl hz
        · refine ⟨putG g n s, ?_, hg.put n her2⟩
          show (match g n with | none => some (putG g n s) | some w => if sameF w.ty s.ty = true then some g else none) = _
          rw [hg.none_ hgn]
    · skip
      obtain ⟨z, hgz⟩ : ∃ z, gT n = some z := Option.isSome_iff_exists.1 (Decidable.not_not.1 hc2)
      have hgt : (gT n).getD tn0 = z := by rw [hgz]; rfl
      have hO : St _ _ _ [.ob ol 33 (tnE.cells ((gT n).getD tn0)), _, _, _] := hO
      rw [hgt] at hO
      refine wp_skip ?_
      refine k_n ?_
      refine wp_seq ?_
      refine wp_region_lit ?_
      · skip
        refine wl_v hF rfl rfl rfl (q_move rfl (hF.eval rfl)) fun a hF => ?_
        refine wl_v hF rfl rfl rfl (q_not rfl (hF.eval rfl) (dec_b _)) fun a hF => ?_
        refine wl_v hF rfl rfl rfl (q_move rfl (hF.eval rfl)) fun a hF => ?_
        refine wl_un hF rfl rfl rfl rfl (isB_F hc2) ?_
        refine wl_v hF rfl rfl rfl (q_loadAgg Try.isAgg33 Try.sizeOf33 rfl (hF.eval rfl) (hO.cells 0 rfl) rfl) fun a hF => ?_
        refine wl_un hF rfl rfl rfl rfl (isB_F hc2) ?_
        refine wl_v hF rfl rfl rfl (q_loadAgg Try.isAgg33 Try.sizeOf33 rfl (hF.eval rfl) (hO.cells 1 rfl) rfl) fun a hF => ?_
        refine wl_un hF rfl rfl rfl rfl (isB_F hc2) ?_
        refine wl_e hF rfl rfl rfl (c_call hF rfl rfl Try.call51 (equal_r z (TN.mk k' n' hd' l') _ ((hgR n z hgz).at0 hO) (hR2.at0 hO))) ?_
        rintro a _ w ⟨rfl, hS⟩ hF
        have hO := hO.call0 hS
        have hO : St _ _ _ [_, _, _, _] := hO
        refine wl_v hF rfl rfl rfl (q_pickF rfl ((hF.eval rfl).trans (congrArg Value.bool (decide_eq_false hc2))) (hF.eval rfl)) fun a hF => ?_
        refine wl_v hF rfl rfl rfl (q_assign rfl (hF.eval rfl)) fun a hF => ?_
        refine wl_nil ?_
        refine k_n ?_
        refine wp_ret ?_
        refine k_r ?_
        refine r_1 hF rfl rfl ?_
        have hO := hO.drop1 0
        have hO := hO.drop1 0
        have hO := hO.drop1 0
        have hO : St _ _ _ [_] := hO
        refine ⟨cn, f, gT, _, rfl, hfT, by omega, fun m z hz => .inl hz, fun g hg => ?_, hO⟩
        obtain ⟨w, hw, hwe⟩ := hg.some_ hgz
        have hx : matchF (.var n) s g = if sameF w.ty s.ty = true then some g else none := by
          show (match g n with | none => some (putG g n s) | some w => if sameF w.ty s.ty = true then some g else none) = _
          rw [hw]
        rw [hwe, her2, hx]
        exact ⟨fun h => ⟨g, if_pos h, hg⟩, fun h => if_neg (by rw [h]; decide)⟩
  · skip
    refine wp_skip ?_
    refine k_n ?_
    refine wp_seq ?_
    refine wp_region_lit ?_
    refine wl_v hF rfl rfl rfl (q_fieldAddr0 (d := 0) Try.underlying33 rfl (hF.eval rfl) rfl Try.sizeOf3 (by decide) rfl) fun a hF => ?_
    refine wl_v hF rfl rfl rfl (q_load Try.isAgg3 rfl (hF.eval rfl) (hO.cell 1 rfl rfl)) fun a hF => ?_
    refine wl_v hF rfl rfl rfl (q_fieldAddr0 (d := 0) Try.underlying33 rfl (hF.eval rfl) rfl Try.sizeOf3 (by decide) rfl) fun a hF => ?_
    refine wl_v hF rfl rfl rfl (q_load Try.isAgg3 rfl (hF.eval rfl) (hO.cell 0 rfl rfl)) fun a hF => ?_
    refine wl_v hF rfl rfl rfl (q_eq rfl (hF.eval rfl) (hF.eval rfl)) fun a hF => ?_
    refine wl_v hF rfl rfl rfl (q_move rfl (hF.eval rfl)) fun a hF => ?_
    refine wl_g hF rfl rfl rfl rfl rfl rfl (fun hg => q_fieldAddr0 (d := 1) Try.underlying33 rfl (hF.eval rfl) rfl Try.sizeOf9 (by decide) rfl) fun a hF => ?_
    refine wl_g hF rfl rfl rfl rfl rfl rfl (fun hg => q_load Try.isAgg9 rfl ((hF.eval rfl).trans (gv_of hg)) (hO.cell 1 rfl rfl)) fun a hF => ?_
    refine wl_g hF rfl rfl rfl rfl rfl rfl (fun hg => q_fieldAddr0 (d := 1) Try.underlying33 rfl (hF.eval rfl) rfl Try.sizeOf9 (by decide) rfl) fun a hF => ?_
    refine wl_g hF rfl rfl rfl rfl rfl rfl (fun hg => q_load Try.isAgg9 rfl ((hF.eval rfl).trans (gv_of hg)) (hO.cell 0 rfl rfl)) fun a hF => ?_
    refine wl_g hF rfl rfl rfl rfl rfl rfl (fun hg => q_seq rfl ((hF.eval rfl).trans (gv_of hg)) ((hF.eval rfl).trans (gv_of hg))) fun a hF => ?_
    refine wl_v hF rfl rfl rfl (q_and rfl (hF.eval rfl) rfl (fun hg2 => ((hF.eval rfl).trans (gv_of hg2))) rfl) fun a hF => ?_
    refine wl_v hF rfl rfl rfl (q_move rfl (hF.eval rfl)) fun a hF => ?_
    by_cases hkn : k = k' ∧ n = n'
    · skip
      refine wl_un hF rfl rfl rfl rfl (isB_T hkn) ?_
      refine wl_v hF rfl rfl rfl (q_fieldAddr0 (d := 2) Try.underlying33 rfl (hF.eval rfl) rfl Try.sizeOf31 (by decide) rfl) fun a hF => ?_
      refine wl_un hF rfl rfl rfl rfl (isB_T hkn) ?_
      refine wl_v hF rfl rfl rfl (q_load Try.isAgg31 rfl (hF.eval rfl) (hO.cell 1 rfl rfl)) fun a hF => ?_
      refine wl_un hF rfl rfl rfl rfl (isB_T hkn) ?_
      refine wl_v hF rfl rfl rfl (q_fieldAddr0 (d := 2) Try.underlying33 rfl (hF.eval rfl) rfl Try.sizeOf31 (by decide) rfl) fun a hF => ?_
      refine wl_un hF rfl rfl rfl rfl (isB_T hkn) ?_
      refine wl_v hF rfl rfl rfl (q_load Try.isAgg31 rfl (hF.eval rfl) (hO.cell 0 rfl rfl)) fun a hF => ?_
      refine wl_un hF rfl rfl rfl rfl (isB_T hkn) ?_
      refine wl_v hF rfl rfl rfl (q_load Try.isAgg40 rfl (hF.eval rfl) (rdB_cell0 (Rd.at0 hfb hO) rfl)) fun a hF => ?_
      refine wl_un hF rfl rfl rfl rfl (isB_T hkn) ?_
      have hO := hO.pull 2 rfl
      have hO : St _ _ _ [_, _, _] := hO
      have hO : St w0 (blks [Ent.mapE Try.prog 9 mp cn f]) _ [_, _, _] := hO
      have h1 := St.front (A := [Ent.mapE Try.prog 9 mp cn f]) hO
      refine wl_e hF rfl rfl rfl (c_call hF rfl rfl Try.call52 (eqm_r yb fb mp l l' r.kids s.kids (fun q hq s t u => ih q (RT.kids_lt hq) s t u) _ _ _ cn f gT hfT (by have := nodesR_kids r; omega) h1.owns (hyb.now h1) (hfb.now h1) (fun n z hz => RdN.now h1 (hgR n z hz)) (hR.sl.now h1) (hR2.sl.now h1) (fun s hs => RdN.now h1 (hR.sub s hs)) (fun s hs => RdN.now h1 (hR2.sub s hs)) (RT.kids_er her) (RT.kids_er her2) (fun u hu => Nat.le_trans (wt_in hu) hFt) (fun q hq => RT.kids_small hsm hq))) ?_
      rintro a _ w ⟨c2, f2, g2, ok, rfl, hf2, hc2n, hg2x, hm2, hS⟩ hF
      have hO := hO.call1 hS
      have hO : St _ _ _ [_, _, _] := hO
      refine wl_v hF rfl rfl rfl (q_pickT rfl ((hF.eval rfl).trans (congrArg Value.bool (decide_eq_true hkn))) (hF.eval rfl)) fun a hF => ?_
      refine wl_v hF rfl rfl rfl (q_assign rfl (hF.eval rfl)) fun a hF => ?_
      refine wl_nil ?_
      refine k_n ?_
      refine wp_ret ?_
      refine r_1 hF rfl rfl ?_
      have hO := hO.drop1 1
      have hO := hO.drop1 1
      have hO : St _ _ _ [_] := hO
      exact ⟨c2, f2, g2, ok, rfl, hf2, by have := nodesR_kids r; omega, fun m z hz => (hg2x m z hz).elim .inl fun ⟨y, hy, h⟩ => .inr (.sub hy h), fun g hg => by rw [matchF_case her her2 hc1, if_pos hkn]; exact hm2 g hg, hO⟩
    · skip
      refine wl_sk hF rfl rfl rfl rfl (isN_F hkn) rfl rfl fun a hF => ?_
      refine wl_sk hF rfl rfl rfl rfl (isN_F hkn) rfl rfl fun a hF => ?_
      refine wl_sk hF rfl rfl rfl rfl (isN_F hkn) rfl rfl fun a hF => ?_
      refine wl_sk hF rfl rfl rfl rfl (isN_F hkn) rfl rfl fun a hF => ?_
      refine wl_sk hF rfl rfl rfl rfl (isN_F hkn) rfl rfl fun a hF => ?_
      refine wl_sk hF rfl rfl rfl rfl (isN_F hkn) rfl rfl fun a hF => ?_
      refine wl_v hF rfl rfl rfl (q_pickF rfl ((hF.eval rfl).trans (congrArg Value.bool (decide_eq_false hkn))) rfl) fun a hF => ?_
      refine wl_v hF rfl rfl rfl (q_assign rfl (hF.eval rfl)) fun a hF => ?_
      refine wl_nil ?_
      refine k_n ?_
      refine wp_ret ?_
      refine r_1 hF rfl rfl ?_
      have hO := hO.drop1 0
      have hO := hO.drop1 0
      have hO : St _ _ _ [_] := hO
      exact ⟨cn, f, gT, false, rfl, hfT, by omega, fun m z hz => .inl hz, fun g hg => ⟨fun h => (by cases h), fun _ => by rw [matchF_case her her2 hc1, if_neg hkn]⟩, hO⟩


theorem fits_r (yb fb mp : Nat) : ∀ (q : Nat) (r : RT), r.nodes < q → ∀ (s : RT) (t u : TN), ∀ (w0 : World) (cn : Nat) (f : Lit → Option Value) (gT : Nam → Option TN), MapT f gT → cn + r.nodes ≤ 4611686018427387904 → Owns w0 [Ent.mapE Try.prog 9 mp cn f] → Rd w0 (blks [Ent.mapE Try.prog 9 mp cn f]) (gl1 yb) 1 1 [.map (some mp)] → Rd w0 (blks [Ent.mapE Try.prog 9 mp cn f]) (gl1 fb) 1 1 [.func (.func 50) #[] #[ptr (adr yb), ptr (adr fb)]] → (∀ n z, gT n = some z → RdN w0 (blks [Ent.mapE Try.prog 9 mp cn f]) z) → RdN w0 (blks [Ent.mapE Try.prog 9 mp cn f]) t → RdN w0 (blks [Ent.mapE Try.prog 9 mp cn f]) u → t.er = r.ty → u.er = s.ty → Fit u.er → r.small → Ret Try.prog 50 #[.agg (tnE.cells t).toArray, .agg (tnE.cells u).toArray, ptr (adr yb), ptr (adr fb)] w0 (fun v w' => ∃ (cn' : Nat) (f' : Lit → Option Value) (gT' : Nam → Option TN) (ok : Bool), v = .bool ok ∧ MapT f' gT' ∧ cn' ≤ cn + r.nodes ∧ (∀ n z, gT' n = some z → gT n = some z ∨ Sbt u z) ∧ (∀ g, RelG gT g → (ok = true → ∃ g', matchF r s g = some g' ∧ RelG gT' g') ∧ (ok = false → matchF r s g = none)) ∧ St w0 (blks [Ent.mapE Try.prog 9 mp cn f]) w' [Ent.mapE Try.prog 9 mp cn' f'])
  | 0, _, h => absurd h (Nat.not_lt_zero _)
  | q + 1, r, h => fun s t u => by
    obtain ⟨k, n, hd, l⟩ := t
    obtain ⟨k', n', hd', l'⟩ := u
    intro w0 cn f gT h1 h2 h3 h4 h5 h6 h7 h8 h9 h10 h11 h12
    exact fits_i yb fb mp r s (fun r' hr => fits_r yb fb mp q r' (by omega)) k k' n n' hd hd' l l' w0 cn f gT h1 h2 h3 h4 h5 h6 h7 h8 h9 h10 h11 h12
end Go.Proofs.Ytfkmlcgccffmnaa
namespace Go.Proofs.Ytfkmlcgccffmnaa
open Go
set_option maxRecDepth 100000
set_option linter.unusedVariables false

theorem q_lookT2 {P : Program} {w : World} {b c : Nat} {k e t : TypeId} {f : Lit → Option Value} {g : Nam → Option TN} {o : Oper} {a : Act} {x y : Operand} {n : Nam} {z : TN} (h : MapIs P w k b c f) (hf : MapT f g) (hk : P.underlying k = some .string) (ht : P.underlying t = some (.map k e)) (hz : (zeroValue e).run P w = .ok (tyV tn0) w) (ho : o.op = .lookup t x y false) (hx : a.eval x = .map (some b)) (hy : a.eval y = str n) (hn : n.length ≤ 9223372036854775807) (hg : g n = some z) : QV P o a w (.agg (tnE.cells z).toArray) := by
  have h1 := q_lookT1 h hf hk ht hz ho hx hy hn
  rw [hg] at h1; exact h1
theorem ansM_next {l : List (Nam × Ty)} {ns : List Nam} {g : Sg} {j : Nat} {nm : Nam} {u : RT} (h : l = ansM (ns.take j) g) (hx : ns[j]? = some nm) (hg : g nm = some u) : l ++ [(nm, u.ty)] = ansM (ns.take (j + 1)) g := by
  rw [h, takeAt hx]
  unfold ansM
  rw [List.map_append, List.map_cons, List.map_nil, hg]
theorem ansM_len (ns : List Nam) (g : Sg) : (ansM ns g).length = ns.length := List.length_map _
theorem RelG.dom {gT : Nam → Option TN} {g : Sg} (h : RelG gT g) (n : Nam) : gT n = none ↔ g n = none := by
  have := h n
  constructor
  · intro e; rw [e] at this; exact Option.map_eq_none_iff.1 this.symm
  · intro e; rw [e] at this; exact Option.map_eq_none_iff.1 this
theorem MapT.dom {f : Lit → Option Value} {g : Nam → Option TN} (h : MapT f g) (n : Nam) : f (litS n) = none ↔ g n = none := by
  rw [h n]; exact Option.map_eq_none_iff
theorem len_takeN {α : Type} {l : List α} {j : Nat} (h : j ≤ l.length) : (l.take j).length = j := by rw [List.length_take]; omega

theorem match_small : ∀ {r s : RT} {g g' : Sg}, matchF r s g = some g' → r.small → (∀ n u, g n = some u → n.length ≤ 9223372036854775807) → ∀ n u, g' n = some u → n.length ≤ 9223372036854775807
  | .var m, s, g, g', h, hs, h0 => fun n u hn => by
    have h : (match g m with | none => some (putG g m s) | some w => if sameF w.ty s.ty = true then some g else none) = some g' := h
    cases hm : g m with
    | none =>
      rw [hm] at h
      cases h
      have hn : (if n = m then some s else g n) = some u := hn
      by_cases e : n = m
      · rw [e]; exact Nat.le_trans hs (by decide)
      · rw [if_neg e] at hn; exact h0 n u hn
    | some w =>
      rw [hm] at h
      have h : (if sameF w.ty s.ty = true then some g else none) = some g' := h
      by_cases e : sameF w.ty s.ty = true
      · rw [if_pos e] at h; cases h; exact h0 n u hn
      · rw [if_neg e] at h; cases h
  | .con m, .con q, g, g', h, hs, h0 => fun n u hn => by
    have h : (if m = q then some g else none) = some g' := h
    by_cases e : m = q
    · rw [if_pos e] at h; cases h; exact h0 n u hn
    · rw [if_neg e] at h; cases h
  | .app a b, .app c d, g, g', h, hs, h0 => fun n u hn => by
    have h : (match matchF a c g with | none => none | some g1 => matchF b d g1) = some g' := h
    cases h1 : matchF a c g with
    | none => rw [h1] at h; cases h
    | some g1 =>
      rw [h1] at h
      exact match_small (r := b) (s := d) h hs.2 (match_small h1 hs.1 h0) n u hn
  | .con _, .var _, _, _, h, _, _ => by cases h
  | .con _, .app _ _, _, _, h, _, _ => by cases h
  | .app _ _, .var _, _, _, h, _, _ => by cases h
  | .app _ _, .con _, _, _, h, _, _ => by cases h
set_option maxHeartbeats 4000000 in
theorem match_r (w0 : World) (t u : TN) (hR : RdN w0 [] t) (hR2 : RdN w0 [] u) (hFt : Fit t.er ∧ Fit u.er) : Ret Try.prog 22 #[.agg (tnE.cells t).toArray, .agg (tnE.cells u).toArray] w0 (fun v w' => ∃ (h : Hdr) (l : List SbN) (e : Int), v = .tuple #[h.v, i64 e] ∧ MatSpec t.er u.er (l.map SbN.er) e ∧ St w0 [] w' [slT h.v 45 sbE l, sbG 33 l]) := by
  have hO := St.init0 w0
  have hRt : ∀ x ∈ [t, u], RdN w0 [] x := fun x hx => by rcases List.mem_cons.1 hx with rfl | hx; exact hR; rw [List.mem_singleton.1 hx]; exact hR2
  have hNt : ∀ x ∈ [t, u], nodesF x.er ≤ 2305843009213693952 := fun x hx => by rcases List.mem_cons.1 hx with rfl | hx; exact hFt.1.nodes; rw [List.mem_singleton.1 hx]; exact hFt.2.nodes
  refine ret_of (m := 45) Try.func22 rfl Try.ntmps22 [(0, .agg (tnE.cells t).toArray), (1, .agg (tnE.cells u).toArray)] rfl ⟨rfl, rfl, trivial⟩ fun a hF => ?_
  refine wp_seq ?_
  refine wp_region_lit ?_
  refine wl_e hF rfl rfl rfl (e_box hO rfl (hF.eval rfl) rfl) ?_
  rintro a _ w ⟨tk, rfl, hO⟩ hF
  refine wl_e hF rfl rfl rfl (e_box hO rfl (hF.eval rfl) rfl) ?_
  rintro a _ w ⟨tu, rfl, hO⟩ hF
  refine wl_v hF rfl rfl rfl (q_assign rfl (hF.eval rfl)) fun a hF => ?_
  refine wl_v hF rfl rfl rfl (q_assign rfl (hF.eval rfl)) fun a hF => ?_
  refine wl_nil ?_
  refine k_n ?_
  refine wp_seq ?_
  refine wp_seq ?_
  refine wp_region_lit ?_
  refine wl_v hF rfl rfl rfl (q_loadAgg Try.isAgg33 Try.sizeOf33 rfl (hF.eval rfl) (hO.cells 1 rfl) rfl) fun a hF => ?_
  refine wl_v hF rfl rfl rfl (q_loadAgg Try.isAgg33 Try.sizeOf33 rfl (hF.eval rfl) (hO.cells 0 rfl) rfl) fun a hF => ?_
  refine wl_e hF rfl rfl rfl (c_buildSlice hF hO Try.underlying31 Try.sizeOf33 Try.zeroValue33 rfl rfl rfl rfl rfl rfl rfl) ?_
  rintro a _ w ⟨sb9, rfl, hO⟩ hF
  have hO : St _ _ _ (slT (.slice (some (adr sb9)) 2 2) 33 tnE [t, u] :: [_, _]) := hO
  refine wl_e hF rfl rfl rfl (c_call hF rfl rfl Try.call25 (all_r _ _ _ (hO.rdT 0 rfl) (fun t ht => (hRt t ht).at0 hO) hNt)) ?_
  rintro a _ w ⟨rfl, hS⟩ hF
  have hO := hO.call0 hS
  have hO : St _ _ _ [_, _, _] := hO
  refine wl_v hF rfl rfl rfl (q_assign rfl (hF.eval rfl)) fun a hF => ?_
  refine wl_nil ?_
  refine k_n ?_
  refine wp_seq ?_
  refine wp_region_lit ?_
  refine wl_v hF rfl rfl rfl (q_move rfl (hF.eval rfl)) fun a hF => ?_
  refine wl_v hF rfl rfl rfl (q_ne rfl (hF.eval rfl) (hF.eval rfl)) fun a hF => ?_
  refine wl_nil ?_
  refine k_n ?_
  refine wp_ifD hF rfl rfl (fun hc1 => ?_) (fun hc1 => ?_)
  · skip
    refine wp_seq ?_
    refine wp_region_lit ?_
    refine wl_v hF rfl rfl rfl (q_move rfl (hF.eval rfl)) fun a hF => ?_
    refine wl_v hF rfl rfl rfl (q_assign rfl (hF.eval rfl)) fun a hF => ?_
    refine wl_v hF rfl rfl rfl (q_assign rfl (hF.eval rfl)) fun a hF => ?_
    refine wl_nil ?_
    refine k_n ?_
    refine wp_ret ?_
    refine k_r ?_
    refine r_2 hF rfl rfl rfl ?_
    have hO := hO.drop1 0
    have hO := hO.drop1 0
    have hO := hO.drop1 0
    have hO : St _ _ _ [] := hO
    have hO := hO.grp0
    have hO := hO.nilSl 45 4
    exact ⟨nilH, [], _, rfl, (Or.inl ⟨hc1, rfl, rfl⟩), hO⟩
  · skip
    have hal : allF [t.er, u.er] 0 = 0 := Classical.not_not.1 hc1
    obtain ⟨hal1, hal2⟩ := (allF_zero hal).2 t.er (by simp)
    obtain ⟨hal3, hal4⟩ := (allF_zero hal).2 u.er (by simp)
    obtain ⟨r, hr1, hr⟩ := right_ex _ hal1
    obtain ⟨s, hs1, hs⟩ := right_ex _ hal3
    have hrn : r.nodes ≤ 1000 := by rw [← r.nodes_ty, ← hr]; exact hal2
    refine wp_skip ?_
    refine k_n ?_
    refine wp_seq ?_
    refine wp_region_lit ?_
    refine wl_e hF rfl rfl rfl (e_makeMap hO 9 rfl) ?_
    rintro a _ w ⟨mp, rfl, hO⟩ hF
    refine wl_e hF rfl rfl rfl (e_alloc hO Try.zeroValue82 rfl rfl) ?_
    rintro a _ w ⟨yb, rfl, hO⟩ hF
    refine wl_s hF rfl rfl (e_store0 hO (i := 0) rfl Try.sizeOf82 rfl (hF.eval rfl) (hF.eval rfl) rfl rfl rfl) ?_
    rintro a _ w ⟨-, hO⟩ hF
    have hO : St _ _ _ [_, _, _, _, _] := hO
    refine wl_nil ?_
    refine k_n ?_
    refine wp_seq ?_
    refine wp_region_lit ?_
    refine wl_e hF rfl rfl rfl (e_alloc hO Try.zeroValue40 rfl rfl) ?_
    rintro a _ w ⟨fb, rfl, hO⟩ hF
    refine wl_nil ?_
    refine k_n ?_
    refine wp_seq ?_
    refine wp_region_lit ?_
    refine wl_v hF rfl rfl rfl (c_makeFunc hF rfl rfl rfl) fun a hF => ?_
    refine wl_s hF rfl rfl (e_store0 hO (i := 0) rfl Try.sizeOf40 rfl (hF.eval rfl) (hF.eval rfl) rfl rfl rfl) ?_
    rintro a _ w ⟨-, hO⟩ hF
    have hO : St _ _ _ [_, _, _, _, _, _] := hO
    refine wl_nil ?_
    refine k_n ?_
    refine wp_seq ?_
    refine wp_seq ?_
    refine wp_region_lit ?_
    refine wl_v hF rfl rfl rfl (q_load Try.isAgg40 rfl (hF.eval rfl) (hO.cell0 0 rfl rfl)) fun a hF => ?_
    refine wl_v hF rfl rfl rfl (q_loadAgg Try.isAgg33 Try.sizeOf33 rfl (hF.eval rfl) (hO.cells 5 rfl) rfl) fun a hF => ?_
    refine wl_v hF rfl rfl rfl (q_loadAgg Try.isAgg33 Try.sizeOf33 rfl (hF.eval rfl) (hO.cells 4 rfl) rfl) fun a hF => ?_
    have hO := hO.pull 2 rfl
    have hO : St _ _ _ [_, _, _, _, _, _] := hO
    refine wl_e hF rfl rfl rfl (c_callV hF rfl (hF.eval rfl) rfl rfl Try.call50 (fits_r yb fb mp (r.nodes + 1) r (by omega) s t u _ 0 (fun _ => none) (fun _ => none) mapT_none (by omega) hO.own1 (St.rdObB (A := [_]) hO 1 rfl) (St.rdObB (A := [_]) hO 0 rfl) (fun n z h => (by cases h)) (RdN.now (St.front (A := [_]) hO) hR) (RdN.now (St.front (A := [_]) hO) hR2) hr hs hFt.2 (small_of (by rw [← hr]; exact hFt.1)))) ?_
    rintro a _ w ⟨c2, f2, g2, ok, rfl, hf2, hc2n, hg2x, hm2, hS⟩ hF
    have hO := hO.call1 hS
    have hO : St _ _ _ [_, _, _, _, _, _] := hO
    refine wl_v hF rfl rfl rfl (q_not rfl (hF.eval rfl) (dec_b _)) fun a hF => ?_
    refine wl_nil ?_
    refine k_n ?_
    refine wp_ifD hF rfl rfl (fun hc2 => ?_) (fun hc2 => ?_)
    · skip
      have hok : ok = false := by simpa using hc2
      subst hok
      refine wp_seq ?_
      refine wp_region_lit ?_
      refine wl_v hF rfl rfl rfl (q_assign rfl (hF.eval rfl)) fun a hF => ?_
      refine wl_v hF rfl rfl rfl (q_assign rfl (hF.eval rfl)) fun a hF => ?_
      refine wl_nil ?_
      refine k_n ?_
      refine wp_ret ?_
      refine k_r ?_
      refine r_2 hF rfl rfl rfl ?_
      have hO := hO.drop1 0
      have hO := hO.drop1 0
      have hO := hO.drop1 0
      have hO := hO.drop1 0
      have hO := hO.drop1 0
      have hO := hO.drop1 0
      have hO : St _ _ _ [] := hO
      have hO := hO.grp0
      have hO := hO.nilSl 45 4
      exact ⟨nilH, [], 70, rfl, (Or.inr ⟨hal, r, s, hr, hs, Or.inl ⟨(hm2 _ relG_none).2 rfl, rfl, rfl⟩⟩), hO⟩
    · skip
      have hok : ok = true := by simpa using hc2
      subst hok
      obtain ⟨g, hg, hrel⟩ := (hm2 _ relG_none).1 rfl
      refine wp_skip ?_
      refine k_n ?_
      refine wp_seq ?_
      refine wp_region_lit ?_
      refine wl_v hF rfl rfl rfl (q_assign rfl (hF.eval rfl)) fun a hF => ?_
      have hO := hO.nilSl 45 4
      refine wl_nil ?_
      refine k_n ?_
      refine wp_seq ?_
      refine wp_seq ?_
      refine wp_region_lit ?_
      refine wl_v hF rfl rfl rfl (q_load Try.isAgg82 rfl (hF.eval rfl) (hO.cell0 3 rfl rfl)) fun a hF => ?_
      have hO : St _ _ _ (sbG 33 [] :: _) := hO.grp0
      have hO : St _ _ _ [_, _, _, _, _, _, _, _] := hO
      refine wl_e hF rfl rfl rfl (c_call hF rfl rfl Try.call53 (keys53_r mp _)) ?_
      rintro a _ w ⟨kb, rfl, hS⟩ hF
      have hO := hO.call0 hS
      have hO : St _ _ _ [_, _, _, _, _, _, _, _, _] := hO
      refine wl_e hF rfl rfl rfl (c_call hF rfl rfl Try.call28 (sorted53_r mp kb c2 f2 _ (hO.ok (i := 3) rfl) (hO.ok (i := 0) rfl) (by omega))) ?_
      rintro a vn w ⟨ns, hasc, hnm, hnsl, hS⟩ hF
      have hO := hO.call0 hS
      have hO : St _ _ _ [_, _, _, _, _, _, _, _, _, _] := hO
      have hmemv : ∀ n, n ∈ ns ↔ ¬ g n = none := fun n => (hnm n).trans (not_congr ((hf2.dom n).trans (hrel.dom n)))
      refine wl_v hF rfl rfl rfl (q_lenRd (hO.rd 0 rfl) Try.underlying56 rfl (hF.eval rfl)) fun a hF => ?_
      refine wl_v hF rfl rfl rfl (q_move rfl (hF.eval rfl)) fun a hF => ?_
      refine wl_nil ?_
      refine k_n ?_
      refine wp_block ?_
      have hO := hO.drop1 1
      have hO := hO.drop1 4
      have hO := hO.drop1 5
      have hO := hO.drop1 5
      have hO := hO.drop1 5
      have hO := hO.pull 1 rfl
      have hO := hO.pull 2 rfl
      have hO := hO.pull 2 rfl
      have hO := hO.pull 4 rfl
      have hO := hO.pull 4 rfl
      have hO : St _ _ _ [_, _, _, _, _] := hO
      refine wp_loopS (fun (s : Nat × Value × List SbN) a w' => match s with | (j, vo, l) => (j ≤ ns.length ∧ l.map SbN.er = ansM (ns.take j) g) ∧ St w0 [] w' [Ent.mapE Try.prog 9 mp c2 f2, .ob yb 82 [.map (some mp)], slT vn 9 strE ns, slT vo 45 sbE l, sbG 33 l] ∧ Fr a 45 [(4, .slice none 0 0), (5, i64 0), (7, ptr (adr yb)), (9, vo), (28, vn), (29, i64 ns.length), (30, i64 j)]) (fun (s : Nat × Value × List SbN) => match s with | (j, vo, l) => ns.length - j) (0, _, []) ⟨⟨by omega, rfl⟩, hO, hF.sub ⟨rfl, rfl, rfl, rfl, rfl, rfl, rfl, trivial⟩⟩ ?_
      rintro ⟨j, vo, l⟩ a w ⟨⟨hj, hl⟩, hO, hF⟩
      have hnl := (hO.rdT 2 rfl).lenle
      have hll := (hO.rdT 3 rfl).lenle
      have hl9 : l.length ≤ j := by have := congrArg List.length hl; rw [List.length_map] at this; rw [this, ansM_len, List.length_take]; omega
      refine wp_seq ?_
      refine wp_region_lit ?_
      refine wl_v hF rfl rfl rfl (q_lt rfl (hF.eval rfl) (hF.eval rfl)) fun a hF => ?_
      refine wl_nil ?_
      refine k_n ?_
      refine wp_seq ?_
      refine wp_ifD hF rfl rfl (fun hc3 => ?_) (fun hc3 => ?_)
      · skip
        refine wp_skip ?_
        refine k_n ?_
        refine wp_seq ?_
        refine wp_block ?_
        refine wp_seq ?_
        refine wp_region_lit ?_
        obtain ⟨nm, hx⟩ := get_ex (l := ns) (i := j) (by omega)
        refine wl_v hF rfl rfl rfl (q_at (i := j) (hO.rd 2 rfl) Try.underlying56 Try.sizeOf9 rfl (hF.eval rfl) (hF.eval rfl) (by omega)) fun a hF => ?_
        refine wl_v hF rfl rfl rfl (q_load Try.isAgg9 rfl (hF.eval rfl) (RdT.cell0 (hO.rdT 2 rfl) hx rfl)) fun a hF => ?_
        refine wl_v hF rfl rfl rfl (q_assign rfl (hF.eval rfl)) fun a hF => ?_
        refine wl_nil ?_
        refine k_n ?_
        refine wp_region_lit ?_
        refine wl_v hF rfl rfl rfl (q_move rfl (hF.eval rfl)) fun a hF => ?_
        refine wl_v hF rfl rfl rfl (q_move rfl (hF.eval rfl)) fun a hF => ?_
        refine wl_v hF rfl rfl rfl (q_load Try.isAgg82 rfl (hF.eval rfl) (hO.cell0 1 rfl rfl)) fun a hF => ?_
        refine wl_v hF rfl rfl rfl (q_move rfl (hF.eval rfl)) fun a hF => ?_
        obtain ⟨w9, hgw⟩ : ∃ w9, g nm = some w9 := by cases hv : g nm with | some c => exact ⟨c, rfl⟩ | none => exact absurd hv ((hmemv nm).1 (List.mem_of_getElem? hx))
        obtain ⟨z, hgz, hzw⟩ : ∃ z, g2 nm = some z ∧ z.er = w9.ty := by cases hv : g2 nm with | some c => (obtain ⟨w8, h8, h9⟩ := hrel.some_ hv; rw [hgw] at h8; cases h8; exact ⟨c, rfl, h9⟩) | none => (rw [(hrel.dom nm).1 hv] at hgw; cases hgw)
        have hsb : Sbt u z := (hg2x nm z hgz).resolve_left (by simp)
        have hnl9 : nm.length ≤ 9223372036854775807 := match_small hg (small_of (by rw [← hr]; exact hFt.1)) (fun _ _ h => (by cases h)) _ _ hgw
        refine wl_v hF rfl rfl rfl (q_lookT2 (hO.ok (i := 0) rfl) hf2 Try.underlying9 Try.underlying82 (Try.zeroValue33 _) rfl (hF.eval rfl) (hF.eval rfl) hnl9 hgz) fun a hF => ?_
        refine wl_e hF rfl rfl rfl (c_call hF rfl rfl Try.call44 (mapped54_r (w9.nodes + 1) w9 (by omega) z _ ((hsb.rd hR2).at0 hO) hzw (small_of (by rw [← hzw]; exact Nat.le_trans hsb.wt hFt.2)))) ?_
        rintro a _ w ⟨tz, rfl, htz0, hS⟩ hF
        have hO := hO.call0 hS
        have hO : St _ _ _ [_, _, _, _, _, _] := hO
        have htz : tz.er = z.er := by rw [htz0, subst_var, hzw]
        refine wl_v hF rfl rfl rfl (c_buildG hF Try.underlying45 Try.zeroValue45 Try_placesG45 rfl rfl rfl rfl) fun a hF => ?_
        refine wl_e hF rfl rfl rfl (c_buildSlice hF hO Try.underlying23 Try.sizeOf45 Try.zeroValue45 rfl rfl rfl rfl rfl rfl rfl) ?_
        rintro a _ w ⟨b2, rfl, hO⟩ hF
        refine wl_e hF rfl rfl rfl (e_appendT (bytes := 64) (r := [⟨nm, tz⟩]) hO (i := 5) rfl (hO.rd 0 rfl) Try.underlying23 Try_info45 rfl rfl rfl rfl rfl rfl (hF.eval rfl) (hF.eval rfl) (by show (List.length _ + 1) * 64 ≤ _; omega) (by show List.length _ + 1 ≤ _; omega)) ?_
        rintro a v42 w hO hF
        have hO : St _ _ _ [_, _, _, _, _, _, _] := hO
        have hO := hO.pull 1 rfl
        have hO := St.intoS (s := ⟨nm, tz⟩) hO 5 rfl
        have hO : St _ _ _ [_, _, _, _, _, _] := hO
        refine wl_v hF rfl rfl rfl (q_assign rfl (hF.eval rfl)) fun a hF => ?_
        refine wl_nil ?_
        refine b_n ?_
        refine k_n ?_
        refine wp_region_lit ?_
        refine wl_v hF rfl rfl rfl (q_add rfl (hF.eval rfl) (hF.eval rfl) (by omega)) fun a hF => ?_
        refine wl_v hF rfl rfl rfl (q_move rfl (hF.eval rfl)) fun a hF => ?_
        refine wl_nil ?_
        refine k_n ?_
        have hO := hO.drop1 0
        have hO : St _ _ _ [_, _, _, _, _] := hO
        exact ⟨(j + 1, _, l ++ [⟨nm, tz⟩]), ⟨⟨by omega, by rw [List.map_append, ← ansM_next hl hx hgw, ← hzw, ← htz]; rfl⟩, hO, hF.sub ⟨rfl, rfl, rfl, rfl, rfl, rfl, rfl, trivial⟩⟩, by dsimp only; omega⟩
      · skip
        have htj : ns.take j = ns := List.take_of_length_le (by omega)
        rw [htj] at hl
        refine wp_exit ?_
        refine k_x ?_
        refine k_x ?_
        refine b_x ?_
        refine k_n ?_
        refine wp_seq ?_
        refine wp_region_lit ?_
        refine wl_v hF rfl rfl rfl (q_move rfl (hF.eval rfl)) fun a hF => ?_
        refine wl_v hF rfl rfl rfl (q_assign rfl (hF.eval rfl)) fun a hF => ?_
        refine wl_v hF rfl rfl rfl (q_assign rfl (hF.eval rfl)) fun a hF => ?_
        refine wl_nil ?_
        refine k_n ?_
        refine wp_ret ?_
        refine r_2 hF rfl rfl rfl ?_
        have hO := hO.drop1 0
        have hO := hO.drop1 0
        have hO := hO.drop1 0
        have hO : St _ _ _ [_, _] := hO
        obtain ⟨q, rfl⟩ := Rd.hdr (hO.rd 0 rfl)
        exact ⟨q, l, 0, rfl, Or.inr ⟨hal, r, s, hr, hs, Or.inr ⟨g, ns, hg, hasc, hmemv, hl, rfl⟩⟩, hO⟩

end Go.Proofs.Ytfkmlcgccffmnaa
