/- PU13, PLAIN: a type's text. -/
import Derived.Test.YtfkmlcgccffmnaaPu12
import Derived.Lib.Strings
import Derived.Lib.Join
import Derived.Test.YtfkmlcgccffmnaaVh
import Derived.Test.YtfkmlcgccffmnaaPu8
import Derived.Test.YtfkmlcgccffmnaaUg
namespace Go.Proofs.Ytfkmlcgccffmnaa
open Go
def sPrim : Nam := [80, 114, 105, 109, 46]
def sArr : Nam := [80, 114, 105, 109, 46, 45, 62]
def sLst : Nam := [80, 114, 105, 109, 46, 91, 93]
def sTup : Nam := [80, 114, 105, 109, 46, 40, 44, 41]
def sTri : Nam := [80, 114, 105, 109, 46, 40, 44, 44, 41]
def sArrP : Nam := [40, 45, 62, 41]
def sTo : Nam := [32, 45, 62, 32]
/-- what stands in front, and what it is applied to -/
def spreadF : RT → Nam × List RT
  | .app a b => ((spreadF a).1, (spreadF a).2 ++ [b])
  | .con n => (n, [])
  | .var _ => ([], [])
def inT (f : RT → Nam × Nat) (r : RT) (least : Nat) : Nam := if (f r).2 < least then ([40] ++ (f r).1) ++ [41] else (f r).1
def toldA (f : RT → Nam × Nat) (a b : RT) : Nam × Nat :=
  if (spreadF (.app a b)).1 = sArr ∧ (spreadF (.app a b)).2.length = 2 then ((inT f ((spreadF (.app a b)).2.getD 0 a) 1 ++ sTo) ++ inT f ((spreadF (.app a b)).2.getD 1 a) 0, 0)
  else if (spreadF (.app a b)).1 = sLst ∧ (spreadF (.app a b)).2.length = 1 then (([91] ++ inT f ((spreadF (.app a b)).2.getD 0 a) 0) ++ [93], 2)
  else if ((spreadF (.app a b)).1 = sTup ∧ (spreadF (.app a b)).2.length = 2) ∨ ((spreadF (.app a b)).1 = sTri ∧ (spreadF (.app a b)).2.length = 3) then (([40] ++ Lib.join ((spreadF (.app a b)).2.map fun r => inT f r 0) [44, 32]) ++ [41], 2)
  else ((inT f a 1 ++ [32]) ++ inT f b 2, 1)
def toldN : Nat → RT → Nam × Nat
  | 0, _ => ([], 0)
  | _ + 1, .var n => (n, 2)
  | _ + 1, .con n => if n = sArr then (sArrP, 2) else (Lib.trimPrefix n sPrim, 2)
  | q + 1, .app a b => toldA (toldN q) a b
/-! how long it is -/
def wtR (r : RT) : Nat := wtF r.ty
theorem wtR_app (a b : RT) : wtR (.app a b) = 1 + wtR a + wtR b := by
  show 1 + 0 + (wtF a.ty + (wtF b.ty + 0)) = 1 + wtF a.ty + wtF b.ty; omega
def wtS : List RT → Nat
  | [] => 0
  | r :: l => wtR r + wtS l
theorem wtS_app : ∀ (a b : List RT), wtS (a ++ b) = wtS a + wtS b
  | [], b => by simp [wtS]
  | x :: a, b => by show wtR x + wtS (a ++ b) = wtR x + wtS a + wtS b; rw [wtS_app a b]; omega
theorem spread_wt : ∀ r : RT, wtS (spreadF r).2 + (spreadF r).2.length ≤ wtR r
  | .app a b => by
    have := spread_wt a
    rw [wtR_app]
    show wtS ((spreadF a).2 ++ [b]) + ((spreadF a).2 ++ [b]).length ≤ _
    rw [wtS_app, List.length_append]
    show wtS (spreadF a).2 + (wtR b + 0) + ((spreadF a).2.length + 1) ≤ _
    omega
  | .con n => Nat.zero_le _
  | .var n => Nat.zero_le _
theorem spread_nodes : ∀ (r : RT), ∀ s ∈ (spreadF r).2, s.nodes < r.nodes
  | .app a b, s, h => by
    have := a.pos; have := b.pos
    show s.nodes < 1 + a.nodes + b.nodes
    rcases List.mem_append.1 h with h | h
    · have := spread_nodes a s h; omega
    · rw [List.mem_singleton.1 h]; omega
  | .con n, s, h => by cases h
  | .var n, s, h => by cases h
theorem wtS_mem : ∀ {l : List RT} {r : RT}, r ∈ l → wtR r ≤ wtS l
  | x :: l, r, h => by
    show _ ≤ wtR x + wtS l
    rcases List.mem_cons.1 h with rfl | h
    · omega
    · have := wtS_mem h; omega
theorem trim_len (n p : Nam) : (Lib.trimPrefix n p).length ≤ n.length := by
  unfold Lib.trimPrefix
  split
  · rw [List.length_drop]; omega
  · exact Nat.le_refl _
theorem joinTail_cons (sep x : Nam) (l : List Nam) : Lib.joinTail sep (x :: l) = (sep ++ x) ++ Lib.joinTail sep l := rfl
def LenOk (f : RT → Nam × Nat) (r : RT) : Prop := (f r).1.length + 1 ≤ 4 * wtR r
theorem inT_len {f : RT → Nam × Nat} {r : RT} (h : LenOk f r) (k : Nat) : (inT f r k).length ≤ 4 * wtR r + 1 := by
  unfold LenOk at h
  unfold inT
  split
  · simp only [List.length_append, List.length_singleton]; omega
  · omega
theorem inT_len0 {f : RT → Nam × Nat} {r : RT} (h : LenOk f r) : (inT f r 0).length + 1 ≤ 4 * wtR r := by
  unfold LenOk at h
  unfold inT
  rw [if_neg (Nat.not_lt_zero _)]; exact h
theorem join_len {f : RT → Nam × Nat} : ∀ (l : List RT), (∀ r ∈ l, LenOk f r) → (Lib.join (l.map fun r => inT f r 0) [44, 32]).length ≤ 4 * wtS l + l.length
  | [], _ => Nat.zero_le _
  | r :: l, h => by
    have key : ∀ l : List RT, (∀ r ∈ l, LenOk f r) → (Lib.joinTail [44, 32] (l.map fun r => inT f r 0)).length ≤ 4 * wtS l + l.length := by
      intro l
      induction l with
      | nil => intro _; exact Nat.zero_le _
      | cons x l ih =>
        intro h
        have h1 := ih fun r hr => h r (List.mem_cons_of_mem _ hr)
        have h2 := inT_len0 (h x (List.mem_cons_self ..))
        rw [List.map_cons, joinTail_cons, List.length_append, List.length_append]
        show 2 + (inT f x 0).length + _ ≤ 4 * (wtR x + wtS l) + (l.length + 1)
        omega
    rw [List.map_cons, Lib.join_cons, List.length_append]
    have h1 := key l fun r hr => h r (List.mem_cons_of_mem _ hr)
    have h2 := inT_len0 (h r (List.mem_cons_self ..))
    show (inT f r 0).length + _ ≤ 4 * (wtR r + wtS l) + (l.length + 1)
    omega
theorem getD_wt {l : List RT} {i : Nat} (h : i < l.length) (d : RT) : l.getD i d ∈ l := by
  rw [List.getD_eq_getElem?_getD, List.getElem?_eq_getElem h]; exact List.getElem_mem h
theorem two_wt {l : List RT} (h : l.length = 2) (d : RT) : wtS l = wtR (l.getD 0 d) + wtR (l.getD 1 d) := by
  match l, h with
  | [x, y], _ => rfl
theorem toldA_len {f : RT → Nam × Nat} {a b : RT} (ha : LenOk f a) (hb : LenOk f b) (hs : ∀ r ∈ (spreadF (.app a b)).2, LenOk f r) : (toldA f a b).1.length + 1 ≤ 4 * wtR (.app a b) := by
  have hw := spread_wt (.app a b)
  unfold toldA
  generalize spreadF (.app a b) = s at *
  by_cases h1 : s.1 = sArr ∧ s.2.length = 2
  · rw [if_pos h1]
    have e := two_wt h1.2 a
    have l0 := inT_len (hs _ (getD_wt (i := 0) (by omega) a)) 1
    have l1 := inT_len (hs _ (getD_wt (i := 1) (by omega) a)) 0
    show (_ ++ _ ++ _ : Nam).length + 1 ≤ _
    rw [List.length_append, List.length_append]
    show _ + 4 + _ + 1 ≤ _
    omega
  rw [if_neg h1]
  by_cases h2 : s.1 = sLst ∧ s.2.length = 1
  · rw [if_pos h2]
    have hm := getD_wt (i := 0) (l := s.2) (by omega) a
    have l0 := inT_len (hs _ hm) 0
    have := wtS_mem hm
    show (_ ++ _ ++ _ : Nam).length + 1 ≤ _
    rw [List.length_append, List.length_append]
    show 1 + _ + 1 + 1 ≤ _
    have l0 := inT_len0 (hs _ hm)
    omega
  rw [if_neg h2]
  split
  · have := join_len s.2 hs
    show (_ ++ _ ++ _ : Nam).length + 1 ≤ _
    rw [List.length_append, List.length_append]
    show 1 + _ + 1 + 1 ≤ _
    rename_i h3
    have : 1 ≤ s.2.length := by rcases h3 with h | h <;> omega
    omega
  · have la := inT_len ha 1
    have lb := inT_len hb 2
    show (_ ++ _ ++ _ : Nam).length + 1 ≤ _
    rw [List.length_append, List.length_append, wtR_app]
    show _ + 1 + _ + 1 ≤ _
    omega
theorem told_len : ∀ (q : Nat) (r : RT), r.nodes < q → LenOk (toldN q) r
  | 0, _, h => absurd h (Nat.not_lt_zero _)
  | q + 1, .var n, _ => by show n.length + 1 ≤ 4 * (1 + n.length + 0); omega
  | q + 1, .con n, _ => by
    show (if n = sArr then (sArrP, 2) else (Lib.trimPrefix n sPrim, 2) : Nam × Nat).1.length + 1 ≤ 4 * (1 + n.length + 0)
    split
    · rename_i h; rw [h]; decide
    · have := trim_len n sPrim; show (Lib.trimPrefix n sPrim).length + 1 ≤ _; omega
  | q + 1, .app a b, h => by
    have h : 1 + a.nodes + b.nodes < q + 1 := h
    refine toldA_len (told_len q a (by omega)) (told_len q b (by omega)) fun r hr => told_len q r ?_
    have := spread_nodes _ r hr
    have : (RT.app a b).nodes = 1 + a.nodes + b.nodes := rfl
    omega
end Go.Proofs.Ytfkmlcgccffmnaa
namespace Go.Proofs.Ytfkmlcgccffmnaa
open Go
set_option maxRecDepth 100000
set_option linter.unusedVariables false

def RevI (l l' : List TN) (i : Nat) : Prop := l'.length = l.length ∧ ∀ k, l'[k]? = if k < i ∨ l.length ≤ k + i then l.reverse[k]? else l[k]?
theorem RevI.start (l : List TN) : RevI l l 0 := ⟨rfl, fun k => by
  split
  · rename_i h
    have h : l.length ≤ k := by omega
    rw [List.getElem?_eq_none (by omega), List.getElem?_eq_none (by rw [List.length_reverse]; omega)]
  · rfl⟩
theorem rev_at (l : List TN) {k : Nat} (h : k < l.length) : l.reverse[k]? = l[l.length - 1 - k]? := List.getElem?_reverse h
theorem RevI.next {l l' : List TN} {i : Nat} {x y : TN} (h : RevI l l' i) (hi : i < l.length - 1 - i) (hx : l'[l.length - 1 - i]? = some x) (hy : l'[i]? = some y) : RevI l ((l'.set i x).set (l.length - 1 - i) y) (i + 1) := by
  obtain ⟨h1, h2⟩ := h
  refine ⟨by rw [List.length_set, List.length_set, h1], fun k => ?_⟩
  have ex : l[l.length - 1 - i]? = some x := by rw [← hx, h2, if_neg (by omega)]
  have ey : l[i]? = some y := by rw [← hy, h2, if_neg (by omega)]
  by_cases e1 : k = l.length - 1 - i
  · rw [e1, List.getElem?_set_self (by rw [List.length_set]; omega), if_pos (by omega), rev_at l (by omega), show l.length - 1 - (l.length - 1 - i) = i by omega, ey]
  · rw [List.getElem?_set_ne (fun e => e1 e.symm)]
    by_cases e2 : k = i
    · rw [e2, List.getElem?_set_self (by omega), if_pos (by omega), rev_at l (by omega), ex]
    · rw [List.getElem?_set_ne (fun e => e2 e.symm), h2]
      by_cases e3 : k < i ∨ l.length ≤ k + i
      · rw [if_pos e3, if_pos (by omega)]
      · rw [if_neg e3, if_neg (by omega)]
theorem RevI.done {l l' : List TN} {i : Nat} (h : RevI l l' i) (hi : ¬ i < l.length - 1 - i) : l' = l.reverse := by
  obtain ⟨h1, h2⟩ := h
  refine List.ext_getElem? fun k => ?_
  rw [h2]
  by_cases e : k < i ∨ l.length ≤ k + i
  · rw [if_pos e]
  · rw [if_neg e]
    have : k = i := by omega
    rw [rev_at l (by omega)]
    congr 1; omega
theorem er_other {k : Int} {n : Nam} {hd : Hdr} {l : List TN} {r : RT} (h : (TN.mk k n hd l).er = r.ty) (h1 : ¬ k = 54) (h2 : ¬ k = 53) : k = 52 := by
  by_cases h3 : k = 52
  · exact h3
  · obtain ⟨_, _, _, _, _, h4, _⟩ := er_app h h3 h2
    exact absurd h4 h1
set_option maxHeartbeats 2000000 in
theorem reverse_r (w0 : World) (v : Value) (l : List TN) (hA : Owns w0 [slT v 33 tnE l]) (hlen : l.length ≤ 4611686018427387904) : Ret Try.prog 78 #[v] w0 (fun v2 w' => St w0 (blks [slT v 33 tnE l]) w' [slT v 33 tnE l.reverse]) := by
  have hO := St.init hA
  refine ret_of (m := 28) Try.func78 rfl Try.ntmps78 [(0, v)] rfl ⟨rfl, trivial⟩ fun a hF => ?_
  refine wp_seq ?_
  refine wp_region_lit ?_
  refine wl_v hF rfl rfl rfl (q_move rfl (hF.eval rfl)) fun a hF => ?_
  refine wl_v hF rfl rfl rfl (q_lenRd (hO.rd 0 rfl) Try.underlying31 rfl (hF.eval rfl)) fun a hF => ?_
  refine wl_v hF rfl rfl rfl (q_sub rfl (hF.eval rfl) (hF.eval rfl) (by omega)) fun a hF => ?_
  refine wl_v hF rfl rfl rfl (q_assign rfl (hF.eval rfl)) fun a hF => ?_
  refine wl_v hF rfl rfl rfl (q_assign rfl (hF.eval rfl)) fun a hF => ?_
  refine wl_nil ?_
  refine k_n ?_
  refine wp_block ?_
  have hO : St _ _ _ [_] := hO
  refine wp_loopS (fun (s : Nat × Int × List TN) a w' => match s with | (i, j, l') => (2 * i ≤ l.length + 1 ∧ j = (l.length : Int) - 1 - (i : Int) ∧ RevI l l' i) ∧ St w0 (blks [slT v 33 tnE l]) w' [slT v 33 tnE l'] ∧ Fr a 28 [(0, v), (2, i64 i), (3, i64 j)]) (fun (s : Nat × Int × List TN) => match s with | (i, j, l') => l.length - i) (0, (l.length : Int) - 1, l) ⟨⟨by omega, by show (l.length : Int) - 1 = (l.length : Int) - 1 - ((0 : Nat) : Int); omega, .start l⟩, hO, hF.sub ⟨rfl, rfl, rfl, trivial⟩⟩ ?_
  rintro ⟨i, j, l'⟩ a w ⟨⟨hi2, hj, hI⟩, hO, hF⟩
  have hl1 := hI.1
  refine wp_seq ?_
  refine wp_seq ?_
  refine wp_region_lit ?_
  refine wl_v hF rfl rfl rfl (q_move rfl (hF.eval rfl)) fun a hF => ?_
  refine wl_v hF rfl rfl rfl (q_move rfl (hF.eval rfl)) fun a hF => ?_
  refine wl_v hF rfl rfl rfl (q_lt rfl (hF.eval rfl) (hF.eval rfl)) fun a hF => ?_
  refine wl_nil ?_
  refine k_n ?_
  refine wp_ifD hF rfl rfl (fun hc1 => ?_) (fun hc1 => ?_)
  · skip
    refine wp_skip ?_
    refine k_n ?_
    refine wp_seq ?_
    refine wp_block ?_
    have hO := hO.drew
    refine wp_region_D [0, 0, 0, 0, 0, 0, 0, 1, 0, 0, 0, 1, 0, 3, 0, 3] (fun w => St _ _ w _) Try_mixed (by kernel_rfl) hO ?_
    refine wd_p hF rfl rfl rfl (fun w => q_move rfl (hF.eval rfl)) fun a hF => ?_
    refine wd_p hF rfl rfl rfl (fun w => q_move rfl (hF.eval rfl)) fun a hF => ?_
    refine wd_p hF rfl rfl rfl (fun w => q_move rfl (hF.eval rfl)) fun a hF => ?_
    refine wd_p hF rfl rfl rfl (fun w => q_move rfl (hF.eval rfl)) fun a hF => ?_
    refine wd_p hF rfl rfl rfl (fun w => q_move rfl (hF.eval rfl)) fun a hF => ?_
    refine wd_p hF rfl rfl rfl (fun w => q_move rfl (hF.eval rfl)) fun a hF => ?_
    obtain ⟨x, hx⟩ := get_ex (l := l') (i := (l.length - 1 - i)) (by have := hI.1; omega)
    refine wd_p hF rfl rfl rfl (fun w => q_at (i := (l.length - 1 - i)) (hO.rd 0 rfl) Try.underlying31 Try.sizeOf33 rfl (hF.eval rfl) ((hF.eval rfl).trans (congrArg i64 ((by omega : j = ((l.length - 1 - i : Nat) : Int))))) (by have := hI.1; omega)) fun a hF => ?_
    refine wd_r hF rfl rfl rfl (fun w hO => q_loadAgg Try.isAgg33 Try.sizeOf33 rfl (hF.eval rfl) (RdT.cells (hO.rdT 0 rfl) hx) rfl) fun a hF => ?_
    refine wd_p hF rfl rfl rfl (fun w => q_move rfl (hF.eval rfl)) fun a hF => ?_
    refine wd_p hF rfl rfl rfl (fun w => q_move rfl (hF.eval rfl)) fun a hF => ?_
    obtain ⟨y, hy⟩ := get_ex (l := l') (i := i) (by have := hI.1; omega)
    refine wd_p hF rfl rfl rfl (fun w => q_at (i := i) (hO.rd 0 rfl) Try.underlying31 Try.sizeOf33 rfl (hF.eval rfl) (hF.eval rfl) (by have := hI.1; omega)) fun a hF => ?_
    refine wd_r hF rfl rfl rfl (fun w hO => q_loadAgg Try.isAgg33 Try.sizeOf33 rfl (hF.eval rfl) (RdT.cells (hO.rdT 0 rfl) hy) rfl) fun a hF => ?_
    refine wd_p hF rfl rfl rfl (fun w => q_at (i := i) (hO.rd 0 rfl) Try.underlying31 Try.sizeOf33 rfl (hF.eval rfl) (hF.eval rfl) (by have := hI.1; omega)) fun a hF => ?_
    refine wd_s hF rfl rfl (e_storeElT (m := i) (off := 0) (q := x) hO (i := 0) rfl Try.sizeOf33 rfl (hF.eval rfl) rfl (hF.eval rfl) rfl hy rfl (Nat.le_of_ble_eq_true rfl) rfl (all1 rfl)) ?_
    rintro a _ w ⟨-, hO⟩ hF
    have hO : St _ _ _ [_] := hO
    refine wd_p hF rfl rfl rfl (fun w => q_at (i := (l.length - 1 - i)) (hO.rd 0 rfl) Try.underlying31 Try.sizeOf33 rfl (hF.eval rfl) ((hF.eval rfl).trans (congrArg i64 ((by omega : j = ((l.length - 1 - i : Nat) : Int))))) (by have := hI.1; rw [List.length_set]; omega)) fun a hF => ?_
    refine wd_s hF rfl rfl (e_storeElT (m := (l.length - 1 - i)) (off := 0) (q := y) hO (i := 0) rfl Try.sizeOf33 rfl (hF.eval rfl) rfl (hF.eval rfl) rfl (by rw [List.getElem?_set_ne (by omega)]; exact hx) rfl (Nat.le_of_ble_eq_true rfl) rfl (all1 rfl)) ?_
    rintro a _ w ⟨-, hO⟩ hF
    have hO : St _ _ _ [_] := hO
    refine wd_nil ?_
    refine b_n ?_
    refine k_n ?_
    refine wp_region_lit ?_
    refine wl_v hF rfl rfl rfl (q_move rfl (hF.eval rfl)) fun a hF => ?_
    refine wl_v hF rfl rfl rfl (q_add rfl (hF.eval rfl) (hF.eval rfl) (by omega)) fun a hF => ?_
    refine wl_v hF rfl rfl rfl (q_move rfl (hF.eval rfl)) fun a hF => ?_
    refine wl_v hF rfl rfl rfl (q_sub rfl (hF.eval rfl) (hF.eval rfl) (by omega)) fun a hF => ?_
    refine wl_v hF rfl rfl rfl (q_assign rfl (hF.eval rfl)) fun a hF => ?_
    refine wl_v hF rfl rfl rfl (q_assign rfl (hF.eval rfl)) fun a hF => ?_
    refine wl_nil ?_
    refine k_n ?_
    have hO : St _ _ _ [_] := hO
    exact ⟨(i + 1, j - 1, (l'.set i x).set (l.length - 1 - i) y), ⟨⟨by omega, by omega, hI.next (by omega) hx hy⟩, hO, hF.sub ⟨rfl, rfl, rfl, trivial⟩⟩, by dsimp only; omega⟩
  · skip
    have hnd : ¬ i < l.length - 1 - i := by omega
    refine wp_exit ?_
    refine k_x ?_
    refine k_x ?_
    refine b_x ?_
    refine r_0n hF rfl ?_
    have hO : St _ _ _ [_] := hO
    rw [← hI.done hnd]; exact hO

set_option maxHeartbeats 2000000 in
theorem spread_r (r : RT) (k0 : Int) (n0 : List UInt8) (hd0 : Hdr) (l0 : List TN) (w0 : World) (hR : RdN w0 [] (TN.mk k0 n0 hd0 l0)) (her : (TN.mk k0 n0 hd0 l0).er = r.ty) (hw : wtR r ≤ 2199023255552) : Ret Try.prog 67 #[.agg (tnE.cells (TN.mk k0 n0 hd0 l0)).toArray] w0 (fun v w' => ∃ (h : Hdr) (ls : List TN), v = .tuple #[str (spreadF r).1, h.v] ∧ ls.map TN.er = (spreadF r).2.map RT.ty ∧ (∀ x ∈ ls, Sbt (TN.mk k0 n0 hd0 l0) x) ∧ St w0 [] w' [slT h.v 33 tnE ls]) := by
  have hO := St.init0 w0
  have hwl := spread_wt r
  refine ret_of (m := 28) Try.func67 rfl Try.ntmps67 [(0, .agg (tnE.cells (TN.mk k0 n0 hd0 l0)).toArray)] rfl ⟨rfl, trivial⟩ fun a hF => ?_
  refine wp_seq ?_
  refine wp_region_lit ?_
  refine wl_e hF rfl rfl rfl (e_box hO rfl (hF.eval rfl) rfl) ?_
  rintro a _ w ⟨tk, rfl, hO⟩ hF
  refine wl_v hF rfl rfl rfl (q_assign rfl (hF.eval rfl)) fun a hF => ?_
  refine wl_v hF rfl rfl rfl (q_assign rfl (hF.eval rfl)) fun a hF => ?_
  refine wl_nil ?_
  refine k_n ?_
  refine wp_seq ?_
  refine wp_region_lit ?_
  refine wl_v hF rfl rfl rfl (q_assign rfl (hF.eval rfl)) fun a hF => ?_
  have hO := hO.nilSl 33 3
  refine wl_nil ?_
  refine k_n ?_
  refine wp_seq ?_
  refine wp_block ?_
  have hO := hO.pull 1 rfl
  have hO : St _ _ _ [_, _] := hO
  refine wp_loopS (fun (s : Int × Nam × Hdr × List TN × RT × Value × List TN × List RT) a w' => match s with | (k, n, hd, l, rc, vl, ls, rl) => ((∀ z, Sbt (TN.mk k n hd l) z → Sbt (TN.mk k0 n0 hd0 l0) z) ∧ (TN.mk k n hd l).er = rc.ty ∧ ls.map TN.er = rl.map RT.ty ∧ (∀ x ∈ ls, Sbt (TN.mk k0 n0 hd0 l0) x) ∧ spreadF r = ((spreadF rc).1, (spreadF rc).2 ++ rl.reverse)) ∧ St w0 [] w' [.ob tk 33 (tnE.cells (TN.mk k n hd l)), slT vl 33 tnE ls] ∧ Fr a 28 [(1, ptr (adr tk)), (4, vl)]) (fun (s : Int × Nam × Hdr × List TN × RT × Value × List TN × List RT) => match s with | (k, n, hd, l, rc, vl, ls, rl) => rc.nodes) (k0, n0, hd0, l0, r, _, [], []) ⟨⟨fun _ h => h, her, rfl, fun x hx => (by cases hx), by simp⟩, hO, hF.sub ⟨rfl, rfl, trivial⟩⟩ ?_
  rintro ⟨k, n, hd, l, rc, vl, ls, rl⟩ a w ⟨⟨hsb, hec, hls, hlR, hsp⟩, hO, hF⟩
  have hRc := (hsb _ (.refl _)).rd hR
  have hln := er_len hls
  have hrl : rl.length ≤ (spreadF r).2.length := by rw [hsp]; simp
  refine wp_seq ?_
  refine wp_seq ?_
  refine wp_region_lit ?_
  refine wl_v hF rfl rfl rfl (q_fieldAddr0 (d := 0) Try.underlying33 rfl (hF.eval rfl) rfl Try.sizeOf3 (by decide) rfl) fun a hF => ?_
  refine wl_v hF rfl rfl rfl (q_load Try.isAgg3 rfl (hF.eval rfl) (hO.cell 0 rfl rfl)) fun a hF => ?_
  refine wl_v hF rfl rfl rfl (q_eq rfl (hF.eval rfl) (hF.eval rfl)) fun a hF => ?_
  refine wl_nil ?_
  refine k_n ?_
  refine wp_ifD hF rfl rfl (fun hc1 => ?_) (fun hc1 => ?_)
  · skip
    obtain rfl : k = 54 := hc1
    obtain ⟨ra, rb, ta, tb, rfl, -, rfl, rfl, hea, heb⟩ := er_app hec (by decide) (by decide)
    obtain ⟨k9, n9, hd9, l9⟩ := ta
    have hpa := ra.pos
    have hpb := rb.pos
    have hnn : (RT.app ra rb).nodes = 1 + ra.nodes + rb.nodes := rfl
    refine wp_skip ?_
    refine k_n ?_
    refine wp_seq ?_
    refine wp_block ?_
    refine wp_region_lit ?_
    refine wl_v hF rfl rfl rfl (q_move rfl (hF.eval rfl)) fun a hF => ?_
    refine wl_v hF rfl rfl rfl (q_fieldAddr0 (d := 2) Try.underlying33 rfl (hF.eval rfl) rfl Try.sizeOf31 (by decide) rfl) fun a hF => ?_
    refine wl_v hF rfl rfl rfl (q_load Try.isAgg31 rfl (hF.eval rfl) (hO.cell 0 rfl rfl)) fun a hF => ?_
    refine wl_v hF rfl rfl rfl (q_at (i := 1) hRc.sl Try.underlying31 Try.sizeOf33 rfl (hF.eval rfl) (hF.eval rfl) (by simp)) fun a hF => ?_
    refine wl_v hF rfl rfl rfl (q_loadAgg Try.isAgg33 Try.sizeOf33 rfl (hF.eval rfl) (RdT.cells (hRc.sl.now hO) (show [TN.mk k9 n9 hd9 l9, tb][1]? = some tb from rfl)) rfl) fun a hF => ?_
    refine wl_e hF rfl rfl rfl (c_buildSlice hF hO Try.underlying31 Try.sizeOf33 Try.zeroValue33 rfl rfl rfl rfl rfl rfl rfl) ?_
    rintro a _ w ⟨b1, rfl, hO⟩ hF
    refine wl_e hF rfl rfl rfl (e_appendT (bytes := 48) (r := [tb]) hO (i := 2) rfl (hO.rd 0 rfl) Try.underlying31 Try_info33 rfl rfl rfl rfl rfl rfl (hF.eval rfl) (hF.eval rfl) (by show (List.length _ + 1) * 48 ≤ _; omega) (by show List.length _ + 1 ≤ _; omega)) ?_
    rintro a v18 w hO hF
    have hO : St _ _ _ [_, _, _] := hO
    refine wl_v hF rfl rfl rfl (q_assign rfl (hF.eval rfl)) fun a hF => ?_
    refine wl_nil ?_
    refine b_n ?_
    refine k_n ?_
    refine wp_region_lit ?_
    refine wl_v hF rfl rfl rfl (q_fieldAddr0 (d := 2) Try.underlying33 rfl (hF.eval rfl) rfl Try.sizeOf31 (by decide) rfl) fun a hF => ?_
    refine wl_v hF rfl rfl rfl (q_load Try.isAgg31 rfl (hF.eval rfl) (hO.cell 1 rfl rfl)) fun a hF => ?_
    refine wl_v hF rfl rfl rfl (q_at (i := 0) hRc.sl Try.underlying31 Try.sizeOf33 rfl (hF.eval rfl) (hF.eval rfl) (by simp)) fun a hF => ?_
    refine wl_v hF rfl rfl rfl (q_loadAgg Try.isAgg33 Try.sizeOf33 rfl (hF.eval rfl) (RdT.cells (hRc.sl.now hO) (show [TN.mk k9 n9 hd9 l9, tb][0]? = some (TN.mk k9 n9 hd9 l9) from rfl)) rfl) fun a hF => ?_
    refine wl_s hF rfl rfl (e_storeAll hO (i := 1) rfl Try.sizeOf33 rfl (hF.eval rfl) (hF.eval rfl) rfl rfl) ?_
    rintro a _ w ⟨-, hO⟩ hF
    have hO : St _ _ _ [_, _, _] := hO
    refine wl_nil ?_
    refine k_n ?_
    have hO := hO.drop1 0
    have hO : St _ _ _ [_, _] := hO
    exact ⟨(k9, n9, hd9, l9, ra, _, ls ++ [tb], rl ++ [rb]), ⟨⟨fun z hz => hsb z (.sub (by simp) hz), hea, by rw [List.map_append, List.map_append, hls]; show _ ++ [tb.er] = _ ++ [rb.ty]; rw [heb], fun x hx => (List.mem_append.1 hx).elim (hlR x) fun h => by rw [List.mem_singleton.1 h]; exact hsb _ (.sub (by simp) (.refl _)), by rw [hsp, List.reverse_append]; show (_, ((spreadF ra).2 ++ [rb]) ++ rl.reverse) = (_, (spreadF ra).2 ++ ([rb] ++ rl.reverse)); rw [List.append_assoc]; rfl⟩, hO, hF.sub ⟨rfl, rfl, trivial⟩⟩, by dsimp only; omega⟩
  · skip
    refine wp_exit ?_
    refine k_x ?_
    refine k_x ?_
    refine b_x ?_
    refine k_n ?_
    refine wp_seq ?_
    refine wp_region_lit ?_
    refine wl_v hF rfl rfl rfl (q_move rfl (hF.eval rfl)) fun a hF => ?_
    have hO := hO.pull 1 rfl
    have hO : St _ _ _ [_, _] := hO
    refine wl_e hF rfl rfl rfl (c_call hF rfl rfl Try.call78 (reverse_r _ _ _ hO.own1 (by omega))) ?_
    rintro a _ w hS hF
    have hO := hO.call1 hS
    have hO : St _ _ _ [_, _] := hO
    refine wl_nil ?_
    refine k_n ?_
    refine wp_seq ?_
    refine wp_seq ?_
    refine wp_region_lit ?_
    refine wl_v hF rfl rfl rfl (q_fieldAddr0 (d := 0) Try.underlying33 rfl (hF.eval rfl) rfl Try.sizeOf3 (by decide) rfl) fun a hF => ?_
    refine wl_v hF rfl rfl rfl (q_load Try.isAgg3 rfl (hF.eval rfl) (hO.cell 1 rfl rfl)) fun a hF => ?_
    refine wl_v hF rfl rfl rfl (q_eq rfl (hF.eval rfl) (hF.eval rfl)) fun a hF => ?_
    refine wl_nil ?_
    refine k_n ?_
    refine wp_ifD hF rfl rfl (fun hc2 => ?_) (fun hc2 => ?_)
    · skip
      obtain ⟨rfl, rfl⟩ := er_con hec hc2
      refine wp_seq ?_
      refine wp_region_lit ?_
      refine wl_v hF rfl rfl rfl (q_fieldAddr0 (d := 1) Try.underlying33 rfl (hF.eval rfl) rfl Try.sizeOf9 (by decide) rfl) fun a hF => ?_
      refine wl_v hF rfl rfl rfl (q_load Try.isAgg9 rfl (hF.eval rfl) (hO.cell 1 rfl rfl)) fun a hF => ?_
      refine wl_v hF rfl rfl rfl (q_move rfl (hF.eval rfl)) fun a hF => ?_
      refine wl_v hF rfl rfl rfl (q_assign rfl (hF.eval rfl)) fun a hF => ?_
      refine wl_v hF rfl rfl rfl (q_assign rfl (hF.eval rfl)) fun a hF => ?_
      refine wl_nil ?_
      refine k_n ?_
      refine wp_ret ?_
      refine k_r ?_
      refine r_2 hF rfl rfl rfl ?_
      have hO := hO.drop1 1
      have hO : St _ _ _ [_] := hO
      obtain ⟨q, rfl⟩ := Rd.hdr (hO.rd 0 rfl)
      refine ⟨q, ls.reverse, by rw [hsp]; rfl, ?_, fun x hx => hlR x (List.mem_reverse.1 hx), hO⟩
      rw [hsp, List.map_reverse, hls, ← List.map_reverse]; rfl
    · skip
      obtain ⟨rfl, rfl⟩ := er_var hec (er_other hec hc1 hc2)
      refine wp_skip ?_
      refine k_n ?_
      refine wp_seq ?_
      refine wp_region_lit ?_
      refine wl_v hF rfl rfl rfl (q_move rfl (hF.eval rfl)) fun a hF => ?_
      refine wl_v hF rfl rfl rfl (q_assign rfl (hF.eval rfl)) fun a hF => ?_
      refine wl_v hF rfl rfl rfl (q_assign rfl (hF.eval rfl)) fun a hF => ?_
      refine wl_nil ?_
      refine k_n ?_
      refine wp_ret ?_
      refine r_2 hF rfl rfl rfl ?_
      have hO := hO.drop1 1
      have hO : St _ _ _ [_] := hO
      obtain ⟨q, rfl⟩ := Rd.hdr (hO.rd 0 rfl)
      refine ⟨q, ls.reverse, by rw [hsp]; rfl, ?_, fun x hx => hlR x (List.mem_reverse.1 hx), hO⟩
      rw [hsp, List.map_reverse, hls, ← List.map_reverse]; rfl

end Go.Proofs.Ytfkmlcgccffmnaa
namespace Go.Proofs.Ytfkmlcgccffmnaa
open Go
set_option maxRecDepth 100000
set_option linter.unusedVariables false

theorem getD_at {α : Type} {l : List α} {i : Nat} {x : α} (h : l[i]? = some x) (d : α) : l.getD i d = x := by rw [List.getD_eq_getElem?_getD, h]; rfl
theorem bytes_of (n : Nam) : (⟨n.toArray⟩ : ByteArray).data.toList = n := rfl
theorem trim_r (w0 : World) (n p : Nam) : Ret Try.prog 65 #[str n, str p] w0 (fun v w' => v = str (Lib.trimPrefix n p) ∧ St w0 [] w' []) := by
  refine Calls.mono (Try.strings_TrimPrefix ⟨n.toArray⟩ ⟨p.toArray⟩ w0) fun e w' ⟨he, hw⟩ => ⟨_, he, rfl, ?_⟩
  rw [hw]; exact St.init0 w0
theorem join_r (w0 : World) (v : Value) (ps : List Nam) (sep : Nam) (hok : (slT v 9 strE ps).ok w0) (hn : 0 < ps.length) (hN : ps.length ≤ 140737488355328) (hlen : (Lib.join ps sep).length ≤ 140737488355328) : Ret Try.prog 68 #[v, str sep] w0 (fun u w' => u = str (Lib.join ps sep) ∧ St w0 [] w' []) := by
  have hR : RdT w0 [] v strE ps := Ent.rd hok (fun _ _ h => by cases h)
  have hrow : w0.ownsRow 0 9 1 v ps.length (flat strE ps) := hok
  rcases hrow.2 with ⟨h1, h2⟩ | ⟨g, cap, cur, rfl, h2, h3, h4, _⟩
  · rw [h1] at hR
    obtain ⟨A, cap, e, hq⟩ := hR.is
    injection e with e1 e2
    omega
  · have hmap : (ps.map fun p => (⟨p.toArray⟩ : ByteArray)).map (·.data.toList) = ps := by rw [List.map_map]; exact List.map_id _
    have hl : (ps.map fun p => (⟨p.toArray⟩ : ByteArray)).length = ps.length := List.length_map _
    have hc := Try.strings_Join g 0 cap (ps.map fun p => (⟨p.toArray⟩ : ByteArray)) ⟨sep.toArray⟩ w0 (fun j x hx => ?_) ?_ (by omega) ?_ (by rw [hmap]; exact hlen)
    · rw [hl, hmap] at hc
      exact Calls.mono hc fun e w' ⟨he, hb⟩ => ⟨_, he, rfl, st_below hb⟩
    · rw [List.getElem?_map] at hx
      obtain ⟨p, hp, rfl⟩ := Option.map_eq_some_iff.1 hx
      have := hR.cell0 hp rfl
      have e : j * strE.size = j := Nat.mul_one j
      rw [e] at this
      show w0.cell? ⟨g, 0 + j, none⟩ = some (str p)
      rcases Nat.eq_zero_or_pos j with rfl | hj
      · simpa [sa, Addr.add] using this
      · simpa [sa, Addr.add, Nat.ne_of_gt hj] using this
    · exact (hR.blk hn).1
    · rw [hl]; exact h4
theorem inn_r (q : Nat) (r : RT) (t : TN) (ih : ∀ (w0 : World), RdN w0 [] t → t.er = r.ty → wtR r ≤ 2199023255552 → Ret Try.prog 48 #[.agg (tnE.cells t).toArray] w0 (fun v w' => v = .tuple #[str (toldN q r).1, i64 (toldN q r).2] ∧ St w0 [] w' [])) (w0 : World) (hR : RdN w0 [] t) (her : t.er = r.ty) (hw : wtR r ≤ 2199023255552) (hlen : LenOk (toldN q) r) (least : Nat) : Ret Try.prog 66 #[.agg (tnE.cells t).toArray, i64 least] w0 (fun v w' => v = str (inT (toldN q) r least) ∧ St w0 [] w' []) := by
  have hO := St.init0 w0
  have hl9 : (toldN q r).1.length + 1 ≤ 4 * wtR r := hlen
  refine ret_of (m := 19) Try.func66 rfl Try.ntmps66 [(0, .agg (tnE.cells t).toArray), (1, i64 least)] rfl ⟨rfl, rfl, trivial⟩ fun a hF => ?_
  refine wp_seq ?_
  refine wp_region_lit ?_
  refine wl_e hF rfl rfl rfl (e_box hO rfl (hF.eval rfl) rfl) ?_
  rintro a _ w ⟨tk, rfl, hO⟩ hF
  refine wl_v hF rfl rfl rfl (q_assign rfl (hF.eval rfl)) fun a hF => ?_
  refine wl_nil ?_
  refine k_n ?_
  refine wp_seq ?_
  refine wp_region_lit ?_
  refine wl_v hF rfl rfl rfl (q_loadAgg Try.isAgg33 Try.sizeOf33 rfl (hF.eval rfl) (hO.cells 0 rfl) rfl) fun a hF => ?_
  refine wl_e hF rfl rfl rfl (c_call hF rfl rfl Try.call48 (ih _ (hR.at0 hO) her hw)) ?_
  rintro a _ w ⟨rfl, hS⟩ hF
  have hO := hO.call0 hS
  have hO : St _ _ _ [_] := hO
  refine wl_v hF rfl rfl rfl (q_move rfl (hF.eval rfl)) fun a hF => ?_
  refine wl_v hF rfl rfl rfl (q_extract rfl (hF.eval rfl) rfl) fun a hF => ?_
  refine wl_v hF rfl rfl rfl (q_extract rfl (hF.eval rfl) rfl) fun a hF => ?_
  refine wl_v hF rfl rfl rfl (q_assign rfl (hF.eval rfl)) fun a hF => ?_
  refine wl_v hF rfl rfl rfl (q_assign rfl (hF.eval rfl)) fun a hF => ?_
  refine wl_nil ?_
  refine k_n ?_
  refine wp_seq ?_
  refine wp_seq ?_
  refine wp_region_lit ?_
  refine wl_v hF rfl rfl rfl (q_move rfl (hF.eval rfl)) fun a hF => ?_
  refine wl_v hF rfl rfl rfl (q_move rfl (hF.eval rfl)) fun a hF => ?_
  refine wl_v hF rfl rfl rfl (q_lt rfl (hF.eval rfl) (hF.eval rfl)) fun a hF => ?_
  refine wl_nil ?_
  refine k_n ?_
  refine wp_ifD hF rfl rfl (fun hc1 => ?_) (fun hc1 => ?_)
  · skip
    refine wp_region_lit ?_
    refine wl_v hF rfl rfl rfl (q_move rfl (hF.eval rfl)) fun a hF => ?_
    refine wl_v hF rfl rfl rfl (q_cat rfl (hF.eval rfl) (hF.eval rfl) (by simp only [List.length_append, List.length_cons, List.length_nil]; omega)) fun a hF => ?_
    refine wl_v hF rfl rfl rfl (q_cat rfl (hF.eval rfl) (hF.eval rfl) (by simp only [List.length_append, List.length_cons, List.length_nil]; omega)) fun a hF => ?_
    refine wl_v hF rfl rfl rfl (q_assign rfl (hF.eval rfl)) fun a hF => ?_
    refine wl_nil ?_
    refine k_n ?_
    refine wp_seq ?_
    refine wp_region_lit ?_
    refine wl_v hF rfl rfl rfl (q_move rfl (hF.eval rfl)) fun a hF => ?_
    refine wl_v hF rfl rfl rfl (q_assign rfl (hF.eval rfl)) fun a hF => ?_
    refine wl_nil ?_
    refine k_n ?_
    refine wp_ret ?_
    refine r_1 hF rfl rfl ?_
    have hO := hO.drop1 0
    have hO : St _ _ _ [] := hO
    exact ⟨congrArg str (if_pos (by omega)).symm, hO⟩
  · skip
    refine wp_skip ?_
    refine k_n ?_
    refine wp_seq ?_
    refine wp_region_lit ?_
    refine wl_v hF rfl rfl rfl (q_move rfl (hF.eval rfl)) fun a hF => ?_
    refine wl_v hF rfl rfl rfl (q_assign rfl (hF.eval rfl)) fun a hF => ?_
    refine wl_nil ?_
    refine k_n ?_
    refine wp_ret ?_
    refine r_1 hF rfl rfl ?_
    have hO := hO.drop1 0
    have hO : St _ _ _ [] := hO
    exact ⟨congrArg str (if_neg (by omega)).symm, hO⟩

set_option maxHeartbeats 4000000 in
theorem told_i (q : Nat) (ih : ∀ r' : RT, r'.nodes < q → ∀ t : TN, ∀ (w0 : World), RdN w0 [] t → t.er = r'.ty → wtR r' ≤ 2199023255552 → Ret Try.prog 48 #[.agg (tnE.cells t).toArray] w0 (fun v w' => v = .tuple #[str (toldN q r').1, i64 (toldN q r').2] ∧ St w0 [] w' [])) (r : RT) (hq : r.nodes < q + 1) (k : Int) (n : List UInt8) (hd : Hdr) (l : List TN) (w0 : World) (hR : RdN w0 [] (TN.mk k n hd l)) (her : (TN.mk k n hd l).er = r.ty) (hw : wtR r ≤ 2199023255552) : Ret Try.prog 48 #[.agg (tnE.cells (TN.mk k n hd l)).toArray] w0 (fun v w' => v = .tuple #[str (toldN (q + 1) r).1, i64 (toldN (q + 1) r).2] ∧ St w0 [] w' []) := by
  have hO := St.init0 w0
  refine ret_of (m := 112) Try.func48 rfl Try.ntmps48 [(0, .agg (tnE.cells (TN.mk k n hd l)).toArray)] rfl ⟨rfl, trivial⟩ fun a hF => ?_
  refine wp_seq ?_
  refine wp_region_lit ?_
  refine wl_e hF rfl rfl rfl (e_box hO rfl (hF.eval rfl) rfl) ?_
  rintro a _ w ⟨tk, rfl, hO⟩ hF
  refine wl_v hF rfl rfl rfl (q_assign rfl (hF.eval rfl)) fun a hF => ?_
  refine wl_v hF rfl rfl rfl (q_assign rfl (hF.eval rfl)) fun a hF => ?_
  refine wl_nil ?_
  refine k_n ?_
  refine wp_seq ?_
  refine wp_seq ?_
  refine wp_region_lit ?_
  refine wl_v hF rfl rfl rfl (q_fieldAddr0 (d := 0) Try.underlying33 rfl (hF.eval rfl) rfl Try.sizeOf3 (by decide) rfl) fun a hF => ?_
  refine wl_v hF rfl rfl rfl (q_load Try.isAgg3 rfl (hF.eval rfl) (hO.cell 0 rfl rfl)) fun a hF => ?_
  refine wl_v hF rfl rfl rfl (q_ne rfl (hF.eval rfl) (hF.eval rfl)) fun a hF => ?_
  refine wl_nil ?_
  refine k_n ?_
  refine wp_ifD hF rfl rfl (fun hc1 => ?_) (fun hc1 => ?_)
  · skip
    refine wp_seq ?_
    refine wp_block ?_
    refine wp_seq ?_
    refine wp_region_lit ?_
    refine wl_v hF rfl rfl rfl (q_fieldAddr0 (d := 0) Try.underlying33 rfl (hF.eval rfl) rfl Try.sizeOf3 (by decide) rfl) fun a hF => ?_
    refine wl_v hF rfl rfl rfl (q_load Try.isAgg3 rfl (hF.eval rfl) (hO.cell 0 rfl rfl)) fun a hF => ?_
    refine wl_v hF rfl rfl rfl (q_ne rfl (hF.eval rfl) (hF.eval rfl)) fun a hF => ?_
    refine wl_v hF rfl rfl rfl (q_assign rfl (hF.eval rfl)) fun a hF => ?_
    refine wl_nil ?_
    refine k_n ?_
    refine wp_ifD hF rfl rfl (fun hc2 => ?_) (fun hc2 => ?_)
    · skip
      obtain ⟨rfl, rfl⟩ := er_var her (er_other her hc1 hc2)
      refine wp_seq ?_
      refine wp_region_lit ?_
      refine wl_v hF rfl rfl rfl (q_fieldAddr0 (d := 1) Try.underlying33 rfl (hF.eval rfl) rfl Try.sizeOf9 (by decide) rfl) fun a hF => ?_
      refine wl_v hF rfl rfl rfl (q_load Try.isAgg9 rfl (hF.eval rfl) (hO.cell 0 rfl rfl)) fun a hF => ?_
      refine wl_v hF rfl rfl rfl (q_assign rfl (hF.eval rfl)) fun a hF => ?_
      refine wl_v hF rfl rfl rfl (q_assign rfl (hF.eval rfl)) fun a hF => ?_
      refine wl_nil ?_
      refine k_n ?_
      refine wp_ret ?_
      refine b_r ?_
      refine k_r ?_
      refine k_r ?_
      refine r_2 hF rfl rfl rfl ?_
      have hO := hO.drop1 0
      have hO : St _ _ _ [] := hO
      exact ⟨rfl, hO⟩
    · skip
      obtain ⟨rfl, rfl⟩ := er_con her (Classical.not_not.1 hc2)
      refine wp_seq ?_
      refine wp_region_lit ?_
      refine wl_v hF rfl rfl rfl (q_fieldAddr0 (d := 1) Try.underlying33 rfl (hF.eval rfl) rfl Try.sizeOf9 (by decide) rfl) fun a hF => ?_
      refine wl_v hF rfl rfl rfl (q_load Try.isAgg9 rfl (hF.eval rfl) (hO.cell 0 rfl rfl)) fun a hF => ?_
      refine wl_v hF rfl rfl rfl (q_seq rfl (hF.eval rfl) (hF.eval rfl)) fun a hF => ?_
      refine wl_v hF rfl rfl rfl (q_assign rfl (hF.eval rfl)) fun a hF => ?_
      refine wl_nil ?_
      refine k_n ?_
      refine wp_ifD hF rfl rfl (fun hc3 => ?_) (fun hc3 => ?_)
      · skip
        refine wp_seq ?_
        refine wp_region_lit ?_
        refine wl_v hF rfl rfl rfl (q_assign rfl (hF.eval rfl)) fun a hF => ?_
        refine wl_v hF rfl rfl rfl (q_assign rfl (hF.eval rfl)) fun a hF => ?_
        refine wl_nil ?_
        refine k_n ?_
        refine wp_ret ?_
        refine b_r ?_
        refine k_r ?_
        refine k_r ?_
        refine r_2 hF rfl rfl rfl ?_
        have hO := hO.drop1 0
        have hO : St _ _ _ [] := hO
        have e : toldN (q + 1) (.con n) = (sArrP, 2) := if_pos hc3
        rw [e]; exact ⟨rfl, hO⟩
      · skip
        refine wp_skip ?_
        refine b_n ?_
        refine k_n ?_
        refine wp_seq ?_
        refine wp_region_lit ?_
        refine wl_v hF rfl rfl rfl (q_fieldAddr0 (d := 1) Try.underlying33 rfl (hF.eval rfl) rfl Try.sizeOf9 (by decide) rfl) fun a hF => ?_
        refine wl_v hF rfl rfl rfl (q_load Try.isAgg9 rfl (hF.eval rfl) (hO.cell 0 rfl rfl)) fun a hF => ?_
        refine wl_e hF rfl rfl rfl (c_call hF rfl rfl Try.call65 (trim_r _ _ _)) ?_
        rintro a _ w ⟨rfl, hS⟩ hF
        have hO := hO.call0 hS
        have hO : St _ _ _ [_] := hO
        refine wl_v hF rfl rfl rfl (q_assign rfl (hF.eval rfl)) fun a hF => ?_
        refine wl_v hF rfl rfl rfl (q_assign rfl (hF.eval rfl)) fun a hF => ?_
        refine wl_nil ?_
        refine k_n ?_
        refine wp_ret ?_
        refine k_r ?_
        refine r_2 hF rfl rfl rfl ?_
        have hO := hO.drop1 0
        have hO : St _ _ _ [] := hO
        have e : toldN (q + 1) (.con n) = (Lib.trimPrefix n sPrim, 2) := if_neg hc3
        rw [e]; exact ⟨rfl, hO⟩
  · skip
    obtain rfl : k = 54 := Classical.not_not.1 hc1
    obtain ⟨ra, rb, ta, tb, rfl, -, rfl, rfl, hea, heb⟩ := er_app her (by decide) (by decide)
    have hnn : (RT.app ra rb).nodes = 1 + ra.nodes + rb.nodes := rfl
    have hpa := ra.pos
    have hpb := rb.pos
    have hww := wtR_app ra rb
    have hsw := spread_wt (.app ra rb)
    have hLa := inT_len (told_len q ra (by omega))
    have hLb := inT_len (told_len q rb (by omega))
    refine wp_skip ?_
    refine k_n ?_
    refine wp_seq ?_
    refine wp_region_lit ?_
    refine wl_v hF rfl rfl rfl (q_assign rfl (hF.eval rfl)) fun a hF => ?_
    refine wl_nil ?_
    refine k_n ?_
    refine wp_seq ?_
    refine wp_region_lit ?_
    refine wl_v hF rfl rfl rfl (q_loadAgg Try.isAgg33 Try.sizeOf33 rfl (hF.eval rfl) (hO.cells 0 rfl) rfl) fun a hF => ?_
    refine wl_e hF rfl rfl rfl (c_call hF rfl rfl Try.call67 (spread_r (.app ra rb) 54 [] hd [ta, tb] _ (hR.at0 hO) her hw)) ?_
    rintro a _ w ⟨hh, ls, rfl, hls, hlR, hS⟩ hF
    have hO := hO.call0 hS
    have hO : St _ _ _ [_, _] := hO
    have hln := er_len hls
    refine wl_v hF rfl rfl rfl (q_move rfl (hF.eval rfl)) fun a hF => ?_
    refine wl_v hF rfl rfl rfl (q_extract rfl (hF.eval rfl) rfl) fun a hF => ?_
    refine wl_v hF rfl rfl rfl (q_extract rfl (hF.eval rfl) rfl) fun a hF => ?_
    refine wl_v hF rfl rfl rfl (q_assign rfl (hF.eval rfl)) fun a hF => ?_
    refine wl_v hF rfl rfl rfl (q_assign rfl (hF.eval rfl)) fun a hF => ?_
    refine wl_nil ?_
    refine k_n ?_
    refine wp_seq ?_
    refine wp_block ?_
    refine wp_seq ?_
    refine wp_region_lit ?_
    refine wl_v hF rfl rfl rfl (q_move rfl (hF.eval rfl)) fun a hF => ?_
    refine wl_v hF rfl rfl rfl (q_seq rfl (hF.eval rfl) (hF.eval rfl)) fun a hF => ?_
    refine wl_v hF rfl rfl rfl (q_move rfl (hF.eval rfl)) fun a hF => ?_
    refine wl_g hF rfl rfl rfl rfl rfl rfl (fun hg => q_move rfl (hF.eval rfl)) fun a hF => ?_
    refine wl_g hF rfl rfl rfl rfl rfl rfl (fun hg => q_lenRd (hO.rd 0 rfl) Try.underlying31 rfl ((hF.eval rfl).trans (gv_of hg))) fun a hF => ?_
    refine wl_g hF rfl rfl rfl rfl rfl rfl (fun hg => q_eq rfl ((hF.eval rfl).trans (gv_of hg)) (hF.eval rfl)) fun a hF => ?_
    refine wl_v hF rfl rfl rfl (q_and rfl (hF.eval rfl) rfl (fun hg2 => ((hF.eval rfl).trans (gv_of hg2))) rfl) fun a hF => ?_
    refine wl_v hF rfl rfl rfl (q_assign rfl (hF.eval rfl)) fun a hF => ?_
    refine wl_nil ?_
    refine k_n ?_
    refine wp_ifD hF rfl rfl (fun hc4 => ?_) (fun hc4 => ?_)
    · skip
      refine wp_seq ?_
      have hO := hO.drew
      refine wp_region_D [0, 0, 0, 1, 2, 0, 0, 0, 0, 1, 3, 0, 0, 0] (fun w => St _ _ w _) Try_mixed (by kernel_rfl) hO ?_
      refine wd_p hF rfl rfl rfl (fun w => q_move rfl (hF.eval rfl)) fun a hF => ?_
      refine wd_p hF rfl rfl rfl (fun w => q_move rfl (hF.eval rfl)) fun a hF => ?_
      obtain ⟨x0, hx0⟩ := get_ex (l := ls) (i := 0) (by omega)
      refine wd_p hF rfl rfl rfl (fun w => q_at (i := 0) (hO.rd 0 rfl) Try.underlying31 Try.sizeOf33 rfl (hF.eval rfl) (hF.eval rfl) (by omega)) fun a hF => ?_
      refine wd_r hF rfl rfl rfl (fun w hO => q_loadAgg Try.isAgg33 Try.sizeOf33 rfl (hF.eval rfl) (RdT.cells (hO.rdT 0 rfl) hx0) rfl) fun a hF => ?_
      obtain ⟨r0, hr0, her0⟩ := er_at hls hx0
      have hmr0 := List.mem_of_getElem? hr0
      have hnr0 : r0.nodes < q := by have := spread_nodes _ r0 hmr0; omega
      have hwr0 : wtR r0 ≤ 2199023255552 := by have := wtS_mem hmr0; omega
      have hRx0 := (hlR x0 (List.mem_of_getElem? hx0)).rd hR
      have hLr0 := inT_len (told_len q r0 hnr0)
      refine wd_e hF rfl rfl rfl (c_callV hF rfl (hF.eval rfl) rfl rfl Try.call66 (inn_r q r0 x0 (ih r0 hnr0 x0) _ (hRx0.at0 hO) her0 hwr0 (told_len q r0 hnr0) 1)) (fun _ _ ⟨_, hS⟩ => hO.call0 hS) ?_
      rintro a _ w ⟨rfl, hS⟩ hF
      have hO := hO.call0 hS
      have hO : St _ _ _ [_, _] := hO
      have hL0 := hLr0 1
      refine wd_p hF rfl rfl rfl (fun w => q_cat rfl (hF.eval rfl) (hF.eval rfl) (by simp only [List.length_append, List.length_cons, List.length_nil]; omega)) fun a hF => ?_
      refine wd_p hF rfl rfl rfl (fun w => q_move rfl (hF.eval rfl)) fun a hF => ?_
      refine wd_p hF rfl rfl rfl (fun w => q_move rfl (hF.eval rfl)) fun a hF => ?_
      obtain ⟨x1, hx1⟩ := get_ex (l := ls) (i := 1) (by omega)
      refine wd_p hF rfl rfl rfl (fun w => q_at (i := 1) (hO.rd 0 rfl) Try.underlying31 Try.sizeOf33 rfl (hF.eval rfl) (hF.eval rfl) (by omega)) fun a hF => ?_
      refine wd_r hF rfl rfl rfl (fun w hO => q_loadAgg Try.isAgg33 Try.sizeOf33 rfl (hF.eval rfl) (RdT.cells (hO.rdT 0 rfl) hx1) rfl) fun a hF => ?_
      obtain ⟨r1, hr1, her1⟩ := er_at hls hx1
      have hmr1 := List.mem_of_getElem? hr1
      have hnr1 : r1.nodes < q := by have := spread_nodes _ r1 hmr1; omega
      have hwr1 : wtR r1 ≤ 2199023255552 := by have := wtS_mem hmr1; omega
      have hRx1 := (hlR x1 (List.mem_of_getElem? hx1)).rd hR
      have hLr1 := inT_len (told_len q r1 hnr1)
      refine wd_f hF rfl rfl rfl (c_callV hF rfl (hF.eval rfl) rfl rfl Try.call66 (inn_r q r1 x1 (ih r1 hnr1 x1) _ (hRx1.at0 hO) her1 hwr1 (told_len q r1 hnr1) 0)) ?_
      rintro a _ w ⟨rfl, hS⟩ hF
      have hO := hO.call0 hS
      have hO : St _ _ _ [_, _] := hO
      have hL1 := hLr1 0
      refine wd_p hF rfl rfl rfl (fun w => q_cat rfl (hF.eval rfl) (hF.eval rfl) (by simp only [List.length_append, List.length_cons, List.length_nil]; omega)) fun a hF => ?_
      refine wd_p hF rfl rfl rfl (fun w => q_assign rfl (hF.eval rfl)) fun a hF => ?_
      refine wd_p hF rfl rfl rfl (fun w => q_assign rfl (hF.eval rfl)) fun a hF => ?_
      refine wd_nil ?_
      refine k_n ?_
      refine wp_ret ?_
      refine b_r ?_
      refine k_r ?_
      refine r_2 hF rfl rfl rfl ?_
      have hO := hO.drop1 0
      have hO := hO.drop1 0
      have hO : St _ _ _ [] := hO
      have e : toldN (q + 1) (.app ra rb) = ((inT (toldN q) r0 1 ++ sTo) ++ inT (toldN q) r1 0, 0) := by
        show toldA _ _ _ = _
        unfold toldA
        rw [if_pos ⟨hc4.1, by omega⟩, getD_at hr0, getD_at hr1]
      rw [e]; exact ⟨rfl, hO⟩
    · skip
      refine wp_seq ?_
      refine wp_region_lit ?_
      refine wl_v hF rfl rfl rfl (q_move rfl (hF.eval rfl)) fun a hF => ?_
      refine wl_v hF rfl rfl rfl (q_seq rfl (hF.eval rfl) (hF.eval rfl)) fun a hF => ?_
      refine wl_v hF rfl rfl rfl (q_move rfl (hF.eval rfl)) fun a hF => ?_
      refine wl_g hF rfl rfl rfl rfl rfl rfl (fun hg => q_move rfl (hF.eval rfl)) fun a hF => ?_
      refine wl_g hF rfl rfl rfl rfl rfl rfl (fun hg => q_lenRd (hO.rd 0 rfl) Try.underlying31 rfl ((hF.eval rfl).trans (gv_of hg))) fun a hF => ?_
      refine wl_g hF rfl rfl rfl rfl rfl rfl (fun hg => q_eq rfl ((hF.eval rfl).trans (gv_of hg)) (hF.eval rfl)) fun a hF => ?_
      refine wl_v hF rfl rfl rfl (q_and rfl (hF.eval rfl) rfl (fun hg2 => ((hF.eval rfl).trans (gv_of hg2))) rfl) fun a hF => ?_
      refine wl_v hF rfl rfl rfl (q_assign rfl (hF.eval rfl)) fun a hF => ?_
      refine wl_nil ?_
      refine k_n ?_
      refine wp_ifD hF rfl rfl (fun hc5 => ?_) (fun hc5 => ?_)
      · skip
        refine wp_seq ?_
        refine wp_region_lit ?_
        refine wl_v hF rfl rfl rfl (q_move rfl (hF.eval rfl)) fun a hF => ?_
        refine wl_v hF rfl rfl rfl (q_move rfl (hF.eval rfl)) fun a hF => ?_
        obtain ⟨x0, hx0⟩ := get_ex (l := ls) (i := 0) (by omega)
        refine wl_v hF rfl rfl rfl (q_at (i := 0) (hO.rd 0 rfl) Try.underlying31 Try.sizeOf33 rfl (hF.eval rfl) (hF.eval rfl) (by omega)) fun a hF => ?_
        refine wl_v hF rfl rfl rfl (q_loadAgg Try.isAgg33 Try.sizeOf33 rfl (hF.eval rfl) (RdT.cells (hO.rdT 0 rfl) hx0) rfl) fun a hF => ?_
        obtain ⟨r0, hr0, her0⟩ := er_at hls hx0
        have hmr0 := List.mem_of_getElem? hr0
        have hnr0 : r0.nodes < q := by have := spread_nodes _ r0 hmr0; omega
        have hwr0 : wtR r0 ≤ 2199023255552 := by have := wtS_mem hmr0; omega
        have hRx0 := (hlR x0 (List.mem_of_getElem? hx0)).rd hR
        have hLr0 := inT_len (told_len q r0 hnr0)
        refine wl_e hF rfl rfl rfl (c_callV hF rfl (hF.eval rfl) rfl rfl Try.call66 (inn_r q r0 x0 (ih r0 hnr0 x0) _ (hRx0.at0 hO) her0 hwr0 (told_len q r0 hnr0) 0)) ?_
        rintro a _ w ⟨rfl, hS⟩ hF
        have hO := hO.call0 hS
        have hO : St _ _ _ [_, _] := hO
        have hL0 := hLr0 0
        refine wl_v hF rfl rfl rfl (q_cat rfl (hF.eval rfl) (hF.eval rfl) (by simp only [List.length_append, List.length_cons, List.length_nil]; omega)) fun a hF => ?_
        refine wl_v hF rfl rfl rfl (q_cat rfl (hF.eval rfl) (hF.eval rfl) (by simp only [List.length_append, List.length_cons, List.length_nil]; omega)) fun a hF => ?_
        refine wl_v hF rfl rfl rfl (q_assign rfl (hF.eval rfl)) fun a hF => ?_
        refine wl_v hF rfl rfl rfl (q_assign rfl (hF.eval rfl)) fun a hF => ?_
        refine wl_nil ?_
        refine k_n ?_
        refine wp_ret ?_
        refine b_r ?_
        refine k_r ?_
        refine r_2 hF rfl rfl rfl ?_
        have hO := hO.drop1 0
        have hO := hO.drop1 0
        have hO : St _ _ _ [] := hO
        have e : toldN (q + 1) (.app ra rb) = (([91] ++ inT (toldN q) r0 0) ++ [93], 2) := by
          show toldA _ _ _ = _
          unfold toldA
          rw [if_neg (fun h => hc4 ⟨h.1, by omega⟩), if_pos ⟨hc5.1, by omega⟩, getD_at hr0]
        rw [e]; exact ⟨rfl, hO⟩
      · skip
        refine wp_seq ?_
        refine wp_seq ?_
        refine wp_region_lit ?_
        refine wl_v hF rfl rfl rfl (q_move rfl (hF.eval rfl)) fun a hF => ?_
        refine wl_v hF rfl rfl rfl (q_seq rfl (hF.eval rfl) (hF.eval rfl)) fun a hF => ?_
        refine wl_v hF rfl rfl rfl (q_move rfl (hF.eval rfl)) fun a hF => ?_
        refine wl_g hF rfl rfl rfl rfl rfl rfl (fun hg => q_move rfl (hF.eval rfl)) fun a hF => ?_
        refine wl_g hF rfl rfl rfl rfl rfl rfl (fun hg => q_lenRd (hO.rd 0 rfl) Try.underlying31 rfl ((hF.eval rfl).trans (gv_of hg))) fun a hF => ?_
        refine wl_g hF rfl rfl rfl rfl rfl rfl (fun hg => q_eq rfl ((hF.eval rfl).trans (gv_of hg)) (hF.eval rfl)) fun a hF => ?_
        refine wl_v hF rfl rfl rfl (q_and rfl (hF.eval rfl) rfl (fun hg2 => ((hF.eval rfl).trans (gv_of hg2))) rfl) fun a hF => ?_
        refine wl_v hF rfl rfl rfl (q_assign rfl (hF.eval rfl)) fun a hF => ?_
        refine wl_nil ?_
        refine k_n ?_
        refine wp_ifD hF rfl rfl (fun hc6 => ?_) (fun hc6 => ?_)
        · skip
          have h3 : ((spreadF (.app ra rb)).1 = sTup ∧ (spreadF (.app ra rb)).2.length = 2) ∨ ((spreadF (.app ra rb)).1 = sTri ∧ (spreadF (.app ra rb)).2.length = 3) := .inl ⟨hc6.1, by omega⟩
          refine wp_skip ?_
          refine k_n ?_
          refine wp_ifD hF rfl rfl (fun hc7 => ?_) (fun hc7 => ?_)
          · skip
            refine wp_seq ?_
            refine wp_region_lit ?_
            refine wl_v hF rfl rfl rfl (q_assign rfl (hF.eval rfl)) fun a hF => ?_
            have hO := hO.nilSl 9 1
            refine wl_nil ?_
            refine k_n ?_
            refine wp_seq ?_
            refine wp_seq ?_
            refine wp_region_lit ?_
            refine wl_v hF rfl rfl rfl (q_move rfl (hF.eval rfl)) fun a hF => ?_
            refine wl_v hF rfl rfl rfl (q_lenRd (hO.rd 1 rfl) Try.underlying31 rfl (hF.eval rfl)) fun a hF => ?_
            refine wl_v hF rfl rfl rfl (q_move rfl (hF.eval rfl)) fun a hF => ?_
            refine wl_nil ?_
            refine k_n ?_
            refine wp_block ?_
            have hO := hO.drop1 2
            have hO := hO.pull 1 rfl
            have hO : St _ _ _ [_, _] := hO
            refine wp_loopS (fun (s : Nat × Value) a w' => match s with | (i, vp) => (i ≤ ls.length) ∧ St w0 [] w' [slT hh.v 33 tnE ls, slT vp 9 strE (((spreadF (.app ra rb)).2.take i).map fun r => inT (toldN q) r 0)] ∧ Fr a 112 [(4, .func (.func 66) #[] #[]), (81, hh.v), (82, i64 ls.length), (83, i64 i), (7, vp)]) (fun (s : Nat × Value) => match s with | (i, vp) => ls.length - i) (0, _) ⟨by omega, hO, hF.sub ⟨rfl, rfl, rfl, rfl, rfl, trivial⟩⟩ ?_
            rintro ⟨i, vp⟩ a w ⟨hi, hO, hF⟩
            have htl : (((spreadF (.app ra rb)).2.take i).map (fun r => inT (toldN q) r 0)).length = i := by rw [List.length_map, List.length_take]; omega
            refine wp_seq ?_
            refine wp_region_lit ?_
            refine wl_v hF rfl rfl rfl (q_lt rfl (hF.eval rfl) (hF.eval rfl)) fun a hF => ?_
            refine wl_nil ?_
            refine k_n ?_
            refine wp_seq ?_
            refine wp_ifD hF rfl rfl (fun hc8 => ?_) (fun hc8 => ?_)
            · skip
              refine wp_skip ?_
              refine k_n ?_
              refine wp_seq ?_
              refine wp_block ?_
              refine wp_seq ?_
              refine wp_region_lit ?_
              obtain ⟨x, hx⟩ := get_ex (l := ls) (i := i) (by omega)
              refine wl_v hF rfl rfl rfl (q_at (i := i) (hO.rd 0 rfl) Try.underlying31 Try.sizeOf33 rfl (hF.eval rfl) (hF.eval rfl) (by omega)) fun a hF => ?_
              refine wl_v hF rfl rfl rfl (q_loadAgg Try.isAgg33 Try.sizeOf33 rfl (hF.eval rfl) (RdT.cells (hO.rdT 0 rfl) hx) rfl) fun a hF => ?_
              obtain ⟨ri, hri, heri⟩ := er_at hls hx
              have hmri := List.mem_of_getElem? hri
              have hnri : ri.nodes < q := by have := spread_nodes _ ri hmri; omega
              have hwri : wtR ri ≤ 2199023255552 := by have := wtS_mem hmri; omega
              have hRx := (hlR x (List.mem_of_getElem? hx)).rd hR
              have hLri := inT_len (told_len q ri hnri)
              refine wl_e hF rfl rfl rfl (e_alloc hO Try.zeroValue33 rfl rfl) ?_
              rintro a _ w ⟨ta, rfl, hO⟩ hF
              refine wl_s hF rfl rfl (e_storeAll hO (i := 0) rfl Try.sizeOf33 rfl (hF.eval rfl) (hF.eval rfl) rfl rfl) ?_
              rintro a _ w ⟨-, hO⟩ hF
              have hO : St _ _ _ [_, _, _] := hO
              refine wl_nil ?_
              refine k_n ?_
              refine wp_region_lit ?_
              refine wl_v hF rfl rfl rfl (q_move rfl (hF.eval rfl)) fun a hF => ?_
              refine wl_v hF rfl rfl rfl (q_move rfl (hF.eval rfl)) fun a hF => ?_
              refine wl_v hF rfl rfl rfl (q_loadAgg Try.isAgg33 Try.sizeOf33 rfl (hF.eval rfl) (hO.cells 0 rfl) rfl) fun a hF => ?_
              refine wl_e hF rfl rfl rfl (c_callV hF rfl (hF.eval rfl) rfl rfl Try.call66 (inn_r q ri x (ih ri hnri x) _ (hRx.at0 hO) heri hwri (told_len q ri hnri) 0)) ?_
              rintro a _ w ⟨rfl, hS⟩ hF
              have hO := hO.call0 hS
              have hO : St _ _ _ [_, _, _] := hO
              refine wl_e hF rfl rfl rfl (c_buildSlice hF hO Try.underlying56 Try.sizeOf9 Try.zeroValue9 rfl rfl rfl rfl rfl rfl rfl) ?_
              rintro a _ w ⟨b3, rfl, hO⟩ hF
              refine wl_e hF rfl rfl rfl (e_appendT (bytes := 16) (r := [inT (toldN q) ri 0]) hO (i := 3) rfl (hO.rd 0 rfl) Try.underlying56 Try_info9 rfl rfl rfl rfl rfl rfl (hF.eval rfl) (hF.eval rfl) (by show (List.length _ + 1) * 16 ≤ _; omega) (by show List.length _ + 1 ≤ _; omega)) ?_
              rintro a v92 w hO hF
              have hO : St _ _ _ [_, _, _, _] := hO
              refine wl_v hF rfl rfl rfl (q_assign rfl (hF.eval rfl)) fun a hF => ?_
              refine wl_nil ?_
              refine b_n ?_
              refine k_n ?_
              refine wp_region_lit ?_
              refine wl_v hF rfl rfl rfl (q_add rfl (hF.eval rfl) (hF.eval rfl) (by omega)) fun a hF => ?_
              refine wl_v hF rfl rfl rfl (q_move rfl (hF.eval rfl)) fun a hF => ?_
              refine wl_nil ?_
              refine k_n ?_
              have hO := hO.drop1 0
              have hO := hO.drop1 0
              have hO : St _ _ _ [_, _] := hO
              have e9 : ((spreadF (.app ra rb)).2.take (i + 1)).map (fun r => inT (toldN q) r 0) = ((spreadF (.app ra rb)).2.take i).map (fun r => inT (toldN q) r 0) ++ [inT (toldN q) ri 0] := by rw [takeAt hri, List.map_append]; rfl
              rw [← e9] at hO
              exact ⟨(i + 1, _), ⟨by omega, hO, hF.sub ⟨rfl, rfl, rfl, rfl, rfl, trivial⟩⟩, by dsimp only; omega⟩
            · skip
              have hti : (spreadF (.app ra rb)).2.take i = (spreadF (.app ra rb)).2 := List.take_of_length_le (by omega)
              rw [hti] at hO
              have hjl := join_len (spreadF (.app ra rb)).2 (fun r hr => told_len q r (by have := spread_nodes _ r hr; omega))
              have hpl : ((spreadF (.app ra rb)).2.map (fun r => inT (toldN q) r 0)).length = (spreadF (.app ra rb)).2.length := List.length_map _
              have hl3 : 2 ≤ (spreadF (.app ra rb)).2.length := by rcases h3 with h | h <;> omega
              refine wp_exit ?_
              refine k_x ?_
              refine k_x ?_
              refine b_x ?_
              refine k_n ?_
              refine wp_seq ?_
              refine wp_region_lit ?_
              refine wl_v hF rfl rfl rfl (q_move rfl (hF.eval rfl)) fun a hF => ?_
              refine wl_e hF rfl rfl rfl (c_call hF rfl rfl Try.call68 (join_r _ _ _ [44, 32] (hO.ok (i := 1) rfl) (by omega) (by omega) (by omega))) ?_
              rintro a _ w ⟨rfl, hS⟩ hF
              have hO := hO.call0 hS
              have hO : St _ _ _ [_, _] := hO
              refine wl_v hF rfl rfl rfl (q_cat rfl (hF.eval rfl) (hF.eval rfl) (by simp only [List.length_append, List.length_cons, List.length_nil]; omega)) fun a hF => ?_
              refine wl_v hF rfl rfl rfl (q_cat rfl (hF.eval rfl) (hF.eval rfl) (by simp only [List.length_append, List.length_cons, List.length_nil]; omega)) fun a hF => ?_
              refine wl_v hF rfl rfl rfl (q_assign rfl (hF.eval rfl)) fun a hF => ?_
              refine wl_v hF rfl rfl rfl (q_assign rfl (hF.eval rfl)) fun a hF => ?_
              refine wl_nil ?_
              refine k_n ?_
              refine wp_ret ?_
              refine b_r ?_
              refine k_r ?_
              refine r_2 hF rfl rfl rfl ?_
              have hO := hO.drop1 0
              have hO := hO.drop1 0
              have hO : St _ _ _ [] := hO
              have e : toldN (q + 1) (.app ra rb) = (([40] ++ Lib.join ((spreadF (.app ra rb)).2.map (fun r => inT (toldN q) r 0)) [44, 32]) ++ [41], 2) := by
                show toldA _ _ _ = _
                unfold toldA
                rw [if_neg (fun h => hc4 ⟨h.1, by omega⟩), if_neg (fun h => hc5 ⟨h.1, by omega⟩), if_pos h3]
              rw [e]; exact ⟨rfl, hO⟩
          · skip
            exact absurd hc6 hc7
        · skip
          refine wp_region_lit ?_
          refine wl_v hF rfl rfl rfl (q_move rfl (hF.eval rfl)) fun a hF => ?_
          refine wl_v hF rfl rfl rfl (q_seq rfl (hF.eval rfl) (hF.eval rfl)) fun a hF => ?_
          refine wl_v hF rfl rfl rfl (q_move rfl (hF.eval rfl)) fun a hF => ?_
          refine wl_g hF rfl rfl rfl rfl rfl rfl (fun hg => q_move rfl (hF.eval rfl)) fun a hF => ?_
          refine wl_g hF rfl rfl rfl rfl rfl rfl (fun hg => q_lenRd (hO.rd 0 rfl) Try.underlying31 rfl ((hF.eval rfl).trans (gv_of hg))) fun a hF => ?_
          refine wl_g hF rfl rfl rfl rfl rfl rfl (fun hg => q_eq rfl ((hF.eval rfl).trans (gv_of hg)) (hF.eval rfl)) fun a hF => ?_
          refine wl_v hF rfl rfl rfl (q_and rfl (hF.eval rfl) rfl (fun hg2 => ((hF.eval rfl).trans (gv_of hg2))) rfl) fun a hF => ?_
          refine wl_v hF rfl rfl rfl (q_assign rfl (hF.eval rfl)) fun a hF => ?_
          refine wl_nil ?_
          refine k_n ?_
          refine wp_ifD hF rfl rfl (fun hc9 => ?_) (fun hc9 => ?_)
          · skip
            have h3 : ((spreadF (.app ra rb)).1 = sTup ∧ (spreadF (.app ra rb)).2.length = 2) ∨ ((spreadF (.app ra rb)).1 = sTri ∧ (spreadF (.app ra rb)).2.length = 3) := .inr ⟨hc9.1, by omega⟩
            refine wp_seq ?_
            refine wp_region_lit ?_
            refine wl_v hF rfl rfl rfl (q_assign rfl (hF.eval rfl)) fun a hF => ?_
            have hO := hO.nilSl 9 1
            refine wl_nil ?_
            refine k_n ?_
            refine wp_seq ?_
            refine wp_seq ?_
            refine wp_region_lit ?_
            refine wl_v hF rfl rfl rfl (q_move rfl (hF.eval rfl)) fun a hF => ?_
            refine wl_v hF rfl rfl rfl (q_lenRd (hO.rd 1 rfl) Try.underlying31 rfl (hF.eval rfl)) fun a hF => ?_
            refine wl_v hF rfl rfl rfl (q_move rfl (hF.eval rfl)) fun a hF => ?_
            refine wl_nil ?_
            refine k_n ?_
            refine wp_block ?_
            have hO := hO.drop1 2
            have hO := hO.pull 1 rfl
            have hO : St _ _ _ [_, _] := hO
            refine wp_loopS (fun (s : Nat × Value) a w' => match s with | (i, vp) => (i ≤ ls.length) ∧ St w0 [] w' [slT hh.v 33 tnE ls, slT vp 9 strE (((spreadF (.app ra rb)).2.take i).map fun r => inT (toldN q) r 0)] ∧ Fr a 112 [(4, .func (.func 66) #[] #[]), (81, hh.v), (82, i64 ls.length), (83, i64 i), (7, vp)]) (fun (s : Nat × Value) => match s with | (i, vp) => ls.length - i) (0, _) ⟨by omega, hO, hF.sub ⟨rfl, rfl, rfl, rfl, rfl, trivial⟩⟩ ?_
            rintro ⟨i, vp⟩ a w ⟨hi, hO, hF⟩
            have htl : (((spreadF (.app ra rb)).2.take i).map (fun r => inT (toldN q) r 0)).length = i := by rw [List.length_map, List.length_take]; omega
            refine wp_seq ?_
            refine wp_region_lit ?_
            refine wl_v hF rfl rfl rfl (q_lt rfl (hF.eval rfl) (hF.eval rfl)) fun a hF => ?_
            refine wl_nil ?_
            refine k_n ?_
            refine wp_seq ?_
            refine wp_ifD hF rfl rfl (fun hc10 => ?_) (fun hc10 => ?_)
            · skip
              refine wp_skip ?_
              refine k_n ?_
              refine wp_seq ?_
              refine wp_block ?_
              refine wp_seq ?_
              refine wp_region_lit ?_
              obtain ⟨x, hx⟩ := get_ex (l := ls) (i := i) (by omega)
              refine wl_v hF rfl rfl rfl (q_at (i := i) (hO.rd 0 rfl) Try.underlying31 Try.sizeOf33 rfl (hF.eval rfl) (hF.eval rfl) (by omega)) fun a hF => ?_
              refine wl_v hF rfl rfl rfl (q_loadAgg Try.isAgg33 Try.sizeOf33 rfl (hF.eval rfl) (RdT.cells (hO.rdT 0 rfl) hx) rfl) fun a hF => ?_
              obtain ⟨ri, hri, heri⟩ := er_at hls hx
              have hmri := List.mem_of_getElem? hri
              have hnri : ri.nodes < q := by have := spread_nodes _ ri hmri; omega
              have hwri : wtR ri ≤ 2199023255552 := by have := wtS_mem hmri; omega
              have hRx := (hlR x (List.mem_of_getElem? hx)).rd hR
              have hLri := inT_len (told_len q ri hnri)
              refine wl_e hF rfl rfl rfl (e_alloc hO Try.zeroValue33 rfl rfl) ?_
              rintro a _ w ⟨ta, rfl, hO⟩ hF
              refine wl_s hF rfl rfl (e_storeAll hO (i := 0) rfl Try.sizeOf33 rfl (hF.eval rfl) (hF.eval rfl) rfl rfl) ?_
              rintro a _ w ⟨-, hO⟩ hF
              have hO : St _ _ _ [_, _, _] := hO
              refine wl_nil ?_
              refine k_n ?_
              refine wp_region_lit ?_
              refine wl_v hF rfl rfl rfl (q_move rfl (hF.eval rfl)) fun a hF => ?_
              refine wl_v hF rfl rfl rfl (q_move rfl (hF.eval rfl)) fun a hF => ?_
              refine wl_v hF rfl rfl rfl (q_loadAgg Try.isAgg33 Try.sizeOf33 rfl (hF.eval rfl) (hO.cells 0 rfl) rfl) fun a hF => ?_
              refine wl_e hF rfl rfl rfl (c_callV hF rfl (hF.eval rfl) rfl rfl Try.call66 (inn_r q ri x (ih ri hnri x) _ (hRx.at0 hO) heri hwri (told_len q ri hnri) 0)) ?_
              rintro a _ w ⟨rfl, hS⟩ hF
              have hO := hO.call0 hS
              have hO : St _ _ _ [_, _, _] := hO
              refine wl_e hF rfl rfl rfl (c_buildSlice hF hO Try.underlying56 Try.sizeOf9 Try.zeroValue9 rfl rfl rfl rfl rfl rfl rfl) ?_
              rintro a _ w ⟨b3, rfl, hO⟩ hF
              refine wl_e hF rfl rfl rfl (e_appendT (bytes := 16) (r := [inT (toldN q) ri 0]) hO (i := 3) rfl (hO.rd 0 rfl) Try.underlying56 Try_info9 rfl rfl rfl rfl rfl rfl (hF.eval rfl) (hF.eval rfl) (by show (List.length _ + 1) * 16 ≤ _; omega) (by show List.length _ + 1 ≤ _; omega)) ?_
              rintro a v92 w hO hF
              have hO : St _ _ _ [_, _, _, _] := hO
              refine wl_v hF rfl rfl rfl (q_assign rfl (hF.eval rfl)) fun a hF => ?_
              refine wl_nil ?_
              refine b_n ?_
              refine k_n ?_
              refine wp_region_lit ?_
              refine wl_v hF rfl rfl rfl (q_add rfl (hF.eval rfl) (hF.eval rfl) (by omega)) fun a hF => ?_
              refine wl_v hF rfl rfl rfl (q_move rfl (hF.eval rfl)) fun a hF => ?_
              refine wl_nil ?_
              refine k_n ?_
              have hO := hO.drop1 0
              have hO := hO.drop1 0
              have hO : St _ _ _ [_, _] := hO
              have e9 : ((spreadF (.app ra rb)).2.take (i + 1)).map (fun r => inT (toldN q) r 0) = ((spreadF (.app ra rb)).2.take i).map (fun r => inT (toldN q) r 0) ++ [inT (toldN q) ri 0] := by rw [takeAt hri, List.map_append]; rfl
              rw [← e9] at hO
              exact ⟨(i + 1, _), ⟨by omega, hO, hF.sub ⟨rfl, rfl, rfl, rfl, rfl, trivial⟩⟩, by dsimp only; omega⟩
            · skip
              have hti : (spreadF (.app ra rb)).2.take i = (spreadF (.app ra rb)).2 := List.take_of_length_le (by omega)
              rw [hti] at hO
              have hjl := join_len (spreadF (.app ra rb)).2 (fun r hr => told_len q r (by have := spread_nodes _ r hr; omega))
              have hpl : ((spreadF (.app ra rb)).2.map (fun r => inT (toldN q) r 0)).length = (spreadF (.app ra rb)).2.length := List.length_map _
              have hl3 : 2 ≤ (spreadF (.app ra rb)).2.length := by rcases h3 with h | h <;> omega
              refine wp_exit ?_
              refine k_x ?_
              refine k_x ?_
              refine b_x ?_
              refine k_n ?_
              refine wp_seq ?_
              refine wp_region_lit ?_
              refine wl_v hF rfl rfl rfl (q_move rfl (hF.eval rfl)) fun a hF => ?_
              refine wl_e hF rfl rfl rfl (c_call hF rfl rfl Try.call68 (join_r _ _ _ [44, 32] (hO.ok (i := 1) rfl) (by omega) (by omega) (by omega))) ?_
              rintro a _ w ⟨rfl, hS⟩ hF
              have hO := hO.call0 hS
              have hO : St _ _ _ [_, _] := hO
              refine wl_v hF rfl rfl rfl (q_cat rfl (hF.eval rfl) (hF.eval rfl) (by simp only [List.length_append, List.length_cons, List.length_nil]; omega)) fun a hF => ?_
              refine wl_v hF rfl rfl rfl (q_cat rfl (hF.eval rfl) (hF.eval rfl) (by simp only [List.length_append, List.length_cons, List.length_nil]; omega)) fun a hF => ?_
              refine wl_v hF rfl rfl rfl (q_assign rfl (hF.eval rfl)) fun a hF => ?_
              refine wl_v hF rfl rfl rfl (q_assign rfl (hF.eval rfl)) fun a hF => ?_
              refine wl_nil ?_
              refine k_n ?_
              refine wp_ret ?_
              refine b_r ?_
              refine k_r ?_
              refine r_2 hF rfl rfl rfl ?_
              have hO := hO.drop1 0
              have hO := hO.drop1 0
              have hO : St _ _ _ [] := hO
              have e : toldN (q + 1) (.app ra rb) = (([40] ++ Lib.join ((spreadF (.app ra rb)).2.map (fun r => inT (toldN q) r 0)) [44, 32]) ++ [41], 2) := by
                show toldA _ _ _ = _
                unfold toldA
                rw [if_neg (fun h => hc4 ⟨h.1, by omega⟩), if_neg (fun h => hc5 ⟨h.1, by omega⟩), if_pos h3]
              rw [e]; exact ⟨rfl, hO⟩
          · skip
            refine wp_skip ?_
            refine b_n ?_
            refine k_n ?_
            refine wp_seq ?_
            have hO := hO.drew
            refine wp_region_D [0, 0, 1, 0, 1, 2, 0, 0, 0, 1, 0, 1, 3, 0, 0, 0] (fun w => St _ _ w _) Try_mixed (by kernel_rfl) hO ?_
            refine wd_p hF rfl rfl rfl (fun w => q_move rfl (hF.eval rfl)) fun a hF => ?_
            refine wd_p hF rfl rfl rfl (fun w => q_fieldAddr0 (d := 2) Try.underlying33 rfl (hF.eval rfl) rfl Try.sizeOf31 (by decide) rfl) fun a hF => ?_
            refine wd_r hF rfl rfl rfl (fun w hO => q_load Try.isAgg31 rfl (hF.eval rfl) (hO.cell 1 rfl rfl)) fun a hF => ?_
            refine wd_p hF rfl rfl rfl (fun w => q_at (i := 0) hR.sl Try.underlying31 Try.sizeOf33 rfl (hF.eval rfl) (hF.eval rfl) (by simp)) fun a hF => ?_
            refine wd_r hF rfl rfl rfl (fun w hO => q_loadAgg Try.isAgg33 Try.sizeOf33 rfl (hF.eval rfl) (RdT.cells (hR.sl.now hO) (show [ta, tb][0]? = some ta from rfl)) rfl) fun a hF => ?_
            refine wd_e hF rfl rfl rfl (c_callV hF rfl (hF.eval rfl) rfl rfl Try.call66 (inn_r q ra ta (ih ra (by omega) ta) _ ((hR.sub ta (by simp)).at0 hO) hea (by omega) (told_len q ra (by omega)) 1)) (fun _ _ ⟨_, hS⟩ => hO.call0 hS) ?_
            rintro a _ w ⟨rfl, hS⟩ hF
            have hO := hO.call0 hS
            have hO : St _ _ _ [_, _] := hO
            have hL0 := hLa 1
            refine wd_p hF rfl rfl rfl (fun w => q_cat rfl (hF.eval rfl) (hF.eval rfl) (by simp only [List.length_append, List.length_cons, List.length_nil]; omega)) fun a hF => ?_
            refine wd_p hF rfl rfl rfl (fun w => q_move rfl (hF.eval rfl)) fun a hF => ?_
            refine wd_p hF rfl rfl rfl (fun w => q_fieldAddr0 (d := 2) Try.underlying33 rfl (hF.eval rfl) rfl Try.sizeOf31 (by decide) rfl) fun a hF => ?_
            refine wd_r hF rfl rfl rfl (fun w hO => q_load Try.isAgg31 rfl (hF.eval rfl) (hO.cell 1 rfl rfl)) fun a hF => ?_
            refine wd_p hF rfl rfl rfl (fun w => q_at (i := 1) hR.sl Try.underlying31 Try.sizeOf33 rfl (hF.eval rfl) (hF.eval rfl) (by simp)) fun a hF => ?_
            refine wd_r hF rfl rfl rfl (fun w hO => q_loadAgg Try.isAgg33 Try.sizeOf33 rfl (hF.eval rfl) (RdT.cells (hR.sl.now hO) (show [ta, tb][1]? = some tb from rfl)) rfl) fun a hF => ?_
            refine wd_f hF rfl rfl rfl (c_callV hF rfl (hF.eval rfl) rfl rfl Try.call66 (inn_r q rb tb (ih rb (by omega) tb) _ ((hR.sub tb (by simp)).at0 hO) heb (by omega) (told_len q rb (by omega)) 2)) ?_
            rintro a _ w ⟨rfl, hS⟩ hF
            have hO := hO.call0 hS
            have hO : St _ _ _ [_, _] := hO
            have hL1 := hLb 2
            refine wd_p hF rfl rfl rfl (fun w => q_cat rfl (hF.eval rfl) (hF.eval rfl) (by simp only [List.length_append, List.length_cons, List.length_nil]; omega)) fun a hF => ?_
            refine wd_p hF rfl rfl rfl (fun w => q_assign rfl (hF.eval rfl)) fun a hF => ?_
            refine wd_p hF rfl rfl rfl (fun w => q_assign rfl (hF.eval rfl)) fun a hF => ?_
            refine wd_nil ?_
            refine k_n ?_
            refine wp_ret ?_
            refine r_2 hF rfl rfl rfl ?_
            have hO := hO.drop1 0
            have hO := hO.drop1 0
            have hO : St _ _ _ [] := hO
            have e : toldN (q + 1) (.app ra rb) = ((inT (toldN q) ra 1 ++ [32]) ++ inT (toldN q) rb 2, 1) := by
              show toldA _ _ _ = _
              unfold toldA
              rw [if_neg (fun h => hc4 ⟨h.1, by omega⟩), if_neg (fun h => hc5 ⟨h.1, by omega⟩), if_neg (fun h => h.elim (fun h => hc6 ⟨h.1, by omega⟩) fun h => hc9 ⟨h.1, by omega⟩)]
            rw [e]; exact ⟨rfl, hO⟩


theorem told_r : ∀ (q : Nat) (r : RT), r.nodes < q → ∀ t : TN, ∀ (w0 : World), RdN w0 [] t → t.er = r.ty → wtR r ≤ 2199023255552 → Ret Try.prog 48 #[.agg (tnE.cells t).toArray] w0 (fun v w' => v = .tuple #[str (toldN q r).1, i64 (toldN q r).2] ∧ St w0 [] w' [])
  | 0, _, h => absurd h (Nat.not_lt_zero _)
  | q + 1, r, h => fun t => by
    obtain ⟨k, n, hd, l⟩ := t
    intro w0 h1 h2 h3
    exact told_i q (fun r' hr => told_r q r' hr) r h k n hd l w0 h1 h2 h3
theorem text_r (w0 : World) (t : TN) (hR : RdN w0 [] t) (hFt : wtF t.er ≤ 2199023255552) : Ret Try.prog 20 #[.agg (tnE.cells t).toArray] w0 (fun v w' => ∃ s : Nam, v = str s ∧ ((rightF t.er = false ∧ s = []) ∨ ∃ r : RT, rightF t.er = true ∧ t.er = r.ty ∧ s = (toldN (r.nodes + 1) r).1) ∧ St w0 [] w' []) := by
  have hO := St.init0 w0
  have hnd := Nat.le_trans (nodes_wt t.er) (Nat.le_trans hFt (by decide : 2199023255552 ≤ 2305843009213693952))
  refine ret_of (m := 20) Try.func20 rfl Try.ntmps20 [(0, .agg (tnE.cells t).toArray)] rfl ⟨rfl, trivial⟩ fun a hF => ?_
  refine wp_seq ?_
  refine wp_region_lit ?_
  refine wl_e hF rfl rfl rfl (e_box hO rfl (hF.eval rfl) rfl) ?_
  rintro a _ w ⟨tk, rfl, hO⟩ hF
  refine wl_v hF rfl rfl rfl (q_assign rfl (hF.eval rfl)) fun a hF => ?_
  refine wl_nil ?_
  refine k_n ?_
  refine wp_seq ?_
  refine wp_seq ?_
  refine wp_region_lit ?_
  refine wl_v hF rfl rfl rfl (q_loadAgg Try.isAgg33 Try.sizeOf33 rfl (hF.eval rfl) (hO.cells 0 rfl) rfl) fun a hF => ?_
  refine wl_e hF rfl rfl rfl (c_call hF rfl rfl Try.call43 (isType_r t _ (hR.at0 hO) hnd)) ?_
  rintro a _ w ⟨m, rfl, hm, hS⟩ hF
  have hO := hO.call0 hS
  have hO : St _ _ _ [_] := hO
  refine wl_v hF rfl rfl rfl (q_move rfl (hF.eval rfl)) fun a hF => ?_
  refine wl_v hF rfl rfl rfl (q_extract rfl (hF.eval rfl) rfl) fun a hF => ?_
  refine wl_v hF rfl rfl rfl (q_extract rfl (hF.eval rfl) rfl) fun a hF => ?_
  refine wl_v hF rfl rfl rfl (q_assign rfl (hF.eval rfl)) fun a hF => ?_
  refine wl_v hF rfl rfl rfl (q_assign rfl (hF.eval rfl)) fun a hF => ?_
  refine wl_nil ?_
  refine k_n ?_
  refine wp_seq ?_
  refine wp_region_lit ?_
  refine wl_v hF rfl rfl rfl (q_move rfl (hF.eval rfl)) fun a hF => ?_
  refine wl_v hF rfl rfl rfl (q_not rfl (hF.eval rfl) (dec_b _)) fun a hF => ?_
  refine wl_nil ?_
  refine k_n ?_
  refine wp_ifD hF rfl rfl (fun hc1 => ?_) (fun hc1 => ?_)
  · skip
    have hr9 : rightF t.er = false := by simpa using hc1
    refine wp_seq ?_
    refine wp_region_lit ?_
    refine wl_v hF rfl rfl rfl (q_assign rfl (hF.eval rfl)) fun a hF => ?_
    refine wl_nil ?_
    refine k_n ?_
    refine wp_ret ?_
    refine k_r ?_
    refine r_1 hF rfl rfl ?_
    have hO := hO.drop1 0
    have hO : St _ _ _ [] := hO
    exact ⟨[], rfl, .inl ⟨hr9, rfl⟩, hO⟩
  · skip
    have hr9 : rightF t.er = true := by simpa using hc1
    obtain ⟨r, hr1, hr⟩ := right_ex _ hr9
    refine wp_skip ?_
    refine k_n ?_
    refine wp_seq ?_
    refine wp_region_lit ?_
    refine wl_v hF rfl rfl rfl (q_loadAgg Try.isAgg33 Try.sizeOf33 rfl (hF.eval rfl) (hO.cells 0 rfl) rfl) fun a hF => ?_
    refine wl_e hF rfl rfl rfl (c_call hF rfl rfl Try.call48 (told_r (r.nodes + 1) r (by omega) t _ (hR.at0 hO) hr (by unfold wtR; rw [← hr]; exact hFt))) ?_
    rintro a _ w ⟨rfl, hS⟩ hF
    have hO := hO.call0 hS
    have hO : St _ _ _ [_] := hO
    refine wl_v hF rfl rfl rfl (q_move rfl (hF.eval rfl)) fun a hF => ?_
    refine wl_v hF rfl rfl rfl (q_extract rfl (hF.eval rfl) rfl) fun a hF => ?_
    refine wl_v hF rfl rfl rfl (q_extract rfl (hF.eval rfl) rfl) fun a hF => ?_
    refine wl_v hF rfl rfl rfl (q_assign rfl (hF.eval rfl)) fun a hF => ?_
    refine wl_v hF rfl rfl rfl (q_assign rfl (hF.eval rfl)) fun a hF => ?_
    refine wl_nil ?_
    refine k_n ?_
    refine wp_seq ?_
    refine wp_region_lit ?_
    refine wl_v hF rfl rfl rfl (q_move rfl (hF.eval rfl)) fun a hF => ?_
    refine wl_v hF rfl rfl rfl (q_assign rfl (hF.eval rfl)) fun a hF => ?_
    refine wl_nil ?_
    refine k_n ?_
    refine wp_ret ?_
    refine r_1 hF rfl rfl ?_
    have hO := hO.drop1 0
    have hO : St _ _ _ [] := hO
    exact ⟨_, rfl, .inr ⟨r, hr9, hr, rfl⟩, hO⟩

end Go.Proofs.Ytfkmlcgccffmnaa
