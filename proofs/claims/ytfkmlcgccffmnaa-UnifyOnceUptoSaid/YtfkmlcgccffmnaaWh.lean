/- PU14, PLAIN: the reference's text, and that it is the program's. -/
import Derived.Test.YtfkmlcgccffmnaaWf
import Derived.Test.YtfkmlcgccffmnaaPu8
import Derived.Test.YtfkmlcgccffmnaaUg
namespace Go.Proofs.Ytfkmlcgccffmnaa
open Go
def arrowP (r : RT) : Prop := (spreadF r).1 = sArr ∧ (spreadF r).2.length = 2
instance (r : RT) : Decidable (arrowP r) := inferInstanceAs (Decidable (_ ∧ _))
def specialP (r : RT) : Prop := ((arrowP r ∨ ((spreadF r).1 = sLst ∧ (spreadF r).2.length = 1)) ∨ ((spreadF r).1 = sTup ∧ (spreadF r).2.length = 2)) ∨ ((spreadF r).1 = sTri ∧ (spreadF r).2.length = 3)
instance (r : RT) : Decidable (specialP r) := inferInstanceAs (Decidable (_ ∨ _))
def isApp : RT → Bool
  | .app _ _ => true
  | _ => false
def insT (f : RT → Nam) (r : RT) (p : Prop) [Decidable p] : Nam := if p then ([40] ++ f r) ++ [41] else f r
def textA (f : RT → Nam) (a b : RT) : Nam :=
  if arrowP (.app a b) then (insT f ((spreadF (.app a b)).2.getD 0 a) (arrowP ((spreadF (.app a b)).2.getD 0 a)) ++ sTo) ++ f ((spreadF (.app a b)).2.getD 1 a)
  else if specialP (.app a b) then
    if (spreadF (.app a b)).1 = sLst then ([91] ++ f ((spreadF (.app a b)).2.getD 0 a)) ++ [93]
    else ([40] ++ Lib.join ((spreadF (.app a b)).2.map f) [44, 32]) ++ [41]
  else (insT f a (arrowP a) ++ [32]) ++ insT f b (arrowP b ∨ (isApp b = true ∧ ¬ specialP b))
def textN : Nat → RT → Nam
  | 0, _ => []
  | _ + 1, .var n => n
  | _ + 1, .con n => if n = sArr then sArrP else if 5 ≤ n.length ∧ n.take 5 = sPrim then n.drop 5 else n
  | q + 1, .app a b => textA (textN q) a b
/-- how a text binds -/
def lvl (r : RT) : Nat := if isApp r = true then (if arrowP r then 0 else if specialP r then 2 else 1) else 2
theorem arrow_app {r : RT} (h : arrowP r) : isApp r = true := by
  cases r with
  | var n => cases h.2
  | con n => cases h.2
  | app a b => rfl
theorem sp_ne1 {n : Nam} (h : n = sLst) : ¬ n = sArr := by rw [h]; decide
theorem toldA_snd (f : RT → Nam × Nat) (a b : RT) : (toldA f a b).2 = lvl (.app a b) := by
  unfold toldA lvl
  rw [if_pos (show isApp (.app a b) = true from rfl)]
  by_cases h1 : (spreadF (.app a b)).1 = sArr ∧ (spreadF (.app a b)).2.length = 2
  · rw [if_pos h1, if_pos (show arrowP _ from h1)]
  rw [if_neg h1, if_neg (show ¬ arrowP _ from h1)]
  by_cases h2 : (spreadF (.app a b)).1 = sLst ∧ (spreadF (.app a b)).2.length = 1
  · rw [if_pos h2, if_pos (show specialP _ from .inl (.inl (.inr h2)))]
  rw [if_neg h2]
  by_cases h3 : ((spreadF (.app a b)).1 = sTup ∧ (spreadF (.app a b)).2.length = 2) ∨ ((spreadF (.app a b)).1 = sTri ∧ (spreadF (.app a b)).2.length = 3)
  · rw [if_pos h3, if_pos]
    exact h3.elim (fun h => .inl (.inr h)) .inr
  · rw [if_neg h3, if_neg]
    rintro (((h | h) | h) | h)
    · exact h1 h
    · exact h2 h
    · exact h3 (.inl h)
    · exact h3 (.inr h)
theorem told_snd : ∀ (q : Nat) (r : RT), (toldN (q + 1) r).2 = lvl r
  | q, .var n => rfl
  | q, .con n => by
    show (if n = sArr then (sArrP, 2) else (Lib.trimPrefix n sPrim, 2) : Nam × Nat).2 = 2
    split <;> rfl
  | q, .app a b => toldA_snd _ a b
theorem lvl1 (r : RT) : lvl r < 1 ↔ arrowP r := by
  unfold lvl
  by_cases h : arrowP r
  · rw [if_pos (arrow_app h), if_pos h]; exact ⟨fun _ => h, fun _ => by decide⟩
  · constructor
    · intro h1
      rw [if_neg h] at h1
      split at h1
      · split at h1 <;> omega
      · omega
    · intro h1; exact absurd h1 h
theorem lvl2 (r : RT) : lvl r < 2 ↔ (arrowP r ∨ (isApp r = true ∧ ¬ specialP r)) := by
  unfold lvl
  by_cases ha : isApp r = true
  · rw [if_pos ha]
    by_cases h : arrowP r
    · rw [if_pos h]; exact ⟨fun _ => .inl h, fun _ => by decide⟩
    · rw [if_neg h]
      by_cases hs : specialP r
      · rw [if_pos hs]; exact ⟨fun h => absurd h (by decide), fun h1 => absurd (h1.resolve_left h).2 (fun h => h hs)⟩
      · rw [if_neg hs]; exact ⟨fun _ => .inr ⟨ha, hs⟩, fun _ => by decide⟩
  · rw [if_neg ha]
    exact ⟨fun h => absurd h (by decide), fun h => h.elim (fun h => absurd (arrow_app h) ha) fun h => absurd h.1 ha⟩
theorem ins_eq {f : RT → Nam × Nat} {g : RT → Nam} {r : RT} {k : Nat} {p : Prop} [Decidable p] (h1 : g r = (f r).1) (h2 : (f r).2 < k ↔ p) : insT g r p = inT f r k := by
  unfold insT inT
  by_cases h : p
  · rw [if_pos h, if_pos (h2.2 h), h1]
  · rw [if_neg h, if_neg fun e => h (h2.1 e), h1]
theorem trim_eq (n : Nam) : Lib.trimPrefix n sPrim = if 5 ≤ n.length ∧ n.take 5 = sPrim then n.drop 5 else n := by
  unfold Lib.trimPrefix
  have e : Lib.hasPrefix n sPrim = true ↔ (5 ≤ n.length ∧ n.take 5 = sPrim) := by
    unfold Lib.hasPrefix
    rw [List.isPrefixOf_iff_prefix, List.prefix_iff_eq_take]
    constructor
    · intro h
      have h' : sPrim = n.take 5 := h
      refine ⟨?_, h'.symm⟩
      have := congrArg List.length h'
      rw [List.length_take] at this
      have h5 : sPrim.length = 5 := rfl
      omega
    · intro h; exact h.2.symm
  by_cases h : 5 ≤ n.length ∧ n.take 5 = sPrim
  · rw [if_pos (e.2 h), if_pos h]; rfl
  · rw [if_neg fun x => h (e.1 x), if_neg h]
theorem text_told : ∀ (q : Nat) (r : RT), r.nodes < q → textN q r = (toldN q r).1
  | 0, _, h => absurd h (Nat.not_lt_zero _)
  | q + 1, .var n, _ => rfl
  | q + 1, .con n, _ => by
    show (if n = sArr then sArrP else if 5 ≤ n.length ∧ n.take 5 = sPrim then n.drop 5 else n) = (if n = sArr then (sArrP, 2) else (Lib.trimPrefix n sPrim, 2) : Nam × Nat).1
    by_cases h : n = sArr
    · rw [if_pos h, if_pos h]
    · rw [if_neg h, if_neg h, trim_eq]
  | q + 1, .app a b, h => by
    have hn : (RT.app a b).nodes = 1 + a.nodes + b.nodes := rfl
    have hpa := a.pos
    have hpb := b.pos
    obtain ⟨q, rfl⟩ : ∃ q', q = q' + 1 := ⟨q - 1, by omega⟩
    have ih : ∀ r : RT, r.nodes < (RT.app a b).nodes → textN (q + 1) r = (toldN (q + 1) r).1 := fun r hr => text_told (q + 1) r (by omega)
    have ihs : ∀ r ∈ (spreadF (.app a b)).2, textN (q + 1) r = (toldN (q + 1) r).1 := fun r hr => ih r (spread_nodes _ r hr)
    show textA (textN (q + 1)) a b = (toldA (toldN (q + 1)) a b).1
    have i1 : ∀ r, textN (q + 1) r = (toldN (q + 1) r).1 → insT (textN (q + 1)) r (arrowP r) = inT (toldN (q + 1)) r 1 := fun r hr => ins_eq hr (by rw [told_snd]; exact lvl1 r)
    have i0 : ∀ r, textN (q + 1) r = (toldN (q + 1) r).1 → textN (q + 1) r = inT (toldN (q + 1)) r 0 := fun r hr => by unfold inT; rw [if_neg (Nat.not_lt_zero _)]; exact hr
    unfold textA toldA
    by_cases h1 : (spreadF (.app a b)).1 = sArr ∧ (spreadF (.app a b)).2.length = 2
    · rw [if_pos (show arrowP _ from h1), if_pos h1, i1 _ (ihs _ (getD_wt (by omega) a)), i0 _ (ihs _ (getD_wt (by omega) a))]
    rw [if_neg (show ¬ arrowP _ from h1), if_neg h1]
    by_cases h2 : (spreadF (.app a b)).1 = sLst ∧ (spreadF (.app a b)).2.length = 1
    · rw [if_pos (show specialP _ from .inl (.inl (.inr h2))), if_pos h2.1, if_pos h2, i0 _ (ihs _ (getD_wt (by omega) a))]
    rw [if_neg h2]
    by_cases h3 : ((spreadF (.app a b)).1 = sTup ∧ (spreadF (.app a b)).2.length = 2) ∨ ((spreadF (.app a b)).1 = sTri ∧ (spreadF (.app a b)).2.length = 3)
    · have hm : (spreadF (.app a b)).2.map (textN (q + 1)) = (spreadF (.app a b)).2.map fun r => inT (toldN (q + 1)) r 0 := List.map_congr_left fun r hr => i0 r (ihs r hr)
      rw [if_pos (show specialP _ from h3.elim (fun h => .inl (.inr h)) .inr), if_pos h3, if_neg, hm]
      rcases h3 with h | h <;> (rw [h.1]; decide)
    · rw [if_neg h3, if_neg, i1 a (ih a (by omega)), ins_eq (k := 2) (f := toldN (q + 1)) (ih b (by omega)) (by rw [told_snd]; exact lvl2 b)]
      rintro (((h | h) | h) | h)
      · exact h1 h
      · exact h2 h
      · exact h3 (.inl h)
      · exact h3 (.inr h)
theorem join_snoc {l : List Nam} (h : 0 < l.length) (x sep : Nam) : Lib.join (l ++ [x]) sep = (Lib.join l sep ++ sep) ++ x := by
  match l, h with
  | y :: l, _ =>
    rw [List.cons_append, Lib.join_cons, Lib.join_cons]
    have key : ∀ l : List Nam, Lib.joinTail sep (l ++ [x]) = (Lib.joinTail sep l ++ sep) ++ x := by
      intro l
      induction l with
      | nil => show (sep ++ x) ++ [] = ([] ++ sep) ++ x; simp
      | cons z l ih => rw [List.cons_append, joinTail_cons, joinTail_cons, ih]; simp
    rw [key]; simp
end Go.Proofs.Ytfkmlcgccffmnaa
namespace Go.Proofs.Ytfkmlcgccffmnaa
open Go
set_option maxRecDepth 100000
set_option linter.unusedVariables false

theorem wtS_take (l : List RT) (i : Nat) : wtS (l.take i) ≤ wtS l := by
  have h := wtS_app (l.take i) (l.drop i)
  rw [List.take_append_drop] at h; omega
theorem join_lenN {g : RT → Nam} (l : List RT) (h : ∀ r ∈ l, (g r).length + 1 ≤ 4 * wtR r) : (Lib.join (l.map g) [44, 32]).length ≤ 4 * wtS l + l.length := by
  have h1 := join_len (f := fun r => (g r, 0)) l h
  have e : (l.map fun r => inT (fun r => (g r, 0)) r 0) = l.map g := List.map_congr_left fun r _ => if_neg (Nat.lt_irrefl 0)
  rwa [e] at h1
theorem text_len (q : Nat) (r : RT) (h : r.nodes < q) : (textN q r).length + 1 ≤ 4 * wtR r := by
  rw [text_told q r h]; exact told_len q r h
theorem ins_len {f : RT → Nam} {r : RT} (p : Prop) [Decidable p] (h : (f r).length + 1 ≤ 4 * wtR r) : (insT f r p).length ≤ 4 * wtR r + 1 := by
  unfold insT
  split
  · simp only [List.length_append, List.length_singleton]; omega
  · omega
theorem ins_iff {f : RT → Nam} {r : RT} {p q : Prop} [Decidable p] [Decidable q] (h : p ↔ q) : insT f r p = insT f r q := by
  unfold insT
  by_cases hp : p
  · rw [if_pos hp, if_pos (h.1 hp)]
  · rw [if_neg hp, if_neg fun e => hp (h.2 e)]
theorem app_kind {k : Int} {n : Nam} {hd : Hdr} {l : List TN} {r : RT} (h : (TN.mk k n hd l).er = r.ty) : k = 54 ↔ isApp r = true := by
  rw [er_mk] at h
  cases r with
  | var m => injection h with h1; rw [h1]; simp [isApp]
  | con m => injection h with h1; rw [h1]; simp [isApp]
  | app a b => injection h with h1; rw [h1]; simp [isApp]
set_option maxHeartbeats 2000000 in
theorem args_i (r : RT) (ih : ∀ r' : RT, r'.nodes < r.nodes → ∀ t : TN, ∀ (w0 : World), RdN w0 [] t → t.er = r'.ty → wtR r' ≤ 2199023255552 → Ret Try.prog 69 #[.agg (tnE.cells t).toArray] w0 (fun v w' => ∃ (h : Hdr) (ls : List TN), v = .tuple #[str (spreadF r').1, h.v] ∧ ls.map TN.er = (spreadF r').2.map RT.ty ∧ (∀ x ∈ ls, Sbt t x) ∧ St w0 [] w' [slT h.v 33 tnE ls])) (k : Int) (n : List UInt8) (hd : Hdr) (l : List TN) (w0 : World) (hR : RdN w0 [] (TN.mk k n hd l)) (her : (TN.mk k n hd l).er = r.ty) (hw : wtR r ≤ 2199023255552) : Ret Try.prog 69 #[.agg (tnE.cells (TN.mk k n hd l)).toArray] w0 (fun v w' => ∃ (h : Hdr) (ls : List TN), v = .tuple #[str (spreadF r).1, h.v] ∧ ls.map TN.er = (spreadF r).2.map RT.ty ∧ (∀ x ∈ ls, Sbt (TN.mk k n hd l) x) ∧ St w0 [] w' [slT h.v 33 tnE ls]) := by
  have hO := St.init0 w0
  refine ret_of (m := 34) Try.func69 rfl Try.ntmps69 [(0, .agg (tnE.cells (TN.mk k n hd l)).toArray)] rfl ⟨rfl, trivial⟩ fun a hF => ?_
  refine wp_seq ?_
  refine wp_region_lit ?_
  refine wl_e hF rfl rfl rfl (e_box hO rfl (hF.eval rfl) rfl) ?_
  rintro a _ w ⟨tk, rfl, hO⟩ hF
  refine wl_v hF rfl rfl rfl (q_assign rfl (hF.eval rfl)) fun a hF => ?_
  refine wl_v hF rfl rfl rfl (q_assign rfl (hF.eval rfl)) fun a hF => ?_
  refine wl_nil ?_
  refine k_n ?_
  refine wp_seq ?_
  refine wp_seq ?_
  refine wp_region_lit ?_
  refine wl_v hF rfl rfl rfl (q_fieldAddr0 (d := 0) Try.underlying33 rfl (hF.eval rfl) rfl Try.sizeOf3 (by decide) rfl) fun a hF => ?_
  refine wl_v hF rfl rfl rfl (q_load Try.isAgg3 rfl (hF.eval rfl) (hO.cell 0 rfl rfl)) fun a hF => ?_
  refine wl_v hF rfl rfl rfl (q_eq rfl (hF.eval rfl) (hF.eval rfl)) fun a hF => ?_
  refine wl_nil ?_
  refine k_n ?_
  refine wp_ifD hF rfl rfl (fun hc1 => ?_) (fun hc1 => ?_)
  · skip
    obtain ⟨rfl, rfl⟩ := er_con her hc1
    refine wp_seq ?_
    refine wp_region_lit ?_
    refine wl_v hF rfl rfl rfl (q_fieldAddr0 (d := 1) Try.underlying33 rfl (hF.eval rfl) rfl Try.sizeOf9 (by decide) rfl) fun a hF => ?_
    refine wl_v hF rfl rfl rfl (q_load Try.isAgg9 rfl (hF.eval rfl) (hO.cell 0 rfl rfl)) fun a hF => ?_
    refine wl_v hF rfl rfl rfl (q_assign rfl (hF.eval rfl)) fun a hF => ?_
    refine wl_v hF rfl rfl rfl (q_assign rfl (hF.eval rfl)) fun a hF => ?_
    refine wl_nil ?_
    refine k_n ?_
    refine wp_ret ?_
    refine k_r ?_
    refine r_2 hF rfl rfl rfl ?_
    have hO := hO.drop1 0
    have hO : St _ _ _ [] := hO
    have hO := hO.nilSl 33 3
    exact ⟨nilH, [], rfl, rfl, fun x hx => (by cases hx), hO⟩
  · skip
    refine wp_skip ?_
    refine k_n ?_
    refine wp_seq ?_
    refine wp_seq ?_
    refine wp_region_lit ?_
    refine wl_v hF rfl rfl rfl (q_fieldAddr0 (d := 0) Try.underlying33 rfl (hF.eval rfl) rfl Try.sizeOf3 (by decide) rfl) fun a hF => ?_
    refine wl_v hF rfl rfl rfl (q_load Try.isAgg3 rfl (hF.eval rfl) (hO.cell 0 rfl rfl)) fun a hF => ?_
    refine wl_v hF rfl rfl rfl (q_ne rfl (hF.eval rfl) (hF.eval rfl)) fun a hF => ?_
    refine wl_nil ?_
    refine k_n ?_
    refine wp_ifD hF rfl rfl (fun hc2 => ?_) (fun hc2 => ?_)
    · skip
      obtain ⟨rfl, rfl⟩ := er_var her (er_other her hc2 hc1)
      refine wp_seq ?_
      refine wp_region_lit ?_
      refine wl_v hF rfl rfl rfl (q_assign rfl (hF.eval rfl)) fun a hF => ?_
      refine wl_v hF rfl rfl rfl (q_assign rfl (hF.eval rfl)) fun a hF => ?_
      refine wl_nil ?_
      refine k_n ?_
      refine wp_ret ?_
      refine k_r ?_
      refine r_2 hF rfl rfl rfl ?_
      have hO := hO.drop1 0
      have hO : St _ _ _ [] := hO
      have hO := hO.nilSl 33 3
      exact ⟨nilH, [], rfl, rfl, fun x hx => (by cases hx), hO⟩
    · skip
      obtain rfl : k = 54 := Classical.not_not.1 hc2
      obtain ⟨ra, rb, ta, tb, rfl, -, rfl, rfl, hea, heb⟩ := er_app her (by decide) (by decide)
      have hnn : (RT.app ra rb).nodes = 1 + ra.nodes + rb.nodes := rfl
      have hww := wtR_app ra rb
      have hsa := spread_wt ra
      refine wp_skip ?_
      refine k_n ?_
      refine wp_seq ?_
      refine wp_region_lit ?_
      refine wl_v hF rfl rfl rfl (q_fieldAddr0 (d := 2) Try.underlying33 rfl (hF.eval rfl) rfl Try.sizeOf31 (by decide) rfl) fun a hF => ?_
      refine wl_v hF rfl rfl rfl (q_load Try.isAgg31 rfl (hF.eval rfl) (hO.cell 0 rfl rfl)) fun a hF => ?_
      refine wl_v hF rfl rfl rfl (q_at (i := 0) hR.sl Try.underlying31 Try.sizeOf33 rfl (hF.eval rfl) (hF.eval rfl) (by simp)) fun a hF => ?_
      refine wl_v hF rfl rfl rfl (q_loadAgg Try.isAgg33 Try.sizeOf33 rfl (hF.eval rfl) (RdT.cells (hR.sl.now hO) (show [ta, tb][0]? = some ta from rfl)) rfl) fun a hF => ?_
      refine wl_e hF rfl rfl rfl (c_call hF rfl rfl Try.call69 (ih ra (by omega) ta _ ((hR.sub ta (by simp)).at0 hO) hea (by omega))) ?_
      rintro a _ w ⟨h1, ls, rfl, hls, hlS, hS⟩ hF
      have hO := hO.call0 hS
      have hO : St _ _ _ [_, _] := hO
      have hln := er_len hls
      refine wl_v hF rfl rfl rfl (q_move rfl (hF.eval rfl)) fun a hF => ?_
      refine wl_v hF rfl rfl rfl (q_extract rfl (hF.eval rfl) rfl) fun a hF => ?_
      refine wl_v hF rfl rfl rfl (q_extract rfl (hF.eval rfl) rfl) fun a hF => ?_
      refine wl_v hF rfl rfl rfl (q_assign rfl (hF.eval rfl)) fun a hF => ?_
      refine wl_v hF rfl rfl rfl (q_assign rfl (hF.eval rfl)) fun a hF => ?_
      refine wl_nil ?_
      refine k_n ?_
      refine wp_seq ?_
      refine wp_region_lit ?_
      refine wl_v hF rfl rfl rfl (q_assign rfl (hF.eval rfl)) fun a hF => ?_
      have hO := hO.nilSl 33 3
      have hO : St _ _ _ (slT (.slice none 0 0) 33 tnE [] :: [_, _]) := hO
      refine wl_nil ?_
      refine k_n ?_
      refine wp_seq ?_
      refine wp_region_lit ?_
      refine wl_v hF rfl rfl rfl (q_move rfl (hF.eval rfl)) fun a hF => ?_
      refine wl_v hF rfl rfl rfl (q_move rfl (hF.eval rfl)) fun a hF => ?_
      refine wl_e hF rfl rfl rfl (e_appendT (bytes := 48) (r := ls) hO (i := 0) rfl (hO.rd 1 rfl) Try.underlying31 Try_info33 rfl rfl rfl rfl rfl rfl (hF.eval rfl) (hF.eval rfl) (by show (0 + List.length ls) * 48 ≤ _; omega) (by show 0 + List.length ls ≤ _; omega)) ?_
      rintro a v25 w hO hF
      have hO : St _ _ _ [_, _, _] := hO
      refine wl_v hF rfl rfl rfl (q_assign rfl (hF.eval rfl)) fun a hF => ?_
      refine wl_nil ?_
      refine k_n ?_
      refine wp_seq ?_
      refine wp_region_lit ?_
      refine wl_v hF rfl rfl rfl (q_move rfl (hF.eval rfl)) fun a hF => ?_
      refine wl_v hF rfl rfl rfl (q_move rfl (hF.eval rfl)) fun a hF => ?_
      refine wl_v hF rfl rfl rfl (q_fieldAddr0 (d := 2) Try.underlying33 rfl (hF.eval rfl) rfl Try.sizeOf31 (by decide) rfl) fun a hF => ?_
      refine wl_v hF rfl rfl rfl (q_load Try.isAgg31 rfl (hF.eval rfl) (hO.cell 2 rfl rfl)) fun a hF => ?_
      refine wl_v hF rfl rfl rfl (q_at (i := 1) hR.sl Try.underlying31 Try.sizeOf33 rfl (hF.eval rfl) (hF.eval rfl) (by simp)) fun a hF => ?_
      refine wl_v hF rfl rfl rfl (q_loadAgg Try.isAgg33 Try.sizeOf33 rfl (hF.eval rfl) (RdT.cells (hR.sl.now hO) (show [ta, tb][1]? = some tb from rfl)) rfl) fun a hF => ?_
      refine wl_e hF rfl rfl rfl (c_buildSlice hF hO Try.underlying31 Try.sizeOf33 Try.zeroValue33 rfl rfl rfl rfl rfl rfl rfl) ?_
      rintro a _ w ⟨b1, rfl, hO⟩ hF
      refine wl_e hF rfl rfl rfl (e_appendT (bytes := 48) (r := [tb]) hO (i := 1) rfl (hO.rd 0 rfl) Try.underlying31 Try_info33 rfl rfl rfl rfl rfl rfl (hF.eval rfl) (hF.eval rfl) (by show (List.length ls + 1) * 48 ≤ _; omega) (by show List.length ls + 1 ≤ _; omega)) ?_
      rintro a v33 w hO hF
      have hO : St _ _ _ [_, _, _, _] := hO
      refine wl_v hF rfl rfl rfl (q_assign rfl (hF.eval rfl)) fun a hF => ?_
      refine wl_v hF rfl rfl rfl (q_assign rfl (hF.eval rfl)) fun a hF => ?_
      refine wl_nil ?_
      refine k_n ?_
      refine wp_ret ?_
      refine r_2 hF rfl rfl rfl ?_
      have hO := hO.drop1 0
      have hO := hO.drop1 1
      have hO := hO.drop1 1
      have hO : St _ _ _ [_] := hO
      obtain ⟨q, rfl⟩ := Rd.hdr (hO.rd 0 rfl)
      refine ⟨q, ls ++ [tb], rfl, ?_, fun x hx => (List.mem_append.1 hx).elim (fun h => .sub (by simp) (hlS x h)) fun h => by rw [List.mem_singleton.1 h]; exact .sub (by simp) (.refl _), hO⟩
      show _ = ((spreadF ra).2 ++ [rb]).map RT.ty
      rw [List.map_append, List.map_append, hls]; show _ ++ [tb.er] = _ ++ [rb.ty]; rw [heb]


theorem args_r : ∀ (q : Nat) (r : RT), r.nodes < q → ∀ t : TN, ∀ (w0 : World), RdN w0 [] t → t.er = r.ty → wtR r ≤ 2199023255552 → Ret Try.prog 69 #[.agg (tnE.cells t).toArray] w0 (fun v w' => ∃ (h : Hdr) (ls : List TN), v = .tuple #[str (spreadF r).1, h.v] ∧ ls.map TN.er = (spreadF r).2.map RT.ty ∧ (∀ x ∈ ls, Sbt t x) ∧ St w0 [] w' [slT h.v 33 tnE ls])
  | 0, _, h => absurd h (Nat.not_lt_zero _)
  | q + 1, r, h => fun t => by
    obtain ⟨k, n, hd, l⟩ := t
    intro w0 h1 h2 h3
    exact args_i r (fun r' hr => args_r q r' (by omega)) k n hd l w0 h1 h2 h3
theorem arrow_r (r : RT) (t : TN) (w0 : World) (hR : RdN w0 [] t) (her : t.er = r.ty) (hw : wtR r ≤ 2199023255552) : Ret Try.prog 70 #[.agg (tnE.cells t).toArray] w0 (fun v w' => v = .bool (decide (arrowP r)) ∧ St w0 [] w' []) := by
  have hO := St.init0 w0
  refine ret_of (m := 17) Try.func70 rfl Try.ntmps70 [(0, .agg (tnE.cells t).toArray)] rfl ⟨rfl, trivial⟩ fun a hF => ?_
  refine wp_seq ?_
  refine wp_region_lit ?_
  refine wl_e hF rfl rfl rfl (e_box hO rfl (hF.eval rfl) rfl) ?_
  rintro a _ w ⟨tk, rfl, hO⟩ hF
  refine wl_v hF rfl rfl rfl (q_assign rfl (hF.eval rfl)) fun a hF => ?_
  refine wl_nil ?_
  refine k_n ?_
  refine wp_seq ?_
  refine wp_region_lit ?_
  refine wl_v hF rfl rfl rfl (q_loadAgg Try.isAgg33 Try.sizeOf33 rfl (hF.eval rfl) (hO.cells 0 rfl) rfl) fun a hF => ?_
  refine wl_e hF rfl rfl rfl (c_call hF rfl rfl Try.call69 (args_r (r.nodes + 1) r (by omega) t _ (hR.at0 hO) her hw)) ?_
  rintro a _ w ⟨h1, ls, rfl, hls, hlS, hS⟩ hF
  have hO := hO.call0 hS
  have hO : St _ _ _ [_, _] := hO
  have hln := er_len hls
  refine wl_v hF rfl rfl rfl (q_move rfl (hF.eval rfl)) fun a hF => ?_
  refine wl_v hF rfl rfl rfl (q_extract rfl (hF.eval rfl) rfl) fun a hF => ?_
  refine wl_v hF rfl rfl rfl (q_extract rfl (hF.eval rfl) rfl) fun a hF => ?_
  refine wl_v hF rfl rfl rfl (q_assign rfl (hF.eval rfl)) fun a hF => ?_
  refine wl_v hF rfl rfl rfl (q_assign rfl (hF.eval rfl)) fun a hF => ?_
  refine wl_nil ?_
  refine k_n ?_
  refine wp_seq ?_
  refine wp_region_lit ?_
  refine wl_v hF rfl rfl rfl (q_move rfl (hF.eval rfl)) fun a hF => ?_
  refine wl_v hF rfl rfl rfl (q_seq rfl (hF.eval rfl) (hF.eval rfl)) fun a hF => ?_
  refine wl_v hF rfl rfl rfl (q_move rfl (hF.eval rfl)) fun a hF => ?_
  refine wl_g hF rfl rfl rfl rfl rfl rfl (fun hg => q_move rfl (hF.eval rfl)) fun a hF => ?_
  refine wl_g hF rfl rfl rfl rfl rfl rfl (fun hg => q_lenRd (hO.rd 0 rfl) Try.underlying31 rfl ((hF.eval rfl).trans (gv_of hg))) fun a hF => ?_
  refine wl_g hF rfl rfl rfl rfl rfl rfl (fun hg => q_eq rfl ((hF.eval rfl).trans (gv_of hg)) (hF.eval rfl)) fun a hF => ?_
  refine wl_v hF rfl rfl rfl (q_and rfl (hF.eval rfl) rfl (fun hg2 => ((hF.eval rfl).trans (gv_of hg2))) rfl) fun a hF => ?_
  refine wl_v hF rfl rfl rfl (q_assign rfl (hF.eval rfl)) fun a hF => ?_
  refine wl_nil ?_
  refine k_n ?_
  refine wp_ret ?_
  refine r_1 hF rfl rfl ?_
  have hO := hO.drop1 0
  have hO := hO.drop1 0
  have hO : St _ _ _ [] := hO
  exact ⟨congrArg Value.bool (decide_eq_decide.2 ⟨fun h => ⟨h.1, by omega⟩, fun h => ⟨h.1, by have := h.2; omega⟩⟩), hO⟩

set_option maxHeartbeats 2000000 in
theorem special_r (r : RT) (t : TN) (w0 : World) (hR : RdN w0 [] t) (her : t.er = r.ty) (hw : wtR r ≤ 2199023255552) : Ret Try.prog 72 #[.agg (tnE.cells t).toArray] w0 (fun v w' => v = .bool (decide (specialP r)) ∧ St w0 [] w' []) := by
  have hO := St.init0 w0
  refine ret_of (m := 39) Try.func72 rfl Try.ntmps72 [(0, .agg (tnE.cells t).toArray)] rfl ⟨rfl, trivial⟩ fun a hF => ?_
  refine wp_seq ?_
  refine wp_region_lit ?_
  refine wl_e hF rfl rfl rfl (e_box hO rfl (hF.eval rfl) rfl) ?_
  rintro a _ w ⟨tk, rfl, hO⟩ hF
  refine wl_v hF rfl rfl rfl (q_assign rfl (hF.eval rfl)) fun a hF => ?_
  refine wl_nil ?_
  refine k_n ?_
  refine wp_seq ?_
  refine wp_region_lit ?_
  refine wl_v hF rfl rfl rfl (q_loadAgg Try.isAgg33 Try.sizeOf33 rfl (hF.eval rfl) (hO.cells 0 rfl) rfl) fun a hF => ?_
  refine wl_e hF rfl rfl rfl (c_call hF rfl rfl Try.call69 (args_r (r.nodes + 1) r (by omega) t _ (hR.at0 hO) her hw)) ?_
  rintro a _ w ⟨h1, ls, rfl, hls, hlS, hS⟩ hF
  have hO := hO.call0 hS
  have hO : St _ _ _ [_, _] := hO
  have hln := er_len hls
  refine wl_v hF rfl rfl rfl (q_move rfl (hF.eval rfl)) fun a hF => ?_
  refine wl_v hF rfl rfl rfl (q_extract rfl (hF.eval rfl) rfl) fun a hF => ?_
  refine wl_v hF rfl rfl rfl (q_extract rfl (hF.eval rfl) rfl) fun a hF => ?_
  refine wl_v hF rfl rfl rfl (q_assign rfl (hF.eval rfl)) fun a hF => ?_
  refine wl_v hF rfl rfl rfl (q_assign rfl (hF.eval rfl)) fun a hF => ?_
  refine wl_nil ?_
  refine k_n ?_
  refine wp_seq ?_
  refine wp_region_lit ?_
  refine wl_v hF rfl rfl rfl (q_loadAgg Try.isAgg33 Try.sizeOf33 rfl (hF.eval rfl) (hO.cells 1 rfl) rfl) fun a hF => ?_
  refine wl_e hF rfl rfl rfl (c_call hF rfl rfl Try.call70 (arrow_r r t _ (hR.at0 hO) her hw)) ?_
  rintro a _ w ⟨rfl, hS⟩ hF
  have hO := hO.call0 hS
  have hO : St _ _ _ [_, _] := hO
  refine wl_v hF rfl rfl rfl (q_move rfl (hF.eval rfl)) fun a hF => ?_
  refine wl_g hF rfl rfl rfl rfl rfl rfl (fun hg => q_move rfl (hF.eval rfl)) fun a hF => ?_
  refine wl_g hF rfl rfl rfl rfl rfl rfl (fun hg => q_seq rfl ((hF.eval rfl).trans (gv_of hg)) (hF.eval rfl)) fun a hF => ?_
  refine wl_g hF rfl rfl rfl rfl rfl rfl (fun hg => q_move rfl ((hF.eval rfl).trans (gv_of hg))) fun a hF => ?_
  refine wl_g hF rfl rfl rfl rfl rfl rfl (fun hg => q_move rfl (hF.eval rfl)) fun a hF => ?_
  refine wl_g hF rfl rfl rfl rfl rfl rfl (fun hg => q_lenRd (hO.rd 0 rfl) Try.underlying31 rfl ((hF.eval rfl).trans (gv_of hg))) fun a hF => ?_
  refine wl_g hF rfl rfl rfl rfl rfl rfl (fun hg => q_eq rfl ((hF.eval rfl).trans (gv_of hg)) (hF.eval rfl)) fun a hF => ?_
  refine wl_g hF rfl rfl rfl rfl rfl rfl (fun hg => q_and rfl ((hF.eval rfl).trans (gv_of hg)) rfl (fun hg2 => ((hF.eval rfl).trans (gv_of2 hg hg2))) rfl) fun a hF => ?_
  refine wl_v hF rfl rfl rfl (q_or rfl (hF.eval rfl) (dec_b _) (fun hg2 => ((hF.eval rfl).trans (gv_of hg2))) rfl) fun a hF => ?_
  refine wl_v hF rfl rfl rfl (q_move rfl (hF.eval rfl)) fun a hF => ?_
  refine wl_g hF rfl rfl rfl rfl rfl rfl (fun hg => q_move rfl (hF.eval rfl)) fun a hF => ?_
  refine wl_g hF rfl rfl rfl rfl rfl rfl (fun hg => q_seq rfl ((hF.eval rfl).trans (gv_of hg)) (hF.eval rfl)) fun a hF => ?_
  refine wl_g hF rfl rfl rfl rfl rfl rfl (fun hg => q_move rfl ((hF.eval rfl).trans (gv_of hg))) fun a hF => ?_
  refine wl_g hF rfl rfl rfl rfl rfl rfl (fun hg => q_move rfl (hF.eval rfl)) fun a hF => ?_
  refine wl_g hF rfl rfl rfl rfl rfl rfl (fun hg => q_lenRd (hO.rd 0 rfl) Try.underlying31 rfl ((hF.eval rfl).trans (gv_of hg))) fun a hF => ?_
  refine wl_g hF rfl rfl rfl rfl rfl rfl (fun hg => q_eq rfl ((hF.eval rfl).trans (gv_of hg)) (hF.eval rfl)) fun a hF => ?_
  refine wl_g hF rfl rfl rfl rfl rfl rfl (fun hg => q_and rfl ((hF.eval rfl).trans (gv_of hg)) rfl (fun hg2 => ((hF.eval rfl).trans (gv_of2 hg hg2))) rfl) fun a hF => ?_
  refine wl_v hF rfl rfl rfl (q_or rfl (hF.eval rfl) rfl (fun hg2 => ((hF.eval rfl).trans (gv_of hg2))) rfl) fun a hF => ?_
  refine wl_v hF rfl rfl rfl (q_move rfl (hF.eval rfl)) fun a hF => ?_
  refine wl_g hF rfl rfl rfl rfl rfl rfl (fun hg => q_move rfl (hF.eval rfl)) fun a hF => ?_
  refine wl_g hF rfl rfl rfl rfl rfl rfl (fun hg => q_seq rfl ((hF.eval rfl).trans (gv_of hg)) (hF.eval rfl)) fun a hF => ?_
  refine wl_g hF rfl rfl rfl rfl rfl rfl (fun hg => q_move rfl ((hF.eval rfl).trans (gv_of hg))) fun a hF => ?_
  refine wl_g hF rfl rfl rfl rfl rfl rfl (fun hg => q_move rfl (hF.eval rfl)) fun a hF => ?_
  refine wl_g hF rfl rfl rfl rfl rfl rfl (fun hg => q_lenRd (hO.rd 0 rfl) Try.underlying31 rfl ((hF.eval rfl).trans (gv_of hg))) fun a hF => ?_
  refine wl_g hF rfl rfl rfl rfl rfl rfl (fun hg => q_eq rfl ((hF.eval rfl).trans (gv_of hg)) (hF.eval rfl)) fun a hF => ?_
  refine wl_g hF rfl rfl rfl rfl rfl rfl (fun hg => q_and rfl ((hF.eval rfl).trans (gv_of hg)) rfl (fun hg2 => ((hF.eval rfl).trans (gv_of2 hg hg2))) rfl) fun a hF => ?_
  refine wl_v hF rfl rfl rfl (q_or rfl (hF.eval rfl) rfl (fun hg2 => ((hF.eval rfl).trans (gv_of hg2))) rfl) fun a hF => ?_
  refine wl_v hF rfl rfl rfl (q_assign rfl (hF.eval rfl)) fun a hF => ?_
  refine wl_nil ?_
  refine k_n ?_
  refine wp_ret ?_
  refine r_1 hF rfl rfl ?_
  have hO := hO.drop1 0
  have hO := hO.drop1 0
  have hO : St _ _ _ [] := hO
  have ew : ∀ m : Nat, ((ls.length : Int) = m) ↔ (spreadF r).2.length = m := fun m => by omega
  refine ⟨congrArg Value.bool (decide_eq_decide.2 ?_), hO⟩
  unfold specialP
  exact or_congr (or_congr (or_congr decide_eq_true_iff (and_congr Iff.rfl (ew 1))) (and_congr Iff.rfl (ew 2))) (and_congr Iff.rfl (ew 3))

theorem inside_r (q : Nat) (r : RT) (t : TN) (ih : ∀ (w0 : World), RdN w0 [] t → t.er = r.ty → wtR r ≤ 2199023255552 → Ret Try.prog 49 #[.agg (tnE.cells t).toArray] w0 (fun v w' => v = str (textN q r) ∧ St w0 [] w' [])) (p : Prop) [Decidable p] (w0 : World) (hR : RdN w0 [] t) (her : t.er = r.ty) (hw : wtR r ≤ 2199023255552) (hlen : (textN q r).length + 1 ≤ 4 * wtR r) : Ret Try.prog 71 #[.agg (tnE.cells t).toArray, .bool (decide p)] w0 (fun v w' => v = str (insT (textN q) r p) ∧ St w0 [] w' []) := by
  have hO := St.init0 w0
  refine ret_of (m := 12) Try.func71 rfl Try.ntmps71 [(0, .agg (tnE.cells t).toArray), (1, .bool (decide p))] rfl ⟨rfl, rfl, trivial⟩ fun a hF => ?_
  refine wp_seq ?_
  refine wp_region_lit ?_
  refine wl_e hF rfl rfl rfl (e_box hO rfl (hF.eval rfl) rfl) ?_
  rintro a _ w ⟨tk, rfl, hO⟩ hF
  refine wl_v hF rfl rfl rfl (q_assign rfl (hF.eval rfl)) fun a hF => ?_
  refine wl_nil ?_
  refine k_n ?_
  refine wp_seq ?_
  refine wp_seq ?_
  refine wp_region_lit ?_
  refine wl_v hF rfl rfl rfl (q_move rfl (hF.eval rfl)) fun a hF => ?_
  refine wl_nil ?_
  refine k_n ?_
  refine wp_ifD hF rfl (dec_b _) (fun hc1 => ?_) (fun hc1 => ?_)
  · skip
    refine wp_seq ?_
    refine wp_region_lit ?_
    refine wl_v hF rfl rfl rfl (q_loadAgg Try.isAgg33 Try.sizeOf33 rfl (hF.eval rfl) (hO.cells 0 rfl) rfl) fun a hF => ?_
    refine wl_e hF rfl rfl rfl (c_call hF rfl rfl Try.call49 (ih _ (hR.at0 hO) her hw)) ?_
    rintro a _ w ⟨rfl, hS⟩ hF
    have hO := hO.call0 hS
    have hO : St _ _ _ [_] := hO
    refine wl_v hF rfl rfl rfl (q_cat rfl (hF.eval rfl) (hF.eval rfl) (by simp only [List.length_append, List.length_cons, List.length_nil]; omega)) fun a hF => ?_
    refine wl_v hF rfl rfl rfl (q_cat rfl (hF.eval rfl) (hF.eval rfl) (by simp only [List.length_append, List.length_cons, List.length_nil]; omega)) fun a hF => ?_
    refine wl_v hF rfl rfl rfl (q_assign rfl (hF.eval rfl)) fun a hF => ?_
    refine wl_nil ?_
    refine k_n ?_
    refine wp_ret ?_
    refine k_r ?_
    refine r_1 hF rfl rfl ?_
    have hO := hO.drop1 0
    have hO : St _ _ _ [] := hO
    exact ⟨congrArg str (if_pos (of_decide_eq_true hc1)).symm, hO⟩
  · skip
    refine wp_skip ?_
    refine k_n ?_
    refine wp_seq ?_
    refine wp_region_lit ?_
    refine wl_v hF rfl rfl rfl (q_loadAgg Try.isAgg33 Try.sizeOf33 rfl (hF.eval rfl) (hO.cells 0 rfl) rfl) fun a hF => ?_
    refine wl_e hF rfl rfl rfl (c_call hF rfl rfl Try.call49 (ih _ (hR.at0 hO) her hw)) ?_
    rintro a _ w ⟨rfl, hS⟩ hF
    have hO := hO.call0 hS
    have hO : St _ _ _ [_] := hO
    refine wl_v hF rfl rfl rfl (q_assign rfl (hF.eval rfl)) fun a hF => ?_
    refine wl_nil ?_
    refine k_n ?_
    refine wp_ret ?_
    refine r_1 hF rfl rfl ?_
    have hO := hO.drop1 0
    have hO : St _ _ _ [] := hO
    exact ⟨congrArg str (if_neg fun h => hc1 (decide_eq_true h)).symm, hO⟩

end Go.Proofs.Ytfkmlcgccffmnaa
namespace Go.Proofs.Ytfkmlcgccffmnaa
open Go
set_option maxRecDepth 100000
set_option linter.unusedVariables false
set_option maxHeartbeats 4000000 in
theorem text_i (q : Nat) (ih : ∀ r' : RT, r'.nodes < q → ∀ t : TN, ∀ (w0 : World), RdN w0 [] t → t.er = r'.ty → wtR r' ≤ 2199023255552 → Ret Try.prog 49 #[.agg (tnE.cells t).toArray] w0 (fun v w' => v = str (textN q r') ∧ St w0 [] w' [])) (r : RT) (hq : r.nodes < q + 1) (k : Int) (n : List UInt8) (hd : Hdr) (l : List TN) (w0 : World) (hR : RdN w0 [] (TN.mk k n hd l)) (her : (TN.mk k n hd l).er = r.ty) (hw : wtR r ≤ 2199023255552) : Ret Try.prog 49 #[.agg (tnE.cells (TN.mk k n hd l)).toArray] w0 (fun v w' => v = str (textN (q + 1) r) ∧ St w0 [] w' []) := by
  have hO := St.init0 w0
  refine ret_of (m := 115) Try.func49 rfl Try.ntmps49 [(0, .agg (tnE.cells (TN.mk k n hd l)).toArray)] rfl ⟨rfl, trivial⟩ fun a hF => ?_
  refine wp_seq ?_
  refine wp_region_lit ?_
  refine wl_e hF rfl rfl rfl (e_box hO rfl (hF.eval rfl) rfl) ?_
  rintro a _ w ⟨tk, rfl, hO⟩ hF
  refine wl_v hF rfl rfl rfl (q_assign rfl (hF.eval rfl)) fun a hF => ?_
  refine wl_nil ?_
  refine k_n ?_
  refine wp_seq ?_
  refine wp_seq ?_
  refine wp_region_lit ?_
  refine wl_v hF rfl rfl rfl (q_fieldAddr0 (d := 0) Try.underlying33 rfl (hF.eval rfl) rfl Try.sizeOf3 (by decide) rfl) fun a hF => ?_
  refine wl_v hF rfl rfl rfl (q_load Try.isAgg3 rfl (hF.eval rfl) (hO.cell 0 rfl rfl)) fun a hF => ?_
  refine wl_v hF rfl rfl rfl (q_eq rfl (hF.eval rfl) (hF.eval rfl)) fun a hF => ?_
  refine wl_nil ?_
  refine k_n ?_
  refine wp_ifD hF rfl rfl (fun hc1 => ?_) (fun hc1 => ?_)
  · skip
    obtain ⟨rfl, rfl⟩ := er_var her hc1
    refine wp_seq ?_
    refine wp_region_lit ?_
    refine wl_v hF rfl rfl rfl (q_fieldAddr0 (d := 1) Try.underlying33 rfl (hF.eval rfl) rfl Try.sizeOf9 (by decide) rfl) fun a hF => ?_
    refine wl_v hF rfl rfl rfl (q_load Try.isAgg9 rfl (hF.eval rfl) (hO.cell 0 rfl rfl)) fun a hF => ?_
    refine wl_v hF rfl rfl rfl (q_assign rfl (hF.eval rfl)) fun a hF => ?_
    refine wl_nil ?_
    refine k_n ?_
    refine wp_ret ?_
    refine k_r ?_
    refine r_1 hF rfl rfl ?_
    have hO := hO.drop1 0
    have hO : St _ _ _ [] := hO
    exact ⟨rfl, hO⟩
  · skip
    refine wp_skip ?_
    refine k_n ?_
    refine wp_seq ?_
    refine wp_seq ?_
    refine wp_region_lit ?_
    refine wl_v hF rfl rfl rfl (q_fieldAddr0 (d := 0) Try.underlying33 rfl (hF.eval rfl) rfl Try.sizeOf3 (by decide) rfl) fun a hF => ?_
    refine wl_v hF rfl rfl rfl (q_load Try.isAgg3 rfl (hF.eval rfl) (hO.cell 0 rfl rfl)) fun a hF => ?_
    refine wl_v hF rfl rfl rfl (q_eq rfl (hF.eval rfl) (hF.eval rfl)) fun a hF => ?_
    refine wl_nil ?_
    refine k_n ?_
    refine wp_ifD hF rfl rfl (fun hc2 => ?_) (fun hc2 => ?_)
    · skip
      obtain ⟨rfl, rfl⟩ := er_con her hc2
      refine wp_seq ?_
      refine wp_seq ?_
      refine wp_region_lit ?_
      refine wl_v hF rfl rfl rfl (q_fieldAddr0 (d := 1) Try.underlying33 rfl (hF.eval rfl) rfl Try.sizeOf9 (by decide) rfl) fun a hF => ?_
      refine wl_v hF rfl rfl rfl (q_load Try.isAgg9 rfl (hF.eval rfl) (hO.cell 0 rfl rfl)) fun a hF => ?_
      refine wl_v hF rfl rfl rfl (q_seq rfl (hF.eval rfl) (hF.eval rfl)) fun a hF => ?_
      refine wl_nil ?_
      refine k_n ?_
      refine wp_ifD hF rfl rfl (fun hc3 => ?_) (fun hc3 => ?_)
      · skip
        refine wp_seq ?_
        refine wp_region_lit ?_
        refine wl_v hF rfl rfl rfl (q_assign rfl (hF.eval rfl)) fun a hF => ?_
        refine wl_nil ?_
        refine k_n ?_
        refine wp_ret ?_
        refine k_r ?_
        refine k_r ?_
        refine r_1 hF rfl rfl ?_
        have hO := hO.drop1 0
        have hO : St _ _ _ [] := hO
        have e : textN (q + 1) (.con n) = sArrP := by
          show (if n = sArr then sArrP else if 5 ≤ n.length ∧ n.take 5 = sPrim then n.drop 5 else n) = _
          rw [if_pos (show n = sArr from hc3)]
        rw [e]; exact ⟨rfl, hO⟩
      · skip
        refine wp_skip ?_
        refine k_n ?_
        refine wp_seq ?_
        refine wp_seq ?_
        refine wp_region_lit ?_
        refine wl_v hF rfl rfl rfl (q_fieldAddr0 (d := 1) Try.underlying33 rfl (hF.eval rfl) rfl Try.sizeOf9 (by decide) rfl) fun a hF => ?_
        refine wl_v hF rfl rfl rfl (q_load Try.isAgg9 rfl (hF.eval rfl) (hO.cell 0 rfl rfl)) fun a hF => ?_
        refine wl_v hF rfl rfl rfl (q_len Try.underlying9 rfl (hF.eval rfl)) fun a hF => ?_
        refine wl_v hF rfl rfl rfl (q_ge rfl (hF.eval rfl) (hF.eval rfl)) fun a hF => ?_
        refine wl_v hF rfl rfl rfl (q_move rfl (hF.eval rfl)) fun a hF => ?_
        refine wl_g hF rfl rfl rfl rfl rfl rfl (fun hg => q_fieldAddr0 (d := 1) Try.underlying33 rfl (hF.eval rfl) rfl Try.sizeOf9 (by decide) rfl) fun a hF => ?_
        refine wl_g hF rfl rfl rfl rfl rfl rfl (fun hg => q_load Try.isAgg9 rfl ((hF.eval rfl).trans (gv_of hg)) (hO.cell 0 rfl rfl)) fun a hF => ?_
        refine wl_g hF rfl rfl rfl rfl rfl rfl (fun hg => q_cutTo (j := 5) Try.underlying9 rfl ((hF.eval rfl).trans (gv_of hg)) (hF.eval rfl) (by have := of_g hg; omega)) fun a hF => ?_
        refine wl_g hF rfl rfl rfl rfl rfl rfl (fun hg => q_seq rfl ((hF.eval rfl).trans (gv_of hg)) (hF.eval rfl)) fun a hF => ?_
        refine wl_v hF rfl rfl rfl (q_and rfl (hF.eval rfl) rfl (fun hg2 => ((hF.eval rfl).trans (gv_of hg2))) rfl) fun a hF => ?_
        refine wl_nil ?_
        refine k_n ?_
        refine wp_ifD hF rfl rfl (fun hc4 => ?_) (fun hc4 => ?_)
        · skip
          refine wp_seq ?_
          refine wp_region_lit ?_
          refine wl_v hF rfl rfl rfl (q_fieldAddr0 (d := 1) Try.underlying33 rfl (hF.eval rfl) rfl Try.sizeOf9 (by decide) rfl) fun a hF => ?_
          refine wl_v hF rfl rfl rfl (q_load Try.isAgg9 rfl (hF.eval rfl) (hO.cell 0 rfl rfl)) fun a hF => ?_
          refine wl_v hF rfl rfl rfl (q_cutFrom (i := 5) Try.underlying9 rfl (hF.eval rfl) (hF.eval rfl) (by have := hc4.1; omega)) fun a hF => ?_
          refine wl_v hF rfl rfl rfl (q_assign rfl (hF.eval rfl)) fun a hF => ?_
          refine wl_nil ?_
          refine k_n ?_
          refine wp_ret ?_
          refine k_r ?_
          refine k_r ?_
          refine r_1 hF rfl rfl ?_
          have hO := hO.drop1 0
          have hO : St _ _ _ [] := hO
          have e : textN (q + 1) (.con n) = n.drop 5 := by
            show (if n = sArr then sArrP else if 5 ≤ n.length ∧ n.take 5 = sPrim then n.drop 5 else n) = _
            rw [if_neg (show ¬ n = sArr from hc3), if_pos ⟨by have h5 : (n.length : Int) ≥ 5 := hc4.1; omega, hc4.2⟩]
          rw [e]; exact ⟨rfl, hO⟩
        · skip
          refine wp_skip ?_
          refine k_n ?_
          refine wp_seq ?_
          refine wp_region_lit ?_
          refine wl_v hF rfl rfl rfl (q_fieldAddr0 (d := 1) Try.underlying33 rfl (hF.eval rfl) rfl Try.sizeOf9 (by decide) rfl) fun a hF => ?_
          refine wl_v hF rfl rfl rfl (q_load Try.isAgg9 rfl (hF.eval rfl) (hO.cell 0 rfl rfl)) fun a hF => ?_
          refine wl_v hF rfl rfl rfl (q_assign rfl (hF.eval rfl)) fun a hF => ?_
          refine wl_nil ?_
          refine k_n ?_
          refine wp_ret ?_
          refine k_r ?_
          refine r_1 hF rfl rfl ?_
          have hO := hO.drop1 0
          have hO : St _ _ _ [] := hO
          have e : textN (q + 1) (.con n) = n := by
            show (if n = sArr then sArrP else if 5 ≤ n.length ∧ n.take 5 = sPrim then n.drop 5 else n) = _
            rw [if_neg (show ¬ n = sArr from hc3), if_neg fun h => hc4 ⟨(by have := h.1; omega : (n.length : Int) ≥ 5), h.2⟩]
          rw [e]; exact ⟨rfl, hO⟩
    · skip
      obtain ⟨ra, rb, ta, tb, rfl, rfl, rfl, rfl, hea, heb⟩ := er_app her hc1 hc2
      obtain ⟨k8, n8, hd8, l8⟩ := ta
      obtain ⟨k9, n9, hd9, l9⟩ := tb
      have hnn : (RT.app ra rb).nodes = 1 + ra.nodes + rb.nodes := rfl
      have hpa := ra.pos
      have hpb := rb.pos
      have hww := wtR_app ra rb
      have hsw := spread_wt (.app ra rb)
      have hLa := text_len q ra (by omega)
      have hLb := text_len q rb (by omega)
      have hRa := hR.sub (TN.mk k8 n8 hd8 l8) (by simp)
      have hRb := hR.sub (TN.mk k9 n9 hd9 l9) (by simp)
      refine wp_skip ?_
      refine k_n ?_
      refine wp_seq ?_
      refine wp_region_lit ?_
      refine wl_v hF rfl rfl rfl (q_loadAgg Try.isAgg33 Try.sizeOf33 rfl (hF.eval rfl) (hO.cells 0 rfl) rfl) fun a hF => ?_
      refine wl_e hF rfl rfl rfl (c_call hF rfl rfl Try.call69 (args_r ((RT.app ra rb).nodes + 1) (.app ra rb) (by omega) (TN.mk 54 [] hd [(TN.mk k8 n8 hd8 l8), (TN.mk k9 n9 hd9 l9)]) _ (hR.at0 hO) her hw)) ?_
      rintro a _ w ⟨h1, ls, rfl, hls, hlS, hS⟩ hF
      have hO := hO.call0 hS
      have hO : St _ _ _ [_, _] := hO
      have hln := er_len hls
      refine wl_v hF rfl rfl rfl (q_move rfl (hF.eval rfl)) fun a hF => ?_
      refine wl_v hF rfl rfl rfl (q_extract rfl (hF.eval rfl) rfl) fun a hF => ?_
      refine wl_v hF rfl rfl rfl (q_extract rfl (hF.eval rfl) rfl) fun a hF => ?_
      refine wl_v hF rfl rfl rfl (q_assign rfl (hF.eval rfl)) fun a hF => ?_
      refine wl_v hF rfl rfl rfl (q_assign rfl (hF.eval rfl)) fun a hF => ?_
      refine wl_nil ?_
      refine k_n ?_
      refine wp_seq ?_
      refine wp_seq ?_
      refine wp_region_lit ?_
      refine wl_v hF rfl rfl rfl (q_loadAgg Try.isAgg33 Try.sizeOf33 rfl (hF.eval rfl) (hO.cells 1 rfl) rfl) fun a hF => ?_
      refine wl_e hF rfl rfl rfl (c_call hF rfl rfl Try.call70 (arrow_r (.app ra rb) _ _ (hR.at0 hO) her hw)) ?_
      rintro a _ w ⟨rfl, hS⟩ hF
      have hO := hO.call0 hS
      have hO : St _ _ _ [_, _] := hO
      refine wl_nil ?_
      refine k_n ?_
      refine wp_ifD hF rfl (dec_b _) (fun hc5 => ?_) (fun hc5 => ?_)
      · skip
        have hc5 : arrowP (.app ra rb) := of_decide_eq_true hc5
        refine wp_seq ?_
        have hO := hO.drew
        refine wp_region_D [0, 0, 1, 0, 0, 1, 2, 2, 0, 0, 0, 1, 3, 0, 0] (fun w => St _ _ w _) Try_mixed (by kernel_rfl) hO ?_
        refine wd_p hF rfl rfl rfl (fun w => q_move rfl (hF.eval rfl)) fun a hF => ?_
        obtain ⟨x0, hx0⟩ := get_ex (l := ls) (i := 0) (by have := hc5.2; omega)
        refine wd_p hF rfl rfl rfl (fun w => q_at (i := 0) (hO.rd 0 rfl) Try.underlying31 Try.sizeOf33 rfl (hF.eval rfl) (hF.eval rfl) (by have := hc5.2; omega)) fun a hF => ?_
        refine wd_r hF rfl rfl rfl (fun w hO => q_loadAgg Try.isAgg33 Try.sizeOf33 rfl (hF.eval rfl) (RdT.cells (hO.rdT 0 rfl) hx0) rfl) fun a hF => ?_
        obtain ⟨r0, hr0, her0⟩ := er_at hls hx0
        have hmr0 := List.mem_of_getElem? hr0
        have hnr0 : r0.nodes < q := by have := spread_nodes _ r0 hmr0; omega
        have hwr0 : wtR r0 ≤ 2199023255552 := by have := wtS_mem hmr0; omega
        have hRx0 := (hlS x0 (List.mem_of_getElem? hx0)).rd hR
        have hLr0 := text_len q r0 hnr0
        refine wd_p hF rfl rfl rfl (fun w => q_move rfl (hF.eval rfl)) fun a hF => ?_
        refine wd_p hF rfl rfl rfl (fun w => q_at (i := 0) (hO.rd 0 rfl) Try.underlying31 Try.sizeOf33 rfl (hF.eval rfl) (hF.eval rfl) (by have := hc5.2; omega)) fun a hF => ?_
        refine wd_r hF rfl rfl rfl (fun w hO => q_loadAgg Try.isAgg33 Try.sizeOf33 rfl (hF.eval rfl) (RdT.cells (hO.rdT 0 rfl) hx0) rfl) fun a hF => ?_
        refine wd_e hF rfl rfl rfl (c_call hF rfl rfl Try.call70 (arrow_r r0 x0 _ (hRx0.at0 hO) her0 hwr0)) (fun _ _ ⟨_, hS⟩ => hO.call0 hS) ?_
        rintro a _ w ⟨rfl, hS⟩ hF
        have hO := hO.call0 hS
        have hO : St _ _ _ [_, _] := hO
        refine wd_e hF rfl rfl rfl (c_call hF rfl rfl Try.call71 (inside_r q r0 x0 (ih r0 hnr0 x0) (arrowP r0) _ (hRx0.at0 hO) her0 hwr0 (text_len q r0 hnr0))) (fun _ _ ⟨_, hS⟩ => hO.call0 hS) ?_
        rintro a _ w ⟨rfl, hS⟩ hF
        have hO := hO.call0 hS
        have hO : St _ _ _ [_, _] := hO
        have hI0 := ins_len (f := textN q) (arrowP r0) hLr0
        refine wd_p hF rfl rfl rfl (fun w => q_cat rfl (hF.eval rfl) (hF.eval rfl) (by simp only [List.length_append, List.length_cons, List.length_nil]; omega)) fun a hF => ?_
        refine wd_p hF rfl rfl rfl (fun w => q_move rfl (hF.eval rfl)) fun a hF => ?_
        obtain ⟨x1, hx1⟩ := get_ex (l := ls) (i := 1) (by have := hc5.2; omega)
        refine wd_p hF rfl rfl rfl (fun w => q_at (i := 1) (hO.rd 0 rfl) Try.underlying31 Try.sizeOf33 rfl (hF.eval rfl) (hF.eval rfl) (by have := hc5.2; omega)) fun a hF => ?_
        refine wd_r hF rfl rfl rfl (fun w hO => q_loadAgg Try.isAgg33 Try.sizeOf33 rfl (hF.eval rfl) (RdT.cells (hO.rdT 0 rfl) hx1) rfl) fun a hF => ?_
        obtain ⟨r1, hr1, her1⟩ := er_at hls hx1
        have hmr1 := List.mem_of_getElem? hr1
        have hnr1 : r1.nodes < q := by have := spread_nodes _ r1 hmr1; omega
        have hwr1 : wtR r1 ≤ 2199023255552 := by have := wtS_mem hmr1; omega
        have hRx1 := (hlS x1 (List.mem_of_getElem? hx1)).rd hR
        have hLr1 := text_len q r1 hnr1
        refine wd_f hF rfl rfl rfl (c_call hF rfl rfl Try.call49 (ih r1 hnr1 x1 _ (hRx1.at0 hO) her1 hwr1)) ?_
        rintro a _ w ⟨rfl, hS⟩ hF
        have hO := hO.call0 hS
        have hO : St _ _ _ [_, _] := hO
        refine wd_p hF rfl rfl rfl (fun w => q_cat rfl (hF.eval rfl) (hF.eval rfl) (by simp only [List.length_append, List.length_cons, List.length_nil]; omega)) fun a hF => ?_
        refine wd_p hF rfl rfl rfl (fun w => q_assign rfl (hF.eval rfl)) fun a hF => ?_
        refine wd_nil ?_
        refine k_n ?_
        refine wp_ret ?_
        refine k_r ?_
        refine r_1 hF rfl rfl ?_
        have hO := hO.drop1 0
        have hO := hO.drop1 0
        have hO : St _ _ _ [] := hO
        have e : textN (q + 1) (.app ra rb) = (insT (textN q) r0 (arrowP r0) ++ sTo) ++ textN q r1 := by
          show textA _ _ _ = _
          unfold textA
          rw [if_pos hc5, getD_at hr0, getD_at hr1]
        rw [e]; exact ⟨rfl, hO⟩
      · skip
        have hc5 : ¬ arrowP (.app ra rb) := fun h => hc5 (decide_eq_true h)
        refine wp_skip ?_
        refine k_n ?_
        refine wp_seq ?_
        refine wp_seq ?_
        refine wp_region_lit ?_
        refine wl_v hF rfl rfl rfl (q_loadAgg Try.isAgg33 Try.sizeOf33 rfl (hF.eval rfl) (hO.cells 1 rfl) rfl) fun a hF => ?_
        refine wl_e hF rfl rfl rfl (c_call hF rfl rfl Try.call72 (special_r (.app ra rb) _ _ (hR.at0 hO) her hw)) ?_
        rintro a _ w ⟨rfl, hS⟩ hF
        have hO := hO.call0 hS
        have hO : St _ _ _ [_, _] := hO
        refine wl_nil ?_
        refine k_n ?_
        refine wp_ifD hF rfl (dec_b _) (fun hc6 => ?_) (fun hc6 => ?_)
        · skip
          have hc6 : specialP (.app ra rb) := of_decide_eq_true hc6
          have hl1 : 1 ≤ ls.length := by rcases hc6 with ((h | h) | h) | h; exact absurd h hc5; all_goals (have := h.2; omega)
          refine wp_seq ?_
          refine wp_seq ?_
          refine wp_region_lit ?_
          refine wl_v hF rfl rfl rfl (q_move rfl (hF.eval rfl)) fun a hF => ?_
          refine wl_v hF rfl rfl rfl (q_seq rfl (hF.eval rfl) (hF.eval rfl)) fun a hF => ?_
          refine wl_nil ?_
          refine k_n ?_
          refine wp_ifD hF rfl rfl (fun hc7 => ?_) (fun hc7 => ?_)
          · skip
            refine wp_seq ?_
            refine wp_region_lit ?_
            refine wl_v hF rfl rfl rfl (q_move rfl (hF.eval rfl)) fun a hF => ?_
            obtain ⟨x0, hx0⟩ := get_ex (l := ls) (i := 0) (by omega)
            refine wl_v hF rfl rfl rfl (q_at (i := 0) (hO.rd 0 rfl) Try.underlying31 Try.sizeOf33 rfl (hF.eval rfl) (hF.eval rfl) (by omega)) fun a hF => ?_
            refine wl_v hF rfl rfl rfl (q_loadAgg Try.isAgg33 Try.sizeOf33 rfl (hF.eval rfl) (RdT.cells (hO.rdT 0 rfl) hx0) rfl) fun a hF => ?_
            obtain ⟨r0, hr0, her0⟩ := er_at hls hx0
            have hmr0 := List.mem_of_getElem? hr0
            have hnr0 : r0.nodes < q := by have := spread_nodes _ r0 hmr0; omega
            have hwr0 : wtR r0 ≤ 2199023255552 := by have := wtS_mem hmr0; omega
            have hRx0 := (hlS x0 (List.mem_of_getElem? hx0)).rd hR
            have hLr0 := text_len q r0 hnr0
            refine wl_e hF rfl rfl rfl (c_call hF rfl rfl Try.call49 (ih r0 hnr0 x0 _ (hRx0.at0 hO) her0 hwr0)) ?_
            rintro a _ w ⟨rfl, hS⟩ hF
            have hO := hO.call0 hS
            have hO : St _ _ _ [_, _] := hO
            refine wl_v hF rfl rfl rfl (q_cat rfl (hF.eval rfl) (hF.eval rfl) (by simp only [List.length_append, List.length_cons, List.length_nil]; omega)) fun a hF => ?_
            refine wl_v hF rfl rfl rfl (q_cat rfl (hF.eval rfl) (hF.eval rfl) (by simp only [List.length_append, List.length_cons, List.length_nil]; omega)) fun a hF => ?_
            refine wl_v hF rfl rfl rfl (q_assign rfl (hF.eval rfl)) fun a hF => ?_
            refine wl_nil ?_
            refine k_n ?_
            refine wp_ret ?_
            refine k_r ?_
            refine k_r ?_
            refine r_1 hF rfl rfl ?_
            have hO := hO.drop1 0
            have hO := hO.drop1 0
            have hO : St _ _ _ [] := hO
            have e : textN (q + 1) (.app ra rb) = ([91] ++ textN q r0) ++ [93] := by
              show textA _ _ _ = _
              unfold textA
              rw [if_neg hc5, if_pos hc6, if_pos (show (spreadF (.app ra rb)).1 = sLst from hc7), getD_at hr0]
            rw [e]; exact ⟨rfl, hO⟩
          · skip
            refine wp_skip ?_
            refine k_n ?_
            refine wp_seq ?_
            refine wp_region_lit ?_
            refine wl_v hF rfl rfl rfl (q_move rfl (hF.eval rfl)) fun a hF => ?_
            obtain ⟨x0, hx0⟩ := get_ex (l := ls) (i := 0) (by omega)
            refine wl_v hF rfl rfl rfl (q_at (i := 0) (hO.rd 0 rfl) Try.underlying31 Try.sizeOf33 rfl (hF.eval rfl) (hF.eval rfl) (by omega)) fun a hF => ?_
            refine wl_v hF rfl rfl rfl (q_loadAgg Try.isAgg33 Try.sizeOf33 rfl (hF.eval rfl) (RdT.cells (hO.rdT 0 rfl) hx0) rfl) fun a hF => ?_
            obtain ⟨r0, hr0, her0⟩ := er_at hls hx0
            have hmr0 := List.mem_of_getElem? hr0
            have hnr0 : r0.nodes < q := by have := spread_nodes _ r0 hmr0; omega
            have hwr0 : wtR r0 ≤ 2199023255552 := by have := wtS_mem hmr0; omega
            have hRx0 := (hlS x0 (List.mem_of_getElem? hx0)).rd hR
            have hLr0 := text_len q r0 hnr0
            refine wl_e hF rfl rfl rfl (c_call hF rfl rfl Try.call49 (ih r0 hnr0 x0 _ (hRx0.at0 hO) her0 hwr0)) ?_
            rintro a _ w ⟨rfl, hS⟩ hF
            have hO := hO.call0 hS
            have hO : St _ _ _ [_, _] := hO
            refine wl_v hF rfl rfl rfl (q_cat rfl (hF.eval rfl) (hF.eval rfl) (by simp only [List.length_append, List.length_cons, List.length_nil]; omega)) fun a hF => ?_
            refine wl_v hF rfl rfl rfl (q_assign rfl (hF.eval rfl)) fun a hF => ?_
            refine wl_nil ?_
            refine k_n ?_
            refine wp_seq ?_
            refine wp_seq ?_
            refine wp_region_lit ?_
            refine wl_v hF rfl rfl rfl (q_assign rfl (hF.eval rfl)) fun a hF => ?_
            refine wl_nil ?_
            refine k_n ?_
            refine wp_block ?_
            have hO := hO.drop1 1
            have hO : St _ _ _ [_] := hO
            refine wp_loopS (fun (s : Nat × Nam) a w' => match s with | (i, sx) => (1 ≤ i ∧ i ≤ ls.length ∧ sx = [40] ++ Lib.join (((spreadF (.app ra rb)).2.take i).map (textN q)) [44, 32]) ∧ St w0 [] w' [slT h1.v 33 tnE ls] ∧ Fr a 115 [(4, h1.v), (5, str sx), (6, i64 i)]) (fun (s : Nat × Nam) => match s with | (i, sx) => ls.length - i) (1, [40] ++ textN q r0) ⟨⟨by omega, by omega, by rw [takeAt (k := 0) hr0]; show _ = [40] ++ Lib.join [textN q r0] [44, 32]; rw [Lib.join_one]⟩, hO, hF.sub ⟨rfl, rfl, rfl, trivial⟩⟩ ?_
            rintro ⟨i, sx⟩ a w ⟨⟨hi1, hi, hsx⟩, hO, hF⟩
            have hjl := join_lenN (g := textN q) ((spreadF (.app ra rb)).2.take i) (fun r hr => text_len q r (by have := spread_nodes _ r (List.mem_of_mem_take hr); omega))
            have htw := wtS_take (spreadF (.app ra rb)).2 i
            have htl : ((spreadF (.app ra rb)).2.take i).length = i := by rw [List.length_take]; omega
            have hsl : sx.length = 1 + (Lib.join (((spreadF (.app ra rb)).2.take i).map (textN q)) [44, 32]).length := by rw [hsx, List.length_append]; rfl
            refine wp_seq ?_
            refine wp_seq ?_
            refine wp_region_lit ?_
            refine wl_v hF rfl rfl rfl (q_move rfl (hF.eval rfl)) fun a hF => ?_
            refine wl_v hF rfl rfl rfl (q_move rfl (hF.eval rfl)) fun a hF => ?_
            refine wl_v hF rfl rfl rfl (q_lenRd (hO.rd 0 rfl) Try.underlying31 rfl (hF.eval rfl)) fun a hF => ?_
            refine wl_v hF rfl rfl rfl (q_lt rfl (hF.eval rfl) (hF.eval rfl)) fun a hF => ?_
            refine wl_nil ?_
            refine k_n ?_
            refine wp_ifD hF rfl rfl (fun hc8 => ?_) (fun hc8 => ?_)
            · skip
              refine wp_skip ?_
              refine k_n ?_
              refine wp_seq ?_
              refine wp_block ?_
              refine wp_region_lit ?_
              refine wl_v hF rfl rfl rfl (q_move rfl (hF.eval rfl)) fun a hF => ?_
              refine wl_v hF rfl rfl rfl (q_cat rfl (hF.eval rfl) (hF.eval rfl) (by simp only [List.length_append, List.length_cons, List.length_nil]; omega)) fun a hF => ?_
              refine wl_v hF rfl rfl rfl (q_move rfl (hF.eval rfl)) fun a hF => ?_
              refine wl_v hF rfl rfl rfl (q_move rfl (hF.eval rfl)) fun a hF => ?_
              obtain ⟨x, hx⟩ := get_ex (l := ls) (i := i) (by omega)
              refine wl_v hF rfl rfl rfl (q_at (i := i) (hO.rd 0 rfl) Try.underlying31 Try.sizeOf33 rfl (hF.eval rfl) (hF.eval rfl) (by omega)) fun a hF => ?_
              refine wl_v hF rfl rfl rfl (q_loadAgg Try.isAgg33 Try.sizeOf33 rfl (hF.eval rfl) (RdT.cells (hO.rdT 0 rfl) hx) rfl) fun a hF => ?_
              obtain ⟨ri, hri, heri⟩ := er_at hls hx
              have hmri := List.mem_of_getElem? hri
              have hnri : ri.nodes < q := by have := spread_nodes _ ri hmri; omega
              have hwri : wtR ri ≤ 2199023255552 := by have := wtS_mem hmri; omega
              have hRx := (hlS x (List.mem_of_getElem? hx)).rd hR
              have hLri := text_len q ri hnri
              refine wl_e hF rfl rfl rfl (c_call hF rfl rfl Try.call49 (ih ri hnri x _ (hRx.at0 hO) heri hwri)) ?_
              rintro a _ w ⟨rfl, hS⟩ hF
              have hO := hO.call0 hS
              have hO : St _ _ _ [_] := hO
              refine wl_v hF rfl rfl rfl (q_cat rfl (hF.eval rfl) (hF.eval rfl) (by simp only [List.length_append, List.length_cons, List.length_nil]; omega)) fun a hF => ?_
              refine wl_v hF rfl rfl rfl (q_assign rfl (hF.eval rfl)) fun a hF => ?_
              refine wl_nil ?_
              refine b_n ?_
              refine k_n ?_
              refine wp_region_lit ?_
              refine wl_v hF rfl rfl rfl (q_move rfl (hF.eval rfl)) fun a hF => ?_
              refine wl_v hF rfl rfl rfl (q_add rfl (hF.eval rfl) (hF.eval rfl) (by omega)) fun a hF => ?_
              refine wl_v hF rfl rfl rfl (q_assign rfl (hF.eval rfl)) fun a hF => ?_
              refine wl_nil ?_
              refine k_n ?_
              have hO : St _ _ _ [_] := hO
              exact ⟨(i + 1, (sx ++ [44, 32]) ++ textN q ri), ⟨⟨by omega, by omega, by rw [takeAt hri, List.map_append, hsx]; show _ = [40] ++ Lib.join (_ ++ [textN q ri]) _; rw [join_snoc (by rw [List.length_map]; omega)]; simp only [List.append_assoc]⟩, hO, hF.sub ⟨rfl, rfl, rfl, trivial⟩⟩, by dsimp only; omega⟩
            · skip
              have hti : (spreadF (.app ra rb)).2.take i = (spreadF (.app ra rb)).2 := List.take_of_length_le (by omega)
              rw [hti] at hsx
              refine wp_exit ?_
              refine k_x ?_
              refine k_x ?_
              refine b_x ?_
              refine k_n ?_
              refine wp_seq ?_
              refine wp_region_lit ?_
              refine wl_v hF rfl rfl rfl (q_move rfl (hF.eval rfl)) fun a hF => ?_
              refine wl_v hF rfl rfl rfl (q_cat rfl (hF.eval rfl) (hF.eval rfl) (by simp only [List.length_append, List.length_cons, List.length_nil]; omega)) fun a hF => ?_
              refine wl_v hF rfl rfl rfl (q_assign rfl (hF.eval rfl)) fun a hF => ?_
              refine wl_nil ?_
              refine k_n ?_
              refine wp_ret ?_
              refine k_r ?_
              refine r_1 hF rfl rfl ?_
              have hO := hO.drop1 0
              have hO : St _ _ _ [] := hO
              have e : textN (q + 1) (.app ra rb) = ([40] ++ Lib.join (((spreadF (.app ra rb)).2).map (textN q)) [44, 32]) ++ [41] := by
                show textA _ _ _ = _
                unfold textA
                rw [if_neg hc5, if_pos hc6, if_neg (show ¬ (spreadF (.app ra rb)).1 = sLst from hc7)]
              rw [e, ← hsx]; exact ⟨rfl, hO⟩
        · skip
          have hc6 : ¬ specialP (.app ra rb) := fun h => hc6 (decide_eq_true h)
          refine wp_skip ?_
          refine k_n ?_
          refine wp_seq ?_
          refine wp_region_lit ?_
          refine wl_v hF rfl rfl rfl (q_fieldAddr0 (d := 2) Try.underlying33 rfl (hF.eval rfl) rfl Try.sizeOf31 (by decide) rfl) fun a hF => ?_
          refine wl_v hF rfl rfl rfl (q_load Try.isAgg31 rfl (hF.eval rfl) (hO.cell 1 rfl rfl)) fun a hF => ?_
          refine wl_v hF rfl rfl rfl (q_at (i := 0) hR.sl Try.underlying31 Try.sizeOf33 rfl (hF.eval rfl) (hF.eval rfl) (by simp)) fun a hF => ?_
          refine wl_v hF rfl rfl rfl (q_loadAgg Try.isAgg33 Try.sizeOf33 rfl (hF.eval rfl) (RdT.cells (hR.sl.now hO) (show [(TN.mk k8 n8 hd8 l8), (TN.mk k9 n9 hd9 l9)][0]? = some (TN.mk k8 n8 hd8 l8) from rfl)) rfl) fun a hF => ?_
          refine wl_e hF rfl rfl rfl (e_alloc hO Try.zeroValue33 rfl rfl) ?_
          rintro a _ w ⟨ba, rfl, hO⟩ hF
          refine wl_s hF rfl rfl (e_storeAll hO (i := 0) rfl Try.sizeOf33 rfl (hF.eval rfl) (hF.eval rfl) rfl rfl) ?_
          rintro a _ w ⟨-, hO⟩ hF
          have hO : St _ _ _ [_, _, _] := hO
          refine wl_nil ?_
          refine k_n ?_
          refine wp_seq ?_
          refine wp_region_lit ?_
          refine wl_v hF rfl rfl rfl (q_fieldAddr0 (d := 2) Try.underlying33 rfl (hF.eval rfl) rfl Try.sizeOf31 (by decide) rfl) fun a hF => ?_
          refine wl_v hF rfl rfl rfl (q_load Try.isAgg31 rfl (hF.eval rfl) (hO.cell 2 rfl rfl)) fun a hF => ?_
          refine wl_v hF rfl rfl rfl (q_at (i := 1) hR.sl Try.underlying31 Try.sizeOf33 rfl (hF.eval rfl) (hF.eval rfl) (by simp)) fun a hF => ?_
          refine wl_v hF rfl rfl rfl (q_loadAgg Try.isAgg33 Try.sizeOf33 rfl (hF.eval rfl) (RdT.cells (hR.sl.now hO) (show [(TN.mk k8 n8 hd8 l8), (TN.mk k9 n9 hd9 l9)][1]? = some (TN.mk k9 n9 hd9 l9) from rfl)) rfl) fun a hF => ?_
          refine wl_e hF rfl rfl rfl (e_alloc hO Try.zeroValue33 rfl rfl) ?_
          rintro a _ w ⟨bb, rfl, hO⟩ hF
          refine wl_s hF rfl rfl (e_storeAll hO (i := 0) rfl Try.sizeOf33 rfl (hF.eval rfl) (hF.eval rfl) rfl rfl) ?_
          rintro a _ w ⟨-, hO⟩ hF
          have hO : St _ _ _ [_, _, _, _] := hO
          refine wl_nil ?_
          refine k_n ?_
          refine wp_seq ?_
          have hO := hO.drew
          refine wp_region_D [1, 1, 2, 2, 0, 1, 1, 2, 0, 0, 1, 0, 0, 1, 2, 0, 0, 0, 3, 0, 0] (fun w => St _ _ w _) Try_mixed (by kernel_rfl) hO ?_
          refine wd_r hF rfl rfl rfl (fun w hO => q_loadAgg Try.isAgg33 Try.sizeOf33 rfl (hF.eval rfl) (hO.cells 1 rfl) rfl) fun a hF => ?_
          refine wd_r hF rfl rfl rfl (fun w hO => q_loadAgg Try.isAgg33 Try.sizeOf33 rfl (hF.eval rfl) (hO.cells 1 rfl) rfl) fun a hF => ?_
          refine wd_e hF rfl rfl rfl (c_call hF rfl rfl Try.call70 (arrow_r ra (TN.mk k8 n8 hd8 l8) _ (hRa.at0 hO) hea (by omega))) (fun _ _ ⟨_, hS⟩ => hO.call0 hS) ?_
          rintro a _ w ⟨rfl, hS⟩ hF
          have hO := hO.call0 hS
          have hO : St _ _ _ [_, _, _, _] := hO
          refine wd_e hF rfl rfl rfl (c_call hF rfl rfl Try.call71 (inside_r q ra (TN.mk k8 n8 hd8 l8) (ih ra (by omega) (TN.mk k8 n8 hd8 l8)) (arrowP ra) _ (hRa.at0 hO) hea (by omega) (text_len q ra (by omega)))) (fun _ _ ⟨_, hS⟩ => hO.call0 hS) ?_
          rintro a _ w ⟨rfl, hS⟩ hF
          have hO := hO.call0 hS
          have hO : St _ _ _ [_, _, _, _] := hO
          have hI0 := ins_len (f := textN q) (arrowP ra) hLa
          refine wd_p hF rfl rfl rfl (fun w => q_cat rfl (hF.eval rfl) (hF.eval rfl) (by simp only [List.length_append, List.length_cons, List.length_nil]; omega)) fun a hF => ?_
          refine wd_r hF rfl rfl rfl (fun w hO => q_loadAgg Try.isAgg33 Try.sizeOf33 rfl (hF.eval rfl) (hO.cells 0 rfl) rfl) fun a hF => ?_
          refine wd_r hF rfl rfl rfl (fun w hO => q_loadAgg Try.isAgg33 Try.sizeOf33 rfl (hF.eval rfl) (hO.cells 0 rfl) rfl) fun a hF => ?_
          refine wd_e hF rfl rfl rfl (c_call hF rfl rfl Try.call70 (arrow_r rb (TN.mk k9 n9 hd9 l9) _ (hRb.at0 hO) heb (by omega))) (fun _ _ ⟨_, hS⟩ => hO.call0 hS) ?_
          rintro a _ w ⟨rfl, hS⟩ hF
          have hO := hO.call0 hS
          have hO : St _ _ _ [_, _, _, _] := hO
          refine wd_p hF rfl rfl rfl (fun w => q_move rfl (hF.eval rfl)) fun a hF => ?_
          refine wd_gp hF rfl rfl rfl rfl rfl rfl (fun hg w => q_fieldAddr0 (d := 0) Try.underlying33 rfl (hF.eval rfl) rfl Try.sizeOf3 (by decide) rfl) fun a hF => ?_
          refine wd_gr hF rfl rfl rfl rfl rfl rfl (fun hg w hO => q_load Try.isAgg3 rfl ((hF.eval rfl).trans (gv_of hg)) (hO.cell 0 rfl rfl)) fun a hF => ?_
          refine wd_gp hF rfl rfl rfl rfl rfl rfl (fun hg w => q_eq rfl ((hF.eval rfl).trans (gv_of hg)) (hF.eval rfl)) fun a hF => ?_
          refine wd_gp hF rfl rfl rfl rfl rfl rfl (fun hg w => q_move rfl ((hF.eval rfl).trans (gv_of hg))) fun a hF => ?_
          refine wd_gr hF rfl rfl rfl rfl rfl rfl (fun hg w hO => q_loadAgg Try.isAgg33 Try.sizeOf33 rfl (hF.eval rfl) (hO.cells 0 rfl) rfl) fun a hF => ?_
          refine wd_gk2 hO hF rfl rfl rfl rfl rfl rfl (fun hg => c_callG hF rfl rfl (by first | with_reducible rfl | (simp only [gv_of hg]; done) | (simp only [gv_of hg]; rfl)) Try.call72 (special_r rb (TN.mk k9 n9 hd9 l9) _ (hRb.at0 hO) heb (by omega))) (fun _ hS => hS) fun a w hO hF => ?_
          refine wd_gp hF rfl rfl rfl rfl rfl rfl (fun hg w => q_not rfl ((hF.eval rfl).trans (gv_of hg)) (dec_b _)) fun a hF => ?_
          refine wd_gp hF rfl rfl rfl rfl rfl rfl (fun hg w => q_and rfl ((hF.eval rfl).trans (gv_of hg)) rfl (fun hg2 => ((hF.eval rfl).trans (gv_of2 hg hg2))) rfl) fun a hF => ?_
          refine wd_p hF rfl rfl rfl (fun w => q_or rfl (hF.eval rfl) (dec_b _) (fun hg2 => ((hF.eval rfl).trans (gv_of hg2))) rfl) fun a hF => ?_
          have epb : (arrowP rb ∨ (k9 = 54 ∧ ¬ specialP rb)) ↔ (arrowP rb ∨ (isApp rb = true ∧ ¬ specialP rb)) := or_congr Iff.rfl (and_congr (app_kind heb) Iff.rfl)
          refine wd_f hF rfl rfl rfl (c_call hF rfl rfl Try.call71 (inside_r q rb (TN.mk k9 n9 hd9 l9) (ih rb (by omega) (TN.mk k9 n9 hd9 l9)) _ _ (hRb.at0 hO) heb (by omega) (text_len q rb (by omega)))) ?_
          rintro a _ w ⟨rfl, hS⟩ hF
          have hO := hO.call0 hS
          have hO : St _ _ _ [_, _, _, _] := hO
          refine wd_p hF rfl rfl rfl (fun w => q_cat rfl (hF.eval rfl) (hF.eval rfl) (Nat.le_trans (Nat.add_le_add_left (ins_len _ hLb) _) (by simp only [List.length_append, List.length_cons, List.length_nil]; omega))) fun a hF => ?_
          refine wd_p hF rfl rfl rfl (fun w => q_assign rfl (hF.eval rfl)) fun a hF => ?_
          refine wd_nil ?_
          refine k_n ?_
          refine wp_ret ?_
          refine r_1 hF rfl rfl ?_
          have hO := hO.drop1 0
          have hO := hO.drop1 0
          have hO := hO.drop1 0
          have hO := hO.drop1 0
          have hO : St _ _ _ [] := hO
          have e : textN (q + 1) (.app ra rb) = (insT (textN q) ra (arrowP ra) ++ [32]) ++ insT (textN q) rb (arrowP rb ∨ (isApp rb = true ∧ ¬ specialP rb)) := by
            show textA _ _ _ = _
            unfold textA
            rw [if_neg hc5, if_neg hc6]
          rw [e]
          refine ⟨congrArg str (congrArg (fun x => (insT (textN q) ra (arrowP ra) ++ [32]) ++ x) (ins_iff ?_)), hO⟩
          exact or_congr decide_eq_true_iff (and_congr (app_kind heb) (not_congr decide_eq_true_iff))


theorem textN_r : ∀ (q : Nat) (r : RT), r.nodes < q → ∀ t : TN, ∀ (w0 : World), RdN w0 [] t → t.er = r.ty → wtR r ≤ 2199023255552 → Ret Try.prog 49 #[.agg (tnE.cells t).toArray] w0 (fun v w' => v = str (textN q r) ∧ St w0 [] w' [])
  | 0, _, h => absurd h (Nat.not_lt_zero _)
  | q + 1, r, h => fun t => by
    obtain ⟨k, n, hd, l⟩ := t
    intro w0 h1 h2 h3
    exact text_i q (fun r' hr => textN_r q r' hr) r h k n hd l w0 h1 h2 h3
theorem textR_r (w0 : World) (t : TN) (hR : RdN w0 [] t) (hFt : wtF t.er ≤ 2199023255552) : Ret Try.prog 21 #[.agg (tnE.cells t).toArray] w0 (fun v w' => ∃ s : Nam, v = str s ∧ ((rightF t.er = false ∧ s = []) ∨ ∃ r : RT, rightF t.er = true ∧ t.er = r.ty ∧ s = (toldN (r.nodes + 1) r).1) ∧ St w0 [] w' []) := by
  have hO := St.init0 w0
  have hnd := Nat.le_trans (nodes_wt t.er) (Nat.le_trans hFt (by decide : 2199023255552 ≤ 2305843009213693952))
  refine ret_of (m := 8) Try.func21 rfl Try.ntmps21 [(0, .agg (tnE.cells t).toArray)] rfl ⟨rfl, trivial⟩ fun a hF => ?_
  refine wp_seq ?_
  refine wp_region_lit ?_
  refine wl_e hF rfl rfl rfl (e_box hO rfl (hF.eval rfl) rfl) ?_
  rintro a _ w ⟨tk, rfl, hO⟩ hF
  refine wl_v hF rfl rfl rfl (q_assign rfl (hF.eval rfl)) fun a hF => ?_
  refine wl_nil ?_
  refine k_n ?_
  refine wp_seq ?_
  refine wp_seq ?_
  refine wp_region_lit ?_
  refine wl_v hF rfl rfl rfl (q_loadAgg Try.isAgg33 Try.sizeOf33 rfl (hF.eval rfl) (hO.cells 0 rfl) rfl) fun a hF => ?_
  refine wl_e hF rfl rfl rfl (c_call hF rfl rfl Try.call32 (right_r t _ (hR.at0 hO) hnd)) ?_
  rintro a _ w ⟨rfl, hS⟩ hF
  have hO := hO.call0 hS
  have hO : St _ _ _ [_] := hO
  refine wl_v hF rfl rfl rfl (q_not rfl (hF.eval rfl) (dec_b _)) fun a hF => ?_
  refine wl_nil ?_
  refine k_n ?_
  refine wp_ifD hF rfl rfl (fun hc1 => ?_) (fun hc1 => ?_)
  · skip
    have hr9 : rightF t.er = false := by simpa using hc1
    refine wp_seq ?_
    refine wp_region_lit ?_
    refine wl_v hF rfl rfl rfl (q_assign rfl (hF.eval rfl)) fun a hF => ?_
    refine wl_nil ?_
    refine k_n ?_
    refine wp_ret ?_
    refine k_r ?_
    refine r_1 hF rfl rfl ?_
    have hO := hO.drop1 0
    have hO : St _ _ _ [] := hO
    exact ⟨[], rfl, .inl ⟨hr9, rfl⟩, hO⟩
  · skip
    have hr9 : rightF t.er = true := by simpa using hc1
    obtain ⟨r, hr1, hr⟩ := right_ex _ hr9
    refine wp_skip ?_
    refine k_n ?_
    refine wp_seq ?_
    refine wp_region_lit ?_
    refine wl_v hF rfl rfl rfl (q_loadAgg Try.isAgg33 Try.sizeOf33 rfl (hF.eval rfl) (hO.cells 0 rfl) rfl) fun a hF => ?_
    refine wl_e hF rfl rfl rfl (c_call hF rfl rfl Try.call49 (textN_r (r.nodes + 1) r (by omega) t _ (hR.at0 hO) hr (by unfold wtR; rw [← hr]; exact hFt))) ?_
    rintro a _ w ⟨rfl, hS⟩ hF
    have hO := hO.call0 hS
    have hO : St _ _ _ [_] := hO
    refine wl_v hF rfl rfl rfl (q_assign rfl (hF.eval rfl)) fun a hF => ?_
    refine wl_nil ?_
    refine k_n ?_
    refine wp_ret ?_
    refine r_1 hF rfl rfl ?_
    have hO := hO.drop1 0
    have hO : St _ _ _ [] := hO
    exact ⟨_, rfl, .inr ⟨r, hr9, hr, text_told _ r (by omega)⟩, hO⟩

end Go.Proofs.Ytfkmlcgccffmnaa
