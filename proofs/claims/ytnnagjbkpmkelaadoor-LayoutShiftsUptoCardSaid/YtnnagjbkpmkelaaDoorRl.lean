import Derived.Test.YtnnagjbkpmkelaaDoorRk
import Derived.Test.YtnnagjbkpmkelaaDoorPl3
import Derived.Test.YtnnagjbkpmkelaaDoorGw11
namespace Go.Proofs.YtnnagjbkpmkelaaDoor
open Go
set_option maxRecDepth 100000

def gl (b : Nat) : Value := .slice (some (adr b)) 1 1
/-- The package's variables. -/
structure GlB (w : World) (M : List Nat) : Prop where
  b : RdT w M (gl 0) itmE [braceT]
  l : RdT w M (gl 1) itmE [letT]
section
variable {w0 w : World} {M : List Nat} {L B : List Ent} {e f g : Ent}
theorem GlB.now (h : GlB w0 M) (hO : St w0 M w L) : GlB w (blks L) := ⟨h.b.now hO, h.l.now hO⟩
theorem GlB.at0 (h : GlB w0 M) (hO : St w0 M w L) : GlB w [] := ⟨h.b.at0 hO, h.l.at0 hO⟩
theorem GlB.at2 (h : GlB w0 M) (hO : St w0 M w (e :: f :: B)) : GlB w (blks [e, f]) := ⟨h.b.at2 hO, h.l.at2 hO⟩
theorem GlB.at3 (h : GlB w0 M) (hO : St w0 M w (e :: f :: g :: B)) : GlB w (blks [e, f, g]) := ⟨h.b.at3 hO, h.l.at3 hO⟩
theorem GlB.cb (h : GlB w M) : ∀ j u, (itmE.cells braceT)[j]? = some u → w.cell? ((adr 0).add j) = some u := fun j u hj => by
  have := RdT.cells h.b (i := 0) rfl j u hj
  rw [Nat.zero_mul, adr_add0] at this; exact this
theorem GlB.cl (h : GlB w M) : ∀ j u, (itmE.cells letT)[j]? = some u → w.cell? ((adr 1).add j) = some u := fun j u hj => by
  have := RdT.cells h.l (i := 0) rfl j u hj
  rw [Nat.zero_mul, adr_add0] at this; exact this
end
def isP (t : Tok) (ls : List (List UInt8)) : Prop := (t.kind = 7 ∨ t.kind = 8) ∧ ls.contains t.text = true
instance (t : Tok) (ls : List (List UInt8)) : Decidable (isP t ls) := by unfold isP; infer_instance
theorem isP_iff {t : Tok} {ls : List (List UInt8)} (h : [] ∉ ls) : isP t ls ↔ wordF t ∈ ls := by
  unfold isP wordF
  rw [List.contains_iff_mem]
  split
  · rename_i hk; exact ⟨fun h => h.2, fun h => ⟨hk, h⟩⟩
  · rename_i hk; exact ⟨fun h => absurd h.1 hk, fun hm => absurd hm h⟩
def looseI (x : Thg) : Prop := x.sort = [] ∨ (itm x.sort = wLet ∧ x.col = 0)
instance (x : Thg) : Decidable (looseI x) := by unfold looseI; infer_instance
theorem looseI_iff {x : Thg} (h : okT x) : looseI x ↔ looseP x := or_congr Iff.rfl (itm_is h (s := wLet) (by decide) (by decide))
theorem fits_of {x w : List UInt8} (hx : x ∈ sorts) : fitsP x w = decide (w ∈ (if x = [123, 125] then [[125]] else if x = [40] then [[41], [44]] else if x = [91] then [[93], [44]] else if x = [123] then [[125], [44]] else if x = wIf then [wThen] else if x = wThen then [wElse] else if x = wCase then [wOf] else if x = wLet then [wIn] else [])) := by
  simp only [sorts, List.mem_cons, List.not_mem_nil, or_false] at hx
  unfold fitsP
  rcases hx with rfl | rfl | rfl | rfl | rfl | rfl | rfl | rfl | rfl <;>
  · by_cases h1 : w = [41]
    · subst h1; decide
    by_cases h2 : w = [93]
    · subst h2; decide
    by_cases h3 : w = [125]
    · subst h3; decide
    by_cases h4 : w = [44]
    · subst h4; decide
    by_cases h5 : w = wThen
    · subst h5; decide
    by_cases h6 : w = wElse
    · subst h6; decide
    by_cases h7 : w = wOf
    · subst h7; decide
    by_cases h8 : w = wIn
    · subst h8; decide
    simp [h1, h2, h3, h4, h5, h6, h7, h8, wThen, wElse, wIf, wCase, wLet, wIn, wOf] <;> simp_all [wThen, wElse, wIf, wCase, wLet, wIn, wOf]
theorem iblock_r (w0 : World) (x : Thg) : Ret Tryd.prog 43 #[.agg (itmE.cells x).toArray] w0 (fun v w' => v = .bool (decide (x.sort = [])) ∧ St w0 [] w' []) := by
  have hO := St.init0 w0
  refine ret_of (m := 6) Tryd.func43 rfl Tryd.ntmps43 [(0, .agg (itmE.cells x).toArray)] rfl ⟨rfl, trivial⟩ fun a hF => ?_
  refine wp_seq ?_
  refine wp_region_lit ?_
  refine wl_e hF rfl rfl rfl (e_box hO rfl (hF.eval rfl) rfl) ?_
  rintro a _ w ⟨b1, rfl, hO⟩ hF
  refine wl_v hF rfl rfl rfl (q_assign rfl (hF.eval rfl)) fun a hF => ?_
  refine wl_nil ?_
  refine k_n ?_
  refine wp_seq ?_
  refine wp_region_lit ?_
  refine wl_v hF rfl rfl rfl (q_fieldAddr0 (d := 0) Tryd.underlying63 rfl (hF.eval rfl) rfl Tryd.sizeOf9 (by decide) rfl) fun a hF => ?_
  refine wl_v hF rfl rfl rfl (q_load Tryd.isAgg9 rfl (hF.eval rfl) (hO.cell 0 rfl rfl)) fun a hF => ?_
  refine wl_v hF rfl rfl rfl (q_seq rfl (hF.eval rfl) (hF.eval rfl)) fun a hF => ?_
  refine wl_v hF rfl rfl rfl (q_assign rfl (hF.eval rfl)) fun a hF => ?_
  refine wl_nil ?_
  refine k_n ?_
  refine wp_ret ?_
  refine r_1 hF rfl rfl ?_
  have hO := hO.drop1 0
  have hO : St _ _ _ [] := hO
  exact ⟨congrArg Value.bool (decide_eq_decide.2 (itm_nil)), hO⟩

theorem iloose_r (w0 : World) (x : Thg) (hG : GlB w0 []) : Ret Tryd.prog 51 #[.agg (itmE.cells x).toArray] w0 (fun v w' => v = .bool (decide (looseI x)) ∧ St w0 [] w' []) := by
  have hO := St.init0 w0
  refine ret_of (m := 10) Tryd.func51 rfl Tryd.ntmps51 [(0, .agg (itmE.cells x).toArray)] rfl ⟨rfl, trivial⟩ fun a hF => ?_
  refine wp_seq ?_
  refine wp_region_lit ?_
  refine wl_e hF rfl rfl rfl (e_box hO rfl (hF.eval rfl) rfl) ?_
  rintro a _ w ⟨b1, rfl, hO⟩ hF
  refine wl_v hF rfl rfl rfl (q_assign rfl (hF.eval rfl)) fun a hF => ?_
  refine wl_nil ?_
  refine k_n ?_
  refine wp_seq ?_
  refine wp_region_lit ?_
  refine wl_v hF rfl rfl rfl (q_loadAgg Tryd.isAgg63 Tryd.sizeOf63 rfl (hF.eval rfl) (hO.cells 0 rfl) rfl) fun a hF => ?_
  refine wl_e hF rfl rfl rfl (c_call hF rfl rfl Tryd.call43 (iblock_r _ _)) ?_
  rintro a _ w ⟨rfl, hS⟩ hF
  have hO := hO.call0 hS
  have hO : St _ _ _ [_] := hO
  refine wl_v hF rfl rfl rfl (q_move rfl (hF.eval rfl)) fun a hF => ?_
  refine wl_g hF rfl rfl rfl rfl rfl rfl (fun hg => q_loadAgg Tryd.isAgg63 Tryd.sizeOf63 rfl (hF.eval rfl) (hO.cells 0 rfl) rfl) fun a hF => ?_
  refine wl_g hF rfl rfl rfl rfl rfl rfl (fun hg => q_loadAgg Tryd.isAgg63 Tryd.sizeOf63 rfl (hF.eval rfl) ((hG.now hO).cl) rfl) fun a hF => ?_
  refine wl_g hF rfl rfl rfl rfl rfl rfl (fun hg => q_eqS Tryd.underlying63 Tryd.stoodInHeld63 Tryd.eqGuardType63 rfl ((hF.eval rfl).trans (gv_of hg)) ((hF.eval rfl).trans (gv_of hg)) (ef_str (by decide) Tryd.isAgg9 Tryd.underlying9 rfl rfl (ef_int (by decide) Tryd.isAgg3 Tryd.underlying3 rfl rfl ef_nil)) (itm_eq _ _ _ _)) fun a hF => ?_
  refine wl_v hF rfl rfl rfl (q_or rfl (hF.eval rfl) rfl (fun hg2 => ((hF.eval rfl).trans (gv_of hg2))) rfl) fun a hF => ?_
  refine wl_v hF rfl rfl rfl (q_assign rfl (hF.eval rfl)) fun a hF => ?_
  refine wl_nil ?_
  refine k_n ?_
  refine wp_ret ?_
  refine r_1 hF rfl rfl ?_
  have hO := hO.drop1 0
  have hO : St _ _ _ [] := hO
  exact ⟨congrArg Value.bool (decide_eq_decide.2 (Iff.rfl)), hO⟩

theorem index_r (w0 : World) (s : List UInt8) (vl : Value) (ls : List (List UInt8)) (hl : ls.length ≤ 9223372036854775000) (hR : RdT w0 [] vl strE ls) : Ret Tryd.prog 52 #[vl, str s] w0 (fun v w' => ∃ n : Int, v = i64 n ∧ decide (0 ≤ n) = ls.contains s ∧ St w0 [] w' []) := by
  have hO := St.init0 w0
  refine ret_of (m := 19) Tryd.func52 rfl Tryd.ntmps52 [(0, vl), (1, str s)] rfl ⟨rfl, rfl, trivial⟩ fun a hF => ?_
  refine wp_seq ?_
  refine wp_region_lit ?_
  refine wl_v hF rfl rfl rfl (q_assign rfl (hF.eval rfl)) fun a hF => ?_
  refine wl_nil ?_
  refine k_n ?_
  refine wp_seq ?_
  refine wp_seq ?_
  refine wp_region_lit ?_
  refine wl_v hF rfl rfl rfl (q_move rfl (hF.eval rfl)) fun a hF => ?_
  refine wl_v hF rfl rfl rfl (q_lenRd hR Tryd.underlying45 rfl (hF.eval rfl)) fun a hF => ?_
  refine wl_v hF rfl rfl rfl (q_move rfl (hF.eval rfl)) fun a hF => ?_
  refine wl_nil ?_
  refine k_n ?_
  refine wp_block ?_
  have hO : St _ _ _ [] := hO
  refine wp_loopS (fun (k : Nat) a w' => (k ≤ ls.length ∧ (ls.take k).contains s = false) ∧ St w0 [] w' [] ∧ Fr a 19 [(0, vl), (1, str s), (7, i64 ls.length), (8, i64 k)]) (fun (k : Nat) => ls.length - k) 0 ⟨⟨by omega, by simp⟩, hO, hF.sub ⟨rfl, rfl, rfl, rfl, trivial⟩⟩ ?_
  rintro k a w ⟨⟨hk, hn⟩, hO, hF⟩
  refine wp_seq ?_
  refine wp_region_lit ?_
  refine wl_v hF rfl rfl rfl (q_lt rfl (hF.eval rfl) (hF.eval rfl)) fun a hF => ?_
  refine wl_nil ?_
  refine k_n ?_
  refine wp_seq ?_
  refine wp_ifD hF rfl rfl (fun hc1 => ?_) (fun hc1 => ?_)
  · skip
    refine wp_skip ?_
    refine k_n ?_
    refine wp_seq ?_
    refine wp_block ?_
    refine wp_seq ?_
    refine wp_region_lit ?_
    refine wl_v hF rfl rfl rfl (q_move rfl (hF.eval rfl)) fun a hF => ?_
    refine wl_v hF rfl rfl rfl (q_assign rfl (hF.eval rfl)) fun a hF => ?_
    refine wl_nil ?_
    refine k_n ?_
    refine wp_seq ?_
    refine wp_region_lit ?_
    refine wl_v hF rfl rfl rfl (q_move rfl (hF.eval rfl)) fun a hF => ?_
    refine wl_v hF rfl rfl rfl (q_move rfl (hF.eval rfl)) fun a hF => ?_
    refine wl_v hF rfl rfl rfl (q_move rfl (hF.eval rfl)) fun a hF => ?_
    obtain ⟨x, hx⟩ := get_ex (l := ls) (i := k) (by omega)
    refine wl_v hF rfl rfl rfl (q_at (i := k) hR Tryd.underlying45 Tryd.sizeOf9 rfl (hF.eval rfl) (hF.eval rfl) (by omega)) fun a hF => ?_
    refine wl_v hF rfl rfl rfl (q_load Tryd.isAgg9 rfl (hF.eval rfl) (RdT.cell0 (hR.now hO) hx rfl)) fun a hF => ?_
    refine wl_v hF rfl rfl rfl (q_seq rfl (hF.eval rfl) (hF.eval rfl)) fun a hF => ?_
    refine wl_nil ?_
    refine k_n ?_
    refine wp_ifD hF rfl rfl (fun hc2 => ?_) (fun hc2 => ?_)
    · skip
      refine wp_seq ?_
      refine wp_region_lit ?_
      refine wl_v hF rfl rfl rfl (q_move rfl (hF.eval rfl)) fun a hF => ?_
      refine wl_v hF rfl rfl rfl (q_assign rfl (hF.eval rfl)) fun a hF => ?_
      refine wl_nil ?_
      refine k_n ?_
      refine wp_ret ?_
      refine b_r ?_
      refine k_r ?_
      refine k_r ?_
      refine b_r ?_
      refine k_r ?_
      refine r_1 hF rfl rfl ?_
      exact ⟨_, rfl, (decide_eq_true (by omega)).trans (one_yes hx hc2.symm).symm, hO⟩
    · skip
      refine wp_skip ?_
      refine b_n ?_
      refine k_n ?_
      refine wp_region_lit ?_
      refine wl_v hF rfl rfl rfl (q_add rfl (hF.eval rfl) (hF.eval rfl) (by omega)) fun a hF => ?_
      refine wl_v hF rfl rfl rfl (q_move rfl (hF.eval rfl)) fun a hF => ?_
      refine wl_nil ?_
      refine k_n ?_
      have hO : St _ _ _ [] := hO
      exact ⟨k + 1, ⟨⟨by omega, one_no hx hn (fun e => hc2 e.symm)⟩, hO, hF.sub ⟨rfl, rfl, rfl, rfl, trivial⟩⟩, by omega⟩
  · skip
    refine wp_exit ?_
    refine k_x ?_
    refine k_x ?_
    refine b_x ?_
    refine k_n ?_
    refine wp_seq ?_
    refine wp_region_lit ?_
    refine wl_v hF rfl rfl rfl (q_assign rfl (hF.eval rfl)) fun a hF => ?_
    refine wl_nil ?_
    refine k_n ?_
    refine wp_ret ?_
    refine r_1 hF rfl rfl ?_
    exact ⟨_, rfl, (decide_eq_false (by omega)).trans (by rw [← hn, List.take_of_length_le (by omega)]), hO⟩

theorem contains_r (w0 : World) (s : List UInt8) (vl : Value) (ls : List (List UInt8)) (hl : ls.length ≤ 9223372036854775000) (hR : RdT w0 [] vl strE ls) : Ret Tryd.prog 45 #[vl, str s] w0 (fun v w' => v = .bool (ls.contains s) ∧ St w0 [] w' []) := by
  have hO := St.init0 w0
  refine ret_of (m := 9) Tryd.func45 rfl Tryd.ntmps45 [(0, vl), (1, str s)] rfl ⟨rfl, rfl, trivial⟩ fun a hF => ?_
  refine wp_seq ?_
  refine wp_region_lit ?_
  refine wl_v hF rfl rfl rfl (q_assign rfl (hF.eval rfl)) fun a hF => ?_
  refine wl_nil ?_
  refine k_n ?_
  refine wp_seq ?_
  refine wp_region_lit ?_
  refine wl_v hF rfl rfl rfl (q_move rfl (hF.eval rfl)) fun a hF => ?_
  refine wl_v hF rfl rfl rfl (q_move rfl (hF.eval rfl)) fun a hF => ?_
  refine wl_e hF rfl rfl rfl (c_call hF rfl rfl Tryd.call52 (index_r _ _ _ _ hl (hR.at0 hO))) ?_
  rintro a _ w ⟨ix, rfl, hix, hS⟩ hF
  have hO := hO.call0 hS
  have hO : St _ _ _ [] := hO
  refine wl_v hF rfl rfl rfl (q_ge rfl (hF.eval rfl) (hF.eval rfl)) fun a hF => ?_
  refine wl_v hF rfl rfl rfl (q_assign rfl (hF.eval rfl)) fun a hF => ?_
  refine wl_nil ?_
  refine k_n ?_
  refine wp_ret ?_
  refine r_1 hF rfl rfl ?_
  exact ⟨congrArg Value.bool hix, hO⟩

theorem is_r (w0 : World) (t : Tok) (vl : Value) (ls : List (List UInt8)) (hl : ls.length ≤ 9223372036854775000) (hR : RdT w0 [] vl strE ls) : Ret Tryd.prog 34 #[.agg (tokE.cells t).toArray, vl] w0 (fun v w' => v = .bool (decide (isP t ls)) ∧ St w0 [] w' []) := by
  have hO := St.init0 w0
  refine ret_of (m := 19) Tryd.func34 rfl Tryd.ntmps34 [(0, .agg (tokE.cells t).toArray), (1, vl)] rfl ⟨rfl, rfl, trivial⟩ fun a hF => ?_
  refine wp_seq ?_
  refine wp_region_lit ?_
  refine wl_e hF rfl rfl rfl (e_box hO rfl (hF.eval rfl) rfl) ?_
  rintro a _ w ⟨b1, rfl, hO⟩ hF
  refine wl_v hF rfl rfl rfl (q_assign rfl (hF.eval rfl)) fun a hF => ?_
  refine wl_nil ?_
  refine k_n ?_
  refine wp_seq ?_
  refine wp_region_lit ?_
  refine wl_v hF rfl rfl rfl (q_fieldAddr0 (d := 0) Tryd.underlying33 rfl (hF.eval rfl) rfl Tryd.sizeOf3 (by decide) rfl) fun a hF => ?_
  refine wl_v hF rfl rfl rfl (q_load Tryd.isAgg3 rfl (hF.eval rfl) (hO.cell 0 rfl rfl)) fun a hF => ?_
  refine wl_v hF rfl rfl rfl (q_eq rfl (hF.eval rfl) (hF.eval rfl)) fun a hF => ?_
  refine wl_v hF rfl rfl rfl (q_move rfl (hF.eval rfl)) fun a hF => ?_
  refine wl_g hF rfl rfl rfl rfl rfl rfl (fun hg => q_fieldAddr0 (d := 0) Tryd.underlying33 rfl (hF.eval rfl) rfl Tryd.sizeOf3 (by decide) rfl) fun a hF => ?_
  refine wl_g hF rfl rfl rfl rfl rfl rfl (fun hg => q_load Tryd.isAgg3 rfl ((hF.eval rfl).trans (gv_of hg)) (hO.cell 0 rfl rfl)) fun a hF => ?_
  refine wl_g hF rfl rfl rfl rfl rfl rfl (fun hg => q_eq rfl ((hF.eval rfl).trans (gv_of hg)) (hF.eval rfl)) fun a hF => ?_
  refine wl_v hF rfl rfl rfl (q_or rfl (hF.eval rfl) rfl (fun hg2 => ((hF.eval rfl).trans (gv_of hg2))) rfl) fun a hF => ?_
  refine wl_v hF rfl rfl rfl (q_move rfl (hF.eval rfl)) fun a hF => ?_
  refine wl_g hF rfl rfl rfl rfl rfl rfl (fun hg => q_move rfl (hF.eval rfl)) fun a hF => ?_
  refine wl_g hF rfl rfl rfl rfl rfl rfl (fun hg => q_fieldAddr0 (d := 1) Tryd.underlying33 rfl (hF.eval rfl) rfl Tryd.sizeOf9 (by decide) rfl) fun a hF => ?_
  refine wl_g hF rfl rfl rfl rfl rfl rfl (fun hg => q_load Tryd.isAgg9 rfl ((hF.eval rfl).trans (gv_of hg)) (hO.cell 0 rfl rfl)) fun a hF => ?_
  refine wl_gk hO hF rfl rfl rfl rfl rfl rfl (fun hg => c_callG hF rfl rfl (by first | (simp only [gv_of hg]; done) | (simp only [gv_of hg]; rfl)) Tryd.call45 (contains_r _ _ _ _ hl (hR.at0 hO))) fun a w hO hF => ?_
  refine wl_v hF rfl rfl rfl (q_and rfl (hF.eval rfl) rfl (fun hg2 => ((hF.eval rfl).trans (gv_of hg2))) (dec_b _)) fun a hF => ?_
  refine wl_v hF rfl rfl rfl (q_assign rfl (hF.eval rfl)) fun a hF => ?_
  refine wl_nil ?_
  refine k_n ?_
  refine wp_ret ?_
  refine r_1 hF rfl rfl ?_
  have hO := hO.drop1 0
  have hO : St _ _ _ [] := hO
  exact ⟨congrArg Value.bool (decide_eq_decide.2 (Iff.rfl)), hO⟩

theorem opens_r (w0 : World) (t : Tok) : Ret Tryd.prog 29 #[.agg (tokE.cells t).toArray] w0 (fun v w' => v = .bool (decide (openP (wordF t))) ∧ St w0 [] w' []) := by
  have hO := St.init0 w0
  refine ret_of (m := 6) Tryd.func29 rfl Tryd.ntmps29 [(0, .agg (tokE.cells t).toArray)] rfl ⟨rfl, trivial⟩ fun a hF => ?_
  refine wp_seq ?_
  refine wp_region_lit ?_
  refine wl_e hF rfl rfl rfl (e_box hO rfl (hF.eval rfl) rfl) ?_
  rintro a _ w ⟨b1, rfl, hO⟩ hF
  refine wl_v hF rfl rfl rfl (q_assign rfl (hF.eval rfl)) fun a hF => ?_
  refine wl_nil ?_
  refine k_n ?_
  refine wp_seq ?_
  refine wp_region_lit ?_
  refine wl_v hF rfl rfl rfl (q_loadAgg Tryd.isAgg33 Tryd.sizeOf33 rfl (hF.eval rfl) (hO.cells 0 rfl) rfl) fun a hF => ?_
  refine wl_e hF rfl rfl rfl (c_buildSlice hF hO Tryd.underlying45 Tryd.sizeOf9 Tryd.zeroValue9 rfl rfl rfl rfl rfl rfl rfl) ?_
  rintro a _ w ⟨ws, rfl, hO⟩ hF
  refine wl_e hF rfl rfl rfl (c_call hF rfl rfl Tryd.call34 (is_r _ _ _ [wWhere, wLet, wDo, wOf] (by decide) (hO.rdT 0 rfl))) ?_
  rintro a _ w ⟨rfl, hS⟩ hF
  have hO := hO.call0 hS
  have hO : St _ _ _ [_, _] := hO
  refine wl_v hF rfl rfl rfl (q_assign rfl (hF.eval rfl)) fun a hF => ?_
  refine wl_nil ?_
  refine k_n ?_
  refine wp_ret ?_
  refine r_1 hF rfl rfl ?_
  have hO := hO.drop1 0
  have hO := hO.drop1 0
  have hO : St _ _ _ [] := hO
  exact ⟨congrArg Value.bool (decide_eq_decide.2 ((isP_iff (by decide)).trans (by simp [openP, or_assoc]))), hO⟩

theorem closes1_r (w0 : World) (t : Tok) : Ret Tryd.prog 32 #[.agg (tokE.cells t).toArray] w0 (fun v w' => v = .bool (decide (closeP (wordF t))) ∧ St w0 [] w' []) := by
  have hO := St.init0 w0
  refine ret_of (m := 6) Tryd.func32 rfl Tryd.ntmps32 [(0, .agg (tokE.cells t).toArray)] rfl ⟨rfl, trivial⟩ fun a hF => ?_
  refine wp_seq ?_
  refine wp_region_lit ?_
  refine wl_e hF rfl rfl rfl (e_box hO rfl (hF.eval rfl) rfl) ?_
  rintro a _ w ⟨b1, rfl, hO⟩ hF
  refine wl_v hF rfl rfl rfl (q_assign rfl (hF.eval rfl)) fun a hF => ?_
  refine wl_nil ?_
  refine k_n ?_
  refine wp_seq ?_
  refine wp_region_lit ?_
  refine wl_v hF rfl rfl rfl (q_loadAgg Tryd.isAgg33 Tryd.sizeOf33 rfl (hF.eval rfl) (hO.cells 0 rfl) rfl) fun a hF => ?_
  refine wl_e hF rfl rfl rfl (c_buildSlice hF hO Tryd.underlying45 Tryd.sizeOf9 Tryd.zeroValue9 rfl rfl rfl rfl rfl rfl rfl) ?_
  rintro a _ w ⟨ws, rfl, hO⟩ hF
  refine wl_e hF rfl rfl rfl (c_call hF rfl rfl Tryd.call34 (is_r _ _ _ [[41], [93], [125], [44], wThen, wElse, wOf, wIn] (by decide) (hO.rdT 0 rfl))) ?_
  rintro a _ w ⟨rfl, hS⟩ hF
  have hO := hO.call0 hS
  have hO : St _ _ _ [_, _] := hO
  refine wl_v hF rfl rfl rfl (q_assign rfl (hF.eval rfl)) fun a hF => ?_
  refine wl_nil ?_
  refine k_n ?_
  refine wp_ret ?_
  refine r_1 hF rfl rfl ?_
  have hO := hO.drop1 0
  have hO := hO.drop1 0
  have hO : St _ _ _ [] := hO
  exact ⟨congrArg Value.bool (decide_eq_decide.2 ((isP_iff (by decide)).trans (by simp [closeP, or_assoc]))), hO⟩

theorem lay1_r (w0 : World) (t : Tok) : Ret Tryd.prog 28 #[.agg (tokE.cells t).toArray] w0 (fun v w' => v = .bool (decide (t.kind = 9)) ∧ St w0 [] w' []) := by
  have hO := St.init0 w0
  refine ret_of (m := 6) Tryd.func28 rfl Tryd.ntmps28 [(0, .agg (tokE.cells t).toArray)] rfl ⟨rfl, trivial⟩ fun a hF => ?_
  refine wp_seq ?_
  refine wp_region_lit ?_
  refine wl_e hF rfl rfl rfl (e_box hO rfl (hF.eval rfl) rfl) ?_
  rintro a _ w ⟨b1, rfl, hO⟩ hF
  refine wl_v hF rfl rfl rfl (q_assign rfl (hF.eval rfl)) fun a hF => ?_
  refine wl_nil ?_
  refine k_n ?_
  refine wp_seq ?_
  refine wp_region_lit ?_
  refine wl_v hF rfl rfl rfl (q_fieldAddr0 (d := 0) Tryd.underlying33 rfl (hF.eval rfl) rfl Tryd.sizeOf3 (by decide) rfl) fun a hF => ?_
  refine wl_v hF rfl rfl rfl (q_load Tryd.isAgg3 rfl (hF.eval rfl) (hO.cell 0 rfl rfl)) fun a hF => ?_
  refine wl_v hF rfl rfl rfl (q_eq rfl (hF.eval rfl) (hF.eval rfl)) fun a hF => ?_
  refine wl_v hF rfl rfl rfl (q_assign rfl (hF.eval rfl)) fun a hF => ?_
  refine wl_nil ?_
  refine k_n ?_
  refine wp_ret ?_
  refine r_1 hF rfl rfl ?_
  have hO := hO.drop1 0
  have hO : St _ _ _ [] := hO
  exact ⟨congrArg Value.bool (decide_eq_decide.2 (Iff.rfl)), hO⟩


theorem part_let {x : Thg} {t : Tok} (hk : okT x) (h1 : ¬ x.sort = [123, 125]) (h2 : ¬ x.sort = [40]) (h3 : ¬ x.sort = [91]) (h4 : ¬ x.sort = [123]) (h5 : ¬ x.sort = wIf) (h6 : ¬ x.sort = wThen) (h7 : ¬ x.sort = wCase)
    {ip : Decidable ((itm x.sort = wLet ∧ x.col = 0) ∧ isP t [wIn])} : @decide ((itm x.sort = wLet ∧ x.col = 0) ∧ isP t [wIn]) ip = fitsP x.sort (wordF t) := by
  rw [fits_of hk.1, if_neg h1, if_neg h2, if_neg h3, if_neg h4, if_neg h5, if_neg h6, if_neg h7]
  refine decide_eq_decide.2 ?_
  rw [show (itm x.sort = wLet ∧ x.col = 0) ↔ x.sort = wLet from itm_is hk (s := wLet) (by decide) (by decide), isP_iff (by decide)]
  split
  · rename_i h; exact ⟨fun h => h.2, fun h2 => ⟨h, h2⟩⟩
  · rename_i h; exact ⟨fun h2 => absurd h2.1 h, fun h2 => by cases h2⟩
set_option maxHeartbeats 1000000 in
theorem partner_r (w0 : World) (x : Thg) (t : Tok) (hk : okT x) (hG : GlB w0 []) : Ret Tryd.prog 44 #[.agg (itmE.cells x).toArray, .agg (tokE.cells t).toArray] w0 (fun v w' => v = .bool (fitsP x.sort (wordF t)) ∧ St w0 [] w' []) := by
  have hO := St.init0 w0
  refine ret_of (m := 56) Tryd.func44 rfl Tryd.ntmps44 [(0, .agg (itmE.cells x).toArray), (1, .agg (tokE.cells t).toArray)] rfl ⟨rfl, rfl, trivial⟩ fun a hF => ?_
  refine wp_seq ?_
  refine wp_region_lit ?_
  refine wl_e hF rfl rfl rfl (e_box hO rfl (hF.eval rfl) rfl) ?_
  rintro a _ w ⟨bx, rfl, hO⟩ hF
  refine wl_e hF rfl rfl rfl (e_box hO rfl (hF.eval rfl) rfl) ?_
  rintro a _ w ⟨bt, rfl, hO⟩ hF
  refine wl_v hF rfl rfl rfl (q_assign rfl (hF.eval rfl)) fun a hF => ?_
  refine wl_nil ?_
  refine k_n ?_
  refine wp_seq ?_
  refine wp_seq ?_
  refine wp_region_lit ?_
  refine wl_v hF rfl rfl rfl (q_loadAgg Tryd.isAgg63 Tryd.sizeOf63 rfl (hF.eval rfl) (hO.cells 1 rfl) rfl) fun a hF => ?_
  refine wl_nil ?_
  refine k_n ?_
  refine wp_block ?_
  refine wp_seq ?_
  refine wp_region_lit ?_
  refine wl_v hF rfl rfl rfl (q_loadAgg Tryd.isAgg63 Tryd.sizeOf63 rfl (hF.eval rfl) ((hG.now hO).cb) rfl) fun a hF => ?_
  refine wl_v hF rfl rfl rfl (q_eqS Tryd.underlying63 Tryd.stoodInHeld63 Tryd.eqGuardType63 rfl (hF.eval rfl) (hF.eval rfl) (ef_str (by decide) Tryd.isAgg9 Tryd.underlying9 rfl rfl (ef_int (by decide) Tryd.isAgg3 Tryd.underlying3 rfl rfl ef_nil)) (itm_eq _ _ _ _)) fun a hF => ?_
  refine wl_v hF rfl rfl rfl (q_assign rfl (hF.eval rfl)) fun a hF => ?_
  refine wl_nil ?_
  refine k_n ?_
  refine wp_ifD hF rfl rfl (fun hc1 => ?_) (fun hc1 => ?_)
  · skip
    refine wp_seq ?_
    refine wp_region_lit ?_
    refine wl_v hF rfl rfl rfl (q_loadAgg Tryd.isAgg33 Tryd.sizeOf33 rfl (hF.eval rfl) (hO.cells 0 rfl) rfl) fun a hF => ?_
    refine wl_e hF rfl rfl rfl (c_buildSlice hF hO Tryd.underlying45 Tryd.sizeOf9 Tryd.zeroValue9 rfl rfl rfl rfl rfl rfl rfl) ?_
    rintro a _ w ⟨ws, rfl, hO⟩ hF
    refine wl_e hF rfl rfl rfl (c_call hF rfl rfl Tryd.call34 (is_r _ _ _ [[125]] (by decide) (hO.rdT 0 rfl))) ?_
    rintro a _ w ⟨rfl, hS⟩ hF
    have hO := hO.call0 hS
    have hO : St _ _ _ [_, _, _] := hO
    refine wl_v hF rfl rfl rfl (q_assign rfl (hF.eval rfl)) fun a hF => ?_
    refine wl_nil ?_
    refine k_n ?_
    refine wp_ret ?_
    refine b_r ?_
    refine k_r ?_
    refine r_1 hF rfl rfl ?_
    have hO := hO.drop1 0
    have hO := hO.drop1 0
    have hO := hO.drop1 0
    have hO : St _ _ _ [] := hO
    have hx : x.sort = [123, 125] := (itm_is hk (s := [123, 125]) (by decide) (by decide)).1 hc1
    exact ⟨congrArg Value.bool ((decide_eq_decide.2 (isP_iff (by decide))).trans (by rw [hx]; exact (fits_of (x := [123, 125]) (by decide)).symm)), hO⟩
  · skip
    refine wp_seq ?_
    refine wp_region_lit ?_
    refine wl_v hF rfl rfl rfl (c_build hF Tryd.underlying63 Tryd.zeroValue63 Tryd_places63 rfl rfl rfl rfl) fun a hF => ?_
    refine wl_v hF rfl rfl rfl (q_eqS Tryd.underlying63 Tryd.stoodInHeld63 Tryd.eqGuardType63 rfl (hF.eval rfl) (hF.eval rfl) (ef_str (by decide) Tryd.isAgg9 Tryd.underlying9 rfl rfl (ef_int (by decide) Tryd.isAgg3 Tryd.underlying3 rfl rfl ef_nil)) (itm_eq _ _ _ _)) fun a hF => ?_
    refine wl_v hF rfl rfl rfl (q_assign rfl (hF.eval rfl)) fun a hF => ?_
    refine wl_nil ?_
    refine k_n ?_
    refine wp_ifD hF rfl rfl (fun hc2 => ?_) (fun hc2 => ?_)
    · skip
      refine wp_seq ?_
      refine wp_region_lit ?_
      refine wl_v hF rfl rfl rfl (q_loadAgg Tryd.isAgg33 Tryd.sizeOf33 rfl (hF.eval rfl) (hO.cells 0 rfl) rfl) fun a hF => ?_
      refine wl_e hF rfl rfl rfl (c_buildSlice hF hO Tryd.underlying45 Tryd.sizeOf9 Tryd.zeroValue9 rfl rfl rfl rfl rfl rfl rfl) ?_
      rintro a _ w ⟨ws, rfl, hO⟩ hF
      refine wl_e hF rfl rfl rfl (c_call hF rfl rfl Tryd.call34 (is_r _ _ _ [[41], [44]] (by decide) (hO.rdT 0 rfl))) ?_
      rintro a _ w ⟨rfl, hS⟩ hF
      have hO := hO.call0 hS
      have hO : St _ _ _ [_, _, _] := hO
      refine wl_v hF rfl rfl rfl (q_assign rfl (hF.eval rfl)) fun a hF => ?_
      refine wl_nil ?_
      refine k_n ?_
      refine wp_ret ?_
      refine b_r ?_
      refine k_r ?_
      refine r_1 hF rfl rfl ?_
      have hO := hO.drop1 0
      have hO := hO.drop1 0
      have hO := hO.drop1 0
      have hO : St _ _ _ [] := hO
      have hx : x.sort = [40] := (itm_is hk (s := [40]) (by decide) (by decide)).1 hc2
      exact ⟨congrArg Value.bool ((decide_eq_decide.2 (isP_iff (by decide))).trans (by rw [hx]; exact (fits_of (x := [40]) (by decide)).symm)), hO⟩
    · skip
      refine wp_seq ?_
      refine wp_region_lit ?_
      refine wl_v hF rfl rfl rfl (c_build hF Tryd.underlying63 Tryd.zeroValue63 Tryd_places63 rfl rfl rfl rfl) fun a hF => ?_
      refine wl_v hF rfl rfl rfl (q_eqS Tryd.underlying63 Tryd.stoodInHeld63 Tryd.eqGuardType63 rfl (hF.eval rfl) (hF.eval rfl) (ef_str (by decide) Tryd.isAgg9 Tryd.underlying9 rfl rfl (ef_int (by decide) Tryd.isAgg3 Tryd.underlying3 rfl rfl ef_nil)) (itm_eq _ _ _ _)) fun a hF => ?_
      refine wl_v hF rfl rfl rfl (q_assign rfl (hF.eval rfl)) fun a hF => ?_
      refine wl_nil ?_
      refine k_n ?_
      refine wp_ifD hF rfl rfl (fun hc3 => ?_) (fun hc3 => ?_)
      · skip
        refine wp_seq ?_
        refine wp_region_lit ?_
        refine wl_v hF rfl rfl rfl (q_loadAgg Tryd.isAgg33 Tryd.sizeOf33 rfl (hF.eval rfl) (hO.cells 0 rfl) rfl) fun a hF => ?_
        refine wl_e hF rfl rfl rfl (c_buildSlice hF hO Tryd.underlying45 Tryd.sizeOf9 Tryd.zeroValue9 rfl rfl rfl rfl rfl rfl rfl) ?_
        rintro a _ w ⟨ws, rfl, hO⟩ hF
        refine wl_e hF rfl rfl rfl (c_call hF rfl rfl Tryd.call34 (is_r _ _ _ [[93], [44]] (by decide) (hO.rdT 0 rfl))) ?_
        rintro a _ w ⟨rfl, hS⟩ hF
        have hO := hO.call0 hS
        have hO : St _ _ _ [_, _, _] := hO
        refine wl_v hF rfl rfl rfl (q_assign rfl (hF.eval rfl)) fun a hF => ?_
        refine wl_nil ?_
        refine k_n ?_
        refine wp_ret ?_
        refine b_r ?_
        refine k_r ?_
        refine r_1 hF rfl rfl ?_
        have hO := hO.drop1 0
        have hO := hO.drop1 0
        have hO := hO.drop1 0
        have hO : St _ _ _ [] := hO
        have hx : x.sort = [91] := (itm_is hk (s := [91]) (by decide) (by decide)).1 hc3
        exact ⟨congrArg Value.bool ((decide_eq_decide.2 (isP_iff (by decide))).trans (by rw [hx]; exact (fits_of (x := [91]) (by decide)).symm)), hO⟩
      · skip
        refine wp_seq ?_
        refine wp_region_lit ?_
        refine wl_v hF rfl rfl rfl (c_build hF Tryd.underlying63 Tryd.zeroValue63 Tryd_places63 rfl rfl rfl rfl) fun a hF => ?_
        refine wl_v hF rfl rfl rfl (q_eqS Tryd.underlying63 Tryd.stoodInHeld63 Tryd.eqGuardType63 rfl (hF.eval rfl) (hF.eval rfl) (ef_str (by decide) Tryd.isAgg9 Tryd.underlying9 rfl rfl (ef_int (by decide) Tryd.isAgg3 Tryd.underlying3 rfl rfl ef_nil)) (itm_eq _ _ _ _)) fun a hF => ?_
        refine wl_v hF rfl rfl rfl (q_assign rfl (hF.eval rfl)) fun a hF => ?_
        refine wl_nil ?_
        refine k_n ?_
        refine wp_ifD hF rfl rfl (fun hc4 => ?_) (fun hc4 => ?_)
        · skip
          refine wp_seq ?_
          refine wp_region_lit ?_
          refine wl_v hF rfl rfl rfl (q_loadAgg Tryd.isAgg33 Tryd.sizeOf33 rfl (hF.eval rfl) (hO.cells 0 rfl) rfl) fun a hF => ?_
          refine wl_e hF rfl rfl rfl (c_buildSlice hF hO Tryd.underlying45 Tryd.sizeOf9 Tryd.zeroValue9 rfl rfl rfl rfl rfl rfl rfl) ?_
          rintro a _ w ⟨ws, rfl, hO⟩ hF
          refine wl_e hF rfl rfl rfl (c_call hF rfl rfl Tryd.call34 (is_r _ _ _ [[125], [44]] (by decide) (hO.rdT 0 rfl))) ?_
          rintro a _ w ⟨rfl, hS⟩ hF
          have hO := hO.call0 hS
          have hO : St _ _ _ [_, _, _] := hO
          refine wl_v hF rfl rfl rfl (q_assign rfl (hF.eval rfl)) fun a hF => ?_
          refine wl_nil ?_
          refine k_n ?_
          refine wp_ret ?_
          refine b_r ?_
          refine k_r ?_
          refine r_1 hF rfl rfl ?_
          have hO := hO.drop1 0
          have hO := hO.drop1 0
          have hO := hO.drop1 0
          have hO : St _ _ _ [] := hO
          have hx : x.sort = [123] := (itm_is hk (s := [123]) (by decide) (by decide)).1 hc4
          exact ⟨congrArg Value.bool ((decide_eq_decide.2 (isP_iff (by decide))).trans (by rw [hx]; exact (fits_of (x := [123]) (by decide)).symm)), hO⟩
        · skip
          refine wp_seq ?_
          refine wp_region_lit ?_
          refine wl_v hF rfl rfl rfl (c_build hF Tryd.underlying63 Tryd.zeroValue63 Tryd_places63 rfl rfl rfl rfl) fun a hF => ?_
          refine wl_v hF rfl rfl rfl (q_eqS Tryd.underlying63 Tryd.stoodInHeld63 Tryd.eqGuardType63 rfl (hF.eval rfl) (hF.eval rfl) (ef_str (by decide) Tryd.isAgg9 Tryd.underlying9 rfl rfl (ef_int (by decide) Tryd.isAgg3 Tryd.underlying3 rfl rfl ef_nil)) (itm_eq _ _ _ _)) fun a hF => ?_
          refine wl_v hF rfl rfl rfl (q_assign rfl (hF.eval rfl)) fun a hF => ?_
          refine wl_nil ?_
          refine k_n ?_
          refine wp_ifD hF rfl rfl (fun hc5 => ?_) (fun hc5 => ?_)
          · skip
            refine wp_seq ?_
            refine wp_region_lit ?_
            refine wl_v hF rfl rfl rfl (q_loadAgg Tryd.isAgg33 Tryd.sizeOf33 rfl (hF.eval rfl) (hO.cells 0 rfl) rfl) fun a hF => ?_
            refine wl_e hF rfl rfl rfl (c_buildSlice hF hO Tryd.underlying45 Tryd.sizeOf9 Tryd.zeroValue9 rfl rfl rfl rfl rfl rfl rfl) ?_
            rintro a _ w ⟨ws, rfl, hO⟩ hF
            refine wl_e hF rfl rfl rfl (c_call hF rfl rfl Tryd.call34 (is_r _ _ _ [wThen] (by decide) (hO.rdT 0 rfl))) ?_
            rintro a _ w ⟨rfl, hS⟩ hF
            have hO := hO.call0 hS
            have hO : St _ _ _ [_, _, _] := hO
            refine wl_v hF rfl rfl rfl (q_assign rfl (hF.eval rfl)) fun a hF => ?_
            refine wl_nil ?_
            refine k_n ?_
            refine wp_ret ?_
            refine b_r ?_
            refine k_r ?_
            refine r_1 hF rfl rfl ?_
            have hO := hO.drop1 0
            have hO := hO.drop1 0
            have hO := hO.drop1 0
            have hO : St _ _ _ [] := hO
            have hx : x.sort = wIf := (itm_is hk (s := wIf) (by decide) (by decide)).1 hc5
            exact ⟨congrArg Value.bool ((decide_eq_decide.2 (isP_iff (by decide))).trans (by rw [hx]; exact (fits_of (x := wIf) (by decide)).symm)), hO⟩
          · skip
            refine wp_seq ?_
            refine wp_region_lit ?_
            refine wl_v hF rfl rfl rfl (c_build hF Tryd.underlying63 Tryd.zeroValue63 Tryd_places63 rfl rfl rfl rfl) fun a hF => ?_
            refine wl_v hF rfl rfl rfl (q_eqS Tryd.underlying63 Tryd.stoodInHeld63 Tryd.eqGuardType63 rfl (hF.eval rfl) (hF.eval rfl) (ef_str (by decide) Tryd.isAgg9 Tryd.underlying9 rfl rfl (ef_int (by decide) Tryd.isAgg3 Tryd.underlying3 rfl rfl ef_nil)) (itm_eq _ _ _ _)) fun a hF => ?_
            refine wl_v hF rfl rfl rfl (q_assign rfl (hF.eval rfl)) fun a hF => ?_
            refine wl_nil ?_
            refine k_n ?_
            refine wp_ifD hF rfl rfl (fun hc6 => ?_) (fun hc6 => ?_)
            · skip
              refine wp_seq ?_
              refine wp_region_lit ?_
              refine wl_v hF rfl rfl rfl (q_loadAgg Tryd.isAgg33 Tryd.sizeOf33 rfl (hF.eval rfl) (hO.cells 0 rfl) rfl) fun a hF => ?_
              refine wl_e hF rfl rfl rfl (c_buildSlice hF hO Tryd.underlying45 Tryd.sizeOf9 Tryd.zeroValue9 rfl rfl rfl rfl rfl rfl rfl) ?_
              rintro a _ w ⟨ws, rfl, hO⟩ hF
              refine wl_e hF rfl rfl rfl (c_call hF rfl rfl Tryd.call34 (is_r _ _ _ [wElse] (by decide) (hO.rdT 0 rfl))) ?_
              rintro a _ w ⟨rfl, hS⟩ hF
              have hO := hO.call0 hS
              have hO : St _ _ _ [_, _, _] := hO
              refine wl_v hF rfl rfl rfl (q_assign rfl (hF.eval rfl)) fun a hF => ?_
              refine wl_nil ?_
              refine k_n ?_
              refine wp_ret ?_
              refine b_r ?_
              refine k_r ?_
              refine r_1 hF rfl rfl ?_
              have hO := hO.drop1 0
              have hO := hO.drop1 0
              have hO := hO.drop1 0
              have hO : St _ _ _ [] := hO
              have hx : x.sort = wThen := (itm_is hk (s := wThen) (by decide) (by decide)).1 hc6
              exact ⟨congrArg Value.bool ((decide_eq_decide.2 (isP_iff (by decide))).trans (by rw [hx]; exact (fits_of (x := wThen) (by decide)).symm)), hO⟩
            · skip
              refine wp_seq ?_
              refine wp_region_lit ?_
              refine wl_v hF rfl rfl rfl (c_build hF Tryd.underlying63 Tryd.zeroValue63 Tryd_places63 rfl rfl rfl rfl) fun a hF => ?_
              refine wl_v hF rfl rfl rfl (q_eqS Tryd.underlying63 Tryd.stoodInHeld63 Tryd.eqGuardType63 rfl (hF.eval rfl) (hF.eval rfl) (ef_str (by decide) Tryd.isAgg9 Tryd.underlying9 rfl rfl (ef_int (by decide) Tryd.isAgg3 Tryd.underlying3 rfl rfl ef_nil)) (itm_eq _ _ _ _)) fun a hF => ?_
              refine wl_v hF rfl rfl rfl (q_assign rfl (hF.eval rfl)) fun a hF => ?_
              refine wl_nil ?_
              refine k_n ?_
              refine wp_ifD hF rfl rfl (fun hc7 => ?_) (fun hc7 => ?_)
              · skip
                refine wp_seq ?_
                refine wp_region_lit ?_
                refine wl_v hF rfl rfl rfl (q_loadAgg Tryd.isAgg33 Tryd.sizeOf33 rfl (hF.eval rfl) (hO.cells 0 rfl) rfl) fun a hF => ?_
                refine wl_e hF rfl rfl rfl (c_buildSlice hF hO Tryd.underlying45 Tryd.sizeOf9 Tryd.zeroValue9 rfl rfl rfl rfl rfl rfl rfl) ?_
                rintro a _ w ⟨ws, rfl, hO⟩ hF
                refine wl_e hF rfl rfl rfl (c_call hF rfl rfl Tryd.call34 (is_r _ _ _ [wOf] (by decide) (hO.rdT 0 rfl))) ?_
                rintro a _ w ⟨rfl, hS⟩ hF
                have hO := hO.call0 hS
                have hO : St _ _ _ [_, _, _] := hO
                refine wl_v hF rfl rfl rfl (q_assign rfl (hF.eval rfl)) fun a hF => ?_
                refine wl_nil ?_
                refine k_n ?_
                refine wp_ret ?_
                refine b_r ?_
                refine k_r ?_
                refine r_1 hF rfl rfl ?_
                have hO := hO.drop1 0
                have hO := hO.drop1 0
                have hO := hO.drop1 0
                have hO : St _ _ _ [] := hO
                have hx : x.sort = wCase := (itm_is hk (s := wCase) (by decide) (by decide)).1 hc7
                exact ⟨congrArg Value.bool ((decide_eq_decide.2 (isP_iff (by decide))).trans (by rw [hx]; exact (fits_of (x := wCase) (by decide)).symm)), hO⟩
              · skip
                refine wp_skip ?_
                refine b_n ?_
                refine k_n ?_
                refine wp_seq ?_
                refine wp_region_lit ?_
                refine wl_v hF rfl rfl rfl (q_loadAgg Tryd.isAgg63 Tryd.sizeOf63 rfl (hF.eval rfl) (hO.cells 1 rfl) rfl) fun a hF => ?_
                refine wl_v hF rfl rfl rfl (q_loadAgg Tryd.isAgg63 Tryd.sizeOf63 rfl (hF.eval rfl) ((hG.now hO).cl) rfl) fun a hF => ?_
                refine wl_v hF rfl rfl rfl (q_eqS Tryd.underlying63 Tryd.stoodInHeld63 Tryd.eqGuardType63 rfl (hF.eval rfl) (hF.eval rfl) (ef_str (by decide) Tryd.isAgg9 Tryd.underlying9 rfl rfl (ef_int (by decide) Tryd.isAgg3 Tryd.underlying3 rfl rfl ef_nil)) (itm_eq _ _ _ _)) fun a hF => ?_
                refine wl_v hF rfl rfl rfl (q_move rfl (hF.eval rfl)) fun a hF => ?_
                refine wl_g hF rfl rfl rfl rfl rfl rfl (fun hg => q_loadAgg Tryd.isAgg33 Tryd.sizeOf33 rfl (hF.eval rfl) (hO.cells 0 rfl) rfl) fun a hF => ?_
                refine wl_gS (fun (_ : Unit) u w' => St w0 [] w' [.ob bt 33 (tokE.cells t), .ob bx 63 (itmE.cells x)] ∧ ((itm x.sort = wLet ∧ x.col = 0) → RdT w' [] u strE [wIn])) hF rfl rfl rfl rfl rfl rfl (fun hg => Eff.mono (c_buildSlice hF hO Tryd.underlying45 Tryd.sizeOf9 Tryd.zeroValue9 rfl rfl rfl rfl rfl rfl rfl) ?_) (fun hg => ?_) ?_
                · skip
                  rintro u w' ⟨b, rfl, hS⟩
                  exact ⟨(), hS.tail, fun _ => hS.rdT 0 rfl⟩
                · skip
                  exact ⟨(), undef, hO, fun h => absurd h (of_gf hg)⟩
                rintro _ u a w ⟨hO, hws⟩ hF
                refine wl_gk hO hF rfl rfl rfl rfl rfl rfl (fun hg => c_callG hF rfl rfl (by first | (simp only [gv_of hg]; done) | (simp only [gv_of hg]; rfl)) Tryd.call34 (is_r _ _ _ [wIn] (by decide) (hws (of_g hg)))) fun a w hO hF => ?_
                refine wl_v hF rfl rfl rfl (q_and rfl (hF.eval rfl) rfl (fun hg2 => ((hF.eval rfl).trans (gv_of hg2))) rfl) fun a hF => ?_
                refine wl_v hF rfl rfl rfl (q_assign rfl (hF.eval rfl)) fun a hF => ?_
                refine wl_nil ?_
                refine k_n ?_
                refine wp_ret ?_
                refine r_1 hF rfl rfl ?_
                have hO := hO.drop1 0
                have hO := hO.drop1 0
                have hO : St _ _ _ [] := hO
                exact ⟨congrArg Value.bool (part_let hk (fun e => hc1 ((itm_is hk (s := [123, 125]) (by decide) (by decide)).2 e)) (fun e => hc2 ((itm_is hk (s := [40]) (by decide) (by decide)).2 e)) (fun e => hc3 ((itm_is hk (s := [91]) (by decide) (by decide)).2 e)) (fun e => hc4 ((itm_is hk (s := [123]) (by decide) (by decide)).2 e)) (fun e => hc5 ((itm_is hk (s := wIf) (by decide) (by decide)).2 e)) (fun e => hc6 ((itm_is hk (s := wThen) (by decide) (by decide)).2 e)) (fun e => hc7 ((itm_is hk (s := wCase) (by decide) (by decide)).2 e))), hO⟩

end Go.Proofs.YtnnagjbkpmkelaaDoor
