import Derived.Test.YtnnagjbkpmkelaaDoorRq
import Derived.Test.YtnnagjbkpmkelaaDoorPl3
import Derived.Test.YtnnagjbkpmkelaaDoorGw13
namespace Go.Proofs.YtnnagjbkpmkelaaDoor
open Go
set_option maxRecDepth 100000

def lastE (e : Tok) (ts : List Tok) : Tok := match ts.getLast? with | none => e | some y => ⟨9, [], 0, y.line, y.col⟩
theorem split_at : ∀ {ts : List Tok} {e x : Tok} {k : Nat}, (ts.take k).all (fun x => decide (¬ x.kind = 9)) = true → ts[k]? = some x → x.kind = 9 → splitF ts e = (ts.take k, x)
  | [], _, _, k, _, hx, _ => by simp at hx
  | y :: r, e, x, 0, _, hx, h9 => by
    obtain rfl : y = x := by simpa using hx
    rw [splitF, if_pos h9]; rfl
  | y :: r, e, x, k + 1, ha, hx, h9 => by
    rw [List.take_succ_cons, List.all_cons, Bool.and_eq_true] at ha
    rw [splitF, if_neg (of_decide_eq_true ha.1), split_at ha.2 (by simpa using hx) h9]; rfl
theorem split_all : ∀ {ts : List Tok} {e : Tok}, ts.all (fun x => decide (¬ x.kind = 9)) = true → splitF ts e = (ts, lastE e ts)
  | [], _, _ => rfl
  | [y], e, ha => by
    rw [List.all_cons, Bool.and_eq_true] at ha
    rw [splitF, if_neg (of_decide_eq_true ha.1)]; rfl
  | y :: z :: r, e, ha => by
    rw [List.all_cons, Bool.and_eq_true] at ha
    rw [splitF, if_neg (of_decide_eq_true ha.1), split_all ha.2]
    obtain ⟨q, hq⟩ : ∃ q, (z :: r).getLast? = some q := ⟨_, List.getLast?_eq_some_getLast (by simp)⟩
    simp [lastE, List.getLast?_cons_cons, hq]
theorem lastE_at {ts : List Tok} {e y : Tok} (hy : ts[ts.length - 1]? = some y) : lastE e ts = ⟨9, [], 0, y.line, y.col⟩ := by
  unfold lastE; rw [List.getLast?_eq_getElem?, hy]
def Opn (x ah : Tok) (out out2 : List Tok) (st st2 : List Thg) (bg pt : Bool) : Prop :=
  if openP (wordF ah) then (if wordF x = [123] then bg = false ∧ pt = true ∧ out2 = out ++ [x] ∧ st2 = st ++ [⟨[123, 125], 0⟩] else pt = false ∧ openF x out st = (out2, st2, bg)) else pt = false ∧ bg = false ∧ out2 = out ∧ st2 = st
section
variable {x ah : Tok} {out out2 : List Tok} {st st2 : List Thg} {bg pt : Bool}
theorem opn_not (h : Opn x ah out out2 st st2 bg pt) (hp : ¬ pt = true) : (if openP (wordF ah) then openF x out st else (out, st, false)) = (out2, st2, bg) ∧ ¬ (openP (wordF ah) ∧ wordF x = [123]) := by
  unfold Opn at h
  split at h
  · rename_i ho
    rw [if_pos ho]
    split at h
    · exact absurd h.2.1 hp
    · rename_i hw; exact ⟨h.2, fun e => hw e.2⟩
  · rename_i ho
    obtain ⟨_, rfl, rfl, rfl⟩ := h
    rw [if_neg ho]; exact ⟨rfl, fun e => ho e.1⟩
theorem opn_put (h : Opn x ah out out2 st st2 bg pt) (hp : ¬ ¬ pt = true) {first : Bool} : tokF x ah first out st = some (out2, st2) := by
  have hp := Classical.not_not.1 hp
  unfold Opn at h
  split at h
  · rename_i ho
    split at h
    · rename_i hw; obtain ⟨_, _, rfl, rfl⟩ := h; exact tok_1 ho hw
    · rw [h.1] at hp; cases hp
  · rw [h.1] at hp; cases hp
theorem mark_iff : isP x [[40], [91], [123], wIf, wCase, wLet] ↔ markP (wordF x) := (isP_iff (by decide)).trans (by simp [markP, or_assoc])
theorem mark_txt (h : isP x [[40], [91], [123], wIf, wCase, wLet]) : wordF x = x.text ∧ itm x.text = x.text ∧ okT ⟨x.text, 0⟩ := by
  have e : wordF x = x.text := if_pos h.1
  have h2 := List.contains_iff_mem.1 h.2
  have key : ∀ s ∈ [[40], [91], [123], wIf, wCase, wLet], itm s = s ∧ s ∈ sorts := by decide
  exact ⟨e, (key _ h2).1, (key _ h2).2, fun _ => rfl⟩
end
set_option maxHeartbeats 8000000 in
theorem play_r (w0 : World) (vt : Value) (ts : List Tok) (hn : ts.length ≤ 10000000000) (hR : RdT w0 [] vt tokE ts) (hG : GlB w0 []) : Ret Tryd.prog 11 #[vt] w0 (fun v w' => ∃ va l d, layF ts = (l, d) ∧ v = .tuple #[va, .agg (diagCells d).toArray] ∧ St w0 [] w' [slT va 33 tokE l]) := by
  have hO := St.init0 w0
  refine ret_of (m := 143) Tryd.func11 rfl Tryd.ntmps11 [(0, vt)] rfl ⟨rfl, trivial⟩ fun a hF => ?_
  refine wp_seq ?_
  refine wp_region_lit ?_
  refine wl_v hF rfl rfl rfl (q_assign rfl (hF.eval rfl)) fun a hF => ?_
  refine wl_e hF rfl rfl rfl (e_alloc hO Tryd.zeroValue25 rfl rfl) ?_
  rintro a _ w ⟨dg, rfl, hO⟩ hF
  refine wl_nil ?_
  refine k_n ?_
  refine wp_seq ?_
  refine wp_region_lit ?_
  refine wl_v hF rfl rfl rfl (c_build hF Tryd.underlying33 Tryd.zeroValue33 Tryd_places33 rfl rfl rfl rfl) fun a hF => ?_
  refine wl_e hF rfl rfl rfl (e_alloc hO Tryd.zeroValue33 rfl rfl) ?_
  rintro a _ w ⟨en, rfl, hO⟩ hF
  refine wl_s hF rfl rfl (e_storeAll hO (i := 0) rfl Tryd.sizeOf33 rfl (hF.eval rfl) (hF.eval rfl) rfl rfl) ?_
  rintro a _ w ⟨-, hO⟩ hF
  have hO : St _ _ _ [_, _] := hO
  refine wl_nil ?_
  refine k_n ?_
  refine wp_seqJ (fun (z : List Tok × Tok × Value) a w' => match z with | (l, e, vl) => (splitF ts ⟨9, [], 0, 1, 1⟩ = (l, e) ∧ l.length ≤ ts.length ∧ RdT w0 [] vl tokE l) ∧ St w0 [] w' [.ob en 33 (tokE.cells e), .ob dg 25 (diagCells .ok)] ∧ Fr a 143 [(0, vl), (3, ptr (adr dg)), (4, ptr (adr en))]) ?_ ?_
  · skip
    refine wp_seq ?_
    refine wp_region_lit ?_
    refine wl_v hF rfl rfl rfl (q_move rfl (hF.eval rfl)) fun a hF => ?_
    refine wl_e hF rfl rfl rfl (c_call hF rfl rfl Tryd.call27 (indexF_r _ _ _ (by omega) (hR.at0 hO))) ?_
    rintro a _ w ⟨ix, rfl, hix, hS⟩ hF
    have hO := hO.call0 hS
    have hO : St _ _ _ [_, _] := hO
    refine wl_v hF rfl rfl rfl (q_assign rfl (hF.eval rfl)) fun a hF => ?_
    refine wl_nil ?_
    refine k_n ?_
    refine wp_seq ?_
    refine wp_region_lit ?_
    refine wl_v hF rfl rfl rfl (q_move rfl (hF.eval rfl)) fun a hF => ?_
    refine wl_v hF rfl rfl rfl (q_ge rfl (hF.eval rfl) (hF.eval rfl)) fun a hF => ?_
    refine wl_nil ?_
    refine k_n ?_
    refine wp_ifD hF rfl rfl (fun hc1 => ?_) (fun hc1 => ?_)
    · skip
      obtain ⟨k, x, rfl, hx, hx9, hall⟩ := hix.resolve_right (fun h => by have := h.1; omega)
      have hkl : k ≤ ts.length := Nat.le_of_lt (List.getElem?_eq_some_iff.1 hx).1
      have hO := hO.drew
      refine wp_region_D [0, 0, 0, 0, 0, 0, 1, 0, 3] (fun w => St _ _ w _) Tryd_mixed (by kernel_rfl) hO ?_
      refine wd_p hF rfl rfl rfl (fun w => q_move rfl (hF.eval rfl)) fun a hF => ?_
      refine wd_p hF rfl rfl rfl (fun w => q_move rfl (hF.eval rfl)) fun a hF => ?_
      refine wd_p hF rfl rfl rfl (fun w => q_resl hR Tryd.underlying22 Tryd.sizeOf33 rfl (hF.eval rfl) (hF.eval rfl) (hkl)) fun a hF => ?_
      refine wd_p hF rfl rfl rfl (fun w => q_move rfl (hF.eval rfl)) fun a hF => ?_
      refine wd_p hF rfl rfl rfl (fun w => q_move rfl (hF.eval rfl)) fun a hF => ?_
      refine wd_p hF rfl rfl rfl (fun w => q_at (i := k) hR Tryd.underlying22 Tryd.sizeOf33 rfl (hF.eval rfl) (hF.eval rfl) ((List.getElem?_eq_some_iff.1 hx).1)) fun a hF => ?_
      refine wd_r hF rfl rfl rfl (fun w hO => q_loadAgg Tryd.isAgg33 Tryd.sizeOf33 rfl (hF.eval rfl) (RdT.cells (hR.now hO) hx) rfl) fun a hF => ?_
      refine wd_p hF rfl rfl rfl (fun w => q_assign rfl (hF.eval rfl)) fun a hF => ?_
      refine wd_s hF rfl rfl (e_storeAll hO (i := 0) rfl Tryd.sizeOf33 rfl (hF.eval rfl) (hF.eval rfl) rfl rfl) ?_
      rintro a _ w ⟨-, hO⟩ hF
      have hO : St _ _ _ [_, _] := hO
      refine wd_nil ?_
      refine k_n ?_
      have hO : St _ _ _ [_, _] := hO
      exact ⟨(ts.take k, x, _), ⟨⟨split_at hall hx hx9, by rw [List.length_take]; omega, hR.cut hkl⟩, hO, hF.sub ⟨rfl, rfl, rfl, trivial⟩⟩⟩
    · skip
      have hall := (hix.resolve_left (fun ⟨k, x, h, _⟩ => by omega)).2
      refine wp_seq ?_
      refine wp_region_lit ?_
      refine wl_v hF rfl rfl rfl (q_move rfl (hF.eval rfl)) fun a hF => ?_
      refine wl_v hF rfl rfl rfl (q_lenRd hR Tryd.underlying22 rfl (hF.eval rfl)) fun a hF => ?_
      refine wl_v hF rfl rfl rfl (q_assign rfl (hF.eval rfl)) fun a hF => ?_
      refine wl_nil ?_
      refine k_n ?_
      refine wp_seq ?_
      refine wp_region_lit ?_
      refine wl_v hF rfl rfl rfl (q_move rfl (hF.eval rfl)) fun a hF => ?_
      refine wl_v hF rfl rfl rfl (q_gt rfl (hF.eval rfl) (hF.eval rfl)) fun a hF => ?_
      refine wl_nil ?_
      refine k_n ?_
      refine wp_ifD hF rfl rfl (fun hc2 => ?_) (fun hc2 => ?_)
      · skip
        have hO := hO.drew
        refine wp_region_D [0, 0, 0, 0, 0, 1, 0, 0, 0, 0, 0, 1, 0, 2, 0, 2] (fun w => RdT w [] vt tokE ts) Tryd_mixed (by kernel_rfl) (hR.at0 hO) ?_
        refine wd_p hF rfl rfl rfl (fun w => q_move rfl (hF.eval rfl)) fun a hF => ?_
        refine wd_p hF rfl rfl rfl (fun w => q_move rfl (hF.eval rfl)) fun a hF => ?_
        refine wd_p hF rfl rfl rfl (fun w => q_sub rfl (hF.eval rfl) (hF.eval rfl) (by omega)) fun a hF => ?_
        obtain ⟨y, hy⟩ := get_ex (l := ts) (i := ts.length - 1) (by omega)
        refine wd_p hF rfl rfl rfl (fun w => q_at (i := ts.length - 1) hR Tryd.underlying22 Tryd.sizeOf33 rfl (hF.eval rfl) ((hF.eval rfl).trans (congrArg i64 (show (ts.length : Int) - 1 = ((ts.length - 1 : Nat) : Int) by omega))) (by omega)) fun a hF => ?_
        refine wd_p hF rfl rfl rfl (fun w => q_fieldAddr0 (d := 3) Tryd.underlying33 rfl (hF.eval rfl) rfl Tryd.sizeOf3 (by decide) rfl) fun a hF => ?_
        refine wd_r hF rfl rfl rfl (fun w hO => q_load Tryd.isAgg3 rfl (hF.eval rfl) (RdT.cells hO hy _ _ rfl)) fun a hF => ?_
        refine wd_p hF rfl rfl rfl (fun w => q_move rfl (hF.eval rfl)) fun a hF => ?_
        refine wd_p hF rfl rfl rfl (fun w => q_move rfl (hF.eval rfl)) fun a hF => ?_
        refine wd_p hF rfl rfl rfl (fun w => q_sub rfl (hF.eval rfl) (hF.eval rfl) (by omega)) fun a hF => ?_
        refine wd_p hF rfl rfl rfl (fun w => q_at (i := ts.length - 1) hR Tryd.underlying22 Tryd.sizeOf33 rfl (hF.eval rfl) ((hF.eval rfl).trans (congrArg i64 (show (ts.length : Int) - 1 = ((ts.length - 1 : Nat) : Int) by omega))) (by omega)) fun a hF => ?_
        refine wd_p hF rfl rfl rfl (fun w => q_fieldAddr0 (d := 4) Tryd.underlying33 rfl (hF.eval rfl) rfl Tryd.sizeOf3 (by decide) rfl) fun a hF => ?_
        refine wd_r hF rfl rfl rfl (fun w hO => q_load Tryd.isAgg3 rfl (hF.eval rfl) (RdT.cells hO hy _ _ rfl)) fun a hF => ?_
        refine wd_p hF rfl rfl rfl (fun w => q_fieldAddr0 (d := 3) Tryd.underlying33 rfl (hF.eval rfl) rfl Tryd.sizeOf3 (by decide) rfl) fun a hF => ?_
        refine wd_s2 hF rfl rfl (e_store1 hO (i := 0) rfl Tryd.sizeOf3 rfl (hF.eval rfl) (hF.eval rfl) rfl rfl rfl) ((fun _ _ ⟨_, hS⟩ => hR.at0 hS)) ?_
        rintro a _ w ⟨-, hO⟩ hF
        have hO : St _ _ _ [_, _] := hO
        refine wd_p hF rfl rfl rfl (fun w => q_fieldAddr0 (d := 4) Tryd.underlying33 rfl (hF.eval rfl) rfl Tryd.sizeOf3 (by decide) rfl) fun a hF => ?_
        refine wd_s2 hF rfl rfl (e_store1 hO (i := 0) rfl Tryd.sizeOf3 rfl (hF.eval rfl) (hF.eval rfl) rfl rfl rfl) ((fun _ _ ⟨_, hS⟩ => hR.at0 hS)) ?_
        rintro a _ w ⟨-, hO⟩ hF
        have hO : St _ _ _ [_, _] := hO
        refine wd_nil ?_
        refine k_n ?_
        have hO : St _ _ _ [_, _] := hO
        exact ⟨(ts, ⟨9, [], 0, y.line, y.col⟩, _), ⟨⟨(split_all hall).trans (by rw [lastE_at hy]), by omega, hR⟩, hO, hF.sub ⟨rfl, rfl, rfl, trivial⟩⟩⟩
      · skip
        refine wp_skip ?_
        refine k_n ?_
        have hO : St _ _ _ [_, _] := hO
        exact ⟨(ts, ⟨9, [], 0, 1, 1⟩, _), ⟨⟨by have : ts = [] := List.length_eq_zero_iff.1 (by omega); rw [this]; rfl, by omega, hR⟩, hO, hF.sub ⟨rfl, rfl, rfl, trivial⟩⟩⟩
  · skip
    rintro ⟨l, e, vl⟩ a w ⟨⟨hs, hll, hT⟩, hO, hF⟩
    refine wp_seq ?_
    refine wp_region_lit ?_
    refine wl_v hF rfl rfl rfl (c_build hF Tryd.underlying56 Tryd.zeroValue56 Tryd_places56 rfl rfl rfl rfl) fun a hF => ?_
    refine wl_e hF rfl rfl rfl (e_box hO rfl (hF.eval rfl) rfl) ?_
    rintro a _ w ⟨bs, rfl, hO⟩ hF
    have hO := hO.nilSl 33 5
    have hO := hO.nilSl 63 2
    refine wl_v hF rfl rfl rfl (q_assign rfl (hF.eval rfl)) fun a hF => ?_
    refine wl_nil ?_
    refine k_n ?_
    refine wp_seq ?_
    refine wp_region_lit ?_
    refine wl_e hF rfl rfl rfl (e_alloc hO Tryd.zeroValue33 rfl rfl) ?_
    rintro a _ w ⟨ah, rfl, hO⟩ hF
    refine wl_nil ?_
    refine k_n ?_
    refine wp_seq ?_
    refine wp_seq ?_
    refine wp_region_lit ?_
    refine wl_v hF rfl rfl rfl (q_move rfl (hF.eval rfl)) fun a hF => ?_
    refine wl_v hF rfl rfl rfl (q_lenRd hT Tryd.underlying22 rfl (hF.eval rfl)) fun a hF => ?_
    refine wl_v hF rfl rfl rfl (q_move rfl (hF.eval rfl)) fun a hF => ?_
    refine wl_nil ?_
    refine k_n ?_
    refine wp_block ?_
    have hO := hO.pull 5 rfl
    have hO := hO.pull 5 rfl
    have hO := hO.pull 3 rfl
    have hO := hO.pull 4 rfl
    have hO := hO.pull 5 rfl
    have hO := hO.pull 5 rfl
    have hO : St _ _ _ [_, _, _, _, _, _] := hO
    refine wp_loopS (fun (y : Nat × Tok × List Tok × List Thg × Value × Value) a w' => match y with | (k, ah_, out, st, vo, vs) => (runF (l.drop k) ah_ (decide (k = 0)) out st = runF l tok0 true [] [] ∧ k ≤ l.length ∧ ah_ = (l.take k).getLastD tok0 ∧ out.length + st.length ≤ 6 * k ∧ okS st) ∧ St w0 [] w' [.ob ah 33 (tokE.cells ah_), .ob bs 56 [vo, vs], slT vo 33 tokE out, slT vs 63 itmE st, .ob en 33 (tokE.cells e), .ob dg 25 (diagCells .ok)] ∧ Fr a 143 [(3, ptr (adr dg)), (4, ptr (adr en)), (7, ptr (adr bs)), (8, ptr (adr ah)), (45, vl), (46, i64 l.length), (47, i64 k)]) (fun (y : Nat × Tok × List Tok × List Thg × Value × Value) => match y with | (k, ah_, out, st, vo, vs) => l.length - k) (0, tok0, [], [], _, _) ⟨⟨rfl, by omega, rfl, by simp, okS.nil⟩, hO, hF.sub ⟨rfl, rfl, rfl, rfl, rfl, rfl, rfl, trivial⟩⟩ ?_
    rintro ⟨k, ah_, out, st, vo, vs⟩ a w ⟨⟨hr, hk, hla, hps, hks⟩, hO, hF⟩
    refine wp_seq ?_
    refine wp_region_lit ?_
    refine wl_v hF rfl rfl rfl (q_lt rfl (hF.eval rfl) (hF.eval rfl)) fun a hF => ?_
    refine wl_nil ?_
    refine k_n ?_
    refine wp_seq ?_
    refine wp_ifD hF rfl rfl (fun hc3 => ?_) (fun hc3 => ?_)
    · skip
      refine wp_skip ?_
      refine k_n ?_
      refine wp_seq ?_
      refine wp_block ?_
      refine wp_seq ?_
      refine wp_region_lit ?_
      refine wl_v hF rfl rfl rfl (q_move rfl (hF.eval rfl)) fun a hF => ?_
      obtain ⟨x, hx⟩ := get_ex (l := l) (i := k) (by omega)
      refine wl_v hF rfl rfl rfl (q_at (i := k) hT Tryd.underlying22 Tryd.sizeOf33 rfl (hF.eval rfl) (hF.eval rfl) (by omega)) fun a hF => ?_
      refine wl_v hF rfl rfl rfl (q_loadAgg Tryd.isAgg33 Tryd.sizeOf33 rfl (hF.eval rfl) (RdT.cells (hT.now hO) hx) rfl) fun a hF => ?_
      refine wl_e hF rfl rfl rfl (e_alloc hO Tryd.zeroValue33 rfl rfl) ?_
      rintro a _ w ⟨tk, rfl, hO⟩ hF
      refine wl_v hF rfl rfl rfl (q_assign rfl (hF.eval rfl)) fun a hF => ?_
      refine wl_s hF rfl rfl (e_storeAll hO (i := 0) rfl Tryd.sizeOf33 rfl (hF.eval rfl) (hF.eval rfl) rfl rfl) ?_
      rintro a _ w ⟨-, hO⟩ hF
      have hO : St _ _ _ [_, _, _, _, _, _, _] := hO
      refine wl_nil ?_
      refine k_n ?_
      refine wp_seq ?_
      refine wp_region_lit ?_
      refine wl_v hF rfl rfl rfl (q_assign rfl (hF.eval rfl)) fun a hF => ?_
      refine wl_v hF rfl rfl rfl (q_assign rfl (hF.eval rfl)) fun a hF => ?_
      refine wl_nil ?_
      refine k_n ?_
      refine wp_seqJ (fun (q : Bool × Bool × List Tok × List Thg × Value × Value) a w' => match q with | (bg, pt, out2, st2, vo, vs) => (Opn x ah_ out out2 st st2 bg pt ∧ okS st2 ∧ out2.length + st2.length ≤ out.length + st.length + 3) ∧ St w0 [] w' [.ob tk 33 (tokE.cells x), .ob ah 33 (tokE.cells ah_), .ob bs 56 [vo, vs], slT vo 33 tokE out2, slT vs 63 itmE st2, .ob en 33 (tokE.cells e), .ob dg 25 (diagCells .ok)] ∧ Fr a 143 [(3, ptr (adr dg)), (4, ptr (adr en)), (7, ptr (adr bs)), (8, ptr (adr ah)), (45, vl), (46, i64 l.length), (47, i64 k), (9, i64 k), (10, ptr (adr tk)), (11, .bool bg), (12, .bool pt)]) ?_ ?_
      · skip
        refine wp_seq ?_
        refine wp_region_lit ?_
        refine wl_v hF rfl rfl rfl (q_loadAgg Tryd.isAgg33 Tryd.sizeOf33 rfl (hF.eval rfl) (hO.cells 1 rfl) rfl) fun a hF => ?_
        refine wl_e hF rfl rfl rfl (c_call hF rfl rfl Tryd.call29 (opens_r _ _)) ?_
        rintro a _ w ⟨rfl, hS⟩ hF
        have hO := hO.call0 hS
        have hO : St _ _ _ [_, _, _, _, _, _, _] := hO
        refine wl_nil ?_
        refine k_n ?_
        refine wp_ifD hF rfl rfl (fun hc4 => ?_) (fun hc4 => ?_)
        · skip
          refine wp_region_lit ?_
          refine wl_v hF rfl rfl rfl (q_move rfl (hF.eval rfl)) fun a hF => ?_
          refine wl_v hF rfl rfl rfl (q_loadAgg Tryd.isAgg33 Tryd.sizeOf33 rfl (hF.eval rfl) (hO.cells 0 rfl) rfl) fun a hF => ?_
          have hO := hO.pull 4 rfl
          have hO := hO.pull 4 rfl
          have hO := hO.pull 4 rfl
          have hO : St _ _ _ [_, _, _, _, _, _, _] := hO
          refine wl_e hF rfl rfl rfl (c_call hF rfl rfl Tryd.call30 (open_r _ _ _ _ _ _ hO.own3 (by omega) hks (hG.at3 hO) _)) ?_
          rintro a _ w ⟨bg, pt, vo, vs, out2, st2, rfl, hop, hk2, hlp2, hS⟩ hF
          have hO := hO.call3 hS
          have hO : St _ _ _ [_, _, _, _, _, _, _] := hO
          refine wl_v hF rfl rfl rfl (q_move rfl (hF.eval rfl)) fun a hF => ?_
          refine wl_v hF rfl rfl rfl (q_extract rfl (hF.eval rfl) rfl) fun a hF => ?_
          refine wl_v hF rfl rfl rfl (q_extract rfl (hF.eval rfl) rfl) fun a hF => ?_
          refine wl_v hF rfl rfl rfl (q_assign rfl (hF.eval rfl)) fun a hF => ?_
          refine wl_v hF rfl rfl rfl (q_assign rfl (hF.eval rfl)) fun a hF => ?_
          refine wl_nil ?_
          refine k_n ?_
          have hO := hO.pull 6 rfl
          have hO := hO.pull 6 rfl
          have hO := hO.pull 4 rfl
          have hO := hO.pull 4 rfl
          have hO := hO.pull 4 rfl
          have hO := hO.pull 6 rfl
          have hO := hO.pull 6 rfl
          have hO : St _ _ _ [_, _, _, _, _, _, _] := hO
          exact ⟨(bg, pt, out2, st2, _, _), ⟨⟨by unfold Opn; rw [if_pos hc4]; exact hop, hk2, by omega⟩, hO, hF.sub ⟨rfl, rfl, rfl, rfl, rfl, rfl, rfl, rfl, rfl, rfl, rfl, trivial⟩⟩⟩
        · skip
          refine wp_skip ?_
          refine k_n ?_
          have hO : St _ _ _ [_, _, _, _, _, _, _] := hO
          exact ⟨(false, false, out, st, _, _), ⟨⟨by unfold Opn; rw [if_neg hc4]; exact ⟨rfl, rfl, rfl, rfl⟩, hks, by omega⟩, hO, hF.sub ⟨rfl, rfl, rfl, rfl, rfl, rfl, rfl, rfl, rfl, rfl, rfl, trivial⟩⟩⟩
      · skip
        rintro ⟨bg, pt, out2, st2, vo, vs⟩ a w ⟨⟨hopn, hk2, hlp2⟩, hO, hF⟩
        refine wp_seq ?_
        refine wp_seq ?_
        refine wp_region_lit ?_
        refine wl_v hF rfl rfl rfl (q_move rfl (hF.eval rfl)) fun a hF => ?_
        refine wl_v hF rfl rfl rfl (q_not rfl (hF.eval rfl) (dec_b _)) fun a hF => ?_
        refine wl_nil ?_
        refine k_n ?_
        refine wp_ifD hF rfl rfl (fun hc5 => ?_) (fun hc5 => ?_)
        · skip
          obtain ⟨hop, hno⟩ := opn_not hopn hc5
          refine wp_seq ?_
          refine wp_seq ?_
          refine wp_region_lit ?_
          refine wl_v hF rfl rfl rfl (q_move rfl (hF.eval rfl)) fun a hF => ?_
          refine wl_v hF rfl rfl rfl (q_eq rfl (hF.eval rfl) (hF.eval rfl)) fun a hF => ?_
          refine wl_v hF rfl rfl rfl (q_move rfl (hF.eval rfl)) fun a hF => ?_
          refine wl_g hF rfl rfl rfl rfl rfl rfl (fun hg => q_fieldAddr0 (d := 3) Tryd.underlying33 rfl (hF.eval rfl) rfl Tryd.sizeOf3 (by decide) rfl) fun a hF => ?_
          refine wl_g hF rfl rfl rfl rfl rfl rfl (fun hg => q_load Tryd.isAgg3 rfl ((hF.eval rfl).trans (gv_of hg)) (hO.cell 0 rfl rfl)) fun a hF => ?_
          refine wl_g hF rfl rfl rfl rfl rfl rfl (fun hg => q_fieldAddr0 (d := 3) Tryd.underlying33 rfl (hF.eval rfl) rfl Tryd.sizeOf3 (by decide) rfl) fun a hF => ?_
          refine wl_g hF rfl rfl rfl rfl rfl rfl (fun hg => q_load Tryd.isAgg3 rfl ((hF.eval rfl).trans (gv_of hg)) (hO.cell 1 rfl rfl)) fun a hF => ?_
          refine wl_g hF rfl rfl rfl rfl rfl rfl (fun hg => q_gt rfl ((hF.eval rfl).trans (gv_of hg)) ((hF.eval rfl).trans (gv_of hg))) fun a hF => ?_
          refine wl_v hF rfl rfl rfl (q_or rfl (hF.eval rfl) rfl (fun hg2 => ((hF.eval rfl).trans (gv_of hg2))) rfl) fun a hF => ?_
          refine wl_v hF rfl rfl rfl (q_move rfl (hF.eval rfl)) fun a hF => ?_
          refine wl_g hF rfl rfl rfl rfl rfl rfl (fun hg => q_move rfl (hF.eval rfl)) fun a hF => ?_
          refine wl_g hF rfl rfl rfl rfl rfl rfl (fun hg => q_not rfl ((hF.eval rfl).trans (gv_of hg)) (dec_b _)) fun a hF => ?_
          refine wl_v hF rfl rfl rfl (q_and rfl (hF.eval rfl) rfl (fun hg2 => ((hF.eval rfl).trans (gv_of hg2))) rfl) fun a hF => ?_
          refine wl_v hF rfl rfl rfl (q_move rfl (hF.eval rfl)) fun a hF => ?_
          refine wl_g hF rfl rfl rfl rfl rfl rfl (fun hg => q_move rfl (hF.eval rfl)) fun a hF => ?_
          refine wl_g hF rfl rfl rfl rfl rfl rfl (fun hg => q_loadAgg Tryd.isAgg33 Tryd.sizeOf33 rfl (hF.eval rfl) (hO.cells 0 rfl) rfl) fun a hF => ?_
          refine wl_g hF rfl rfl rfl rfl rfl rfl (fun hg => q_fieldAddr0 (d := 4) Tryd.underlying33 rfl (hF.eval rfl) rfl Tryd.sizeOf3 (by decide) rfl) fun a hF => ?_
          refine wl_g hF rfl rfl rfl rfl rfl rfl (fun hg => q_load Tryd.isAgg3 rfl ((hF.eval rfl).trans (gv_of hg)) (hO.cell 0 rfl rfl)) fun a hF => ?_
          have hO := hO.pull 4 rfl
          have hO := hO.pull 4 rfl
          have hO := hO.pull 4 rfl
          have hO : St _ _ _ [_, _, _, _, _, _, _] := hO
          refine wl_gS (fun (x2 : Bool × List Tok × List Thg × Value × Value) u w' => match x2 with | (ok, out3, st3, vo, vs) => u = .bool ok ∧ (if decide ((k : Int) = 0 ∨ ah_.line < x.line) = true ∧ bg = false then lineF x x.col (st2.length + 1) out2 st2 else some (out2, st2)) = (if ok = true then some (out3, st3) else none) ∧ okS st3 ∧ out3.length + st3.length ≤ out2.length + st2.length + 1 ∧ St w0 [] w' [.ob bs 56 [vo, vs], slT vo 33 tokE out3, slT vs 63 itmE st3, .ob tk 33 (tokE.cells x), .ob ah 33 (tokE.cells ah_), .ob en 33 (tokE.cells e), .ob dg 25 (diagCells .ok)]) hF rfl rfl rfl rfl rfl rfl (fun hg => Eff.mono (c_callG hF rfl rfl (by first | (simp only [gv_of hg]; done) | (simp only [gv_of hg]; rfl)) Tryd.call31 (indent_r _ _ _ _ _ _ hO.own3 (by omega) hk2 (hG.at3 hO) _ _)) ?_) (fun hg => ?_) ?_
          · skip
            rintro u w' ⟨ok, vo, vs, out3, st3, rfl, h1, h2, h3, hS⟩
            exact ⟨(ok, out3, st3, vo, vs), rfl, by rw [if_pos ⟨decide_eq_true (of_g hg).1, by simpa using (of_g hg).2⟩]; exact h1, h2, h3, hO.call3 hS⟩
          · skip
            exact ⟨(true, out2, st2, vo, vs), _, rfl, if_neg (fun h => of_gf hg ⟨of_decide_eq_true h.1, by simp [h.2]⟩), hk2, by omega, hO⟩
          rintro ⟨ok, out3, st3, vo, vs⟩ u a w ⟨rfl, hln, hk3, hlp3, hO⟩ hF
          refine wl_g hF rfl rfl rfl rfl rfl rfl (fun hg => q_not rfl ((hF.eval rfl).trans (gv_of hg)) (dec_b _)) fun a hF => ?_
          refine wl_v hF rfl rfl rfl (q_and rfl (hF.eval rfl) rfl (fun hg2 => ((hF.eval rfl).trans (gv_of hg2))) rfl) fun a hF => ?_
          refine wl_nil ?_
          refine k_n ?_
          refine wp_ifD hF rfl rfl (fun hc6 => ?_) (fun hc6 => ?_)
          · skip
            obtain rfl : ok = false := by simpa using hc6.2
            refine wp_seq ?_
            have hO := hO.drew
            refine wp_region_D [0, 1, 0, 1, 0, 0, 3] (fun w => St _ _ w _) Tryd_mixed (by kernel_rfl) hO ?_
            refine wd_p hF rfl rfl rfl (fun w => q_fieldAddr0 (d := 3) Tryd.underlying33 rfl (hF.eval rfl) rfl Tryd.sizeOf3 (by decide) rfl) fun a hF => ?_
            refine wd_r hF rfl rfl rfl (fun w hO => q_load Tryd.isAgg3 rfl (hF.eval rfl) (hO.cell 3 rfl rfl)) fun a hF => ?_
            refine wd_p hF rfl rfl rfl (fun w => q_fieldAddr0 (d := 4) Tryd.underlying33 rfl (hF.eval rfl) rfl Tryd.sizeOf3 (by decide) rfl) fun a hF => ?_
            refine wd_r hF rfl rfl rfl (fun w hO => q_load Tryd.isAgg3 rfl (hF.eval rfl) (hO.cell 3 rfl rfl)) fun a hF => ?_
            refine wd_p hF rfl rfl rfl (fun w => c_build hF Tryd.underlying25 Tryd.zeroValue25 Tryd_places25 rfl rfl rfl rfl) fun a hF => ?_
            refine wd_p hF rfl rfl rfl (fun w => q_assign rfl (hF.eval rfl)) fun a hF => ?_
            refine wd_s hF rfl rfl (e_storeAll hO (i := 6) rfl Tryd.sizeOf25 rfl (hF.eval rfl) (hF.eval rfl) rfl rfl) ?_
            rintro a _ w ⟨-, hO⟩ hF
            have hO : St _ _ _ [_, _, _, _, _, _, _] := hO
            refine wd_nil ?_
            refine k_n ?_
            refine wp_ret ?_
            refine k_r ?_
            refine k_r ?_
            refine b_r ?_
            refine k_r ?_
            refine k_r ?_
            refine b_r ?_
            refine k_r ?_
            refine r_tc hF rfl rfl rfl Tryd.isAgg25 Tryd.sizeOf25 (hO.cells 6 rfl) rfl ?_
            exact ⟨_, [], _, lay_bad hs (hr.symm.trans (run_bad hx (tok_bad hno hop hln))), rfl, (hO.nilSl 33 5).only⟩
          · skip
            obtain rfl : ok = true := by
              cases ok with
              | true => rfl
              | false =>
                by_cases hfp : decide ((k : Int) = 0 ∨ ah_.line < x.line) = true ∧ bg = false
                · exact absurd ⟨⟨of_decide_eq_true hfp.1, by simp [hfp.2]⟩, by simp⟩ hc6
                · rw [if_neg hfp] at hln; simp at hln
            replace hln := hln.trans (if_pos rfl)
            refine wp_skip ?_
            refine k_n ?_
            refine wp_seqJ (fun (q : List Tok × List Thg × Value × Value) a w' => match q with | (out4, st4, vo, vs) => (closF x out3 st3 = (out4, st4) ∧ okS st4 ∧ out4.length + st4.length ≤ out3.length + st3.length) ∧ St w0 [] w' [.ob tk 33 (tokE.cells x), .ob ah 33 (tokE.cells ah_), .ob bs 56 [vo, vs], slT vo 33 tokE out4, slT vs 63 itmE st4, .ob en 33 (tokE.cells e), .ob dg 25 (diagCells .ok)] ∧ Fr a 143 [(3, ptr (adr dg)), (4, ptr (adr en)), (7, ptr (adr bs)), (8, ptr (adr ah)), (45, vl), (46, i64 l.length), (47, i64 k), (9, i64 k), (10, ptr (adr tk))]) ?_ ?_
            · skip
              refine wp_seq ?_
              refine wp_region_lit ?_
              refine wl_v hF rfl rfl rfl (q_loadAgg Tryd.isAgg33 Tryd.sizeOf33 rfl (hF.eval rfl) (hO.cells 3 rfl) rfl) fun a hF => ?_
              refine wl_e hF rfl rfl rfl (c_call hF rfl rfl Tryd.call32 (closes1_r _ _)) ?_
              rintro a _ w ⟨rfl, hS⟩ hF
              have hO := hO.call0 hS
              have hO : St _ _ _ [_, _, _, _, _, _, _] := hO
              refine wl_nil ?_
              refine k_n ?_
              refine wp_ifD hF rfl rfl (fun hc7 => ?_) (fun hc7 => ?_)
              · skip
                refine wp_region_lit ?_
                refine wl_v hF rfl rfl rfl (q_move rfl (hF.eval rfl)) fun a hF => ?_
                refine wl_v hF rfl rfl rfl (q_loadAgg Tryd.isAgg33 Tryd.sizeOf33 rfl (hF.eval rfl) (hO.cells 3 rfl) rfl) fun a hF => ?_
                have hO := hO.pull 2 rfl
                have hO := hO.pull 2 rfl
                have hO := hO.pull 2 rfl
                have hO : St _ _ _ [_, _, _, _, _, _, _] := hO
                refine wl_e hF rfl rfl rfl (c_call hF rfl rfl Tryd.call33 (finish_r _ _ _ _ _ _ hO.own3 (by omega) hk3 (hG.at3 hO) _ hc7)) ?_
                rintro a _ w ⟨vo, vs, out4, st4, rfl, hcl, hk4, hlp4, hS⟩ hF
                have hO := hO.call3 hS
                have hO : St _ _ _ [_, _, _, _, _, _, _] := hO
                refine wl_nil ?_
                refine k_n ?_
                have hO := hO.pull 6 rfl
                have hO := hO.pull 6 rfl
                have hO := hO.pull 4 rfl
                have hO := hO.pull 4 rfl
                have hO := hO.pull 4 rfl
                have hO := hO.pull 6 rfl
                have hO := hO.pull 6 rfl
                have hO : St _ _ _ [_, _, _, _, _, _, _] := hO
                exact ⟨(out4, st4, _, _), ⟨⟨hcl, hk4, hlp4⟩, hO, hF.sub ⟨rfl, rfl, rfl, rfl, rfl, rfl, rfl, rfl, rfl, trivial⟩⟩⟩
              · skip
                refine wp_skip ?_
                refine k_n ?_
                have hO := hO.pull 6 rfl
                have hO := hO.pull 6 rfl
                have hO := hO.pull 4 rfl
                have hO := hO.pull 4 rfl
                have hO := hO.pull 4 rfl
                have hO := hO.pull 6 rfl
                have hO := hO.pull 6 rfl
                have hO : St _ _ _ [_, _, _, _, _, _, _] := hO
                exact ⟨(out3, st3, _, _), ⟨⟨clos_0 hc7, hk3, by omega⟩, hO, hF.sub ⟨rfl, rfl, rfl, rfl, rfl, rfl, rfl, rfl, rfl, trivial⟩⟩⟩
            · skip
              rintro ⟨out4, st4, vo, vs⟩ a w ⟨⟨hcl, hk4, hlp4⟩, hO, hF⟩
              refine wp_seq ?_
              have hO := hO.drew
              refine wp_region_D [0, 0, 0, 0, 1, 1, 2, 3, 0, 0, 3] (fun w => St _ _ w _) Tryd_mixed (by kernel_rfl) hO ?_
              refine wd_p hF rfl rfl rfl (fun w => q_move rfl (hF.eval rfl)) fun a hF => ?_
              refine wd_p hF rfl rfl rfl (fun w => q_move rfl (hF.eval rfl)) fun a hF => ?_
              refine wd_p hF rfl rfl rfl (fun w => q_nilCheck rfl (hF.eval rfl)) fun a hF => ?_
              refine wd_p hF rfl rfl rfl (fun w => q_fieldAddr0 (d := 0) Tryd.underlying56 rfl (hF.eval rfl) rfl Tryd.sizeOf22 (by decide) rfl) fun a hF => ?_
              refine wd_r hF rfl rfl rfl (fun w hO => q_load Tryd.isAgg22 rfl (hF.eval rfl) (hO.cell 2 rfl rfl)) fun a hF => ?_
              refine wd_r hF rfl rfl rfl (fun w hO => q_loadAgg Tryd.isAgg33 Tryd.sizeOf33 rfl (hF.eval rfl) (hO.cells 0 rfl) rfl) fun a hF => ?_
              refine wd_e hF rfl rfl rfl (c_buildSlice hF hO Tryd.underlying22 Tryd.sizeOf33 Tryd.zeroValue33 rfl rfl rfl rfl rfl rfl rfl) (fun _ _ ⟨_, _, hO⟩ => hO.tail) ?_
              rintro a _ w ⟨b1, rfl, hO⟩ hF
              refine wd_f hF rfl rfl rfl (e_appendT (bytes := 48) (r := [x]) hO (i := 4) rfl (hO.rd 0 rfl) Tryd.underlying22 Tryd_info33 rfl rfl rfl rfl rfl rfl (hF.eval rfl) (hF.eval rfl) (by show (List.length _ + 1) * 48 ≤ _; omega) (by show List.length _ + 1 ≤ _; omega)) ?_
              rintro a v100 w hO hF
              have hO : St _ _ _ [_, _, _, _, _, _, _, _] := hO
              refine wd_p hF rfl rfl rfl (fun w => q_nilCheck rfl (hF.eval rfl)) fun a hF => ?_
              refine wd_p hF rfl rfl rfl (fun w => q_fieldAddr0 (d := 0) Tryd.underlying56 rfl (hF.eval rfl) rfl Tryd.sizeOf22 (by decide) rfl) fun a hF => ?_
              refine wd_s hF rfl rfl (e_store1 hO (i := 3) rfl Tryd.sizeOf22 rfl (hF.eval rfl) (hF.eval rfl) (cells_one (hO.slOne 4 rfl)) rfl (hO.slOne 4 rfl)) ?_
              rintro a _ w ⟨-, hO⟩ hF
              have hO : St _ _ _ [_, _, _, _, _, _, _, _] := hO
              refine wd_nil ?_
              refine k_n ?_
              refine wp_seq ?_
              refine wp_region_lit ?_
              refine wl_v hF rfl rfl rfl (q_loadAgg Tryd.isAgg33 Tryd.sizeOf33 rfl (hF.eval rfl) (hO.cells 1 rfl) rfl) fun a hF => ?_
              refine wl_e hF rfl rfl rfl (c_buildSlice hF hO Tryd.underlying45 Tryd.sizeOf9 Tryd.zeroValue9 rfl rfl rfl rfl rfl rfl rfl) ?_
              rintro a _ w ⟨ws, rfl, hO⟩ hF
              refine wl_e hF rfl rfl rfl (c_call hF rfl rfl Tryd.call34 (is_r _ _ _ [[40], [91], [123], wIf, wCase, wLet] (by decide) (hO.rdT 0 rfl))) ?_
              rintro a _ w ⟨rfl, hS⟩ hF
              have hO := hO.call0 hS
              have hO : St _ _ _ [_, _, _, _, _, _, _, _, _] := hO
              refine wl_nil ?_
              refine k_n ?_
              refine wp_ifD hF rfl rfl (fun hc8 => ?_) (fun hc8 => ?_)
              · skip
                have hmt := mark_txt hc8
                have hxt : str x.text = str (itm x.text) := by rw [hmt.2.1]
                have hO := hO.drew
                refine wp_region_D [0, 0, 0, 0, 1, 0, 1, 0, 2, 3, 0, 0, 3] (fun w => St _ _ w _) Tryd_mixed (by kernel_rfl) hO ?_
                refine wd_p hF rfl rfl rfl (fun w => q_move rfl (hF.eval rfl)) fun a hF => ?_
                refine wd_p hF rfl rfl rfl (fun w => q_move rfl (hF.eval rfl)) fun a hF => ?_
                refine wd_p hF rfl rfl rfl (fun w => q_nilCheck rfl (hF.eval rfl)) fun a hF => ?_
                refine wd_p hF rfl rfl rfl (fun w => q_fieldAddr0 (d := 1) Tryd.underlying56 rfl (hF.eval rfl) rfl Tryd.sizeOf54 (by decide) rfl) fun a hF => ?_
                refine wd_r hF rfl rfl rfl (fun w hO => q_load Tryd.isAgg54 rfl (hF.eval rfl) (hO.cell 4 rfl rfl)) fun a hF => ?_
                refine wd_p hF rfl rfl rfl (fun w => q_fieldAddr0 (d := 1) Tryd.underlying33 rfl (hF.eval rfl) rfl Tryd.sizeOf9 (by decide) rfl) fun a hF => ?_
                refine wd_r hF rfl rfl rfl (fun w hO => q_load Tryd.isAgg9 rfl (hF.eval rfl) (hO.cell 2 rfl rfl)) fun a hF => ?_
                rw [hxt] at hF
                refine wd_p hF rfl rfl rfl (fun w => c_build hF Tryd.underlying63 Tryd.zeroValue63 Tryd_places63 rfl rfl rfl rfl) fun a hF => ?_
                refine wd_e hF rfl rfl rfl (c_buildSlice hF hO Tryd.underlying54 Tryd.sizeOf63 Tryd.zeroValue63 rfl rfl rfl rfl rfl rfl rfl) (fun _ _ ⟨_, _, hO⟩ => hO.tail) ?_
                rintro a _ w ⟨b2, rfl, hO⟩ hF
                refine wd_f hF rfl rfl rfl (e_appendT (bytes := 24) (r := [⟨x.text, 0⟩]) hO (i := 7) rfl (hO.rd 0 rfl) Tryd.underlying54 Tryd_info63 rfl rfl rfl rfl rfl rfl (hF.eval rfl) (hF.eval rfl) (by show (List.length _ + 1) * 24 ≤ _; omega) (by show List.length _ + 1 ≤ _; omega)) ?_
                rintro a v115 w hO hF
                have hO : St _ _ _ [_, _, _, _, _, _, _, _, _, _] := hO
                refine wd_p hF rfl rfl rfl (fun w => q_nilCheck rfl (hF.eval rfl)) fun a hF => ?_
                refine wd_p hF rfl rfl rfl (fun w => q_fieldAddr0 (d := 1) Tryd.underlying56 rfl (hF.eval rfl) rfl Tryd.sizeOf54 (by decide) rfl) fun a hF => ?_
                refine wd_s hF rfl rfl (e_store1 hO (i := 5) rfl Tryd.sizeOf54 rfl (hF.eval rfl) (hF.eval rfl) (cells_one (hO.slOne 7 rfl)) rfl (hO.slOne 7 rfl)) ?_
                rintro a _ w ⟨-, hO⟩ hF
                have hO : St _ _ _ [_, _, _, _, _, _, _, _, _, _] := hO
                refine wd_nil ?_
                refine k_n ?_
                refine wp_region_lit ?_
                refine wl_v hF rfl rfl rfl (q_loadAgg Tryd.isAgg33 Tryd.sizeOf33 rfl (hF.eval rfl) (hO.cells 3 rfl) rfl) fun a hF => ?_
                refine wl_s hF rfl rfl (e_storeAll hO (i := 4) rfl Tryd.sizeOf33 rfl (hF.eval rfl) (hF.eval rfl) rfl rfl) ?_
                rintro a _ w ⟨-, hO⟩ hF
                have hO : St _ _ _ [_, _, _, _, _, _, _, _, _, _] := hO
                refine wl_nil ?_
                refine b_n ?_
                refine k_n ?_
                refine wp_region_lit ?_
                refine wl_v hF rfl rfl rfl (q_add rfl (hF.eval rfl) (hF.eval rfl) (by omega)) fun a hF => ?_
                refine wl_v hF rfl rfl rfl (q_move rfl (hF.eval rfl)) fun a hF => ?_
                refine wl_nil ?_
                refine k_n ?_
                have hO := hO.drop1 0
                have hO := hO.drop1 0
                have hO := hO.drop1 0
                have hO := hO.drop1 0
                have hO : St _ _ _ [_, _, _, _, _, _] := hO
                exact ⟨(k + 1, x, _, _, _, _), ⟨⟨(run_on hx ((tok_ok hno hop hln hcl).trans (by rw [if_pos (mark_iff.1 hc8), hmt.1]))).symm.trans hr, by omega, last_on hx, by simp; omega, hk4.app hmt.2.2⟩, hO, hF.sub ⟨rfl, rfl, rfl, rfl, rfl, rfl, rfl, trivial⟩⟩, by dsimp only; omega⟩
              · skip
                refine wp_skip ?_
                refine k_n ?_
                refine wp_region_lit ?_
                refine wl_v hF rfl rfl rfl (q_loadAgg Tryd.isAgg33 Tryd.sizeOf33 rfl (hF.eval rfl) (hO.cells 2 rfl) rfl) fun a hF => ?_
                refine wl_s hF rfl rfl (e_storeAll hO (i := 3) rfl Tryd.sizeOf33 rfl (hF.eval rfl) (hF.eval rfl) rfl rfl) ?_
                rintro a _ w ⟨-, hO⟩ hF
                have hO : St _ _ _ [_, _, _, _, _, _, _, _, _] := hO
                refine wl_nil ?_
                refine b_n ?_
                refine k_n ?_
                refine wp_region_lit ?_
                refine wl_v hF rfl rfl rfl (q_add rfl (hF.eval rfl) (hF.eval rfl) (by omega)) fun a hF => ?_
                refine wl_v hF rfl rfl rfl (q_move rfl (hF.eval rfl)) fun a hF => ?_
                refine wl_nil ?_
                refine k_n ?_
                have hO := hO.drop1 0
                have hO := hO.drop1 0
                have hO := hO.drop1 0
                have hO : St _ _ _ [_, _, _, _, _, _] := hO
                exact ⟨(k + 1, x, _, _, _, _), ⟨⟨(run_on hx ((tok_ok hno hop hln hcl).trans (by rw [if_neg fun h => hc8 (mark_iff.2 h)]))).symm.trans hr, by omega, last_on hx, by simp; omega, hk4⟩, hO, hF.sub ⟨rfl, rfl, rfl, rfl, rfl, rfl, rfl, trivial⟩⟩, by dsimp only; omega⟩
        · skip
          refine wp_skip ?_
          refine k_n ?_
          refine wp_region_lit ?_
          refine wl_v hF rfl rfl rfl (q_loadAgg Tryd.isAgg33 Tryd.sizeOf33 rfl (hF.eval rfl) (hO.cells 0 rfl) rfl) fun a hF => ?_
          refine wl_s hF rfl rfl (e_storeAll hO (i := 1) rfl Tryd.sizeOf33 rfl (hF.eval rfl) (hF.eval rfl) rfl rfl) ?_
          rintro a _ w ⟨-, hO⟩ hF
          have hO : St _ _ _ [_, _, _, _, _, _, _] := hO
          refine wl_nil ?_
          refine b_n ?_
          refine k_n ?_
          refine wp_region_lit ?_
          refine wl_v hF rfl rfl rfl (q_add rfl (hF.eval rfl) (hF.eval rfl) (by omega)) fun a hF => ?_
          refine wl_v hF rfl rfl rfl (q_move rfl (hF.eval rfl)) fun a hF => ?_
          refine wl_nil ?_
          refine k_n ?_
          have hO := hO.drop1 0
          have hO : St _ _ _ [_, _, _, _, _, _] := hO
          exact ⟨(k + 1, x, _, _, _, _), ⟨⟨(run_on hx (opn_put hopn hc5)).symm.trans hr, by omega, last_on hx, by omega, hk2⟩, hO, hF.sub ⟨rfl, rfl, rfl, rfl, rfl, rfl, rfl, trivial⟩⟩, by dsimp only; omega⟩
    · skip
      obtain rfl : k = l.length := by omega
      rw [List.take_length] at hla
      rw [List.drop_length] at hr
      replace hr : runF l tok0 true [] [] = .inl (some (out, st)) := hr.symm
      refine wp_exit ?_
      refine k_x ?_
      refine k_x ?_
      refine b_x ?_
      refine k_n ?_
      refine wp_seqJ (fun (z : List Tok × Value) a w' => match z with | (o2, vo) => (o2 = (if openP (wordF ah_) then out ++ [laidT [123] e] ++ [laidT [125] e] else out) ∧ o2.length ≤ out.length + 2) ∧ St w0 [] w' [.ob bs 56 [vo, vs], slT vo 33 tokE o2, slT vs 63 itmE st, .ob en 33 (tokE.cells e), .ob dg 25 (diagCells .ok)] ∧ Fr a 143 [(3, ptr (adr dg)), (4, ptr (adr en)), (7, ptr (adr bs))]) ?_ ?_
      · skip
        refine wp_seq ?_
        refine wp_region_lit ?_
        refine wl_v hF rfl rfl rfl (q_loadAgg Tryd.isAgg33 Tryd.sizeOf33 rfl (hF.eval rfl) (hO.cells 0 rfl) rfl) fun a hF => ?_
        refine wl_e hF rfl rfl rfl (c_call hF rfl rfl Tryd.call29 (opens_r _ _)) ?_
        rintro a _ w ⟨rfl, hS⟩ hF
        have hO := hO.call0 hS
        have hO : St _ _ _ [_, _, _, _, _, _] := hO
        refine wl_nil ?_
        refine k_n ?_
        refine wp_ifD hF rfl rfl (fun hc9 => ?_) (fun hc9 => ?_)
        · skip
          refine wp_region_lit ?_
          refine wl_v hF rfl rfl rfl (q_move rfl (hF.eval rfl)) fun a hF => ?_
          refine wl_v hF rfl rfl rfl (q_loadAgg Tryd.isAgg33 Tryd.sizeOf33 rfl (hF.eval rfl) (hO.cells 4 rfl) rfl) fun a hF => ?_
          refine wl_e hF rfl rfl rfl (c_buildSlice hF hO Tryd.underlying45 Tryd.sizeOf9 Tryd.zeroValue9 rfl rfl rfl rfl rfl rfl rfl) ?_
          rintro a _ w ⟨ws, rfl, hO⟩ hF
          have hO := hO.pull 3 rfl
          have hO := hO.pull 3 rfl
          have hO : St _ _ _ [_, _, _, _, _, _, _] := hO
          refine wl_e hF rfl rfl rfl (c_call hF rfl rfl Tryd.call35 (llay_r _ _ _ _ _ hO.own2 _ _ [[123], [125]] (by decide) (by omega) (hO.rdT2 0 rfl))) ?_
          rintro a _ w ⟨vo, rfl, hS⟩ hF
          have hO := hO.call2 hS
          have hO : St _ _ _ [_, _, _, _, _, _, _] := hO
          refine wl_nil ?_
          refine k_n ?_
          have hO := hO.drop1 2
          have hO := hO.drop1 2
          have hO : St _ _ _ [_, _, _, _, _] := hO
          exact ⟨(_, _), ⟨⟨by rw [if_pos hc9]; simp, by simp⟩, hO, hF.sub ⟨rfl, rfl, rfl, trivial⟩⟩⟩
        · skip
          refine wp_skip ?_
          refine k_n ?_
          have hO := hO.drop1 0
          have hO : St _ _ _ [_, _, _, _, _] := hO
          exact ⟨(_, _), ⟨⟨(if_neg hc9).symm, by omega⟩, hO, hF.sub ⟨rfl, rfl, rfl, trivial⟩⟩⟩
      · skip
        rintro ⟨o2, vo⟩ a w ⟨⟨ho2, hol⟩, hO, hF⟩
        refine wp_seq ?_
        refine wp_seq ?_
        refine wp_region_lit ?_
        refine wl_v hF rfl rfl rfl (q_move rfl (hF.eval rfl)) fun a hF => ?_
        refine wl_v hF rfl rfl rfl (q_loadAgg Tryd.isAgg33 Tryd.sizeOf33 rfl (hF.eval rfl) (hO.cells 3 rfl) rfl) fun a hF => ?_
        have hO := hO.pull 2 rfl
        have hO := hO.pull 2 rfl
        have hO := hO.pull 2 rfl
        have hO : St _ _ _ [_, _, _, _, _] := hO
        refine wl_e hF rfl rfl rfl (c_call hF rfl rfl Tryd.call31 (indent_r _ _ _ _ _ _ hO.own3 (by omega) hks (hG.at3 hO) _ _)) ?_
        rintro a _ w ⟨ok, vo, vs, out3, st3, rfl, hln, hk3, hlp3, hS⟩ hF
        have hO := hO.call3 hS
        have hO : St _ _ _ [_, _, _, _, _] := hO
        refine wl_v hF rfl rfl rfl (q_not rfl (hF.eval rfl) (dec_b _)) fun a hF => ?_
        refine wl_nil ?_
        refine k_n ?_
        refine wp_ifD hF rfl rfl (fun hc10 => ?_) (fun hc10 => ?_)
        · skip
          obtain rfl : ok = false := by simpa using hc10
          refine wp_seq ?_
          have hO := hO.drew
          refine wp_region_D [0, 1, 0, 1, 0, 0, 3] (fun w => St _ _ w _) Tryd_mixed (by kernel_rfl) hO ?_
          refine wd_p hF rfl rfl rfl (fun w => q_fieldAddr0 (d := 3) Tryd.underlying33 rfl (hF.eval rfl) rfl Tryd.sizeOf3 (by decide) rfl) fun a hF => ?_
          refine wd_r hF rfl rfl rfl (fun w hO => q_load Tryd.isAgg3 rfl (hF.eval rfl) (hO.cell 3 rfl rfl)) fun a hF => ?_
          refine wd_p hF rfl rfl rfl (fun w => q_fieldAddr0 (d := 4) Tryd.underlying33 rfl (hF.eval rfl) rfl Tryd.sizeOf3 (by decide) rfl) fun a hF => ?_
          refine wd_r hF rfl rfl rfl (fun w hO => q_load Tryd.isAgg3 rfl (hF.eval rfl) (hO.cell 3 rfl rfl)) fun a hF => ?_
          refine wd_p hF rfl rfl rfl (fun w => c_build hF Tryd.underlying25 Tryd.zeroValue25 Tryd_places25 rfl rfl rfl rfl) fun a hF => ?_
          refine wd_p hF rfl rfl rfl (fun w => q_assign rfl (hF.eval rfl)) fun a hF => ?_
          refine wd_s hF rfl rfl (e_storeAll hO (i := 4) rfl Tryd.sizeOf25 rfl (hF.eval rfl) (hF.eval rfl) rfl rfl) ?_
          rintro a _ w ⟨-, hO⟩ hF
          have hO : St _ _ _ [_, _, _, _, _] := hO
          refine wd_nil ?_
          refine k_n ?_
          refine wp_ret ?_
          refine k_r ?_
          refine r_tc hF rfl rfl rfl Tryd.isAgg25 Tryd.sizeOf25 (hO.cells 4 rfl) rfl ?_
          exact ⟨_, [], _, lay_no hs hr hla ho2 hln, rfl, (hO.nilSl 33 5).only⟩
        · skip
          obtain rfl : ok = true := by simpa using hc10
          replace hln := hln.trans (if_pos rfl)
          refine wp_skip ?_
          refine k_n ?_
          refine wp_seq ?_
          have hO := hO.drew
          refine wp_region_D [0, 0, 0, 1, 1, 2, 3, 0, 0, 3] (fun w => St _ _ w _) Tryd_mixed (by kernel_rfl) hO ?_
          refine wd_p hF rfl rfl rfl (fun w => q_move rfl (hF.eval rfl)) fun a hF => ?_
          refine wd_p hF rfl rfl rfl (fun w => q_nilCheck rfl (hF.eval rfl)) fun a hF => ?_
          refine wd_p hF rfl rfl rfl (fun w => q_fieldAddr0 (d := 0) Tryd.underlying56 rfl (hF.eval rfl) rfl Tryd.sizeOf22 (by decide) rfl) fun a hF => ?_
          refine wd_r hF rfl rfl rfl (fun w hO => q_load Tryd.isAgg22 rfl (hF.eval rfl) (hO.cell 0 rfl rfl)) fun a hF => ?_
          refine wd_r hF rfl rfl rfl (fun w hO => q_loadAgg Tryd.isAgg33 Tryd.sizeOf33 rfl (hF.eval rfl) (hO.cells 3 rfl) rfl) fun a hF => ?_
          refine wd_e hF rfl rfl rfl (c_buildSlice hF hO Tryd.underlying22 Tryd.sizeOf33 Tryd.zeroValue33 rfl rfl rfl rfl rfl rfl rfl) (fun _ _ ⟨_, _, hO⟩ => hO.tail) ?_
          rintro a _ w ⟨b3, rfl, hO⟩ hF
          refine wd_f hF rfl rfl rfl (e_appendT (bytes := 48) (r := [e]) hO (i := 2) rfl (hO.rd 0 rfl) Tryd.underlying22 Tryd_info33 rfl rfl rfl rfl rfl rfl (hF.eval rfl) (hF.eval rfl) (by show (List.length _ + 1) * 48 ≤ _; omega) (by show List.length _ + 1 ≤ _; omega)) ?_
          rintro a v141 w hO hF
          have hO : St _ _ _ [_, _, _, _, _, _] := hO
          refine wd_p hF rfl rfl rfl (fun w => c_build hF Tryd.underlying25 Tryd.zeroValue25 Tryd_places25 rfl rfl rfl rfl) fun a hF => ?_
          refine wd_p hF rfl rfl rfl (fun w => q_assign rfl (hF.eval rfl)) fun a hF => ?_
          refine wd_s hF rfl rfl (e_storeAll hO (i := 5) rfl Tryd.sizeOf25 rfl (hF.eval rfl) (hF.eval rfl) rfl rfl) ?_
          rintro a _ w ⟨-, hO⟩ hF
          have hO : St _ _ _ [_, _, _, _, _, _] := hO
          refine wd_nil ?_
          refine k_n ?_
          refine wp_ret ?_
          refine r_tc hF rfl rfl rfl Tryd.isAgg25 Tryd.sizeOf25 (hO.cells 5 rfl) rfl ?_
          exact ⟨_, _, _, lay_ok hs hr hla ho2 hln, rfl, (hO.pull 2 rfl).only⟩

end Go.Proofs.YtnnagjbkpmkelaaDoor
