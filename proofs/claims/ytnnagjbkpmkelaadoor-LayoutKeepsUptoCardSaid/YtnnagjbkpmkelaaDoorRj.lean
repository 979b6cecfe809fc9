import Derived.Test.YtnnagjbkpmkelaaDoorRi
import Derived.Test.YtnnagjbkpmkelaaDoorPl2
import Derived.Test.YtnnagjbkpmkelaaDoorGw9
namespace Go.Proofs.YtnnagjbkpmkelaaDoor
open Go
set_option maxRecDepth 100000

section
variable {ts l : List Tok} {e x ah : Tok} {i k : Nat}
theorem split_end (hx : ts[i]? = some x) (h : x.kind = 9) : splitF (ts.drop i) e = ([], x) := by
  obtain ⟨hl, hx⟩ := List.getElem?_eq_some_iff.1 hx
  rw [List.drop_eq_getElem_cons hl, hx, splitF, if_pos h]
theorem split_on (hx : ts[i]? = some x) (h : ¬ x.kind = 9) : splitF (ts.drop i) e = (x :: (splitF (ts.drop (i + 1)) ⟨9, [], 0, x.line, x.col⟩).1, (splitF (ts.drop (i + 1)) ⟨9, [], 0, x.line, x.col⟩).2) := by
  obtain ⟨hl, hx⟩ := List.getElem?_eq_some_iff.1 hx
  rw [List.drop_eq_getElem_cons hl, hx, splitF, if_neg h]
theorem run_on {out out2 : List Tok} {st st2 : List Thg} (hx : l[k]? = some x) (h : tokF x ah (decide ((k : Int) = 0 ∨ ah.line < x.line)) out st = some (out2, st2)) :
    runF (l.drop k) ah (decide (k = 0)) out st = runF (l.drop (k + 1)) x (decide (k + 1 = 0)) out2 st2 := by
  obtain ⟨hl, hx⟩ := List.getElem?_eq_some_iff.1 hx
  rw [List.drop_eq_getElem_cons hl, hx, runF, show (decide (k = 0) || decide (ah.line < x.line)) = decide ((k : Int) = 0 ∨ ah.line < x.line) by simp, h]
  simp
theorem run_bad {out : List Tok} {st : List Thg} (hx : l[k]? = some x) (h : tokF x ah (decide ((k : Int) = 0 ∨ ah.line < x.line)) out st = none) : runF (l.drop k) ah (decide (k = 0)) out st = .inr x := by
  obtain ⟨hl, hx⟩ := List.getElem?_eq_some_iff.1 hx
  rw [List.drop_eq_getElem_cons hl, hx, runF, show (decide (k = 0) || decide (ah.line < x.line)) = decide ((k : Int) = 0 ∨ ah.line < x.line) by simp, h]
theorem last_on (hx : l[k]? = some x) : x = (l.take (k + 1)).getLastD tok0 := by
  rw [List.take_add_one, hx]; simp
end
section
variable {ts l : List Tok} {e ah : Tok} {out o2 o3 : List Tok} {st s3 : List Thg}
variable (hs : splitF ts ⟨9, [], 0, 1, 1⟩ = (l, e))
include hs
theorem lay_bad {x : Tok} (hr : runF l tok0 true [] [] = .inr x) : layF ts = ([], badD x) := by unfold layF; simp only [hs, hr]
variable (hr : runF l tok0 true [] [] = .inl (some (out, st))) (ha : ah = l.getLastD tok0) (ho : o2 = if openP (wordF ah) then out ++ [laidT [123] e] ++ [laidT [125] e] else out)
include hr ha ho
theorem lay_no (hl : lineF e 0 (st.length + 1) o2 st = none) : layF ts = ([], badD e) := by
  subst ha ho
  unfold layF; simp only [hs, hr, hl]
theorem lay_ok (hl : lineF e 0 (st.length + 1) o2 st = some (o3, s3)) : layF ts = (o3 ++ [e], .ok) := by
  subst ha ho
  unfold layF; simp only [hs, hr, hl]
end
set_option maxHeartbeats 4000000 in
theorem rlay_r (w0 : World) (vt : Value) (ts : List Tok) (hn : ts.length ≤ 100000000000) (hR : RdT w0 [] vt tokE ts) : Ret Tryd.prog 12 #[vt] w0 (fun v w' => ∃ va l d, layF ts = (l, d) ∧ v = .tuple #[va, .agg (diagCells d).toArray] ∧ St w0 [] w' [slT va 33 tokE l]) := by
  have hO := St.init0 w0
  refine ret_of (m := 106) Tryd.func12 rfl Tryd.ntmps12 [(0, vt)] rfl ⟨rfl, trivial⟩ fun a hF => ?_
  refine wp_seq ?_
  refine wp_region_lit ?_
  refine wl_v hF rfl rfl rfl (q_assign rfl (hF.eval rfl)) fun a hF => ?_
  refine wl_e hF rfl rfl rfl (e_alloc hO Tryd.zeroValue25 rfl rfl) ?_
  rintro a _ w ⟨dg, rfl, hO⟩ hF
  refine wl_nil ?_
  refine k_n ?_
  refine wp_seq ?_
  refine wp_region_lit ?_
  refine wl_v hF rfl rfl rfl (c_build hF Tryd.underlying33 Tryd.zeroValue33 Tryd_places33 rfl rfl rfl rfl) fun a hF => ?_
  refine wl_e hF rfl rfl rfl (e_alloc hO Tryd.zeroValue33 rfl rfl) ?_
  rintro a _ w ⟨en, rfl, hO⟩ hF
  refine wl_s hF rfl rfl (e_storeAll hO (i := 0) rfl Tryd.sizeOf33 rfl (hF.eval rfl) (hF.eval rfl) rfl rfl) ?_
  rintro a _ w ⟨-, hO⟩ hF
  have hO : St _ _ _ [_, _] := hO
  refine wl_nil ?_
  refine k_n ?_
  refine wp_seq ?_
  refine wp_region_lit ?_
  refine wl_v hF rfl rfl rfl (q_assign rfl (hF.eval rfl)) fun a hF => ?_
  have hO := hO.nilSl 33 5
  refine wl_nil ?_
  refine k_n ?_
  refine wp_seqJ (fun (z : List Tok × Tok × Value) a w' => match z with | (l, e, vl) => (splitF ts ⟨9, [], 0, 1, 1⟩ = (l, e) ∧ l.length ≤ ts.length) ∧ St w0 [] w' [.ob en 33 (tokE.cells e), slT vl 33 tokE l, .ob dg 25 (diagCells .ok)] ∧ Fr a 106 [(3, ptr (adr dg)), (4, ptr (adr en)), (5, vl)]) ?_ ?_
  · skip
    refine wp_seq ?_
    refine wp_region_lit ?_
    refine wl_v hF rfl rfl rfl (q_assign rfl (hF.eval rfl)) fun a hF => ?_
    refine wl_nil ?_
    refine k_n ?_
    refine wp_block ?_
    have hO := hO.pull 2 rfl
    have hO := hO.pull 1 rfl
    have hO := hO.pull 2 rfl
    have hO : St _ _ _ [_, _, _] := hO
    refine wp_loopS (fun (x : Nat × List Tok × Tok × Value) a w' => match x with | (i, l, e, vl) => (splitF ts ⟨9, [], 0, 1, 1⟩ = (l ++ (splitF (ts.drop i) e).1, (splitF (ts.drop i) e).2) ∧ i ≤ ts.length ∧ l.length = i) ∧ St w0 [] w' [.ob en 33 (tokE.cells e), slT vl 33 tokE l, .ob dg 25 (diagCells .ok)] ∧ Fr a 106 [(0, vt), (3, ptr (adr dg)), (4, ptr (adr en)), (5, vl), (6, i64 i)]) (fun (x : Nat × List Tok × Tok × Value) => match x with | (i, l, e, vl) => ts.length - i) (0, [], ⟨9, [], 0, 1, 1⟩, _) ⟨⟨rfl, by omega, rfl⟩, hO, hF.sub ⟨rfl, rfl, rfl, rfl, rfl, trivial⟩⟩ ?_
    rintro ⟨i, l, e, vl⟩ a w ⟨⟨hs, hi, hl⟩, hO, hF⟩
    refine wp_seq ?_
    refine wp_seq ?_
    refine wp_region_lit ?_
    refine wl_v hF rfl rfl rfl (q_move rfl (hF.eval rfl)) fun a hF => ?_
    refine wl_v hF rfl rfl rfl (q_move rfl (hF.eval rfl)) fun a hF => ?_
    refine wl_v hF rfl rfl rfl (q_lenRd hR Tryd.underlying22 rfl (hF.eval rfl)) fun a hF => ?_
    refine wl_v hF rfl rfl rfl (q_lt rfl (hF.eval rfl) (hF.eval rfl)) fun a hF => ?_
    refine wl_nil ?_
    refine k_n ?_
    refine wp_ifD hF rfl rfl (fun hc1 => ?_) (fun hc1 => ?_)
    · skip
      refine wp_skip ?_
      refine k_n ?_
      refine wp_seq ?_
      refine wp_block ?_
      refine wp_seq ?_
      refine wp_seq ?_
      refine wp_region_lit ?_
      refine wl_v hF rfl rfl rfl (q_move rfl (hF.eval rfl)) fun a hF => ?_
      refine wl_v hF rfl rfl rfl (q_move rfl (hF.eval rfl)) fun a hF => ?_
      obtain ⟨x, hx⟩ := get_ex (l := ts) (i := i) (by omega)
      refine wl_v hF rfl rfl rfl (q_at (i := i) hR Tryd.underlying22 Tryd.sizeOf33 rfl (hF.eval rfl) (hF.eval rfl) (by omega)) fun a hF => ?_
      refine wl_v hF rfl rfl rfl (q_fieldAddr0 (d := 0) Tryd.underlying33 rfl (hF.eval rfl) rfl Tryd.sizeOf3 (by decide) rfl) fun a hF => ?_
      refine wl_v hF rfl rfl rfl (q_load Tryd.isAgg3 rfl (hF.eval rfl) (RdT.cells (hR.now hO) hx _ _ rfl)) fun a hF => ?_
      refine wl_v hF rfl rfl rfl (q_eq rfl (hF.eval rfl) (hF.eval rfl)) fun a hF => ?_
      refine wl_nil ?_
      refine k_n ?_
      refine wp_ifD hF rfl rfl (fun hc2 => ?_) (fun hc2 => ?_)
      · skip
        refine wp_seq ?_
        refine wp_region_lit ?_
        refine wl_v hF rfl rfl rfl (q_move rfl (hF.eval rfl)) fun a hF => ?_
        refine wl_v hF rfl rfl rfl (q_move rfl (hF.eval rfl)) fun a hF => ?_
        refine wl_v hF rfl rfl rfl (q_at (i := i) hR Tryd.underlying22 Tryd.sizeOf33 rfl (hF.eval rfl) (hF.eval rfl) (by omega)) fun a hF => ?_
        refine wl_v hF rfl rfl rfl (q_loadAgg Tryd.isAgg33 Tryd.sizeOf33 rfl (hF.eval rfl) (RdT.cells (hR.now hO) hx) rfl) fun a hF => ?_
        refine wl_s hF rfl rfl (e_storeAll hO (i := 0) rfl Tryd.sizeOf33 rfl (hF.eval rfl) (hF.eval rfl) rfl rfl) ?_
        rintro a _ w ⟨-, hO⟩ hF
        have hO : St _ _ _ [_, _, _] := hO
        refine wl_nil ?_
        refine k_n ?_
        refine wp_exit ?_
        refine k_x ?_
        refine b_o rfl ?_
        refine k_x ?_
        refine k_x ?_
        refine b_x ?_
        refine k_n ?_
        have hO : St _ _ _ [_, _, _] := hO
        exact ⟨(l, x, _), ⟨⟨by rw [hs, split_end hx hc2]; simp, by omega⟩, hO, hF.sub ⟨rfl, rfl, rfl, trivial⟩⟩⟩
      · skip
        refine wp_skip ?_
        refine k_n ?_
        refine wp_seq ?_
        refine wp_region_lit ?_
        refine wl_v hF rfl rfl rfl (q_move rfl (hF.eval rfl)) fun a hF => ?_
        refine wl_v hF rfl rfl rfl (q_move rfl (hF.eval rfl)) fun a hF => ?_
        refine wl_v hF rfl rfl rfl (q_move rfl (hF.eval rfl)) fun a hF => ?_
        refine wl_v hF rfl rfl rfl (q_at (i := i) hR Tryd.underlying22 Tryd.sizeOf33 rfl (hF.eval rfl) (hF.eval rfl) (by omega)) fun a hF => ?_
        refine wl_v hF rfl rfl rfl (q_loadAgg Tryd.isAgg33 Tryd.sizeOf33 rfl (hF.eval rfl) (RdT.cells (hR.now hO) hx) rfl) fun a hF => ?_
        refine wl_e hF rfl rfl rfl (c_buildSlice hF hO Tryd.underlying22 Tryd.sizeOf33 Tryd.zeroValue33 rfl rfl rfl rfl rfl rfl rfl) ?_
        rintro a _ w ⟨b1, rfl, hO⟩ hF
        refine wl_e hF rfl rfl rfl (e_appendT (bytes := 48) (r := [x]) hO (i := 2) rfl (hO.rd 0 rfl) Tryd.underlying22 Tryd_info33 rfl rfl rfl rfl rfl rfl (hF.eval rfl) (hF.eval rfl) (by show (List.length _ + 1) * 48 ≤ _; omega) (by show List.length _ + 1 ≤ _; omega)) ?_
        rintro a v33 w hO hF
        have hO : St _ _ _ [_, _, _, _] := hO
        refine wl_v hF rfl rfl rfl (q_assign rfl (hF.eval rfl)) fun a hF => ?_
        refine wl_nil ?_
        refine k_n ?_
        have hO := hO.drew
        refine wp_region_D [0, 0, 0, 0, 1, 0, 0, 0, 0, 1, 0, 3] (fun w => St _ _ w _) Tryd_mixed (by kernel_rfl) hO ?_
        refine wd_p hF rfl rfl rfl (fun w => q_move rfl (hF.eval rfl)) fun a hF => ?_
        refine wd_p hF rfl rfl rfl (fun w => q_move rfl (hF.eval rfl)) fun a hF => ?_
        refine wd_p hF rfl rfl rfl (fun w => q_at (i := i) hR Tryd.underlying22 Tryd.sizeOf33 rfl (hF.eval rfl) (hF.eval rfl) (by omega)) fun a hF => ?_
        refine wd_p hF rfl rfl rfl (fun w => q_fieldAddr0 (d := 3) Tryd.underlying33 rfl (hF.eval rfl) rfl Tryd.sizeOf3 (by decide) rfl) fun a hF => ?_
        refine wd_r hF rfl rfl rfl (fun w hO => q_load Tryd.isAgg3 rfl (hF.eval rfl) (RdT.cells (hR.now hO) hx _ _ rfl)) fun a hF => ?_
        refine wd_p hF rfl rfl rfl (fun w => q_move rfl (hF.eval rfl)) fun a hF => ?_
        refine wd_p hF rfl rfl rfl (fun w => q_move rfl (hF.eval rfl)) fun a hF => ?_
        refine wd_p hF rfl rfl rfl (fun w => q_at (i := i) hR Tryd.underlying22 Tryd.sizeOf33 rfl (hF.eval rfl) (hF.eval rfl) (by omega)) fun a hF => ?_
        refine wd_p hF rfl rfl rfl (fun w => q_fieldAddr0 (d := 4) Tryd.underlying33 rfl (hF.eval rfl) rfl Tryd.sizeOf3 (by decide) rfl) fun a hF => ?_
        refine wd_r hF rfl rfl rfl (fun w hO => q_load Tryd.isAgg3 rfl (hF.eval rfl) (RdT.cells (hR.now hO) hx _ _ rfl)) fun a hF => ?_
        refine wd_p hF rfl rfl rfl (fun w => c_build hF Tryd.underlying33 Tryd.zeroValue33 Tryd_places33 rfl rfl rfl rfl) fun a hF => ?_
        refine wd_s hF rfl rfl (e_storeAll hO (i := 1) rfl Tryd.sizeOf33 rfl (hF.eval rfl) (hF.eval rfl) rfl rfl) ?_
        rintro a _ w ⟨-, hO⟩ hF
        have hO : St _ _ _ [_, _, _, _] := hO
        refine wd_nil ?_
        refine b_n ?_
        refine k_n ?_
        refine wp_region_lit ?_
        refine wl_v hF rfl rfl rfl (q_move rfl (hF.eval rfl)) fun a hF => ?_
        refine wl_v hF rfl rfl rfl (q_add rfl (hF.eval rfl) (hF.eval rfl) (by omega)) fun a hF => ?_
        refine wl_v hF rfl rfl rfl (q_assign rfl (hF.eval rfl)) fun a hF => ?_
        refine wl_nil ?_
        refine k_n ?_
        have hO := hO.drop1 0
        have hO : St _ _ _ [_, _, _] := hO
        exact ⟨(i + 1, l ++ [x], ⟨9, [], 0, x.line, x.col⟩, _), ⟨⟨by rw [hs, split_on hx hc2]; simp, by omega, by simp; omega⟩, hO, hF.sub ⟨rfl, rfl, rfl, rfl, rfl, trivial⟩⟩, by dsimp only; omega⟩
    · skip
      refine wp_exit ?_
      refine k_x ?_
      refine k_x ?_
      refine b_x ?_
      refine k_n ?_
      have hO : St _ _ _ [_, _, _] := hO
      exact ⟨(l, e, _), ⟨⟨by rw [hs, List.drop_of_length_le (by omega)]; simp [splitF], by omega⟩, hO, hF.sub ⟨rfl, rfl, rfl, trivial⟩⟩⟩
  · skip
    rintro ⟨l, e, vl⟩ a w ⟨⟨hs, hll⟩, hO, hF⟩
    refine wp_seq ?_
    refine wp_region_lit ?_
    refine wl_v hF rfl rfl rfl (c_buildZ Tryd.underlying68 Tryd.zeroValue68 Tryd_placesG68 rfl rfl) fun a hF => ?_
    refine wl_e hF rfl rfl rfl (e_box hO rfl (hF.eval rfl) rfl) ?_
    rintro a _ w ⟨bs, rfl, hO⟩ hF
    have hO := hO.nilSl 33 5
    have hO := hO.nilSl 79 2
    refine wl_v hF rfl rfl rfl (q_assign rfl (hF.eval rfl)) fun a hF => ?_
    refine wl_nil ?_
    refine k_n ?_
    refine wp_seq ?_
    refine wp_region_lit ?_
    refine wl_e hF rfl rfl rfl (e_alloc hO Tryd.zeroValue33 rfl rfl) ?_
    rintro a _ w ⟨ah, rfl, hO⟩ hF
    refine wl_nil ?_
    refine k_n ?_
    refine wp_seq ?_
    refine wp_seq ?_
    refine wp_region_lit ?_
    refine wl_v hF rfl rfl rfl (q_assign rfl (hF.eval rfl)) fun a hF => ?_
    refine wl_nil ?_
    refine k_n ?_
    refine wp_block ?_
    have hO := hO.pull 6 rfl
    have hO := hO.pull 6 rfl
    have hO := hO.pull 6 rfl
    have hO := hO.pull 4 rfl
    have hO := hO.pull 5 rfl
    have hO := hO.pull 6 rfl
    have hO := hO.pull 6 rfl
    have hO : St _ _ _ [_, _, _, _, _, _, _] := hO
    refine wp_loopS (fun (y : Nat × Tok × List Tok × List Thg × Diag × Value × Value) a w' => match y with | (k, ah_, out, st, dd, vo, vs) => (runF (l.drop k) ah_ (decide (k = 0)) out st = runF l tok0 true [] [] ∧ k ≤ l.length ∧ ah_ = (l.take k).getLastD tok0 ∧ out.length + st.length ≤ 6 * k) ∧ St w0 [] w' [.ob ah 33 (tokE.cells ah_), .ob bs 68 (vo :: vs :: diagCells dd), slT vo 33 tokE out, slT vs 79 thgE st, .ob en 33 (tokE.cells e), slT vl 33 tokE l, .ob dg 25 (diagCells .ok)] ∧ Fr a 106 [(3, ptr (adr dg)), (4, ptr (adr en)), (5, vl), (7, ptr (adr bs)), (8, ptr (adr ah)), (9, i64 k)]) (fun (y : Nat × Tok × List Tok × List Thg × Diag × Value × Value) => match y with | (k, ah_, out, st, dd, vo, vs) => l.length - k) (0, tok0, [], [], .ok, _, _) ⟨⟨rfl, by omega, rfl, by simp⟩, hO, hF.sub ⟨rfl, rfl, rfl, rfl, rfl, rfl, trivial⟩⟩ ?_
    rintro ⟨k, ah_, out, st, dd, vo, vs⟩ a w ⟨⟨hr, hk, hla, hps⟩, hO, hF⟩
    refine wp_seq ?_
    refine wp_seq ?_
    refine wp_region_lit ?_
    refine wl_v hF rfl rfl rfl (q_move rfl (hF.eval rfl)) fun a hF => ?_
    refine wl_v hF rfl rfl rfl (q_move rfl (hF.eval rfl)) fun a hF => ?_
    refine wl_v hF rfl rfl rfl (q_lenRd (hO.rd 5 rfl) Tryd.underlying22 rfl (hF.eval rfl)) fun a hF => ?_
    refine wl_v hF rfl rfl rfl (q_lt rfl (hF.eval rfl) (hF.eval rfl)) fun a hF => ?_
    refine wl_nil ?_
    refine k_n ?_
    refine wp_ifD hF rfl rfl (fun hc3 => ?_) (fun hc3 => ?_)
    · skip
      refine wp_skip ?_
      refine k_n ?_
      refine wp_seq ?_
      refine wp_block ?_
      refine wp_seq ?_
      refine wp_seq ?_
      have hO := hO.drew
      refine wp_region_D [0, 0, 0, 0, 1, 1, 0, 0, 0, 0, 0, 0, 0, 1, 0, 1, 0, 0, 3, 0] (fun w => St _ _ w _) Tryd_mixed (by kernel_rfl) hO ?_
      refine wd_p hF rfl rfl rfl (fun w => q_move rfl (hF.eval rfl)) fun a hF => ?_
      refine wd_p hF rfl rfl rfl (fun w => q_move rfl (hF.eval rfl)) fun a hF => ?_
      refine wd_p hF rfl rfl rfl (fun w => q_move rfl (hF.eval rfl)) fun a hF => ?_
      obtain ⟨x, hx⟩ := get_ex (l := l) (i := k) (by omega)
      refine wd_p hF rfl rfl rfl (fun w => q_at (i := k) (hO.rd 5 rfl) Tryd.underlying22 Tryd.sizeOf33 rfl (hF.eval rfl) (hF.eval rfl) (by omega)) fun a hF => ?_
      refine wd_r hF rfl rfl rfl (fun w hO => q_loadAgg Tryd.isAgg33 Tryd.sizeOf33 rfl (hF.eval rfl) (RdT.cells (hO.rdT 5 rfl) hx) rfl) fun a hF => ?_
      refine wd_r hF rfl rfl rfl (fun w hO => q_loadAgg Tryd.isAgg33 Tryd.sizeOf33 rfl (hF.eval rfl) (hO.cells 0 rfl) rfl) fun a hF => ?_
      refine wd_p hF rfl rfl rfl (fun w => q_move rfl (hF.eval rfl)) fun a hF => ?_
      refine wd_p hF rfl rfl rfl (fun w => q_eq rfl (hF.eval rfl) (hF.eval rfl)) fun a hF => ?_
      refine wd_p hF rfl rfl rfl (fun w => q_move rfl (hF.eval rfl)) fun a hF => ?_
      refine wd_gp hF rfl rfl rfl rfl rfl rfl (fun hg w => q_move rfl (hF.eval rfl)) fun a hF => ?_
      refine wd_gp hF rfl rfl rfl rfl rfl rfl (fun hg w => q_move rfl (hF.eval rfl)) fun a hF => ?_
      refine wd_gp hF rfl rfl rfl rfl rfl rfl (fun hg w => q_at (i := k) (hO.rd 5 rfl) Tryd.underlying22 Tryd.sizeOf33 rfl ((hF.eval rfl).trans (gv_of hg)) ((hF.eval rfl).trans (gv_of hg)) (by omega)) fun a hF => ?_
      refine wd_gp hF rfl rfl rfl rfl rfl rfl (fun hg w => q_fieldAddr0 (d := 3) Tryd.underlying33 rfl ((hF.eval rfl).trans (gv_of hg)) rfl Tryd.sizeOf3 (by decide) rfl) fun a hF => ?_
      refine wd_gr hF rfl rfl rfl rfl rfl rfl (fun hg w hO => q_load Tryd.isAgg3 rfl ((hF.eval rfl).trans (gv_of hg)) (RdT.cells (hO.rdT 5 rfl) hx _ _ rfl)) fun a hF => ?_
      refine wd_gp hF rfl rfl rfl rfl rfl rfl (fun hg w => q_fieldAddr0 (d := 3) Tryd.underlying33 rfl (hF.eval rfl) rfl Tryd.sizeOf3 (by decide) rfl) fun a hF => ?_
      refine wd_gr hF rfl rfl rfl rfl rfl rfl (fun hg w hO => q_load Tryd.isAgg3 rfl ((hF.eval rfl).trans (gv_of hg)) (hO.cell 0 rfl rfl)) fun a hF => ?_
      refine wd_gp hF rfl rfl rfl rfl rfl rfl (fun hg w => q_gt rfl ((hF.eval rfl).trans (gv_of hg)) ((hF.eval rfl).trans (gv_of hg))) fun a hF => ?_
      refine wd_p hF rfl rfl rfl (fun w => q_or rfl (hF.eval rfl) rfl (fun hg2 => ((hF.eval rfl).trans (gv_of hg2))) rfl) fun a hF => ?_
      have hO := hO.pull 3 rfl
      have hO := hO.pull 3 rfl
      have hO := hO.pull 3 rfl
      have hO : St _ _ _ [_, _, _, _, _, _, _] := hO
      refine wd_f hF rfl rfl rfl (c_call hF rfl rfl Tryd.call36 (token_r _ _ _ _ _ _ _ hO.own3 (by omega) _ _ _)) ?_
      rintro a _ w ⟨ok, vo, vs, out2, st2, dd2, rfl, htk, hbad, hlp, hS⟩ hF
      have hO := hO.call3 hS
      have hO : St _ _ _ [_, _, _, _, _, _, _] := hO
      refine wd_p hF rfl rfl rfl (fun w => q_not rfl (hF.eval rfl) (dec_b _)) fun a hF => ?_
      refine wd_nil ?_
      refine k_n ?_
      refine wp_ifD hF rfl rfl (fun hc4 => ?_) (fun hc4 => ?_)
      · skip
        obtain rfl : ok = false := by simpa using hc4
        obtain rfl := hbad rfl
        refine wp_seq ?_
        have hO := hO.drew
        refine wp_region_D [0, 0, 0, 1, 0, 3] (fun w => St _ _ w _) Tryd_mixed (by kernel_rfl) hO ?_
        refine wd_p hF rfl rfl rfl (fun w => q_move rfl (hF.eval rfl)) fun a hF => ?_
        refine wd_p hF rfl rfl rfl (fun w => q_nilCheck rfl (hF.eval rfl)) fun a hF => ?_
        refine wd_p hF rfl rfl rfl (fun w => q_fieldAddr0 (d := 2) Tryd.underlying68 rfl (hF.eval rfl) rfl Tryd.sizeOf25 (by decide) rfl) fun a hF => ?_
        refine wd_r hF rfl rfl rfl (fun w hO => q_loadAgg Tryd.isAgg25 Tryd.sizeOf25 rfl (hF.eval rfl) (hO.cellsK 0 rfl 2 4 rfl) rfl) fun a hF => ?_
        refine wd_p hF rfl rfl rfl (fun w => q_assign rfl (hF.eval rfl)) fun a hF => ?_
        refine wd_s hF rfl rfl (e_storeAll hO (i := 6) rfl Tryd.sizeOf25 rfl (hF.eval rfl) (hF.eval rfl) rfl rfl) ?_
        rintro a _ w ⟨-, hO⟩ hF
        have hO : St _ _ _ [_, _, _, _, _, _, _] := hO
        refine wd_nil ?_
        refine k_n ?_
        refine wp_ret ?_
        refine k_r ?_
        refine b_r ?_
        refine k_r ?_
        refine k_r ?_
        refine b_r ?_
        refine k_r ?_
        refine r_tc hF rfl rfl rfl Tryd.isAgg25 Tryd.sizeOf25 (hO.cells 6 rfl) rfl ?_
        exact ⟨_, [], _, lay_bad hs (hr.symm.trans (run_bad hx htk)), rfl, (hO.nilSl 33 5).only⟩
      · skip
        obtain rfl : ok = true := by simpa using hc4
        replace htk := htk.trans (if_pos rfl)
        refine wp_skip ?_
        refine k_n ?_
        refine wp_region_lit ?_
        refine wl_v hF rfl rfl rfl (q_move rfl (hF.eval rfl)) fun a hF => ?_
        refine wl_v hF rfl rfl rfl (q_move rfl (hF.eval rfl)) fun a hF => ?_
        refine wl_v hF rfl rfl rfl (q_at (i := k) (hO.rd 5 rfl) Tryd.underlying22 Tryd.sizeOf33 rfl (hF.eval rfl) (hF.eval rfl) (by omega)) fun a hF => ?_
        refine wl_v hF rfl rfl rfl (q_loadAgg Tryd.isAgg33 Tryd.sizeOf33 rfl (hF.eval rfl) (RdT.cells (hO.rdT 5 rfl) hx) rfl) fun a hF => ?_
        refine wl_s hF rfl rfl (e_storeAll hO (i := 3) rfl Tryd.sizeOf33 rfl (hF.eval rfl) (hF.eval rfl) rfl rfl) ?_
        rintro a _ w ⟨-, hO⟩ hF
        have hO : St _ _ _ [_, _, _, _, _, _, _] := hO
        refine wl_nil ?_
        refine b_n ?_
        refine k_n ?_
        refine wp_region_lit ?_
        refine wl_v hF rfl rfl rfl (q_move rfl (hF.eval rfl)) fun a hF => ?_
        refine wl_v hF rfl rfl rfl (q_add rfl (hF.eval rfl) (hF.eval rfl) (by omega)) fun a hF => ?_
        refine wl_v hF rfl rfl rfl (q_assign rfl (hF.eval rfl)) fun a hF => ?_
        refine wl_nil ?_
        refine k_n ?_
        have hO := hO.pull 6 rfl
        have hO := hO.pull 6 rfl
        have hO := hO.pull 6 rfl
        have hO := hO.pull 5 rfl
        have hO := hO.pull 5 rfl
        have hO := hO.pull 5 rfl
        have hO := hO.pull 6 rfl
        have hO : St _ _ _ [_, _, _, _, _, _, _] := hO
        exact ⟨(k + 1, x, out2, st2, dd2, _, _), ⟨⟨(run_on hx htk).symm.trans hr, by omega, last_on hx, by omega⟩, hO, hF.sub ⟨rfl, rfl, rfl, rfl, rfl, rfl, trivial⟩⟩, by dsimp only; omega⟩
    · skip
      obtain rfl : k = l.length := by omega
      rw [List.take_length] at hla
      rw [List.drop_length] at hr
      replace hr : runF l tok0 true [] [] = .inl (some (out, st)) := hr.symm
      refine wp_exit ?_
      refine k_x ?_
      refine k_x ?_
      refine b_x ?_
      refine k_n ?_
      refine wp_seqJ (fun (z : List Tok × Value) a w' => match z with | (o2, vo) => (o2 = (if openP (wordF ah_) then out ++ [laidT [123] e] ++ [laidT [125] e] else out) ∧ o2.length ≤ out.length + 2) ∧ St w0 [] w' [.ob bs 68 (vo :: vs :: diagCells dd), slT vo 33 tokE o2, slT vs 79 thgE st, .ob en 33 (tokE.cells e), slT vl 33 tokE l, .ob dg 25 (diagCells .ok)] ∧ Fr a 106 [(3, ptr (adr dg)), (4, ptr (adr en)), (7, ptr (adr bs))]) ?_ ?_
      · skip
        refine wp_seq ?_
        refine wp_region_lit ?_
        refine wl_v hF rfl rfl rfl (q_loadAgg Tryd.isAgg33 Tryd.sizeOf33 rfl (hF.eval rfl) (hO.cells 0 rfl) rfl) fun a hF => ?_
        refine wl_e hF rfl rfl rfl (c_call hF rfl rfl Tryd.call38 (word_r _ _)) ?_
        rintro a _ w ⟨rfl, hS⟩ hF
        have hO := hO.call0 hS
        have hO : St _ _ _ [_, _, _, _, _, _, _] := hO
        refine wl_e hF rfl rfl rfl (c_call hF rfl rfl Tryd.call37 (opener_r _ _)) ?_
        rintro a _ w ⟨rfl, hS⟩ hF
        have hO := hO.call0 hS
        have hO : St _ _ _ [_, _, _, _, _, _, _] := hO
        refine wl_nil ?_
        refine k_n ?_
        refine wp_ifD hF rfl rfl (fun hc5 => ?_) (fun hc5 => ?_)
        · skip
          refine wp_seq ?_
          refine wp_region_lit ?_
          refine wl_v hF rfl rfl rfl (q_move rfl (hF.eval rfl)) fun a hF => ?_
          refine wl_v hF rfl rfl rfl (q_loadAgg Tryd.isAgg33 Tryd.sizeOf33 rfl (hF.eval rfl) (hO.cells 4 rfl) rfl) fun a hF => ?_
          have hO := hO.pull 2 rfl
          have hO := hO.pull 2 rfl
          have hO : St _ _ _ [_, _, _, _, _, _, _] := hO
          refine wl_e hF rfl rfl rfl (c_call hF rfl rfl Tryd.call39 (lay_r _ _ _ _ _ _ hO.own2 _ _ (by omega))) ?_
          rintro a _ w ⟨vo, rfl, hS⟩ hF
          have hO := hO.call2 hS
          have hO : St _ _ _ [_, _, _, _, _, _, _] := hO
          refine wl_nil ?_
          refine k_n ?_
          refine wp_region_lit ?_
          refine wl_v hF rfl rfl rfl (q_move rfl (hF.eval rfl)) fun a hF => ?_
          refine wl_v hF rfl rfl rfl (q_loadAgg Tryd.isAgg33 Tryd.sizeOf33 rfl (hF.eval rfl) (hO.cells 4 rfl) rfl) fun a hF => ?_
          have hO := hO.pull 1 rfl
          have hO := hO.pull 1 rfl
          have hO : St _ _ _ [_, _, _, _, _, _, _] := hO
          refine wl_e hF rfl rfl rfl (c_call hF rfl rfl Tryd.call39 (lay_r _ _ _ _ _ _ hO.own2 _ _ (by simp; omega))) ?_
          rintro a _ w ⟨vo, rfl, hS⟩ hF
          have hO := hO.call2 hS
          have hO : St _ _ _ [_, _, _, _, _, _, _] := hO
          refine wl_nil ?_
          refine k_n ?_
          have hO := hO.drop1 2
          have hO : St _ _ _ [_, _, _, _, _, _] := hO
          exact ⟨(_, _), ⟨⟨(if_pos hc5).symm, by simp⟩, hO, hF.sub ⟨rfl, rfl, rfl, trivial⟩⟩⟩
        · skip
          refine wp_skip ?_
          refine k_n ?_
          have hO := hO.drop1 0
          have hO : St _ _ _ [_, _, _, _, _, _] := hO
          exact ⟨(_, _), ⟨⟨(if_neg hc5).symm, by omega⟩, hO, hF.sub ⟨rfl, rfl, rfl, trivial⟩⟩⟩
      · skip
        rintro ⟨o2, vo⟩ a w ⟨⟨ho2, hol⟩, hO, hF⟩
        refine wp_seq ?_
        refine wp_seq ?_
        refine wp_region_lit ?_
        refine wl_v hF rfl rfl rfl (q_move rfl (hF.eval rfl)) fun a hF => ?_
        refine wl_v hF rfl rfl rfl (q_loadAgg Tryd.isAgg33 Tryd.sizeOf33 rfl (hF.eval rfl) (hO.cells 3 rfl) rfl) fun a hF => ?_
        have hO := hO.pull 2 rfl
        have hO := hO.pull 2 rfl
        have hO := hO.pull 2 rfl
        have hO : St _ _ _ [_, _, _, _, _, _] := hO
        refine wl_e hF rfl rfl rfl (c_call hF rfl rfl Tryd.call40 (line_r _ _ _ _ _ _ _ hO.own3 (by omega) _ _)) ?_
        rintro a _ w ⟨ok, vo, vs, out3, st3, dd3, rfl, hln, hbad, hlp, hS⟩ hF
        have hO := hO.call3 hS
        have hO : St _ _ _ [_, _, _, _, _, _] := hO
        refine wl_v hF rfl rfl rfl (q_not rfl (hF.eval rfl) (dec_b _)) fun a hF => ?_
        refine wl_nil ?_
        refine k_n ?_
        refine wp_ifD hF rfl rfl (fun hc6 => ?_) (fun hc6 => ?_)
        · skip
          obtain rfl : ok = false := by simpa using hc6
          obtain rfl := hbad rfl
          refine wp_seq ?_
          have hO := hO.drew
          refine wp_region_D [0, 0, 0, 1, 0, 3] (fun w => St _ _ w _) Tryd_mixed (by kernel_rfl) hO ?_
          refine wd_p hF rfl rfl rfl (fun w => q_move rfl (hF.eval rfl)) fun a hF => ?_
          refine wd_p hF rfl rfl rfl (fun w => q_nilCheck rfl (hF.eval rfl)) fun a hF => ?_
          refine wd_p hF rfl rfl rfl (fun w => q_fieldAddr0 (d := 2) Tryd.underlying68 rfl (hF.eval rfl) rfl Tryd.sizeOf25 (by decide) rfl) fun a hF => ?_
          refine wd_r hF rfl rfl rfl (fun w hO => q_loadAgg Tryd.isAgg25 Tryd.sizeOf25 rfl (hF.eval rfl) (hO.cellsK 0 rfl 2 4 rfl) rfl) fun a hF => ?_
          refine wd_p hF rfl rfl rfl (fun w => q_assign rfl (hF.eval rfl)) fun a hF => ?_
          refine wd_s hF rfl rfl (e_storeAll hO (i := 5) rfl Tryd.sizeOf25 rfl (hF.eval rfl) (hF.eval rfl) rfl rfl) ?_
          rintro a _ w ⟨-, hO⟩ hF
          have hO : St _ _ _ [_, _, _, _, _, _] := hO
          refine wd_nil ?_
          refine k_n ?_
          refine wp_ret ?_
          refine k_r ?_
          refine r_tc hF rfl rfl rfl Tryd.isAgg25 Tryd.sizeOf25 (hO.cells 5 rfl) rfl ?_
          exact ⟨_, [], _, lay_no hs hr hla ho2 hln, rfl, (hO.nilSl 33 5).only⟩
        · skip
          obtain rfl : ok = true := by simpa using hc6
          replace hln := hln.trans (if_pos rfl)
          refine wp_skip ?_
          refine k_n ?_
          refine wp_seq ?_
          have hO := hO.drew
          refine wp_region_D [0, 0, 0, 1, 1, 2, 3, 0, 0, 3] (fun w => St _ _ w _) Tryd_mixed (by kernel_rfl) hO ?_
          refine wd_p hF rfl rfl rfl (fun w => q_move rfl (hF.eval rfl)) fun a hF => ?_
          refine wd_p hF rfl rfl rfl (fun w => q_nilCheck rfl (hF.eval rfl)) fun a hF => ?_
          refine wd_p hF rfl rfl rfl (fun w => q_fieldAddr0 (d := 0) Tryd.underlying68 rfl (hF.eval rfl) rfl Tryd.sizeOf22 (by decide) rfl) fun a hF => ?_
          refine wd_r hF rfl rfl rfl (fun w hO => q_load Tryd.isAgg22 rfl (hF.eval rfl) (hO.cell 0 rfl rfl)) fun a hF => ?_
          refine wd_r hF rfl rfl rfl (fun w hO => q_loadAgg Tryd.isAgg33 Tryd.sizeOf33 rfl (hF.eval rfl) (hO.cells 3 rfl) rfl) fun a hF => ?_
          refine wd_e hF rfl rfl rfl (c_buildSlice hF hO Tryd.underlying22 Tryd.sizeOf33 Tryd.zeroValue33 rfl rfl rfl rfl rfl rfl rfl) (fun _ _ ⟨_, _, hO⟩ => hO.tail) ?_
          rintro a _ w ⟨b2, rfl, hO⟩ hF
          refine wd_f hF rfl rfl rfl (e_appendT (bytes := 48) (r := [e]) hO (i := 2) rfl (hO.rd 0 rfl) Tryd.underlying22 Tryd_info33 rfl rfl rfl rfl rfl rfl (hF.eval rfl) (hF.eval rfl) (by show (List.length _ + 1) * 48 ≤ _; omega) (by show List.length _ + 1 ≤ _; omega)) ?_
          rintro a v104 w hO hF
          have hO : St _ _ _ [_, _, _, _, _, _, _] := hO
          refine wd_p hF rfl rfl rfl (fun w => c_build hF Tryd.underlying25 Tryd.zeroValue25 Tryd_places25 rfl rfl rfl rfl) fun a hF => ?_
          refine wd_p hF rfl rfl rfl (fun w => q_assign rfl (hF.eval rfl)) fun a hF => ?_
          refine wd_s hF rfl rfl (e_storeAll hO (i := 6) rfl Tryd.sizeOf25 rfl (hF.eval rfl) (hF.eval rfl) rfl rfl) ?_
          rintro a _ w ⟨-, hO⟩ hF
          have hO : St _ _ _ [_, _, _, _, _, _, _] := hO
          refine wd_nil ?_
          refine k_n ?_
          refine wp_ret ?_
          refine r_tc hF rfl rfl rfl Tryd.isAgg25 Tryd.sizeOf25 (hO.cells 6 rfl) rfl ?_
          exact ⟨_, _, _, lay_ok hs hr hla ho2 hln, rfl, (hO.pull 2 rfl).only⟩

end Go.Proofs.YtnnagjbkpmkelaaDoor
