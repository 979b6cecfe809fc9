import Derived.Test.YtnnagjbkpmkelaaDoorRs
namespace Go.Proofs.YtnnagjbkpmkelaaDoor
open Go
set_option maxRecDepth 100000

def laidP (t : Tok) : List UInt8 := (if t.num = 1 ∧ t.kind = 8 then [39] else []) ++ (t.text ++ [32])
def laidF (ts : List Tok) : List UInt8 := ts.flatMap laidP
theorem laid_on {ts : List Tok} {k : Nat} {x : Tok} (hx : ts[k]? = some x) : laidF (ts.take (k + 1)) = laidF (ts.take k) ++ laidP x := by
  rw [List.take_add_one, hx]; simp [laidF]
theorem laid_le (ts : List Tok) (k : Nat) : (laidF (ts.take k)).length ≤ (laidF ts).length := by
  have e : laidF ts = laidF (ts.take k) ++ laidF (ts.drop k) := by
    have : laidF (ts.take k ++ ts.drop k) = laidF (ts.take k) ++ laidF (ts.drop k) := by simp [laidF, -List.take_append_drop]
    rwa [List.take_append_drop] at this
  rw [e, List.length_append]; omega
theorem laid_1 {ts : List Tok} {k : Nat} {x : Tok} (hx : ts[k]? = some x) (h : x.num = 1 ∧ x.kind = 8) : laidF (ts.take k) ++ [39] ++ x.text ++ [32] = laidF (ts.take (k + 1)) := by
  rw [laid_on hx, laidP, if_pos h]; simp
theorem laid_2 {ts : List Tok} {k : Nat} {x : Tok} (hx : ts[k]? = some x) (h : ¬ (x.num = 1 ∧ x.kind = 8)) : laidF (ts.take k) ++ x.text ++ [32] = laidF (ts.take (k + 1)) := by
  rw [laid_on hx, laidP, if_neg h]; simp
def awT : List UInt8 := [109, 111, 100, 117, 108, 101, 32, 77, 32, 119, 104, 101, 114, 101, 10, 102, 32, 120, 32, 61, 32, 121, 10, 32, 32, 119, 104, 101, 114, 101, 32, 121, 32, 61, 32, 40, 100, 111, 32, 120, 44, 32, 120, 41, 10, 103, 32, 61, 32, 102]
def awS : List UInt8 := [109, 111, 100, 117, 108, 101, 32, 77, 32, 119, 104, 101, 114, 101, 32, 39, 123, 32, 102, 32, 120, 32, 61, 32, 121, 32, 119, 104, 101, 114, 101, 32, 39, 123, 32, 121, 32, 61, 32, 40, 32, 100, 111, 32, 39, 123, 32, 120, 32, 39, 125, 32, 44, 32, 120, 32, 41, 32, 39, 125, 32, 39, 59, 32, 103, 32, 61, 32, 102, 32, 39, 125, 32, 32]
theorem aw_1 : (readF awT).2 = .ok := by kernel_rfl
theorem aw_2 : (layF (readF awT).1).2 = .ok := by kernel_rfl
theorem aw_3 : laidF (layF (readF awT).1).1 = awS := by kernel_rfl
theorem aw_4 : Nat.ble (readF awT).1.length 1000 = true := by kernel_rfl
theorem read_len (s : List UInt8) : (readF s).1.length ≤ 20000 := by
  have key : ∀ f at_ out, (readLoop s f at_ out).1.length ≤ out.length + f := by
    intro f
    induction f with
    | zero => intro at_ out; simp [readLoop]
    | succ f ih =>
      intro at_ out
      unfold readLoop
      split
      · split
        · exact Nat.le_trans (ih _ _) (by omega)
        · refine Nat.le_trans (ih _ _) ?_
          simp; omega
        · simp
      · simp
  unfold readF
  split
  · simp
  · have := key (s.length + 1) 0 []
    simp at this
    omega
theorem laid_r (w0 : World) (vt : Value) (ts : List Tok) (hl : (laidF ts).length ≤ 9223372036854775000) (hR : RdT w0 [] vt tokE ts) : Ret Tryd.prog 26 #[vt] w0 (fun v w' => v = str (laidF ts) ∧ St w0 [] w' []) := by
  have hO := St.init0 w0
  have hn := RdT.lenle hR
  refine ret_of (m := 36) Tryd.func26 rfl Tryd.ntmps26 [(0, vt)] rfl ⟨rfl, trivial⟩ fun a hF => ?_
  refine wp_seq ?_
  refine wp_region_lit ?_
  refine wl_v hF rfl rfl rfl (q_assign rfl (hF.eval rfl)) fun a hF => ?_
  refine wl_nil ?_
  refine k_n ?_
  refine wp_seq ?_
  refine wp_region_lit ?_
  refine wl_v hF rfl rfl rfl (q_assign rfl (hF.eval rfl)) fun a hF => ?_
  refine wl_nil ?_
  refine k_n ?_
  refine wp_seq ?_
  refine wp_seq ?_
  refine wp_region_lit ?_
  refine wl_v hF rfl rfl rfl (q_assign rfl (hF.eval rfl)) fun a hF => ?_
  refine wl_nil ?_
  refine k_n ?_
  refine wp_block ?_
  have hO : St _ _ _ [] := hO
  refine wp_loopS (fun (k : Nat) a w' => (k ≤ ts.length) ∧ St w0 [] w' [] ∧ Fr a 36 [(0, vt), (3, str (laidF (ts.take k))), (4, i64 k)]) (fun (k : Nat) => ts.length - k) 0 ⟨by omega, hO, hF.sub ⟨rfl, rfl, rfl, trivial⟩⟩ ?_
  rintro k a w ⟨hk, hO, hF⟩
  refine wp_seq ?_
  refine wp_seq ?_
  refine wp_region_lit ?_
  refine wl_v hF rfl rfl rfl (q_move rfl (hF.eval rfl)) fun a hF => ?_
  refine wl_v hF rfl rfl rfl (q_move rfl (hF.eval rfl)) fun a hF => ?_
  refine wl_v hF rfl rfl rfl (q_lenRd hR Tryd.underlying22 rfl (hF.eval rfl)) fun a hF => ?_
  refine wl_v hF rfl rfl rfl (q_lt rfl (hF.eval rfl) (hF.eval rfl)) fun a hF => ?_
  refine wl_nil ?_
  refine k_n ?_
  refine wp_ifD hF rfl rfl (fun hc1 => ?_) (fun hc1 => ?_)
  · skip
    refine wp_skip ?_
    refine k_n ?_
    refine wp_seq ?_
    refine wp_block ?_
    refine wp_seq ?_
    refine wp_seq ?_
    refine wp_region_lit ?_
    refine wl_v hF rfl rfl rfl (q_move rfl (hF.eval rfl)) fun a hF => ?_
    refine wl_v hF rfl rfl rfl (q_move rfl (hF.eval rfl)) fun a hF => ?_
    obtain ⟨x, hx⟩ := get_ex (l := ts) (i := k) (by omega)
    refine wl_v hF rfl rfl rfl (q_at (i := k) hR Tryd.underlying22 Tryd.sizeOf33 rfl (hF.eval rfl) (hF.eval rfl) (by omega)) fun a hF => ?_
    refine wl_v hF rfl rfl rfl (q_fieldAddr0 (d := 2) Tryd.underlying33 rfl (hF.eval rfl) rfl Tryd.sizeOf3 (by decide) rfl) fun a hF => ?_
    refine wl_v hF rfl rfl rfl (q_load Tryd.isAgg3 rfl (hF.eval rfl) (RdT.cells (hR.now hO) hx _ _ rfl)) fun a hF => ?_
    refine wl_v hF rfl rfl rfl (q_eq rfl (hF.eval rfl) (hF.eval rfl)) fun a hF => ?_
    refine wl_v hF rfl rfl rfl (q_move rfl (hF.eval rfl)) fun a hF => ?_
    refine wl_g hF rfl rfl rfl rfl rfl rfl (fun hg => q_move rfl (hF.eval rfl)) fun a hF => ?_
    refine wl_g hF rfl rfl rfl rfl rfl rfl (fun hg => q_move rfl (hF.eval rfl)) fun a hF => ?_
    refine wl_g hF rfl rfl rfl rfl rfl rfl (fun hg => q_at (i := k) hR Tryd.underlying22 Tryd.sizeOf33 rfl ((hF.eval rfl).trans (gv_of hg)) ((hF.eval rfl).trans (gv_of hg)) (by omega)) fun a hF => ?_
    refine wl_g hF rfl rfl rfl rfl rfl rfl (fun hg => q_fieldAddr0 (d := 0) Tryd.underlying33 rfl ((hF.eval rfl).trans (gv_of hg)) rfl Tryd.sizeOf3 (by decide) rfl) fun a hF => ?_
    refine wl_g hF rfl rfl rfl rfl rfl rfl (fun hg => q_load Tryd.isAgg3 rfl ((hF.eval rfl).trans (gv_of hg)) (RdT.cells (hR.now hO) hx _ _ rfl)) fun a hF => ?_
    refine wl_g hF rfl rfl rfl rfl rfl rfl (fun hg => q_eq rfl ((hF.eval rfl).trans (gv_of hg)) (hF.eval rfl)) fun a hF => ?_
    refine wl_v hF rfl rfl rfl (q_and rfl (hF.eval rfl) rfl (fun hg2 => ((hF.eval rfl).trans (gv_of hg2))) rfl) fun a hF => ?_
    refine wl_nil ?_
    refine k_n ?_
    refine wp_ifD hF rfl rfl (fun hc2 => ?_) (fun hc2 => ?_)
    · skip
      have hle := laid_le ts (k + 1)
      rw [← laid_1 hx hc2] at hle
      simp only [List.length_append, List.length_cons, List.length_nil] at hle
      refine wp_region_lit ?_
      refine wl_v hF rfl rfl rfl (q_move rfl (hF.eval rfl)) fun a hF => ?_
      refine wl_v hF rfl rfl rfl (q_cat rfl (hF.eval rfl) (hF.eval rfl) (by first | omega | (simp; omega))) fun a hF => ?_
      refine wl_v hF rfl rfl rfl (q_assign rfl (hF.eval rfl)) fun a hF => ?_
      refine wl_nil ?_
      refine k_n ?_
      refine wp_region_lit ?_
      refine wl_v hF rfl rfl rfl (q_move rfl (hF.eval rfl)) fun a hF => ?_
      refine wl_v hF rfl rfl rfl (q_move rfl (hF.eval rfl)) fun a hF => ?_
      refine wl_v hF rfl rfl rfl (q_move rfl (hF.eval rfl)) fun a hF => ?_
      refine wl_v hF rfl rfl rfl (q_at (i := k) hR Tryd.underlying22 Tryd.sizeOf33 rfl (hF.eval rfl) (hF.eval rfl) (by omega)) fun a hF => ?_
      refine wl_v hF rfl rfl rfl (q_fieldAddr0 (d := 1) Tryd.underlying33 rfl (hF.eval rfl) rfl Tryd.sizeOf9 (by decide) rfl) fun a hF => ?_
      refine wl_v hF rfl rfl rfl (q_load Tryd.isAgg9 rfl (hF.eval rfl) (RdT.cells (hR.now hO) hx _ _ rfl)) fun a hF => ?_
      refine wl_v hF rfl rfl rfl (q_cat rfl (hF.eval rfl) (hF.eval rfl) (by first | omega | (simp; omega))) fun a hF => ?_
      refine wl_v hF rfl rfl rfl (q_cat rfl (hF.eval rfl) (hF.eval rfl) (by first | omega | (simp; omega))) fun a hF => ?_
      refine wl_v hF rfl rfl rfl (q_assign rfl (hF.eval rfl)) fun a hF => ?_
      refine wl_nil ?_
      refine b_n ?_
      refine k_n ?_
      refine wp_region_lit ?_
      refine wl_v hF rfl rfl rfl (q_move rfl (hF.eval rfl)) fun a hF => ?_
      refine wl_v hF rfl rfl rfl (q_add rfl (hF.eval rfl) (hF.eval rfl) (by omega)) fun a hF => ?_
      refine wl_v hF rfl rfl rfl (q_assign rfl (hF.eval rfl)) fun a hF => ?_
      refine wl_nil ?_
      refine k_n ?_
      have hO : St _ _ _ [] := hO
      exact ⟨k + 1, ⟨by omega, hO, hF.sub ⟨rfl, (congrArg some (congrArg str (laid_1 hx hc2))), rfl, trivial⟩⟩, by omega⟩
    · skip
      have hle := laid_le ts (k + 1)
      rw [← laid_2 hx hc2] at hle
      simp only [List.length_append, List.length_cons, List.length_nil] at hle
      refine wp_skip ?_
      refine k_n ?_
      refine wp_region_lit ?_
      refine wl_v hF rfl rfl rfl (q_move rfl (hF.eval rfl)) fun a hF => ?_
      refine wl_v hF rfl rfl rfl (q_move rfl (hF.eval rfl)) fun a hF => ?_
      refine wl_v hF rfl rfl rfl (q_move rfl (hF.eval rfl)) fun a hF => ?_
      refine wl_v hF rfl rfl rfl (q_at (i := k) hR Tryd.underlying22 Tryd.sizeOf33 rfl (hF.eval rfl) (hF.eval rfl) (by omega)) fun a hF => ?_
      refine wl_v hF rfl rfl rfl (q_fieldAddr0 (d := 1) Tryd.underlying33 rfl (hF.eval rfl) rfl Tryd.sizeOf9 (by decide) rfl) fun a hF => ?_
      refine wl_v hF rfl rfl rfl (q_load Tryd.isAgg9 rfl (hF.eval rfl) (RdT.cells (hR.now hO) hx _ _ rfl)) fun a hF => ?_
      refine wl_v hF rfl rfl rfl (q_cat rfl (hF.eval rfl) (hF.eval rfl) (by first | omega | (simp; omega))) fun a hF => ?_
      refine wl_v hF rfl rfl rfl (q_cat rfl (hF.eval rfl) (hF.eval rfl) (by first | omega | (simp; omega))) fun a hF => ?_
      refine wl_v hF rfl rfl rfl (q_assign rfl (hF.eval rfl)) fun a hF => ?_
      refine wl_nil ?_
      refine b_n ?_
      refine k_n ?_
      refine wp_region_lit ?_
      refine wl_v hF rfl rfl rfl (q_move rfl (hF.eval rfl)) fun a hF => ?_
      refine wl_v hF rfl rfl rfl (q_add rfl (hF.eval rfl) (hF.eval rfl) (by omega)) fun a hF => ?_
      refine wl_v hF rfl rfl rfl (q_assign rfl (hF.eval rfl)) fun a hF => ?_
      refine wl_nil ?_
      refine k_n ?_
      have hO : St _ _ _ [] := hO
      exact ⟨k + 1, ⟨by omega, hO, hF.sub ⟨rfl, (congrArg some (congrArg str (laid_2 hx hc2))), rfl, trivial⟩⟩, by omega⟩
  · skip
    refine wp_exit ?_
    refine k_x ?_
    refine k_x ?_
    refine b_x ?_
    refine k_n ?_
    refine wp_seq ?_
    refine wp_region_lit ?_
    refine wl_v hF rfl rfl rfl (q_move rfl (hF.eval rfl)) fun a hF => ?_
    refine wl_v hF rfl rfl rfl (q_assign rfl (hF.eval rfl)) fun a hF => ?_
    refine wl_nil ?_
    refine k_n ?_
    refine wp_ret ?_
    refine r_1 hF rfl rfl ?_
    obtain rfl : k = ts.length := by omega
    rw [List.take_length] at hF
    refine ⟨?_, hO⟩
    rw [List.take_length]

set_option maxHeartbeats 1000000 in
theorem awake_r (w0 : World) (hG : GlB w0 []) : Ret Tryd.prog 10 #[] w0 (fun v w' => v = .bool true ∧ St w0 [] w' []) := by
  have hO := St.init0 w0
  refine ret_of (m := 22) Tryd.func10 rfl Tryd.ntmps10 [] rfl trivial fun a hF => ?_
  refine wp_seq ?_
  refine wp_region_lit ?_
  refine wl_v hF rfl rfl rfl (q_assign rfl (hF.eval rfl)) fun a hF => ?_
  refine wl_nil ?_
  refine k_n ?_
  refine wp_seq ?_
  refine wp_region_lit ?_
  refine wl_e hF rfl rfl rfl (c_call hF rfl rfl Tryd.call9 (read_r _ _ (by decide))) ?_
  rintro a _ w ⟨va, l, d, hrd, rfl, hS⟩ hF
  have hO := hO.call0 hS
  have hO : St _ _ _ [_] := hO
  obtain rfl : l = (readF awT).1 := (congrArg Prod.fst hrd).symm
  have h4 := Nat.le_of_ble_eq_true aw_4
  refine wl_v hF rfl rfl rfl (q_move rfl (hF.eval rfl)) fun a hF => ?_
  refine wl_v hF rfl rfl rfl (q_extract rfl (hF.eval rfl) rfl) fun a hF => ?_
  refine wl_v hF rfl rfl rfl (q_extract rfl (hF.eval rfl) rfl) fun a hF => ?_
  refine wl_e hF rfl rfl rfl (e_alloc hO Tryd.zeroValue25 rfl rfl) ?_
  rintro a _ w ⟨e1, rfl, hO⟩ hF
  refine wl_v hF rfl rfl rfl (q_assign rfl (hF.eval rfl)) fun a hF => ?_
  refine wl_s hF rfl rfl (e_storeAll hO (i := 0) rfl Tryd.sizeOf25 rfl (hF.eval rfl) (hF.eval rfl) rfl rfl) ?_
  rintro a _ w ⟨-, hO⟩ hF
  have hO : St _ _ _ [_, _] := hO
  refine wl_nil ?_
  refine k_n ?_
  refine wp_seq ?_
  refine wp_region_lit ?_
  refine wl_v hF rfl rfl rfl (q_move rfl (hF.eval rfl)) fun a hF => ?_
  refine wl_e hF rfl rfl rfl (c_call hF rfl rfl Tryd.call11 (play_r _ _ _ (by omega) (hO.rdT 1 rfl) (hG.at0 hO))) ?_
  rintro a _ w ⟨vb, a2, d2, hla, rfl, hS⟩ hF
  have hO := hO.call0 hS
  have hO : St _ _ _ [_, _, _] := hO
  have ha2 := congrArg Prod.fst hla
  have hd2 := congrArg Prod.snd hla
  dsimp only at ha2 hd2
  rw [aw_2] at hd2
  subst ha2 hd2
  refine wl_v hF rfl rfl rfl (q_move rfl (hF.eval rfl)) fun a hF => ?_
  refine wl_v hF rfl rfl rfl (q_extract rfl (hF.eval rfl) rfl) fun a hF => ?_
  refine wl_v hF rfl rfl rfl (q_extract rfl (hF.eval rfl) rfl) fun a hF => ?_
  refine wl_e hF rfl rfl rfl (e_alloc hO Tryd.zeroValue25 rfl rfl) ?_
  rintro a _ w ⟨e2, rfl, hO⟩ hF
  refine wl_v hF rfl rfl rfl (q_assign rfl (hF.eval rfl)) fun a hF => ?_
  refine wl_s hF rfl rfl (e_storeAll hO (i := 0) rfl Tryd.sizeOf25 rfl (hF.eval rfl) (hF.eval rfl) rfl rfl) ?_
  rintro a _ w ⟨-, hO⟩ hF
  have hO : St _ _ _ [_, _, _, _] := hO
  refine wl_nil ?_
  refine k_n ?_
  refine wp_seq ?_
  refine wp_region_lit ?_
  refine wl_v hF rfl rfl rfl (q_loadAgg Tryd.isAgg25 Tryd.sizeOf25 rfl (hF.eval rfl) (hO.cells 0 rfl) rfl) fun a hF => ?_
  refine wl_v hF rfl rfl rfl (c_build hF Tryd.underlying25 Tryd.zeroValue25 Tryd_places25 rfl rfl rfl rfl) fun a hF => ?_
  refine wl_v hF rfl rfl rfl (q_eqS Tryd.underlying25 Tryd.stoodInHeld25 Tryd.eqGuardType25 rfl (hF.eval rfl) (hF.eval rfl) (ef_str (by decide) Tryd.isAgg9 Tryd.underlying9 rfl rfl (ef_int (by decide) Tryd.isAgg3 Tryd.underlying3 rfl rfl (ef_int (by decide) Tryd.isAgg3 Tryd.underlying3 rfl rfl (ef_int (by decide) Tryd.isAgg23 Tryd.underlying23 rfl rfl ef_nil)))) (diag_eq _ .ok)) fun a hF => ?_
  refine wl_v hF rfl rfl rfl (q_move rfl (hF.eval rfl)) fun a hF => ?_
  refine wl_g hF rfl rfl rfl rfl rfl rfl (fun hg => q_move rfl (hF.eval rfl)) fun a hF => ?_
  refine wl_gk hO hF rfl rfl rfl rfl rfl rfl (fun hg => c_callG hF rfl rfl (by first | (simp only [gv_of hg]; done) | (simp only [gv_of hg]; rfl)) Tryd.call26 (laid_r _ _ _ (by rw [aw_3]; decide) (hO.rdT 1 rfl))) fun a w hO hF => ?_
  refine wl_g hF rfl rfl rfl rfl rfl rfl (fun hg => q_seq rfl ((hF.eval rfl).trans (gv_of hg)) (hF.eval rfl)) fun a hF => ?_
  refine wl_v hF rfl rfl rfl (q_and rfl (hF.eval rfl) rfl (fun hg2 => ((hF.eval rfl).trans (gv_of hg2))) rfl) fun a hF => ?_
  refine wl_v hF rfl rfl rfl (q_assign rfl (hF.eval rfl)) fun a hF => ?_
  refine wl_nil ?_
  refine k_n ?_
  refine wp_ret ?_
  refine r_1 hF rfl rfl ?_
  have hO := hO.drop1 0
  have hO := hO.drop1 0
  have hO := hO.drop1 0
  have hO := hO.drop1 0
  have hO : St _ _ _ [] := hO
  exact ⟨congrArg Value.bool (decide_eq_true ⟨rfl, aw_3⟩), hO⟩

set_option maxHeartbeats 1000000 in
theorem lays_r (w0 : World) (s : List UInt8) (hs : s.length ≤ 9223372036854775807) (hG : GlB w0 []) : Ret Tryd.prog 3 #[str s] w0 (fun v w' => v = .bool true ∧ St w0 [] w' []) := by
  have hO := St.init0 w0
  refine ret_of (m := 39) Tryd.func3 rfl Tryd.ntmps3 [(0, str s)] rfl ⟨rfl, trivial⟩ fun a hF => ?_
  refine wp_seq ?_
  refine wp_region_lit ?_
  refine wl_v hF rfl rfl rfl (q_assign rfl (hF.eval rfl)) fun a hF => ?_
  refine wl_nil ?_
  refine k_n ?_
  refine wp_seq ?_
  refine wp_region_lit ?_
  refine wl_v hF rfl rfl rfl (q_move rfl (hF.eval rfl)) fun a hF => ?_
  refine wl_e hF rfl rfl rfl (c_call hF rfl rfl Tryd.call9 (read_r _ _ (by omega))) ?_
  rintro a _ w ⟨va, l, d, hrd, rfl, hS⟩ hF
  have hO := hO.call0 hS
  have hO : St _ _ _ [_] := hO
  have hl1 := read_len s
  rw [hrd] at hl1
  dsimp only at hl1
  refine wl_v hF rfl rfl rfl (q_move rfl (hF.eval rfl)) fun a hF => ?_
  refine wl_v hF rfl rfl rfl (q_extract rfl (hF.eval rfl) rfl) fun a hF => ?_
  refine wl_v hF rfl rfl rfl (q_extract rfl (hF.eval rfl) rfl) fun a hF => ?_
  refine wl_e hF rfl rfl rfl (e_alloc hO Tryd.zeroValue25 rfl rfl) ?_
  rintro a _ w ⟨e1, rfl, hO⟩ hF
  refine wl_v hF rfl rfl rfl (q_assign rfl (hF.eval rfl)) fun a hF => ?_
  refine wl_s hF rfl rfl (e_storeAll hO (i := 0) rfl Tryd.sizeOf25 rfl (hF.eval rfl) (hF.eval rfl) rfl rfl) ?_
  rintro a _ w ⟨-, hO⟩ hF
  have hO : St _ _ _ [_, _] := hO
  refine wl_nil ?_
  refine k_n ?_
  refine wp_seq ?_
  refine wp_seq ?_
  refine wp_region_lit ?_
  refine wl_v hF rfl rfl rfl (q_fieldAddr0 (d := 3) Tryd.underlying25 rfl (hF.eval rfl) rfl Tryd.sizeOf23 (by decide) rfl) fun a hF => ?_
  refine wl_v hF rfl rfl rfl (q_load Tryd.isAgg23 rfl (hF.eval rfl) (hO.cell 0 rfl rfl)) fun a hF => ?_
  refine wl_v hF rfl rfl rfl (q_ne rfl (hF.eval rfl) (hF.eval rfl)) fun a hF => ?_
  refine wl_nil ?_
  refine k_n ?_
  refine wp_ifD hF rfl rfl (fun hc1 => ?_) (fun hc1 => ?_)
  · skip
    refine wp_seq ?_
    refine wp_region_lit ?_
    refine wl_e hF rfl rfl rfl (c_call hF rfl rfl Tryd.call10 (awake_r _ (hG.at0 hO))) ?_
    rintro a _ w ⟨rfl, hS⟩ hF
    have hO := hO.call0 hS
    have hO : St _ _ _ [_, _] := hO
    refine wl_v hF rfl rfl rfl (q_assign rfl (hF.eval rfl)) fun a hF => ?_
    refine wl_nil ?_
    refine k_n ?_
    refine wp_ret ?_
    refine k_r ?_
    refine r_1 hF rfl rfl ?_
    have hO := hO.drop1 0
    have hO := hO.drop1 0
    have hO : St _ _ _ [] := hO
    exact ⟨rfl, hO⟩
  · skip
    refine wp_skip ?_
    refine k_n ?_
    refine wp_seq ?_
    refine wp_region_lit ?_
    refine wl_v hF rfl rfl rfl (q_move rfl (hF.eval rfl)) fun a hF => ?_
    refine wl_e hF rfl rfl rfl (c_call hF rfl rfl Tryd.call11 (play_r _ _ _ (by omega) (hO.rdT 1 rfl) (hG.at0 hO))) ?_
    rintro a _ w ⟨vb, a1, d1, ha1, rfl, hS⟩ hF
    have hO := hO.call0 hS
    have hO : St _ _ _ [_, _, _] := hO
    refine wl_v hF rfl rfl rfl (q_move rfl (hF.eval rfl)) fun a hF => ?_
    refine wl_v hF rfl rfl rfl (q_extract rfl (hF.eval rfl) rfl) fun a hF => ?_
    refine wl_v hF rfl rfl rfl (q_extract rfl (hF.eval rfl) rfl) fun a hF => ?_
    refine wl_e hF rfl rfl rfl (e_alloc hO Tryd.zeroValue25 rfl rfl) ?_
    rintro a _ w ⟨e2, rfl, hO⟩ hF
    refine wl_v hF rfl rfl rfl (q_assign rfl (hF.eval rfl)) fun a hF => ?_
    refine wl_s hF rfl rfl (e_storeAll hO (i := 0) rfl Tryd.sizeOf25 rfl (hF.eval rfl) (hF.eval rfl) rfl rfl) ?_
    rintro a _ w ⟨-, hO⟩ hF
    have hO : St _ _ _ [_, _, _, _] := hO
    refine wl_nil ?_
    refine k_n ?_
    refine wp_seq ?_
    refine wp_region_lit ?_
    refine wl_v hF rfl rfl rfl (q_move rfl (hF.eval rfl)) fun a hF => ?_
    refine wl_e hF rfl rfl rfl (c_call hF rfl rfl Tryd.call12 (rlay_r _ _ _ (by omega) (hO.rdT 3 rfl))) ?_
    rintro a _ w ⟨vc, a2, d2, ha2, rfl, hS⟩ hF
    have hO := hO.call0 hS
    have hO : St _ _ _ [_, _, _, _, _] := hO
    obtain ⟨rfl, rfl⟩ : a1 = a2 ∧ d1 = d2 := Prod.mk.inj (ha1.symm.trans ha2)
    refine wl_v hF rfl rfl rfl (q_move rfl (hF.eval rfl)) fun a hF => ?_
    refine wl_v hF rfl rfl rfl (q_extract rfl (hF.eval rfl) rfl) fun a hF => ?_
    refine wl_v hF rfl rfl rfl (q_extract rfl (hF.eval rfl) rfl) fun a hF => ?_
    refine wl_e hF rfl rfl rfl (e_alloc hO Tryd.zeroValue25 rfl rfl) ?_
    rintro a _ w ⟨e3, rfl, hO⟩ hF
    refine wl_v hF rfl rfl rfl (q_assign rfl (hF.eval rfl)) fun a hF => ?_
    refine wl_s hF rfl rfl (e_storeAll hO (i := 0) rfl Tryd.sizeOf25 rfl (hF.eval rfl) (hF.eval rfl) rfl rfl) ?_
    rintro a _ w ⟨-, hO⟩ hF
    have hO : St _ _ _ [_, _, _, _, _, _] := hO
    refine wl_nil ?_
    refine k_n ?_
    refine wp_seq ?_
    refine wp_region_lit ?_
    refine wl_v hF rfl rfl rfl (q_loadAgg Tryd.isAgg25 Tryd.sizeOf25 rfl (hF.eval rfl) (hO.cells 2 rfl) rfl) fun a hF => ?_
    refine wl_v hF rfl rfl rfl (q_loadAgg Tryd.isAgg25 Tryd.sizeOf25 rfl (hF.eval rfl) (hO.cells 0 rfl) rfl) fun a hF => ?_
    refine wl_v hF rfl rfl rfl (q_eqS Tryd.underlying25 Tryd.stoodInHeld25 Tryd.eqGuardType25 rfl (hF.eval rfl) (hF.eval rfl) (ef_str (by decide) Tryd.isAgg9 Tryd.underlying9 rfl rfl (ef_int (by decide) Tryd.isAgg3 Tryd.underlying3 rfl rfl (ef_int (by decide) Tryd.isAgg3 Tryd.underlying3 rfl rfl (ef_int (by decide) Tryd.isAgg23 Tryd.underlying23 rfl rfl ef_nil)))) (diag_eq _ _)) fun a hF => ?_
    refine wl_v hF rfl rfl rfl (q_move rfl (hF.eval rfl)) fun a hF => ?_
    refine wl_g hF rfl rfl rfl rfl rfl rfl (fun hg => q_move rfl (hF.eval rfl)) fun a hF => ?_
    refine wl_g hF rfl rfl rfl rfl rfl rfl (fun hg => q_move rfl (hF.eval rfl)) fun a hF => ?_
    refine wl_gk hO hF rfl rfl rfl rfl rfl rfl (fun hg => c_callG hF rfl rfl (by first | (simp only [gv_of hg]; done) | (simp only [gv_of hg]; rfl)) Tryd.call13 (same_r _ _ _ _ _ (RdT.lenle (hO.rdT 3 rfl)) (RdT.lenle (hO.rdT 1 rfl)) (hO.rdT 3 rfl) (hO.rdT 1 rfl))) fun a w hO hF => ?_
    refine wl_v hF rfl rfl rfl (q_and rfl (hF.eval rfl) rfl (fun hg2 => ((hF.eval rfl).trans (gv_of hg2))) rfl) fun a hF => ?_
    refine wl_v hF rfl rfl rfl (q_move rfl (hF.eval rfl)) fun a hF => ?_
    refine wl_gk hO hF rfl rfl rfl rfl rfl rfl (fun hg => c_callG hF rfl rfl (by first | (simp only [gv_of hg]; done) | (simp only [gv_of hg]; rfl)) Tryd.call10 (awake_r _ (hG.at0 hO))) fun a w hO hF => ?_
    refine wl_v hF rfl rfl rfl (q_and rfl (hF.eval rfl) rfl (fun hg2 => ((hF.eval rfl).trans (gv_of hg2))) (dec_b _)) fun a hF => ?_
    refine wl_v hF rfl rfl rfl (q_assign rfl (hF.eval rfl)) fun a hF => ?_
    refine wl_nil ?_
    refine k_n ?_
    refine wp_ret ?_
    refine r_1 hF rfl rfl ?_
    have hO := hO.drop1 0
    have hO := hO.drop1 0
    have hO := hO.drop1 0
    have hO := hO.drop1 0
    have hO := hO.drop1 0
    have hO := hO.drop1 0
    have hO : St _ _ _ [] := hO
    exact ⟨congrArg Value.bool (by simp), hO⟩

end Go.Proofs.YtnnagjbkpmkelaaDoor
