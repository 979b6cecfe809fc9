import Derived.Test.YtanpeofnlihhoaaDoorGf
import Derived.Test.YtanpeofnlihhoaaDoorXa
namespace Go.Proofs.YtanpeofnlihhoaaDoor
open Go
set_option maxRecDepth 100000
set_option linter.unusedVariables false

def RunsAs (P : Program) (f : Nat) (p : UInt8 → Bool) : Prop := ∀ (w : World) (c : UInt8), Ret P f #[.int .u8 (c.toNat : Int)] w (fun v w' => v = .bool (p c) ∧ St w [] w' [])
def scC (s : List UInt8) (at_ : Nat) (vo : Value) : List Value := [str (s.drop at_), i64 (posF s at_).1, i64 (posF s at_).2, vo]
theorem sc_at {s : List UInt8} {at_ k : Nat} : ((s.drop at_).getD k 0).toNat = (gt s (at_ + k)).toNat := by rw [drop_getD]; rfl
theorem sc_yes {s : List UInt8} {k at_ : Nat} (vo : Value) (h : (((s.drop at_).getD k 0).toNat : Int) = 10) : [i64 (posF s (at_ + (k + 1))).1, i64 (posF s (at_ + (k + 1))).2, vo] = [i64 ((posF s (at_ + k)).1 + 1), i64 1, vo] := by
  rw [sc_at] at h
  have h' : gt s (at_ + k) = 10 := UInt8.toNat_inj.1 (by have : (gt s (at_ + k)).toNat = 10 := by omega
                                                         exact this)
  simp [← Nat.add_assoc, posF, h']
theorem sc_no {s : List UInt8} {k at_ : Nat} (vo : Value) (h : ¬ (((s.drop at_).getD k 0).toNat : Int) = 10) : [i64 (posF s (at_ + (k + 1))).1, i64 (posF s (at_ + (k + 1))).2, vo] = [i64 (posF s (at_ + k)).1, i64 ((posF s (at_ + k)).2 + 1), vo] := by
  rw [sc_at] at h
  have h' : ¬ gt s (at_ + k) = 10 := fun e => h (by rw [e]; rfl)
  simp [← Nat.add_assoc, posF, h']
set_option maxHeartbeats 1000000 in
theorem pass_r (w0 : World) (bs : Nat) (s : List UInt8) (at_ : Nat) (vo : Value) (hs : s.length ≤ 16384) (hA : Owns w0 [.ob bs 39 (scC s (at_) vo)]) (n : Nat) (hn : at_ + n ≤ s.length) : Ret Tryd.prog 27 #[ptr (adr bs), i64 n] w0 (fun v w' => v = .tuple #[] ∧ St w0 [bs] w' [.ob bs 39 (scC s (at_ + n) vo)]) := by
  have hO := St.init hA
  have hb := posF_le s at_
  refine ret_of (m := 44) Tryd.func27 rfl Tryd.ntmps27 [(0, ptr (adr bs)), (1, i64 n)] rfl ⟨rfl, rfl, trivial⟩ fun a hF => ?_
  refine wp_seq ?_
  refine wp_seq ?_
  refine wp_region_lit ?_
  refine wl_v hF rfl rfl rfl (q_move rfl (hF.eval rfl)) fun a hF => ?_
  refine wl_v hF rfl rfl rfl (q_move rfl (hF.eval rfl)) fun a hF => ?_
  refine wl_nil ?_
  refine k_n ?_
  refine wp_block ?_
  have hO : St _ _ _ [_] := hO
  refine wp_loopS (fun (k : Nat) a w' => (k ≤ n) ∧ St w0 [bs] w' [.ob bs 39 [str (s.drop at_), i64 (posF s (at_ + k)).1, i64 (posF s (at_ + k)).2, vo]] ∧ Fr a 44 [(0, ptr (adr bs)), (1, i64 n), (5, i64 n), (6, i64 k)]) (fun (k : Nat) => n - k) 0 ⟨by omega, hO, hF.sub ⟨rfl, rfl, rfl, rfl, trivial⟩⟩ ?_
  rintro k a w ⟨hk, hO, hF⟩
  have hb := posF_le s (at_ + k)
  refine wp_seq ?_
  refine wp_region_lit ?_
  refine wl_v hF rfl rfl rfl (q_lt rfl (hF.eval rfl) (hF.eval rfl)) fun a hF => ?_
  refine wl_nil ?_
  refine k_n ?_
  refine wp_seq ?_
  refine wp_ifD hF rfl rfl (fun hc1 => ?_) (fun hc1 => ?_)
  · skip
    refine wp_skip ?_
    refine k_n ?_
    refine wp_seq ?_
    refine wp_block ?_
    refine wp_seq ?_
    refine wp_region_lit ?_
    refine wl_v hF rfl rfl rfl (q_move rfl (hF.eval rfl)) fun a hF => ?_
    refine wl_v hF rfl rfl rfl (q_assign rfl (hF.eval rfl)) fun a hF => ?_
    refine wl_nil ?_
    refine k_n ?_
    refine wp_seq ?_
    refine wp_region_lit ?_
    refine wl_v hF rfl rfl rfl (q_move rfl (hF.eval rfl)) fun a hF => ?_
    refine wl_v hF rfl rfl rfl (q_nilCheck rfl (hF.eval rfl)) fun a hF => ?_
    refine wl_v hF rfl rfl rfl (q_fieldAddr0 (d := 2) Tryd.underlying39 rfl (hF.eval rfl) rfl Tryd.sizeOf3 (by decide) rfl) fun a hF => ?_
    refine wl_v hF rfl rfl rfl (q_load Tryd.isAgg3 rfl (hF.eval rfl) (hO.cell 0 rfl rfl)) fun a hF => ?_
    refine wl_v hF rfl rfl rfl (q_add rfl (hF.eval rfl) (hF.eval rfl) (by omega)) fun a hF => ?_
    refine wl_v hF rfl rfl rfl (q_nilCheck rfl (hF.eval rfl)) fun a hF => ?_
    refine wl_v hF rfl rfl rfl (q_fieldAddr0 (d := 2) Tryd.underlying39 rfl (hF.eval rfl) rfl Tryd.sizeOf3 (by decide) rfl) fun a hF => ?_
    refine wl_s hF rfl rfl (e_store1 hO (i := 0) rfl Tryd.sizeOf3 rfl (hF.eval rfl) (hF.eval rfl) rfl rfl rfl) ?_
    rintro a _ w ⟨-, hO⟩ hF
    have hO : St _ _ _ [_] := hO
    refine wl_nil ?_
    refine k_n ?_
    refine wp_seq ?_
    refine wp_region_lit ?_
    refine wl_v hF rfl rfl rfl (q_move rfl (hF.eval rfl)) fun a hF => ?_
    refine wl_v hF rfl rfl rfl (q_nilCheck rfl (hF.eval rfl)) fun a hF => ?_
    refine wl_v hF rfl rfl rfl (q_fieldAddr0 (d := 0) Tryd.underlying39 rfl (hF.eval rfl) rfl Tryd.sizeOf9 (by decide) rfl) fun a hF => ?_
    refine wl_v hF rfl rfl rfl (q_load Tryd.isAgg9 rfl (hF.eval rfl) (hO.cell 0 rfl rfl)) fun a hF => ?_
    refine wl_v hF rfl rfl rfl (q_move rfl (hF.eval rfl)) fun a hF => ?_
    refine wl_v hF rfl rfl rfl (q_indexD (m := k) Tryd.underlying9 rfl (hF.eval rfl) (hF.eval rfl) (by rw [drop_len]; omega)) fun a hF => ?_
    refine wl_v hF rfl rfl rfl (q_eq rfl (hF.eval rfl) (hF.eval rfl)) fun a hF => ?_
    refine wl_nil ?_
    refine k_n ?_
    refine wp_ifD hF rfl rfl (fun hc2 => ?_) (fun hc2 => ?_)
    · skip
      refine wp_region_lit ?_
      refine wl_v hF rfl rfl rfl (q_move rfl (hF.eval rfl)) fun a hF => ?_
      refine wl_v hF rfl rfl rfl (q_move rfl (hF.eval rfl)) fun a hF => ?_
      refine wl_v hF rfl rfl rfl (q_move rfl (hF.eval rfl)) fun a hF => ?_
      refine wl_v hF rfl rfl rfl (q_nilCheck rfl (hF.eval rfl)) fun a hF => ?_
      refine wl_v hF rfl rfl rfl (q_fieldAddr0 (d := 1) Tryd.underlying39 rfl (hF.eval rfl) rfl Tryd.sizeOf3 (by decide) rfl) fun a hF => ?_
      refine wl_v hF rfl rfl rfl (q_load Tryd.isAgg3 rfl (hF.eval rfl) (hO.cell 0 rfl rfl)) fun a hF => ?_
      refine wl_v hF rfl rfl rfl (q_add rfl (hF.eval rfl) (hF.eval rfl) (by omega)) fun a hF => ?_
      refine wl_v hF rfl rfl rfl (q_nilCheck rfl (hF.eval rfl)) fun a hF => ?_
      refine wl_v hF rfl rfl rfl (q_fieldAddr0 (d := 1) Tryd.underlying39 rfl (hF.eval rfl) rfl Tryd.sizeOf3 (by decide) rfl) fun a hF => ?_
      refine wl_s hF rfl rfl (e_store1 hO (i := 0) rfl Tryd.sizeOf3 rfl (hF.eval rfl) (hF.eval rfl) rfl rfl rfl) ?_
      rintro a _ w ⟨-, hO⟩ hF
      have hO : St _ _ _ [_] := hO
      refine wl_v hF rfl rfl rfl (q_nilCheck rfl (hF.eval rfl)) fun a hF => ?_
      refine wl_v hF rfl rfl rfl (q_fieldAddr0 (d := 2) Tryd.underlying39 rfl (hF.eval rfl) rfl Tryd.sizeOf3 (by decide) rfl) fun a hF => ?_
      refine wl_s hF rfl rfl (e_store1 hO (i := 0) rfl Tryd.sizeOf3 rfl (hF.eval rfl) (hF.eval rfl) rfl rfl rfl) ?_
      rintro a _ w ⟨-, hO⟩ hF
      have hO : St _ _ _ [_] := hO
      refine wl_nil ?_
      refine b_n ?_
      refine k_n ?_
      refine wp_region_lit ?_
      refine wl_v hF rfl rfl rfl (q_add rfl (hF.eval rfl) (hF.eval rfl) (by omega)) fun a hF => ?_
      refine wl_v hF rfl rfl rfl (q_move rfl (hF.eval rfl)) fun a hF => ?_
      refine wl_nil ?_
      refine k_n ?_
      have hO : St _ _ _ [_] := hO
      have hO := hO.eq (congrArg (fun x => [Ent.ob bs 39 (str (s.drop at_) :: x)]) (sc_yes vo hc2).symm)
      exact ⟨k + 1, ⟨by omega, hO, hF.sub ⟨rfl, rfl, rfl, rfl, trivial⟩⟩, by omega⟩
    · skip
      refine wp_skip ?_
      refine b_n ?_
      refine k_n ?_
      refine wp_region_lit ?_
      refine wl_v hF rfl rfl rfl (q_add rfl (hF.eval rfl) (hF.eval rfl) (by omega)) fun a hF => ?_
      refine wl_v hF rfl rfl rfl (q_move rfl (hF.eval rfl)) fun a hF => ?_
      refine wl_nil ?_
      refine k_n ?_
      have hO : St _ _ _ [_] := hO
      have hO := hO.eq (congrArg (fun x => [Ent.ob bs 39 (str (s.drop at_) :: x)]) (sc_no vo hc2).symm)
      exact ⟨k + 1, ⟨by omega, hO, hF.sub ⟨rfl, rfl, rfl, rfl, trivial⟩⟩, by omega⟩
  · skip
    refine wp_exit ?_
    refine k_x ?_
    refine k_x ?_
    refine b_x ?_
    refine k_n ?_
    refine wp_region_lit ?_
    refine wl_v hF rfl rfl rfl (q_move rfl (hF.eval rfl)) fun a hF => ?_
    refine wl_v hF rfl rfl rfl (q_move rfl (hF.eval rfl)) fun a hF => ?_
    refine wl_v hF rfl rfl rfl (q_nilCheck rfl (hF.eval rfl)) fun a hF => ?_
    refine wl_v hF rfl rfl rfl (q_fieldAddr0 (d := 0) Tryd.underlying39 rfl (hF.eval rfl) rfl Tryd.sizeOf9 (by decide) rfl) fun a hF => ?_
    refine wl_v hF rfl rfl rfl (q_load Tryd.isAgg9 rfl (hF.eval rfl) (hO.cell 0 rfl rfl)) fun a hF => ?_
    refine wl_v hF rfl rfl rfl (q_move rfl (hF.eval rfl)) fun a hF => ?_
    refine wl_v hF rfl rfl rfl (q_cutFrom (i := n) Tryd.underlying9 rfl (hF.eval rfl) (hF.eval rfl) (by rw [drop_len]; omega)) fun a hF => ?_
    refine wl_v hF rfl rfl rfl (q_nilCheck rfl (hF.eval rfl)) fun a hF => ?_
    refine wl_v hF rfl rfl rfl (q_fieldAddr0 (d := 0) Tryd.underlying39 rfl (hF.eval rfl) rfl Tryd.sizeOf9 (by decide) rfl) fun a hF => ?_
    refine wl_s hF rfl rfl (e_store1 hO (i := 0) rfl Tryd.sizeOf9 rfl (hF.eval rfl) (hF.eval rfl) rfl rfl rfl) ?_
    rintro a _ w ⟨-, hO⟩ hF
    have hO : St _ _ _ [_] := hO
    refine wl_nil ?_
    refine r_0n hF rfl ?_
    obtain rfl : k = n := by omega
    rw [List.drop_drop] at hO
    exact ⟨rfl, hO⟩

theorem run_r (w0 : World) (b f : Nat) (t : List UInt8) (ht : t.length ≤ 16384) (x1 x2 x3 : Value) (hB : Rd w0 [] (gl1 b) 4 1 [str t, x1, x2, x3]) (p : UInt8 → Bool) (hcf : ∀ (args : Array Value) (w : World), (callFunc f args).run Tryd.prog w = .ok (.enter f args) w) (hf : RunsAs Tryd.prog f p) : Ret Tryd.prog 33 #[ptr (adr b), .func (.func f) #[] #[]] w0 (fun v w' => v = i64 (t.takeWhile p).length ∧ St w0 [] w' []) := by
  have hO := St.init0 w0
  have htw := tw_le p t
  refine ret_of (m := 26) Tryd.func33 rfl Tryd.ntmps33 [(0, ptr (adr b)), (1, .func (.func f) #[] #[])] rfl ⟨rfl, rfl, trivial⟩ fun a hF => ?_
  refine wp_seq ?_
  refine wp_region_lit ?_
  refine wl_v hF rfl rfl rfl (q_assign rfl (hF.eval rfl)) fun a hF => ?_
  refine wl_nil ?_
  refine k_n ?_
  refine wp_seq ?_
  refine wp_region_lit ?_
  refine wl_v hF rfl rfl rfl (q_assign rfl (hF.eval rfl)) fun a hF => ?_
  refine wl_nil ?_
  refine k_n ?_
  refine wp_seq ?_
  refine wp_block ?_
  have hO : St _ _ _ [] := hO
  refine wp_loopS (fun (k : Nat) a w' => (k ≤ (t.takeWhile p).length) ∧ St w0 [] w' [] ∧ Fr a 26 [(0, ptr (adr b)), (1, .func (.func f) #[] #[]), (5, i64 k)]) (fun (k : Nat) => (t.takeWhile p).length - k) 0 ⟨by omega, hO, hF.sub ⟨rfl, rfl, rfl, trivial⟩⟩ ?_
  rintro k a w ⟨hk, hO, hF⟩
  refine wp_seq ?_
  refine wp_seq ?_
  refine wp_region_lit ?_
  refine wl_v hF rfl rfl rfl (q_move rfl (hF.eval rfl)) fun a hF => ?_
  refine wl_v hF rfl rfl rfl (q_move rfl (hF.eval rfl)) fun a hF => ?_
  refine wl_v hF rfl rfl rfl (q_nilCheck rfl (hF.eval rfl)) fun a hF => ?_
  refine wl_v hF rfl rfl rfl (q_fieldAddr0 (d := 0) Tryd.underlying39 rfl (hF.eval rfl) rfl Tryd.sizeOf9 (by decide) rfl) fun a hF => ?_
  refine wl_v hF rfl rfl rfl (q_load Tryd.isAgg9 rfl (hF.eval rfl) (rdB_cell (Rd.now hB hO) rfl)) fun a hF => ?_
  refine wl_v hF rfl rfl rfl (q_len Tryd.underlying9 rfl (hF.eval rfl)) fun a hF => ?_
  refine wl_v hF rfl rfl rfl (q_lt rfl (hF.eval rfl) (hF.eval rfl)) fun a hF => ?_
  refine wl_v hF rfl rfl rfl (q_move rfl (hF.eval rfl)) fun a hF => ?_
  refine wl_g hF rfl rfl rfl rfl rfl rfl (fun hg => q_move rfl (hF.eval rfl)) fun a hF => ?_
  refine wl_g hF rfl rfl rfl rfl rfl rfl (fun hg => q_move rfl (hF.eval rfl)) fun a hF => ?_
  refine wl_g hF rfl rfl rfl rfl rfl rfl (fun hg => q_nilCheck rfl ((hF.eval rfl).trans (gv_of hg))) fun a hF => ?_
  refine wl_g hF rfl rfl rfl rfl rfl rfl (fun hg => q_fieldAddr0 (d := 0) Tryd.underlying39 rfl ((hF.eval rfl).trans (gv_of hg)) rfl Tryd.sizeOf9 (by decide) rfl) fun a hF => ?_
  refine wl_g hF rfl rfl rfl rfl rfl rfl (fun hg => q_load Tryd.isAgg9 rfl ((hF.eval rfl).trans (gv_of hg)) (rdB_cell (Rd.now hB hO) rfl)) fun a hF => ?_
  refine wl_g hF rfl rfl rfl rfl rfl rfl (fun hg => q_move rfl (hF.eval rfl)) fun a hF => ?_
  refine wl_g hF rfl rfl rfl rfl rfl rfl (fun hg => q_indexD (m := k) Tryd.underlying9 rfl ((hF.eval rfl).trans (gv_of hg)) ((hF.eval rfl).trans (gv_of hg)) (by have := of_g hg; omega)) fun a hF => ?_
  refine wl_gk hO hF rfl rfl rfl rfl rfl rfl (fun hg => c_callVG hF rfl ((hF.eval rfl).trans (gv_of hg)) rfl (by first | (simp only [gv_of hg]; done) | (simp only [gv_of hg]; rfl)) (by rfl) hcf (hf _ (t.getD k 0))) fun a w hO hF => ?_
  refine wl_v hF rfl rfl rfl (q_and rfl (hF.eval rfl) rfl (fun hg2 => ((hF.eval rfl).trans (gv_of hg2))) (dec_b _)) fun a hF => ?_
  refine wl_nil ?_
  refine k_n ?_
  refine wp_ifD hF rfl rfl (fun hc1 => ?_) (fun hc1 => ?_)
  · skip
    refine wp_skip ?_
    refine k_n ?_
    refine wp_block ?_
    refine wp_region_lit ?_
    refine wl_v hF rfl rfl rfl (q_move rfl (hF.eval rfl)) fun a hF => ?_
    refine wl_v hF rfl rfl rfl (q_add rfl (hF.eval rfl) (hF.eval rfl) (by omega)) fun a hF => ?_
    refine wl_v hF rfl rfl rfl (q_assign rfl (hF.eval rfl)) fun a hF => ?_
    refine wl_nil ?_
    refine b_n ?_
    refine k_n ?_
    have hO : St _ _ _ [] := hO
    exact ⟨k + 1, ⟨tw_yes p t k hk (by have := hc1.1; omega) hc1.2, hO, hF.sub ⟨rfl, rfl, rfl, trivial⟩⟩, by have := tw_yes p t k hk (by have := hc1.1; omega) hc1.2; omega⟩
  · skip
    refine wp_exit ?_
    refine k_x ?_
    refine k_x ?_
    refine b_x ?_
    refine k_n ?_
    refine wp_seq ?_
    refine wp_region_lit ?_
    refine wl_v hF rfl rfl rfl (q_move rfl (hF.eval rfl)) fun a hF => ?_
    refine wl_v hF rfl rfl rfl (q_assign rfl (hF.eval rfl)) fun a hF => ?_
    refine wl_nil ?_
    refine k_n ?_
    refine wp_ret ?_
    refine r_1 hF rfl rfl ?_
    exact ⟨by rw [tw_stop hk hc1], hO⟩

set_option maxHeartbeats 1000000 in
theorem token_r (w0 : World) (bs : Nat) (s : List UInt8) (at_ : Nat) (vo : Value) (out : List Tok) (hs : s.length ≤ 16384) (hol : out.length ≤ at_) (hA : Owns w0 [.ob bs 39 (scC s (at_) vo), slT vo 32 tokE out]) (kind num : Int) (text : List UInt8) (n : Nat) (hn : at_ + n ≤ s.length) : Ret Tryd.prog 14 #[ptr (adr bs), i64 kind, str text, i64 num, i64 n] w0 (fun v w' => ∃ vo2, v = i64 0 ∧ St w0 (blks [.ob bs 39 (scC s (at_) vo), slT vo 32 tokE out]) w' [.ob bs 39 (scC s (at_ + n) vo2), slT vo2 32 tokE (out ++ [⟨kind, text, num, (posF s at_).1, (posF s at_).2⟩])]) := by
  have hO := St.init hA
  have hb := posF_le s at_
  refine ret_of (m := 35) Tryd.func14 rfl Tryd.ntmps14 [(0, ptr (adr bs)), (1, i64 kind), (2, str text), (3, i64 num), (4, i64 n)] rfl ⟨rfl, rfl, rfl, rfl, rfl, trivial⟩ fun a hF => ?_
  refine wp_seq ?_
  refine wp_region_lit ?_
  refine wl_v hF rfl rfl rfl (q_assign rfl (hF.eval rfl)) fun a hF => ?_
  refine wl_nil ?_
  refine k_n ?_
  refine wp_seq ?_
  have hO := hO.drew
  refine wp_region_D [0, 0, 0, 0, 1, 0, 0, 0, 0, 0, 0, 1, 0, 0, 0, 1, 0, 2, 3, 0, 0, 3] (fun w => St _ _ w _) Tryd_mixed (by kernel_rfl) hO ?_
  refine wd_p hF rfl rfl rfl (fun w => q_move rfl (hF.eval rfl)) fun a hF => ?_
  refine wd_p hF rfl rfl rfl (fun w => q_move rfl (hF.eval rfl)) fun a hF => ?_
  refine wd_p hF rfl rfl rfl (fun w => q_nilCheck rfl (hF.eval rfl)) fun a hF => ?_
  refine wd_p hF rfl rfl rfl (fun w => q_fieldAddr0 (d := 3) Tryd.underlying39 rfl (hF.eval rfl) rfl Tryd.sizeOf22 (by decide) rfl) fun a hF => ?_
  refine wd_r hF rfl rfl rfl (fun w hO => q_load Tryd.isAgg22 rfl (hF.eval rfl) (hO.cell 0 rfl rfl)) fun a hF => ?_
  refine wd_p hF rfl rfl rfl (fun w => q_move rfl (hF.eval rfl)) fun a hF => ?_
  refine wd_p hF rfl rfl rfl (fun w => q_move rfl (hF.eval rfl)) fun a hF => ?_
  refine wd_p hF rfl rfl rfl (fun w => q_move rfl (hF.eval rfl)) fun a hF => ?_
  refine wd_p hF rfl rfl rfl (fun w => q_move rfl (hF.eval rfl)) fun a hF => ?_
  refine wd_p hF rfl rfl rfl (fun w => q_nilCheck rfl (hF.eval rfl)) fun a hF => ?_
  refine wd_p hF rfl rfl rfl (fun w => q_fieldAddr0 (d := 1) Tryd.underlying39 rfl (hF.eval rfl) rfl Tryd.sizeOf3 (by decide) rfl) fun a hF => ?_
  refine wd_r hF rfl rfl rfl (fun w hO => q_load Tryd.isAgg3 rfl (hF.eval rfl) (hO.cell 0 rfl rfl)) fun a hF => ?_
  refine wd_p hF rfl rfl rfl (fun w => q_move rfl (hF.eval rfl)) fun a hF => ?_
  refine wd_p hF rfl rfl rfl (fun w => q_nilCheck rfl (hF.eval rfl)) fun a hF => ?_
  refine wd_p hF rfl rfl rfl (fun w => q_fieldAddr0 (d := 2) Tryd.underlying39 rfl (hF.eval rfl) rfl Tryd.sizeOf3 (by decide) rfl) fun a hF => ?_
  refine wd_r hF rfl rfl rfl (fun w hO => q_load Tryd.isAgg3 rfl (hF.eval rfl) (hO.cell 0 rfl rfl)) fun a hF => ?_
  refine wd_p hF rfl rfl rfl (fun w => c_build hF Tryd.underlying32 Tryd.zeroValue32 Tryd_places32 rfl rfl rfl rfl) fun a hF => ?_
  refine wd_e hF rfl rfl rfl (c_buildSlice hF hO Tryd.underlying22 Tryd.sizeOf32 Tryd.zeroValue32 rfl rfl rfl rfl rfl rfl rfl) (fun _ _ ⟨_, _, hO⟩ => hO.tail) ?_
  rintro a _ w ⟨b1, rfl, hO⟩ hF
  refine wd_f hF rfl rfl rfl (e_appendT (bytes := 48) (r := [⟨kind, text, num, (posF s at_).1, (posF s at_).2⟩]) hO (i := 2) rfl (hO.rd 0 rfl) Tryd.underlying22 Tryd_info32 rfl rfl rfl rfl rfl rfl (hF.eval rfl) (hF.eval rfl) (by show (List.length _ + 1) * 48 ≤ _; omega) (by show List.length _ + 1 ≤ _; omega)) ?_
  rintro a vo2 w hO hF
  have hO : St _ _ _ [_, _, _] := hO
  refine wd_p hF rfl rfl rfl (fun w => q_nilCheck rfl (hF.eval rfl)) fun a hF => ?_
  refine wd_p hF rfl rfl rfl (fun w => q_fieldAddr0 (d := 3) Tryd.underlying39 rfl (hF.eval rfl) rfl Tryd.sizeOf22 (by decide) rfl) fun a hF => ?_
  refine wd_s hF rfl rfl (e_store1 hO (i := 1) rfl Tryd.sizeOf22 rfl (hF.eval rfl) (hF.eval rfl) (cells_one (hO.slOne 2 rfl)) rfl (hO.slOne 2 rfl)) ?_
  rintro a _ w ⟨-, hO⟩ hF
  have hO : St _ _ _ [_, _, _] := hO
  refine wd_nil ?_
  refine k_n ?_
  refine wp_seq ?_
  refine wp_region_lit ?_
  refine wl_v hF rfl rfl rfl (q_move rfl (hF.eval rfl)) fun a hF => ?_
  refine wl_v hF rfl rfl rfl (q_move rfl (hF.eval rfl)) fun a hF => ?_
  have hO := hO.pull 1 rfl
  have hO : St _ _ _ [_, _, _] := hO
  refine wl_e hF rfl rfl rfl (c_call hF rfl rfl Tryd.call27 (pass_r _ _ _ _ _ hs hO.own1 (_) (by omega))) ?_
  rintro a _ w ⟨-, hS⟩ hF
  have hO := hO.call1 hS
  have hO : St _ _ _ [_, _, _] := hO
  refine wl_nil ?_
  refine k_n ?_
  refine wp_seq ?_
  refine wp_region_lit ?_
  refine wl_v hF rfl rfl rfl (q_assign rfl (hF.eval rfl)) fun a hF => ?_
  refine wl_nil ?_
  refine k_n ?_
  refine wp_ret ?_
  refine r_1 hF rfl rfl ?_
  have hO := hO.drop1 1
  have hO : St _ _ _ [_, _] := hO
  exact ⟨_, rfl, hO⟩

end Go.Proofs.YtanpeofnlihhoaaDoor
