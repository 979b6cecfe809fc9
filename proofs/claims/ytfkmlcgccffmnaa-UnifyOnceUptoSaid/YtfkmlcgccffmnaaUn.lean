import Derived.Test.YtfkmlcgccffmnaaUg
import Derived.Test.YtfkmlcgccffmnaaPu10
namespace Go.Proofs.Ytfkmlcgccffmnaa
open Go
set_option maxRecDepth 100000
set_option linter.unusedVariables false

theorem onI_pos {o : Option Nat} (h : 0 < onI o) : ∃ e, o = some e := by
  cases o with
  | none => exact absurd h (by decide)
  | some e => exact ⟨e, rfl⟩
theorem onI_not {T : List Tm} {ρ d : Nat → Nat} (hW : WfS (stoL T) ρ d) {c : Nat} (hc : c ∈ (stoL T).ids) (h : ¬ 0 < onI ((stoL T).tm c).same) : ((stoL T).tm c).same = none := by
  cases hs : ((stoL T).tm c).same with
  | none => rfl
  | some e =>
    have := (mem_sto.1 (hW.link c hc e hs).1).1
    rw [hs] at h
    have h : ¬ 0 < (e : Int) := h
    omega
theorem pred_eq {k : Nat} (h : 1 ≤ k) : (k : Int) - 1 = ((k - 1 : Nat) : Int) := by omega
theorem find_r (w0 : World) (sb : Nat) (vT : Value) (T : List Tm) (hs : Rd w0 [] (gl1 sb) 1 1 [vT]) (hT : RdT w0 [] vT thE T) (ρ d : Nat → Nat) (hW : WfS (stoL T) ρ d) (hlen : T.length ≤ 1099511627776) (k : Nat) (hk : k ∈ (stoL T).ids) : Ret Try.prog 62 #[ptr (adr sb), i64 k] w0 (fun v w' => v = i64 (ρ k) ∧ St w0 [] w' []) := by
  have hO := St.init0 w0
  refine ret_of (m := 25) Try.func62 rfl Try.ntmps62 [(0, ptr (adr sb)), (1, i64 k)] rfl ⟨rfl, rfl, trivial⟩ fun a hF => ?_
  refine wp_seq ?_
  refine wp_region_lit ?_
  refine wl_v hF rfl rfl rfl (q_assign rfl (hF.eval rfl)) fun a hF => ?_
  refine wl_nil ?_
  refine k_n ?_
  refine wp_seq ?_
  refine wp_block ?_
  have hO : St _ _ _ [] := hO
  refine wp_loopS (fun (c : Nat) a w' => (c ∈ (stoL T).ids ∧ ρ c = ρ k) ∧ St w0 [] w' [] ∧ Fr a 25 [(0, ptr (adr sb)), (1, i64 c)]) (fun (c : Nat) => d c) k ⟨⟨hk, rfl⟩, hO, hF.sub ⟨rfl, rfl, trivial⟩⟩ ?_
  rintro c a w ⟨⟨hc, hck⟩, hO, hF⟩
  have hcm := mem_sto.1 hc
  refine wp_seq ?_
  refine wp_seq ?_
  refine wp_region_lit ?_
  refine wl_v hF rfl rfl rfl (q_move rfl (hF.eval rfl)) fun a hF => ?_
  refine wl_v hF rfl rfl rfl (q_nilCheck rfl (hF.eval rfl)) fun a hF => ?_
  refine wl_v hF rfl rfl rfl (q_fieldAddr0 (d := 0) Try.underlying69 rfl (hF.eval rfl) rfl Try.sizeOf67 (by decide) rfl) fun a hF => ?_
  refine wl_v hF rfl rfl rfl (q_load Try.isAgg67 rfl (hF.eval rfl) (rdB_cell (hs.now hO) rfl)) fun a hF => ?_
  refine wl_v hF rfl rfl rfl (q_move rfl (hF.eval rfl)) fun a hF => ?_
  refine wl_v hF rfl rfl rfl (q_sub rfl (hF.eval rfl) (hF.eval rfl) (by omega)) fun a hF => ?_
  refine wl_v hF rfl rfl rfl (q_at (i := (c - 1)) hT Try.underlying67 Try.sizeOf106 rfl (hF.eval rfl) ((hF.eval rfl).trans (congrArg i64 (pred_eq (mem_sto.1 hc).1))) (by have := mem_sto.1 hc; omega)) fun a hF => ?_
  refine wl_v hF rfl rfl rfl (q_fieldAddr0 (d := 0) Try.underlying106 rfl (hF.eval rfl) rfl Try.sizeOf74 (by decide) rfl) fun a hF => ?_
  refine wl_v hF rfl rfl rfl (q_load Try.isAgg74 rfl (hF.eval rfl) (RdT.cells (hT.now hO) (sto_at hc) _ _ rfl)) fun a hF => ?_
  refine wl_v hF rfl rfl rfl (q_gt rfl (hF.eval rfl) (hF.eval rfl)) fun a hF => ?_
  refine wl_nil ?_
  refine k_n ?_
  refine wp_ifD hF rfl rfl (fun hc1 => ?_) (fun hc1 => ?_)
  · skip
    obtain ⟨e, he⟩ := onI_pos hc1
    obtain ⟨he1, he2, he3⟩ := hW.link c hc e he
    refine wp_skip ?_
    refine k_n ?_
    refine wp_block ?_
    refine wp_region_lit ?_
    refine wl_v hF rfl rfl rfl (q_move rfl (hF.eval rfl)) fun a hF => ?_
    refine wl_v hF rfl rfl rfl (q_nilCheck rfl (hF.eval rfl)) fun a hF => ?_
    refine wl_v hF rfl rfl rfl (q_fieldAddr0 (d := 0) Try.underlying69 rfl (hF.eval rfl) rfl Try.sizeOf67 (by decide) rfl) fun a hF => ?_
    refine wl_v hF rfl rfl rfl (q_load Try.isAgg67 rfl (hF.eval rfl) (rdB_cell (hs.now hO) rfl)) fun a hF => ?_
    refine wl_v hF rfl rfl rfl (q_move rfl (hF.eval rfl)) fun a hF => ?_
    refine wl_v hF rfl rfl rfl (q_sub rfl (hF.eval rfl) (hF.eval rfl) (by omega)) fun a hF => ?_
    refine wl_v hF rfl rfl rfl (q_at (i := (c - 1)) hT Try.underlying67 Try.sizeOf106 rfl (hF.eval rfl) ((hF.eval rfl).trans (congrArg i64 (pred_eq (mem_sto.1 hc).1))) (by have := mem_sto.1 hc; omega)) fun a hF => ?_
    refine wl_v hF rfl rfl rfl (q_fieldAddr0 (d := 0) Try.underlying106 rfl (hF.eval rfl) rfl Try.sizeOf74 (by decide) rfl) fun a hF => ?_
    refine wl_v hF rfl rfl rfl (q_load Try.isAgg74 rfl (hF.eval rfl) (RdT.cells (hT.now hO) (sto_at hc) _ _ rfl)) fun a hF => ?_
    refine wl_v hF rfl rfl rfl (q_assign rfl (hF.eval rfl)) fun a hF => ?_
    refine wl_nil ?_
    refine b_n ?_
    refine k_n ?_
    have hO : St _ _ _ [] := hO
    exact ⟨e, ⟨⟨he1, he2.symm.trans hck⟩, hO, hF.sub ⟨rfl, (congrArg (fun z => some (i64 z)) (onI_some he)), trivial⟩⟩, he3⟩
  · skip
    have hr := hW.root c hc (onI_not hW hc hc1)
    refine wp_exit ?_
    refine k_x ?_
    refine k_x ?_
    refine b_x ?_
    refine k_n ?_
    refine wp_seq ?_
    refine wp_region_lit ?_
    refine wl_v hF rfl rfl rfl (q_move rfl (hF.eval rfl)) fun a hF => ?_
    refine wl_v hF rfl rfl rfl (q_assign rfl (hF.eval rfl)) fun a hF => ?_
    refine wl_nil ?_
    refine k_n ?_
    refine wp_ret ?_
    refine r_1 hF rfl rfl ?_
    have hO : St _ _ _ [] := hO
    rw [show ρ k = c from hck.symm.trans hr]
    exact ⟨rfl, hO⟩


theorem nodup_le : ∀ (N : Nat) (l : List Nat), l.Nodup → (∀ x ∈ l, 1 ≤ x ∧ x ≤ N) → l.length ≤ N
  | 0, l, _, h => by
    cases l with
    | nil => exact Nat.le_refl _
    | cons x l => have := h x (by simp); omega
  | N + 1, l, hn, h => by
    by_cases hm : N + 1 ∈ l
    · have h1 := nodup_le N (l.erase (N + 1)) (hn.erase _) fun x hx => by
        have h2 := (hn.mem_erase_iff).1 hx
        have := h x h2.2
        omega
      rw [List.length_erase_of_mem hm] at h1
      omega
    · have := nodup_le N l hn fun x hx => by
        have h2 := h x hx
        have : ¬ x = N + 1 := fun e => hm (e ▸ hx)
        omega
      omega
theorem met_has {met : List Nat} {k : Nat} : (met.map fun m : Nat => (m : Int)).contains (k : Int) = true ↔ k ∈ met := by
  rw [List.contains_iff_mem, List.mem_map]
  exact ⟨fun ⟨m, hm, e⟩ => by obtain rfl : m = k := by omega
                              exact hm, fun h => ⟨k, h, rfl⟩⟩
theorem met_put {f : Lit → Option Value} {met : List Nat} (h : NumF f (metG (met.map fun m : Nat => (m : Int)))) (k : Nat) : NumF (putF f (.int .i64 (k : Int)) (.bool true)) (metG ((met ++ [k]).map fun m : Nat => (m : Int))) := by
  rw [List.map_append]; exact metG_put h k
set_option maxHeartbeats 4000000 in
theorem within_i (sb mb : Nat) (vT : Value) (T : List Tm) (ρ d : Nat → Nat) (hW : WfS (stoL T) ρ d) (hlen : T.length ≤ 1099511627776) (k : Nat) (hk : k ∈ (stoL T).ids) (hkk : ρ k = k) (t : RT) (ih : ∀ t' : RT, t'.nodes < t.nodes → ∀ (b : Nat) (w0 : World) (n : Nat) (f : Lit → Option Value) (met : List Nat), b ∈ (stoL T).ids → Res (stoL T) ρ b t' → NumF f (metG (met.map fun m : Nat => (m : Int))) → n ≤ met.length → met.Nodup → (∀ m ∈ met, m ∈ (stoL T).ids) → (∀ m ∈ met, ¬ Rch (stoL T) ρ k m ∨ ∀ tm, Res (stoL T) ρ m tm → t'.nodes < tm.nodes) → Owns w0 [Ent.mapE Try.prog 74 mb n f] → Rd w0 (blks [Ent.mapE Try.prog 74 mb n f]) (gl1 sb) 1 1 [vT] → RdT w0 (blks [Ent.mapE Try.prog 74 mb n f]) vT thE T → Ret Try.prog 63 #[ptr (adr sb), i64 k, i64 b, .map (some mb)] w0 (fun v w' => ∃ (n' : Nat) (f' : Lit → Option Value) (met' : List Nat) (res : Bool), v = .bool res ∧ NumF f' (metG (met'.map fun m : Nat => (m : Int))) ∧ n' ≤ met'.length ∧ met'.Nodup ∧ (∀ m ∈ met', m ∈ (stoL T).ids) ∧ (res = true → Rch (stoL T) ρ k b) ∧ (res = false → ¬ Rch (stoL T) ρ k b ∧ ∀ m ∈ met', m ∈ met ∨ ¬ Rch (stoL T) ρ k m) ∧ St w0 (blks [Ent.mapE Try.prog 74 mb n f]) w' [Ent.mapE Try.prog 74 mb n' f'])) (b : Nat) (w0 : World) (n : Nat) (f : Lit → Option Value) (met : List Nat) (hb : b ∈ (stoL T).ids) (ht : Res (stoL T) ρ b t) (hf : NumF f (metG (met.map fun m : Nat => (m : Int)))) (hn : n ≤ met.length) (hnd : met.Nodup) (hmi : ∀ m ∈ met, m ∈ (stoL T).ids) (hpre : ∀ m ∈ met, ¬ Rch (stoL T) ρ k m ∨ ∀ tm, Res (stoL T) ρ m tm → t.nodes < tm.nodes) (hA : Owns w0 [Ent.mapE Try.prog 74 mb n f]) (hs : Rd w0 (blks [Ent.mapE Try.prog 74 mb n f]) (gl1 sb) 1 1 [vT]) (hT : RdT w0 (blks [Ent.mapE Try.prog 74 mb n f]) vT thE T) : Ret Try.prog 63 #[ptr (adr sb), i64 k, i64 b, .map (some mb)] w0 (fun v w' => ∃ (n' : Nat) (f' : Lit → Option Value) (met' : List Nat) (res : Bool), v = .bool res ∧ NumF f' (metG (met'.map fun m : Nat => (m : Int))) ∧ n' ≤ met'.length ∧ met'.Nodup ∧ (∀ m ∈ met', m ∈ (stoL T).ids) ∧ (res = true → Rch (stoL T) ρ k b) ∧ (res = false → ¬ Rch (stoL T) ρ k b ∧ ∀ m ∈ met', m ∈ met ∨ ¬ Rch (stoL T) ρ k m) ∧ St w0 (blks [Ent.mapE Try.prog 74 mb n f]) w' [Ent.mapE Try.prog 74 mb n' f']) := by
  have hO := St.init hA
  obtain ⟨ha, ha1⟩ := hW.rep b hb
  have ham := mem_sto.1 ha
  have hml := nodup_le T.length met hnd fun x hx => mem_sto.1 (hmi x hx)
  refine ret_of (m := 62) Try.func63 rfl Try.ntmps63 [(0, ptr (adr sb)), (1, i64 k), (2, i64 b), (3, .map (some mb))] rfl ⟨rfl, rfl, rfl, rfl, trivial⟩ fun a hF => ?_
  refine wp_seq ?_
  refine wp_region_lit ?_
  refine wl_v hF rfl rfl rfl (q_assign rfl (hF.eval rfl)) fun a hF => ?_
  refine wl_nil ?_
  refine k_n ?_
  refine wp_seq ?_
  refine wp_region_lit ?_
  refine wl_v hF rfl rfl rfl (q_move rfl (hF.eval rfl)) fun a hF => ?_
  refine wl_v hF rfl rfl rfl (q_move rfl (hF.eval rfl)) fun a hF => ?_
  refine wl_e hF rfl rfl rfl (c_call hF rfl rfl Try.call62 (find_r _ sb vT T (hs.at0 hO) (hT.at0 hO) _ _ hW (by omega) b hb)) ?_
  rintro a _ w ⟨rfl, hS⟩ hF
  have hO := hO.call0 hS
  have hO : St _ _ _ [_] := hO
  refine wl_v hF rfl rfl rfl (q_assign rfl (hF.eval rfl)) fun a hF => ?_
  refine wl_nil ?_
  refine k_n ?_
  refine wp_seq ?_
  refine wp_seq ?_
  refine wp_region_lit ?_
  refine wl_v hF rfl rfl rfl (q_move rfl (hF.eval rfl)) fun a hF => ?_
  refine wl_v hF rfl rfl rfl (q_move rfl (hF.eval rfl)) fun a hF => ?_
  refine wl_v hF rfl rfl rfl (q_move rfl (hF.eval rfl)) fun a hF => ?_
  refine wl_e hF rfl rfl rfl (c_call hF rfl rfl Try.call62 (find_r _ sb vT T (hs.at0 hO) (hT.at0 hO) _ _ hW (by omega) k hk)) ?_
  rintro a _ w ⟨rfl, hS⟩ hF
  have hO := hO.call0 hS
  have hO : St _ _ _ [_] := hO
  refine wl_v hF rfl rfl rfl (q_eq rfl (hF.eval rfl) (hF.eval rfl)) fun a hF => ?_
  refine wl_nil ?_
  refine k_n ?_
  refine wp_ifD hF rfl rfl (fun hc1 => ?_) (fun hc1 => ?_)
  · skip
    have hbk : ρ b = k := by rw [hkk] at hc1; omega
    refine wp_seq ?_
    refine wp_region_lit ?_
    refine wl_v hF rfl rfl rfl (q_assign rfl (hF.eval rfl)) fun a hF => ?_
    refine wl_nil ?_
    refine k_n ?_
    refine wp_ret ?_
    refine k_r ?_
    refine r_1 hF rfl rfl ?_
    have hO : St _ _ _ [_] := hO
    exact ⟨n, f, met, true, rfl, hf, hn, hnd, hmi, fun _ => .here hbk, fun h => (by cases h), hO⟩
  · skip
    have hbk : ¬ ρ b = k := by rw [hkk] at hc1; omega
    refine wp_skip ?_
    refine k_n ?_
    refine wp_seq ?_
    refine wp_seq ?_
    refine wp_region_lit ?_
    refine wl_v hF rfl rfl rfl (q_move rfl (hF.eval rfl)) fun a hF => ?_
    refine wl_v hF rfl rfl rfl (q_move rfl (hF.eval rfl)) fun a hF => ?_
    refine wl_v hF rfl rfl rfl (q_met hO (i := 0) rfl hf Try.underlying74 Try.underlying108 (Try.zeroValue4 _) rfl (hF.eval rfl) (hF.eval rfl) (by omega)) fun a hF => ?_
    refine wl_v hF rfl rfl rfl (q_move rfl (hF.eval rfl)) fun a hF => ?_
    refine wl_g hF rfl rfl rfl rfl rfl rfl (fun hg => q_move rfl (hF.eval rfl)) fun a hF => ?_
    refine wl_g hF rfl rfl rfl rfl rfl rfl (fun hg => q_nilCheck rfl ((hF.eval rfl).trans (gv_of hg))) fun a hF => ?_
    refine wl_g hF rfl rfl rfl rfl rfl rfl (fun hg => q_fieldAddr0 (d := 0) Try.underlying69 rfl ((hF.eval rfl).trans (gv_of hg)) rfl Try.sizeOf67 (by decide) rfl) fun a hF => ?_
    refine wl_g hF rfl rfl rfl rfl rfl rfl (fun hg => q_load Try.isAgg67 rfl ((hF.eval rfl).trans (gv_of hg)) (rdB_cell (hs.now hO) rfl)) fun a hF => ?_
    refine wl_g hF rfl rfl rfl rfl rfl rfl (fun hg => q_move rfl (hF.eval rfl)) fun a hF => ?_
    refine wl_g hF rfl rfl rfl rfl rfl rfl (fun hg => q_sub rfl ((hF.eval rfl).trans (gv_of hg)) (hF.eval rfl) (by omega)) fun a hF => ?_
    refine wl_g hF rfl rfl rfl rfl rfl rfl (fun hg => q_at (i := (ρ b - 1)) hT Try.underlying67 Try.sizeOf106 rfl ((hF.eval rfl).trans (gv_of hg)) (((hF.eval rfl).trans (gv_of hg)).trans (congrArg i64 (pred_eq ham.1))) (by omega)) fun a hF => ?_
    refine wl_g hF rfl rfl rfl rfl rfl rfl (fun hg => q_fieldAddr0 (d := 1) Try.underlying106 rfl ((hF.eval rfl).trans (gv_of hg)) rfl Try.sizeOf3 (by decide) rfl) fun a hF => ?_
    refine wl_g hF rfl rfl rfl rfl rfl rfl (fun hg => q_load Try.isAgg3 rfl ((hF.eval rfl).trans (gv_of hg)) (RdT.cells (hT.now hO) (sto_at ha) _ _ rfl)) fun a hF => ?_
    refine wl_g hF rfl rfl rfl rfl rfl rfl (fun hg => q_ne rfl ((hF.eval rfl).trans (gv_of hg)) (hF.eval rfl)) fun a hF => ?_
    refine wl_v hF rfl rfl rfl (q_or rfl (hF.eval rfl) (dec_b _) (fun hg2 => ((hF.eval rfl).trans (gv_of hg2))) rfl) fun a hF => ?_
    refine wl_nil ?_
    refine k_n ?_
    refine wp_ifD hF rfl rfl (fun hc2 => ?_) (fun hc2 => ?_)
    · skip
      refine wp_seq ?_
      refine wp_region_lit ?_
      refine wl_v hF rfl rfl rfl (q_assign rfl (hF.eval rfl)) fun a hF => ?_
      refine wl_nil ?_
      refine k_n ?_
      refine wp_ret ?_
      refine k_r ?_
      refine r_1 hF rfl rfl ?_
      have hO : St _ _ _ [_] := hO
      refine ⟨n, f, met, false, rfl, hf, hn, hnd, hmi, fun h => (by cases h), fun _ => ⟨?_, fun m hm => .inl hm⟩, hO⟩
      rcases hc2 with h | h
      · have hm := met_has.1 h
        refine (hpre _ hm).elim (fun h1 h2 => h1 (h2.eqr (hW.repr hb))) fun h1 => ?_
        exact absurd (h1 t (ht.eqr (hW.repr hb))) (Nat.lt_irrefl _)
      · exact fun h2 => hbk ((rch_leaf h).1 h2)
    · skip
      have hnm : ρ b ∉ met := fun h => hc2 (.inl (met_has.2 h))
      have hk4 : ((stoL T).tm (ρ b)).kind = 54 := Classical.not_not.1 (not_or.1 hc2).2
      obtain ⟨x, y, s, u, rfl, hx2, hy2, hrs, hru⟩ := res_app ht hk4
      obtain ⟨-, x', y', hx, hy, hx', hy'⟩ := hW.app _ ha hk4
      rw [hx2] at hx'
      rw [hy2] at hy'
      cases hx'
      cases hy'
      have hps := s.pos
      have hpu := u.pos
      have hnn : (RT.app s u).nodes = 1 + s.nodes + u.nodes := rfl
      have hxm := mem_sto.1 hx
      have hym := mem_sto.1 hy
      have hnd2 : (met ++ [ρ b]).Nodup := by rw [List.nodup_append]; exact ⟨hnd, by simp, fun p hp q hq => by rw [List.mem_singleton.1 hq]; exact fun e => hnm (e ▸ hp)⟩
      have hmi2 : ∀ m ∈ met ++ [ρ b], m ∈ (stoL T).ids := fun m hm => (List.mem_append.1 hm).elim (hmi m) fun h => by rw [List.mem_singleton.1 h]; exact ha
      have hpre2 : ∀ z : RT, z.nodes < (RT.app s u).nodes → ∀ m ∈ met ++ [ρ b], ¬ Rch (stoL T) ρ k m ∨ ∀ tm, Res (stoL T) ρ m tm → z.nodes < tm.nodes := fun z hz m hm => by
        rcases List.mem_append.1 hm with hm | hm
        · exact (hpre m hm).imp id fun h tm htm => Nat.lt_trans hz (h tm htm)
        · rw [List.mem_singleton.1 hm]
          refine .inr fun tm htm => ?_
          rw [htm.uniq (ht.eqr (hW.repr hb))]; exact hz
      refine wp_skip ?_
      refine k_n ?_
      refine wp_seq ?_
      refine wp_region_lit ?_
      refine wl_v hF rfl rfl rfl (q_move rfl (hF.eval rfl)) fun a hF => ?_
      refine wl_v hF rfl rfl rfl (q_move rfl (hF.eval rfl)) fun a hF => ?_
      refine wl_s hF rfl rfl (e_metPut (v := .bool true) hO (i := 0) rfl Try.underlying74 Try.underlying108 (by omega) rfl (hF.eval rfl) (hF.eval rfl) (hF.eval rfl) (by omega)) ?_
      rintro a _ w ⟨-, hO⟩ hF
      have hO : St _ _ _ [_] := hO
      refine wl_nil ?_
      refine k_n ?_
      refine wp_seq ?_
      refine wp_region_lit ?_
      refine wl_v hF rfl rfl rfl (q_move rfl (hF.eval rfl)) fun a hF => ?_
      refine wl_v hF rfl rfl rfl (q_move rfl (hF.eval rfl)) fun a hF => ?_
      refine wl_v hF rfl rfl rfl (q_move rfl (hF.eval rfl)) fun a hF => ?_
      refine wl_v hF rfl rfl rfl (q_nilCheck rfl (hF.eval rfl)) fun a hF => ?_
      refine wl_v hF rfl rfl rfl (q_fieldAddr0 (d := 0) Try.underlying69 rfl (hF.eval rfl) rfl Try.sizeOf67 (by decide) rfl) fun a hF => ?_
      refine wl_v hF rfl rfl rfl (q_load Try.isAgg67 rfl (hF.eval rfl) (rdB_cell (hs.now hO) rfl)) fun a hF => ?_
      refine wl_v hF rfl rfl rfl (q_move rfl (hF.eval rfl)) fun a hF => ?_
      refine wl_v hF rfl rfl rfl (q_sub rfl (hF.eval rfl) (hF.eval rfl) (by omega)) fun a hF => ?_
      refine wl_v hF rfl rfl rfl (q_at (i := (ρ b - 1)) hT Try.underlying67 Try.sizeOf106 rfl (hF.eval rfl) ((hF.eval rfl).trans (congrArg i64 (pred_eq (mem_sto.1 ha).1))) (by have := mem_sto.1 ha; omega)) fun a hF => ?_
      refine wl_v hF rfl rfl rfl (q_fieldAddr0 (d := 3) Try.underlying106 rfl (hF.eval rfl) rfl Try.sizeOf74 (by decide) rfl) fun a hF => ?_
      refine wl_v hF rfl rfl rfl (q_load Try.isAgg74 rfl (hF.eval rfl) (elem_l (hT.now hO) (sto_at ha) hx2)) fun a hF => ?_
      refine wl_v hF rfl rfl rfl (q_move rfl (hF.eval rfl)) fun a hF => ?_
      have hO : St _ _ _ [_] := hO
      refine wl_e hF rfl rfl rfl (c_call hF rfl rfl Try.call63 (ih s (by omega) x _ _ _ (met ++ [ρ b]) hx hrs (met_put hf _) (by rw [List.length_append]; exact Nat.succ_le_succ hn) hnd2 hmi2 (hpre2 s (by omega)) hO.own1 (hs.now hO) (hT.now hO))) ?_
      rintro a _ w ⟨n1, f1, met1, res1, rfl, hf9, hn1, hnd1, hmi1, ht1, hf1, hS⟩ hF
      have hO := hO.call1 hS
      have hO : St _ _ _ [_] := hO
      cases res1
      · skip
        obtain ⟨hnr1, hmm1⟩ := hf1 rfl
        refine wl_v hF rfl rfl rfl (q_move rfl (hF.eval rfl)) fun a hF => ?_
        refine wl_un hF rfl rfl rfl rfl (rfl) ?_
        refine wl_v hF rfl rfl rfl (q_move rfl (hF.eval rfl)) fun a hF => ?_
        refine wl_un hF rfl rfl rfl rfl (rfl) ?_
        refine wl_v hF rfl rfl rfl (q_move rfl (hF.eval rfl)) fun a hF => ?_
        refine wl_un hF rfl rfl rfl rfl (rfl) ?_
        refine wl_v hF rfl rfl rfl (q_move rfl (hF.eval rfl)) fun a hF => ?_
        refine wl_un hF rfl rfl rfl rfl (rfl) ?_
        refine wl_v hF rfl rfl rfl (q_nilCheck rfl (hF.eval rfl)) fun a hF => ?_
        refine wl_un hF rfl rfl rfl rfl (rfl) ?_
        refine wl_v hF rfl rfl rfl (q_fieldAddr0 (d := 0) Try.underlying69 rfl (hF.eval rfl) rfl Try.sizeOf67 (by decide) rfl) fun a hF => ?_
        refine wl_un hF rfl rfl rfl rfl (rfl) ?_
        refine wl_v hF rfl rfl rfl (q_load Try.isAgg67 rfl (hF.eval rfl) (rdB_cell (hs.now hO) rfl)) fun a hF => ?_
        refine wl_un hF rfl rfl rfl rfl (rfl) ?_
        refine wl_v hF rfl rfl rfl (q_move rfl (hF.eval rfl)) fun a hF => ?_
        refine wl_un hF rfl rfl rfl rfl (rfl) ?_
        refine wl_v hF rfl rfl rfl (q_sub rfl (hF.eval rfl) (hF.eval rfl) (by omega)) fun a hF => ?_
        refine wl_un hF rfl rfl rfl rfl (rfl) ?_
        refine wl_v hF rfl rfl rfl (q_at (i := (ρ b - 1)) hT Try.underlying67 Try.sizeOf106 rfl (hF.eval rfl) ((hF.eval rfl).trans (congrArg i64 (pred_eq (mem_sto.1 ha).1))) (by have := mem_sto.1 ha; omega)) fun a hF => ?_
        refine wl_un hF rfl rfl rfl rfl (rfl) ?_
        refine wl_v hF rfl rfl rfl (q_fieldAddr0 (d := 4) Try.underlying106 rfl (hF.eval rfl) rfl Try.sizeOf74 (by decide) rfl) fun a hF => ?_
        refine wl_un hF rfl rfl rfl rfl (rfl) ?_
        refine wl_v hF rfl rfl rfl (q_load Try.isAgg74 rfl (hF.eval rfl) (elem_r (hT.now hO) (sto_at ha) hy2)) fun a hF => ?_
        refine wl_un hF rfl rfl rfl rfl (rfl) ?_
        refine wl_v hF rfl rfl rfl (q_move rfl (hF.eval rfl)) fun a hF => ?_
        refine wl_un hF rfl rfl rfl rfl (rfl) ?_
        have hO : St _ _ _ [_] := hO
        refine wl_e hF rfl rfl rfl (c_call hF rfl rfl Try.call63 (ih u (by omega) y _ _ _ met1 hy hru hf9 hn1 hnd1 hmi1 (fun m hm => (hmm1 m hm).elim (hpre2 u (by omega) m) .inl) hO.own1 (hs.now hO) (hT.now hO))) ?_
        rintro a _ w ⟨n2, f2, met2, res2, rfl, hf8, hn2, hnd3, hmi3, ht2, hf2, hS⟩ hF
        have hO := hO.call1 hS
        have hO : St _ _ _ [_] := hO
        refine wl_v hF rfl rfl rfl (q_pickF rfl (hF.eval rfl) (hF.eval rfl)) fun a hF => ?_
        refine wl_v hF rfl rfl rfl (q_assign rfl (hF.eval rfl)) fun a hF => ?_
        refine wl_nil ?_
        refine k_n ?_
        refine wp_ret ?_
        refine r_1 hF rfl rfl ?_
        have hO : St _ _ _ [_] := hO
        refine ⟨n2, f2, met2, res2, rfl, hf8, hn2, hnd3, hmi3, fun h => .r hk4 hy2 (ht2 h), fun h => ?_, hO⟩
        obtain ⟨hnr2, hmm2⟩ := hf2 h
        have hnb : ¬ Rch (stoL T) ρ k b := fun h => by
          rcases (rch_app hW hb hk4 hx2 hy2).1 h with h | h | h
          · exact hbk h
          · exact hnr1 h
          · exact hnr2 h
        refine ⟨hnb, fun m hm => ?_⟩
        rcases hmm2 m hm with h | h
        · rcases hmm1 m h with h | h
          · rcases List.mem_append.1 h with h | h
            · exact .inl h
            · rw [List.mem_singleton.1 h]; exact .inr fun h => hnb (h.eqr (hW.repr hb).symm)
          · exact .inr h
        · exact .inr h
      · skip
        have hr1 := ht1 rfl
        refine wl_v hF rfl rfl rfl (q_move rfl (hF.eval rfl)) fun a hF => ?_
        refine wl_sk hF rfl rfl rfl rfl (rfl) rfl rfl fun a hF => ?_
        refine wl_sk hF rfl rfl rfl rfl (rfl) rfl rfl fun a hF => ?_
        refine wl_sk hF rfl rfl rfl rfl (rfl) rfl rfl fun a hF => ?_
        refine wl_sk hF rfl rfl rfl rfl (rfl) rfl rfl fun a hF => ?_
        refine wl_sk hF rfl rfl rfl rfl (rfl) rfl rfl fun a hF => ?_
        refine wl_sk hF rfl rfl rfl rfl (rfl) rfl rfl fun a hF => ?_
        refine wl_sk hF rfl rfl rfl rfl (rfl) rfl rfl fun a hF => ?_
        refine wl_sk hF rfl rfl rfl rfl (rfl) rfl rfl fun a hF => ?_
        refine wl_sk hF rfl rfl rfl rfl (rfl) rfl rfl fun a hF => ?_
        refine wl_sk hF rfl rfl rfl rfl (rfl) rfl rfl fun a hF => ?_
        refine wl_sk hF rfl rfl rfl rfl (rfl) rfl rfl fun a hF => ?_
        refine wl_sk hF rfl rfl rfl rfl (rfl) rfl rfl fun a hF => ?_
        refine wl_sk hF rfl rfl rfl rfl (rfl) rfl rfl fun a hF => ?_
        refine wl_v hF rfl rfl rfl (q_pickT rfl (hF.eval rfl) rfl) fun a hF => ?_
        refine wl_v hF rfl rfl rfl (q_assign rfl (hF.eval rfl)) fun a hF => ?_
        refine wl_nil ?_
        refine k_n ?_
        refine wp_ret ?_
        refine r_1 hF rfl rfl ?_
        have hO : St _ _ _ [_] := hO
        exact ⟨n1, f1, met1, true, rfl, hf9, hn1, hnd1, hmi1, fun _ => .l hk4 hx2 hr1, fun h => (by cases h), hO⟩


theorem within_r (sb mb : Nat) (vT : Value) (T : List Tm) (ρ d : Nat → Nat) (hW : WfS (stoL T) ρ d) (hlen : T.length ≤ 1099511627776) (k : Nat) (hk : k ∈ (stoL T).ids) (hkk : ρ k = k) : ∀ (q : Nat) (t : RT), t.nodes < q → ∀ (b : Nat) (w0 : World) (n : Nat) (f : Lit → Option Value) (met : List Nat), b ∈ (stoL T).ids → Res (stoL T) ρ b t → NumF f (metG (met.map fun m : Nat => (m : Int))) → n ≤ met.length → met.Nodup → (∀ m ∈ met, m ∈ (stoL T).ids) → (∀ m ∈ met, ¬ Rch (stoL T) ρ k m ∨ ∀ tm, Res (stoL T) ρ m tm → t.nodes < tm.nodes) → Owns w0 [Ent.mapE Try.prog 74 mb n f] → Rd w0 (blks [Ent.mapE Try.prog 74 mb n f]) (gl1 sb) 1 1 [vT] → RdT w0 (blks [Ent.mapE Try.prog 74 mb n f]) vT thE T → Ret Try.prog 63 #[ptr (adr sb), i64 k, i64 b, .map (some mb)] w0 (fun v w' => ∃ (n' : Nat) (f' : Lit → Option Value) (met' : List Nat) (res : Bool), v = .bool res ∧ NumF f' (metG (met'.map fun m : Nat => (m : Int))) ∧ n' ≤ met'.length ∧ met'.Nodup ∧ (∀ m ∈ met', m ∈ (stoL T).ids) ∧ (res = true → Rch (stoL T) ρ k b) ∧ (res = false → ¬ Rch (stoL T) ρ k b ∧ ∀ m ∈ met', m ∈ met ∨ ¬ Rch (stoL T) ρ k m) ∧ St w0 (blks [Ent.mapE Try.prog 74 mb n f]) w' [Ent.mapE Try.prog 74 mb n' f'])
  | 0, _, h => absurd h (Nat.not_lt_zero _)
  | q + 1, t, h => fun b w0 n f met h1 h2 h3 h4 h5 h6 h7 h8 h9 h10 => within_i sb mb vT T ρ d hW hlen k hk hkk t (fun t' ht => within_r sb mb vT T ρ d hW hlen k hk hkk q t' (by omega)) b w0 n f met h1 h2 h3 h4 h5 h6 h7 h8 h9 h10
end Go.Proofs.Ytfkmlcgccffmnaa
namespace Go.Proofs.Ytfkmlcgccffmnaa
open Go
set_option maxRecDepth 100000
set_option linter.unusedVariables false
set_option maxHeartbeats 8000000 in
theorem same_v (sb : Nat) (vT : Value) (T : List Tm) (ρ d : Nat → Nat) (vm : Nam → Option Nat) (hW : WfS (stoL T) ρ d) (hV : VmOk (stoL T) vm) (hAc : Acy (stoL T) ρ) (hlen : T.length ≤ 1099511627776) (i j : Nat) (hi : i ∈ (stoL T).ids) (hj : j ∈ (stoL T).ids) (hkv : ((stoL T).tm (ρ i)).kind = 52) (w0 : World) (hA : Owns w0 [.ob sb 69 [vT], slT vT 106 thE T]) : Ret Try.prog 35 #[ptr (adr sb), i64 i, i64 j] w0 (fun v w' => ∃ T' ok, v = .bool ok ∧ SmPost (stoL T) ρ i j (stoL T') ok ∧ T'.length = T.length ∧ (∀ c ∈ (stoL T).ids, ((stoL T).tm c).kind = 54 → ((stoL T).tm c).same = none → ((stoL T').tm c).same = none) ∧ St w0 (blks [.ob sb 69 [vT], slT vT 106 thE T]) w' [.ob sb 69 [vT], slT vT 106 thE T']) := by
  have hO := St.init hA
  obtain ⟨ha, ha1⟩ := hW.rep i hi
  obtain ⟨hb, hb1⟩ := hW.rep j hj
  have ham := mem_sto.1 ha
  have hbm := mem_sto.1 hb
  obtain ⟨tb, htb⟩ := hAc _ hb
  refine ret_of (m := 129) Try.func35 rfl Try.ntmps35 [(0, ptr (adr sb)), (1, i64 i), (2, i64 j)] rfl ⟨rfl, rfl, rfl, trivial⟩ fun a hF => ?_
  refine wp_seq ?_
  refine wp_region_lit ?_
  refine wl_v hF rfl rfl rfl (q_assign rfl (hF.eval rfl)) fun a hF => ?_
  refine wl_nil ?_
  refine k_n ?_
  refine wp_seq ?_
  refine wp_region_lit ?_
  refine wl_v hF rfl rfl rfl (q_move rfl (hF.eval rfl)) fun a hF => ?_
  refine wl_v hF rfl rfl rfl (q_move rfl (hF.eval rfl)) fun a hF => ?_
  refine wl_e hF rfl rfl rfl (c_call hF rfl rfl Try.call62 (find_r _ sb vT T (hO.rdOb 0 rfl) (hO.rdT 1 rfl) _ _ hW (by omega) i hi)) ?_
  rintro a _ w ⟨rfl, hS⟩ hF
  have hO := hO.call0 hS
  have hO : St _ _ _ [_, _] := hO
  refine wl_v hF rfl rfl rfl (q_assign rfl (hF.eval rfl)) fun a hF => ?_
  refine wl_nil ?_
  refine k_n ?_
  refine wp_seq ?_
  refine wp_region_lit ?_
  refine wl_v hF rfl rfl rfl (q_move rfl (hF.eval rfl)) fun a hF => ?_
  refine wl_v hF rfl rfl rfl (q_move rfl (hF.eval rfl)) fun a hF => ?_
  refine wl_e hF rfl rfl rfl (c_call hF rfl rfl Try.call62 (find_r _ sb vT T (hO.rdOb 0 rfl) (hO.rdT 1 rfl) _ _ hW (by omega) j hj)) ?_
  rintro a _ w ⟨rfl, hS⟩ hF
  have hO := hO.call0 hS
  have hO : St _ _ _ [_, _] := hO
  refine wl_v hF rfl rfl rfl (q_assign rfl (hF.eval rfl)) fun a hF => ?_
  refine wl_nil ?_
  refine k_n ?_
  refine wp_seq ?_
  refine wp_seq ?_
  refine wp_region_lit ?_
  refine wl_v hF rfl rfl rfl (q_move rfl (hF.eval rfl)) fun a hF => ?_
  refine wl_v hF rfl rfl rfl (q_move rfl (hF.eval rfl)) fun a hF => ?_
  refine wl_v hF rfl rfl rfl (q_eq rfl (hF.eval rfl) (hF.eval rfl)) fun a hF => ?_
  refine wl_nil ?_
  refine k_n ?_
  refine wp_ifD hF rfl rfl (fun hc1 => ?_) (fun hc1 => ?_)
  · skip
    have hc1 : ρ i = ρ j := by omega
    refine wp_seq ?_
    refine wp_region_lit ?_
    refine wl_v hF rfl rfl rfl (q_assign rfl (hF.eval rfl)) fun a hF => ?_
    refine wl_nil ?_
    refine k_n ?_
    refine wp_ret ?_
    refine k_r ?_
    refine r_1 hF rfl rfl ?_
    have hO : St _ _ _ [_, _] := hO
    exact ⟨T, true, rfl, sm_same hW hAc hi hj hc1, rfl, fun c _ _ h => h, hO⟩
  · skip
    have hc1 : ¬ ρ i = ρ j := fun e => hc1 (by rw [e])
    refine wp_skip ?_
    refine k_n ?_
    refine wp_seq ?_
    refine wp_region_lit ?_
    refine wl_v hF rfl rfl rfl (q_move rfl (hF.eval rfl)) fun a hF => ?_
    refine wl_v hF rfl rfl rfl (q_nilCheck rfl (hF.eval rfl)) fun a hF => ?_
    refine wl_v hF rfl rfl rfl (q_fieldAddr0 (d := 0) Try.underlying69 rfl (hF.eval rfl) rfl Try.sizeOf67 (by decide) rfl) fun a hF => ?_
    refine wl_v hF rfl rfl rfl (q_load Try.isAgg67 rfl (hF.eval rfl) (hO.cell 0 rfl rfl)) fun a hF => ?_
    refine wl_v hF rfl rfl rfl (q_move rfl (hF.eval rfl)) fun a hF => ?_
    refine wl_v hF rfl rfl rfl (q_sub rfl (hF.eval rfl) (hF.eval rfl) (by omega)) fun a hF => ?_
    refine wl_v hF rfl rfl rfl (q_at (i := (ρ i - 1)) (hO.rd 1 rfl) Try.underlying67 Try.sizeOf106 rfl (hF.eval rfl) ((hF.eval rfl).trans (congrArg i64 (pred_eq (mem_sto.1 ha).1))) (by have := mem_sto.1 ha; omega)) fun a hF => ?_
    refine wl_v hF rfl rfl rfl (q_loadAgg Try.isAgg106 Try.sizeOf106 rfl (hF.eval rfl) (RdT.cells (hO.rdT 1 rfl) (sto_at ha)) rfl) fun a hF => ?_
    refine wl_e hF rfl rfl rfl (e_alloc hO Try.zeroValue106 rfl rfl) ?_
    rintro a _ w ⟨xb, rfl, hO⟩ hF
    refine wl_s hF rfl rfl (e_storeAll hO (i := 0) rfl Try.sizeOf106 rfl (hF.eval rfl) (hF.eval rfl) rfl rfl) ?_
    rintro a _ w ⟨-, hO⟩ hF
    have hO : St _ _ _ [_, _, _] := hO
    refine wl_nil ?_
    refine k_n ?_
    refine wp_seq ?_
    refine wp_region_lit ?_
    refine wl_v hF rfl rfl rfl (q_move rfl (hF.eval rfl)) fun a hF => ?_
    refine wl_v hF rfl rfl rfl (q_nilCheck rfl (hF.eval rfl)) fun a hF => ?_
    refine wl_v hF rfl rfl rfl (q_fieldAddr0 (d := 0) Try.underlying69 rfl (hF.eval rfl) rfl Try.sizeOf67 (by decide) rfl) fun a hF => ?_
    refine wl_v hF rfl rfl rfl (q_load Try.isAgg67 rfl (hF.eval rfl) (hO.cell 1 rfl rfl)) fun a hF => ?_
    refine wl_v hF rfl rfl rfl (q_move rfl (hF.eval rfl)) fun a hF => ?_
    refine wl_v hF rfl rfl rfl (q_sub rfl (hF.eval rfl) (hF.eval rfl) (by omega)) fun a hF => ?_
    refine wl_v hF rfl rfl rfl (q_at (i := (ρ j - 1)) (hO.rd 2 rfl) Try.underlying67 Try.sizeOf106 rfl (hF.eval rfl) ((hF.eval rfl).trans (congrArg i64 (pred_eq (mem_sto.1 hb).1))) (by have := mem_sto.1 hb; omega)) fun a hF => ?_
    refine wl_v hF rfl rfl rfl (q_loadAgg Try.isAgg106 Try.sizeOf106 rfl (hF.eval rfl) (RdT.cells (hO.rdT 2 rfl) (sto_at hb)) rfl) fun a hF => ?_
    refine wl_e hF rfl rfl rfl (e_alloc hO Try.zeroValue106 rfl rfl) ?_
    rintro a _ w ⟨yb, rfl, hO⟩ hF
    refine wl_s hF rfl rfl (e_storeAll hO (i := 0) rfl Try.sizeOf106 rfl (hF.eval rfl) (hF.eval rfl) rfl rfl) ?_
    rintro a _ w ⟨-, hO⟩ hF
    have hO : St _ _ _ [_, _, _, _] := hO
    refine wl_nil ?_
    refine k_n ?_
    refine wp_seq ?_
    refine wp_seq ?_
    refine wp_region_lit ?_
    refine wl_v hF rfl rfl rfl (q_fieldAddr0 (d := 1) Try.underlying106 rfl (hF.eval rfl) rfl Try.sizeOf3 (by decide) rfl) fun a hF => ?_
    refine wl_v hF rfl rfl rfl (q_load Try.isAgg3 rfl (hF.eval rfl) (hO.cell 1 rfl rfl)) fun a hF => ?_
    refine wl_v hF rfl rfl rfl (q_eq rfl (hF.eval rfl) (hF.eval rfl)) fun a hF => ?_
    refine wl_v hF rfl rfl rfl (q_move rfl (hF.eval rfl)) fun a hF => ?_
    refine wl_g hF rfl rfl rfl rfl rfl rfl (fun hg => q_fieldAddr0 (d := 1) Try.underlying106 rfl (hF.eval rfl) rfl Try.sizeOf3 (by decide) rfl) fun a hF => ?_
    refine wl_g hF rfl rfl rfl rfl rfl rfl (fun hg => q_load Try.isAgg3 rfl ((hF.eval rfl).trans (gv_of hg)) (hO.cell 0 rfl rfl)) fun a hF => ?_
    refine wl_g hF rfl rfl rfl rfl rfl rfl (fun hg => q_eq rfl ((hF.eval rfl).trans (gv_of hg)) (hF.eval rfl)) fun a hF => ?_
    refine wl_v hF rfl rfl rfl (q_and rfl (hF.eval rfl) rfl (fun hg2 => ((hF.eval rfl).trans (gv_of hg2))) rfl) fun a hF => ?_
    refine wl_nil ?_
    refine k_n ?_
    refine wp_ifD hF rfl rfl (fun hc2 => ?_) (fun hc2 => ?_)
    · skip
      have hfar : ∀ p q, p ∈ (stoL T).ids → q ∈ (stoL T).ids → ¬ ρ p = ρ q → ((stoL T).tm (ρ q)).kind = 52 → ¬ Rch (stoL T) ρ (ρ p) (ρ q) := fun p q hp hq hne hk h => by
        rw [rch_leaf (by rw [hW.repr hq, hk]; decide), hW.repr hq] at h
        exact hne h.symm
      refine wp_seq ?_
      refine wp_seq ?_
      refine wp_region_lit ?_
      refine wl_v hF rfl rfl rfl (q_fieldAddr0 (d := 2) Try.underlying106 rfl (hF.eval rfl) rfl Try.sizeOf9 (by decide) rfl) fun a hF => ?_
      refine wl_v hF rfl rfl rfl (q_load Try.isAgg9 rfl (hF.eval rfl) (hO.cell 1 rfl rfl)) fun a hF => ?_
      refine wl_v hF rfl rfl rfl (q_fieldAddr0 (d := 2) Try.underlying106 rfl (hF.eval rfl) rfl Try.sizeOf9 (by decide) rfl) fun a hF => ?_
      refine wl_v hF rfl rfl rfl (q_load Try.isAgg9 rfl (hF.eval rfl) (hO.cell 0 rfl rfl)) fun a hF => ?_
      refine wl_v hF rfl rfl rfl (q_slt rfl Try.underlying9 (hF.eval rfl) (hF.eval rfl)) fun a hF => ?_
      refine wl_nil ?_
      refine k_n ?_
      refine wp_ifD hF rfl rfl (fun hc3 => ?_) (fun hc3 => ?_)
      · skip
        refine wp_region_lit ?_
        refine wl_v hF rfl rfl rfl (q_move rfl (hF.eval rfl)) fun a hF => ?_
        refine wl_v hF rfl rfl rfl (q_nilCheck rfl (hF.eval rfl)) fun a hF => ?_
        refine wl_v hF rfl rfl rfl (q_fieldAddr0 (d := 0) Try.underlying69 rfl (hF.eval rfl) rfl Try.sizeOf67 (by decide) rfl) fun a hF => ?_
        refine wl_v hF rfl rfl rfl (q_load Try.isAgg67 rfl (hF.eval rfl) (hO.cell 2 rfl rfl)) fun a hF => ?_
        refine wl_v hF rfl rfl rfl (q_move rfl (hF.eval rfl)) fun a hF => ?_
        refine wl_v hF rfl rfl rfl (q_sub rfl (hF.eval rfl) (hF.eval rfl) (by omega)) fun a hF => ?_
        refine wl_v hF rfl rfl rfl (q_move rfl (hF.eval rfl)) fun a hF => ?_
        refine wl_v hF rfl rfl rfl (q_at (i := (ρ j - 1)) (hO.rd 3 rfl) Try.underlying67 Try.sizeOf106 rfl (hF.eval rfl) ((hF.eval rfl).trans (congrArg i64 (pred_eq (mem_sto.1 hb).1))) (by have := mem_sto.1 hb; omega)) fun a hF => ?_
        refine wl_v hF rfl rfl rfl (q_fieldAddr0 (d := 0) Try.underlying106 rfl (hF.eval rfl) rfl Try.sizeOf74 (by decide) rfl) fun a hF => ?_
        refine wl_s hF rfl rfl (e_storeElT (m := (ρ j - 1)) (off := 0) (q := { (stoL T).tm (ρ j) with same := some (ρ i) }) hO (i := 3) rfl Try.sizeOf74 rfl ((hF.eval rfl).trans (congrArg ptr (add_add' _ _ _))) rfl (hF.eval rfl) rfl (sto_at hb) rfl (Nat.le_of_ble_eq_true rfl) rfl (all1 rfl)) ?_
        rintro a _ w ⟨-, hO⟩ hF
        have hO : St _ _ _ [_, _, _, _] := hO
        refine wl_nil ?_
        refine k_n ?_
        refine wp_seq ?_
        refine wp_region_lit ?_
        refine wl_v hF rfl rfl rfl (q_assign rfl (hF.eval rfl)) fun a hF => ?_
        refine wl_nil ?_
        refine k_n ?_
        refine wp_ret ?_
        refine k_r ?_
        refine r_1 hF rfl rfl ?_
        have hO := hO.drop1 0
        have hO := hO.drop1 0
        have hO : St _ _ _ [_, _] := hO
        refine ⟨(T.set (ρ j - 1) { (stoL T).tm (ρ j) with same := some (ρ i) }), true, rfl, ?_, List.length_set, ?_⟩
        · rw [sto_set hb]; exact (sm_var hW hAc hj hi (fun e => hc1 e.symm) hc2.2 (fun _ => List.le_of_lt hc3) (hfar j i hj hi (fun e => hc1 e.symm) hc2.1)).symm_var (set_frame (by rw [hc2.2]; decide) _)
        · rw [sto_set hb]; exact ⟨set_frame (by rw [hc2.2]; decide) _, hO⟩
      · skip
        refine wp_region_lit ?_
        refine wl_v hF rfl rfl rfl (q_move rfl (hF.eval rfl)) fun a hF => ?_
        refine wl_v hF rfl rfl rfl (q_nilCheck rfl (hF.eval rfl)) fun a hF => ?_
        refine wl_v hF rfl rfl rfl (q_fieldAddr0 (d := 0) Try.underlying69 rfl (hF.eval rfl) rfl Try.sizeOf67 (by decide) rfl) fun a hF => ?_
        refine wl_v hF rfl rfl rfl (q_load Try.isAgg67 rfl (hF.eval rfl) (hO.cell 2 rfl rfl)) fun a hF => ?_
        refine wl_v hF rfl rfl rfl (q_move rfl (hF.eval rfl)) fun a hF => ?_
        refine wl_v hF rfl rfl rfl (q_sub rfl (hF.eval rfl) (hF.eval rfl) (by omega)) fun a hF => ?_
        refine wl_v hF rfl rfl rfl (q_move rfl (hF.eval rfl)) fun a hF => ?_
        refine wl_v hF rfl rfl rfl (q_at (i := (ρ i - 1)) (hO.rd 3 rfl) Try.underlying67 Try.sizeOf106 rfl (hF.eval rfl) ((hF.eval rfl).trans (congrArg i64 (pred_eq (mem_sto.1 ha).1))) (by have := mem_sto.1 ha; omega)) fun a hF => ?_
        refine wl_v hF rfl rfl rfl (q_fieldAddr0 (d := 0) Try.underlying106 rfl (hF.eval rfl) rfl Try.sizeOf74 (by decide) rfl) fun a hF => ?_
        refine wl_s hF rfl rfl (e_storeElT (m := (ρ i - 1)) (off := 0) (q := { (stoL T).tm (ρ i) with same := some (ρ j) }) hO (i := 3) rfl Try.sizeOf74 rfl ((hF.eval rfl).trans (congrArg ptr (add_add' _ _ _))) rfl (hF.eval rfl) rfl (sto_at ha) rfl (Nat.le_of_ble_eq_true rfl) rfl (all1 rfl)) ?_
        rintro a _ w ⟨-, hO⟩ hF
        have hO : St _ _ _ [_, _, _, _] := hO
        refine wl_nil ?_
        refine k_n ?_
        refine wp_seq ?_
        refine wp_region_lit ?_
        refine wl_v hF rfl rfl rfl (q_assign rfl (hF.eval rfl)) fun a hF => ?_
        refine wl_nil ?_
        refine k_n ?_
        refine wp_ret ?_
        refine k_r ?_
        refine r_1 hF rfl rfl ?_
        have hO := hO.drop1 0
        have hO := hO.drop1 0
        have hO : St _ _ _ [_, _] := hO
        refine ⟨(T.set (ρ i - 1) { (stoL T).tm (ρ i) with same := some (ρ j) }), true, rfl, ?_, List.length_set, ?_⟩
        · rw [sto_set ha]; exact sm_var hW hAc hi hj hc1 hc2.1 (fun _ => List.not_lt.1 hc3) (hfar i j hi hj hc1 hc2.2)
        · rw [sto_set ha]; exact ⟨set_frame (by rw [hkv]; decide) _, hO⟩
    · skip
      refine wp_skip ?_
      refine k_n ?_
      refine wp_seq ?_
      refine wp_seq ?_
      refine wp_region_lit ?_
      refine wl_v hF rfl rfl rfl (q_fieldAddr0 (d := 1) Try.underlying106 rfl (hF.eval rfl) rfl Try.sizeOf3 (by decide) rfl) fun a hF => ?_
      refine wl_v hF rfl rfl rfl (q_load Try.isAgg3 rfl (hF.eval rfl) (hO.cell 1 rfl rfl)) fun a hF => ?_
      refine wl_v hF rfl rfl rfl (q_eq rfl (hF.eval rfl) (hF.eval rfl)) fun a hF => ?_
      refine wl_nil ?_
      refine k_n ?_
      refine wp_ifD hF rfl rfl (fun hc4 => ?_) (fun hc4 => ?_)
      · skip
        refine wp_seq ?_
        refine wp_seq ?_
        refine wp_region_lit ?_
        refine wl_v hF rfl rfl rfl (q_move rfl (hF.eval rfl)) fun a hF => ?_
        refine wl_v hF rfl rfl rfl (q_move rfl (hF.eval rfl)) fun a hF => ?_
        refine wl_v hF rfl rfl rfl (q_move rfl (hF.eval rfl)) fun a hF => ?_
        refine wl_e hF rfl rfl rfl (e_makeMap hO 74 rfl) ?_
        rintro a _ w ⟨mp, rfl, hO⟩ hF
        have hO : St _ _ _ [_, _, _, _, _] := hO
        refine wl_e hF rfl rfl rfl (c_call hF rfl rfl Try.call63 (within_r sb mp vT T ρ d hW hlen (ρ i) ha (hW.repr hi) (tb.nodes + 1) tb (by omega) (ρ j) _ 0 (fun _ => none) [] hb htb (by simpa using metG_none) (Nat.le_refl _) List.nodup_nil (fun m hm => by cases hm) (fun m hm => by cases hm) hO.own1 (St.rdObB (A := [_]) hO 2 rfl) (St.rdB (A := [_]) hO 3 rfl))) ?_
        rintro a _ w ⟨n9, f9, met9, res9, rfl, hf9, hn9, hnd9, hmi9, ht9, hu9, hS⟩ hF
        have hO := hO.call1 hS
        have hO : St _ _ _ [_, _, _, _, _] := hO
        refine wl_nil ?_
        refine k_n ?_
        refine wp_ifD hF rfl (dec_b _) (fun hc5 => ?_) (fun hc5 => ?_)
        · skip
          have hres : res9 = true := by simpa using hc5
          subst hres
          refine wp_seq ?_
          refine wp_region_lit ?_
          refine wl_v hF rfl rfl rfl (q_assign rfl (hF.eval rfl)) fun a hF => ?_
          refine wl_nil ?_
          refine k_n ?_
          refine wp_ret ?_
          refine k_r ?_
          refine k_r ?_
          refine r_1 hF rfl rfl ?_
          have hO := hO.drop1 0
          have hO := hO.drop1 0
          have hO := hO.drop1 0
          have hO : St _ _ _ [_, _] := hO
          exact ⟨T, false, rfl, sm_ring hW hi hj hc1 (ht9 rfl), rfl, fun c _ _ h => h, hO⟩
        · skip
          have hres : res9 = false := by simpa using hc5
          subst hres
          refine wp_skip ?_
          refine k_n ?_
          refine wp_seq ?_
          refine wp_region_lit ?_
          refine wl_v hF rfl rfl rfl (q_move rfl (hF.eval rfl)) fun a hF => ?_
          refine wl_v hF rfl rfl rfl (q_nilCheck rfl (hF.eval rfl)) fun a hF => ?_
          refine wl_v hF rfl rfl rfl (q_fieldAddr0 (d := 0) Try.underlying69 rfl (hF.eval rfl) rfl Try.sizeOf67 (by decide) rfl) fun a hF => ?_
          refine wl_v hF rfl rfl rfl (q_load Try.isAgg67 rfl (hF.eval rfl) (hO.cell 3 rfl rfl)) fun a hF => ?_
          refine wl_v hF rfl rfl rfl (q_move rfl (hF.eval rfl)) fun a hF => ?_
          refine wl_v hF rfl rfl rfl (q_sub rfl (hF.eval rfl) (hF.eval rfl) (by omega)) fun a hF => ?_
          refine wl_v hF rfl rfl rfl (q_move rfl (hF.eval rfl)) fun a hF => ?_
          refine wl_v hF rfl rfl rfl (q_at (i := (ρ i - 1)) (hO.rd 4 rfl) Try.underlying67 Try.sizeOf106 rfl (hF.eval rfl) ((hF.eval rfl).trans (congrArg i64 (pred_eq (mem_sto.1 ha).1))) (by have := mem_sto.1 ha; omega)) fun a hF => ?_
          refine wl_v hF rfl rfl rfl (q_fieldAddr0 (d := 0) Try.underlying106 rfl (hF.eval rfl) rfl Try.sizeOf74 (by decide) rfl) fun a hF => ?_
          refine wl_s hF rfl rfl (e_storeElT (m := (ρ i - 1)) (off := 0) (q := { (stoL T).tm (ρ i) with same := some (ρ j) }) hO (i := 4) rfl Try.sizeOf74 rfl ((hF.eval rfl).trans (congrArg ptr (add_add' _ _ _))) rfl (hF.eval rfl) rfl (sto_at ha) rfl (Nat.le_of_ble_eq_true rfl) rfl (all1 rfl)) ?_
          rintro a _ w ⟨-, hO⟩ hF
          have hO : St _ _ _ [_, _, _, _, _] := hO
          refine wl_nil ?_
          refine k_n ?_
          refine wp_seq ?_
          refine wp_region_lit ?_
          refine wl_v hF rfl rfl rfl (q_assign rfl (hF.eval rfl)) fun a hF => ?_
          refine wl_nil ?_
          refine k_n ?_
          refine wp_ret ?_
          refine k_r ?_
          refine r_1 hF rfl rfl ?_
          have hO := hO.drop1 0
          have hO := hO.drop1 0
          have hO := hO.drop1 0
          have hO : St _ _ _ [_, _] := hO
          refine ⟨(T.set (ρ i - 1) { (stoL T).tm (ρ i) with same := some (ρ j) }), true, rfl, ?_, List.length_set, ?_⟩
          · rw [sto_set ha]; exact sm_var hW hAc hi hj hc1 hc4 (fun h => absurd ⟨hc4, h⟩ hc2) (hu9 rfl).1
          · rw [sto_set ha]; exact ⟨set_frame (by rw [hkv]; decide) _, hO⟩
      · skip
        exact absurd hkv hc4

set_option maxHeartbeats 8000000 in
theorem sameS_i (sb : Nat) (vT : Value) (T : List Tm) (ρ d : Nat → Nat) (vm : Nam → Option Nat) (hW : WfS (stoL T) ρ d) (hV : VmOk (stoL T) vm) (hAc : Acy (stoL T) ρ) (hlen : T.length ≤ 1099511627776) (i j : Nat) (hi : i ∈ (stoL T).ids) (hj : j ∈ (stoL T).ids)  (nu : Nat) (hnu : uvN (stoL T) = nu) (t : RT) (ht : Res (stoL T) ρ i t) (ih : ∀ (T : List Tm) (ρ d : Nat → Nat) (vm : Nam → Option Nat) (hW : WfS (stoL T) ρ d) (hV : VmOk (stoL T) vm) (hAc : Acy (stoL T) ρ) (hlen : T.length ≤ 1099511627776) (i j : Nat) (hi : i ∈ (stoL T).ids) (hj : j ∈ (stoL T).ids) (t' : RT) (ht' : Res (stoL T) ρ i t') (w0 : World) (hA : Owns w0 [.ob sb 69 [vT], slT vT 106 thE T]), (uvN (stoL T) < nu ∨ (uvN (stoL T) = nu ∧ t'.nodes < t.nodes)) → Ret Try.prog 35 #[ptr (adr sb), i64 i, i64 j] w0 (fun v w' => ∃ T' ok, v = .bool ok ∧ SmPost (stoL T) ρ i j (stoL T') ok ∧ T'.length = T.length ∧ St w0 (blks [.ob sb 69 [vT], slT vT 106 thE T]) w' [.ob sb 69 [vT], slT vT 106 thE T'])) (w0 : World) (hA : Owns w0 [.ob sb 69 [vT], slT vT 106 thE T]) : Ret Try.prog 35 #[ptr (adr sb), i64 i, i64 j] w0 (fun v w' => ∃ T' ok, v = .bool ok ∧ SmPost (stoL T) ρ i j (stoL T') ok ∧ T'.length = T.length ∧ St w0 (blks [.ob sb 69 [vT], slT vT 106 thE T]) w' [.ob sb 69 [vT], slT vT 106 thE T']) := by
  have hO := St.init hA
  obtain ⟨ha, ha1⟩ := hW.rep i hi
  obtain ⟨hb, hb1⟩ := hW.rep j hj
  have ham := mem_sto.1 ha
  have hbm := mem_sto.1 hb
  obtain ⟨tb, htb⟩ := hAc _ hb
  refine ret_of (m := 129) Try.func35 rfl Try.ntmps35 [(0, ptr (adr sb)), (1, i64 i), (2, i64 j)] rfl ⟨rfl, rfl, rfl, trivial⟩ fun a hF => ?_
  refine wp_seq ?_
  refine wp_region_lit ?_
  refine wl_v hF rfl rfl rfl (q_assign rfl (hF.eval rfl)) fun a hF => ?_
  refine wl_nil ?_
  refine k_n ?_
  refine wp_seq ?_
  refine wp_region_lit ?_
  refine wl_v hF rfl rfl rfl (q_move rfl (hF.eval rfl)) fun a hF => ?_
  refine wl_v hF rfl rfl rfl (q_move rfl (hF.eval rfl)) fun a hF => ?_
  refine wl_e hF rfl rfl rfl (c_call hF rfl rfl Try.call62 (find_r _ sb vT T (hO.rdOb 0 rfl) (hO.rdT 1 rfl) _ _ hW (by omega) i hi)) ?_
  rintro a _ w ⟨rfl, hS⟩ hF
  have hO := hO.call0 hS
  have hO : St _ _ _ [_, _] := hO
  refine wl_v hF rfl rfl rfl (q_assign rfl (hF.eval rfl)) fun a hF => ?_
  refine wl_nil ?_
  refine k_n ?_
  refine wp_seq ?_
  refine wp_region_lit ?_
  refine wl_v hF rfl rfl rfl (q_move rfl (hF.eval rfl)) fun a hF => ?_
  refine wl_v hF rfl rfl rfl (q_move rfl (hF.eval rfl)) fun a hF => ?_
  refine wl_e hF rfl rfl rfl (c_call hF rfl rfl Try.call62 (find_r _ sb vT T (hO.rdOb 0 rfl) (hO.rdT 1 rfl) _ _ hW (by omega) j hj)) ?_
  rintro a _ w ⟨rfl, hS⟩ hF
  have hO := hO.call0 hS
  have hO : St _ _ _ [_, _] := hO
  refine wl_v hF rfl rfl rfl (q_assign rfl (hF.eval rfl)) fun a hF => ?_
  refine wl_nil ?_
  refine k_n ?_
  refine wp_seq ?_
  refine wp_seq ?_
  refine wp_region_lit ?_
  refine wl_v hF rfl rfl rfl (q_move rfl (hF.eval rfl)) fun a hF => ?_
  refine wl_v hF rfl rfl rfl (q_move rfl (hF.eval rfl)) fun a hF => ?_
  refine wl_v hF rfl rfl rfl (q_eq rfl (hF.eval rfl) (hF.eval rfl)) fun a hF => ?_
  refine wl_nil ?_
  refine k_n ?_
  refine wp_ifD hF rfl rfl (fun hc1 => ?_) (fun hc1 => ?_)
  · skip
    have hc1 : ρ i = ρ j := by omega
    refine wp_seq ?_
    refine wp_region_lit ?_
    refine wl_v hF rfl rfl rfl (q_assign rfl (hF.eval rfl)) fun a hF => ?_
    refine wl_nil ?_
    refine k_n ?_
    refine wp_ret ?_
    refine k_r ?_
    refine r_1 hF rfl rfl ?_
    have hO : St _ _ _ [_, _] := hO
    exact ⟨T, true, rfl, sm_same hW hAc hi hj hc1, rfl, hO⟩
  · skip
    have hc1 : ¬ ρ i = ρ j := fun e => hc1 (by rw [e])
    refine wp_skip ?_
    refine k_n ?_
    refine wp_seq ?_
    refine wp_region_lit ?_
    refine wl_v hF rfl rfl rfl (q_move rfl (hF.eval rfl)) fun a hF => ?_
    refine wl_v hF rfl rfl rfl (q_nilCheck rfl (hF.eval rfl)) fun a hF => ?_
    refine wl_v hF rfl rfl rfl (q_fieldAddr0 (d := 0) Try.underlying69 rfl (hF.eval rfl) rfl Try.sizeOf67 (by decide) rfl) fun a hF => ?_
    refine wl_v hF rfl rfl rfl (q_load Try.isAgg67 rfl (hF.eval rfl) (hO.cell 0 rfl rfl)) fun a hF => ?_
    refine wl_v hF rfl rfl rfl (q_move rfl (hF.eval rfl)) fun a hF => ?_
    refine wl_v hF rfl rfl rfl (q_sub rfl (hF.eval rfl) (hF.eval rfl) (by omega)) fun a hF => ?_
    refine wl_v hF rfl rfl rfl (q_at (i := (ρ i - 1)) (hO.rd 1 rfl) Try.underlying67 Try.sizeOf106 rfl (hF.eval rfl) ((hF.eval rfl).trans (congrArg i64 (pred_eq (mem_sto.1 ha).1))) (by have := mem_sto.1 ha; omega)) fun a hF => ?_
    refine wl_v hF rfl rfl rfl (q_loadAgg Try.isAgg106 Try.sizeOf106 rfl (hF.eval rfl) (RdT.cells (hO.rdT 1 rfl) (sto_at ha)) rfl) fun a hF => ?_
    refine wl_e hF rfl rfl rfl (e_alloc hO Try.zeroValue106 rfl rfl) ?_
    rintro a _ w ⟨xb, rfl, hO⟩ hF
    refine wl_s hF rfl rfl (e_storeAll hO (i := 0) rfl Try.sizeOf106 rfl (hF.eval rfl) (hF.eval rfl) rfl rfl) ?_
    rintro a _ w ⟨-, hO⟩ hF
    have hO : St _ _ _ [_, _, _] := hO
    refine wl_nil ?_
    refine k_n ?_
    refine wp_seq ?_
    refine wp_region_lit ?_
    refine wl_v hF rfl rfl rfl (q_move rfl (hF.eval rfl)) fun a hF => ?_
    refine wl_v hF rfl rfl rfl (q_nilCheck rfl (hF.eval rfl)) fun a hF => ?_
    refine wl_v hF rfl rfl rfl (q_fieldAddr0 (d := 0) Try.underlying69 rfl (hF.eval rfl) rfl Try.sizeOf67 (by decide) rfl) fun a hF => ?_
    refine wl_v hF rfl rfl rfl (q_load Try.isAgg67 rfl (hF.eval rfl) (hO.cell 1 rfl rfl)) fun a hF => ?_
    refine wl_v hF rfl rfl rfl (q_move rfl (hF.eval rfl)) fun a hF => ?_
    refine wl_v hF rfl rfl rfl (q_sub rfl (hF.eval rfl) (hF.eval rfl) (by omega)) fun a hF => ?_
    refine wl_v hF rfl rfl rfl (q_at (i := (ρ j - 1)) (hO.rd 2 rfl) Try.underlying67 Try.sizeOf106 rfl (hF.eval rfl) ((hF.eval rfl).trans (congrArg i64 (pred_eq (mem_sto.1 hb).1))) (by have := mem_sto.1 hb; omega)) fun a hF => ?_
    refine wl_v hF rfl rfl rfl (q_loadAgg Try.isAgg106 Try.sizeOf106 rfl (hF.eval rfl) (RdT.cells (hO.rdT 2 rfl) (sto_at hb)) rfl) fun a hF => ?_
    refine wl_e hF rfl rfl rfl (e_alloc hO Try.zeroValue106 rfl rfl) ?_
    rintro a _ w ⟨yb, rfl, hO⟩ hF
    refine wl_s hF rfl rfl (e_storeAll hO (i := 0) rfl Try.sizeOf106 rfl (hF.eval rfl) (hF.eval rfl) rfl rfl) ?_
    rintro a _ w ⟨-, hO⟩ hF
    have hO : St _ _ _ [_, _, _, _] := hO
    refine wl_nil ?_
    refine k_n ?_
    refine wp_seq ?_
    refine wp_seq ?_
    refine wp_region_lit ?_
    refine wl_v hF rfl rfl rfl (q_fieldAddr0 (d := 1) Try.underlying106 rfl (hF.eval rfl) rfl Try.sizeOf3 (by decide) rfl) fun a hF => ?_
    refine wl_v hF rfl rfl rfl (q_load Try.isAgg3 rfl (hF.eval rfl) (hO.cell 1 rfl rfl)) fun a hF => ?_
    refine wl_v hF rfl rfl rfl (q_eq rfl (hF.eval rfl) (hF.eval rfl)) fun a hF => ?_
    refine wl_v hF rfl rfl rfl (q_move rfl (hF.eval rfl)) fun a hF => ?_
    refine wl_g hF rfl rfl rfl rfl rfl rfl (fun hg => q_fieldAddr0 (d := 1) Try.underlying106 rfl (hF.eval rfl) rfl Try.sizeOf3 (by decide) rfl) fun a hF => ?_
    refine wl_g hF rfl rfl rfl rfl rfl rfl (fun hg => q_load Try.isAgg3 rfl ((hF.eval rfl).trans (gv_of hg)) (hO.cell 0 rfl rfl)) fun a hF => ?_
    refine wl_g hF rfl rfl rfl rfl rfl rfl (fun hg => q_eq rfl ((hF.eval rfl).trans (gv_of hg)) (hF.eval rfl)) fun a hF => ?_
    refine wl_v hF rfl rfl rfl (q_and rfl (hF.eval rfl) rfl (fun hg2 => ((hF.eval rfl).trans (gv_of hg2))) rfl) fun a hF => ?_
    refine wl_nil ?_
    refine k_n ?_
    refine wp_ifD hF rfl rfl (fun hc2 => ?_) (fun hc2 => ?_)
    · skip
      have hfar : ∀ p q, p ∈ (stoL T).ids → q ∈ (stoL T).ids → ¬ ρ p = ρ q → ((stoL T).tm (ρ q)).kind = 52 → ¬ Rch (stoL T) ρ (ρ p) (ρ q) := fun p q hp hq hne hk h => by
        rw [rch_leaf (by rw [hW.repr hq, hk]; decide), hW.repr hq] at h
        exact hne h.symm
      refine wp_seq ?_
      refine wp_seq ?_
      refine wp_region_lit ?_
      refine wl_v hF rfl rfl rfl (q_fieldAddr0 (d := 2) Try.underlying106 rfl (hF.eval rfl) rfl Try.sizeOf9 (by decide) rfl) fun a hF => ?_
      refine wl_v hF rfl rfl rfl (q_load Try.isAgg9 rfl (hF.eval rfl) (hO.cell 1 rfl rfl)) fun a hF => ?_
      refine wl_v hF rfl rfl rfl (q_fieldAddr0 (d := 2) Try.underlying106 rfl (hF.eval rfl) rfl Try.sizeOf9 (by decide) rfl) fun a hF => ?_
      refine wl_v hF rfl rfl rfl (q_load Try.isAgg9 rfl (hF.eval rfl) (hO.cell 0 rfl rfl)) fun a hF => ?_
      refine wl_v hF rfl rfl rfl (q_slt rfl Try.underlying9 (hF.eval rfl) (hF.eval rfl)) fun a hF => ?_
      refine wl_nil ?_
      refine k_n ?_
      refine wp_ifD hF rfl rfl (fun hc3 => ?_) (fun hc3 => ?_)
      · skip
        refine wp_region_lit ?_
        refine wl_v hF rfl rfl rfl (q_move rfl (hF.eval rfl)) fun a hF => ?_
        refine wl_v hF rfl rfl rfl (q_nilCheck rfl (hF.eval rfl)) fun a hF => ?_
        refine wl_v hF rfl rfl rfl (q_fieldAddr0 (d := 0) Try.underlying69 rfl (hF.eval rfl) rfl Try.sizeOf67 (by decide) rfl) fun a hF => ?_
        refine wl_v hF rfl rfl rfl (q_load Try.isAgg67 rfl (hF.eval rfl) (hO.cell 2 rfl rfl)) fun a hF => ?_
        refine wl_v hF rfl rfl rfl (q_move rfl (hF.eval rfl)) fun a hF => ?_
        refine wl_v hF rfl rfl rfl (q_sub rfl (hF.eval rfl) (hF.eval rfl) (by omega)) fun a hF => ?_
        refine wl_v hF rfl rfl rfl (q_move rfl (hF.eval rfl)) fun a hF => ?_
        refine wl_v hF rfl rfl rfl (q_at (i := (ρ j - 1)) (hO.rd 3 rfl) Try.underlying67 Try.sizeOf106 rfl (hF.eval rfl) ((hF.eval rfl).trans (congrArg i64 (pred_eq (mem_sto.1 hb).1))) (by have := mem_sto.1 hb; omega)) fun a hF => ?_
        refine wl_v hF rfl rfl rfl (q_fieldAddr0 (d := 0) Try.underlying106 rfl (hF.eval rfl) rfl Try.sizeOf74 (by decide) rfl) fun a hF => ?_
        refine wl_s hF rfl rfl (e_storeElT (m := (ρ j - 1)) (off := 0) (q := { (stoL T).tm (ρ j) with same := some (ρ i) }) hO (i := 3) rfl Try.sizeOf74 rfl ((hF.eval rfl).trans (congrArg ptr (add_add' _ _ _))) rfl (hF.eval rfl) rfl (sto_at hb) rfl (Nat.le_of_ble_eq_true rfl) rfl (all1 rfl)) ?_
        rintro a _ w ⟨-, hO⟩ hF
        have hO : St _ _ _ [_, _, _, _] := hO
        refine wl_nil ?_
        refine k_n ?_
        refine wp_seq ?_
        refine wp_region_lit ?_
        refine wl_v hF rfl rfl rfl (q_assign rfl (hF.eval rfl)) fun a hF => ?_
        refine wl_nil ?_
        refine k_n ?_
        refine wp_ret ?_
        refine k_r ?_
        refine r_1 hF rfl rfl ?_
        have hO := hO.drop1 0
        have hO := hO.drop1 0
        have hO : St _ _ _ [_, _] := hO
        refine ⟨(T.set (ρ j - 1) { (stoL T).tm (ρ j) with same := some (ρ i) }), true, rfl, ?_, List.length_set, ?_⟩
        · rw [sto_set hb]; exact (sm_var hW hAc hj hi (fun e => hc1 e.symm) hc2.2 (fun _ => List.le_of_lt hc3) (hfar j i hj hi (fun e => hc1 e.symm) hc2.1)).symm_var (set_frame (by rw [hc2.2]; decide) _)
        · exact hO
      · skip
        refine wp_region_lit ?_
        refine wl_v hF rfl rfl rfl (q_move rfl (hF.eval rfl)) fun a hF => ?_
        refine wl_v hF rfl rfl rfl (q_nilCheck rfl (hF.eval rfl)) fun a hF => ?_
        refine wl_v hF rfl rfl rfl (q_fieldAddr0 (d := 0) Try.underlying69 rfl (hF.eval rfl) rfl Try.sizeOf67 (by decide) rfl) fun a hF => ?_
        refine wl_v hF rfl rfl rfl (q_load Try.isAgg67 rfl (hF.eval rfl) (hO.cell 2 rfl rfl)) fun a hF => ?_
        refine wl_v hF rfl rfl rfl (q_move rfl (hF.eval rfl)) fun a hF => ?_
        refine wl_v hF rfl rfl rfl (q_sub rfl (hF.eval rfl) (hF.eval rfl) (by omega)) fun a hF => ?_
        refine wl_v hF rfl rfl rfl (q_move rfl (hF.eval rfl)) fun a hF => ?_
        refine wl_v hF rfl rfl rfl (q_at (i := (ρ i - 1)) (hO.rd 3 rfl) Try.underlying67 Try.sizeOf106 rfl (hF.eval rfl) ((hF.eval rfl).trans (congrArg i64 (pred_eq (mem_sto.1 ha).1))) (by have := mem_sto.1 ha; omega)) fun a hF => ?_
        refine wl_v hF rfl rfl rfl (q_fieldAddr0 (d := 0) Try.underlying106 rfl (hF.eval rfl) rfl Try.sizeOf74 (by decide) rfl) fun a hF => ?_
        refine wl_s hF rfl rfl (e_storeElT (m := (ρ i - 1)) (off := 0) (q := { (stoL T).tm (ρ i) with same := some (ρ j) }) hO (i := 3) rfl Try.sizeOf74 rfl ((hF.eval rfl).trans (congrArg ptr (add_add' _ _ _))) rfl (hF.eval rfl) rfl (sto_at ha) rfl (Nat.le_of_ble_eq_true rfl) rfl (all1 rfl)) ?_
        rintro a _ w ⟨-, hO⟩ hF
        have hO : St _ _ _ [_, _, _, _] := hO
        refine wl_nil ?_
        refine k_n ?_
        refine wp_seq ?_
        refine wp_region_lit ?_
        refine wl_v hF rfl rfl rfl (q_assign rfl (hF.eval rfl)) fun a hF => ?_
        refine wl_nil ?_
        refine k_n ?_
        refine wp_ret ?_
        refine k_r ?_
        refine r_1 hF rfl rfl ?_
        have hO := hO.drop1 0
        have hO := hO.drop1 0
        have hO : St _ _ _ [_, _] := hO
        refine ⟨(T.set (ρ i - 1) { (stoL T).tm (ρ i) with same := some (ρ j) }), true, rfl, ?_, List.length_set, ?_⟩
        · rw [sto_set ha]; exact sm_var hW hAc hi hj hc1 hc2.1 (fun _ => List.not_lt.1 hc3) (hfar i j hi hj hc1 hc2.2)
        · exact hO
    · skip
      refine wp_skip ?_
      refine k_n ?_
      refine wp_seq ?_
      refine wp_seq ?_
      refine wp_region_lit ?_
      refine wl_v hF rfl rfl rfl (q_fieldAddr0 (d := 1) Try.underlying106 rfl (hF.eval rfl) rfl Try.sizeOf3 (by decide) rfl) fun a hF => ?_
      refine wl_v hF rfl rfl rfl (q_load Try.isAgg3 rfl (hF.eval rfl) (hO.cell 1 rfl rfl)) fun a hF => ?_
      refine wl_v hF rfl rfl rfl (q_eq rfl (hF.eval rfl) (hF.eval rfl)) fun a hF => ?_
      refine wl_nil ?_
      refine k_n ?_
      refine wp_ifD hF rfl rfl (fun hc4 => ?_) (fun hc4 => ?_)
      · skip
        refine wp_seq ?_
        refine wp_seq ?_
        refine wp_region_lit ?_
        refine wl_v hF rfl rfl rfl (q_move rfl (hF.eval rfl)) fun a hF => ?_
        refine wl_v hF rfl rfl rfl (q_move rfl (hF.eval rfl)) fun a hF => ?_
        refine wl_v hF rfl rfl rfl (q_move rfl (hF.eval rfl)) fun a hF => ?_
        refine wl_e hF rfl rfl rfl (e_makeMap hO 74 rfl) ?_
        rintro a _ w ⟨mp, rfl, hO⟩ hF
        have hO : St _ _ _ [_, _, _, _, _] := hO
        refine wl_e hF rfl rfl rfl (c_call hF rfl rfl Try.call63 (within_r sb mp vT T ρ d hW hlen (ρ i) ha (hW.repr hi) (tb.nodes + 1) tb (by omega) (ρ j) _ 0 (fun _ => none) [] hb htb (by simpa using metG_none) (Nat.le_refl _) List.nodup_nil (fun m hm => by cases hm) (fun m hm => by cases hm) hO.own1 (St.rdObB (A := [_]) hO 2 rfl) (St.rdB (A := [_]) hO 3 rfl))) ?_
        rintro a _ w ⟨n9, f9, met9, res9, rfl, hf9, hn9, hnd9, hmi9, ht9, hu9, hS⟩ hF
        have hO := hO.call1 hS
        have hO : St _ _ _ [_, _, _, _, _] := hO
        refine wl_nil ?_
        refine k_n ?_
        refine wp_ifD hF rfl (dec_b _) (fun hc5 => ?_) (fun hc5 => ?_)
        · skip
          have hres : res9 = true := by simpa using hc5
          subst hres
          refine wp_seq ?_
          refine wp_region_lit ?_
          refine wl_v hF rfl rfl rfl (q_assign rfl (hF.eval rfl)) fun a hF => ?_
          refine wl_nil ?_
          refine k_n ?_
          refine wp_ret ?_
          refine k_r ?_
          refine k_r ?_
          refine r_1 hF rfl rfl ?_
          have hO := hO.drop1 0
          have hO := hO.drop1 0
          have hO := hO.drop1 0
          have hO : St _ _ _ [_, _] := hO
          exact ⟨T, false, rfl, sm_ring hW hi hj hc1 (ht9 rfl), rfl, hO⟩
        · skip
          have hres : res9 = false := by simpa using hc5
          subst hres
          refine wp_skip ?_
          refine k_n ?_
          refine wp_seq ?_
          refine wp_region_lit ?_
          refine wl_v hF rfl rfl rfl (q_move rfl (hF.eval rfl)) fun a hF => ?_
          refine wl_v hF rfl rfl rfl (q_nilCheck rfl (hF.eval rfl)) fun a hF => ?_
          refine wl_v hF rfl rfl rfl (q_fieldAddr0 (d := 0) Try.underlying69 rfl (hF.eval rfl) rfl Try.sizeOf67 (by decide) rfl) fun a hF => ?_
          refine wl_v hF rfl rfl rfl (q_load Try.isAgg67 rfl (hF.eval rfl) (hO.cell 3 rfl rfl)) fun a hF => ?_
          refine wl_v hF rfl rfl rfl (q_move rfl (hF.eval rfl)) fun a hF => ?_
          refine wl_v hF rfl rfl rfl (q_sub rfl (hF.eval rfl) (hF.eval rfl) (by omega)) fun a hF => ?_
          refine wl_v hF rfl rfl rfl (q_move rfl (hF.eval rfl)) fun a hF => ?_
          refine wl_v hF rfl rfl rfl (q_at (i := (ρ i - 1)) (hO.rd 4 rfl) Try.underlying67 Try.sizeOf106 rfl (hF.eval rfl) ((hF.eval rfl).trans (congrArg i64 (pred_eq (mem_sto.1 ha).1))) (by have := mem_sto.1 ha; omega)) fun a hF => ?_
          refine wl_v hF rfl rfl rfl (q_fieldAddr0 (d := 0) Try.underlying106 rfl (hF.eval rfl) rfl Try.sizeOf74 (by decide) rfl) fun a hF => ?_
          refine wl_s hF rfl rfl (e_storeElT (m := (ρ i - 1)) (off := 0) (q := { (stoL T).tm (ρ i) with same := some (ρ j) }) hO (i := 4) rfl Try.sizeOf74 rfl ((hF.eval rfl).trans (congrArg ptr (add_add' _ _ _))) rfl (hF.eval rfl) rfl (sto_at ha) rfl (Nat.le_of_ble_eq_true rfl) rfl (all1 rfl)) ?_
          rintro a _ w ⟨-, hO⟩ hF
          have hO : St _ _ _ [_, _, _, _, _] := hO
          refine wl_nil ?_
          refine k_n ?_
          refine wp_seq ?_
          refine wp_region_lit ?_
          refine wl_v hF rfl rfl rfl (q_assign rfl (hF.eval rfl)) fun a hF => ?_
          refine wl_nil ?_
          refine k_n ?_
          refine wp_ret ?_
          refine k_r ?_
          refine r_1 hF rfl rfl ?_
          have hO := hO.drop1 0
          have hO := hO.drop1 0
          have hO := hO.drop1 0
          have hO : St _ _ _ [_, _] := hO
          refine ⟨(T.set (ρ i - 1) { (stoL T).tm (ρ i) with same := some (ρ j) }), true, rfl, ?_, List.length_set, ?_⟩
          · rw [sto_set ha]; exact sm_var hW hAc hi hj hc1 hc4 (fun h => absurd ⟨hc4, h⟩ hc2) (hu9 rfl).1
          · exact hO
      · skip
        refine wp_skip ?_
        refine k_n ?_
        refine wp_seq ?_
        refine wp_seq ?_
        refine wp_region_lit ?_
        refine wl_v hF rfl rfl rfl (q_fieldAddr0 (d := 1) Try.underlying106 rfl (hF.eval rfl) rfl Try.sizeOf3 (by decide) rfl) fun a hF => ?_
        refine wl_v hF rfl rfl rfl (q_load Try.isAgg3 rfl (hF.eval rfl) (hO.cell 0 rfl rfl)) fun a hF => ?_
        refine wl_v hF rfl rfl rfl (q_eq rfl (hF.eval rfl) (hF.eval rfl)) fun a hF => ?_
        refine wl_nil ?_
        refine k_n ?_
        refine wp_ifD hF rfl rfl (fun hc6 => ?_) (fun hc6 => ?_)
        · skip
          refine wp_seq ?_
          refine wp_region_lit ?_
          refine wl_v hF rfl rfl rfl (q_move rfl (hF.eval rfl)) fun a hF => ?_
          refine wl_v hF rfl rfl rfl (q_move rfl (hF.eval rfl)) fun a hF => ?_
          refine wl_v hF rfl rfl rfl (q_move rfl (hF.eval rfl)) fun a hF => ?_
          have hO := hO.pull 3 rfl
          have hO := hO.pull 3 rfl
          have hO : St _ _ _ [_, _, _, _] := hO
          refine wl_e hF rfl rfl rfl (c_call hF rfl rfl Try.call35 (same_v sb vT T ρ d vm hW hV hAc hlen (ρ j) (ρ i) hb ha (by rw [hW.repr hj]; exact hc6) _ hO.own2)) ?_
          rintro a _ w ⟨T1, ok1, rfl, hP, hl1, hfr, hS⟩ hF
          have hO := hO.call2 hS
          have hO : St _ _ _ [_, _, _, _] := hO
          refine wl_v hF rfl rfl rfl (q_assign rfl (hF.eval rfl)) fun a hF => ?_
          refine wl_nil ?_
          refine k_n ?_
          refine wp_ret ?_
          refine k_r ?_
          refine r_1 hF rfl rfl ?_
          have hO := hO.drop1 2
          have hO := hO.drop1 2
          have hO : St _ _ _ [_, _] := hO
          exact ⟨T1, ok1, rfl, sm_rep hW hi hj hP hfr, hl1, hO⟩
        · skip
          refine wp_skip ?_
          refine k_n ?_
          refine wp_seq ?_
          refine wp_seq ?_
          refine wp_region_lit ?_
          refine wl_v hF rfl rfl rfl (q_fieldAddr0 (d := 1) Try.underlying106 rfl (hF.eval rfl) rfl Try.sizeOf3 (by decide) rfl) fun a hF => ?_
          refine wl_v hF rfl rfl rfl (q_load Try.isAgg3 rfl (hF.eval rfl) (hO.cell 1 rfl rfl)) fun a hF => ?_
          refine wl_v hF rfl rfl rfl (q_fieldAddr0 (d := 1) Try.underlying106 rfl (hF.eval rfl) rfl Try.sizeOf3 (by decide) rfl) fun a hF => ?_
          refine wl_v hF rfl rfl rfl (q_load Try.isAgg3 rfl (hF.eval rfl) (hO.cell 0 rfl rfl)) fun a hF => ?_
          refine wl_v hF rfl rfl rfl (q_ne rfl (hF.eval rfl) (hF.eval rfl)) fun a hF => ?_
          refine wl_v hF rfl rfl rfl (q_move rfl (hF.eval rfl)) fun a hF => ?_
          refine wl_g hF rfl rfl rfl rfl rfl rfl (fun hg => q_fieldAddr0 (d := 2) Try.underlying106 rfl (hF.eval rfl) rfl Try.sizeOf9 (by decide) rfl) fun a hF => ?_
          refine wl_g hF rfl rfl rfl rfl rfl rfl (fun hg => q_load Try.isAgg9 rfl ((hF.eval rfl).trans (gv_of hg)) (hO.cell 1 rfl rfl)) fun a hF => ?_
          refine wl_g hF rfl rfl rfl rfl rfl rfl (fun hg => q_fieldAddr0 (d := 2) Try.underlying106 rfl (hF.eval rfl) rfl Try.sizeOf9 (by decide) rfl) fun a hF => ?_
          refine wl_g hF rfl rfl rfl rfl rfl rfl (fun hg => q_load Try.isAgg9 rfl ((hF.eval rfl).trans (gv_of hg)) (hO.cell 0 rfl rfl)) fun a hF => ?_
          refine wl_g hF rfl rfl rfl rfl rfl rfl (fun hg => q_sne rfl ((hF.eval rfl).trans (gv_of hg)) ((hF.eval rfl).trans (gv_of hg))) fun a hF => ?_
          refine wl_v hF rfl rfl rfl (q_or rfl (hF.eval rfl) rfl (fun hg2 => ((hF.eval rfl).trans (gv_of hg2))) rfl) fun a hF => ?_
          refine wl_nil ?_
          refine k_n ?_
          refine wp_ifD hF rfl rfl (fun hc7 => ?_) (fun hc7 => ?_)
          · skip
            refine wp_seq ?_
            refine wp_region_lit ?_
            refine wl_v hF rfl rfl rfl (q_assign rfl (hF.eval rfl)) fun a hF => ?_
            refine wl_nil ?_
            refine k_n ?_
            refine wp_ret ?_
            refine k_r ?_
            refine r_1 hF rfl rfl ?_
            have hO := hO.drop1 0
            have hO := hO.drop1 0
            have hO : St _ _ _ [_, _] := hO
            exact ⟨T, false, rfl, sm_no hW hi hj hc4 hc6 hc7, rfl, hO⟩
          · skip
            have ka := (hW.kinds _ ha).resolve_left hc4
            have kb := (hW.kinds _ hb).resolve_left hc6
            have g1 := Classical.not_not.1 (not_or.1 hc7).1
            have g2 := Classical.not_not.1 (not_or.1 hc7).2
            refine wp_skip ?_
            refine k_n ?_
            refine wp_seq ?_
            refine wp_seq ?_
            refine wp_region_lit ?_
            refine wl_v hF rfl rfl rfl (q_fieldAddr0 (d := 1) Try.underlying106 rfl (hF.eval rfl) rfl Try.sizeOf3 (by decide) rfl) fun a hF => ?_
            refine wl_v hF rfl rfl rfl (q_load Try.isAgg3 rfl (hF.eval rfl) (hO.cell 1 rfl rfl)) fun a hF => ?_
            refine wl_v hF rfl rfl rfl (q_eq rfl (hF.eval rfl) (hF.eval rfl)) fun a hF => ?_
            refine wl_nil ?_
            refine k_n ?_
            refine wp_ifD hF rfl rfl (fun hc8 => ?_) (fun hc8 => ?_)
            · skip
              refine wp_seq ?_
              refine wp_region_lit ?_
              refine wl_v hF rfl rfl rfl (q_assign rfl (hF.eval rfl)) fun a hF => ?_
              refine wl_nil ?_
              refine k_n ?_
              refine wp_ret ?_
              refine k_r ?_
              refine r_1 hF rfl rfl ?_
              have hO := hO.drop1 0
              have hO := hO.drop1 0
              have hO : St _ _ _ [_, _] := hO
              exact ⟨T, true, rfl, sm_con hW hAc hi hj hc8 (g1.symm.trans hc8) g2, rfl, hO⟩
            · skip
              have ka4 := ka.resolve_left hc8
              obtain ⟨x, y, s, u, rfl, hx2, hy2, hrs, hru⟩ := res_app ht ka4
              obtain ⟨-, x0, y0, hx, hy, hx0, hy0⟩ := hW.app _ ha ka4
              rw [hx2] at hx0
              rw [hy2] at hy0
              cases hx0
              cases hy0
              obtain ⟨-, x', y', hx', hy', hx2', hy2'⟩ := hW.app _ hb (g1.symm.trans ka4)
              have hps := s.pos
              have hpu := u.pos
              have hnn : (RT.app s u).nodes = 1 + s.nodes + u.nodes := rfl
              refine wp_skip ?_
              refine k_n ?_
              refine wp_seq ?_
              refine wp_seq ?_
              refine wp_region_lit ?_
              refine wl_v hF rfl rfl rfl (q_move rfl (hF.eval rfl)) fun a hF => ?_
              refine wl_v hF rfl rfl rfl (q_fieldAddr0 (d := 3) Try.underlying106 rfl (hF.eval rfl) rfl Try.sizeOf74 (by decide) rfl) fun a hF => ?_
              refine wl_v hF rfl rfl rfl (q_load Try.isAgg74 rfl (hF.eval rfl) (own_l (hO.ok (i := 1) rfl) hx2)) fun a hF => ?_
              refine wl_v hF rfl rfl rfl (q_fieldAddr0 (d := 3) Try.underlying106 rfl (hF.eval rfl) rfl Try.sizeOf74 (by decide) rfl) fun a hF => ?_
              refine wl_v hF rfl rfl rfl (q_load Try.isAgg74 rfl (hF.eval rfl) (own_l (hO.ok (i := 0) rfl) hx2')) fun a hF => ?_
              have hO := hO.pull 3 rfl
              have hO := hO.pull 3 rfl
              have hO : St _ _ _ [_, _, _, _] := hO
              refine wl_e hF rfl rfl rfl (c_call hF rfl rfl Try.call35 (ih T ρ d vm hW hV hAc hlen x x' hx hx' s hrs _ hO.own2 (.inr ⟨hnu, by omega⟩))) ?_
              rintro a _ w ⟨T1, ok1, rfl, hP, hl1, hS⟩ hF
              have hO := hO.call2 hS
              have hO : St _ _ _ [_, _, _, _] := hO
              cases ok1
              · skip
                refine wl_v hF rfl rfl rfl (q_notB (hF.eval rfl) rfl rfl) fun a hF => ?_
                refine wl_v hF rfl rfl rfl (q_move rfl (hF.eval rfl)) fun a hF => ?_
                refine wl_sk hF rfl rfl rfl rfl (rfl) rfl rfl fun a hF => ?_
                refine wl_sk hF rfl rfl rfl rfl (rfl) rfl rfl fun a hF => ?_
                refine wl_sk hF rfl rfl rfl rfl (rfl) rfl rfl fun a hF => ?_
                refine wl_sk hF rfl rfl rfl rfl (rfl) rfl rfl fun a hF => ?_
                refine wl_sk hF rfl rfl rfl rfl (rfl) rfl rfl fun a hF => ?_
                refine wl_sk hF rfl rfl rfl rfl (rfl) rfl rfl fun a hF => ?_
                refine wl_sk hF rfl rfl rfl rfl (rfl) rfl rfl fun a hF => ?_
                refine wl_v hF rfl rfl rfl (q_pickT rfl (hF.eval rfl) rfl) fun a hF => ?_
                refine wl_nil ?_
                refine k_n ?_
                refine wp_ifD hF rfl (dec_b _) (fun hc9 => ?_) (fun hc9 => ?_)
                · skip
                  refine wp_seq ?_
                  refine wp_region_lit ?_
                  refine wl_v hF rfl rfl rfl (q_assign rfl (hF.eval rfl)) fun a hF => ?_
                  refine wl_nil ?_
                  refine k_n ?_
                  refine wp_ret ?_
                  refine k_r ?_
                  refine r_1 hF rfl rfl ?_
                  have hO := hO.drop1 2
                  have hO := hO.drop1 2
                  have hO : St _ _ _ [_, _] := hO
                  exact ⟨T1, false, rfl, sm_fail1 hW hi hj ka4 (g1.symm.trans ka4) hx2 hy2 hx2' hy2' hP, hl1, hO⟩
                · skip
                  exact absurd rfl hc9
              · skip
                obtain ⟨ρ1, d1, hM1⟩ := hP.2.1 rfl
                have hx1 : y ∈ (stoL T1).ids := by rw [hP.1.ids]; exact hy
                have hx1' : y' ∈ (stoL T1).ids := by rw [hP.1.ids]; exact hy'
                obtain ⟨u1, hu1⟩ := hM1.acy y hx1
                have hlx : uvN (stoL T1) < nu ∨ (uvN (stoL T1) = nu ∧ u1.nodes < (RT.app s u).nodes) := by
                  rcases hM1.less with h | ⟨h1, h2⟩
                  · exact .inl (by omega)
                  · refine .inr ⟨by omega, ?_⟩
                    rw [hu1.uniq (h2 y u hru)]; omega
                refine wl_v hF rfl rfl rfl (q_notB (hF.eval rfl) rfl rfl) fun a hF => ?_
                refine wl_v hF rfl rfl rfl (q_move rfl (hF.eval rfl)) fun a hF => ?_
                refine wl_un hF rfl rfl rfl rfl (rfl) ?_
                refine wl_v hF rfl rfl rfl (q_move rfl (hF.eval rfl)) fun a hF => ?_
                refine wl_un hF rfl rfl rfl rfl (rfl) ?_
                refine wl_v hF rfl rfl rfl (q_fieldAddr0 (d := 4) Try.underlying106 rfl (hF.eval rfl) rfl Try.sizeOf74 (by decide) rfl) fun a hF => ?_
                refine wl_un hF rfl rfl rfl rfl (rfl) ?_
                refine wl_v hF rfl rfl rfl (q_load Try.isAgg74 rfl (hF.eval rfl) (own_r (hO.ok (i := 3) rfl) hy2)) fun a hF => ?_
                refine wl_un hF rfl rfl rfl rfl (rfl) ?_
                refine wl_v hF rfl rfl rfl (q_fieldAddr0 (d := 4) Try.underlying106 rfl (hF.eval rfl) rfl Try.sizeOf74 (by decide) rfl) fun a hF => ?_
                refine wl_un hF rfl rfl rfl rfl (rfl) ?_
                refine wl_v hF rfl rfl rfl (q_load Try.isAgg74 rfl (hF.eval rfl) (own_r (hO.ok (i := 2) rfl) hy2')) fun a hF => ?_
                refine wl_un hF rfl rfl rfl rfl (rfl) ?_
                have hO := hO.pull 1 rfl
                have hO := hO.pull 1 rfl
                have hO : St _ _ _ [_, _, _, _] := hO
                refine wl_e hF rfl rfl rfl (c_call hF rfl rfl Try.call35 (ih T1 ρ1 d1 vm hM1.wf (hV.shp hP.1) hM1.acy (by omega) y y' hx1 hx1' u1 hu1 _ hO.own2 hlx)) ?_
                rintro a _ w ⟨T2, ok2, rfl, hP2, hl2, hS⟩ hF
                have hO := hO.call2 hS
                have hO : St _ _ _ [_, _, _, _] := hO
                refine wl_un hF rfl rfl rfl rfl (rfl) ?_
                refine wl_v hF rfl rfl rfl (q_notB (hF.eval rfl) rfl rfl) fun a hF => ?_
                refine wl_v hF rfl rfl rfl (q_pickF rfl (hF.eval rfl) (hF.eval rfl)) fun a hF => ?_
                refine wl_nil ?_
                refine k_n ?_
                refine wp_ifD hF rfl (dec_b _) (fun hc10 => ?_) (fun hc10 => ?_)
                · skip
                  have hok : ok2 = false := by cases ok2 with | false => rfl | true => exact absurd hc10 (by simp)
                  subst hok
                  refine wp_seq ?_
                  refine wp_region_lit ?_
                  refine wl_v hF rfl rfl rfl (q_assign rfl (hF.eval rfl)) fun a hF => ?_
                  refine wl_nil ?_
                  refine k_n ?_
                  refine wp_ret ?_
                  refine k_r ?_
                  refine r_1 hF rfl rfl ?_
                  have hO := hO.drop1 2
                  have hO := hO.drop1 2
                  have hO : St _ _ _ [_, _] := hO
                  exact ⟨T2, false, rfl, sm_fail2 hW hi hj ka4 (g1.symm.trans ka4) hx2 hy2 hx2' hy2' hP.1 hM1 hP2, by omega, hO⟩
                · skip
                  have hok : ok2 = true := by cases ok2 with | true => rfl | false => exact absurd rfl hc10
                  subst hok
                  obtain ⟨ρ2, d2, hM2⟩ := hP2.2.1 rfl
                  have ha2 : ρ i ∈ (stoL T2).ids := by rw [hP2.1.ids, hP.1.ids]; exact ha
                  refine wp_skip ?_
                  refine k_n ?_
                  refine wp_seq ?_
                  refine wp_region_lit ?_
                  refine wl_v hF rfl rfl rfl (q_move rfl (hF.eval rfl)) fun a hF => ?_
                  refine wl_v hF rfl rfl rfl (q_nilCheck rfl (hF.eval rfl)) fun a hF => ?_
                  refine wl_v hF rfl rfl rfl (q_fieldAddr0 (d := 0) Try.underlying69 rfl (hF.eval rfl) rfl Try.sizeOf67 (by decide) rfl) fun a hF => ?_
                  refine wl_v hF rfl rfl rfl (q_load Try.isAgg67 rfl (hF.eval rfl) (hO.cell 0 rfl rfl)) fun a hF => ?_
                  refine wl_v hF rfl rfl rfl (q_move rfl (hF.eval rfl)) fun a hF => ?_
                  refine wl_v hF rfl rfl rfl (q_sub rfl (hF.eval rfl) (hF.eval rfl) (by omega)) fun a hF => ?_
                  refine wl_v hF rfl rfl rfl (q_move rfl (hF.eval rfl)) fun a hF => ?_
                  refine wl_v hF rfl rfl rfl (q_at (i := (ρ i - 1)) (hO.rd 1 rfl) Try.underlying67 Try.sizeOf106 rfl (hF.eval rfl) ((hF.eval rfl).trans (congrArg i64 (pred_eq ham.1))) (by have := mem_sto.1 ha2; omega)) fun a hF => ?_
                  refine wl_v hF rfl rfl rfl (q_fieldAddr0 (d := 0) Try.underlying106 rfl (hF.eval rfl) rfl Try.sizeOf74 (by decide) rfl) fun a hF => ?_
                  refine wl_s hF rfl rfl (e_storeElT (m := (ρ i - 1)) (off := 0) (q := { (stoL T2).tm (ρ i) with same := some (ρ j) }) hO (i := 1) rfl Try.sizeOf74 rfl ((hF.eval rfl).trans (congrArg ptr (add_add' _ _ _))) rfl (hF.eval rfl) rfl (sto_at ha2) rfl (Nat.le_of_ble_eq_true rfl) rfl (all1 rfl)) ?_
                  rintro a _ w ⟨-, hO⟩ hF
                  have hO : St _ _ _ [_, _, _, _] := hO
                  refine wl_nil ?_
                  refine k_n ?_
                  refine wp_seq ?_
                  refine wp_region_lit ?_
                  refine wl_v hF rfl rfl rfl (q_assign rfl (hF.eval rfl)) fun a hF => ?_
                  refine wl_nil ?_
                  refine k_n ?_
                  refine wp_ret ?_
                  refine r_1 hF rfl rfl ?_
                  have hO := hO.drop1 2
                  have hO := hO.drop1 2
                  have hO : St _ _ _ [_, _] := hO
                  refine ⟨(T2.set (ρ i - 1) { (stoL T2).tm (ρ i) with same := some (ρ j) }), true, rfl, ?_, by rw [List.length_set]; omega, hO⟩
                  rw [sto_set ha2]
                  exact sm_app hV hW hi hj hc1 ka4 (g1.symm.trans ka4) hx2 hy2 hx2' hy2' hP.1 hM1 hP2.1 hM2


theorem sameS_r (sb : Nat) (vT : Value) : ∀ (nu n : Nat) (T : List Tm) (ρ d : Nat → Nat) (vm : Nam → Option Nat) (hW : WfS (stoL T) ρ d) (hV : VmOk (stoL T) vm) (hAc : Acy (stoL T) ρ) (hlen : T.length ≤ 1099511627776) (i j : Nat) (hi : i ∈ (stoL T).ids) (hj : j ∈ (stoL T).ids) (t : RT), Res (stoL T) ρ i t → uvN (stoL T) = nu → t.nodes < n → ∀ (w0 : World), Owns w0 [.ob sb 69 [vT], slT vT 106 thE T] → Ret Try.prog 35 #[ptr (adr sb), i64 i, i64 j] w0 (fun v w' => ∃ T' ok, v = .bool ok ∧ SmPost (stoL T) ρ i j (stoL T') ok ∧ T'.length = T.length ∧ St w0 (blks [.ob sb 69 [vT], slT vT 106 thE T]) w' [.ob sb 69 [vT], slT vT 106 thE T']) := fun nu => by
  induction nu using Nat.strongRecOn with
  | _ nu ih1 =>
    intro n
    induction n with
    | zero => intro _ _ _ _ _ _ _ _ _ _ _ _ _ _ _ h; exact absurd h (Nat.not_lt_zero _)
    | succ n ih2 =>
      intro T ρ d vm hW hV hAc hlen i j hi hj t ht hnu hn w0 hA
      refine sameS_i sb vT T ρ d vm hW hV hAc hlen i j hi hj nu hnu t ht (fun T ρ d vm hW hV hAc hlen i j hi hj t' ht' w0 hA h => ?_) w0 hA
      rcases h with h | ⟨h1, h2⟩
      · exact ih1 _ h (t'.nodes + 1) T ρ d vm hW hV hAc hlen i j hi hj t' ht' rfl (by omega) w0 hA
      · exact ih2 T ρ d vm hW hV hAc hlen i j hi hj t' ht' h1 (by omega) w0 hA
end Go.Proofs.Ytfkmlcgccffmnaa
namespace Go.Proofs.Ytfkmlcgccffmnaa
open Go
set_option maxRecDepth 100000
set_option linter.unusedVariables false
theorem put_r (w0 : World) (sb : Nat) (vT : Value) (T : List Tm) (kind : Int) (name : List UInt8) (lo ro : Option Nat) (hA : Owns w0 [.ob sb 69 [vT], slT vT 106 thE T]) (hlen : T.length ≤ 1099511627776) : Ret Try.prog 61 #[ptr (adr sb), i64 kind, str name, i64 (onI lo), i64 (onI ro)] w0 (fun v w' => ∃ vT', v = i64 ((T.length + 1 : Nat) : Int) ∧ St w0 (blks [.ob sb 69 [vT], slT vT 106 thE T]) w' [.ob sb 69 [vT'], slT vT' 106 thE (T ++ [⟨kind, name, lo, ro, none, 0⟩])]) := by
  have hO := St.init hA
  refine ret_of (m := 30) Try.func61 rfl Try.ntmps61 [(0, ptr (adr sb)), (1, i64 kind), (2, str name), (3, i64 (onI lo)), (4, i64 (onI ro))] rfl ⟨rfl, rfl, rfl, rfl, rfl, trivial⟩ fun a hF => ?_
  refine wp_seq ?_
  refine wp_region_lit ?_
  refine wl_v hF rfl rfl rfl (q_assign rfl (hF.eval rfl)) fun a hF => ?_
  refine wl_nil ?_
  refine k_n ?_
  refine wp_seq ?_
  refine wp_region_lit ?_
  refine wl_v hF rfl rfl rfl (q_move rfl (hF.eval rfl)) fun a hF => ?_
  refine wl_v hF rfl rfl rfl (q_move rfl (hF.eval rfl)) fun a hF => ?_
  refine wl_v hF rfl rfl rfl (q_nilCheck rfl (hF.eval rfl)) fun a hF => ?_
  refine wl_v hF rfl rfl rfl (q_fieldAddr0 (d := 0) Try.underlying69 rfl (hF.eval rfl) rfl Try.sizeOf67 (by decide) rfl) fun a hF => ?_
  refine wl_v hF rfl rfl rfl (q_load Try.isAgg67 rfl (hF.eval rfl) (hO.cell 0 rfl rfl)) fun a hF => ?_
  refine wl_v hF rfl rfl rfl (q_move rfl (hF.eval rfl)) fun a hF => ?_
  refine wl_v hF rfl rfl rfl (q_move rfl (hF.eval rfl)) fun a hF => ?_
  refine wl_v hF rfl rfl rfl (q_move rfl (hF.eval rfl)) fun a hF => ?_
  refine wl_v hF rfl rfl rfl (q_move rfl (hF.eval rfl)) fun a hF => ?_
  refine wl_v hF rfl rfl rfl (c_build hF Try.underlying106 Try.zeroValue106 Try_places106 rfl rfl rfl rfl) fun a hF => ?_
  refine wl_e hF rfl rfl rfl (c_buildSlice hF hO Try.underlying67 Try.sizeOf106 Try.zeroValue106 rfl rfl rfl rfl rfl rfl rfl) ?_
  rintro a _ w ⟨b1, rfl, hO⟩ hF
  refine wl_e hF rfl rfl rfl (e_appendT (bytes := 48) (r := [⟨kind, name, lo, ro, none, 0⟩]) hO (i := 2) rfl (hO.rd 0 rfl) Try.underlying67 Try_info106 rfl rfl rfl rfl rfl rfl (hF.eval rfl) (hF.eval rfl) (by show (List.length _ + 1) * 48 ≤ _; omega) (by show List.length _ + 1 ≤ _; omega)) ?_
  rintro a v22 w hO hF
  have hO : St _ _ _ [_, _, _] := hO
  refine wl_v hF rfl rfl rfl (q_nilCheck rfl (hF.eval rfl)) fun a hF => ?_
  refine wl_v hF rfl rfl rfl (q_fieldAddr0 (d := 0) Try.underlying69 rfl (hF.eval rfl) rfl Try.sizeOf67 (by decide) rfl) fun a hF => ?_
  refine wl_s hF rfl rfl (e_store1 hO (i := 1) rfl Try.sizeOf67 rfl (hF.eval rfl) (hF.eval rfl) (cells_one (hO.slOne 2 rfl)) rfl (hO.slOne 2 rfl)) ?_
  rintro a _ w ⟨-, hO⟩ hF
  have hO : St _ _ _ [_, _, _] := hO
  refine wl_nil ?_
  refine k_n ?_
  refine wp_seq ?_
  refine wp_region_lit ?_
  refine wl_v hF rfl rfl rfl (q_move rfl (hF.eval rfl)) fun a hF => ?_
  refine wl_v hF rfl rfl rfl (q_nilCheck rfl (hF.eval rfl)) fun a hF => ?_
  refine wl_v hF rfl rfl rfl (q_fieldAddr0 (d := 0) Try.underlying69 rfl (hF.eval rfl) rfl Try.sizeOf67 (by decide) rfl) fun a hF => ?_
  refine wl_v hF rfl rfl rfl (q_load Try.isAgg67 rfl (hF.eval rfl) (hO.cell 1 rfl rfl)) fun a hF => ?_
  refine wl_v hF rfl rfl rfl (q_lenRd (hO.rd 2 rfl) Try.underlying67 rfl (hF.eval rfl)) fun a hF => ?_
  refine wl_v hF rfl rfl rfl (q_assign rfl (hF.eval rfl)) fun a hF => ?_
  refine wl_nil ?_
  refine k_n ?_
  refine wp_ret ?_
  refine r_1 hF rfl rfl ?_
  have hO := hO.drop1 0
  have hO : St _ _ _ [_, _] := hO
  exact ⟨_, by rw [List.length_append]; rfl, hO⟩

theorem get_r (w0 : World) (nb : Nat) (va vb : Value) (vl : List (Nam × Nat)) (hs : Rd w0 [] (gl1 nb) 2 1 [va, vb]) (hN : RdT w0 [] va strE (vl.map (·.1))) (hV : RdT w0 [] vb intE (vl.map fun p => (p.2 : Int))) (name : Nam) : Ret Try.prog 37 #[ptr (adr nb), str name] w0 (fun v w' => v = i64 (onI (vmL vl name)) ∧ St w0 [] w' []) := by
  have hO := St.init0 w0
  have hl0 := hN.lenle
  have hl1 : (vl.map (·.1)).length = vl.length := List.length_map _
  have hl2 : (vl.map fun p => (p.2 : Int)).length = vl.length := List.length_map _
  refine ret_of (m := 31) Try.func37 rfl Try.ntmps37 [(0, ptr (adr nb)), (1, str name)] rfl ⟨rfl, rfl, trivial⟩ fun a hF => ?_
  refine wp_seq ?_
  refine wp_region_lit ?_
  refine wl_v hF rfl rfl rfl (q_assign rfl (hF.eval rfl)) fun a hF => ?_
  refine wl_nil ?_
  refine k_n ?_
  refine wp_seq ?_
  refine wp_seq ?_
  refine wp_region_lit ?_
  refine wl_v hF rfl rfl rfl (q_assign rfl (hF.eval rfl)) fun a hF => ?_
  refine wl_nil ?_
  refine k_n ?_
  refine wp_block ?_
  have hO : St _ _ _ [] := hO
  refine wp_loopS (fun (i : Nat) a w' => (i ≤ vl.length ∧ ∀ q ∈ vl.take i, ¬ q.1 = name) ∧ St w0 [] w' [] ∧ Fr a 31 [(0, ptr (adr nb)), (1, str name), (5, i64 i)]) (fun (i : Nat) => vl.length - i) 0 ⟨⟨by omega, fun q hq => by simp at hq⟩, hO, hF.sub ⟨rfl, rfl, rfl, trivial⟩⟩ ?_
  rintro i a w ⟨⟨hi, hq⟩, hO, hF⟩
  refine wp_seq ?_
  refine wp_seq ?_
  refine wp_region_lit ?_
  refine wl_v hF rfl rfl rfl (q_move rfl (hF.eval rfl)) fun a hF => ?_
  refine wl_v hF rfl rfl rfl (q_move rfl (hF.eval rfl)) fun a hF => ?_
  refine wl_v hF rfl rfl rfl (q_nilCheck rfl (hF.eval rfl)) fun a hF => ?_
  refine wl_v hF rfl rfl rfl (q_fieldAddr0 (d := 0) Try.underlying73 rfl (hF.eval rfl) rfl Try.sizeOf56 (by decide) rfl) fun a hF => ?_
  refine wl_v hF rfl rfl rfl (q_load Try.isAgg56 rfl (hF.eval rfl) (rdB_cell (hs.now hO) rfl)) fun a hF => ?_
  refine wl_v hF rfl rfl rfl (q_lenRd hN Try.underlying56 rfl (hF.eval rfl)) fun a hF => ?_
  refine wl_v hF rfl rfl rfl (q_lt rfl (hF.eval rfl) (hF.eval rfl)) fun a hF => ?_
  refine wl_nil ?_
  refine k_n ?_
  refine wp_ifD hF rfl rfl (fun hc1 => ?_) (fun hc1 => ?_)
  · skip
    refine wp_skip ?_
    refine k_n ?_
    refine wp_seq ?_
    refine wp_block ?_
    refine wp_seq ?_
    refine wp_region_lit ?_
    refine wl_v hF rfl rfl rfl (q_move rfl (hF.eval rfl)) fun a hF => ?_
    refine wl_v hF rfl rfl rfl (q_nilCheck rfl (hF.eval rfl)) fun a hF => ?_
    refine wl_v hF rfl rfl rfl (q_fieldAddr0 (d := 0) Try.underlying73 rfl (hF.eval rfl) rfl Try.sizeOf56 (by decide) rfl) fun a hF => ?_
    refine wl_v hF rfl rfl rfl (q_load Try.isAgg56 rfl (hF.eval rfl) (rdB_cell (hs.now hO) rfl)) fun a hF => ?_
    refine wl_v hF rfl rfl rfl (q_move rfl (hF.eval rfl)) fun a hF => ?_
    obtain ⟨x0, hx0⟩ := get_ex (l := vl) (i := i) (by omega)
    have hxa : (vl.map (·.1))[i]? = some x0.1 := by rw [List.getElem?_map, hx0]; rfl
    have hxb : (vl.map fun p => (p.2 : Int))[i]? = some (x0.2 : Int) := by rw [List.getElem?_map, hx0]; rfl
    refine wl_v hF rfl rfl rfl (q_at (i := i) hN Try.underlying56 Try.sizeOf9 rfl (hF.eval rfl) (hF.eval rfl) (by omega)) fun a hF => ?_
    refine wl_v hF rfl rfl rfl (q_load Try.isAgg9 rfl (hF.eval rfl) (RdT.cell0 (hN.now hO) hxa rfl)) fun a hF => ?_
    refine wl_v hF rfl rfl rfl (q_move rfl (hF.eval rfl)) fun a hF => ?_
    refine wl_v hF rfl rfl rfl (q_seq rfl (hF.eval rfl) (hF.eval rfl)) fun a hF => ?_
    refine wl_nil ?_
    refine k_n ?_
    refine wp_ifD hF rfl rfl (fun hc2 => ?_) (fun hc2 => ?_)
    · skip
      refine wp_seq ?_
      refine wp_region_lit ?_
      refine wl_v hF rfl rfl rfl (q_move rfl (hF.eval rfl)) fun a hF => ?_
      refine wl_v hF rfl rfl rfl (q_nilCheck rfl (hF.eval rfl)) fun a hF => ?_
      refine wl_v hF rfl rfl rfl (q_fieldAddr0 (d := 1) Try.underlying73 rfl (hF.eval rfl) rfl Try.sizeOf71 (by decide) rfl) fun a hF => ?_
      refine wl_v hF rfl rfl rfl (q_load Try.isAgg71 rfl (hF.eval rfl) (rdB_cell (hs.now hO) rfl)) fun a hF => ?_
      refine wl_v hF rfl rfl rfl (q_move rfl (hF.eval rfl)) fun a hF => ?_
      refine wl_v hF rfl rfl rfl (q_at (i := i) hV Try.underlying71 Try.sizeOf74 rfl (hF.eval rfl) (hF.eval rfl) (by omega)) fun a hF => ?_
      refine wl_v hF rfl rfl rfl (q_load Try.isAgg74 rfl (hF.eval rfl) (RdT.cell0 (hV.now hO) hxb rfl)) fun a hF => ?_
      refine wl_v hF rfl rfl rfl (q_assign rfl (hF.eval rfl)) fun a hF => ?_
      refine wl_nil ?_
      refine k_n ?_
      refine wp_ret ?_
      refine b_r ?_
      refine k_r ?_
      refine k_r ?_
      refine b_r ?_
      refine k_r ?_
      refine r_1 hF rfl rfl ?_
      have hO : St _ _ _ [] := hO
      exact ⟨by rw [vmL_at hq hx0 hc2]; rfl, hO⟩
    · skip
      refine wp_skip ?_
      refine b_n ?_
      refine k_n ?_
      refine wp_region_lit ?_
      refine wl_v hF rfl rfl rfl (q_move rfl (hF.eval rfl)) fun a hF => ?_
      refine wl_v hF rfl rfl rfl (q_add rfl (hF.eval rfl) (hF.eval rfl) (by omega)) fun a hF => ?_
      refine wl_v hF rfl rfl rfl (q_assign rfl (hF.eval rfl)) fun a hF => ?_
      refine wl_nil ?_
      refine k_n ?_
      have hO : St _ _ _ [] := hO
      exact ⟨i + 1, ⟨⟨by omega, fun q hq2 => by rw [takeAt hx0] at hq2; rcases List.mem_append.1 hq2 with h | h; exact hq q h; rw [List.mem_singleton.1 h]; exact hc2⟩, hO, hF.sub ⟨rfl, rfl, rfl, trivial⟩⟩, by omega⟩
  · skip
    refine wp_exit ?_
    refine k_x ?_
    refine k_x ?_
    refine b_x ?_
    refine k_n ?_
    refine wp_seq ?_
    refine wp_region_lit ?_
    refine wl_v hF rfl rfl rfl (q_assign rfl (hF.eval rfl)) fun a hF => ?_
    refine wl_nil ?_
    refine k_n ?_
    refine wp_ret ?_
    refine r_1 hF rfl rfl ?_
    have hO : St _ _ _ [] := hO
    have hn : vmL vl name = none := vmL_none.2 fun h => by
      obtain ⟨q, hq1, hq2⟩ := List.mem_map.1 h
      exact hq q (by rw [List.take_of_length_le (by omega)]; exact hq1) hq2
    exact ⟨by rw [hn]; rfl, hO⟩

theorem nput_r (w0 : World) (nb : Nat) (va vb : Value) (vl : List (Nam × Nat)) (hA : Owns w0 [.ob nb 73 [va, vb], slT va 9 strE (vl.map (·.1)), slT vb 74 intE (vl.map fun p => (p.2 : Int))]) (hlen : vl.length ≤ 1099511627776) (name : Nam) (k : Nat) : Ret Try.prog 60 #[ptr (adr nb), str name, i64 k] w0 (fun v w' => ∃ va' vb', v = .tuple #[] ∧ St w0 (blks [.ob nb 73 [va, vb], slT va 9 strE (vl.map (·.1)), slT vb 74 intE (vl.map fun p => (p.2 : Int))]) w' [.ob nb 73 [va', vb'], slT va' 9 strE ((vl ++ [(name, k)]).map (·.1)), slT vb' 74 intE ((vl ++ [(name, k)]).map fun p => (p.2 : Int))]) := by
  have hO := St.init hA
  have hl1 : (vl.map (·.1)).length = vl.length := List.length_map _
  have hl2 : (vl.map fun p => (p.2 : Int)).length = vl.length := List.length_map _
  refine ret_of (m := 26) Try.func60 rfl Try.ntmps60 [(0, ptr (adr nb)), (1, str name), (2, i64 k)] rfl ⟨rfl, rfl, rfl, trivial⟩ fun a hF => ?_
  refine wp_seq ?_
  refine wp_region_lit ?_
  refine wl_v hF rfl rfl rfl (q_move rfl (hF.eval rfl)) fun a hF => ?_
  refine wl_v hF rfl rfl rfl (q_move rfl (hF.eval rfl)) fun a hF => ?_
  refine wl_v hF rfl rfl rfl (q_nilCheck rfl (hF.eval rfl)) fun a hF => ?_
  refine wl_v hF rfl rfl rfl (q_fieldAddr0 (d := 0) Try.underlying73 rfl (hF.eval rfl) rfl Try.sizeOf56 (by decide) rfl) fun a hF => ?_
  refine wl_v hF rfl rfl rfl (q_load Try.isAgg56 rfl (hF.eval rfl) (hO.cell 0 rfl rfl)) fun a hF => ?_
  refine wl_v hF rfl rfl rfl (q_move rfl (hF.eval rfl)) fun a hF => ?_
  refine wl_e hF rfl rfl rfl (c_buildSlice hF hO Try.underlying56 Try.sizeOf9 Try.zeroValue9 rfl rfl rfl rfl rfl rfl rfl) ?_
  rintro a _ w ⟨b1, rfl, hO⟩ hF
  refine wl_e hF rfl rfl rfl (e_appendT (bytes := 16) (r := [name]) hO (i := 2) rfl (hO.rd 0 rfl) Try.underlying56 Try_info9 rfl rfl rfl rfl rfl rfl (hF.eval rfl) (hF.eval rfl) (by show (List.length _ + 1) * 16 ≤ _; omega) (by show List.length _ + 1 ≤ _; omega)) ?_
  rintro a v13 w hO hF
  have hO : St _ _ _ [_, _, _, _] := hO
  refine wl_v hF rfl rfl rfl (q_nilCheck rfl (hF.eval rfl)) fun a hF => ?_
  refine wl_v hF rfl rfl rfl (q_fieldAddr0 (d := 0) Try.underlying73 rfl (hF.eval rfl) rfl Try.sizeOf56 (by decide) rfl) fun a hF => ?_
  refine wl_s hF rfl rfl (e_store1 hO (i := 1) rfl Try.sizeOf56 rfl (hF.eval rfl) (hF.eval rfl) (cells_one (hO.slOne 2 rfl)) rfl (hO.slOne 2 rfl)) ?_
  rintro a _ w ⟨-, hO⟩ hF
  have hO : St _ _ _ [_, _, _, _] := hO
  refine wl_nil ?_
  refine k_n ?_
  refine wp_region_lit ?_
  refine wl_v hF rfl rfl rfl (q_move rfl (hF.eval rfl)) fun a hF => ?_
  refine wl_v hF rfl rfl rfl (q_move rfl (hF.eval rfl)) fun a hF => ?_
  refine wl_v hF rfl rfl rfl (q_nilCheck rfl (hF.eval rfl)) fun a hF => ?_
  refine wl_v hF rfl rfl rfl (q_fieldAddr0 (d := 1) Try.underlying73 rfl (hF.eval rfl) rfl Try.sizeOf71 (by decide) rfl) fun a hF => ?_
  refine wl_v hF rfl rfl rfl (q_load Try.isAgg71 rfl (hF.eval rfl) (hO.cell 1 rfl rfl)) fun a hF => ?_
  refine wl_v hF rfl rfl rfl (q_move rfl (hF.eval rfl)) fun a hF => ?_
  refine wl_e hF rfl rfl rfl (c_buildSlice hF hO Try.underlying71 Try.sizeOf74 Try.zeroValue74 rfl rfl rfl rfl rfl rfl rfl) ?_
  rintro a _ w ⟨b2, rfl, hO⟩ hF
  refine wl_e hF rfl rfl rfl (e_appendT (bytes := 8) (r := [(k : Int)]) hO (i := 4) rfl (hO.rd 0 rfl) Try.underlying71 Try_info74 rfl rfl rfl rfl rfl rfl (hF.eval rfl) (hF.eval rfl) (by show (List.length _ + 1) * 8 ≤ _; omega) (by show List.length _ + 1 ≤ _; omega)) ?_
  rintro a v23 w hO hF
  have hO : St _ _ _ [_, _, _, _, _] := hO
  refine wl_v hF rfl rfl rfl (q_nilCheck rfl (hF.eval rfl)) fun a hF => ?_
  refine wl_v hF rfl rfl rfl (q_fieldAddr0 (d := 1) Try.underlying73 rfl (hF.eval rfl) rfl Try.sizeOf71 (by decide) rfl) fun a hF => ?_
  refine wl_s hF rfl rfl (e_store1 hO (i := 2) rfl Try.sizeOf71 rfl (hF.eval rfl) (hF.eval rfl) (cells_one (hO.slOne 4 rfl)) rfl (hO.slOne 4 rfl)) ?_
  rintro a _ w ⟨-, hO⟩ hF
  have hO : St _ _ _ [_, _, _, _, _] := hO
  refine wl_nil ?_
  refine r_0n hF rfl ?_
  have hO := hO.drop1 0
  have hO := hO.drop1 0
  have hO : St _ _ _ [_, _, _] := hO
  refine ⟨v13, v23, rfl, ?_⟩
  rw [List.map_append, List.map_append]
  exact hO

end Go.Proofs.Ytfkmlcgccffmnaa
namespace Go.Proofs.Ytfkmlcgccffmnaa
open Go
set_option maxRecDepth 100000
set_option linter.unusedVariables false
set_option maxHeartbeats 4000000 in
theorem add_i (sb nb : Nat) (r : RT) (ih : ∀ r' : RT, r'.nodes < r.nodes → ∀ t : TN, ∀ (w0 : World) (vT : Value) (T : List Tm) (va vb : Value) (vl : List (Nam × Nat)) (ρ d : Nat → Nat), WfS (stoL T) ρ d → VmOk (stoL T) (vmL vl) → (vl.map (·.1)).Nodup → T.length + r'.nodes ≤ 1000000000000 → vl.length + r'.nodes ≤ 1000000000000 → Owns w0 [.ob sb 69 [vT], slT vT 106 thE T, .ob nb 73 [va, vb], slT va 9 strE (vl.map (·.1)), slT vb 74 intE (vl.map fun p => (p.2 : Int))] → RdN w0 (blks [.ob sb 69 [vT], slT vT 106 thE T, .ob nb 73 [va, vb], slT va 9 strE (vl.map (·.1)), slT vb 74 intE (vl.map fun p => (p.2 : Int))]) t → t.er = r'.ty → Ret Try.prog 34 #[ptr (adr sb), .agg (tnE.cells t).toArray, ptr (adr nb)] w0 (fun v w' => ∃ vT' T' va' vb' vl' b, v = i64 (b : Nat) ∧ RdPost (stoL T) (vmL vl) r' (stoL T') (vmL vl') b ∧ (AcyE (stoL T) → AcyE (stoL T')) ∧ T'.length ≤ T.length + r'.nodes ∧ vl'.length ≤ vl.length + r'.nodes ∧ (vl'.map (·.1)).Nodup ∧ St w0 (blks [.ob sb 69 [vT], slT vT 106 thE T, .ob nb 73 [va, vb], slT va 9 strE (vl.map (·.1)), slT vb 74 intE (vl.map fun p => (p.2 : Int))]) w' [.ob sb 69 [vT'], slT vT' 106 thE T', .ob nb 73 [va', vb'], slT va' 9 strE (vl'.map (·.1)), slT vb' 74 intE (vl'.map fun p => (p.2 : Int))])) (k : Int) (n : List UInt8) (hd : Hdr) (l : List TN) (w0 : World) (vT : Value) (T : List Tm) (va vb : Value) (vl : List (Nam × Nat)) (ρ d : Nat → Nat) (hW : WfS (stoL T) ρ d) (hV : VmOk (stoL T) (vmL vl)) (hnd : (vl.map (·.1)).Nodup) (hTl : T.length + r.nodes ≤ 1000000000000) (hvl : vl.length + r.nodes ≤ 1000000000000) (hA : Owns w0 [.ob sb 69 [vT], slT vT 106 thE T, .ob nb 73 [va, vb], slT va 9 strE (vl.map (·.1)), slT vb 74 intE (vl.map fun p => (p.2 : Int))]) (hR : RdN w0 (blks [.ob sb 69 [vT], slT vT 106 thE T, .ob nb 73 [va, vb], slT va 9 strE (vl.map (·.1)), slT vb 74 intE (vl.map fun p => (p.2 : Int))]) (TN.mk k n hd l)) (her : (TN.mk k n hd l).er = r.ty) : Ret Try.prog 34 #[ptr (adr sb), .agg (tnE.cells (TN.mk k n hd l)).toArray, ptr (adr nb)] w0 (fun v w' => ∃ vT' T' va' vb' vl' b, v = i64 (b : Nat) ∧ RdPost (stoL T) (vmL vl) r (stoL T') (vmL vl') b ∧ (AcyE (stoL T) → AcyE (stoL T')) ∧ T'.length ≤ T.length + r.nodes ∧ vl'.length ≤ vl.length + r.nodes ∧ (vl'.map (·.1)).Nodup ∧ St w0 (blks [.ob sb 69 [vT], slT vT 106 thE T, .ob nb 73 [va, vb], slT va 9 strE (vl.map (·.1)), slT vb 74 intE (vl.map fun p => (p.2 : Int))]) w' [.ob sb 69 [vT'], slT vT' 106 thE T', .ob nb 73 [va', vb'], slT va' 9 strE (vl'.map (·.1)), slT vb' 74 intE (vl'.map fun p => (p.2 : Int))]) := by
  have hO := St.init hA
  have hrp := r.pos
  refine ret_of (m := 52) Try.func34 rfl Try.ntmps34 [(0, ptr (adr sb)), (1, .agg (tnE.cells (TN.mk k n hd l)).toArray), (2, ptr (adr nb))] rfl ⟨rfl, rfl, rfl, trivial⟩ fun a hF => ?_
  refine wp_seq ?_
  refine wp_region_lit ?_
  refine wl_e hF rfl rfl rfl (e_box hO rfl (hF.eval rfl) rfl) ?_
  rintro a _ w ⟨tk, rfl, hO⟩ hF
  refine wl_v hF rfl rfl rfl (q_assign rfl (hF.eval rfl)) fun a hF => ?_
  refine wl_nil ?_
  refine k_n ?_
  refine wp_seq ?_
  refine wp_seq ?_
  refine wp_region_lit ?_
  refine wl_v hF rfl rfl rfl (q_fieldAddr0 (d := 0) Try.underlying33 rfl (hF.eval rfl) rfl Try.sizeOf3 (by decide) rfl) fun a hF => ?_
  refine wl_v hF rfl rfl rfl (q_load Try.isAgg3 rfl (hF.eval rfl) (hO.cell 0 rfl rfl)) fun a hF => ?_
  refine wl_nil ?_
  refine k_n ?_
  refine wp_block ?_
  refine wp_seq ?_
  refine wp_region_lit ?_
  refine wl_v hF rfl rfl rfl (q_eq rfl (hF.eval rfl) (hF.eval rfl)) fun a hF => ?_
  refine wl_v hF rfl rfl rfl (q_assign rfl (hF.eval rfl)) fun a hF => ?_
  refine wl_nil ?_
  refine k_n ?_
  refine wp_ifD hF rfl rfl (fun hc1 => ?_) (fun hc1 => ?_)
  · skip
    obtain ⟨rfl, rfl⟩ := er_var her hc1
    refine wp_seq ?_
    refine wp_seq ?_
    refine wp_region_lit ?_
    refine wl_v hF rfl rfl rfl (q_move rfl (hF.eval rfl)) fun a hF => ?_
    refine wl_v hF rfl rfl rfl (q_fieldAddr0 (d := 1) Try.underlying33 rfl (hF.eval rfl) rfl Try.sizeOf9 (by decide) rfl) fun a hF => ?_
    refine wl_v hF rfl rfl rfl (q_load Try.isAgg9 rfl (hF.eval rfl) (hO.cell 0 rfl rfl)) fun a hF => ?_
    refine wl_e hF rfl rfl rfl (c_call hF rfl rfl Try.call37 (get_r _ nb _ _ _ (hO.rdOb 3 rfl) (hO.rdT 4 rfl) (hO.rdT 5 rfl) n)) ?_
    rintro a _ w ⟨rfl, hS⟩ hF
    have hO := hO.call0 hS
    have hO : St _ _ _ [_, _, _, _, _, _] := hO
    refine wl_v hF rfl rfl rfl (q_eq rfl (hF.eval rfl) (hF.eval rfl)) fun a hF => ?_
    refine wl_nil ?_
    refine k_n ?_
    refine wp_ifD hF rfl rfl (fun hc2 => ?_) (fun hc2 => ?_)
    · skip
      have hvn : vmL vl n = none := onI_zero (fun b hb => (mem_sto.1 (hV.to n b hb).1).1) hc2
      have hO := hO.drew
      refine wp_region_D [0, 0, 1, 0, 0, 1, 2, 3] (fun w => ∃ L', St w0 (blks [.ob sb 69 [vT], slT vT 106 thE T, .ob nb 73 [va, vb], slT va 9 strE (vl.map (·.1)), slT vb 74 intE (vl.map fun p => (p.2 : Int))]) w (.ob tk 33 (tnE.cells (TN.mk k n hd [])) :: L')) Try_mixed (by kernel_rfl) ⟨_, hO⟩ ?_
      refine wd_p hF rfl rfl rfl (fun w => q_move rfl (hF.eval rfl)) fun a hF => ?_
      refine wd_p hF rfl rfl rfl (fun w => q_fieldAddr0 (d := 1) Try.underlying33 rfl (hF.eval rfl) rfl Try.sizeOf9 (by decide) rfl) fun a hF => ?_
      refine wd_r hF rfl rfl rfl (fun w ⟨_, hO⟩ => q_load Try.isAgg9 rfl (hF.eval rfl) (hO.cell 0 rfl rfl)) fun a hF => ?_
      refine wd_p hF rfl rfl rfl (fun w => q_move rfl (hF.eval rfl)) fun a hF => ?_
      refine wd_p hF rfl rfl rfl (fun w => q_fieldAddr0 (d := 1) Try.underlying33 rfl (hF.eval rfl) rfl Try.sizeOf9 (by decide) rfl) fun a hF => ?_
      refine wd_r hF rfl rfl rfl (fun w ⟨_, hO⟩ => q_load Try.isAgg9 rfl (hF.eval rfl) (hO.cell 0 rfl rfl)) fun a hF => ?_
      have hO := hO.pull 2 rfl
      have hO := hO.pull 2 rfl
      have hO : St _ _ _ [_, _, _, _, _, _] := hO
      refine wd_e hF rfl rfl rfl (c_call hF rfl rfl Try.call61 (put_r _ sb _ _ 52 n none none hO.own2 (by omega))) (fun _ _ ⟨vT2, _, hS⟩ => ⟨_, (hO.call2 hS).pull 2 rfl⟩) ?_
      rintro a _ w ⟨vT2, rfl, hS⟩ hF
      have hO := hO.call2 hS
      have hO : St _ _ _ [_, _, _, _, _, _] := hO
      have hO := hO.pull 5 rfl
      have hO := hO.pull 5 rfl
      have hO := hO.pull 5 rfl
      have hO : St _ _ _ [_, _, _, _, _, _] := hO
      refine wd_f hF rfl rfl rfl (c_call hF rfl rfl Try.call60 (nput_r _ nb _ _ vl hO.own3 (by omega) n (T.length + 1))) ?_
      rintro a _ w ⟨va2, vb2, rfl, hS⟩ hF
      have hO := hO.call3 hS
      have hO : St _ _ _ [_, _, _, _, _, _] := hO
      refine wd_nil ?_
      refine k_n ?_
      refine wp_seq ?_
      refine wp_region_lit ?_
      refine wl_v hF rfl rfl rfl (q_move rfl (hF.eval rfl)) fun a hF => ?_
      refine wl_v hF rfl rfl rfl (q_fieldAddr0 (d := 1) Try.underlying33 rfl (hF.eval rfl) rfl Try.sizeOf9 (by decide) rfl) fun a hF => ?_
      refine wl_v hF rfl rfl rfl (q_load Try.isAgg9 rfl (hF.eval rfl) (hO.cell 5 rfl rfl)) fun a hF => ?_
      refine wl_e hF rfl rfl rfl (c_call hF rfl rfl Try.call37 (get_r _ nb _ _ (vl ++ [(n, T.length + 1)]) (hO.rdOb 0 rfl) (hO.rdT 1 rfl) (hO.rdT 2 rfl) n)) ?_
      rintro a _ w ⟨rfl, hS⟩ hF
      have hO := hO.call0 hS
      have hO : St _ _ _ [_, _, _, _, _, _] := hO
      refine wl_v hF rfl rfl rfl (q_assign rfl (hF.eval rfl)) fun a hF => ?_
      refine wl_nil ?_
      refine k_n ?_
      refine wp_ret ?_
      refine b_r ?_
      refine k_r ?_
      refine r_1 hF rfl rfl ?_
      have hO := hO.drop1 5
      have hO := hO.pull 2 rfl
      have hO := hO.pull 2 rfl
      have hO := hO.pull 2 rfl
      have hO := hO.pull 4 rfl
      have hO := hO.pull 4 rfl
      have hO : St _ _ _ [_, _, _, _, _] := hO
      have hvn2 := vmL_new hvn (T.length + 1)
      have hg : vmL (vl ++ [(n, T.length + 1)]) n = some (T.length + 1) := by rw [hvn2]; exact if_pos rfl
      refine ⟨_, _, _, _, _, T.length + 1, by rw [hg]; rfl, ?_, ?_, ?_, ?_, ?_, hO⟩
      · rw [sto_new, hvn2]; exact read_new hW hV hvn (sto_fresh T) rfl
      · rw [sto_new]; exact fun h => acy_new h (sto_fresh T) rfl (.inl rfl) fun h => by cases h
      · rw [List.length_append]; exact Nat.le_refl _
      · rw [List.length_append]; exact Nat.le_refl _
      · rw [List.map_append, List.nodup_append]; exact ⟨hnd, by simp, fun p hp q hq => by rw [List.mem_singleton.1 hq]; exact fun (e : p = n) => vmL_none.1 hvn (e ▸ hp)⟩
    · skip
      obtain ⟨b, hvb⟩ : ∃ b, vmL vl n = some b := by cases hv : vmL vl n with | some b => exact ⟨b, rfl⟩ | none => exact absurd (by rw [hv]; rfl) hc2
      refine wp_skip ?_
      refine k_n ?_
      refine wp_seq ?_
      refine wp_region_lit ?_
      refine wl_v hF rfl rfl rfl (q_move rfl (hF.eval rfl)) fun a hF => ?_
      refine wl_v hF rfl rfl rfl (q_fieldAddr0 (d := 1) Try.underlying33 rfl (hF.eval rfl) rfl Try.sizeOf9 (by decide) rfl) fun a hF => ?_
      refine wl_v hF rfl rfl rfl (q_load Try.isAgg9 rfl (hF.eval rfl) (hO.cell 0 rfl rfl)) fun a hF => ?_
      refine wl_e hF rfl rfl rfl (c_call hF rfl rfl Try.call37 (get_r _ nb _ _ vl (hO.rdOb 3 rfl) (hO.rdT 4 rfl) (hO.rdT 5 rfl) n)) ?_
      rintro a _ w ⟨rfl, hS⟩ hF
      have hO := hO.call0 hS
      have hO : St _ _ _ [_, _, _, _, _, _] := hO
      refine wl_v hF rfl rfl rfl (q_assign rfl (hF.eval rfl)) fun a hF => ?_
      refine wl_nil ?_
      refine k_n ?_
      refine wp_ret ?_
      refine b_r ?_
      refine k_r ?_
      refine r_1 hF rfl rfl ?_
      have hO := hO.drop1 0
      have hO : St _ _ _ [_, _, _, _, _] := hO
      exact ⟨_, _, _, _, _, b, by rw [hvb]; rfl, read_old hW hV hvb, id, Nat.le_add_right _ _, Nat.le_add_right _ _, hnd, hO⟩
  · skip
    refine wp_seq ?_
    refine wp_region_lit ?_
    refine wl_v hF rfl rfl rfl (q_eq rfl (hF.eval rfl) (hF.eval rfl)) fun a hF => ?_
    refine wl_v hF rfl rfl rfl (q_assign rfl (hF.eval rfl)) fun a hF => ?_
    refine wl_nil ?_
    refine k_n ?_
    refine wp_ifD hF rfl rfl (fun hc3 => ?_) (fun hc3 => ?_)
    · skip
      obtain ⟨rfl, rfl⟩ := er_con her hc3
      refine wp_seq ?_
      refine wp_region_lit ?_
      refine wl_v hF rfl rfl rfl (q_move rfl (hF.eval rfl)) fun a hF => ?_
      refine wl_v hF rfl rfl rfl (q_fieldAddr0 (d := 1) Try.underlying33 rfl (hF.eval rfl) rfl Try.sizeOf9 (by decide) rfl) fun a hF => ?_
      refine wl_v hF rfl rfl rfl (q_load Try.isAgg9 rfl (hF.eval rfl) (hO.cell 0 rfl rfl)) fun a hF => ?_
      have hO := hO.pull 2 rfl
      have hO := hO.pull 2 rfl
      have hO : St _ _ _ [_, _, _, _, _, _] := hO
      refine wl_e hF rfl rfl rfl (c_call hF rfl rfl Try.call61 (put_r _ sb _ _ 53 n none none hO.own2 (by omega))) ?_
      rintro a _ w ⟨vT2, rfl, hS⟩ hF
      have hO := hO.call2 hS
      have hO : St _ _ _ [_, _, _, _, _, _] := hO
      refine wl_v hF rfl rfl rfl (q_assign rfl (hF.eval rfl)) fun a hF => ?_
      refine wl_nil ?_
      refine k_n ?_
      refine wp_ret ?_
      refine b_r ?_
      refine k_r ?_
      refine r_1 hF rfl rfl ?_
      have hO := hO.drop1 2
      have hO : St _ _ _ [_, _, _, _, _] := hO
      refine ⟨_, _, _, _, _, T.length + 1, rfl, ?_, ?_, by rw [List.length_append]; exact Nat.le_refl _, Nat.le_add_right _ _, hnd, hO⟩
      · rw [sto_new]; exact read_con hW hV (sto_fresh T) rfl
      · rw [sto_new]; exact fun h => acy_new h (sto_fresh T) rfl (.inr (.inl rfl)) fun h => by cases h
    · skip
      obtain ⟨ra, rb, ta, tb, rfl, hk4, rfl, rfl, hea, heb⟩ := er_app her hc1 hc3
      have hpa := ra.pos
      have hpb := rb.pos
      have hnn : (RT.app ra rb).nodes = 1 + ra.nodes + rb.nodes := rfl
      refine wp_skip ?_
      refine b_n ?_
      refine k_n ?_
      refine wp_seq ?_
      refine wp_region_lit ?_
      refine wl_v hF rfl rfl rfl (q_move rfl (hF.eval rfl)) fun a hF => ?_
      refine wl_v hF rfl rfl rfl (q_fieldAddr0 (d := 2) Try.underlying33 rfl (hF.eval rfl) rfl Try.sizeOf31 (by decide) rfl) fun a hF => ?_
      refine wl_v hF rfl rfl rfl (q_load Try.isAgg31 rfl (hF.eval rfl) (hO.cell 0 rfl rfl)) fun a hF => ?_
      refine wl_v hF rfl rfl rfl (q_at (i := 0) hR.sl Try.underlying31 Try.sizeOf33 rfl (hF.eval rfl) (hF.eval rfl) (by simp)) fun a hF => ?_
      refine wl_v hF rfl rfl rfl (q_loadAgg Try.isAgg33 Try.sizeOf33 rfl (hF.eval rfl) (RdT.cells (hR.sl.now hO) (show [ta, tb][0]? = some ta from rfl)) rfl) fun a hF => ?_
      refine wl_v hF rfl rfl rfl (q_move rfl (hF.eval rfl)) fun a hF => ?_
      have hO := hO.pull 5 rfl
      have hO := hO.pull 5 rfl
      have hO := hO.pull 5 rfl
      have hO := hO.pull 5 rfl
      have hO := hO.pull 5 rfl
      have hO : St _ _ _ [_, _, _, _, _, _] := hO
      refine wl_e hF rfl rfl rfl (c_call hF rfl rfl Try.call34 (ih ra (by omega) ta _ _ T _ _ vl ρ d hW hV hnd (by omega) (by omega) hO.own5 (RdN.now (St.front (A := [_, _, _, _, _]) hO) (hR.sub ta (by simp))) hea)) ?_
      rintro a _ w ⟨vT1, T1, va1, vb1, vl1, b1, rfl, hP1, hQ1, hT1, hv1, hnd1, hS⟩ hF
      have hO := hO.call5 hS
      have hO : St _ _ _ [_, _, _, _, _, _] := hO
      obtain ⟨ρ1, d1, hW1⟩ := hP1.wf
      refine wl_v hF rfl rfl rfl (q_assign rfl (hF.eval rfl)) fun a hF => ?_
      refine wl_nil ?_
      refine k_n ?_
      refine wp_seq ?_
      refine wp_region_lit ?_
      refine wl_v hF rfl rfl rfl (q_move rfl (hF.eval rfl)) fun a hF => ?_
      refine wl_v hF rfl rfl rfl (q_move rfl (hF.eval rfl)) fun a hF => ?_
      refine wl_v hF rfl rfl rfl (q_move rfl (hF.eval rfl)) fun a hF => ?_
      refine wl_v hF rfl rfl rfl (q_fieldAddr0 (d := 2) Try.underlying33 rfl (hF.eval rfl) rfl Try.sizeOf31 (by decide) rfl) fun a hF => ?_
      refine wl_v hF rfl rfl rfl (q_load Try.isAgg31 rfl (hF.eval rfl) (hO.cell 5 rfl rfl)) fun a hF => ?_
      refine wl_v hF rfl rfl rfl (q_at (i := 1) hR.sl Try.underlying31 Try.sizeOf33 rfl (hF.eval rfl) (hF.eval rfl) (by simp)) fun a hF => ?_
      refine wl_v hF rfl rfl rfl (q_loadAgg Try.isAgg33 Try.sizeOf33 rfl (hF.eval rfl) (RdT.cells (hR.sl.now hO) (show [ta, tb][1]? = some tb from rfl)) rfl) fun a hF => ?_
      refine wl_v hF rfl rfl rfl (q_move rfl (hF.eval rfl)) fun a hF => ?_
      have hO := hO.pull 4 rfl
      have hO := hO.pull 4 rfl
      have hO := hO.pull 4 rfl
      have hO := hO.pull 4 rfl
      have hO := hO.pull 4 rfl
      have hO : St _ _ _ [_, _, _, _, _, _] := hO
      refine wl_e hF rfl rfl rfl (c_call hF rfl rfl Try.call34 (ih rb (by omega) tb _ _ T1 _ _ vl1 ρ1 d1 hW1 hP1.ok hnd1 (by omega) (by omega) hO.own5 (RdN.now (St.front (A := [_, _, _, _, _]) hO) (hR.sub tb (by simp))) heb)) ?_
      rintro a _ w ⟨vT2, T2, va2, vb2, vl2, b2, rfl, hP2, hQ2, hT2, hv2, hnd2, hS⟩ hF
      have hO := hO.call5 hS
      have hO : St _ _ _ [_, _, _, _, _, _] := hO
      have hO := hO.pull 1 rfl
      have hO := hO.pull 1 rfl
      have hO : St _ _ _ [_, _, _, _, _, _] := hO
      refine wl_e hF rfl rfl rfl (c_call hF rfl rfl Try.call61 (put_r _ sb _ _ 54 [] (some b1) (some b2) hO.own2 (by omega))) ?_
      rintro a _ w ⟨vT3, rfl, hS⟩ hF
      have hO := hO.call2 hS
      have hO : St _ _ _ [_, _, _, _, _, _] := hO
      refine wl_v hF rfl rfl rfl (q_assign rfl (hF.eval rfl)) fun a hF => ?_
      refine wl_nil ?_
      refine k_n ?_
      refine wp_ret ?_
      refine r_1 hF rfl rfl ?_
      have hO := hO.drop1 5
      have hO : St _ _ _ [_, _, _, _, _] := hO
      refine ⟨_, _, _, _, _, T2.length + 1, rfl, ?_, ?_, by rw [List.length_append, List.length_singleton]; omega, by omega, hnd2, hO⟩
      · rw [sto_new]; exact read_app hP1 hP2 (sto_fresh T2) rfl
      · rw [sto_new]; exact fun h => acy_new (hQ2 (hQ1 h)) (sto_fresh T2) rfl (.inr (.inr rfl)) fun _ => ⟨rfl, b1, b2, hP2.sub.ids _ hP1.mem, hP2.mem, rfl, rfl⟩


theorem add_r (sb nb : Nat) : ∀ (q : Nat) (r : RT), r.nodes < q → ∀ t : TN, ∀ (w0 : World) (vT : Value) (T : List Tm) (va vb : Value) (vl : List (Nam × Nat)) (ρ d : Nat → Nat), WfS (stoL T) ρ d → VmOk (stoL T) (vmL vl) → (vl.map (·.1)).Nodup → T.length + r.nodes ≤ 1000000000000 → vl.length + r.nodes ≤ 1000000000000 → Owns w0 [.ob sb 69 [vT], slT vT 106 thE T, .ob nb 73 [va, vb], slT va 9 strE (vl.map (·.1)), slT vb 74 intE (vl.map fun p => (p.2 : Int))] → RdN w0 (blks [.ob sb 69 [vT], slT vT 106 thE T, .ob nb 73 [va, vb], slT va 9 strE (vl.map (·.1)), slT vb 74 intE (vl.map fun p => (p.2 : Int))]) t → t.er = r.ty → Ret Try.prog 34 #[ptr (adr sb), .agg (tnE.cells t).toArray, ptr (adr nb)] w0 (fun v w' => ∃ vT' T' va' vb' vl' b, v = i64 (b : Nat) ∧ RdPost (stoL T) (vmL vl) r (stoL T') (vmL vl') b ∧ (AcyE (stoL T) → AcyE (stoL T')) ∧ T'.length ≤ T.length + r.nodes ∧ vl'.length ≤ vl.length + r.nodes ∧ (vl'.map (·.1)).Nodup ∧ St w0 (blks [.ob sb 69 [vT], slT vT 106 thE T, .ob nb 73 [va, vb], slT va 9 strE (vl.map (·.1)), slT vb 74 intE (vl.map fun p => (p.2 : Int))]) w' [.ob sb 69 [vT'], slT vT' 106 thE T', .ob nb 73 [va', vb'], slT va' 9 strE (vl'.map (·.1)), slT vb' 74 intE (vl'.map fun p => (p.2 : Int))])
  | 0, _, h => absurd h (Nat.not_lt_zero _)
  | q + 1, r, h => fun t => by
    obtain ⟨k, n', hd, l⟩ := t
    intro w0 vT T va vb vl ρ d h1 h2 h3 h4 h5 h6 h7 h8
    exact add_i sb nb r (fun r' hr => add_r sb nb q r' (by omega)) k n' hd l w0 vT T va vb vl ρ d h1 h2 h3 h4 h5 h6 h7 h8
end Go.Proofs.Ytfkmlcgccffmnaa
namespace Go.Proofs.Ytfkmlcgccffmnaa
open Go
set_option maxRecDepth 100000
set_option linter.unusedVariables false
set_option maxHeartbeats 2000000 in
theorem count_i (sb : Nat) (vT : Value) (T : List Tm) (ρ d : Nat → Nat) (hW : WfS (stoL T) ρ d) (hlen : T.length ≤ 1099511627776) (t : RT) (ih : ∀ t' : RT, t'.nodes < t.nodes → ∀ (b : Nat) (u : Int) (w0 : World), b ∈ (stoL T).ids → Res (stoL T) ρ b t' → 1 ≤ u → u ≤ 2000 → Rd w0 [] (gl1 sb) 1 1 [vT] → RdT w0 [] vT thE T → Ret Try.prog 38 #[ptr (adr sb), i64 b, i64 u] w0 (fun v w' => v = i64 (cntF t' u) ∧ St w0 [] w' [])) (b : Nat) (u : Int) (w0 : World) (hb : b ∈ (stoL T).ids) (ht : Res (stoL T) ρ b t) (hu1 : 1 ≤ u) (hu2 : u ≤ 2000) (hs : Rd w0 [] (gl1 sb) 1 1 [vT]) (hT : RdT w0 [] vT thE T) : Ret Try.prog 38 #[ptr (adr sb), i64 b, i64 u] w0 (fun v w' => v = i64 (cntF t u) ∧ St w0 [] w' []) := by
  have hO := St.init0 w0
  obtain ⟨ha, ha1⟩ := hW.rep b hb
  have ham := mem_sto.1 ha
  refine ret_of (m := 46) Try.func38 rfl Try.ntmps38 [(0, ptr (adr sb)), (1, i64 b), (2, i64 u)] rfl ⟨rfl, rfl, rfl, trivial⟩ fun a hF => ?_
  refine wp_seq ?_
  refine wp_region_lit ?_
  refine wl_v hF rfl rfl rfl (q_assign rfl (hF.eval rfl)) fun a hF => ?_
  refine wl_nil ?_
  refine k_n ?_
  refine wp_seq ?_
  refine wp_region_5 [0, 0, 0, 1, 0, 0, 5, 0, 0, 1, 4, 3] (fun u A => u = i64 (ρ b) ∧ A = []) Try_mixed (by kernel_rfl) hO ?_
  refine w5_p hF rfl rfl rfl (fun w => q_move rfl (hF.eval rfl)) fun a hF => ?_
  refine w5_p hF rfl rfl rfl (fun w => q_nilCheck rfl (hF.eval rfl)) fun a hF => ?_
  refine w5_p hF rfl rfl rfl (fun w => q_fieldAddr0 (d := 0) Try.underlying69 rfl (hF.eval rfl) rfl Try.sizeOf67 (by decide) rfl) fun a hF => ?_
  refine w5_r hF rfl rfl rfl (fun w hO => q_load Try.isAgg67 rfl (hF.eval rfl) (rdB_cell (hs.now hO) rfl)) fun a hF => ?_
  refine w5_p hF rfl rfl rfl (fun w => q_move rfl (hF.eval rfl)) fun a hF => ?_
  refine w5_p hF rfl rfl rfl (fun w => q_move rfl (hF.eval rfl)) fun a hF => ?_
  refine w5_c hF rfl rfl rfl (fun w hO => Eff.mono (c_call hF rfl rfl Try.call62 (find_r _ sb vT T (hs.at0 hO) (hT.at0 hO) ρ d hW hlen b hb)) (fun u w2 ⟨h1, hS⟩ => ⟨[], ⟨h1, rfl⟩, hS⟩)) ?_
  rintro _ _ a ⟨rfl, rfl⟩ hF
  refine w5_p hF rfl rfl rfl (fun w => q_sub rfl (hF.eval rfl) (hF.eval rfl) (by omega)) fun a hF => ?_
  refine w5_p hF rfl rfl rfl (fun w => q_at (i := (ρ b - 1)) hT Try.underlying67 Try.sizeOf106 rfl (hF.eval rfl) ((hF.eval rfl).trans (congrArg i64 (pred_eq (mem_sto.1 ha).1))) (by have := mem_sto.1 ha; omega)) fun a hF => ?_
  refine w5_r hF rfl rfl rfl (fun w hO => q_loadAgg Try.isAgg106 Try.sizeOf106 rfl (hF.eval rfl) (RdT.cells (hT.now hO) (sto_at ha)) rfl) fun a hF => ?_
  refine w5_m hF rfl rfl rfl (m_alloc Try.zeroValue106 rfl rfl) fun b_xb a hF => ?_
  refine w5_w (fun w hO => ?_) rfl
  have hO : St _ _ _ [_] := hO
  have hO := hO.asOb (i := 0) rfl
  have hO : St _ _ _ [_] := hO
  refine w5_s hF rfl rfl (e_storeAll hO (i := 0) rfl Try.sizeOf106 rfl (hF.eval rfl) (hF.eval rfl) rfl rfl) ?_
  rintro a _ w ⟨-, hO⟩ hF
  have hO : St _ _ _ [_] := hO
  refine w5_nilw ?_
  refine k_n ?_
  refine wp_seq ?_
  refine wp_seq ?_
  refine wp_region_lit ?_
  refine wl_v hF rfl rfl rfl (q_fieldAddr0 (d := 1) Try.underlying106 rfl (hF.eval rfl) rfl Try.sizeOf3 (by decide) rfl) fun a hF => ?_
  refine wl_v hF rfl rfl rfl (q_load Try.isAgg3 rfl (hF.eval rfl) (hO.cell 0 rfl rfl)) fun a hF => ?_
  refine wl_v hF rfl rfl rfl (q_ne rfl (hF.eval rfl) (hF.eval rfl)) fun a hF => ?_
  refine wl_v hF rfl rfl rfl (q_move rfl (hF.eval rfl)) fun a hF => ?_
  refine wl_g hF rfl rfl rfl rfl rfl rfl (fun hg => q_move rfl (hF.eval rfl)) fun a hF => ?_
  refine wl_g hF rfl rfl rfl rfl rfl rfl (fun hg => q_lt rfl ((hF.eval rfl).trans (gv_of hg)) (hF.eval rfl)) fun a hF => ?_
  refine wl_v hF rfl rfl rfl (q_or rfl (hF.eval rfl) rfl (fun hg2 => ((hF.eval rfl).trans (gv_of hg2))) rfl) fun a hF => ?_
  refine wl_nil ?_
  refine k_n ?_
  refine wp_ifD hF rfl rfl (fun hc1 => ?_) (fun hc1 => ?_)
  · skip
    have hcf : cntF t u = 1 := by
      cases ht with
      | var _ => rfl
      | con _ => rfl
      | app hk _ _ _ _ => unfold cntF; rw [if_pos (hc1.resolve_left fun h => h hk)]
    refine wp_seq ?_
    refine wp_region_lit ?_
    refine wl_v hF rfl rfl rfl (q_assign rfl (hF.eval rfl)) fun a hF => ?_
    refine wl_nil ?_
    refine k_n ?_
    refine wp_ret ?_
    refine k_r ?_
    refine r_1 hF rfl rfl ?_
    have hO := hO.drop1 0
    have hO : St _ _ _ [] := hO
    exact ⟨by rw [hcf]; rfl, hO⟩
  · skip
    have hk4 : ((stoL T).tm (ρ b)).kind = 54 := Classical.not_not.1 (not_or.1 hc1).1
    obtain ⟨x, y, s, u9, rfl, hx2, hy2, hrs, hru⟩ := res_app ht hk4
    obtain ⟨-, x', y', hx, hy, hx', hy'⟩ := hW.app _ ha hk4
    rw [hx2] at hx'
    rw [hy2] at hy'
    cases hx'
    cases hy'
    have hps := s.pos
    have hpu := u9.pos
    have hnn : (RT.app s u9).nodes = 1 + s.nodes + u9.nodes := rfl
    have hu3 : ¬ u < 2 := (not_or.1 hc1).2
    have hp1 := cnt_pos s (u - 1)
    have hp2 := cnt_le s (u := u - 1) (by omega)
    have hcf : cntF (.app s u9) u = if u ≤ 1 + cntF s (u - 1) then 1 + cntF s (u - 1) else 1 + cntF s (u - 1) + cntF u9 (u - (1 + cntF s (u - 1))) := by show (if u < 2 then _ else _) = _; rw [if_neg hu3]
    refine wp_skip ?_
    refine k_n ?_
    refine wp_seq ?_
    refine wp_region_lit ?_
    refine wl_v hF rfl rfl rfl (q_move rfl (hF.eval rfl)) fun a hF => ?_
    refine wl_v hF rfl rfl rfl (q_fieldAddr0 (d := 3) Try.underlying106 rfl (hF.eval rfl) rfl Try.sizeOf74 (by decide) rfl) fun a hF => ?_
    refine wl_v hF rfl rfl rfl (q_load Try.isAgg74 rfl (hF.eval rfl) (own_l (hO.ok (i := 0) rfl) hx2)) fun a hF => ?_
    refine wl_v hF rfl rfl rfl (q_move rfl (hF.eval rfl)) fun a hF => ?_
    refine wl_v hF rfl rfl rfl (q_sub rfl (hF.eval rfl) (hF.eval rfl) (by omega)) fun a hF => ?_
    refine wl_e hF rfl rfl rfl (c_call hF rfl rfl Try.call38 (ih s (by omega) x (u - 1) _ hx hrs (by omega) (by omega) (hs.at0 hO) (hT.at0 hO))) ?_
    rintro a _ w ⟨rfl, hS⟩ hF
    have hO := hO.call0 hS
    have hO : St _ _ _ [_] := hO
    refine wl_v hF rfl rfl rfl (q_add rfl (hF.eval rfl) (hF.eval rfl) (by omega)) fun a hF => ?_
    refine wl_v hF rfl rfl rfl (q_assign rfl (hF.eval rfl)) fun a hF => ?_
    refine wl_nil ?_
    refine k_n ?_
    refine wp_seq ?_
    refine wp_seq ?_
    refine wp_region_lit ?_
    refine wl_v hF rfl rfl rfl (q_move rfl (hF.eval rfl)) fun a hF => ?_
    refine wl_v hF rfl rfl rfl (q_move rfl (hF.eval rfl)) fun a hF => ?_
    refine wl_v hF rfl rfl rfl (q_ge rfl (hF.eval rfl) (hF.eval rfl)) fun a hF => ?_
    refine wl_nil ?_
    refine k_n ?_
    refine wp_ifD hF rfl rfl (fun hc2 => ?_) (fun hc2 => ?_)
    · skip
      refine wp_seq ?_
      refine wp_region_lit ?_
      refine wl_v hF rfl rfl rfl (q_move rfl (hF.eval rfl)) fun a hF => ?_
      refine wl_v hF rfl rfl rfl (q_assign rfl (hF.eval rfl)) fun a hF => ?_
      refine wl_nil ?_
      refine k_n ?_
      refine wp_ret ?_
      refine k_r ?_
      refine r_1 hF rfl rfl ?_
      have hO := hO.drop1 0
      have hO : St _ _ _ [] := hO
      exact ⟨by rw [hcf, if_pos hc2], hO⟩
    · skip
      have hp3 := cnt_pos u9 (u - (1 + cntF s (u - 1)))
      have hp4 := cnt_le u9 (u := u - (1 + cntF s (u - 1))) (by omega)
      refine wp_skip ?_
      refine k_n ?_
      refine wp_seq ?_
      refine wp_region_lit ?_
      refine wl_v hF rfl rfl rfl (q_move rfl (hF.eval rfl)) fun a hF => ?_
      refine wl_v hF rfl rfl rfl (q_move rfl (hF.eval rfl)) fun a hF => ?_
      refine wl_v hF rfl rfl rfl (q_fieldAddr0 (d := 4) Try.underlying106 rfl (hF.eval rfl) rfl Try.sizeOf74 (by decide) rfl) fun a hF => ?_
      refine wl_v hF rfl rfl rfl (q_load Try.isAgg74 rfl (hF.eval rfl) (own_r (hO.ok (i := 0) rfl) hy2)) fun a hF => ?_
      refine wl_v hF rfl rfl rfl (q_move rfl (hF.eval rfl)) fun a hF => ?_
      refine wl_v hF rfl rfl rfl (q_move rfl (hF.eval rfl)) fun a hF => ?_
      refine wl_v hF rfl rfl rfl (q_sub rfl (hF.eval rfl) (hF.eval rfl) (by omega)) fun a hF => ?_
      refine wl_e hF rfl rfl rfl (c_call hF rfl rfl Try.call38 (ih u9 (by omega) y (u - (1 + cntF s (u - 1))) _ hy hru (by omega) (by omega) (hs.at0 hO) (hT.at0 hO))) ?_
      rintro a _ w ⟨rfl, hS⟩ hF
      have hO := hO.call0 hS
      have hO : St _ _ _ [_] := hO
      refine wl_v hF rfl rfl rfl (q_add rfl (hF.eval rfl) (hF.eval rfl) (by omega)) fun a hF => ?_
      refine wl_v hF rfl rfl rfl (q_assign rfl (hF.eval rfl)) fun a hF => ?_
      refine wl_nil ?_
      refine k_n ?_
      refine wp_ret ?_
      refine r_1 hF rfl rfl ?_
      have hO := hO.drop1 0
      have hO : St _ _ _ [] := hO
      exact ⟨by rw [hcf, if_neg hc2], hO⟩


theorem count_r (sb : Nat) (vT : Value) (T : List Tm) (ρ d : Nat → Nat) (hW : WfS (stoL T) ρ d) (hlen : T.length ≤ 1099511627776) : ∀ (q : Nat) (t : RT), t.nodes < q → ∀ (b : Nat) (u : Int) (w0 : World), b ∈ (stoL T).ids → Res (stoL T) ρ b t → 1 ≤ u → u ≤ 2000 → Rd w0 [] (gl1 sb) 1 1 [vT] → RdT w0 [] vT thE T → Ret Try.prog 38 #[ptr (adr sb), i64 b, i64 u] w0 (fun v w' => v = i64 (cntF t u) ∧ St w0 [] w' [])
  | 0, _, h => absurd h (Nat.not_lt_zero _)
  | q + 1, t, h => fun b u w0 h1 h2 h3 h4 h5 h6 => count_i sb vT T ρ d hW hlen t (fun t' ht => count_r sb vT T ρ d hW hlen q t' (by omega)) b u w0 h1 h2 h3 h4 h5 h6
set_option maxHeartbeats 2000000 in
theorem type_i (sb : Nat) (vT : Value) (T : List Tm) (ρ d : Nat → Nat) (hW : WfS (stoL T) ρ d) (hlen : T.length ≤ 1099511627776) (t : RT) (ih : ∀ t' : RT, t'.nodes < t.nodes → ∀ (b : Nat) (w0 : World), b ∈ (stoL T).ids → Res (stoL T) ρ b t' → Rd w0 [] (gl1 sb) 1 1 [vT] → RdT w0 [] vT thE T → Ret Try.prog 39 #[ptr (adr sb), i64 b] w0 (fun v w' => ∃ z' : TN, v = .agg (tnE.cells z').toArray ∧ z'.er = t'.ty ∧ St w0 [] w' [tE 33 z'])) (b : Nat) (w0 : World) (hb : b ∈ (stoL T).ids) (ht : Res (stoL T) ρ b t) (hs : Rd w0 [] (gl1 sb) 1 1 [vT]) (hT : RdT w0 [] vT thE T) : Ret Try.prog 39 #[ptr (adr sb), i64 b] w0 (fun v w' => ∃ t' : TN, v = .agg (tnE.cells t').toArray ∧ t'.er = t.ty ∧ St w0 [] w' [tE 33 t']) := by
  have hO := St.init0 w0
  obtain ⟨ha, ha1⟩ := hW.rep b hb
  have ham := mem_sto.1 ha
  refine ret_of (m := 34) Try.func39 rfl Try.ntmps39 [(0, ptr (adr sb)), (1, i64 b)] rfl ⟨rfl, rfl, trivial⟩ fun a hF => ?_
  refine wp_seq ?_
  refine wp_region_lit ?_
  refine wl_e hF rfl rfl rfl (e_alloc hO Try.zeroValue33 rfl rfl) ?_
  rintro a _ w ⟨rs, rfl, hO⟩ hF
  refine wl_nil ?_
  refine k_n ?_
  refine wp_seq ?_
  refine wp_region_5 [0, 0, 0, 1, 0, 0, 5, 0, 0, 1, 4, 3] (fun u A => u = i64 (ρ b) ∧ A = []) Try_mixed (by kernel_rfl) hO ?_
  refine w5_p hF rfl rfl rfl (fun w => q_move rfl (hF.eval rfl)) fun a hF => ?_
  refine w5_p hF rfl rfl rfl (fun w => q_nilCheck rfl (hF.eval rfl)) fun a hF => ?_
  refine w5_p hF rfl rfl rfl (fun w => q_fieldAddr0 (d := 0) Try.underlying69 rfl (hF.eval rfl) rfl Try.sizeOf67 (by decide) rfl) fun a hF => ?_
  refine w5_r hF rfl rfl rfl (fun w hO => q_load Try.isAgg67 rfl (hF.eval rfl) (rdB_cell (hs.now hO) rfl)) fun a hF => ?_
  refine w5_p hF rfl rfl rfl (fun w => q_move rfl (hF.eval rfl)) fun a hF => ?_
  refine w5_p hF rfl rfl rfl (fun w => q_move rfl (hF.eval rfl)) fun a hF => ?_
  refine w5_c hF rfl rfl rfl (fun w hO => Eff.mono (c_call hF rfl rfl Try.call62 (find_r _ sb vT T (hs.at0 hO) (hT.at0 hO) ρ d hW hlen b hb)) (fun u w2 ⟨h1, hS⟩ => ⟨[], ⟨h1, rfl⟩, hS⟩)) ?_
  rintro _ _ a ⟨rfl, rfl⟩ hF
  refine w5_p hF rfl rfl rfl (fun w => q_sub rfl (hF.eval rfl) (hF.eval rfl) (by omega)) fun a hF => ?_
  refine w5_p hF rfl rfl rfl (fun w => q_at (i := (ρ b - 1)) hT Try.underlying67 Try.sizeOf106 rfl (hF.eval rfl) ((hF.eval rfl).trans (congrArg i64 (pred_eq (mem_sto.1 ha).1))) (by have := mem_sto.1 ha; omega)) fun a hF => ?_
  refine w5_r hF rfl rfl rfl (fun w hO => q_loadAgg Try.isAgg106 Try.sizeOf106 rfl (hF.eval rfl) (RdT.cells (hT.now hO) (sto_at ha)) rfl) fun a hF => ?_
  refine w5_m hF rfl rfl rfl (m_alloc Try.zeroValue106 rfl rfl) fun b_xb a hF => ?_
  refine w5_w (fun w hO => ?_) rfl
  have hO : St _ _ _ [_, _] := hO
  have hO := hO.asOb (i := 0) rfl
  have hO : St _ _ _ [_, _] := hO
  refine w5_s hF rfl rfl (e_storeAll hO (i := 0) rfl Try.sizeOf106 rfl (hF.eval rfl) (hF.eval rfl) rfl rfl) ?_
  rintro a _ w ⟨-, hO⟩ hF
  have hO : St _ _ _ [_, _] := hO
  refine w5_nilw ?_
  refine k_n ?_
  refine wp_seq ?_
  refine wp_seq ?_
  refine wp_region_lit ?_
  refine wl_v hF rfl rfl rfl (q_fieldAddr0 (d := 1) Try.underlying106 rfl (hF.eval rfl) rfl Try.sizeOf3 (by decide) rfl) fun a hF => ?_
  refine wl_v hF rfl rfl rfl (q_load Try.isAgg3 rfl (hF.eval rfl) (hO.cell 0 rfl rfl)) fun a hF => ?_
  refine wl_v hF rfl rfl rfl (q_ne rfl (hF.eval rfl) (hF.eval rfl)) fun a hF => ?_
  refine wl_nil ?_
  refine k_n ?_
  refine wp_ifD hF rfl rfl (fun hc1 => ?_) (fun hc1 => ?_)
  · skip
    have hty : t.ty = .mk ((stoL T).tm (ρ b)).kind ((stoL T).tm (ρ b)).name [] := by
      cases ht with
      | var hk => rw [hk]; rfl
      | con hk => rw [hk]; rfl
      | app hk _ _ _ _ => exact absurd hk hc1
    refine wp_seq ?_
    refine wp_region_lit ?_
    refine wl_v hF rfl rfl rfl (q_fieldAddr0 (d := 1) Try.underlying106 rfl (hF.eval rfl) rfl Try.sizeOf3 (by decide) rfl) fun a hF => ?_
    refine wl_v hF rfl rfl rfl (q_load Try.isAgg3 rfl (hF.eval rfl) (hO.cell 0 rfl rfl)) fun a hF => ?_
    refine wl_v hF rfl rfl rfl (q_fieldAddr0 (d := 2) Try.underlying106 rfl (hF.eval rfl) rfl Try.sizeOf9 (by decide) rfl) fun a hF => ?_
    refine wl_v hF rfl rfl rfl (q_load Try.isAgg9 rfl (hF.eval rfl) (hO.cell 0 rfl rfl)) fun a hF => ?_
    refine wl_v hF rfl rfl rfl (c_build hF Try.underlying33 Try.zeroValue33 Try_places33 rfl rfl rfl rfl) fun a hF => ?_
    refine wl_s hF rfl rfl (e_storeAll hO (i := 1) rfl Try.sizeOf33 rfl (hF.eval rfl) (hF.eval rfl) rfl rfl) ?_
    rintro a _ w ⟨-, hO⟩ hF
    have hO : St _ _ _ [_, _] := hO
    refine wl_nil ?_
    refine k_n ?_
    refine wp_ret ?_
    refine k_r ?_
    refine r_c1 hF rfl rfl Try.isAgg33 Try.sizeOf33 (hO.cells 1 rfl) rfl ?_
    have hO := hO.drop1 0
    have hO := hO.drop1 0
    have hO : St _ _ _ [] := hO
    have hO := hO.leafT (T := 33) (rd_nilT _ _) ((stoL T).tm (ρ b)).kind ((stoL T).tm (ρ b)).name
    exact ⟨.mk _ _ nilH [], rfl, hty.symm, hO⟩
  · skip
    have hk4 : ((stoL T).tm (ρ b)).kind = 54 := Classical.not_not.1 hc1
    obtain ⟨x, y, s, u9, rfl, hx2, hy2, hrs, hru⟩ := res_app ht hk4
    obtain ⟨-, x', y', hx, hy, hx', hy'⟩ := hW.app _ ha hk4
    rw [hx2] at hx'
    rw [hy2] at hy'
    cases hx'
    cases hy'
    have hps := s.pos
    have hpu := u9.pos
    have hnn : (RT.app s u9).nodes = 1 + s.nodes + u9.nodes := rfl
    refine wp_skip ?_
    refine k_n ?_
    refine wp_seq ?_
    have hO := hO.drew
    refine wp_region_D [0, 0, 1, 2, 0, 0, 1, 3, 3, 0, 3] (fun w => ∃ L', St w0 [] w (.ob b_xb 106 (thE.cells ((stoL T).tm (ρ b))) :: L')) Try_mixed (by kernel_rfl) ⟨_, hO⟩ ?_
    refine wd_p hF rfl rfl rfl (fun w => q_move rfl (hF.eval rfl)) fun a hF => ?_
    refine wd_p hF rfl rfl rfl (fun w => q_fieldAddr0 (d := 3) Try.underlying106 rfl (hF.eval rfl) rfl Try.sizeOf74 (by decide) rfl) fun a hF => ?_
    refine wd_r hF rfl rfl rfl (fun w ⟨_, hO⟩ => q_load Try.isAgg74 rfl (hF.eval rfl) (own_l (hO.ok (i := 0) rfl) hx2)) fun a hF => ?_
    refine wd_e hF rfl rfl rfl (c_call hF rfl rfl Try.call39 (ih s (by omega) x _ hx hrs (hs.at0 hO) (hT.at0 hO))) (fun _ _ ⟨tl, _, _, hS⟩ => ⟨_, (hO.call0 hS).pull 1 rfl⟩) ?_
    rintro a _ w ⟨tl, rfl, htl, hS⟩ hF
    have hO := hO.call0 hS
    have hO : St _ _ _ [_, _, _] := hO
    refine wd_p hF rfl rfl rfl (fun w => q_move rfl (hF.eval rfl)) fun a hF => ?_
    refine wd_p hF rfl rfl rfl (fun w => q_fieldAddr0 (d := 4) Try.underlying106 rfl (hF.eval rfl) rfl Try.sizeOf74 (by decide) rfl) fun a hF => ?_
    refine wd_r hF rfl rfl rfl (fun w ⟨_, hO⟩ => q_load Try.isAgg74 rfl (hF.eval rfl) (own_r (hO.ok (i := 0) rfl) hy2)) fun a hF => ?_
    refine wd_f hF rfl rfl rfl (c_call hF rfl rfl Try.call39 (ih u9 (by omega) y _ hy hru (hs.at0 hO) (hT.at0 hO))) ?_
    rintro a _ w ⟨tr, rfl, htr, hS⟩ hF
    have hO := hO.call0 hS
    have hO : St _ _ _ [_, _, _, _] := hO
    refine wd_f hF rfl rfl rfl (c_buildSlice hF hO Try.underlying31 Try.sizeOf33 Try.zeroValue33 rfl rfl rfl rfl rfl rfl rfl) ?_
    rintro a _ w ⟨sb9, rfl, hO⟩ hF
    have hO : St _ _ _ (slT (.slice (some (adr sb9)) 2 2) 33 tnE [tl, tr] :: [_, _, _, _]) := hO
    have hO := hO.pull 1 rfl
    have hO := hO.pull 2 rfl
    have hO := hO.pull 2 rfl
    have hO := St.node2 (h := ⟨some (adr sb9), 2, 2⟩) hO 54 []
    have hO : St _ _ _ [_, _, _] := hO
    refine wd_p hF rfl rfl rfl (fun w => c_build hF Try.underlying33 Try.zeroValue33 Try_places33 rfl rfl rfl rfl) fun a hF => ?_
    refine wd_s hF rfl rfl (e_storeAll hO (i := 2) rfl Try.sizeOf33 rfl (hF.eval rfl) (hF.eval rfl) rfl rfl) ?_
    rintro a _ w ⟨-, hO⟩ hF
    have hO : St _ _ _ [_, _, _] := hO
    refine wd_nil ?_
    refine k_n ?_
    refine wp_ret ?_
    refine r_c1 hF rfl rfl Try.isAgg33 Try.sizeOf33 (hO.cells 2 rfl) rfl ?_
    have hO := hO.drop1 1
    have hO := hO.drop1 1
    have hO : St _ _ _ [_] := hO
    refine ⟨.mk 54 [] ⟨some (adr sb9), 2, 2⟩ [tl, tr], rfl, ?_, hO⟩
    show Ty.mk 54 [] [tl.er, tr.er] = _
    rw [htl, htr]; rfl


theorem type_r (sb : Nat) (vT : Value) (T : List Tm) (ρ d : Nat → Nat) (hW : WfS (stoL T) ρ d) (hlen : T.length ≤ 1099511627776) : ∀ (q : Nat) (t : RT), t.nodes < q → ∀ (b : Nat) (w0 : World), b ∈ (stoL T).ids → Res (stoL T) ρ b t → Rd w0 [] (gl1 sb) 1 1 [vT] → RdT w0 [] vT thE T → Ret Try.prog 39 #[ptr (adr sb), i64 b] w0 (fun v w' => ∃ z' : TN, v = .agg (tnE.cells z').toArray ∧ z'.er = t.ty ∧ St w0 [] w' [tE 33 z'])
  | 0, _, h => absurd h (Nat.not_lt_zero _)
  | q + 1, t, h => fun b w0 h1 h2 h3 h4 => type_i sb vT T ρ d hW hlen t (fun t' ht => type_r sb vT T ρ d hW hlen q t' (by omega)) b w0 h1 h2 h3 h4
end Go.Proofs.Ytfkmlcgccffmnaa
namespace Go.Proofs.Ytfkmlcgccffmnaa
open Go
set_option maxRecDepth 100000
set_option linter.unusedVariables false
set_option maxHeartbeats 2000000 in
theorem sorted_r (w0 : World) (vn : Value) (ns : List Nam) (hN : RdT w0 [] vn strE ns) (hnd : ns.Nodup) (hlen : ns.length ≤ 1099511627776) : Ret Try.prog 36 #[vn] w0 (fun v w' => ∃ out, Asc out ∧ (∀ n, n ∈ out ↔ n ∈ ns) ∧ out.length = ns.length ∧ St w0 [] w' [slT v 9 strE out]) := by
  have hO := St.init0 w0
  refine ret_of (m := 48) Try.func36 rfl Try.ntmps36 [(0, vn)] rfl ⟨rfl, trivial⟩ fun a hF => ?_
  refine wp_seq ?_
  refine wp_region_lit ?_
  refine wl_v hF rfl rfl rfl (q_assign rfl (hF.eval rfl)) fun a hF => ?_
  refine wl_nil ?_
  refine k_n ?_
  refine wp_seq ?_
  refine wp_region_lit ?_
  refine wl_v hF rfl rfl rfl (q_assign rfl (hF.eval rfl)) fun a hF => ?_
  have hO := hO.nilSl 9 1
  refine wl_nil ?_
  refine k_n ?_
  refine wp_seq ?_
  refine wp_seq ?_
  refine wp_region_lit ?_
  refine wl_v hF rfl rfl rfl (q_assign rfl (hF.eval rfl)) fun a hF => ?_
  refine wl_nil ?_
  refine k_n ?_
  refine wp_block ?_
  have hO : St _ _ _ [_] := hO
  refine wp_loopS (fun (s : Nat × Value × List Nam) a w' => match s with | (i, vo, out) => (i ≤ ns.length ∧ Asc out ∧ (∀ n, n ∈ out ↔ n ∈ ns.take i) ∧ out.length = i) ∧ St w0 [] w' [slT vo 9 strE out] ∧ Fr a 48 [(0, vn), (3, vo), (4, i64 i)]) (fun (s : Nat × Value × List Nam) => match s with | (i, vo, out) => ns.length - i) (0, _, []) ⟨⟨by omega, trivial, fun n => by simp, rfl⟩, hO, hF.sub ⟨rfl, rfl, rfl, trivial⟩⟩ ?_
  rintro ⟨i, vo, out⟩ a w ⟨⟨hi, hA, hm, hol⟩, hO, hF⟩
  refine wp_seq ?_
  refine wp_seq ?_
  refine wp_region_lit ?_
  refine wl_v hF rfl rfl rfl (q_move rfl (hF.eval rfl)) fun a hF => ?_
  refine wl_v hF rfl rfl rfl (q_move rfl (hF.eval rfl)) fun a hF => ?_
  refine wl_v hF rfl rfl rfl (q_lenRd hN Try.underlying56 rfl (hF.eval rfl)) fun a hF => ?_
  refine wl_v hF rfl rfl rfl (q_lt rfl (hF.eval rfl) (hF.eval rfl)) fun a hF => ?_
  refine wl_nil ?_
  refine k_n ?_
  refine wp_ifD hF rfl rfl (fun hc1 => ?_) (fun hc1 => ?_)
  · skip
    refine wp_skip ?_
    refine k_n ?_
    refine wp_seq ?_
    refine wp_block ?_
    refine wp_seq ?_
    refine wp_region_lit ?_
    refine wl_v hF rfl rfl rfl (q_move rfl (hF.eval rfl)) fun a hF => ?_
    refine wl_v hF rfl rfl rfl (q_move rfl (hF.eval rfl)) fun a hF => ?_
    obtain ⟨x, hx⟩ := get_ex (l := ns) (i := i) (by omega)
    refine wl_v hF rfl rfl rfl (q_at (i := i) hN Try.underlying56 Try.sizeOf9 rfl (hF.eval rfl) (hF.eval rfl) (by omega)) fun a hF => ?_
    refine wl_v hF rfl rfl rfl (q_load Try.isAgg9 rfl (hF.eval rfl) (RdT.cell0 (hN.now hO) hx rfl)) fun a hF => ?_
    refine wl_v hF rfl rfl rfl (q_assign rfl (hF.eval rfl)) fun a hF => ?_
    have hxn : x ∉ out := fun h => by
      have h1 := (hm x).1 h
      rw [← List.take_append_drop i ns, List.nodup_append] at hnd
      obtain ⟨g1, g2⟩ := List.getElem?_eq_some_iff.1 hx
      have h2 : x ∈ ns.drop i := by rw [List.drop_eq_getElem_cons g1, g2]; simp
      exact hnd.2.2 x h1 x h2 rfl
    refine wl_nil ?_
    refine k_n ?_
    refine wp_seq ?_
    refine wp_region_lit ?_
    refine wl_v hF rfl rfl rfl (q_move rfl (hF.eval rfl)) fun a hF => ?_
    refine wl_v hF rfl rfl rfl (q_lenRd (hO.rd 0 rfl) Try.underlying56 rfl (hF.eval rfl)) fun a hF => ?_
    refine wl_v hF rfl rfl rfl (q_assign rfl (hF.eval rfl)) fun a hF => ?_
    refine wl_nil ?_
    refine k_n ?_
    refine wp_seq ?_
    refine wp_block ?_
    have hO : St _ _ _ [_] := hO
    refine wp_loopS (fun (k : Nat) a w' => (k ≤ out.length ∧ ∀ y ∈ out.drop k, x < y) ∧ St w0 [] w' [slT vo 9 strE out] ∧ Fr a 48 [(0, vn), (3, vo), (4, i64 i), (5, str x), (6, i64 k)]) (fun (k : Nat) => k) out.length ⟨⟨Nat.le_refl _, fun y hy => by simp at hy⟩, hO, hF.sub ⟨rfl, rfl, rfl, rfl, rfl, trivial⟩⟩ ?_
    rintro k a w ⟨⟨hk, hdr⟩, hO, hF⟩
    refine wp_seq ?_
    refine wp_seq ?_
    refine wp_region_lit ?_
    refine wl_v hF rfl rfl rfl (q_move rfl (hF.eval rfl)) fun a hF => ?_
    refine wl_v hF rfl rfl rfl (q_gt rfl (hF.eval rfl) (hF.eval rfl)) fun a hF => ?_
    refine wl_v hF rfl rfl rfl (q_move rfl (hF.eval rfl)) fun a hF => ?_
    refine wl_g hF rfl rfl rfl rfl rfl rfl (fun hg => q_move rfl (hF.eval rfl)) fun a hF => ?_
    refine wl_g hF rfl rfl rfl rfl rfl rfl (fun hg => q_move rfl (hF.eval rfl)) fun a hF => ?_
    refine wl_g hF rfl rfl rfl rfl rfl rfl (fun hg => q_sub rfl ((hF.eval rfl).trans (gv_of hg)) (hF.eval rfl) (by omega)) fun a hF => ?_
    refine wl_g hF rfl rfl rfl rfl rfl rfl (fun hg => q_at (i := (k - 1)) (hO.rd 0 rfl) Try.underlying56 Try.sizeOf9 rfl ((hF.eval rfl).trans (gv_of hg)) ((hF.eval rfl).trans ((gv_of hg).trans (congrArg i64 (pred_eq (by have := of_g hg; omega))))) (by have := of_g hg; omega)) fun a hF => ?_
    refine wl_g hF rfl rfl rfl rfl rfl rfl (fun hg => q_load Try.isAgg9 rfl ((hF.eval rfl).trans (gv_of hg)) (RdT.cell0 (hO.rdT 0 rfl) (get_D (d := []) (by have := of_g hg; omega)) rfl)) fun a hF => ?_
    refine wl_g hF rfl rfl rfl rfl rfl rfl (fun hg => q_move rfl (hF.eval rfl)) fun a hF => ?_
    refine wl_g hF rfl rfl rfl rfl rfl rfl (fun hg => q_sgt rfl Try.underlying9 ((hF.eval rfl).trans (gv_of hg)) ((hF.eval rfl).trans (gv_of hg))) fun a hF => ?_
    refine wl_v hF rfl rfl rfl (q_and rfl (hF.eval rfl) rfl (fun hg2 => ((hF.eval rfl).trans (gv_of hg2))) rfl) fun a hF => ?_
    refine wl_nil ?_
    refine k_n ?_
    refine wp_ifD hF rfl rfl (fun hc2 => ?_) (fun hc2 => ?_)
    · skip
      refine wp_skip ?_
      refine k_n ?_
      refine wp_block ?_
      refine wp_region_lit ?_
      refine wl_v hF rfl rfl rfl (q_move rfl (hF.eval rfl)) fun a hF => ?_
      refine wl_v hF rfl rfl rfl (q_sub rfl (hF.eval rfl) (hF.eval rfl) (by omega)) fun a hF => ?_
      refine wl_v hF rfl rfl rfl (q_assign rfl (hF.eval rfl)) fun a hF => ?_
      refine wl_nil ?_
      refine b_n ?_
      refine k_n ?_
      have hO : St _ _ _ [_] := hO
      exact ⟨(k - 1), ⟨⟨by omega, fun y hy => by have hz : out[k - 1]? = some (out.getD (k - 1) []) := get_D (by omega); obtain ⟨h1, h2⟩ := List.getElem?_eq_some_iff.1 hz; rw [List.drop_eq_getElem_cons h1, h2, show k - 1 + 1 = k by omega] at hy; rcases List.mem_cons.1 hy with e | h; rw [e]; exact hc2.2; exact hdr y h⟩, hO, hF.sub ⟨rfl, rfl, rfl, rfl, (congrArg (fun z => some (i64 z)) (pred_eq (show 1 ≤ k by omega))), trivial⟩⟩, by omega⟩
    · skip
      refine wp_exit ?_
      refine k_x ?_
      refine k_x ?_
      refine b_x ?_
      refine k_n ?_
      refine wp_seq ?_
      refine wp_region_lit ?_
      refine wl_v hF rfl rfl rfl (q_assign rfl (hF.eval rfl)) fun a hF => ?_
      have hO := hO.nilSl 9 1
      have hO : St _ _ _ (slT (.slice none 0 0) 9 strE [] :: [_]) := hO
      refine wl_nil ?_
      refine k_n ?_
      refine wp_seq ?_
      refine wp_region_lit ?_
      refine wl_v hF rfl rfl rfl (q_move rfl (hF.eval rfl)) fun a hF => ?_
      refine wl_v hF rfl rfl rfl (q_move rfl (hF.eval rfl)) fun a hF => ?_
      refine wl_v hF rfl rfl rfl (q_move rfl (hF.eval rfl)) fun a hF => ?_
      refine wl_v hF rfl rfl rfl (q_resl (hO.rd 1 rfl) Try.underlying56 Try.sizeOf9 rfl (hF.eval rfl) (hF.eval rfl) (by omega)) fun a hF => ?_
      refine wl_e hF rfl rfl rfl (e_appendT (bytes := 16) (r := (out.take k)) hO (i := 0) rfl (RdT.cut (hO.rdT 1 rfl) hk) Try.underlying56 Try_info9 rfl rfl rfl rfl rfl rfl (hF.eval rfl) (hF.eval rfl) (by rw [List.length_take, List.length_nil]; omega) (by rw [List.length_take, List.length_nil]; omega)) ?_
      rintro a v37 w hO hF
      have hO : St _ _ _ [_, _] := hO
      refine wl_v hF rfl rfl rfl (q_assign rfl (hF.eval rfl)) fun a hF => ?_
      refine wl_nil ?_
      refine k_n ?_
      refine wp_seq ?_
      refine wp_region_lit ?_
      refine wl_v hF rfl rfl rfl (q_move rfl (hF.eval rfl)) fun a hF => ?_
      refine wl_v hF rfl rfl rfl (q_move rfl (hF.eval rfl)) fun a hF => ?_
      refine wl_e hF rfl rfl rfl (c_buildSlice hF hO Try.underlying56 Try.sizeOf9 Try.zeroValue9 rfl rfl rfl rfl rfl rfl rfl) ?_
      rintro a _ w ⟨b1, rfl, hO⟩ hF
      refine wl_e hF rfl rfl rfl (e_appendT (bytes := 16) (r := [x]) hO (i := 1) rfl (hO.rd 0 rfl) Try.underlying56 Try_info9 rfl rfl rfl rfl rfl rfl (hF.eval rfl) (hF.eval rfl) (by rw [List.length_append, List.length_take, List.length_singleton, List.length_nil]; omega) (by rw [List.length_append, List.length_take, List.length_singleton, List.length_nil]; omega)) ?_
      rintro a v41 w hO hF
      have hO : St _ _ _ [_, _, _] := hO
      refine wl_v hF rfl rfl rfl (q_assign rfl (hF.eval rfl)) fun a hF => ?_
      refine wl_nil ?_
      refine k_n ?_
      refine wp_region_lit ?_
      refine wl_v hF rfl rfl rfl (q_move rfl (hF.eval rfl)) fun a hF => ?_
      refine wl_v hF rfl rfl rfl (q_move rfl (hF.eval rfl)) fun a hF => ?_
      refine wl_v hF rfl rfl rfl (q_move rfl (hF.eval rfl)) fun a hF => ?_
      refine wl_v hF rfl rfl rfl (q_drop (j := k) (hO.rd 2 rfl) Try.underlying56 Try.sizeOf9 rfl (hF.eval rfl) (hF.eval rfl) (by omega)) fun a hF => ?_
      refine wl_e hF rfl rfl rfl (e_appendT (bytes := 16) (r := (out.drop k)) hO (i := 1) rfl (RdT.dropV (hO.rdT 2 rfl) hk) Try.underlying56 Try_info9 rfl rfl rfl rfl rfl rfl (hF.eval rfl) (hF.eval rfl) (by rw [List.length_append, List.length_append, List.length_take, List.length_drop, List.length_singleton, List.length_nil]; omega) (by rw [List.length_append, List.length_append, List.length_take, List.length_drop, List.length_singleton, List.length_nil]; omega)) ?_
      rintro a v46 w hO hF
      have hO : St _ _ _ [_, _, _] := hO
      refine wl_v hF rfl rfl rfl (q_assign rfl (hF.eval rfl)) fun a hF => ?_
      have hO := hO.drop1 2
      have hO : St _ _ _ [_, _] := hO
      refine wl_nil ?_
      refine b_n ?_
      refine k_n ?_
      refine wp_region_lit ?_
      refine wl_v hF rfl rfl rfl (q_move rfl (hF.eval rfl)) fun a hF => ?_
      refine wl_v hF rfl rfl rfl (q_add rfl (hF.eval rfl) (hF.eval rfl) (by omega)) fun a hF => ?_
      refine wl_v hF rfl rfl rfl (q_assign rfl (hF.eval rfl)) fun a hF => ?_
      refine wl_nil ?_
      refine k_n ?_
      have hO := hO.drop1 0
      have hO : St _ _ _ [_] := hO
      exact ⟨(i + 1, _, [] ++ out.take k ++ [x] ++ out.drop k), ⟨⟨by omega, ins_ok hA hxn hk hdr hc2, fun n => (mem_ins k).trans (by rw [takeAt hx, List.mem_append, List.mem_singleton, hm n]), by rw [List.length_append, List.length_append, List.length_append, List.length_take, List.length_drop, List.length_singleton, List.length_nil]; omega⟩, hO, hF.sub ⟨rfl, rfl, rfl, trivial⟩⟩, by dsimp only; omega⟩
  · skip
    refine wp_exit ?_
    refine k_x ?_
    refine k_x ?_
    refine b_x ?_
    refine k_n ?_
    refine wp_seq ?_
    refine wp_region_lit ?_
    refine wl_v hF rfl rfl rfl (q_move rfl (hF.eval rfl)) fun a hF => ?_
    refine wl_v hF rfl rfl rfl (q_assign rfl (hF.eval rfl)) fun a hF => ?_
    refine wl_nil ?_
    refine k_n ?_
    refine wp_ret ?_
    refine r_1 hF rfl rfl ?_
    have hO : St _ _ _ [_] := hO
    have hti : ns.take i = ns := List.take_of_length_le (by omega)
    exact ⟨out, hA, fun n => by rw [hm n, hti], by omega, hO⟩

end Go.Proofs.Ytfkmlcgccffmnaa
namespace Go.Proofs.Ytfkmlcgccffmnaa
open Go
set_option maxRecDepth 100000
set_option linter.unusedVariables false

theorem gat_next {ps : List TN2} {i : Nat} {p : TN2} (h : ps[i]? = some p) {Q : TN → Prop} (h1 : ∀ t ∈ gat (ps.take i), Q t) (h2 : Q p.1) (h3 : Q p.2) : ∀ t ∈ gat (ps.take (i + 1)), Q t := fun t ht => by
  rw [gat_take h] at ht
  rcases List.mem_append.1 ht with ht | ht
  · exact h1 t ht
  · rcases List.mem_cons.1 ht with rfl | ht
    · exact h2
    · rw [List.mem_singleton.1 ht]; exact h3
theorem gat_mem {ps : List TN2} {i : Nat} {p : TN2} (h : ps[i]? = some p) : p.1.er ∈ tysOf (ps.map er2) ∧ p.2.er ∈ tysOf (ps.map er2) := by
  rw [← gat_er]
  exact ⟨List.mem_map_of_mem (mem_gat.2 ⟨p, List.mem_of_getElem? h, .inl rfl⟩), List.mem_map_of_mem (mem_gat.2 ⟨p, List.mem_of_getElem? h, .inr rfl⟩)⟩
theorem gat_all {ps : List TN2} {Q : Ty → Prop} (h : ∀ t ∈ gat ps, Q t.er) : ∀ t ∈ tysOf (ps.map er2), Q t := by
  rw [← gat_er]
  intro t ht
  obtain ⟨s, hs, rfl⟩ := List.mem_map.1 ht
  exact h s hs
theorem get_rs (w0 : World) (nb : Nat) (va vb : Value) (vl : List (Nam × Nat)) (hs : Rd w0 [] (gl1 nb) 2 1 [va, vb]) (hN : RdT w0 [] va strE (vl.map (·.1))) (hV : RdT w0 [] vb intE (vl.map fun p => (p.2 : Int))) (name : Nam) {c : Nat} (hc : vmL vl name = some c) : Ret Try.prog 37 #[ptr (adr nb), str name] w0 (fun v w' => v = i64 c ∧ St w0 [] w' []) := by
  have h := get_r w0 nb va vb vl hs hN hV name
  rw [hc] at h
  exact h
set_option maxHeartbeats 8000000 in
theorem unifyR_r (w0 : World) (vp : Value) (ps : List TN2) (hR : RdT w0 [] vp prE ps) (hRd : ∀ p ∈ ps, RdN w0 [] p.1 ∧ RdN w0 [] p.2) (hFt : ∀ p ∈ ps, Fit p.1.er ∧ Fit p.2.er) (hlen : ps.length ≤ 2097152) : Ret Try.prog 10 #[vp] w0 (fun v w' => ∃ (h : Hdr) (l : List SbN) (e : Int), v = .tuple #[h.v, i64 e] ∧ UniSpec (ps.map er2) (l.map SbN.er) e ∧ St w0 [] w' [slT h.v 45 sbE l, sbG 33 l]) := by
  have hO := St.init0 w0
  refine ret_of (m := 135) Try.func10 rfl Try.ntmps10 [(0, vp)] rfl ⟨rfl, trivial⟩ fun a hF => ?_
  refine wp_seq ?_
  refine wp_region_lit ?_
  refine wl_v hF rfl rfl rfl (q_assign rfl (hF.eval rfl)) fun a hF => ?_
  refine wl_v hF rfl rfl rfl (q_assign rfl (hF.eval rfl)) fun a hF => ?_
  refine wl_nil ?_
  refine k_n ?_
  refine wp_seq ?_
  refine wp_seq ?_
  refine wp_region_lit ?_
  refine wl_v hF rfl rfl rfl (q_assign rfl (hF.eval rfl)) fun a hF => ?_
  refine wl_nil ?_
  refine k_n ?_
  refine wp_block ?_
  have hO : St _ _ _ [] := hO
  refine wp_loopS (fun (i : Nat) a w' => (i ≤ ps.length ∧ ∀ t ∈ gat (ps.take i), rightF t.er = true) ∧ St w0 [] w' [] ∧ Fr a 135 [(0, vp), (2, .slice none 0 0), (3, i64 0), (4, i64 i)]) (fun (i : Nat) => ps.length - i) 0 ⟨⟨by omega, fun t ht => (by simp [gat] at ht)⟩, hO, hF.sub ⟨rfl, rfl, rfl, rfl, trivial⟩⟩ ?_
  rintro i a w ⟨⟨hi, hall⟩, hO, hF⟩
  refine wp_seq ?_
  refine wp_seq ?_
  refine wp_region_lit ?_
  refine wl_v hF rfl rfl rfl (q_move rfl (hF.eval rfl)) fun a hF => ?_
  refine wl_v hF rfl rfl rfl (q_move rfl (hF.eval rfl)) fun a hF => ?_
  refine wl_v hF rfl rfl rfl (q_lenRd hR Try.underlying22 rfl (hF.eval rfl)) fun a hF => ?_
  refine wl_v hF rfl rfl rfl (q_lt rfl (hF.eval rfl) (hF.eval rfl)) fun a hF => ?_
  refine wl_nil ?_
  refine k_n ?_
  refine wp_ifD hF rfl rfl (fun hc1 => ?_) (fun hc1 => ?_)
  · skip
    refine wp_skip ?_
    refine k_n ?_
    refine wp_seq ?_
    refine wp_block ?_
    refine wp_seq ?_
    refine wp_region_lit ?_
    refine wl_v hF rfl rfl rfl (q_move rfl (hF.eval rfl)) fun a hF => ?_
    refine wl_v hF rfl rfl rfl (q_move rfl (hF.eval rfl)) fun a hF => ?_
    obtain ⟨p, hp⟩ := get_ex (l := ps) (i := i) (by omega)
    refine wl_v hF rfl rfl rfl (q_at (i := i) hR Try.underlying22 Try.sizeOf34 rfl (hF.eval rfl) (hF.eval rfl) (by omega)) fun a hF => ?_
    obtain ⟨hRp1, hRp2⟩ := hRd p (List.mem_of_getElem? hp)
    have hNp1 := (hFt p (List.mem_of_getElem? hp)).1.nodes
    have hNp2 := (hFt p (List.mem_of_getElem? hp)).2.nodes
    refine wl_v hF rfl rfl rfl (q_atArr (i := 0) Try.underlying34 Try.sizeOf33 rfl (hF.eval rfl) (hF.eval rfl) (by decide)) fun a hF => ?_
    refine wl_v hF rfl rfl rfl (q_loadAgg Try.isAgg33 Try.sizeOf33 rfl (hF.eval rfl) (RdT.cellsK (hR.now hO) hp 0 3 rfl) rfl) fun a hF => ?_
    refine wl_e hF rfl rfl rfl (c_call hF rfl rfl Try.call32 (right_r p.1 _ (hRp1.at0 hO) hNp1)) ?_
    rintro a _ w ⟨rfl, hS⟩ hF
    have hO := hO.call0 hS
    have hO : St _ _ _ [] := hO
    refine wl_v hF rfl rfl rfl (q_not rfl (hF.eval rfl) (dec_b _)) fun a hF => ?_
    refine wl_v hF rfl rfl rfl (q_move rfl (hF.eval rfl)) fun a hF => ?_
    refine wl_g hF rfl rfl rfl rfl rfl rfl (fun hg => q_move rfl (hF.eval rfl)) fun a hF => ?_
    refine wl_g hF rfl rfl rfl rfl rfl rfl (fun hg => q_move rfl (hF.eval rfl)) fun a hF => ?_
    refine wl_g hF rfl rfl rfl rfl rfl rfl (fun hg => q_at (i := i) hR Try.underlying22 Try.sizeOf34 rfl ((hF.eval rfl).trans (gv_of hg)) ((hF.eval rfl).trans (gv_of hg)) (by omega)) fun a hF => ?_
    refine wl_g hF rfl rfl rfl rfl rfl rfl (fun hg => q_atArr (i := 1) Try.underlying34 Try.sizeOf33 rfl ((hF.eval rfl).trans (gv_of hg)) (hF.eval rfl) (by decide)) fun a hF => ?_
    refine wl_g hF rfl rfl rfl rfl rfl rfl (fun hg => q_loadAgg Try.isAgg33 Try.sizeOf33 rfl ((hF.eval rfl).trans (gv_of hg)) (RdT.cellsK (hR.now hO) hp 3 3 rfl) rfl) fun a hF => ?_
    refine wl_gk hO hF rfl rfl rfl rfl rfl rfl (fun hg => c_callG hF rfl rfl (by first | with_reducible rfl | (simp only [gv_of hg]; done) | (simp only [gv_of hg]; rfl)) Try.call32 (right_r p.2 _ (hRp2.at0 hO) hNp2)) fun a w hO hF => ?_
    refine wl_g hF rfl rfl rfl rfl rfl rfl (fun hg => q_not rfl ((hF.eval rfl).trans (gv_of hg)) (dec_b _)) fun a hF => ?_
    refine wl_v hF rfl rfl rfl (q_or rfl (hF.eval rfl) rfl (fun hg2 => ((hF.eval rfl).trans (gv_of hg2))) rfl) fun a hF => ?_
    refine wl_nil ?_
    refine k_n ?_
    refine wp_ifD hF rfl rfl (fun hc2 => ?_) (fun hc2 => ?_)
    · skip
      have hal1 : allF (tysOf (ps.map er2)) 0 = 1 := by
        rcases hc2 with h | h
        · exact allF_arg (gat_mem hp).1 (by simpa using h)
        · exact allF_arg (gat_mem hp).2 (by simpa using h)
      refine wp_seq ?_
      refine wp_region_lit ?_
      refine wl_v hF rfl rfl rfl (q_assign rfl (hF.eval rfl)) fun a hF => ?_
      refine wl_v hF rfl rfl rfl (q_assign rfl (hF.eval rfl)) fun a hF => ?_
      refine wl_nil ?_
      refine k_n ?_
      refine wp_ret ?_
      refine b_r ?_
      refine k_r ?_
      refine k_r ?_
      refine b_r ?_
      refine k_r ?_
      refine r_2 hF rfl rfl rfl ?_
      have hO : St _ _ _ [] := hO
      have hO := hO.grp0
      have hO := hO.nilSl 45 4
      exact ⟨nilH, [], 1, rfl, (Or.inl ⟨by rw [hal1]; decide, rfl, hal1.symm⟩), hO⟩
    · skip
      refine wp_skip ?_
      refine b_n ?_
      refine k_n ?_
      refine wp_region_lit ?_
      refine wl_v hF rfl rfl rfl (q_move rfl (hF.eval rfl)) fun a hF => ?_
      refine wl_v hF rfl rfl rfl (q_add rfl (hF.eval rfl) (hF.eval rfl) (by omega)) fun a hF => ?_
      refine wl_v hF rfl rfl rfl (q_assign rfl (hF.eval rfl)) fun a hF => ?_
      refine wl_nil ?_
      refine k_n ?_
      have hO : St _ _ _ [] := hO
      exact ⟨i + 1, ⟨⟨by omega, gat_next hp hall (Classical.not_not.1 (not_or.1 hc2).1) (Classical.not_not.1 (not_or.1 hc2).2)⟩, hO, hF.sub ⟨rfl, rfl, rfl, rfl, trivial⟩⟩, by omega⟩
  · skip
    have hti : ps.take i = ps := List.take_of_length_le (by omega)
    rw [hti] at hall
    have hbig := allF_big (e := 0) (gat_all (Q := fun t => rightF t = true) hall)
    refine wp_exit ?_
    refine k_x ?_
    refine k_x ?_
    refine b_x ?_
    refine k_n ?_
    refine wp_seq ?_
    refine wp_seq ?_
    refine wp_region_lit ?_
    refine wl_v hF rfl rfl rfl (q_assign rfl (hF.eval rfl)) fun a hF => ?_
    refine wl_nil ?_
    refine k_n ?_
    refine wp_block ?_
    have hO : St _ _ _ [] := hO
    refine wp_loopS (fun (i : Nat) a w' => (i ≤ ps.length ∧ ∀ t ∈ gat (ps.take i), ¬ 1000 < (nodesF t.er : Int)) ∧ St w0 [] w' [] ∧ Fr a 135 [(0, vp), (2, .slice none 0 0), (3, i64 0), (5, i64 i)]) (fun (i : Nat) => ps.length - i) 0 ⟨⟨by omega, fun t ht => (by simp [gat] at ht)⟩, hO, hF.sub ⟨rfl, rfl, rfl, rfl, trivial⟩⟩ ?_
    rintro i a w ⟨⟨hi, hsml⟩, hO, hF⟩
    refine wp_seq ?_
    refine wp_seq ?_
    refine wp_region_lit ?_
    refine wl_v hF rfl rfl rfl (q_move rfl (hF.eval rfl)) fun a hF => ?_
    refine wl_v hF rfl rfl rfl (q_move rfl (hF.eval rfl)) fun a hF => ?_
    refine wl_v hF rfl rfl rfl (q_lenRd hR Try.underlying22 rfl (hF.eval rfl)) fun a hF => ?_
    refine wl_v hF rfl rfl rfl (q_lt rfl (hF.eval rfl) (hF.eval rfl)) fun a hF => ?_
    refine wl_nil ?_
    refine k_n ?_
    refine wp_ifD hF rfl rfl (fun hc3 => ?_) (fun hc3 => ?_)
    · skip
      refine wp_skip ?_
      refine k_n ?_
      refine wp_seq ?_
      refine wp_block ?_
      refine wp_seq ?_
      refine wp_region_lit ?_
      refine wl_v hF rfl rfl rfl (q_move rfl (hF.eval rfl)) fun a hF => ?_
      refine wl_v hF rfl rfl rfl (q_move rfl (hF.eval rfl)) fun a hF => ?_
      obtain ⟨p, hp⟩ := get_ex (l := ps) (i := i) (by omega)
      refine wl_v hF rfl rfl rfl (q_at (i := i) hR Try.underlying22 Try.sizeOf34 rfl (hF.eval rfl) (hF.eval rfl) (by omega)) fun a hF => ?_
      obtain ⟨hRp1, hRp2⟩ := hRd p (List.mem_of_getElem? hp)
      have hNp1 := (hFt p (List.mem_of_getElem? hp)).1.nodes
      have hNp2 := (hFt p (List.mem_of_getElem? hp)).2.nodes
      refine wl_v hF rfl rfl rfl (q_atArr (i := 0) Try.underlying34 Try.sizeOf33 rfl (hF.eval rfl) (hF.eval rfl) (by decide)) fun a hF => ?_
      refine wl_v hF rfl rfl rfl (q_loadAgg Try.isAgg33 Try.sizeOf33 rfl (hF.eval rfl) (RdT.cellsK (hR.now hO) hp 0 3 rfl) rfl) fun a hF => ?_
      refine wl_e hF rfl rfl rfl (c_call hF rfl rfl Try.call33 (nodes_r p.1 _ (hRp1.at0 hO) hNp1)) ?_
      rintro a _ w ⟨rfl, hS⟩ hF
      have hO := hO.call0 hS
      have hO : St _ _ _ [] := hO
      refine wl_v hF rfl rfl rfl (q_gt rfl (hF.eval rfl) (hF.eval rfl)) fun a hF => ?_
      refine wl_v hF rfl rfl rfl (q_move rfl (hF.eval rfl)) fun a hF => ?_
      refine wl_g hF rfl rfl rfl rfl rfl rfl (fun hg => q_move rfl (hF.eval rfl)) fun a hF => ?_
      refine wl_g hF rfl rfl rfl rfl rfl rfl (fun hg => q_move rfl (hF.eval rfl)) fun a hF => ?_
      refine wl_g hF rfl rfl rfl rfl rfl rfl (fun hg => q_at (i := i) hR Try.underlying22 Try.sizeOf34 rfl ((hF.eval rfl).trans (gv_of hg)) ((hF.eval rfl).trans (gv_of hg)) (by omega)) fun a hF => ?_
      refine wl_g hF rfl rfl rfl rfl rfl rfl (fun hg => q_atArr (i := 1) Try.underlying34 Try.sizeOf33 rfl ((hF.eval rfl).trans (gv_of hg)) (hF.eval rfl) (by decide)) fun a hF => ?_
      refine wl_g hF rfl rfl rfl rfl rfl rfl (fun hg => q_loadAgg Try.isAgg33 Try.sizeOf33 rfl ((hF.eval rfl).trans (gv_of hg)) (RdT.cellsK (hR.now hO) hp 3 3 rfl) rfl) fun a hF => ?_
      refine wl_gk hO hF rfl rfl rfl rfl rfl rfl (fun hg => c_callG hF rfl rfl (by first | with_reducible rfl | (simp only [gv_of hg]; done) | (simp only [gv_of hg]; rfl)) Try.call33 (nodes_r p.2 _ (hRp2.at0 hO) hNp2)) fun a w hO hF => ?_
      refine wl_g hF rfl rfl rfl rfl rfl rfl (fun hg => q_gt rfl ((hF.eval rfl).trans (gv_of hg)) (hF.eval rfl)) fun a hF => ?_
      refine wl_v hF rfl rfl rfl (q_or rfl (hF.eval rfl) rfl (fun hg2 => ((hF.eval rfl).trans (gv_of hg2))) rfl) fun a hF => ?_
      refine wl_nil ?_
      refine k_n ?_
      refine wp_ifD hF rfl rfl (fun hc4 => ?_) (fun hc4 => ?_)
      · skip
        have hal3 : allF (tysOf (ps.map er2)) 0 = 3 := by
          rw [hbig, if_pos]
          rcases hc4 with h | h
          · exact ⟨_, (gat_mem hp).1, h⟩
          · exact ⟨_, (gat_mem hp).2, h⟩
        refine wp_seq ?_
        refine wp_region_lit ?_
        refine wl_v hF rfl rfl rfl (q_assign rfl (hF.eval rfl)) fun a hF => ?_
        refine wl_v hF rfl rfl rfl (q_assign rfl (hF.eval rfl)) fun a hF => ?_
        refine wl_nil ?_
        refine k_n ?_
        refine wp_ret ?_
        refine b_r ?_
        refine k_r ?_
        refine k_r ?_
        refine b_r ?_
        refine k_r ?_
        refine r_2 hF rfl rfl rfl ?_
        have hO : St _ _ _ [] := hO
        have hO := hO.grp0
        have hO := hO.nilSl 45 4
        exact ⟨nilH, [], 3, rfl, (Or.inl ⟨by rw [hal3]; decide, rfl, hal3.symm⟩), hO⟩
      · skip
        refine wp_skip ?_
        refine b_n ?_
        refine k_n ?_
        refine wp_region_lit ?_
        refine wl_v hF rfl rfl rfl (q_move rfl (hF.eval rfl)) fun a hF => ?_
        refine wl_v hF rfl rfl rfl (q_add rfl (hF.eval rfl) (hF.eval rfl) (by omega)) fun a hF => ?_
        refine wl_v hF rfl rfl rfl (q_assign rfl (hF.eval rfl)) fun a hF => ?_
        refine wl_nil ?_
        refine k_n ?_
        have hO : St _ _ _ [] := hO
        exact ⟨i + 1, ⟨⟨by omega, gat_next hp hsml (not_or.1 hc4).1 (not_or.1 hc4).2⟩, hO, hF.sub ⟨rfl, rfl, rfl, rfl, trivial⟩⟩, by omega⟩
    · skip
      have hti2 : ps.take i = ps := List.take_of_length_le (by omega)
      rw [hti2] at hsml
      have hal : allF (tysOf (ps.map er2)) 0 = 0 := by
        rw [hbig, if_neg]
        rintro ⟨t, ht, hb⟩
        exact gat_all (Q := fun t => ¬ 1000 < (nodesF t : Int)) hsml t ht hb
      obtain ⟨rs, hrs, hrok⟩ := right_pairs (allF_zero hal).2
      have hrl := pairs_len hrs
      have hS9 : (∀ θ, ¬ Unif rtG θ rs) → UniSpec (ps.map er2) [] 70 := fun h => Or.inr ⟨hal, rs, hrs, Or.inl ⟨h, rfl, rfl⟩⟩
      refine wp_exit ?_
      refine k_x ?_
      refine k_x ?_
      refine b_x ?_
      refine k_n ?_
      refine wp_seq ?_
      refine wp_region_lit ?_
      refine wl_v hF rfl rfl rfl (c_build hF Try.underlying69 Try.zeroValue69 Try_places69 rfl rfl rfl rfl) fun a hF => ?_
      refine wl_e hF rfl rfl rfl (e_box hO rfl (hF.eval rfl) rfl) ?_
      rintro a _ w ⟨sb, rfl, hO⟩ hF
      have hO := hO.nilSl 106 5
      refine wl_v hF rfl rfl rfl (q_assign rfl (hF.eval rfl)) fun a hF => ?_
      refine wl_nil ?_
      refine k_n ?_
      refine wp_seq ?_
      refine wp_region_lit ?_
      refine wl_v hF rfl rfl rfl (c_build hF Try.underlying73 Try.zeroValue73 Try_places73 rfl rfl rfl rfl) fun a hF => ?_
      refine wl_e hF rfl rfl rfl (e_box hO rfl (hF.eval rfl) rfl) ?_
      rintro a _ w ⟨nb, rfl, hO⟩ hF
      have hO := hO.nilSl 74 1
      have hO := hO.nilSl 9 1
      refine wl_v hF rfl rfl rfl (q_assign rfl (hF.eval rfl)) fun a hF => ?_
      refine wl_nil ?_
      refine k_n ?_
      refine wp_seq ?_
      refine wp_seq ?_
      refine wp_region_lit ?_
      refine wl_v hF rfl rfl rfl (q_assign rfl (hF.eval rfl)) fun a hF => ?_
      refine wl_nil ?_
      refine k_n ?_
      refine wp_block ?_
      have hO := hO.pull 1 rfl
      have hO := hO.pull 1 rfl
      have hO := hO.pull 2 rfl
      have hO := hO.pull 3 rfl
      have hO := hO.pull 4 rfl
      have hO : St _ _ _ [_, _, _, _, _] := hO
      refine wp_loopS (fun (s : Nat × Value × List Tm × Value × Value × List (Nam × Nat)) a w' => match s with | (i, vT, T, va, vb, vl) => (i ≤ ps.length ∧ UInv (stoL T) (vmL vl) (rs.take i) ∧ AcyE (stoL T) ∧ (vl.map (·.1)).Nodup ∧ T.length ≤ 2000 * i ∧ vl.length ≤ 2000 * i) ∧ St w0 [] w' [.ob sb 69 [vT], slT vT 106 thE T, .ob nb 73 [va, vb], slT va 9 strE (vl.map (·.1)), slT vb 74 intE (vl.map fun p => (p.2 : Int))] ∧ Fr a 135 [(0, vp), (2, .slice none 0 0), (3, i64 0), (6, ptr (adr sb)), (7, ptr (adr nb)), (8, i64 i)]) (fun (s : Nat × Value × List Tm × Value × Value × List (Nam × Nat)) => match s with | (i, vT, T, va, vb, vl) => ps.length - i) (0, .slice none 0 0, [], .slice none 0 0, .slice none 0 0, []) ⟨⟨by omega, UInv.start _, ⟨id, id, ⟨fun _ h => (by cases h), fun _ h => (by cases h), fun _ h => (by cases h), fun _ h => (by cases h), fun _ h => (by cases h), fun _ h => (by cases h)⟩, fun _ h => (by cases h)⟩, List.nodup_nil, by simp, by simp⟩, hO, hF.sub ⟨rfl, rfl, rfl, rfl, rfl, rfl, trivial⟩⟩ ?_
      rintro ⟨i, vT, T, va, vb, vl⟩ a w ⟨⟨hi, hU, hAE, hnd, hTl, hvl⟩, hO, hF⟩
      refine wp_seq ?_
      refine wp_seq ?_
      refine wp_region_lit ?_
      refine wl_v hF rfl rfl rfl (q_move rfl (hF.eval rfl)) fun a hF => ?_
      refine wl_v hF rfl rfl rfl (q_move rfl (hF.eval rfl)) fun a hF => ?_
      refine wl_v hF rfl rfl rfl (q_lenRd hR Try.underlying22 rfl (hF.eval rfl)) fun a hF => ?_
      refine wl_v hF rfl rfl rfl (q_lt rfl (hF.eval rfl) (hF.eval rfl)) fun a hF => ?_
      refine wl_nil ?_
      refine k_n ?_
      refine wp_ifD hF rfl rfl (fun hc5 => ?_) (fun hc5 => ?_)
      · skip
        refine wp_skip ?_
        refine k_n ?_
        refine wp_seq ?_
        refine wp_block ?_
        refine wp_seq ?_
        refine wp_region_lit ?_
        refine wl_v hF rfl rfl rfl (q_move rfl (hF.eval rfl)) fun a hF => ?_
        refine wl_v hF rfl rfl rfl (q_move rfl (hF.eval rfl)) fun a hF => ?_
        refine wl_v hF rfl rfl rfl (q_move rfl (hF.eval rfl)) fun a hF => ?_
        obtain ⟨p, hp⟩ := get_ex (l := ps) (i := i) (by omega)
        refine wl_v hF rfl rfl rfl (q_at (i := i) hR Try.underlying22 Try.sizeOf34 rfl (hF.eval rfl) (hF.eval rfl) (by omega)) fun a hF => ?_
        obtain ⟨hRp1, hRp2⟩ := hRd p (List.mem_of_getElem? hp)
        have hNp1 := (hFt p (List.mem_of_getElem? hp)).1.nodes
        have hNp2 := (hFt p (List.mem_of_getElem? hp)).2.nodes
        obtain ⟨r, hr, he1, he2⟩ := pair_at hrs hp
        obtain ⟨ρ, d, hW, hAc⟩ := hAE
        obtain ⟨⟨ro1, rn1⟩, ro2, rn2⟩ := hrok r (List.mem_of_getElem? hr)
        refine wl_v hF rfl rfl rfl (q_atArr (i := 0) Try.underlying34 Try.sizeOf33 rfl (hF.eval rfl) (hF.eval rfl) (by decide)) fun a hF => ?_
        refine wl_v hF rfl rfl rfl (q_loadAgg Try.isAgg33 Try.sizeOf33 rfl (hF.eval rfl) (RdT.cellsK (hR.now hO) hp 0 3 rfl) rfl) fun a hF => ?_
        refine wl_v hF rfl rfl rfl (q_move rfl (hF.eval rfl)) fun a hF => ?_
        have hO := hO.pull 4 rfl
        have hO := hO.pull 4 rfl
        have hO := hO.pull 4 rfl
        have hO := hO.pull 4 rfl
        have hO := hO.pull 4 rfl
        have hO : St _ _ _ [_, _, _, _, _] := hO
        refine wl_e hF rfl rfl rfl (c_call hF rfl rfl Try.call34 (add_r sb nb (r.1.nodes + 1) r.1 (by omega) p.1 _ _ T _ _ vl _ _ hW hU.ok hnd (by omega) (by omega) hO.own5 (RdN.now (St.front (A := [_, _, _, _, _]) hO) hRp1) he1)) ?_
        rintro a _ w ⟨vT1, T1, va1, vb1, vl1, b1, rfl, hP1, hQ1, hT1, hv1, hnd1, hS⟩ hF
        have hO := hO.call5 hS
        have hO : St _ _ _ [_, _, _, _, _] := hO
        obtain ⟨ρ1, d1, hW1⟩ := hP1.wf
        refine wl_v hF rfl rfl rfl (q_assign rfl (hF.eval rfl)) fun a hF => ?_
        refine wl_nil ?_
        refine k_n ?_
        refine wp_seq ?_
        refine wp_region_lit ?_
        refine wl_v hF rfl rfl rfl (q_move rfl (hF.eval rfl)) fun a hF => ?_
        refine wl_v hF rfl rfl rfl (q_move rfl (hF.eval rfl)) fun a hF => ?_
        refine wl_v hF rfl rfl rfl (q_move rfl (hF.eval rfl)) fun a hF => ?_
        refine wl_v hF rfl rfl rfl (q_move rfl (hF.eval rfl)) fun a hF => ?_
        refine wl_v hF rfl rfl rfl (q_move rfl (hF.eval rfl)) fun a hF => ?_
        refine wl_v hF rfl rfl rfl (q_at (i := i) hR Try.underlying22 Try.sizeOf34 rfl (hF.eval rfl) (hF.eval rfl) (by omega)) fun a hF => ?_
        refine wl_v hF rfl rfl rfl (q_atArr (i := 1) Try.underlying34 Try.sizeOf33 rfl (hF.eval rfl) (hF.eval rfl) (by decide)) fun a hF => ?_
        refine wl_v hF rfl rfl rfl (q_loadAgg Try.isAgg33 Try.sizeOf33 rfl (hF.eval rfl) (RdT.cellsK (hR.now hO) hp 3 3 rfl) rfl) fun a hF => ?_
        refine wl_v hF rfl rfl rfl (q_move rfl (hF.eval rfl)) fun a hF => ?_
        have hO := hO.pull 4 rfl
        have hO := hO.pull 4 rfl
        have hO := hO.pull 4 rfl
        have hO := hO.pull 4 rfl
        have hO := hO.pull 4 rfl
        have hO : St _ _ _ [_, _, _, _, _] := hO
        refine wl_e hF rfl rfl rfl (c_call hF rfl rfl Try.call34 (add_r sb nb (r.2.nodes + 1) r.2 (by omega) p.2 _ _ T1 _ _ vl1 _ _ hW1 hP1.ok hnd1 (by omega) (by omega) hO.own5 (RdN.now (St.front (A := [_, _, _, _, _]) hO) hRp2) he2)) ?_
        rintro a _ w ⟨vT2, T2, va2, vb2, vl2, b2, rfl, hP2, hQ2, hT2, hv2, hnd2, hS⟩ hF
        have hO := hO.call5 hS
        have hO : St _ _ _ [_, _, _, _, _] := hO
        obtain ⟨ρ2, d2, hW2, hAc2⟩ := hQ2 (hQ1 ⟨_, _, hW, hAc⟩)
        obtain ⟨ta, hta⟩ := hAc2 b1 (hP2.sub.ids _ hP1.mem)
        have hO := hO.pull 1 rfl
        have hO := hO.pull 1 rfl
        have hO : St _ _ _ [_, _, _, _, _] := hO
        refine wl_e hF rfl rfl rfl (c_call hF rfl rfl Try.call35 (sameS_r sb _ (uvN (stoL T2)) (ta.nodes + 1) T2 ρ2 d2 _ hW2 hP2.ok hAc2 (by omega) b1 b2 (hP2.sub.ids _ hP1.mem) hP2.mem ta hta rfl (by omega) _ hO.own2)) ?_
        rintro a _ w ⟨T3, ok, rfl, hE, hT3, hS⟩ hF
        have hO := hO.call2 hS
        have hO : St _ _ _ [_, _, _, _, _] := hO
        refine wl_v hF rfl rfl rfl (q_not rfl (hF.eval rfl) (dec_b _)) fun a hF => ?_
        refine wl_nil ?_
        refine k_n ?_
        refine wp_ifD hF rfl rfl (fun hc6 => ?_) (fun hc6 => ?_)
        · skip
          have hok : ok = false := by simpa using hc6
          subst hok
          refine wp_seq ?_
          refine wp_region_lit ?_
          refine wl_v hF rfl rfl rfl (q_assign rfl (hF.eval rfl)) fun a hF => ?_
          refine wl_v hF rfl rfl rfl (q_assign rfl (hF.eval rfl)) fun a hF => ?_
          refine wl_nil ?_
          refine k_n ?_
          refine wp_ret ?_
          refine b_r ?_
          refine k_r ?_
          refine k_r ?_
          refine b_r ?_
          refine k_r ?_
          refine r_2 hF rfl rfl rfl ?_
          have hO := hO.drop1 0
          have hO := hO.drop1 0
          have hO := hO.drop1 0
          have hO := hO.drop1 0
          have hO := hO.drop1 0
          have hO : St _ _ _ [] := hO
          have hO := hO.grp0
          have hO := hO.nilSl 45 4
          exact ⟨nilH, [], 70, rfl, (hS9 fun θ hu => hU.stop0 (rest := rs.drop (i + 1)) hP1 hP2 (hE.2.2 rfl) θ (by rwa [show rs.take i ++ r :: rs.drop (i + 1) = rs by rw [← (List.getElem?_eq_some_iff.1 hr).2, ← List.drop_eq_getElem_cons, List.take_append_drop]])), hO⟩
        · skip
          have hok : ok = true := by simpa using hc6
          subst hok
          obtain ⟨ρ4, d4, hM⟩ := hE.2.1 rfl
          refine wp_skip ?_
          refine b_n ?_
          refine k_n ?_
          refine wp_region_lit ?_
          refine wl_v hF rfl rfl rfl (q_move rfl (hF.eval rfl)) fun a hF => ?_
          refine wl_v hF rfl rfl rfl (q_add rfl (hF.eval rfl) (hF.eval rfl) (by omega)) fun a hF => ?_
          refine wl_v hF rfl rfl rfl (q_assign rfl (hF.eval rfl)) fun a hF => ?_
          refine wl_nil ?_
          refine k_n ?_
          have hO : St _ _ _ [_, _, _, _, _] := hO
          exact ⟨(i + 1, _, T3, _, _, vl2), ⟨⟨by omega, by rw [takeAt hr]; exact hU.next0 hP1 hP2 hE.1 ⟨_, _, hM.wf⟩ hM.iff, ⟨_, _, hM.wf, hM.acy⟩, hnd2, by omega, by omega⟩, hO, hF.sub ⟨rfl, rfl, rfl, rfl, rfl, rfl, trivial⟩⟩, by dsimp only; omega⟩
      · skip
        have hti3 : rs.take i = rs := List.take_of_length_le (by omega)
        rw [hti3] at hU
        obtain ⟨ρ, d, hW, hAc⟩ := hAE
        have hv9 : (vl.map (·.1)).length = vl.length := List.length_map _
        refine wp_exit ?_
        refine k_x ?_
        refine k_x ?_
        refine b_x ?_
        refine k_n ?_
        refine wp_seq ?_
        refine wp_region_lit ?_
        refine wl_v hF rfl rfl rfl (q_assign rfl (hF.eval rfl)) fun a hF => ?_
        have hO := hO.nilSl 45 4
        refine wl_nil ?_
        refine k_n ?_
        refine wp_seq ?_
        refine wp_region_lit ?_
        refine wl_v hF rfl rfl rfl (q_move rfl (hF.eval rfl)) fun a hF => ?_
        refine wl_v hF rfl rfl rfl (q_nilCheck rfl (hF.eval rfl)) fun a hF => ?_
        refine wl_v hF rfl rfl rfl (q_fieldAddr0 (d := 0) Try.underlying73 rfl (hF.eval rfl) rfl Try.sizeOf56 (by decide) rfl) fun a hF => ?_
        refine wl_v hF rfl rfl rfl (q_load Try.isAgg56 rfl (hF.eval rfl) (hO.cell 3 rfl rfl)) fun a hF => ?_
        refine wl_e hF rfl rfl rfl (c_call hF rfl rfl Try.call36 (sorted_r _ _ _ (hO.rdT 4 rfl) hnd (by omega))) ?_
        rintro a vn w ⟨ns, hasc, hnm, hnsl, hS⟩ hF
        have hO := hO.call0 hS
        have hO : St _ _ _ [_, _, _, _, _, _, _] := hO
        have hdom : ∀ n, vmL vl n = none ↔ n ∉ ns := fun n => by rw [vmL_none, hnm n]
        have hmemv : ∀ n, n ∈ ns ↔ n ∈ psVs rs := fun n => Decidable.not_iff_not.1 ((hdom n).symm.trans (hU.dom n))
        have hres : ∀ n ∈ ns, ∃ c t, vmL vl n = some c ∧ Res (stoL T) ρ c t := fun n hn => by
          cases hv : vmL vl n with
          | none => exact absurd hn ((hdom n).1 hv)
          | some c => exact (hAc c (hU.ok.to n c hv).1).elim fun t ht => ⟨c, t, rfl, ht⟩
        obtain ⟨σ, hσ1, hσ2⟩ := sol_choice hres hdom
        have hcan := hU.canon hW hσ1 hσ2
        refine wl_v hF rfl rfl rfl (q_assign rfl (hF.eval rfl)) fun a hF => ?_
        refine wl_nil ?_
        refine k_n ?_
        refine wp_seq ?_
        refine wp_seq ?_
        refine wp_region_lit ?_
        refine wl_v hF rfl rfl rfl (q_assign rfl (hF.eval rfl)) fun a hF => ?_
        have hO : St _ _ _ (sbG 33 [] :: _) := hO.grp0
        have hO : St _ _ _ [_, _, _, _, _, _, _, _] := hO
        refine wl_nil ?_
        refine k_n ?_
        refine wp_block ?_
        have hO := hO.pull 2 rfl
        have hO := hO.pull 2 rfl
        have hO := hO.pull 7 rfl
        have hO := hO.pull 7 rfl
        have hO := hO.pull 7 rfl
        have hO := hO.pull 7 rfl
        have hO := hO.pull 7 rfl
        have hO : St _ _ _ [_, _, _, _, _, _, _, _] := hO
        refine wp_loopS (fun (s : Nat × Value × List SbN) a w' => match s with | (j, vo, l) => (j ≤ ns.length ∧ l.map SbN.er = ansL (ns.take j) σ ∧ ∀ n ∈ ns.take j, (σ n).nodes ≤ 1000) ∧ St w0 [] w' [.ob sb 69 [vT], slT vT 106 thE T, .ob nb 73 [va, vb], slT va 9 strE (vl.map (·.1)), slT vb 74 intE (vl.map fun p => (p.2 : Int)), slT vn 9 strE ns, slT vo 45 sbE l, sbG 33 l] ∧ Fr a 135 [(2, .slice none 0 0), (3, i64 0), (6, ptr (adr sb)), (7, ptr (adr nb)), (10, vo), (11, vn), (12, i64 j)]) (fun (s : Nat × Value × List SbN) => match s with | (j, vo, l) => ns.length - j) (0, _, []) ⟨⟨by omega, rfl, fun n hn => by simp at hn⟩, hO, hF.sub ⟨rfl, rfl, rfl, rfl, rfl, rfl, rfl, trivial⟩⟩ ?_
        rintro ⟨j, vo, l⟩ a w ⟨⟨hj, hl, hsm⟩, hO, hF⟩
        have hll := (hO.rdT 6 rfl).lenle
        have hl9 : l.length ≤ j := by have := congrArg List.length hl; rw [List.length_map] at this; rw [this]; unfold ansL; rw [List.length_map]; exact Nat.le_trans (List.length_filter_le _ _) (by rw [List.length_take]; omega)
        refine wp_seq ?_
        refine wp_seq ?_
        refine wp_region_lit ?_
        refine wl_v hF rfl rfl rfl (q_move rfl (hF.eval rfl)) fun a hF => ?_
        refine wl_v hF rfl rfl rfl (q_move rfl (hF.eval rfl)) fun a hF => ?_
        refine wl_v hF rfl rfl rfl (q_lenRd (hO.rd 5 rfl) Try.underlying56 rfl (hF.eval rfl)) fun a hF => ?_
        refine wl_v hF rfl rfl rfl (q_lt rfl (hF.eval rfl) (hF.eval rfl)) fun a hF => ?_
        refine wl_nil ?_
        refine k_n ?_
        refine wp_ifD hF rfl rfl (fun hc7 => ?_) (fun hc7 => ?_)
        · skip
          refine wp_skip ?_
          refine k_n ?_
          refine wp_seq ?_
          refine wp_block ?_
          refine wp_seq ?_
          refine wp_region_lit ?_
          refine wl_v hF rfl rfl rfl (q_move rfl (hF.eval rfl)) fun a hF => ?_
          refine wl_v hF rfl rfl rfl (q_move rfl (hF.eval rfl)) fun a hF => ?_
          refine wl_v hF rfl rfl rfl (q_move rfl (hF.eval rfl)) fun a hF => ?_
          obtain ⟨nm, hx⟩ := get_ex (l := ns) (i := j) (by omega)
          refine wl_v hF rfl rfl rfl (q_at (i := j) (hO.rd 5 rfl) Try.underlying56 Try.sizeOf9 rfl (hF.eval rfl) (hF.eval rfl) (by omega)) fun a hF => ?_
          refine wl_v hF rfl rfl rfl (q_load Try.isAgg9 rfl (hF.eval rfl) (RdT.cell0 (hO.rdT 5 rfl) hx rfl)) fun a hF => ?_
          obtain ⟨c, hc⟩ : ∃ c, vmL vl nm = some c := by cases hv : vmL vl nm with | some c => exact ⟨c, rfl⟩ | none => exact absurd (List.mem_of_getElem? hx) ((hdom nm).1 hv)
          have hcm := (hU.ok.to nm c hc).1
          refine wl_e hF rfl rfl rfl (c_call hF rfl rfl Try.call37 (get_rs _ nb _ _ vl (hO.rdOb 2 rfl) (hO.rdT 3 rfl) (hO.rdT 4 rfl) nm hc)) ?_
          rintro a _ w ⟨rfl, hS⟩ hF
          have hO := hO.call0 hS
          have hO : St _ _ _ [_, _, _, _, _, _, _, _] := hO
          refine wl_v hF rfl rfl rfl (q_assign rfl (hF.eval rfl)) fun a hF => ?_
          refine wl_nil ?_
          refine k_n ?_
          refine wp_seq ?_
          refine wp_seq ?_
          refine wp_region_lit ?_
          refine wl_v hF rfl rfl rfl (q_move rfl (hF.eval rfl)) fun a hF => ?_
          refine wl_v hF rfl rfl rfl (q_move rfl (hF.eval rfl)) fun a hF => ?_
          refine wl_e hF rfl rfl rfl (c_call hF rfl rfl Try.call38 (count_r sb vT T ρ d hW (by omega) ((σ nm).nodes + 1) (σ nm) (by omega) c 1001 _ hcm (hσ1 nm c hc) (by decide) (by decide) (hO.rdOb 0 rfl) (hO.rdT 1 rfl))) ?_
          rintro a _ w ⟨rfl, hS⟩ hF
          have hO := hO.call0 hS
          have hO : St _ _ _ [_, _, _, _, _, _, _, _] := hO
          refine wl_v hF rfl rfl rfl (q_gt rfl (hF.eval rfl) (hF.eval rfl)) fun a hF => ?_
          refine wl_nil ?_
          refine k_n ?_
          refine wp_ifD hF rfl rfl (fun hc8 => ?_) (fun hc8 => ?_)
          · skip
            refine wp_seq ?_
            refine wp_region_lit ?_
            refine wl_v hF rfl rfl rfl (q_assign rfl (hF.eval rfl)) fun a hF => ?_
            refine wl_v hF rfl rfl rfl (q_assign rfl (hF.eval rfl)) fun a hF => ?_
            refine wl_nil ?_
            refine k_n ?_
            refine wp_ret ?_
            refine k_r ?_
            refine b_r ?_
            refine k_r ?_
            refine k_r ?_
            refine b_r ?_
            refine k_r ?_
            refine r_2 hF rfl rfl rfl ?_
            have hO := hO.drop1 0
            have hO := hO.drop1 0
            have hO := hO.drop1 0
            have hO := hO.drop1 0
            have hO := hO.drop1 0
            have hO := hO.drop1 0
            have hO := hO.drop1 0
            have hO := hO.drop1 0
            have hO : St _ _ _ [] := hO
            have hO := hO.grp0
            have hO := hO.nilSl 45 4
            exact ⟨nilH, [], 3, rfl, (Or.inr ⟨hal, rs, hrs, Or.inr ⟨σ, ns, hcan, hasc, hmemv, Or.inl ⟨⟨nm, List.mem_of_getElem? hx, (cnt_iff _).1 hc8⟩, rfl, rfl⟩⟩⟩), hO⟩
          · skip
            have hfit : (σ nm).nodes ≤ 1000 := by have := (cnt_iff (σ nm)).2; omega
            have hsm2 : ∀ n ∈ ns.take (j + 1), (σ n).nodes ≤ 1000 := fun n hn => by rw [takeAt hx] at hn; rcases List.mem_append.1 hn with hn | hn; exact hsm n hn; rw [List.mem_singleton.1 hn]; exact hfit
            refine wp_skip ?_
            refine k_n ?_
            refine wp_seq ?_
            refine wp_region_lit ?_
            refine wl_v hF rfl rfl rfl (q_move rfl (hF.eval rfl)) fun a hF => ?_
            refine wl_v hF rfl rfl rfl (q_move rfl (hF.eval rfl)) fun a hF => ?_
            refine wl_e hF rfl rfl rfl (c_call hF rfl rfl Try.call39 (type_r sb vT T ρ d hW (by omega) ((σ nm).nodes + 1) (σ nm) (by omega) c _ hcm (hσ1 nm c hc) (hO.rdOb 0 rfl) (hO.rdT 1 rfl))) ?_
            rintro a _ w ⟨tt, rfl, htt, hS⟩ hF
            have hO := hO.call0 hS
            have hO : St _ _ _ [_, _, _, _, _, _, _, _, _] := hO
            refine wl_e hF rfl rfl rfl (e_alloc hO Try.zeroValue33 rfl rfl) ?_
            rintro a _ w ⟨t14, rfl, hO⟩ hF
            refine wl_s hF rfl rfl (e_storeAll hO (i := 0) rfl Try.sizeOf33 rfl (hF.eval rfl) (hF.eval rfl) rfl rfl) ?_
            rintro a _ w ⟨-, hO⟩ hF
            have hO : St _ _ _ [_, _, _, _, _, _, _, _, _, _] := hO
            refine wl_nil ?_
            refine k_n ?_
            refine wp_seq ?_
            have hO := hO.drew
            refine wp_region_D [0, 1, 0, 0, 0, 1, 0, 0, 0, 1, 0, 0] (fun w => St _ _ w _) Try_mixed (by kernel_rfl) hO ?_
            refine wd_p hF rfl rfl rfl (fun w => q_fieldAddr0 (d := 0) Try.underlying33 rfl (hF.eval rfl) rfl Try.sizeOf3 (by decide) rfl) fun a hF => ?_
            refine wd_r hF rfl rfl rfl (fun w hO => q_load Try.isAgg3 rfl (hF.eval rfl) (hO.cell 0 rfl rfl)) fun a hF => ?_
            refine wd_p hF rfl rfl rfl (fun w => q_ne rfl (hF.eval rfl) (hF.eval rfl)) fun a hF => ?_
            refine wd_p hF rfl rfl rfl (fun w => q_move rfl (hF.eval rfl)) fun a hF => ?_
            refine wd_gp hF rfl rfl rfl rfl rfl rfl (fun hg w => q_fieldAddr0 (d := 1) Try.underlying33 rfl (hF.eval rfl) rfl Try.sizeOf9 (by decide) rfl) fun a hF => ?_
            refine wd_gr hF rfl rfl rfl rfl rfl rfl (fun hg w hO => q_load Try.isAgg9 rfl ((hF.eval rfl).trans (gv_of hg)) (hO.cell 0 rfl rfl)) fun a hF => ?_
            refine wd_gp hF rfl rfl rfl rfl rfl rfl (fun hg w => q_move rfl (hF.eval rfl)) fun a hF => ?_
            refine wd_gp hF rfl rfl rfl rfl rfl rfl (fun hg w => q_move rfl (hF.eval rfl)) fun a hF => ?_
            refine wd_gp hF rfl rfl rfl rfl rfl rfl (fun hg w => q_at (i := j) (hO.rd 7 rfl) Try.underlying56 Try.sizeOf9 rfl ((hF.eval rfl).trans (gv_of hg)) ((hF.eval rfl).trans (gv_of hg)) (by omega)) fun a hF => ?_
            refine wd_gr hF rfl rfl rfl rfl rfl rfl (fun hg w hO => q_load Try.isAgg9 rfl ((hF.eval rfl).trans (gv_of hg)) (RdT.cell0 (hO.rdT 7 rfl) hx rfl)) fun a hF => ?_
            refine wd_gp hF rfl rfl rfl rfl rfl rfl (fun hg w => q_sne rfl ((hF.eval rfl).trans (gv_of hg)) ((hF.eval rfl).trans (gv_of hg))) fun a hF => ?_
            refine wd_p hF rfl rfl rfl (fun w => q_or rfl (hF.eval rfl) rfl (fun hg2 => ((hF.eval rfl).trans (gv_of hg2))) rfl) fun a hF => ?_
            refine wd_nil ?_
            refine k_n ?_
            refine wp_ifD hF rfl rfl (fun hc9 => ?_) (fun hc9 => ?_)
            · skip
              have hO := hO.drew
              refine wp_region_D [0, 0, 0, 0, 1, 1, 0, 2, 3, 0] (fun w => St _ _ w _) Try_mixed (by kernel_rfl) hO ?_
              refine wd_p hF rfl rfl rfl (fun w => q_move rfl (hF.eval rfl)) fun a hF => ?_
              refine wd_p hF rfl rfl rfl (fun w => q_move rfl (hF.eval rfl)) fun a hF => ?_
              refine wd_p hF rfl rfl rfl (fun w => q_move rfl (hF.eval rfl)) fun a hF => ?_
              refine wd_p hF rfl rfl rfl (fun w => q_at (i := j) (hO.rd 7 rfl) Try.underlying56 Try.sizeOf9 rfl (hF.eval rfl) (hF.eval rfl) (by omega)) fun a hF => ?_
              refine wd_r hF rfl rfl rfl (fun w hO => q_load Try.isAgg9 rfl (hF.eval rfl) (RdT.cell0 (hO.rdT 7 rfl) hx rfl)) fun a hF => ?_
              refine wd_r hF rfl rfl rfl (fun w hO => q_loadAgg Try.isAgg33 Try.sizeOf33 rfl (hF.eval rfl) (hO.cells 0 rfl) rfl) fun a hF => ?_
              refine wd_p hF rfl rfl rfl (fun w => c_buildG hF Try.underlying45 Try.zeroValue45 Try_placesG45 rfl rfl rfl rfl) fun a hF => ?_
              refine wd_e hF rfl rfl rfl (c_buildSlice hF hO Try.underlying23 Try.sizeOf45 Try.zeroValue45 rfl rfl rfl rfl rfl rfl rfl) (fun _ _ ⟨_, _, hO⟩ => hO.tail) ?_
              rintro a _ w ⟨b2, rfl, hO⟩ hF
              refine wd_f hF rfl rfl rfl (e_appendT (bytes := 64) (r := [⟨nm, tt⟩]) hO (i := 9) rfl (hO.rd 0 rfl) Try.underlying23 Try_info45 rfl rfl rfl rfl rfl rfl (hF.eval rfl) (hF.eval rfl) (by show (List.length _ + 1) * 64 ≤ _; omega) (by show List.length _ + 1 ≤ _; omega)) ?_
              rintro a v133 w hO hF
              have hO : St _ _ _ [_, _, _, _, _, _, _, _, _, _, _] := hO
              have hO := hO.pull 2 rfl
              have hO := St.intoS (s := ⟨nm, tt⟩) hO 9 rfl
              have hO : St _ _ _ [_, _, _, _, _, _, _, _, _, _] := hO
              refine wd_p hF rfl rfl rfl (fun w => q_assign rfl (hF.eval rfl)) fun a hF => ?_
              refine wd_nil ?_
              refine b_n ?_
              refine k_n ?_
              refine wp_region_lit ?_
              refine wl_v hF rfl rfl rfl (q_move rfl (hF.eval rfl)) fun a hF => ?_
              refine wl_v hF rfl rfl rfl (q_add rfl (hF.eval rfl) (hF.eval rfl) (by omega)) fun a hF => ?_
              refine wl_v hF rfl rfl rfl (q_assign rfl (hF.eval rfl)) fun a hF => ?_
              refine wl_nil ?_
              refine k_n ?_
              have hO := hO.drop1 0
              have hO := hO.drop1 0
              have hO : St _ _ _ [_, _, _, _, _, _, _, _] := hO
              exact ⟨(j + 1, _, l ++ [⟨nm, tt⟩]), ⟨⟨by omega, ansL_next hl hx htt ((isV_ty htt).1 hc9), hsm2⟩, hO, hF.sub ⟨rfl, rfl, rfl, rfl, rfl, rfl, rfl, trivial⟩⟩, by dsimp only; omega⟩
            · skip
              refine wp_skip ?_
              refine b_n ?_
              refine k_n ?_
              refine wp_region_lit ?_
              refine wl_v hF rfl rfl rfl (q_move rfl (hF.eval rfl)) fun a hF => ?_
              refine wl_v hF rfl rfl rfl (q_add rfl (hF.eval rfl) (hF.eval rfl) (by omega)) fun a hF => ?_
              refine wl_v hF rfl rfl rfl (q_assign rfl (hF.eval rfl)) fun a hF => ?_
              refine wl_nil ?_
              refine k_n ?_
              have hO := hO.drop1 0
              have hO := hO.drop1 0
              have hO : St _ _ _ [_, _, _, _, _, _, _, _] := hO
              exact ⟨(j + 1, vo, l), ⟨⟨by omega, ansL_skip hl hx (by cases hv : isV (σ nm) nm with | true => rfl | false => exact absurd ((isV_ty htt).2 hv) hc9), hsm2⟩, hO, hF.sub ⟨rfl, rfl, rfl, rfl, rfl, rfl, rfl, trivial⟩⟩, by dsimp only; omega⟩
        · skip
          have htj : ns.take j = ns := List.take_of_length_le (by omega)
          rw [htj] at hl hsm
          refine wp_exit ?_
          refine k_x ?_
          refine k_x ?_
          refine b_x ?_
          refine k_n ?_
          refine wp_seq ?_
          refine wp_region_lit ?_
          refine wl_v hF rfl rfl rfl (q_move rfl (hF.eval rfl)) fun a hF => ?_
          refine wl_v hF rfl rfl rfl (q_assign rfl (hF.eval rfl)) fun a hF => ?_
          refine wl_v hF rfl rfl rfl (q_assign rfl (hF.eval rfl)) fun a hF => ?_
          refine wl_nil ?_
          refine k_n ?_
          refine wp_ret ?_
          refine r_2 hF rfl rfl rfl ?_
          have hO := hO.drop1 0
          have hO := hO.drop1 0
          have hO := hO.drop1 0
          have hO := hO.drop1 0
          have hO := hO.drop1 0
          have hO := hO.drop1 0
          have hO : St _ _ _ [_, _] := hO
          obtain ⟨q, rfl⟩ := Rd.hdr (hO.rd 0 rfl)
          exact ⟨q, l, 0, rfl, Or.inr ⟨hal, rs, hrs, Or.inr ⟨σ, ns, hcan, hasc, hmemv, Or.inr ⟨hsm, hl, rfl⟩⟩⟩, hO⟩

end Go.Proofs.Ytfkmlcgccffmnaa
