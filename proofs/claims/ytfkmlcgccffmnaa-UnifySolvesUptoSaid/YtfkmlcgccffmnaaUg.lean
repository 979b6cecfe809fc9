/- SI: slices.Sorted(maps.Keys(m)) at this program's two types of maps, as contracts of ours. -/
import Derived.Test.YtfkmlcgccffmnaaPu8
import Derived.Test.YtfkmlcgccffmnaaGf
import Derived.Test.YtfkmlcgccffmnaaUf
namespace Go.Proofs.Ytfkmlcgccffmnaa
open Go Go.RowKit Go.Maps Go.Sort Go.Shelf
theorem sorts28 (m : Nat) : AnyZ.SortsIn Try.prog Try.sorted28_ren Fence.wide m :=
  ⟨fun blk off cap ss W hH hblk hsz => callsIn_wide.2 (AnyM.slices_Sort_string Try.sort58 blk off cap ss W hH hblk hsz),
   fun p cap W => callsIn_wide.2 (AnyM.slices_Sort_string_none Try.sort58 p cap W)⟩
theorem keys29_r (mb : Nat) (w0 : World) : Ret Try.prog 29 #[.map (some mb)] w0 (fun v w' => ∃ kb, v = .func (.func 59) #[] #[ptr (adr kb)] ∧ St w0 [] w' [.ob kb 50 [.map (some mb)]]) := by
  have h : CallsIn Fence.wide 5 Try.prog 29 #[.map (some mb)] w0 fun e w' => e = .returned (.func (.func 59) #[] #[.pointer (some ⟨w0.heap.size, 0, none⟩)]) ∧ w' = w0.alloc (.cells #[.map (some mb)] 50) := AnyZ.keys_in Try.keys29 Fence.wide 5 trivial rfl (some mb) w0
  refine Calls.mono (callsIn_wide.1 h) fun e w' ⟨he, hw⟩ => ⟨_, he, w0.heap.size, rfl, ?_⟩
  rw [hw]
  exact (St.init0 w0).newOb 50 [.map (some mb)]
theorem keys53_r (mb : Nat) (w0 : World) : Ret Try.prog 53 #[.map (some mb)] w0 (fun v w' => ∃ kb, v = .func (.func 73) #[] #[ptr (adr kb)] ∧ St w0 [] w' [.ob kb 82 [.map (some mb)]]) := by
  have h : CallsIn Fence.wide 5 Try.prog 53 #[.map (some mb)] w0 fun e w' => e = .returned (.func (.func 73) #[] #[.pointer (some ⟨w0.heap.size, 0, none⟩)]) ∧ w' = w0.alloc (.cells #[.map (some mb)] 82) := AnyZ.keys_in Try.keys53 Fence.wide 5 trivial rfl (some mb) w0
  refine Calls.mono (callsIn_wide.1 h) fun e w' ⟨he, hw⟩ => ⟨_, he, w0.heap.size, rfl, ?_⟩
  rw [hw]
  exact (St.init0 w0).newOb 82 [.map (some mb)]
theorem st_sorted {w0 w' : World} {v : Value} {ss : List Nam} (hrow : w'.ownsRow w0.heap.size 9 1 v ss.length ((ss.mergeSort fun x y => decide (x ≤ y)).map encStr)) (hb : Below w0.heap.size w0 w') : St w0 [] w' [slT v 9 strE (ss.mergeSort fun x y => decide (x ≤ y))] := by
  have hlen : (ss.mergeSort fun x y => decide (x ≤ y)).length = ss.length := (List.mergeSort_perm _ _).length_eq
  have hs := st_below hb
  have hrow' : w'.ownsRow 0 9 1 v ss.length ((ss.mergeSort fun x y => decide (x ≤ y)).map encStr) := by
    refine ⟨hrow.1, hrow.2.imp id ?_⟩
    rintro ⟨g, cap, cur, h1, h2, h3⟩
    exact ⟨g, cap, cur, h1, Nat.zero_le _, h3⟩
  have hok : (slT v 9 strE (ss.mergeSort fun x y => decide (x ≤ y))).ok w' := by
    show w'.ownsRow 0 9 1 v (ss.mergeSort fun x y => decide (x ≤ y)).length (flat strE _)
    rw [flat_strE, hlen]; exact hrow'
  refine ⟨hs.os, hs.tape, hs.output, hs.le, hs.keep, fun e he => by rw [List.mem_singleton.1 he]; exact hok, ?_, fun b hb => ?_⟩
  · show (v.ownBlock.toList ++ []).Nodup
    cases v.ownBlock <;> simp
  · have hb : b ∈ v.ownBlock.toList ++ [] := hb
    rw [List.append_nil] at hb
    rcases hrow.2 with ⟨rfl, _⟩ | ⟨g, cap, cur, rfl, h2, _⟩
    · simp [Value.ownBlock] at hb
    · obtain rfl : b = g := by simpa [Value.ownBlock] using hb
      exact .inr h2
theorem sorted29_r (mb kb n : Nat) (f : Lit → Option Value) (w0 : World) (hm : MapIs Try.prog w0 9 mb n f) (hk : (Ent.ob kb 50 [.map (some mb)]).ok w0) (hn : n ≤ 4398046511104) :
    Ret Try.prog 28 #[.func (.func 59) #[] #[ptr (adr kb)]] w0 (fun v w' => ∃ ns, Asc ns ∧ (∀ x, x ∈ ns ↔ ¬ f (litS x) = none) ∧ ns.length ≤ n ∧ St w0 [] w' [slT v 9 strE ns]) := by
  obtain ⟨D0, hown, hf⟩ := hm
  obtain ⟨h1, h2, h3, h4⟩ := keys_of (string_keyed Try.underlying9) Try.underlying9 hown hf
  have hseq : SeqGives Fence.wide 2 Try.prog 59 #[.pointer (some ⟨kb, 0, none⟩)] encStr (fun ss => ss.Perm (strKeys D0)) (Maps.size D0) w0 :=
    AnyZ.keys_gives (ρ := Try.keys29_ren) { Try.keys29 with } Fence.wide _ trivial rfl (by omega) kb mb n D0 _ (Ent.ok_lt hk rfl) (cell_ob hk 0) hown
  have cS := AnyZ.sorted_in Try.sorted28 Fence.wide 5 trivial trivial trivial trivial rfl (by omega) (sorts28 _) (enters_of Try.func58 (by kernel_rfl) rfl) 59 #[.pointer (some ⟨kb, 0, none⟩)] trivial (enters_of Try.func59 (by kernel_rfl) rfl) _ _ (by unfold maxLen; omega) (by omega) _ hseq
  change CallsIn _ _ Try.prog 28 _ _ _ at cS
  refine Calls.mono (callsIn_wide.1 cS) fun e w' ⟨v, ss, he, hp, hrow, hnil, hb⟩ => ⟨v, he, _, (asc_sort hp h1).1, fun x => ((asc_sort hp h1).2 x).trans (h2 x), by rw [(List.mergeSort_perm _ _).length_eq, hp.length_eq]; exact h4, st_sorted hrow hb⟩
theorem sorted53_r (mb kb n : Nat) (f : Lit → Option Value) (w0 : World) (hm : MapIs Try.prog w0 9 mb n f) (hk : (Ent.ob kb 82 [.map (some mb)]).ok w0) (hn : n ≤ 4398046511104) :
    Ret Try.prog 28 #[.func (.func 73) #[] #[ptr (adr kb)]] w0 (fun v w' => ∃ ns, Asc ns ∧ (∀ x, x ∈ ns ↔ ¬ f (litS x) = none) ∧ ns.length ≤ n ∧ St w0 [] w' [slT v 9 strE ns]) := by
  obtain ⟨D0, hown, hf⟩ := hm
  obtain ⟨h1, h2, h3, h4⟩ := keys_of (string_keyed Try.underlying9) Try.underlying9 hown hf
  have hseq : SeqGives Fence.wide 2 Try.prog 73 #[.pointer (some ⟨kb, 0, none⟩)] encStr (fun ss => ss.Perm (strKeys D0)) (Maps.size D0) w0 :=
    AnyZ.keys_gives (ρ := Try.keys53_ren) { Try.keys53 with } Fence.wide _ trivial rfl (by omega) kb mb n D0 _ (Ent.ok_lt hk rfl) (cell_ob hk 0) hown
  have cS := AnyZ.sorted_in Try.sorted28 Fence.wide 5 trivial trivial trivial trivial rfl (by omega) (sorts28 _) (enters_of Try.func58 (by kernel_rfl) rfl) 73 #[.pointer (some ⟨kb, 0, none⟩)] trivial (enters_of Try.func73 (by kernel_rfl) rfl) _ _ (by unfold maxLen; omega) (by omega) _ hseq
  change CallsIn _ _ Try.prog 28 _ _ _ at cS
  refine Calls.mono (callsIn_wide.1 cS) fun e w' ⟨v, ss, he, hp, hrow, hnil, hb⟩ => ⟨v, he, _, (asc_sort hp h1).1, fun x => ((asc_sort hp h1).2 x).trans (h2 x), by rw [(List.mergeSort_perm _ _).length_eq, hp.length_eq]; exact h4, st_sorted hrow hb⟩
end Go.Proofs.Ytfkmlcgccffmnaa
namespace Go.Proofs.Ytfkmlcgccffmnaa
open Go
set_option maxRecDepth 100000
set_option linter.unusedVariables false
set_option maxHeartbeats 8000000 in
theorem unify_r (w0 : World) (vp : Value) (ps : List TN2) (hR : RdT w0 [] vp prE ps) (hRd : ∀ p ∈ ps, RdN w0 [] p.1 ∧ RdN w0 [] p.2) (hFt : ∀ p ∈ ps, Fit p.1.er ∧ Fit p.2.er) (hlen : ps.length ≤ 2097152) : Ret Try.prog 9 #[vp] w0 (fun v w' => ∃ (h : Hdr) (l : List SbN) (e : Int), v = .tuple #[h.v, i64 e] ∧ UniSpec (ps.map er2) (l.map SbN.er) e ∧ St w0 [] w' [slT h.v 45 sbE l, sbG 33 l]) := by
  have hO := St.init0 w0
  refine ret_of (m := 112) Try.func9 rfl Try.ntmps9 [(0, vp)] rfl ⟨rfl, trivial⟩ fun a hF => ?_
  refine wp_seq ?_
  refine wp_region_lit ?_
  refine wl_v hF rfl rfl rfl (q_assign rfl (hF.eval rfl)) fun a hF => ?_
  refine wl_v hF rfl rfl rfl (q_assign rfl (hF.eval rfl)) fun a hF => ?_
  refine wl_nil ?_
  refine k_n ?_
  refine wp_seq ?_
  refine wp_region_lit ?_
  refine wl_v hF rfl rfl rfl (q_assign rfl (hF.eval rfl)) fun a hF => ?_
  have hO := hO.nilSl 33 3
  refine wl_nil ?_
  refine k_n ?_
  refine wp_seq ?_
  refine wp_seq ?_
  refine wp_region_lit ?_
  refine wl_v hF rfl rfl rfl (q_move rfl (hF.eval rfl)) fun a hF => ?_
  refine wl_v hF rfl rfl rfl (q_lenRd hR Try.underlying22 rfl (hF.eval rfl)) fun a hF => ?_
  refine wl_v hF rfl rfl rfl (q_move rfl (hF.eval rfl)) fun a hF => ?_
  refine wl_nil ?_
  refine k_n ?_
  refine wp_block ?_
  have hO : St _ _ _ [_] := hO
  refine wp_loopS (fun (s : Nat × Value) a w' => match s with | (i, vt) => (i ≤ ps.length) ∧ St w0 [] w' [slT vt 33 tnE (gat (ps.take i))] ∧ Fr a 112 [(0, vp), (2, .slice none 0 0), (3, i64 0), (4, vt), (19, vp), (20, i64 ps.length), (21, i64 i)]) (fun (s : Nat × Value) => match s with | (i, vt) => ps.length - i) (0, .slice none 0 0) ⟨by omega, hO, hF.sub ⟨rfl, rfl, rfl, rfl, rfl, rfl, rfl, trivial⟩⟩ ?_
  rintro ⟨i, vt⟩ a w ⟨hi, hO, hF⟩
  have hgl := gat_len (ps.take i)
  have htl : (ps.take i).length = i := by rw [List.length_take]; omega
  refine wp_seq ?_
  refine wp_region_lit ?_
  refine wl_v hF rfl rfl rfl (q_lt rfl (hF.eval rfl) (hF.eval rfl)) fun a hF => ?_
  refine wl_nil ?_
  refine k_n ?_
  refine wp_seq ?_
  refine wp_ifD hF rfl rfl (fun hc1 => ?_) (fun hc1 => ?_)
  · skip
    refine wp_skip ?_
    refine k_n ?_
    refine wp_seq ?_
    refine wp_block ?_
    refine wp_seq ?_
    refine wp_region_lit ?_
    obtain ⟨x, hx⟩ := get_ex (l := ps) (i := i) (by omega)
    refine wl_v hF rfl rfl rfl (q_at (i := i) hR Try.underlying22 Try.sizeOf34 rfl (hF.eval rfl) (hF.eval rfl) (by omega)) fun a hF => ?_
    refine wl_v hF rfl rfl rfl (q_loadAgg Try.isAgg34 Try.sizeOf34 rfl (hF.eval rfl) (RdT.cells (hR.now hO) hx) rfl) fun a hF => ?_
    refine wl_e hF rfl rfl rfl (e_alloc hO Try.zeroValue34 rfl rfl) ?_
    rintro a _ w ⟨t6, rfl, hO⟩ hF
    refine wl_s hF rfl rfl (e_storeAll hO (i := 0) rfl Try.sizeOf34 rfl (hF.eval rfl) (hF.eval rfl) rfl rfl) ?_
    rintro a _ w ⟨-, hO⟩ hF
    have hO : St _ _ _ [_, _] := hO
    refine wl_nil ?_
    refine k_n ?_
    refine wp_region_lit ?_
    refine wl_v hF rfl rfl rfl (q_move rfl (hF.eval rfl)) fun a hF => ?_
    refine wl_v hF rfl rfl rfl (q_atArr (i := 0) Try.underlying34 Try.sizeOf33 rfl (hF.eval rfl) (hF.eval rfl) (by decide)) fun a hF => ?_
    refine wl_v hF rfl rfl rfl (q_loadAgg Try.isAgg33 Try.sizeOf33 rfl (hF.eval rfl) (hO.cellsK 0 rfl 0 3 rfl) rfl) fun a hF => ?_
    refine wl_v hF rfl rfl rfl (q_atArr (i := 1) Try.underlying34 Try.sizeOf33 rfl (hF.eval rfl) (hF.eval rfl) (by decide)) fun a hF => ?_
    refine wl_v hF rfl rfl rfl (q_loadAgg Try.isAgg33 Try.sizeOf33 rfl (hF.eval rfl) (hO.cellsK 0 rfl 3 3 rfl) rfl) fun a hF => ?_
    refine wl_e hF rfl rfl rfl (c_buildSlice hF hO Try.underlying31 Try.sizeOf33 Try.zeroValue33 rfl rfl rfl rfl rfl rfl rfl) ?_
    rintro a _ w ⟨b1, rfl, hO⟩ hF
    refine wl_e hF rfl rfl rfl (e_appendT (bytes := 48) (r := [x.1, x.2]) hO (i := 2) rfl (hO.rd 0 rfl) Try.underlying31 Try_info33 rfl rfl rfl rfl rfl rfl (hF.eval rfl) (hF.eval rfl) (by show (List.length _ + 2) * 48 ≤ _; omega) (by show List.length _ + 2 ≤ _; omega)) ?_
    rintro a v31 w hO hF
    have hO : St _ _ _ [_, _, _] := hO
    refine wl_v hF rfl rfl rfl (q_assign rfl (hF.eval rfl)) fun a hF => ?_
    refine wl_nil ?_
    refine b_n ?_
    refine k_n ?_
    refine wp_region_lit ?_
    refine wl_v hF rfl rfl rfl (q_add rfl (hF.eval rfl) (hF.eval rfl) (by omega)) fun a hF => ?_
    refine wl_v hF rfl rfl rfl (q_move rfl (hF.eval rfl)) fun a hF => ?_
    refine wl_nil ?_
    refine k_n ?_
    have hO := hO.drop1 0
    have hO := hO.drop1 0
    have hO : St _ _ _ [_] := hO
    rw [← gat_take hx] at hO
    exact ⟨(i + 1, _), ⟨by omega, hO, hF.sub ⟨rfl, rfl, rfl, rfl, rfl, rfl, rfl, trivial⟩⟩, by dsimp only; omega⟩
  · skip
    have hti : ps.take i = ps := List.take_of_length_le (by omega)
    rw [hti] at hO
    have hRt : ∀ t ∈ gat ps, RdN w0 [] t := fun t ht => by obtain ⟨p, hp, h | h⟩ := mem_gat.1 ht <;> rw [h]; exact (hRd p hp).1; exact (hRd p hp).2
    have hNt : ∀ t ∈ gat ps, nodesF t.er ≤ 2305843009213693952 := fun t ht => by obtain ⟨p, hp, h | h⟩ := mem_gat.1 ht <;> rw [h]; exact (hFt p hp).1.nodes; exact (hFt p hp).2.nodes
    refine wp_exit ?_
    refine k_x ?_
    refine k_x ?_
    refine b_x ?_
    refine k_n ?_
    refine wp_seq ?_
    refine wp_seq ?_
    refine wp_region_lit ?_
    refine wl_v hF rfl rfl rfl (q_move rfl (hF.eval rfl)) fun a hF => ?_
    refine wl_e hF rfl rfl rfl (c_call hF rfl rfl Try.call25 (all_r _ _ _ (hO.rdT 0 rfl) (fun t ht => (hRt t ht).at0 hO) hNt)) ?_
    rintro a _ w ⟨rfl, hS⟩ hF
    have hO := hO.call0 hS
    have hO : St _ _ _ [_] := hO
    refine wl_v hF rfl rfl rfl (q_assign rfl (hF.eval rfl)) fun a hF => ?_
    refine wl_nil ?_
    refine k_n ?_
    refine wp_seq ?_
    refine wp_region_lit ?_
    refine wl_v hF rfl rfl rfl (q_move rfl (hF.eval rfl)) fun a hF => ?_
    refine wl_v hF rfl rfl rfl (q_ne rfl (hF.eval rfl) (hF.eval rfl)) fun a hF => ?_
    refine wl_nil ?_
    refine k_n ?_
    refine wp_ifD hF rfl rfl (fun hc2 => ?_) (fun hc2 => ?_)
    · skip
      refine wp_seq ?_
      refine wp_region_lit ?_
      refine wl_v hF rfl rfl rfl (q_move rfl (hF.eval rfl)) fun a hF => ?_
      refine wl_v hF rfl rfl rfl (q_assign rfl (hF.eval rfl)) fun a hF => ?_
      refine wl_v hF rfl rfl rfl (q_assign rfl (hF.eval rfl)) fun a hF => ?_
      refine wl_nil ?_
      refine k_n ?_
      refine wp_ret ?_
      refine k_r ?_
      refine r_2 hF rfl rfl rfl ?_
      have hO := hO.drop1 0
      have hO : St _ _ _ [] := hO
      have hO := hO.grp0
      have hO := hO.nilSl 45 4
      exact ⟨nilH, [], _, rfl, (Or.inl (by rw [← gat_er]; exact ⟨hc2, rfl, rfl⟩)), hO⟩
    · skip
      have hal : allF (tysOf (ps.map er2)) 0 = 0 := by rw [← gat_er]; exact Classical.not_not.1 hc2
      obtain ⟨rs, hrs, hrok⟩ := right_pairs (allF_zero hal).2
      have hrl := pairs_len hrs
      have hS9 : (∀ θ, ¬ Unif rtG θ rs) → UniSpec (ps.map er2) [] 70 := fun h => Or.inr ⟨hal, rs, hrs, Or.inl ⟨h, rfl, rfl⟩⟩
      refine wp_skip ?_
      refine k_n ?_
      refine wp_seq ?_
      refine wp_region_lit ?_
      refine wl_e hF rfl rfl rfl (e_makeMap hO 9 rfl) ?_
      rintro a _ w ⟨bm, rfl, hO⟩ hF
      refine wl_v hF rfl rfl rfl (c_build hF Try.underlying52 Try.zeroValue52 Try_places52 rfl rfl rfl rfl) fun a hF => ?_
      refine wl_e hF rfl rfl rfl (e_box hO rfl (hF.eval rfl) rfl) ?_
      rintro a _ w ⟨wb, rfl, hO⟩ hF
      refine wl_v hF rfl rfl rfl (q_assign rfl (hF.eval rfl)) fun a hF => ?_
      refine wl_nil ?_
      refine k_n ?_
      refine wp_seq ?_
      refine wp_seq ?_
      refine wp_region_lit ?_
      refine wl_v hF rfl rfl rfl (q_move rfl (hF.eval rfl)) fun a hF => ?_
      refine wl_v hF rfl rfl rfl (q_lenRd hR Try.underlying22 rfl (hF.eval rfl)) fun a hF => ?_
      refine wl_v hF rfl rfl rfl (q_move rfl (hF.eval rfl)) fun a hF => ?_
      have hO : St _ _ _ (gE 99 ⟨[], fun _ => ⟨0, [], none, none, none, 0⟩⟩ :: _) := hO.grp0
      have hO : St _ _ _ [_, _, _, _] := hO
      refine wl_nil ?_
      refine k_n ?_
      refine wp_block ?_
      have hO := hO.drop1 3
      have hO := hO.pull 2 rfl
      have hO := hO.pull 2 rfl
      have hO : St _ _ _ [_, _, _] := hO
      refine wp_loopS (fun (s : Nat × Sto × (Nam → Option Nat) × Nat × (Lit → Option Value)) a w' => match s with | (i, S, vm, cn, f) => (i ≤ ps.length ∧ UInv S vm (rs.take i) ∧ VarM f vm ∧ cn ≤ 2000 * i) ∧ St w0 [] w' [.ob wb 52 [.map (some bm)], Ent.mapE Try.prog 9 bm cn f, gE 99 S] ∧ Fr a 112 [(0, vp), (2, .slice none 0 0), (3, i64 0), (8, ptr (adr wb)), (41, vp), (42, i64 ps.length), (43, i64 i)]) (fun (s : Nat × Sto × (Nam → Option Nat) × Nat × (Lit → Option Value)) => match s with | (i, S, vm, cn, f) => ps.length - i) (0, ⟨[], fun _ => ⟨0, [], none, none, none, 0⟩⟩, fun _ => none, 0, fun _ => none) ⟨⟨by omega, UInv.start _, varM_none, by omega⟩, hO, hF.sub ⟨rfl, rfl, rfl, rfl, rfl, rfl, rfl, trivial⟩⟩ ?_
      rintro ⟨i, S, vm, cn, f⟩ a w ⟨⟨hi, hU, hf, hcn⟩, hO, hF⟩
      refine wp_seq ?_
      refine wp_region_lit ?_
      refine wl_v hF rfl rfl rfl (q_lt rfl (hF.eval rfl) (hF.eval rfl)) fun a hF => ?_
      refine wl_nil ?_
      refine k_n ?_
      refine wp_seq ?_
      refine wp_ifD hF rfl rfl (fun hc3 => ?_) (fun hc3 => ?_)
      · skip
        refine wp_skip ?_
        refine k_n ?_
        refine wp_seq ?_
        refine wp_block ?_
        refine wp_seq ?_
        refine wp_region_lit ?_
        obtain ⟨p, hp⟩ := get_ex (l := ps) (i := i) (by omega)
        refine wl_v hF rfl rfl rfl (q_at (i := i) hR Try.underlying22 Try.sizeOf34 rfl (hF.eval rfl) (hF.eval rfl) (by omega)) fun a hF => ?_
        refine wl_v hF rfl rfl rfl (q_loadAgg Try.isAgg34 Try.sizeOf34 rfl (hF.eval rfl) (RdT.cells (hR.now hO) hp) rfl) fun a hF => ?_
        obtain ⟨r, hr, he1, he2⟩ := pair_at hrs hp
        obtain ⟨ρ, d, hW⟩ := hU.wf
        obtain ⟨⟨ro1, rn1⟩, ro2, rn2⟩ := hrok r (List.mem_of_getElem? hr)
        obtain ⟨hRp1, hRp2⟩ := hRd p (List.mem_of_getElem? hp)
        have hs1 : r.1.small := small_of (by rw [← he1]; exact (hFt p (List.mem_of_getElem? hp)).1)
        have hs2 : r.2.small := small_of (by rw [← he2]; exact (hFt p (List.mem_of_getElem? hp)).2)
        refine wl_e hF rfl rfl rfl (e_alloc hO Try.zeroValue34 rfl rfl) ?_
        rintro a _ w ⟨t10, rfl, hO⟩ hF
        refine wl_s hF rfl rfl (e_storeAll hO (i := 0) rfl Try.sizeOf34 rfl (hF.eval rfl) (hF.eval rfl) rfl rfl) ?_
        rintro a _ w ⟨-, hO⟩ hF
        have hO : St _ _ _ [_, _, _, _] := hO
        refine wl_nil ?_
        refine k_n ?_
        refine wp_seq ?_
        have hO := hO.drew
        refine wp_region_D [0, 0, 0, 1, 2, 0, 0, 1, 3, 3, 0] (fun w => ∃ L', St w0 [] w (.ob t10 34 (prE.cells p) :: L')) Try_mixed (by kernel_rfl) ⟨_, hO⟩ ?_
        refine wd_p hF rfl rfl rfl (fun w => q_move rfl (hF.eval rfl)) fun a hF => ?_
        refine wd_p hF rfl rfl rfl (fun w => q_move rfl (hF.eval rfl)) fun a hF => ?_
        refine wd_p hF rfl rfl rfl (fun w => q_atArr (i := 0) Try.underlying34 Try.sizeOf33 rfl (hF.eval rfl) (hF.eval rfl) (by decide)) fun a hF => ?_
        refine wd_r hF rfl rfl rfl (fun w ⟨_, hO⟩ => q_loadAgg Try.isAgg33 Try.sizeOf33 rfl (hF.eval rfl) (hO.cellsK 0 rfl 0 3 rfl) rfl) fun a hF => ?_
        have hO := hO.pull 3 rfl
        have hO := hO.pull 3 rfl
        have hO := hO.pull 3 rfl
        have hO : St _ _ _ [_, _, _, _] := hO
        refine wd_e hF rfl rfl rfl (c_call hF rfl rfl Try.call27 (read_r (r.1.nodes + 1) r.1 (by omega) p.1 _ wb bm S ρ d hW vm hU.ok cn f hf hs1 (by omega) (St.own3 hO) (RdN.now (St.front (A := [_, _, _]) hO) hRp1) he1)) (fun _ _ ⟨S1, vm1, cn1, f1, b1, _, _, _, _, hS⟩ => ⟨_, (hO.call3 hS).pull 3 rfl⟩) ?_
        rintro a _ w ⟨S1, vm1, cn1, f1, b1, rfl, hP1, hf1, hcn1, hS⟩ hF
        have hO := hO.call3 hS
        have hO : St _ _ _ [_, _, _, _] := hO
        obtain ⟨ρ1, d1, hW1⟩ := hP1.wf
        refine wd_p hF rfl rfl rfl (fun w => q_move rfl (hF.eval rfl)) fun a hF => ?_
        refine wd_p hF rfl rfl rfl (fun w => q_atArr (i := 1) Try.underlying34 Try.sizeOf33 rfl (hF.eval rfl) (hF.eval rfl) (by decide)) fun a hF => ?_
        refine wd_r hF rfl rfl rfl (fun w ⟨_, hO⟩ => q_loadAgg Try.isAgg33 Try.sizeOf33 rfl (hF.eval rfl) (hO.cellsK 0 rfl 3 3 rfl) rfl) fun a hF => ?_
        have hO := hO.pull 2 rfl
        have hO := hO.pull 2 rfl
        have hO := hO.pull 2 rfl
        have hO : St _ _ _ [_, _, _, _] := hO
        refine wd_f hF rfl rfl rfl (c_call hF rfl rfl Try.call27 (read_r (r.2.nodes + 1) r.2 (by omega) p.2 _ wb bm S1 ρ1 d1 hW1 vm1 hP1.ok cn1 f1 hf1 hs2 (by omega) (St.own3 hO) (RdN.now (St.front (A := [_, _, _]) hO) hRp2) he2)) ?_
        rintro a _ w ⟨S2, vm2, cn2, f2, b2, rfl, hP2, hf2, hcn2, hS⟩ hF
        have hO := hO.call3 hS
        have hO : St _ _ _ [_, _, _, _] := hO
        obtain ⟨ρ2, d2, hW2⟩ := hP2.wf
        have hO := hO.pull 2 rfl
        have hO : St _ _ _ [_, _, _, _] := hO
        refine wd_f hF rfl rfl rfl (c_call hF rfl rfl Try.call26 (equate_r (ptr (adr wb)) (freeN S2 + 1) S2 ρ2 d2 hW2 (by omega) b1 b2 (hP2.sub.ids _ hP1.mem) hP2.mem _ hO.own1)) ?_
        rintro a _ w ⟨S3, ok, rfl, hE, hS⟩ hF
        have hO := hO.call1 hS
        have hO : St _ _ _ [_, _, _, _] := hO
        refine wd_p hF rfl rfl rfl (fun w => q_not rfl (hF.eval rfl) (dec_b _)) fun a hF => ?_
        refine wd_nil ?_
        refine k_n ?_
        refine wp_ifD hF rfl rfl (fun hc4 => ?_) (fun hc4 => ?_)
        · skip
          have hok : ok = false := by simpa using hc4
          subst hok
          refine wp_seq ?_
          refine wp_region_lit ?_
          refine wl_v hF rfl rfl rfl (q_assign rfl (hF.eval rfl)) fun a hF => ?_
          refine wl_v hF rfl rfl rfl (q_assign rfl (hF.eval rfl)) fun a hF => ?_
          refine wl_nil ?_
          refine k_n ?_
          refine wp_ret ?_
          refine b_r ?_
          refine k_r ?_
          refine k_r ?_
          refine b_r ?_
          refine k_r ?_
          refine r_2 hF rfl rfl rfl ?_
          have hO := hO.drop1 0
          have hO := hO.drop1 0
          have hO := hO.drop1 0
          have hO := hO.drop1 0
          have hO : St _ _ _ [] := hO
          have hO := hO.grp0
          have hO := hO.nilSl 45 4
          exact ⟨nilH, [], 70, rfl, (hS9 fun θ hu => hU.stop (rest := rs.drop (i + 1)) hP1 hP2 hE θ (by rwa [show rs.take i ++ r :: rs.drop (i + 1) = rs by rw [← (List.getElem?_eq_some_iff.1 hr).2, ← List.drop_eq_getElem_cons, List.take_append_drop]])), hO⟩
        · skip
          have hok : ok = true := by simpa using hc4
          subst hok
          refine wp_skip ?_
          refine b_n ?_
          refine k_n ?_
          refine wp_region_lit ?_
          refine wl_v hF rfl rfl rfl (q_add rfl (hF.eval rfl) (hF.eval rfl) (by omega)) fun a hF => ?_
          refine wl_v hF rfl rfl rfl (q_move rfl (hF.eval rfl)) fun a hF => ?_
          refine wl_nil ?_
          refine k_n ?_
          have hO := hO.drop1 3
          have hO := hO.pull 2 rfl
          have hO := hO.pull 2 rfl
          have hO : St _ _ _ [_, _, _] := hO
          exact ⟨(i + 1, S3, vm2, cn2, f2), ⟨⟨by omega, by rw [takeAt hr]; exact hU.next hP1 hP2 hE, hf2, by omega⟩, hO, hF.sub ⟨rfl, rfl, rfl, rfl, rfl, rfl, rfl, trivial⟩⟩, by dsimp only; omega⟩
      · skip
        have hti2 : rs.take i = rs := List.take_of_length_le (by omega)
        rw [hti2] at hU
        obtain ⟨ρ, d, hW⟩ := hU.wf
        have hcn9 : cn ≤ 4398046511104 := by omega
        refine wp_exit ?_
        refine k_x ?_
        refine k_x ?_
        refine b_x ?_
        refine k_n ?_
        refine wp_seq ?_
        refine wp_region_lit ?_
        refine wl_v hF rfl rfl rfl (q_move rfl (hF.eval rfl)) fun a hF => ?_
        refine wl_v hF rfl rfl rfl (q_nilCheck rfl (hF.eval rfl)) fun a hF => ?_
        refine wl_v hF rfl rfl rfl (q_fieldAddr0 (d := 0) Try.underlying52 rfl (hF.eval rfl) rfl Try.sizeOf50 (by decide) rfl) fun a hF => ?_
        refine wl_v hF rfl rfl rfl (q_load Try.isAgg50 rfl (hF.eval rfl) (hO.cell 0 rfl rfl)) fun a hF => ?_
        refine wl_e hF rfl rfl rfl (c_call hF rfl rfl Try.call29 (keys29_r bm _)) ?_
        rintro a _ w ⟨kb, rfl, hS⟩ hF
        have hO := hO.call0 hS
        have hO : St _ _ _ [_, _, _, _] := hO
        refine wl_e hF rfl rfl rfl (c_call hF rfl rfl Try.call28 (sorted29_r bm kb cn f _ (hO.ok (i := 2) rfl) (hO.ok (i := 0) rfl) hcn9)) ?_
        rintro a vn w ⟨ns, hasc, hnm, hnsl, hS⟩ hF
        have hO := hO.call0 hS
        have hO : St _ _ _ [_, _, _, _, _] := hO
        have hdom := names_dom hf hnm
        have hnlen : ∀ n ∈ ns, n.length ≤ 9223372036854775807 := fun n hn => by
          have h1 : n ∈ psVs rs := Classical.byContradiction fun h => (hdom n).1 ((hU.dom n).2 h) hn
          obtain ⟨r, hr, h2⟩ := mem_psVs.1 h1
          obtain ⟨k, hk⟩ := List.getElem?_of_mem hr
          obtain ⟨p, hp⟩ := get_ex (l := ps) (i := k) (by have := (List.getElem?_eq_some_iff.1 hk).1; omega)
          obtain ⟨r2, hr2, he1, he2⟩ := pair_at hrs hp
          rw [hk] at hr2; cases hr2
          rcases h2 with h2 | h2
          · exact small_vs (small_of (by rw [← he1]; exact (hFt p (List.mem_of_getElem? hp)).1)) h2
          · exact small_vs (small_of (by rw [← he2]; exact (hFt p (List.mem_of_getElem? hp)).2)) h2
        refine wl_v hF rfl rfl rfl (q_assign rfl (hF.eval rfl)) fun a hF => ?_
        refine wl_nil ?_
        refine k_n ?_
        refine wp_seq ?_
        refine wp_seq ?_
        refine wp_region_lit ?_
        refine wl_v hF rfl rfl rfl (q_move rfl (hF.eval rfl)) fun a hF => ?_
        refine wl_v hF rfl rfl rfl (q_lenRd (hO.rd 0 rfl) Try.underlying56 rfl (hF.eval rfl)) fun a hF => ?_
        refine wl_v hF rfl rfl rfl (q_move rfl (hF.eval rfl)) fun a hF => ?_
        refine wl_nil ?_
        refine k_n ?_
        refine wp_block ?_
        have hO := hO.drop1 1
        have hO := hO.pull 3 rfl
        have hO := hO.pull 3 rfl
        have hO := hO.pull 3 rfl
        have hO : St _ _ _ [_, _, _, _] := hO
        refine wp_loopS (fun (s : Nat × (Nat → Int)) a w' => match s with | (j, mk) => (j ≤ ns.length ∧ (∀ n ∈ ns.take j, ∃ c t, vm n = some c ∧ Res S ρ c t) ∧ (∀ c ∈ S.ids, mk c = 2 → ∃ t, Res S ρ c t) ∧ ∀ c ∈ S.ids, ¬ mk c = 1) ∧ St w0 [] w' [.ob wb 52 [.map (some bm)], Ent.mapE Try.prog 9 bm cn f, gE 99 (markS S mk), slT vn 9 strE ns] ∧ Fr a 112 [(2, .slice none 0 0), (3, i64 0), (8, ptr (adr wb)), (11, vn), (65, vn), (66, i64 ns.length), (67, i64 j)]) (fun (s : Nat × (Nat → Int)) => match s with | (j, mk) => ns.length - j) (0, fun b => (S.tm b).mark) ⟨⟨by omega, fun n hn => by simp at hn, fun c hc h => absurd ((hU.ok.mark c hc).symm.trans h) (by decide), fun c hc h => absurd ((hU.ok.mark c hc).symm.trans h) (by decide)⟩, hO, hF.sub ⟨rfl, rfl, rfl, rfl, rfl, rfl, rfl, trivial⟩⟩ ?_
        rintro ⟨j, mk⟩ a w ⟨⟨hj, hres, hfine, hund⟩, hO, hF⟩
        have hnl := (hO.rdT 3 rfl).lenle
        refine wp_seq ?_
        refine wp_region_lit ?_
        refine wl_v hF rfl rfl rfl (q_lt rfl (hF.eval rfl) (hF.eval rfl)) fun a hF => ?_
        refine wl_nil ?_
        refine k_n ?_
        refine wp_seq ?_
        refine wp_ifD hF rfl rfl (fun hc5 => ?_) (fun hc5 => ?_)
        · skip
          refine wp_skip ?_
          refine k_n ?_
          refine wp_seq ?_
          refine wp_block ?_
          refine wp_seq ?_
          refine wp_region_lit ?_
          obtain ⟨nm, hx⟩ := get_ex (l := ns) (i := j) (by omega)
          refine wl_v hF rfl rfl rfl (q_at (i := j) (hO.rd 3 rfl) Try.underlying56 Try.sizeOf9 rfl (hF.eval rfl) (hF.eval rfl) (by omega)) fun a hF => ?_
          refine wl_v hF rfl rfl rfl (q_load Try.isAgg9 rfl (hF.eval rfl) (RdT.cell0 (hO.rdT 3 rfl) hx rfl)) fun a hF => ?_
          refine wl_v hF rfl rfl rfl (q_assign rfl (hF.eval rfl)) fun a hF => ?_
          refine wl_nil ?_
          refine k_n ?_
          refine wp_seq ?_
          refine wp_region_lit ?_
          refine wl_v hF rfl rfl rfl (q_move rfl (hF.eval rfl)) fun a hF => ?_
          refine wl_v hF rfl rfl rfl (q_nilCheck rfl (hF.eval rfl)) fun a hF => ?_
          refine wl_v hF rfl rfl rfl (q_fieldAddr0 (d := 0) Try.underlying52 rfl (hF.eval rfl) rfl Try.sizeOf50 (by decide) rfl) fun a hF => ?_
          refine wl_v hF rfl rfl rfl (q_load Try.isAgg50 rfl (hF.eval rfl) (hO.cell 0 rfl rfl)) fun a hF => ?_
          refine wl_v hF rfl rfl rfl (q_move rfl (hF.eval rfl)) fun a hF => ?_
          obtain ⟨c, hc⟩ : ∃ c, vm nm = some c := by cases hv : vm nm with | some c => exact ⟨c, rfl⟩ | none => exact absurd (List.mem_of_getElem? hx) ((hdom nm).1 hv)
          have hcm : c ∈ S.ids := (hU.ok.to nm c hc).1
          refine wl_v hF rfl rfl rfl (q_lookVarS hO (i := 1) rfl hf Try.underlying9 Try.underlying50 (Try.zeroValue54 _) rfl (hF.eval rfl) (hF.eval rfl) (hnlen _ (List.mem_of_getElem? hx)) hc) fun a hF => ?_
          have hO := hO.pull 2 rfl
          have hO : St _ _ _ [_, _, _, _] := hO
          refine wl_e hF rfl rfl rfl (c_call hF rfl rfl Try.call30 (ringless_r S ρ d hW (cnt0 S mk + 1) mk c _ hcm ⟨hfine, fun τ _ x hx h => absurd h (hund x hx)⟩ hO.own1 (by omega))) ?_
          rintro a _ w ⟨mk2, ok, rfl, hG, hS⟩ hF
          have hO := hO.call1 hS
          have hO : St _ _ _ [_, _, _, _] := hO
          refine wl_v hF rfl rfl rfl (q_not rfl (hF.eval rfl) (dec_b _)) fun a hF => ?_
          refine wl_nil ?_
          refine k_n ?_
          refine wp_ifD hF rfl rfl (fun hc6 => ?_) (fun hc6 => ?_)
          · skip
            have hok : ok = false := by simpa using hc6
            subst hok
            refine wp_seq ?_
            refine wp_region_lit ?_
            refine wl_v hF rfl rfl rfl (q_assign rfl (hF.eval rfl)) fun a hF => ?_
            refine wl_v hF rfl rfl rfl (q_assign rfl (hF.eval rfl)) fun a hF => ?_
            refine wl_nil ?_
            refine k_n ?_
            refine wp_ret ?_
            refine b_r ?_
            refine k_r ?_
            refine k_r ?_
            refine b_r ?_
            refine k_r ?_
            refine r_2 hF rfl rfl rfl ?_
            have hO := hO.drop1 0
            have hO := hO.drop1 0
            have hO := hO.drop1 0
            have hO := hO.drop1 0
            have hO : St _ _ _ [] := hO
            have hO := hO.grp0
            have hO := hO.nilSl 45 4
            exact ⟨nilH, [], 70, rfl, (hS9 (hU.none (hG.2 rfl))), hO⟩
          · skip
            have hok : ok = true := by simpa using hc6
            subst hok
            refine wp_skip ?_
            refine b_n ?_
            refine k_n ?_
            refine wp_region_lit ?_
            refine wl_v hF rfl rfl rfl (q_add rfl (hF.eval rfl) (hF.eval rfl) (by omega)) fun a hF => ?_
            refine wl_v hF rfl rfl rfl (q_move rfl (hF.eval rfl)) fun a hF => ?_
            refine wl_nil ?_
            refine k_n ?_
            have hO := hO.pull 3 rfl
            have hO := hO.pull 1 rfl
            have hO := hO.pull 3 rfl
            have hO := hO.pull 3 rfl
            have hO : St _ _ _ [_, _, _, _] := hO
            exact ⟨(j + 1, mk2), ⟨⟨by omega, fun n hn => (by rw [takeAt hx] at hn; rcases List.mem_append.1 hn with hn | hn; exact hres n hn; rw [List.mem_singleton.1 hn]; exact ⟨c, (hG.1 rfl).1.imp fun t ht => ⟨hc, ht⟩⟩), (hG.1 rfl).2.1, fun c hc h => hund c hc ((hG.1 rfl).2.2.1 c hc h)⟩, hO, hF.sub ⟨rfl, rfl, rfl, rfl, rfl, rfl, rfl, trivial⟩⟩, by dsimp only; omega⟩
        · skip
          have htj : ns.take j = ns := List.take_of_length_le (by omega)
          rw [htj] at hres
          obtain ⟨σ, hσ1, hσ2⟩ := sol_choice hres hdom
          have hcan := hU.canon hW hσ1 hσ2
          have hmemv : ∀ n, n ∈ ns ↔ n ∈ psVs rs := fun n => Decidable.not_iff_not.1 ((hdom n).symm.trans (hU.dom n))
          refine wp_exit ?_
          refine k_x ?_
          refine k_x ?_
          refine b_x ?_
          refine k_n ?_
          refine wp_seq ?_
          refine wp_region_lit ?_
          refine wl_v hF rfl rfl rfl (q_assign rfl (hF.eval rfl)) fun a hF => ?_
          have hO := hO.nilSl 45 4
          refine wl_nil ?_
          refine k_n ?_
          refine wp_seq ?_
          refine wp_seq ?_
          refine wp_region_lit ?_
          refine wl_v hF rfl rfl rfl (q_move rfl (hF.eval rfl)) fun a hF => ?_
          refine wl_v hF rfl rfl rfl (q_lenRd (hO.rd 4 rfl) Try.underlying56 rfl (hF.eval rfl)) fun a hF => ?_
          refine wl_v hF rfl rfl rfl (q_move rfl (hF.eval rfl)) fun a hF => ?_
          have hO : St _ _ _ (sbG 33 [] :: _) := hO.grp0
          have hO : St _ _ _ [_, _, _, _, _, _] := hO
          refine wl_nil ?_
          refine k_n ?_
          refine wp_block ?_
          have hO := hO.pull 1 rfl
          have hO := hO.pull 5 rfl
          have hO := hO.pull 5 rfl
          have hO := hO.pull 5 rfl
          have hO := hO.pull 5 rfl
          have hO : St _ _ _ [_, _, _, _, _, _] := hO
          refine wp_loopS (fun (s : Nat × Value × List SbN) a w' => match s with | (j, vo, l) => (j ≤ ns.length ∧ l.map SbN.er = ansL (ns.take j) σ ∧ ∀ n ∈ ns.take j, (σ n).nodes ≤ 1000) ∧ St w0 [] w' [.ob wb 52 [.map (some bm)], Ent.mapE Try.prog 9 bm cn f, gE 99 (markS S mk), slT vn 9 strE ns, slT vo 45 sbE l, sbG 33 l] ∧ Fr a 112 [(2, .slice none 0 0), (3, i64 0), (8, ptr (adr wb)), (11, vn), (14, vo), (80, vn), (81, i64 ns.length), (82, i64 j)]) (fun (s : Nat × Value × List SbN) => match s with | (j, vo, l) => ns.length - j) (0, _, []) ⟨⟨by omega, rfl, fun n hn => by simp at hn⟩, hO, hF.sub ⟨rfl, rfl, rfl, rfl, rfl, rfl, rfl, rfl, trivial⟩⟩ ?_
          rintro ⟨j, vo, l⟩ a w ⟨⟨hj, hl, hsm⟩, hO, hF⟩
          have hnl := (hO.rdT 3 rfl).lenle
          have hll := (hO.rdT 4 rfl).lenle
          have hl9 : l.length ≤ j := by have := congrArg List.length hl; rw [List.length_map] at this; rw [this]; unfold ansL; rw [List.length_map]; exact Nat.le_trans (List.length_filter_le _ _) (by rw [List.length_take]; omega)
          refine wp_seq ?_
          refine wp_region_lit ?_
          refine wl_v hF rfl rfl rfl (q_lt rfl (hF.eval rfl) (hF.eval rfl)) fun a hF => ?_
          refine wl_nil ?_
          refine k_n ?_
          refine wp_seq ?_
          refine wp_ifD hF rfl rfl (fun hc7 => ?_) (fun hc7 => ?_)
          · skip
            refine wp_skip ?_
            refine k_n ?_
            refine wp_seq ?_
            refine wp_block ?_
            refine wp_seq ?_
            refine wp_region_lit ?_
            obtain ⟨nm, hx⟩ := get_ex (l := ns) (i := j) (by omega)
            refine wl_v hF rfl rfl rfl (q_at (i := j) (hO.rd 3 rfl) Try.underlying56 Try.sizeOf9 rfl (hF.eval rfl) (hF.eval rfl) (by omega)) fun a hF => ?_
            refine wl_v hF rfl rfl rfl (q_load Try.isAgg9 rfl (hF.eval rfl) (RdT.cell0 (hO.rdT 3 rfl) hx rfl)) fun a hF => ?_
            refine wl_v hF rfl rfl rfl (q_assign rfl (hF.eval rfl)) fun a hF => ?_
            refine wl_nil ?_
            refine k_n ?_
            refine wp_seq ?_
            refine wp_region_lit ?_
            refine wl_e hF rfl rfl rfl (e_alloc hO Try.zeroValue3 rfl rfl) ?_
            rintro a _ w ⟨lb, rfl, hO⟩ hF
            refine wl_s hF rfl rfl (e_store0 hO (i := 0) rfl Try.sizeOf3 rfl (hF.eval rfl) (hF.eval rfl) rfl rfl rfl) ?_
            rintro a _ w ⟨-, hO⟩ hF
            have hO : St _ _ _ [_, _, _, _, _, _, _] := hO
            refine wl_nil ?_
            refine k_n ?_
            refine wp_seq ?_
            refine wp_region_lit ?_
            refine wl_v hF rfl rfl rfl (q_move rfl (hF.eval rfl)) fun a hF => ?_
            refine wl_v hF rfl rfl rfl (q_nilCheck rfl (hF.eval rfl)) fun a hF => ?_
            refine wl_v hF rfl rfl rfl (q_fieldAddr0 (d := 0) Try.underlying52 rfl (hF.eval rfl) rfl Try.sizeOf50 (by decide) rfl) fun a hF => ?_
            refine wl_v hF rfl rfl rfl (q_load Try.isAgg50 rfl (hF.eval rfl) (hO.cell 1 rfl rfl)) fun a hF => ?_
            refine wl_v hF rfl rfl rfl (q_move rfl (hF.eval rfl)) fun a hF => ?_
            obtain ⟨c, hc⟩ : ∃ c, vm nm = some c := by cases hv : vm nm with | some c => exact ⟨c, rfl⟩ | none => exact absurd (List.mem_of_getElem? hx) ((hdom nm).1 hv)
            have hcm : c ∈ S.ids := (hU.ok.to nm c hc).1
            refine wl_v hF rfl rfl rfl (q_lookVarS hO (i := 2) rfl hf Try.underlying9 Try.underlying50 (Try.zeroValue54 _) rfl (hF.eval rfl) (hF.eval rfl) (hnlen _ (List.mem_of_getElem? hx)) hc) fun a hF => ?_
            have hO := hO.pull 3 rfl
            have hO : St _ _ _ [_, _, _, _, _, _, _] := hO
            refine wl_e hF rfl rfl rfl (c_call hF rfl rfl Try.call31 (write_r (markS S mk) ρ d (hW.marks mk) lb ((σ nm).nodes + 1) (σ nm) (by omega) c 1000 _ hcm ((hσ1 nm c hc).marks mk) (by omega) (by omega) hO.own2)) ?_
            rintro a _ w ⟨tt, rfl, htt0, hS⟩ hF
            have hO := hO.call2 hS
            have hO : St _ _ _ [_, _, _, _, _, _, _, _] := hO
            refine wl_e hF rfl rfl rfl (e_alloc hO Try.zeroValue33 rfl rfl) ?_
            rintro a _ w ⟨t18, rfl, hO⟩ hF
            refine wl_s hF rfl rfl (e_storeAll hO (i := 0) rfl Try.sizeOf33 rfl (hF.eval rfl) (hF.eval rfl) rfl rfl) ?_
            rintro a _ w ⟨-, hO⟩ hF
            have hO : St _ _ _ [_, _, _, _, _, _, _, _, _] := hO
            refine wl_nil ?_
            refine k_n ?_
            refine wp_seq ?_
            refine wp_seq ?_
            refine wp_region_lit ?_
            refine wl_v hF rfl rfl rfl (q_load Try.isAgg3 rfl (hF.eval rfl) (hO.cell0 2 rfl rfl)) fun a hF => ?_
            refine wl_v hF rfl rfl rfl (q_lt rfl (hF.eval rfl) (hF.eval rfl)) fun a hF => ?_
            refine wl_nil ?_
            refine k_n ?_
            refine wp_ifD hF rfl rfl (fun hc8 => ?_) (fun hc8 => ?_)
            · skip
              refine wp_seq ?_
              refine wp_region_lit ?_
              refine wl_v hF rfl rfl rfl (q_assign rfl (hF.eval rfl)) fun a hF => ?_
              refine wl_v hF rfl rfl rfl (q_assign rfl (hF.eval rfl)) fun a hF => ?_
              refine wl_nil ?_
              refine k_n ?_
              refine wp_ret ?_
              refine k_r ?_
              refine b_r ?_
              refine k_r ?_
              refine k_r ?_
              refine b_r ?_
              refine k_r ?_
              refine r_2 hF rfl rfl rfl ?_
              have hO := hO.drop1 0
              have hO := hO.drop1 0
              have hO := hO.drop1 0
              have hO := hO.drop1 0
              have hO := hO.drop1 0
              have hO := hO.drop1 0
              have hO := hO.drop1 0
              have hO := hO.drop1 0
              have hO := hO.drop1 0
              have hO : St _ _ _ [] := hO
              have hO := hO.grp0
              have hO := hO.nilSl 45 4
              exact ⟨nilH, [], 3, rfl, (Or.inr ⟨hal, rs, hrs, Or.inr ⟨σ, ns, hcan, hasc, hmemv, Or.inl ⟨⟨nm, List.mem_of_getElem? hx, (wr_iff _).1 hc8⟩, rfl, rfl⟩⟩⟩), hO⟩
            · skip
              have hfit : (σ nm).nodes ≤ 1000 := by have := (wr_iff (σ nm)).2; omega
              have htt : tt.er = (σ nm).ty := by rw [htt0, wr_fit _ (by omega)]
              have hsm2 : ∀ n ∈ ns.take (j + 1), (σ n).nodes ≤ 1000 := fun n hn => by rw [takeAt hx] at hn; rcases List.mem_append.1 hn with hn | hn; exact hsm n hn; rw [List.mem_singleton.1 hn]; exact hfit
              refine wp_skip ?_
              refine k_n ?_
              refine wp_seq ?_
              refine wp_region_lit ?_
              refine wl_v hF rfl rfl rfl (q_fieldAddr0 (d := 0) Try.underlying33 rfl (hF.eval rfl) rfl Try.sizeOf3 (by decide) rfl) fun a hF => ?_
              refine wl_v hF rfl rfl rfl (q_load Try.isAgg3 rfl (hF.eval rfl) (hO.cell 0 rfl rfl)) fun a hF => ?_
              refine wl_v hF rfl rfl rfl (q_ne rfl (hF.eval rfl) (hF.eval rfl)) fun a hF => ?_
              refine wl_v hF rfl rfl rfl (q_move rfl (hF.eval rfl)) fun a hF => ?_
              refine wl_g hF rfl rfl rfl rfl rfl rfl (fun hg => q_fieldAddr0 (d := 1) Try.underlying33 rfl (hF.eval rfl) rfl Try.sizeOf9 (by decide) rfl) fun a hF => ?_
              refine wl_g hF rfl rfl rfl rfl rfl rfl (fun hg => q_load Try.isAgg9 rfl ((hF.eval rfl).trans (gv_of hg)) (hO.cell 0 rfl rfl)) fun a hF => ?_
              refine wl_g hF rfl rfl rfl rfl rfl rfl (fun hg => q_move rfl (hF.eval rfl)) fun a hF => ?_
              refine wl_g hF rfl rfl rfl rfl rfl rfl (fun hg => q_sne rfl ((hF.eval rfl).trans (gv_of hg)) ((hF.eval rfl).trans (gv_of hg))) fun a hF => ?_
              refine wl_v hF rfl rfl rfl (q_or rfl (hF.eval rfl) rfl (fun hg2 => ((hF.eval rfl).trans (gv_of hg2))) rfl) fun a hF => ?_
              refine wl_nil ?_
              refine k_n ?_
              refine wp_ifD hF rfl rfl (fun hc9 => ?_) (fun hc9 => ?_)
              · skip
                refine wp_region_lit ?_
                refine wl_v hF rfl rfl rfl (q_move rfl (hF.eval rfl)) fun a hF => ?_
                refine wl_v hF rfl rfl rfl (q_move rfl (hF.eval rfl)) fun a hF => ?_
                refine wl_v hF rfl rfl rfl (q_loadAgg Try.isAgg33 Try.sizeOf33 rfl (hF.eval rfl) (hO.cells 0 rfl) rfl) fun a hF => ?_
                refine wl_v hF rfl rfl rfl (c_buildG hF Try.underlying45 Try.zeroValue45 Try_placesG45 rfl rfl rfl rfl) fun a hF => ?_
                refine wl_e hF rfl rfl rfl (c_buildSlice hF hO Try.underlying23 Try.sizeOf45 Try.zeroValue45 rfl rfl rfl rfl rfl rfl rfl) ?_
                rintro a _ w ⟨b2, rfl, hO⟩ hF
                refine wl_e hF rfl rfl rfl (e_appendT (bytes := 64) (r := [⟨nm, tt⟩]) hO (i := 8) rfl (hO.rd 0 rfl) Try.underlying23 Try_info45 rfl rfl rfl rfl rfl rfl (hF.eval rfl) (hF.eval rfl) (by show (List.length _ + 1) * 64 ≤ _; omega) (by show List.length _ + 1 ≤ _; omega)) ?_
                rintro a v109 w hO hF
                have hO : St _ _ _ [_, _, _, _, _, _, _, _, _, _] := hO
                have hO := hO.pull 4 rfl
                have hO := St.intoS (s := ⟨nm, tt⟩) hO 8 rfl
                have hO : St _ _ _ [_, _, _, _, _, _, _, _, _] := hO
                refine wl_v hF rfl rfl rfl (q_assign rfl (hF.eval rfl)) fun a hF => ?_
                refine wl_nil ?_
                refine b_n ?_
                refine k_n ?_
                refine wp_region_lit ?_
                refine wl_v hF rfl rfl rfl (q_add rfl (hF.eval rfl) (hF.eval rfl) (by omega)) fun a hF => ?_
                refine wl_v hF rfl rfl rfl (q_move rfl (hF.eval rfl)) fun a hF => ?_
                refine wl_nil ?_
                refine k_n ?_
                have hO := hO.drop1 0
                have hO := hO.drop1 0
                have hO := hO.drop1 1
                have hO := hO.pull 5 rfl
                have hO := hO.pull 5 rfl
                have hO := hO.pull 5 rfl
                have hO := hO.pull 3 rfl
                have hO := hO.pull 5 rfl
                have hO := hO.pull 5 rfl
                have hO : St _ _ _ [_, _, _, _, _, _] := hO
                exact ⟨(j + 1, _, l ++ [⟨nm, tt⟩]), ⟨⟨by omega, ansL_next hl hx htt ((isV_ty htt).1 hc9), hsm2⟩, hO, hF.sub ⟨rfl, rfl, rfl, rfl, rfl, rfl, rfl, rfl, trivial⟩⟩, by dsimp only; omega⟩
              · skip
                refine wp_skip ?_
                refine b_n ?_
                refine k_n ?_
                refine wp_region_lit ?_
                refine wl_v hF rfl rfl rfl (q_add rfl (hF.eval rfl) (hF.eval rfl) (by omega)) fun a hF => ?_
                refine wl_v hF rfl rfl rfl (q_move rfl (hF.eval rfl)) fun a hF => ?_
                refine wl_nil ?_
                refine k_n ?_
                have hO := hO.drop1 0
                have hO := hO.drop1 1
                have hO := hO.drop1 1
                have hO := hO.pull 5 rfl
                have hO := hO.pull 5 rfl
                have hO := hO.pull 5 rfl
                have hO := hO.pull 3 rfl
                have hO := hO.pull 5 rfl
                have hO := hO.pull 5 rfl
                have hO : St _ _ _ [_, _, _, _, _, _] := hO
                exact ⟨(j + 1, vo, l), ⟨⟨by omega, ansL_skip hl hx (by cases hv : isV (σ nm) nm with | true => rfl | false => exact absurd ((isV_ty htt).2 hv) hc9), hsm2⟩, hO, hF.sub ⟨rfl, rfl, rfl, rfl, rfl, rfl, rfl, rfl, trivial⟩⟩, by dsimp only; omega⟩
          · skip
            have htj : ns.take j = ns := List.take_of_length_le (by omega)
            rw [htj] at hl hsm
            refine wp_exit ?_
            refine k_x ?_
            refine k_x ?_
            refine b_x ?_
            refine k_n ?_
            refine wp_seq ?_
            refine wp_region_lit ?_
            refine wl_v hF rfl rfl rfl (q_move rfl (hF.eval rfl)) fun a hF => ?_
            refine wl_v hF rfl rfl rfl (q_assign rfl (hF.eval rfl)) fun a hF => ?_
            refine wl_v hF rfl rfl rfl (q_assign rfl (hF.eval rfl)) fun a hF => ?_
            refine wl_nil ?_
            refine k_n ?_
            refine wp_ret ?_
            refine r_2 hF rfl rfl rfl ?_
            have hO := hO.drop1 0
            have hO := hO.drop1 0
            have hO := hO.drop1 0
            have hO := hO.drop1 0
            have hO : St _ _ _ [_, _] := hO
            obtain ⟨q, rfl⟩ := Rd.hdr (hO.rd 0 rfl)
            exact ⟨q, l, 0, rfl, Or.inr ⟨hal, rs, hrs, Or.inr ⟨σ, ns, hcan, hasc, hmemv, Or.inr ⟨hsm, hl, rfl⟩⟩⟩, hO⟩

end Go.Proofs.Ytfkmlcgccffmnaa
