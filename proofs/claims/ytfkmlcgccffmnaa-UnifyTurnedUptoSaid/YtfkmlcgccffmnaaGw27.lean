/- GW23: maps that the program has made itself: what each key leads to; a map of pointers, entry by entry. -/
import Derived.Test.YtfkmlcgccffmnaaGw22
import Derived.Maps.OwnSet
import Derived.Maps.Views
import Derived.ChangeMaps5
namespace Go.Proofs.Ytfkmlcgccffmnaa
open Go Go.Maps Go.WideAt
set_option linter.unusedVariables false
def heldR : Value → Option (DataW Value × List MemPlace) := fun v => some (.held v, [])
def MapIs (P : Program) (w : World) (k : TypeId) (b n : Nat) (f : Lit → Option Value) : Prop :=
  ∃ D : DataW Value, w.ownsMap P k heldR b n D ∧ ∀ kl z, D.atKey kl (.held z) = .held ((f kl).getD z)
open Classical in
noncomputable def putF (f : Lit → Option Value) (kl : Lit) (v : Value) : Lit → Option Value := fun x => if x = kl then some v else f x
theorem MapIs.keep {P : Program} {w w' : World} {k : TypeId} {b n : Nat} {f : Lit → Option Value} (h : MapIs P w k b n f) (hk : w'.heap[b]? = w.heap[b]?) : MapIs P w' k b n f := by
  obtain ⟨D, ⟨es, clock, hb, rest⟩, hf⟩ := h
  exact ⟨D, ⟨es, clock, hk.trans hb, rest⟩, hf⟩
theorem MapIs.lt {P : Program} {w : World} {k : TypeId} {b n : Nat} {f : Lit → Option Value} (h : MapIs P w k b n f) : b < w.heap.size := by
  obtain ⟨D, h, _⟩ := h; exact h.lt
def Ent.mapE (P : Program) (k : TypeId) (b n : Nat) (f : Lit → Option Value) : Ent :=
  .gp [b] (fun w => MapIs P w k b n f) (fun _ _ h hk => h.keep (hk b (List.mem_singleton.2 rfl))) (fun _ h b' hb => by obtain rfl := List.mem_singleton.1 hb; exact h.lt)
theorem two_false : (Value.bool true) ≠ .bool false := by simp
theorem held_none {f : Option Value} (h : ∀ z, (DataW.held (H := Value) z) = .held (f.getD z)) : f = none := by
  cases f with
  | none => rfl
  | some u =>
    have h1 : Value.bool true = u := by simpa using h (.bool true)
    have h2 : Value.bool false = u := by simpa using h (.bool false)
    exact absurd (h1.trans h2.symm) two_false
theorem held_some {f : Option Value} {v : Value} (h : ∀ z, (DataW.held (H := Value) v) = .held (f.getD z)) : f = some v := by
  cases f with
  | none =>
    have h1 : v = Value.bool true := by simpa using h (.bool true)
    have h2 : v = Value.bool false := by simpa using h (.bool false)
    exact absurd (h1.symm.trans h2) two_false
  | some u =>
    have h1 : v = u := by simpa using h (.bool true)
    rw [h1]
section
variable {P : Program} {w w0 w' : World} {k e t : TypeId} {b n : Nat} {f : Lit → Option Value} {M : List Nat} {L : List Ent} {o : Oper} {a : Act} {x y : Operand} {key z v : Value} {kl : Lit}
theorem MapIs.look (c : Bool) (h : MapIs P w k b n f) (K : Keyed P k) (ht : P.underlying t = some (.map k e)) (hz : (zeroValue e).run P w = .ok z w) (hkey : keyOf P k key = some kl) :
    (Instr.lookup t (.map (some b)) key c).run P w = .ok (if c then .tuple #[(f kl).getD z, .bool (f kl).isSome] else (f kl).getD z) w := by
  obtain ⟨D, ⟨es, clock, hb, F, _, rfl⟩, hf⟩ := h
  rcases Maps.fit_look c K ht hz hb F hkey with ⟨hrun, _, hat⟩ | ⟨e0, y, _, _, hrun, hRv, hat, _⟩
  · have : f kl = none := held_none fun z => (hat _).symm.trans (hf kl z)
    rw [hrun, this]; rfl
  · cases hRv
    have : f kl = some e0.val := held_some fun z => (hat _).symm.trans (hf kl z)
    rw [hrun, this]; rfl
theorem MapIs.put (h : MapIs P w k b n f) (K : Keyed P k) (ht : P.underlying t = some (.map k e)) (hn : n < maxLen) (hkey : keyOf P k key = some kl) :
    ∃ w', (Instr.mapUpdate t (.map (some b)) key v).run P w = .ok () w' ∧ MapIs P w' k b (n + 1) (putF f kl v) ∧ w.grownBy w' (some b) := by
  obtain ⟨D, hD, hf⟩ := h
  obtain ⟨w', h1, h2, h3⟩ := hD.update K ht hn (val := v) (d := .held v) (ps := []) hkey rfl
  refine ⟨w', h1, ⟨_, h2, fun kl' z => ?_⟩, h3⟩
  unfold putF
  by_cases hk : kl' = kl
  · subst hk
    rw [if_pos rfl, atKey_put_same hD.isMap (K.key hkey)]; rfl
  · rw [if_neg hk, atKey_put_other hk, hf]
theorem St.turnG {e e' : Ent} {i : Nat} (hO : St w0 M w L) (hi : L[i]? = some e) (hg : w.grownBy w' (some b)) (hb : e.bs = [b]) (he : e'.ok w') (hb' : e'.bs = [b]) : St w0 M w' (L.set i e') :=
  ((hO.pull i hi).turns hg.os hg.tape hg.output hg.size (fun b' hlt hn => hg.block b' hlt (fun h => hn (by rw [hb]; cases h; exact List.mem_singleton.2 rfl))) he (by rw [hb']; simp) (fun x hx => .inl (by rw [hb]; rwa [hb'] at hx))).perm (set_perm L i _ _ hi)
theorem q_lookup {i : Nat} (hO : St w0 M w L) (hi : L[i]? = some (Ent.mapE P k b n f)) (K : Keyed P k) (ht : P.underlying t = some (.map k e)) (hz : (zeroValue e).run P w = .ok z w) (ho : o.op = .lookup t x y false) (hx : a.eval x = .map (some b)) (hy : a.eval y = key) (hkey : keyOf P k key = some kl) : QV P o a w ((f kl).getD z) := by
  have hrun := MapIs.look false (hO.ok hi : MapIs P w k b n f) K ht hz hkey
  simp [QV, execOp, ho, hx, hy, hrun]
theorem q_lookOk {i : Nat} (hO : St w0 M w L) (hi : L[i]? = some (Ent.mapE P k b n f)) (K : Keyed P k) (ht : P.underlying t = some (.map k e)) (hz : (zeroValue e).run P w = .ok z w) (ho : o.op = .lookup t x y true) (hx : a.eval x = .map (some b)) (hy : a.eval y = key) (hkey : keyOf P k key = some kl) : QV P o a w (.tuple #[(f kl).getD z, .bool (f kl).isSome]) := by
  have hrun := MapIs.look true (hO.ok hi : MapIs P w k b n f) K ht hz hkey
  simp [QV, execOp, ho, hx, hy, hrun]
theorem e_mapPut {i : Nat} {u : Operand} (hO : St w0 M w L) (hi : L[i]? = some (Ent.mapE P k b n f)) (K : Keyed P k) (ht : P.underlying t = some (.map k e)) (hn : n < maxLen) (ho : o.op = .mapUpdate t x y u) (hx : a.eval x = .map (some b)) (hy : a.eval y = key) (hu : a.eval u = v) (hkey : keyOf P k key = some kl) :
    Eff P o a w (fun u w' => u = undef ∧ St w0 M w' (L.set i (Ent.mapE P k b (n + 1) (putF f kl v)))) := by
  obtain ⟨w', hrun, h2, h3⟩ := (hO.ok hi : MapIs P w k b n f).put (v := v) K ht hn hkey
  refine Eff.skip (w' := w') ?_ ⟨rfl, hO.turnG hi h3 rfl h2 rfl⟩
  simp [execOp, ho, hx, hy, hu, hrun]
theorem map_made (w : World) : MapIs P (w.alloc (.map #[] 0)) k w.heap.size 0 (fun _ => none) := ⟨_, w.ownsMap_made P k heldR, fun _ _ => rfl⟩
theorem St.mapNew (hO : St w0 M w L) : St w0 M (w.alloc (.map #[] 0)) (Ent.mapE P k w.heap.size 0 (fun _ => none) :: L) := by
  have h1 := hO.newMp (.map #[] 0)
  refine h1.turns (e' := Ent.mapE P k w.heap.size 0 (fun _ => none)) rfl rfl rfl (Nat.le_refl _) (fun _ _ _ => rfl) (map_made w) ?_ ?_
  · show ([w.heap.size] : List Nat).Nodup; simp
  · intro b hb; exact .inl hb
theorem e_makeMap (hO : St w0 M w L) (k : TypeId) (ho : o.op = .makeMap t none) : Eff P o a w (fun u w' => ∃ b, u = .map (some b) ∧ St w0 M w' (Ent.mapE P k b 0 (fun _ => none) :: L)) := by
  refine Eff.value (w' := w.alloc (.map #[] 0)) (v := .map (some w.heap.size)) ?_ ⟨_, rfl, hO.mapNew⟩
  simp [execOp, ho, Instr.makeMap]
theorem e_makeMapO (hO : St w0 M w L) (ho : o.op = .makeMap t none) : Eff P o a w (fun u w' => ∃ b, u = .map (some b) ∧ St w0 M w' (.mp b (.map #[] 0) :: L)) := by
  refine Eff.value (w' := w.alloc (.map #[] 0)) (v := .map (some w.heap.size)) ?_ ⟨_, rfl, hO.newMp _⟩
  simp [execOp, ho, Instr.makeMap]
end
end Go.Proofs.Ytfkmlcgccffmnaa
namespace Go.Proofs.Ytfkmlcgccffmnaa
open Go
set_option linter.unusedVariables false
def OwnQ (w : World) (e : TypeId) (size : Nat) (v : Value) (n : Nat) (xs : List Value) : Prop :=
  xs.length = n * size ∧ ((v = .slice none 0 0 ∧ n = 0) ∨ ∃ g off cap cur, v = .slice (some ⟨g, off, none⟩) n cap ∧ w.heap[g]? = some (.cells cur e (0, 0)) ∧ n ≤ cap ∧ cap ≤ maxLen ∧ off + cap * size ≤ cur.size ∧ (cur.toList.drop off).take (n * size) = xs)
section
variable {P : Program} {w w0 w' : World} {e t : TypeId} {size n : Nat} {v : Value} {xs : List Value} {M : List Nat} {L : List Ent} {o : Oper} {a : Act} {x y : Operand}
theorem OwnQ.of (h : w.ownsRow 0 e size v n xs) : OwnQ w e size v n xs := by
  refine ⟨h.1, ?_⟩
  rcases h.2 with h2 | ⟨g, cap, cur, rfl, _, hg, hnc, hcm, hcs, htake⟩
  · exact .inl h2
  · exact .inr ⟨g, 0, cap, cur, rfl, hg, hnc, hcm, by omega, by simpa using htake⟩
theorem OwnQ.keep (h : OwnQ w e size v n xs) (hk : ∀ b ∈ v.ownBlock.toList, w'.heap[b]? = w.heap[b]?) : OwnQ w' e size v n xs := by
  refine ⟨h.1, ?_⟩
  rcases h.2 with h2 | ⟨g, off, cap, cur, rfl, hg, rest⟩
  · exact .inl h2
  · exact .inr ⟨g, off, cap, cur, rfl, (hk g (by simp [Value.ownBlock])).trans hg, rest⟩
theorem OwnQ.lt (h : OwnQ w e size v n xs) : ∀ b ∈ v.ownBlock.toList, b < w.heap.size := by
  intro b hb
  rcases h.2 with ⟨rfl, _⟩ | ⟨g, off, cap, cur, rfl, hg, _⟩
  · simp [Value.ownBlock] at hb
  · obtain rfl : b = g := by simpa [Value.ownBlock] using hb
    exact (Array.getElem?_eq_some_iff.1 hg).1
def Ent.qu (v : Value) (e size n : Nat) (xs : List Value) : Ent :=
  .gp v.ownBlock.toList (fun w => OwnQ w e size v n xs) (fun _ _ h hk => h.keep hk) (fun _ h => h.lt)
def quT {α : Type} (v : Value) (e : Nat) (E : Enc α) (l : List α) : Ent := Ent.qu v e E.size l.length (flat E l)
theorem OwnQ.rd (h : OwnQ w e size v n xs) (hs : 0 < size) : Rd w [] v size n xs := by
  refine ⟨h.1, ?_⟩
  rcases h.2 with ⟨rfl, rfl⟩ | ⟨g, off, cap, cur, rfl, hg, hnc, hcm, hcs, ht⟩
  · exact ⟨none, 0, rfl, Nat.le_refl _, by decide, fun h => absurd h (by omega)⟩
  · refine ⟨_, cap, rfl, hnc, hcm, fun h0 => ⟨_, rfl, by simp, (Array.getElem?_eq_some_iff.1 hg).1, fun j u hj => ?_⟩⟩
    have hjl : j < n * size := by rw [← h.1]; exact (List.getElem?_eq_some_iff.1 hj).1
    have e1 : (⟨g, off, none⟩ : Addr).add j = ⟨g, off + j, none⟩ := by simp [Addr.add]
    rw [e1, cell_of_row w g (off + j) cur e (0, 0) hg]
    rw [← ht, List.getElem?_take, if_pos hjl, List.getElem?_drop] at hj
    simpa using hj
theorem St.rdQ {α : Type} {E : Enc α} {l : List α} {e : Nat} (hO : St w0 M w L) (i : Nat) (hi : L[i]? = some (quT v e E l)) (hs : 0 < E.size) : RdT w [] v E l := (hO.ok hi : OwnQ w e E.size v l.length (flat E l)).rd hs
theorem OwnQ.drop (h : OwnQ w e size v n xs) {j : Nat} (hj : j ≤ n) : OwnQ w e size (dropV v j size) (n - j) (xs.drop (j * size)) := by
  refine ⟨by rw [List.length_drop, h.1, Nat.sub_mul], ?_⟩
  rcases h.2 with ⟨rfl, rfl⟩ | ⟨g, off, cap, cur, rfl, hg, hnc, hcm, hcs, ht⟩
  · obtain rfl : j = 0 := by omega
    exact .inl ⟨by simp [dropV], rfl⟩
  · right
    by_cases hc : cap = j
    · refine ⟨g, off, cap - j, cur, ?_, hg, by omega, by omega, ?_, ?_⟩
      · simp [dropV, hc]
      · rw [hc, Nat.sub_self, Nat.zero_mul]; exact Nat.le_trans (Nat.le_add_right _ _) hcs
      · have : n - j = 0 := by omega
        rw [this, Nat.zero_mul, List.take_zero]
        have hl : xs.length ≤ j * size := by rw [h.1]; exact Nat.mul_le_mul_right _ (by omega)
        exact (List.drop_of_length_le hl).symm
    · refine ⟨g, off + j * size, cap - j, cur, ?_, hg, by omega, by omega, ?_, ?_⟩
      · simp [dropV, hc, Addr.add]
      · rw [Nat.sub_mul]
        have : j * size ≤ cap * size := Nat.mul_le_mul_right _ (by omega)
        omega
      · rw [← ht, List.drop_take, List.drop_drop, Nat.sub_mul]
theorem cell_1 (g off j : Nat) : (⟨g, off, none⟩ : Addr).add j = ⟨g, off + j, none⟩ := by simp [Addr.add]
theorem OwnQ.append {ty : TypeId} {i : TypeInfo} {z : Value} {bytes : Nat} (ht : P.underlying t = some (.slice e)) (hi : P.info? e = some i) (hz : i.zero = some z) (hsize : i.size = size) (hby : i.bytes = bytes) (hzs : z.cells.size = size) (hsz : 0 < size)
    (h : OwnQ w e size v n xs) (ad : Addr) (m c : Nat) (news : List Value) (hl : news.length = m * size) (hnews : ∀ j u, news[j]? = some u → w.cell? (ad.add j) = some u) (h1 : ∀ u ∈ news, u.oneCell' = true)
    (h63 : n + m ≤ maxLen) (hbytes : (n + m) * bytes ≤ 140737488355328) :
    ∃ v' w', (Builtin.append_ #[t, t] ty #[v, .slice (some ad) m c]).run P w = .ok v' w' ∧ OwnQ w' e size v' (n + m) (xs ++ news) ∧ w.grownBy w' v.ownBlock ∧ (v'.ownBlock = v.ownBlock ∨ v'.ownBlock = some w.heap.size) := by
  rcases h.2 with ⟨rfl, rfl⟩ | ⟨g, off, cap, cur, rfl, hg, hnc, hcm, hcs, htake⟩
  · have hx : xs = [] := List.eq_nil_of_length_eq_zero (by simpa using h.1)
    subst hx
    obtain ⟨v', w', hr, h2, h3, _, h5⟩ := run_append_own_at (P := P) w 0 t ty e i z size bytes ht hi hz hsize hby hzs hsz (.slice none 0 0) 0 [] (World.ownsRow_nil w 0 e size) ad m c news hl hnews h1 h63 hbytes (Nat.zero_le _)
    exact ⟨v', w', hr, .of h2, h3, h5⟩
  · subst hsize hby
    have hlen : (xs ++ news).length = (n + m) * i.size := by rw [List.length_append, h.1, hl, Nat.add_mul]
    have hsmall : n + m ≤ 9223372036854775807 := by simp only [maxLen] at h63; omega
    by_cases hroom : n + m ≤ cap
    · have hnm : (n + m) * i.size ≤ cap * i.size := Nat.mul_le_mul_right _ hroom
      have hfit : off + n * i.size + news.length ≤ cur.size := by rw [hl, Nat.add_assoc, ← Nat.add_mul]; omega
      have hf := run_firstCells_some (P := P) w i.size m ad m c news hl hnews
      have hst := run_storeCells_at P g (off + n * i.size) e news 0 cur w hg (by simpa using hfit) h1
      simp only [Nat.add_zero] at hst
      have hr : (Builtin.append_ #[t, t] ty #[.slice (some ⟨g, off, none⟩) n cap, .slice (some ad) m c]).run P w = .ok (.slice (some ⟨g, off, none⟩) (n + m) cap) (w.setRow g (cur.toList.take (off + n * i.size) ++ news ++ cur.toList.drop (off + n * i.size + news.length)).toArray) := by
        simp [Builtin.append_, run_underlying ht, sizeOf, typeInfo, hi, Builtin.lenOf, hroom, hf, cell_1, hst]
      refine ⟨_, _, hr, ⟨hlen, .inr ⟨g, off, cap, _, rfl, setRow_heap w g cur _ e _ hg, hroom, hcm, ?_, ?_⟩⟩, ⟨rfl, rfl, rfl, by simp, fun k _ hk => setRow_other w g k _ (fun e => hk (by simp [Value.ownBlock, e]))⟩, Or.inl rfl⟩
      · simp only [List.size_toArray, List.length_append, List.length_take, List.length_drop, Array.length_toList]
        omega
      · have ho : off ≤ (cur.toList.take (off + n * i.size)).length := by simp; omega
        simp only [List.append_assoc]
        rw [List.drop_append_of_le_length ho, List.drop_take, Nat.add_sub_cancel_left, htake, ← List.append_assoc, ← hlen]
        exact List.take_left
    · have holds : ∀ j u, xs[j]? = some u → w.cell? ((⟨g, off, none⟩ : Addr).add j) = some u := by
        intro j u hj
        have hjl : j < n * i.size := by rw [← h.1]; exact (List.getElem?_eq_some_iff.1 hj).1
        rw [cell_1, cell_of_row w g (off + j) cur e (0, 0) hg]
        rw [← htake, List.getElem?_take, if_pos hjl, List.getElem?_drop] at hj
        simpa using hj
      have hr := run_append_grow (P := P) w t ty e i z ht hi hz ⟨g, off, none⟩ n cap xs h.1 holds ad m c news hl hnews (by omega) (by omega) (growslice_fits (by omega) hbytes)
      refine ⟨_, _, hr, ⟨hlen, .inr ⟨w.heap.size, 0, _, _, rfl, heap_alloc_new w.drew _, grownCap_ge w (n + m) cap e, grownCap_le_maxLen w (n + m) cap e h63, ?_, ?_⟩⟩, ⟨rfl, rfl, rfl, by simp, fun k hk _ => heap_alloc_old w.drew _ hk⟩, Or.inr rfl⟩
      · simp only [Array.size_append, List.size_toArray, size_zeroCells, hzs, h.1, hl, ← Nat.add_mul]
        have := grownCap_ge w (n + m) cap e
        rw [Nat.zero_add]
        exact Nat.mul_le_mul_right _ (by omega)
      · simp only [Array.toList_append, List.append_assoc, List.drop_zero]
        rw [← List.append_assoc, ← hlen]
        exact List.take_left
theorem e_appendQ {α : Type} {E : Enc α} {l r : List α} {inf : TypeInfo} {zv : Value} {bytes : Nat} {v2 : Value} {i : Nat} {M2 : List Nat} (hO : St w0 M w L) (hi : L[i]? = some (quT v e E l)) (hR : Rd w M2 v2 E.size r.length (flat E r))
    (ht : P.underlying t = some (.slice e)) (hinf : P.info? e = some inf) (hz : inf.zero = some zv) (hsize : inf.size = E.size) (hby : inf.bytes = bytes) (hzs : zv.cells.size = E.size) (hsz : Nat.ble 1 E.size = true) (hr0 : 0 < r.length)
    (ho : o.op = .call { callee := .builtin .append, args := #[x, y], argTypes := #[t, t] }) (hx : a.eval x = v) (hy : a.eval y = v2) (hb : (l.length + r.length) * bytes ≤ 140737488355328) (hm : l.length + r.length ≤ 9223372036854775807) :
    Eff P o a w (fun u w' => St w0 M w' (L.set i (quT u e E (l ++ r)))) := by
  have hown : OwnQ w e E.size v l.length (flat E l) := hO.ok hi
  obtain ⟨hlen, A, cap, rfl, _, _, h0⟩ := hR
  obtain ⟨ad, rfl, _, _, hcell⟩ := h0 hr0
  obtain ⟨v', w', hrun, h2, h3, h5⟩ := hown.append (P := P) (t := t) (ty := o.type) ht hinf hz hsize hby hzs (Nat.le_of_ble_eq_true hsz) ad r.length cap (flat E r) hlen hcell (flat_oneCell E r) (by unfold maxLen; exact hm) hb
  refine Eff.value (w' := w') (v := v') ?_ ?_
  · simp only [execOp, ho, resolve, invoke, builtin, Sem.run_bind, Sem.run_pure, Result.andThen_ok, List.map_toArray, List.map_cons, List.map_nil, hx, hy, hrun]
  · have hq : OwnQ w' e E.size v' (l ++ r).length (flat E (l ++ r)) := by rw [List.length_append, flat_app]; exact h2
    refine ((hO.pull i hi).turns (e' := quT v' e E (l ++ r)) h3.os h3.tape h3.output h3.size (fun b hlt hn => h3.block b hlt fun hb => hn ?_) hq ?_ fun b hb => ?_).perm (set_perm L i _ _ hi)
    · show b ∈ v.ownBlock.toList
      rw [← hb]; simp
    · show v'.ownBlock.toList.Nodup
      cases v'.ownBlock <;> simp
    · have hb : b ∈ v'.ownBlock.toList := hb
      have hb := Option.mem_toList.1 hb
      rcases h5 with h5 | h5
      · left; show b ∈ v.ownBlock.toList; rw [← h5]; exact Option.mem_toList.2 hb
      · right; rw [h5] at hb; cases hb; exact Nat.le_refl _
theorem St.toQ {α : Type} {E : Enc α} {l : List α} {e : Nat} {i : Nat} (hO : St w0 M w L) (hi : L[i]? = some (slT v e E l)) : St w0 M w (L.set i (quT v e E l)) := by
  refine ((hO.pull i hi).conv (e' := quT v e E l) ?_ fun h => OwnQ.of h).perm (set_perm L i _ _ hi)
  show (v.ownBlock.toList).Perm (Ent.bs (.sl v e E.size l.length (flat E l)))
  exact List.Perm.refl _
theorem dropV_own {j s : Nat} {A : Option Addr} {n c : Nat} : (dropV (.slice A n c) j s).ownBlock = (Value.slice A n c).ownBlock := by
  unfold dropV
  cases A with
  | none => simp [Value.ownBlock]
  | some ad =>
    simp only [Option.map_some]
    split
    · rfl
    · simp [Value.ownBlock, block_add]
theorem St.dropQ {α : Type} {E : Enc α} {l : List α} {e i : Nat} (hO : St w0 M w L) (hi : L[i]? = some (quT v e E l)) {j : Nat} (hj : j ≤ l.length) : St w0 M w (L.set i (quT (dropV v j E.size) e E (l.drop j))) := by
  have hown : OwnQ w e E.size v l.length (flat E l) := hO.ok hi
  have hv : ∃ A n c, v = .slice A n c := by
    rcases hown.2 with ⟨rfl, _⟩ | ⟨g, off, cap, cur, rfl, _⟩
    · exact ⟨_, _, _, rfl⟩
    · exact ⟨_, _, _, rfl⟩
  obtain ⟨A, n, c, rfl⟩ := hv
  refine ((hO.pull i hi).conv (e' := quT (dropV (.slice A n c) j E.size) e E (l.drop j)) ?_ fun h => ?_).perm (set_perm L i _ _ hi)
  · show ((dropV (.slice A n c) j E.size).ownBlock.toList).Perm ((Value.slice A n c).ownBlock.toList)
    rw [dropV_own]
  · show OwnQ w e E.size _ (l.drop j).length (flat E (l.drop j))
    rw [List.length_drop, ← flat_drop]
    exact OwnQ.drop h hj
end
end Go.Proofs.Ytfkmlcgccffmnaa
namespace Go.Proofs.Ytfkmlcgccffmnaa
open Go Go.Maps
set_option linter.unusedVariables false
section
variable {P : Program} {w w0 w' : World} {e t : TypeId} {size n : Nat} {v u x : Value} {M : List Nat} {L B A' : List Ent} {o : Oper} {a : Act} {e1 e2 e3 e4 e5 e6 e7 e8 : Ent}
theorem St.quOne {e size n : Nat} {xs : List Value} (hO : St w0 M w L) (i : Nat) (hi : L[i]? = some (Ent.qu v e size n xs)) : v.oneCell' = true := by
  have h : OwnQ w e size v n xs := hO.ok hi
  rcases h.2 with ⟨rfl, _⟩ | ⟨g, off, cap, cur, rfl, _⟩ <;> rfl
theorem r_tct {fn : Func} {R : Value → World → Prop} {m : Nat} {L : List (Nat × Value)} {k l k2 size : Nat} {ty : TypeId} {ad : Addr} {cs : List Value} (hF : Fr a m L) (hr : fn.results = #[.tmp k, .cell l ty, .tmp k2]) (hv : lk L k = some v) (hu : lk L l = some (ptr ad)) (hx : lk L k2 = some x)
    (ha : ∀ w, (isAgg ty).run P w = .ok true w) (hs : ∀ w, (sizeOf ty).run P w = .ok size w) (hc : ∀ j u, cs[j]? = some u → w.cell? (ad.add j) = some u) (hl : cs.length = size) (hR : R (.tuple #[v, .agg cs.toArray, x]) w) : Post P fn R .ret a w := by
  subst hl
  refine ⟨hF.defs, .tuple #[v, .agg cs.toArray, x], ?_, _, rfl, hR⟩
  have e1 := hF.get k v hv
  have e2 := hF.get l _ hu
  have e3 := hF.get k2 _ hx
  rw [Array.getD_eq_getD_getElem?] at e1 e2 e3
  simp [results, hr, e1, e2, e3, ptr, asAddr, loadVar, ha, hs, run_loadCells_list w ad cs hc]
theorem St.own5 (hO : St w0 M w (e1 :: e2 :: e3 :: e4 :: e5 :: B)) : Owns w [e1, e2, e3, e4, e5] := (St.front (A := [e1, e2, e3, e4, e5]) hO).owns
theorem St.call5 (hO : St w0 M w (e1 :: e2 :: e3 :: e4 :: e5 :: B)) (hc : St w (blks [e1, e2, e3, e4, e5]) w' A') : St w0 M w' (A' ++ B) := St.call (A := [e1, e2, e3, e4, e5]) hO hc
theorem St.own8 (hO : St w0 M w (e1 :: e2 :: e3 :: e4 :: e5 :: e6 :: e7 :: e8 :: B)) : Owns w [e1, e2, e3, e4, e5, e6, e7, e8] := (St.front (A := [e1, e2, e3, e4, e5, e6, e7, e8]) hO).owns
theorem St.call8 (hO : St w0 M w (e1 :: e2 :: e3 :: e4 :: e5 :: e6 :: e7 :: e8 :: B)) (hc : St w (blks [e1, e2, e3, e4, e5, e6, e7, e8]) w' A') : St w0 M w' (A' ++ B) := St.call (A := [e1, e2, e3, e4, e5, e6, e7, e8]) hO hc
/-- a map from numbers holds just these -/
def NumF (f : Lit → Option Value) (g : Int → Option Value) : Prop := ∀ n : Int, f (.int .i64 n) = g n
theorem NumF.put {f : Lit → Option Value} {g : Int → Option Value} (h : NumF f g) (n : Int) (v : Value) : NumF (putF f (.int .i64 n) v) (fun m => if m = n then some v else g m) := by
  intro m
  unfold putF
  dsimp only
  by_cases hm : m = n
  · subst hm; rw [if_pos rfl, if_pos rfl]
  · rw [if_neg (by simp [hm]), if_neg hm, h m]
theorem i64_wf {n : Int} (h : -9223372036854775808 ≤ n ∧ n ≤ 9223372036854775807) : (Lit.int .i64 n).wf = true := by
  obtain ⟨h1, h2⟩ := h
  simp only [Lit.wf, IntKind.min, IntKind.max, IntKind.bits, IntKind.signed] 
  simp
  omega
def metG (met : List Int) : Int → Option Value := fun n => if met.contains n = true then some (.bool true) else none
theorem metG_put {f : Lit → Option Value} {met : List Int} (h : NumF f (metG met)) (n : Int) : NumF (putF f (.int .i64 n) (.bool true)) (metG (met ++ [n])) := by
  intro m
  rw [NumF.put h n _ m]
  unfold metG
  dsimp only
  by_cases hm : m = n
  · subst hm; rw [if_pos rfl]; simp
  · rw [if_neg hm]; simp [hm]
theorem metG_none : NumF (fun _ => none) (metG []) := fun n => by simp [metG]
theorem q_met {k t : TypeId} {b c i : Nat} {f : Lit → Option Value} {met : List Int} {x y : Operand} {n : Int} (hO : St w0 M w L) (hi : L[i]? = some (Ent.mapE P k b c f)) (hf : NumF f (metG met)) (hk : P.underlying k = some (.int .i64)) (ht : P.underlying t = some (.map k e)) (hz : (zeroValue e).run P w = .ok (.bool false) w)
    (ho : o.op = .lookup t x y false) (hx : a.eval x = .map (some b)) (hy : a.eval y = i64 n) (hn : -9223372036854775808 ≤ n ∧ n ≤ 9223372036854775807) : QV P o a w (.bool (met.contains n)) := by
  have h := q_lookup hO hi (int_keyed hk) ht hz ho hx hy (keyOf_int_mk hk (i64_wf hn))
  rw [hf n] at h
  unfold metG at h
  cases hm : met.contains n with
  | false => rw [hm] at h; simpa using h
  | true => rw [hm] at h; simpa using h
theorem e_metPut {k t : TypeId} {b c i : Nat} {f : Lit → Option Value} {x y z : Operand} {n : Int} (hO : St w0 M w L) (hi : L[i]? = some (Ent.mapE P k b c f)) (hk : P.underlying k = some (.int .i64)) (ht : P.underlying t = some (.map k e)) (hc : c < 9223372036854775807)
    (ho : o.op = .mapUpdate t x y z) (hx : a.eval x = .map (some b)) (hy : a.eval y = i64 n) (hz : a.eval z = v) (hn : -9223372036854775808 ≤ n ∧ n ≤ 9223372036854775807) : Eff P o a w (fun u w' => u = undef ∧ St w0 M w' (L.set i (Ent.mapE P k b (c + 1) (putF f (.int .i64 n) v)))) :=
  e_mapPut hO hi (int_keyed hk) ht (by unfold maxLen; exact hc) ho hx hy hz (keyOf_int_mk hk (i64_wf hn))
/-- a map from numbers to numbers -/
def toG (to : List (Int × Int)) : Int → Option Value := fun n => (to.lookup n).map i64
theorem toG_put {f : Lit → Option Value} {to : List (Int × Int)} (h : NumF f (toG to)) {n : Int} (m : Int) (hn : to.lookup n = none) : NumF (putF f (.int .i64 n) (i64 m)) (toG (to ++ [(n, m)])) := by
  intro k
  rw [NumF.put h n _ k]
  unfold toG
  dsimp only
  rw [List.lookup_append]
  by_cases hk : k = n
  · subst hk; rw [if_pos rfl, hn]; simp [List.lookup]
  · rw [if_neg hk]
    cases hl : to.lookup k with
    | some q => simp
    | none =>
      have : (k == n) = false := by simpa using hk
      simp [List.lookup, this]
theorem toG_none : NumF (fun _ => none) (toG []) := fun n => by simp [toG]
theorem q_to {k t : TypeId} {b c i : Nat} {f : Lit → Option Value} {to : List (Int × Int)} {x y : Operand} {n : Int} (hO : St w0 M w L) (hi : L[i]? = some (Ent.mapE P k b c f)) (hf : NumF f (toG to)) (hk : P.underlying k = some (.int .i64)) (ht : P.underlying t = some (.map k e)) (hz : (zeroValue e).run P w = .ok (i64 0) w)
    (ho : o.op = .lookup t x y true) (hx : a.eval x = .map (some b)) (hy : a.eval y = i64 n) (hn : -9223372036854775808 ≤ n ∧ n ≤ 9223372036854775807) : QV P o a w (.tuple #[i64 ((to.lookup n).getD 0), .bool (to.lookup n).isSome]) := by
  have h := q_lookOk hO hi (int_keyed hk) ht hz ho hx hy (keyOf_int_mk hk (i64_wf hn))
  rw [hf n] at h
  unfold toG at h
  cases hm : to.lookup n with
  | none => rw [hm] at h; simpa using h
  | some q => rw [hm] at h; simpa using h
end
end Go.Proofs.Ytfkmlcgccffmnaa
namespace Go.Proofs.Ytfkmlcgccffmnaa
open Go
section
variable (P : Program) (ops : Array Oper) (ks : List Nat) (w0 : World) (M : List Nat) (L0 : List Ent) (G : Value → List Ent → Prop) (K : Act → World → Prop)
abbrev St5 := List Ent ⊕ World
def step5 (o : Oper) (k : Nat) (next : St5 → Act → Prop) (σ : St5) (a : Act) : Prop :=
  if Region.wanted o (yielded ops a.tmps) then
    if k ≤ 1 then ∃ v, (∀ w, (k = 0 ∨ St w0 M w L0) → QV P o a w v) ∧ next σ (a.put o.dst v)
    else match σ with
      | .inl L => if k = 4 then ∃ mk obj, mkRun P o a mk obj ∧ ∀ b, next (.inl (.mp b obj :: L)) (a.put o.dst (mk b))
        else if k = 5 then (∀ w, St w0 M w L0 → Eff P o a w (fun u w2 => ∃ A, G u A ∧ St w [] w2 A)) ∧ ∀ u A, G u A → next (.inl (A ++ L)) (a.put o.dst u)
        else ∀ w, St w0 M w L → Eff P o a w (fun u w2 => next (.inr w2) (a.put o.dst u))
      | .inr w => Eff P o a w (fun u w2 => next (.inr w2) (a.put o.dst u))
  else next σ (a.put o.dst undef)
def wp5 : List Nat → St5 → Act → Prop
  | [], .inl L, a => ∀ w, St w0 M w L → K a w
  | [], .inr w, a => K a w
  | i :: rest, σ, a => match ops[i]? with
    | none => wp5 rest σ a
    | some o => step5 P ops w0 M L0 G o (ks.getD i 0) (wp5 rest) σ a
def wp5l : List Oper → List Nat → St5 → Act → Prop
  | [], _, .inl L, a => ∀ w, St w0 M w L → K a w
  | [], _, .inr w, a => K a w
  | o :: rest, ks, σ, a => step5 P ops w0 M L0 G o (ks.headD 0) (wp5l rest ks.tail) σ a
end
section
variable {P : Program} {ops : Array Oper} {ks : List Nat} {w0 : World} {M : List Nat} {L0 : List Ent} {G : Value → List Ent → Prop} {K : Act → World → Prop}
def PermInv5 (next : St5 → Act → Prop) : Prop := ∀ L L' a, L.Perm L' → next (.inl L) a → next (.inl L') a
theorem step5_perm {o : Oper} {k : Nat} {next : St5 → Act → Prop} (hn : PermInv5 next) : PermInv5 (step5 P ops w0 M L0 G o k next) := by
  intro L L' a hp h
  unfold step5 at h ⊢
  split
  · rename_i hw
    rw [if_pos hw] at h
    split
    · rename_i hk
      rw [if_pos hk] at h
      obtain ⟨v, h1, h2⟩ := h
      exact ⟨v, h1, hn _ _ _ hp h2⟩
    · rename_i hk
      rw [if_neg hk] at h
      simp only at h ⊢
      split
      · rename_i h4
        rw [if_pos h4] at h
        obtain ⟨mk, obj, h1, h2⟩ := h
        exact ⟨mk, obj, h1, fun b => hn _ _ _ (hp.cons _) (h2 b)⟩
      · rename_i h4
        rw [if_neg h4] at h
        split
        · rename_i h5
          rw [if_pos h5] at h
          exact ⟨h.1, fun u A hG => hn _ _ _ (hp.append_left A) (h.2 u A hG)⟩
        · rename_i h5
          rw [if_neg h5] at h
          exact fun w hw => h w (hw.perm hp)
  · rename_i hw
    rw [if_neg hw] at h
    exact hn _ _ _ hp h
theorem wp5_perm : ∀ (l : List Nat), PermInv5 (wp5 P ops ks w0 M L0 G K l)
  | [], L, L', a, hp, h => fun w hw => h w (hw.perm hp)
  | i :: l, L, L', a, hp, h => by
    unfold wp5 at h ⊢
    split
    · rename_i ho; rw [ho] at h; exact wp5_perm l L L' a hp h
    · rename_i o ho
      rw [ho] at h
      exact step5_perm (wp5_perm l) L L' a hp h
theorem wp5_eq (l : List Oper) : ∀ (k : Nat) (kl : List Nat), (∀ j, l[j]? = ops[k + j]?) → (∀ j, kl.getD j 0 = ks.getD (k + j) 0) → wp5 P ops ks w0 M L0 G K (List.range' k l.length) = wp5l P ops w0 M L0 G K l kl := by
  induction l with
  | nil =>
    intro k kl _ _
    funext σ a
    cases σ <;> simp [wp5, wp5l]
  | cons o l ih =>
    intro k kl h hk
    have h0 : ops[k]? = some o := by simpa using (h 0).symm
    have hk0 : kl.headD 0 = ks.getD k 0 := by
      have := hk 0
      cases kl <;> simpa using this
    have ih' := ih (k + 1) kl.tail (fun j => by have := h (j + 1); simpa [Nat.add_assoc, Nat.add_comm 1 j] using this)
      (fun j => by
        have h1 := hk (j + 1)
        rw [show k + 1 + j = k + (j + 1) by omega, ← h1]
        cases kl <;> simp)
    funext σ a
    simp only [List.length_cons, List.range'_succ, wp5, h0, wp5l, ih', hk0]
def okPair5 (k1 k2 : Nat) : Bool := (k1 == 0 && (k2 ≤ 5)) || (k2 == 0 && (k1 ≤ 1 || k1 == 4 || k1 == 5)) || (k1 == 1 && (k2 == 1 || k2 == 4 || k2 == 5)) || (k1 == 4 && (k2 == 1 || k2 == 4 || k2 == 5)) || (k1 == 5 && (k2 == 1 || k2 == 4))
theorem Eff.ex {o : Oper} {a : Act} {w : World} {R : Value → World → Prop} (h : Eff P o a w R) : ∃ u w', R u w' := by
  unfold Eff at h
  split at h
  · exact ⟨_, _, h⟩
  · exact ⟨_, _, h⟩
  · obtain ⟨e, w', fr, ⟨v, _, hR⟩, _⟩ := h []
    exact ⟨_, _, hR⟩
  · exact h.elim
/-- Two operations that are apart change places. -/
theorem step5_swap {p i : Oper} {kp ki : Nat} {next : St5 → Act → Prop} (hn : PermInv5 next) {a : Act} {σ : St5} (hne : ∃ w, St w0 M w L0) (hap : i.apart ops p = true) (hsi : noSel i = true) (hsp : noSel p = true)
    (hok : okPair5 kp ki = true) (hσ : (∃ L, σ = .inl L) ∨ kp = 0)
    (h : step5 P ops w0 M L0 G p kp (step5 P ops w0 M L0 G i ki next) σ a) : step5 P ops w0 M L0 G i ki (step5 P ops w0 M L0 G p kp next) σ a := by
  obtain ⟨h1, h2, h3⟩ := Oper.apart_spec hap
  have hi := noSel_spec hsi
  have hp := noSel_spec hsp
  have e1 : ∀ v, execOp (a.put p.dst v).eval i = execOp a.eval i := fun v => execOp_put i hi a p.dst v h3
  have e2 : ∀ v, execOp (a.put i.dst v).eval p = execOp a.eval p := fun v => execOp_put p hp a i.dst v h1
  have g1 : ∀ v, Region.wanted i (yielded ops (a.put p.dst v).tmps) = Region.wanted i (yielded ops a.tmps) := fun v => wanted_put i a p.dst v h3
  have g2 : ∀ v, Region.wanted p (yielded ops (a.put i.dst v).tmps) = Region.wanted p (yielded ops a.tmps) := fun v => wanted_put p a i.dst v h1
  have comm : ∀ u v, (a.put p.dst u).put i.dst v = (a.put i.dst v).put p.dst u := fun u v => (Act.put_comm a v u h2).symm
  obtain ⟨wn, hwn⟩ := hne
  simp only [okPair5, Bool.or_eq_true, Bool.and_eq_true, beq_iff_eq, decide_eq_true_eq] at hok
  unfold step5 at h ⊢
  by_cases hwp : Region.wanted p (yielded ops a.tmps) = true
  · rw [if_pos hwp] at h
    by_cases hwi : Region.wanted i (yielded ops a.tmps) = true
    · rw [if_pos hwi]
      by_cases hkp : kp ≤ 1
      · rw [if_pos hkp] at h
        obtain ⟨vp, hvp, h⟩ := h
        rw [g1, if_pos hwi] at h
        by_cases hki : ki ≤ 1
        · rw [if_pos hki] at h ⊢
          obtain ⟨vi, hvi, h⟩ := h
          refine ⟨vi, fun w' hw' => (hvi w' hw').congr (e1 vp).symm, ?_⟩
          rw [g2, if_pos hwp, if_pos hkp]
          exact ⟨vp, fun w' hw' => (hvp w' hw').congr (e2 vi), by rw [← comm]; exact h⟩
        · rw [if_neg hki] at h ⊢
          cases σ with
          | inl L =>
            simp only at h ⊢
            split
            · rename_i h4
              rw [if_pos h4] at h
              obtain ⟨mk, obj, hr, h⟩ := h
              refine ⟨mk, obj, hr.congr (e1 vp).symm, fun b => ?_⟩
              rw [g2, if_pos hwp]; try rw [if_pos hkp]
              exact ⟨vp, fun w' hw' => (hvp w' hw').congr (e2 _), by rw [← comm]; exact h b⟩
            · rename_i h4
              rw [if_neg h4] at h
              split
              · rename_i h5
                rw [if_pos h5] at h
                refine ⟨fun w hw => (h.1 w hw).congr (a' := a) (e1 vp).symm, fun u A hG => ?_⟩
                rw [g2, if_pos hwp]; try rw [if_pos hkp]
                exact ⟨vp, fun w' hw' => (hvp w' hw').congr (e2 u), by rw [← comm]; exact h.2 u A hG⟩
              · rename_i h5
                rw [if_neg h5] at h
                intro w hw
                refine ((h w hw).congr (a' := a) (e1 vp).symm).mono fun u w2 hu => ?_
                rw [g2, if_pos hwp]; try rw [if_pos hkp]
                exact ⟨vp, fun w' hw' => (hvp w' hw').congr (e2 u), by rw [← comm]; exact hu⟩
          | inr w =>
            simp only at h ⊢
            refine (h.congr (a' := a) (e1 vp).symm).mono fun u w2 hu => ?_
            rw [g2, if_pos hwp]; try rw [if_pos hkp]
            exact ⟨vp, fun w' hw' => (hvp w' hw').congr (e2 u), by rw [← comm]; exact hu⟩
      · rw [if_neg hkp] at h
        obtain ⟨L, rfl⟩ := hσ.resolve_right (by omega)
        have hk45 : kp = 4 ∨ kp = 5 := by omega
        rcases hk45 with hk4 | hk5
        · subst hk4
          simp only [if_true] at h
          obtain ⟨mk, obj, hr, h⟩ := h
          by_cases hki : ki ≤ 1
          · rw [if_pos hki]
            have h0 := h 0
            rw [g1, if_pos hwi, if_pos hki] at h0
            obtain ⟨v0, hv0, _⟩ := h0
            refine ⟨v0, fun w' hw' => (hv0 w' hw').congr (e1 _).symm, ?_⟩
            rw [g2, if_pos hwp, if_neg hkp]
            simp only [if_true]
            refine ⟨mk, obj, hr.congr (e2 v0), fun b => ?_⟩
            have hb := h b
            rw [g1, if_pos hwi, if_pos hki] at hb
            obtain ⟨v, hv, hn'⟩ := hb
            have := ((hv wn (.inr hwn)).congr (e1 _).symm).uniq ((hv0 wn (.inr hwn)).congr (e1 _).symm)
            subst this
            rw [← comm]
            exact hn'
          · rw [if_neg hki]
            by_cases hk4 : ki = 4
            · subst hk4
              simp only [if_true]
              have h0 := h 0
              rw [g1, if_pos hwi, if_neg hki] at h0
              simp only [if_true] at h0
              obtain ⟨mk0, obj0, hr0, _⟩ := h0
              have hr0' := hr0.congr (a' := a) (e1 _).symm
              refine ⟨mk0, obj0, hr0', fun b2 => ?_⟩
              rw [g2, if_pos hwp]
              try rw [if_neg hkp]
              try simp only [if_true]
              refine ⟨mk, obj, hr.congr (e2 _), fun b1 => ?_⟩
              have hb := h b1
              rw [g1, if_pos hwi, if_neg hki] at hb
              simp only [if_true] at hb
              obtain ⟨mk1, obj1, hr1, hb⟩ := hb
              obtain ⟨rfl, rfl⟩ := (hr1.congr (a' := a) (e1 _).symm).uniq hr0' wn
              rw [← comm]
              exact hn _ _ _ (List.Perm.swap _ _ _) (hb b2)
            · have hk5 : ki = 5 := by omega
              subst hk5
              simp only [hk4, if_false, if_true]
              have h0 := h 0
              rw [g1, if_pos hwi, if_neg hki] at h0
              simp only [hk4, if_false, if_true] at h0
              refine ⟨fun w hw => (h0.1 w hw).congr (a' := a) (e1 _).symm, fun u A hG => ?_⟩
              rw [g2, if_pos hwp]
              try rw [if_neg hkp]
              try simp only [if_true]
              refine ⟨mk, obj, hr.congr (e2 _), fun b => ?_⟩
              have hb := h b
              rw [g1, if_pos hwi, if_neg hki] at hb
              simp only [hk4, if_false, if_true] at hb
              rw [← comm]
              exact hn _ _ _ List.perm_middle (hb.2 u A hG)
        · subst hk5
          simp only [show ¬ (5 : Nat) = 4 by omega, if_false, if_true] at h
          obtain ⟨hE, h⟩ := h
          obtain ⟨u0, _, A0, hG0, _⟩ := Eff.ex (hE wn hwn)
          by_cases hki : ki ≤ 1
          · rw [if_pos hki]
            have h0 := h u0 A0 hG0
            rw [g1, if_pos hwi, if_pos hki] at h0
            obtain ⟨v0, hv0, _⟩ := h0
            refine ⟨v0, fun w' hw' => (hv0 w' hw').congr (e1 _).symm, ?_⟩
            rw [g2, if_pos hwp, if_neg hkp]
            simp only [show ¬ (5 : Nat) = 4 by omega, if_false, if_true]
            refine ⟨fun w hw => (hE w hw).congr (e2 _), fun u A hG => ?_⟩
            have hb := h u A hG
            rw [g1, if_pos hwi, if_pos hki] at hb
            obtain ⟨v, hv, hn'⟩ := hb
            have := ((hv wn (.inr hwn)).congr (e1 _).symm).uniq ((hv0 wn (.inr hwn)).congr (e1 _).symm)
            subst this
            rw [← comm]
            exact hn'
          · have hk4 : ki = 4 := by omega
            subst hk4
            rw [if_neg hki]
            simp only [if_true]
            have h0 := h u0 A0 hG0
            rw [g1, if_pos hwi, if_neg hki] at h0
            simp only [if_true] at h0
            obtain ⟨mk0, obj0, hr0, _⟩ := h0
            have hr0' := hr0.congr (a' := a) (e1 _).symm
            refine ⟨mk0, obj0, hr0', fun b2 => ?_⟩
            rw [g2, if_pos hwp]
            try rw [if_neg hkp]
            simp only [show ¬ (5 : Nat) = 4 by omega, if_false, if_true]
            refine ⟨fun w hw => (hE w hw).congr (e2 _), fun u A hG => ?_⟩
            have hb := h u A hG
            rw [g1, if_pos hwi, if_neg hki] at hb
            simp only [if_true] at hb
            obtain ⟨mk1, obj1, hr1, hb⟩ := hb
            obtain ⟨rfl, rfl⟩ := (hr1.congr (a' := a) (e1 _).symm).uniq hr0' wn
            rw [← comm]
            exact hn _ _ _ List.perm_middle.symm (hb b2)
    · rw [if_neg hwi]
      rw [g2, if_pos hwp]
      by_cases hkp : kp ≤ 1
      · rw [if_pos hkp] at h ⊢
        obtain ⟨vp, hvp, h⟩ := h
        rw [g1, if_neg hwi] at h
        exact ⟨vp, fun w' hw' => (hvp w' hw').congr (e2 _), by rw [← comm]; exact h⟩
      · rw [if_neg hkp] at h ⊢
        obtain ⟨L, rfl⟩ := hσ.resolve_right (by omega)
        have hk45 : kp = 4 ∨ kp = 5 := by omega
        rcases hk45 with hk4 | hk5
        · subst hk4
          simp only [if_true] at h ⊢
          obtain ⟨mk, obj, hr, h⟩ := h
          refine ⟨mk, obj, hr.congr (e2 _), fun b => ?_⟩
          have hb := h b
          rw [g1, if_neg hwi] at hb
          rw [← comm]
          exact hb
        · subst hk5
          simp only [show ¬ (5 : Nat) = 4 by omega, if_false, if_true] at h ⊢
          refine ⟨fun w hw => (h.1 w hw).congr (e2 _), fun u A hG => ?_⟩
          have hb := h.2 u A hG
          rw [g1, if_neg hwi] at hb
          rw [← comm]
          exact hb
  · rw [if_neg hwp] at h
    rw [g1] at h
    by_cases hwi : Region.wanted i (yielded ops a.tmps) = true
    · rw [if_pos hwi] at h ⊢
      by_cases hki : ki ≤ 1
      · rw [if_pos hki] at h ⊢
        obtain ⟨vi, hvi, h⟩ := h
        refine ⟨vi, fun w' hw' => (hvi w' hw').congr (e1 _).symm, ?_⟩
        rw [g2, if_neg hwp, ← comm]
        exact h
      · rw [if_neg hki] at h ⊢
        cases σ with
        | inl L =>
          simp only at h ⊢
          split
          · rename_i h4
            rw [if_pos h4] at h
            obtain ⟨mk, obj, hr, h⟩ := h
            refine ⟨mk, obj, hr.congr (e1 _).symm, fun b => ?_⟩
            rw [g2, if_neg hwp, ← comm]
            exact h b
          · rename_i h4
            rw [if_neg h4] at h
            split
            · rename_i h5
              rw [if_pos h5] at h
              refine ⟨fun w hw => (h.1 w hw).congr (a' := a) (e1 _).symm, fun u A hG => ?_⟩
              rw [g2, if_neg hwp, ← comm]
              exact h.2 u A hG
            · rename_i h5
              rw [if_neg h5] at h
              intro w hw
              refine ((h w hw).congr (a' := a) (e1 _).symm).mono fun u w2 hu => ?_
              rw [g2, if_neg hwp, ← comm]
              exact hu
        | inr w =>
          simp only at h ⊢
          refine (h.congr (a' := a) (e1 _).symm).mono fun u w2 hu => ?_
          rw [g2, if_neg hwp, ← comm]
          exact hu
    · rw [if_neg hwi] at h ⊢
      rw [g2, if_neg hwp, ← comm]
      exact h
theorem step5_mono {o : Oper} {k : Nat} {n1 n2 : St5 → Act → Prop} {a : Act} {σ : St5} (hk : k ≠ 3 ∨ ∃ w, σ = .inr w) (h : ∀ σ' a, ((∃ L, σ = .inl L) → ∃ L, σ' = .inl L) → n1 σ' a → n2 σ' a) (hs : step5 P ops w0 M L0 G o k n1 σ a) (hle : k ≤ 5) (h2 : k ≠ 2) : step5 P ops w0 M L0 G o k n2 σ a := by
  unfold step5 at *
  split
  · rename_i hw
    rw [if_pos hw] at hs
    split
    · rename_i hk
      rw [if_pos hk] at hs
      obtain ⟨v, h1, h2⟩ := hs
      exact ⟨v, h1, h _ _ id h2⟩
    · rename_i hk1
      rw [if_neg hk1] at hs
      cases σ with
      | inl L =>
        simp only at hs ⊢
        have h45 : k = 4 ∨ k = 5 := by
          rcases hk with hk | ⟨w, hk⟩
          · omega
          · cases hk
        rcases h45 with h4 | h5
        · rw [if_pos h4] at hs ⊢
          obtain ⟨mk, obj, hr, hs⟩ := hs
          exact ⟨mk, obj, hr, fun b => h _ _ (fun _ => ⟨_, rfl⟩) (hs b)⟩
        · subst h5
          simp only [show ¬ (5 : Nat) = 4 by omega, if_false, if_true] at hs ⊢
          exact ⟨hs.1, fun u A hG => h _ _ (fun _ => ⟨_, rfl⟩) (hs.2 u A hG)⟩
      | inr w => exact hs.mono fun u w2 hu => h _ _ (fun ⟨L, hL⟩ => by cases hL) hu
  · rename_i hw
    rw [if_neg hw] at hs
    exact h _ _ id hs
theorem front5 {i : Nat} {oi : Oper} (hoi : ops[i]? = some oi) (hsi : noSel oi = true) (hne : ∃ w, St w0 M w L0) :
    ∀ (pre post : List Nat) (σ : St5) (a : Act),
      (∀ p ∈ pre, ∃ op, ops[p]? = some op ∧ noSel op = true ∧ oi.apart ops op = true ∧ okPair5 (ks.getD p 0) (ks.getD i 0) = true) →
      ((∃ L, σ = .inl L) ∨ ∀ p ∈ pre, ks.getD p 0 = 0) →
      wp5 P ops ks w0 M L0 G K (pre ++ i :: post) σ a → step5 P ops w0 M L0 G oi (ks.getD i 0) (wp5 P ops ks w0 M L0 G K (pre ++ post)) σ a := by
  intro pre
  induction pre with
  | nil => intro post σ a _ _ h; simpa [wp5, hoi] using h
  | cons p pre ih =>
    intro post σ a hpre hσ h
    obtain ⟨op, hop, hsp, hap, hok⟩ := hpre p (by simp)
    have e : wp5 P ops ks w0 M L0 G K (p :: pre ++ post) = step5 P ops w0 M L0 G op (ks.getD p 0) (wp5 P ops ks w0 M L0 G K (pre ++ post)) := by
      funext σ a
      simp [wp5, hop]
    rw [e]
    have h' : step5 P ops w0 M L0 G op (ks.getD p 0) (wp5 P ops ks w0 M L0 G K (pre ++ i :: post)) σ a := by simpa [wp5, hop] using h
    have hk := hok
    simp only [okPair5, Bool.or_eq_true, Bool.and_eq_true, beq_iff_eq, decide_eq_true_eq] at hk
    refine step5_swap (wp5_perm _) hne hap hsi hsp hok (hσ.imp id fun h => h p (by simp)) ?_
    refine step5_mono (.inl (by omega)) (fun σ' a' hL hh => ?_) h' (by omega) (by omega)
    exact ih post σ' a' (fun q hq => hpre q (by simp [hq])) (hσ.imp hL fun h q hq => h q (by simp [hq])) hh
def pairOk5 (ops : Array Oper) (ks : List Nat) (p i : Nat) : Bool :=
  reach ops ops.size p i || (match ops[p]?, ops[i]? with
    | some op, some oi => oi.apart ops op && okPair5 (ks.getD p 0) (ks.getD i 0)
    | _, _ => false)
def look5 (ops : Array Oper) (ks : List Nat) : Bool :=
  (List.range ops.size).all fun i =>
    (match ops[i]? with
      | some o => noSel o && (o.after.all fun e => !Region.binds .any e || decide (e.on < i)) && (decide (ks.getD i 0 ≤ 1) || ks.getD i 0 == 3 || ks.getD i 0 == 4 || ks.getD i 0 == 5)
      | none => false) &&
    (List.range i).all fun p => pairOk5 ops ks p i && (ks.getD p 0 != 3 || ks.getD i 0 == 0 || ks.getD i 0 == 3)
theorem look5_pair {p i : Nat} (h : look5 ops ks = true) (hi : i < ops.size) (hp : p < i) : pairOk5 ops ks p i = true ∧ (ks.getD p 0 = 3 → ks.getD i 0 = 0 ∨ ks.getD i 0 = 3) := by
  have h1 := List.all_eq_true.1 h i (List.mem_range.2 hi)
  simp only [Bool.and_eq_true] at h1
  have h2 := List.all_eq_true.1 h1.2 p (List.mem_range.2 hp)
  simp only [Bool.and_eq_true, Bool.or_eq_true, bne_iff_ne, beq_iff_eq] at h2
  exact ⟨h2.1, fun h3 => by rcases h2.2 with (h4 | h4) | h4 <;> first | exact absurd h3 h4 | exact .inl h4 | exact .inr h4⟩
theorem look5_edge {i : Nat} {o : Oper} (h : look5 ops ks = true) (ho : ops[i]? = some o) : noSel o = true ∧ (∀ e ∈ o.after, Region.binds .any e = true → e.on < i) ∧ (((ks.getD i 0 ≤ 1 ∨ ks.getD i 0 = 3) ∨ ks.getD i 0 = 4) ∨ ks.getD i 0 = 5) := by
  have hi : i < ops.size := (Array.getElem?_eq_some_iff.1 ho).1
  have h1 := List.all_eq_true.1 h i (List.mem_range.2 hi)
  simp only [Bool.and_eq_true, ho, decide_eq_true_eq, Bool.or_eq_true, beq_iff_eq] at h1
  refine ⟨h1.1.1.1, fun e he hb => ?_, h1.1.2⟩
  have h2 := Array.all_eq_true'.1 h1.1.1.2 e he
  simpa [hb] using h2
/-- what a state says of the world -/
def St5.is (w0 : World) (M : List Nat) (L0 : List Ent) (w : World) : St5 → Prop
  | .inl L => St w0 M w L ∧ L0.Sublist L
  | .inr w' => w' = w
theorem step5_wpOp {i : Nat} {o : Oper} (ho : ops[i]? = some o) {k : Nat} {next : St5 → Act → Prop} {N : Act → World → Prop} {Q : Exit → Act → World → Prop} {a : Act} {w : World} {σ : St5} (hσ : σ.is w0 M L0 w) (hk : (((k ≤ 1 ∨ k = 3) ∨ k = 4) ∨ k = 5) ∧ ((∃ w, σ = .inr w) → k = 0 ∨ k = 3))
    (hN : ∀ σ' a' w', σ'.is w0 M L0 w' → ((∃ w, σ' = .inr w) → (∃ w, σ = .inr w) ∨ k = 3) → next σ' a' → N a' w') (h : step5 P ops w0 M L0 G o k next σ a) : wpOp P ops Q i N a w := by
  unfold step5 at h
  unfold wpOp
  simp only [ho]
  by_cases hw : Region.wanted o (yielded ops a.tmps) = true
  · rw [if_pos hw] at h ⊢
    refine .inl (Eff.wp ?_)
    by_cases hk1 : k ≤ 1
    · rw [if_pos hk1] at h
      obtain ⟨v, hv, hn⟩ := h
      refine Eff.value (hv w ?_) (hN _ _ _ hσ .inl hn)
      cases σ with
      | inl L => exact .inr (hσ.1.less hσ.2)
      | inr w' => exact .inl (by have := hk.2 ⟨w', rfl⟩; omega)
    · rw [if_neg hk1] at h
      cases σ with
      | inl L =>
        simp only at h
        by_cases h4 : k = 4
        · rw [if_pos h4] at h
          obtain ⟨mk, obj, hr, h⟩ := h
          exact Eff.value (hr w) (hN (.inl _) _ _ ⟨hσ.1.newMp obj, hσ.2.cons _⟩ (fun ⟨w, h⟩ => by cases h) (h _))
        · rw [if_neg h4] at h
          by_cases h5 : k = 5
          · rw [if_pos h5] at h
            exact (h.1 w (hσ.1.less hσ.2)).mono fun u w2 ⟨A, hG, hS⟩ => hN (.inl _) _ _ ⟨hσ.1.call0 hS, hσ.2.trans (List.sublist_append_right _ _)⟩ (fun ⟨w, h⟩ => by cases h) (h.2 u A hG)
          · rw [if_neg h5] at h
            exact (h w hσ.1).mono fun u w2 hu => hN (.inr w2) _ _ rfl (fun _ => .inr (by omega)) hu
      | inr w' =>
        obtain rfl : w' = w := hσ
        exact h.mono fun u w2 hu => hN (.inr w2) _ _ rfl (fun _ => .inl ⟨w', rfl⟩) hu
  · rw [if_neg hw] at h ⊢
    exact hN σ _ _ hσ .inl h
theorem wp5_any {Q : Exit → Act → World → Prop} (hlook : look5 ops ks = true) (hne : ∃ w, St w0 M w L0) (hQ : ∀ a w, K a w → Q .normal a w) :
    ∀ (fuel : Nat) (listed : Array Bool) (a : Act) (w : World) (σ : St5), (rem ops listed).length ≤ fuel → listed.size = ops.size → Closed ops listed → σ.is w0 M L0 w →
      ((∃ w, σ = .inr w) → ∀ p ∈ rem ops listed, ks.getD p 0 = 0 ∨ ks.getD p 0 = 3) → wp5 P ops ks w0 M L0 G K (rem ops listed) σ a → wpAny P .any ops Q fuel listed a w := by
  have done : ∀ (a : Act) (w : World) (σ : St5), σ.is w0 M L0 w → wp5 P ops ks w0 M L0 G K [] σ a → Q .normal a w := by
    intro a w σ hσ h
    cases σ with
    | inl L => exact hQ _ _ (h w hσ.1)
    | inr w' => obtain rfl : w' = w := hσ; exact hQ _ _ h
  have none_left : ∀ (listed : Array Bool), listed.size = ops.size → Region.ready .any ops listed = [] → rem ops listed = [] := by
    intro listed hl hr
    cases hrem : rem ops listed with
    | nil => rfl
    | cons i r =>
      exfalso
      have hi : i ∈ rem ops listed := by rw [hrem]; simp
      obtain ⟨hlt, hun⟩ := mem_rem.1 hi
      have ho : ops[i]? = some ops[i] := Array.getElem?_eq_getElem hlt
      have hin : i ∈ Region.ready .any ops listed := by
        refine mem_ready.2 ⟨hun, ops[i], ho, fun e he hb => ?_⟩
        have hei := (look5_edge hlook ho).2.1 e he hb
        have hsorted := rem_sorted (ops := ops) listed
        rw [hrem] at hsorted
        have hnot : e.on ∉ rem ops listed := by
          rw [hrem]
          intro hm
          rcases List.mem_cons.1 hm with h | h
          · omega
          · have := (List.pairwise_cons.1 hsorted).1 _ h; omega
        have hes : e.on < listed.size := by omega
        cases hv : listed.getD e.on true with
        | false => exact absurd (mem_rem.2 ⟨by omega, hv⟩) hnot
        | true => simpa [hes] using hv
      rw [hr] at hin
      cases hin
  intro fuel
  induction fuel with
  | zero =>
    intro listed a w σ hf hl hc hσ h3 h
    have hrem : rem ops listed = [] := List.eq_nil_of_length_eq_zero (by omega)
    refine ⟨?_, done a w σ hσ (by rw [hrem] at h; exact h)⟩
    cases hr : Region.ready .any ops listed with
    | nil => rfl
    | cons i r =>
      have hi : i ∈ Region.ready .any ops listed := by rw [hr]; simp
      obtain ⟨hun, o, ho, _⟩ := mem_ready.1 hi
      have : i ∈ rem ops listed := mem_rem.2 ⟨(Array.getElem?_eq_some_iff.1 ho).1, hun⟩
      rw [hrem] at this
      cases this
  | succ fuel ih =>
    intro listed a w σ hf hl hc hσ h3 h
    refine ⟨fun hr => done a w σ hσ (by rw [none_left listed hl hr] at h; exact h), fun i hi => ?_⟩
    obtain ⟨hun, oi, hoi, hall⟩ := mem_ready.1 hi
    have hlt : i < ops.size := (Array.getElem?_eq_some_iff.1 hoi).1
    have him : i ∈ rem ops listed := mem_rem.2 ⟨hlt, hun⟩
    obtain ⟨pre, post, hsplit⟩ := List.append_of_mem him
    have hsorted := rem_sorted (ops := ops) listed
    rw [hsplit] at hsorted
    rw [List.pairwise_append] at hsorted
    obtain ⟨hs1, hs2, hs3⟩ := hsorted
    have hpre : ∀ p ∈ pre, ∃ op, ops[p]? = some op ∧ noSel op = true ∧ oi.apart ops op = true ∧ okPair5 (ks.getD p 0) (ks.getD i 0) = true := by
      intro p hp
      have hpi : p < i := hs3 p hp i (by simp)
      have hpm : p ∈ rem ops listed := by rw [hsplit]; simp [hp]
      have hpu := (mem_rem.1 hpm).2
      have hop : ops[p]? = some ops[p] := Array.getElem?_eq_getElem (by omega)
      have hpair := (look5_pair hlook hlt hpi).1
      unfold pairOk5 at hpair
      simp only [Bool.or_eq_true] at hpair
      rcases hpair with hre | hpair
      · have := ready_reach hc hi hre
        have hps : p < listed.size := by omega
        simp [hps] at this hpu
        rw [this] at hpu
        cases hpu
      · simp only [hop, hoi, Bool.and_eq_true] at hpair
        exact ⟨ops[p], hop, (look5_edge hlook hop).1, hpair.1, hpair.2⟩
    have hki := (look5_edge hlook hoi).2.2
    have hin3 : (∃ w, σ = .inr w) → ks.getD i 0 = 0 ∨ ks.getD i 0 = 3 := fun hr => h3 hr i him
    have hfront := front5 (P := P) (K := K) (ks := ks) hoi (look5_edge hlook hoi).1 hne pre post σ a hpre (by
      cases σ with
      | inl L => exact .inl ⟨L, rfl⟩
      | inr w' =>
        right
        intro p hp
        obtain ⟨op, _, _, _, hok⟩ := hpre p hp
        have h3p := h3 ⟨w', rfl⟩ p (by rw [hsplit]; simp [hp])
        simp only [okPair5, Bool.or_eq_true, Bool.and_eq_true, beq_iff_eq, decide_eq_true_eq] at hok
        omega) (by rw [← hsplit]; exact h)
    have hset := rem_set hl hsplit
    refine step5_wpOp hoi hσ ⟨hki, hin3⟩ (fun σ' a' w' hσ' hkk hn => ?_) hfront
    refine ih _ a' w' σ' ?_ (by simp [hl]) ?_ hσ' ?_ (by rw [hset]; exact hn)
    · rw [hset]
      rw [hsplit] at hf
      simp only [List.length_append, List.length_cons] at hf ⊢
      omega
    · intro j o hj hlj e he hb
      by_cases hij : i = j
      · subst hij
        have : o = oi := Option.some.inj (hj.symm.trans hoi)
        subst this
        exact getD_set_true (hall e he hb)
      · rw [getD_set_ne false hij] at hlj
        exact getD_set_true (hc j o hj hlj e he hb)
    · rw [hset]
      intro hr p hp
      rcases hkk hr with hr' | hk3
      · exact h3 hr' p (by rw [hsplit]; rcases List.mem_append.1 hp with h | h <;> simp [h])
      · rcases List.mem_append.1 hp with hp | hp
        · obtain ⟨op, _, _, _, hok⟩ := hpre p hp
          simp only [okPair5, Bool.or_eq_true, Bool.and_eq_true, beq_iff_eq, decide_eq_true_eq] at hok
          omega
        · have hpi := (List.pairwise_cons.1 hs2).1 p hp
          have hpm : p ∈ rem ops listed := by rw [hsplit]; simp [hp]
          exact (look5_pair hlook (mem_rem.1 hpm).1 hpi).2 hk3
/-- THE REGION's RULE. -/
theorem wp_region_5 {id : Nat} {l : List Oper} {Q : Exit → Act → World → Prop} {a : Act} {w : World} (ks : List Nat) (G : Value → List Ent → Prop) (hm : P.follows .mixedOrders = true) (hlook : look5 l.toArray ks = true)
    (hO : St w0 M w L0) (h : wp5l P l.toArray w0 M L0 G (Q .normal) l ks (.inl L0) a) : (Code.region id l.toArray true).wp P Q a w := by
  refine wp_region_any hm ?_
  have e0 : rem l.toArray (Array.replicate l.toArray.size false) = List.range' 0 l.length := by
    unfold rem
    rw [List.range_eq_range', List.filter_eq_self.2]
    · simp
    · intro i hi
      have : i < l.length := by simpa using hi
      simp [this]
  have hO' : St w0 M w.drew L0 := hO.drew
  refine wp5_any (ks := ks) (G := G) (K := Q .normal) (w0 := w0) (M := M) (L0 := L0) hlook ⟨_, hO'⟩ (fun _ _ h => h) _ _ _ _ (.inl L0) ?_ (by simp) ?_ ⟨hO', List.Sublist.refl _⟩ (fun ⟨w, h⟩ => by cases h) ?_
  · rw [e0]; simp
  · intro j o hj hl
    simp at hl
    have : j < l.length := by simpa using (Array.getElem?_eq_some_iff.1 hj).1
    simp [this] at hl
  · rw [e0, wp5_eq (ks := ks) l 0 ks (fun j => by simp) (fun j => by simp)]
    exact h
/-! the steps -/
variable {rest : List Oper} {o : Oper} {n d : Nat} {F : List (Nat × Value)} {v : Value} {a : Act} {σ : St5} {L : List Ent} {R : Value → World → Prop}
theorem w5_p (hF : Fr a n F) (hg : o.guard = none) (hd : o.dst = some d) (hn : Nat.ble (d + 1) n = true) (h : ∀ w, QV P o a w v)
    (next : ∀ a, Fr a n ((d, v) :: F) → wp5l P ops w0 M L0 G K rest ks σ a) : wp5l P ops w0 M L0 G K (o :: rest) (0 :: ks) σ a := by
  show step5 P ops w0 M L0 G o 0 (wp5l P ops w0 M L0 G K rest ks) σ a
  unfold step5
  rw [if_pos (by simp [Region.wanted, hg]), if_pos (by omega)]
  exact ⟨v, fun w' _ => h w', by rw [hd]; exact next _ (hF.put (Nat.le_of_ble_eq_true hn) v)⟩
theorem w5_r (hF : Fr a n F) (hg : o.guard = none) (hd : o.dst = some d) (hn : Nat.ble (d + 1) n = true) (h : ∀ w, St w0 M w L0 → QV P o a w v)
    (next : ∀ a, Fr a n ((d, v) :: F) → wp5l P ops w0 M L0 G K rest ks σ a) : wp5l P ops w0 M L0 G K (o :: rest) (1 :: ks) σ a := by
  show step5 P ops w0 M L0 G o 1 (wp5l P ops w0 M L0 G K rest ks) σ a
  unfold step5
  rw [if_pos (by simp [Region.wanted, hg]), if_pos (by omega)]
  exact ⟨v, fun w' hc => h w' (hc.resolve_left (by omega)), by rw [hd]; exact next _ (hF.put (Nat.le_of_ble_eq_true hn) v)⟩
theorem w5_m {mk : Nat → Value} {obj : Obj} (hF : Fr a n F) (hg : o.guard = none) (hd : o.dst = some d) (hn : Nat.ble (d + 1) n = true) (h : mkRun P o a mk obj)
    (next : ∀ b a, Fr a n ((d, mk b) :: F) → wp5l P ops w0 M L0 G K rest ks (.inl (.mp b obj :: L)) a) : wp5l P ops w0 M L0 G K (o :: rest) (4 :: ks) (.inl L) a := by
  show step5 P ops w0 M L0 G o 4 (wp5l P ops w0 M L0 G K rest ks) (.inl L) a
  unfold step5
  rw [if_pos (by simp [Region.wanted, hg]), if_neg (by omega)]
  simp only [if_true]
  exact ⟨mk, obj, h, fun b => by rw [hd]; exact next b _ (hF.put (Nat.le_of_ble_eq_true hn) _)⟩
/-- a call that only makes new blocks -/
theorem w5_c (hF : Fr a n F) (hg : o.guard = none) (hd : o.dst = some d) (hn : Nat.ble (d + 1) n = true) (h : ∀ w, St w0 M w L0 → Eff P o a w (fun u w2 => ∃ A, G u A ∧ St w [] w2 A))
    (next : ∀ u A a, G u A → Fr a n ((d, u) :: F) → wp5l P ops w0 M L0 G K rest ks (.inl (A ++ L)) a) : wp5l P ops w0 M L0 G K (o :: rest) (5 :: ks) (.inl L) a := by
  show step5 P ops w0 M L0 G o 5 (wp5l P ops w0 M L0 G K rest ks) (.inl L) a
  unfold step5
  rw [if_pos (by simp [Region.wanted, hg]), if_neg (by omega)]
  simp only [show ¬ (5 : Nat) = 4 by omega, if_false, if_true]
  exact ⟨h, fun u A hG => by rw [hd]; exact next u A _ hG (hF.put (Nat.le_of_ble_eq_true hn) _)⟩
/-- the first that turns the world otherwise: from here on the world is known -/
theorem w5_w (h : ∀ w, St w0 M w L → wp5l P ops w0 M L0 G K (o :: rest) (3 :: ks) (.inr w) a) (hg : o.guard = none) : wp5l P ops w0 M L0 G K (o :: rest) (3 :: ks) (.inl L) a := by
  show step5 P ops w0 M L0 G o 3 (wp5l P ops w0 M L0 G K rest ks) (.inl L) a
  unfold step5
  rw [if_pos (by simp [Region.wanted, hg]), if_neg (by omega)]
  simp only [show ¬ (3 : Nat) = 4 by omega, show ¬ (3 : Nat) = 5 by omega, if_false]
  intro w hw
  have := h w hw
  have h' : step5 P ops w0 M L0 G o 3 (wp5l P ops w0 M L0 G K rest ks) (.inr w) a := this
  unfold step5 at h'
  rw [if_pos (by simp [Region.wanted, hg]), if_neg (by omega)] at h'
  exact h'
theorem w5_f {w : World} (hF : Fr a n F) (hg : o.guard = none) (hd : o.dst = some d) (hn : Nat.ble (d + 1) n = true) (h : Eff P o a w R)
    (next : ∀ a v w, R v w → Fr a n ((d, v) :: F) → wp5l P ops w0 M L0 G K rest ks (.inr w) a) : wp5l P ops w0 M L0 G K (o :: rest) (3 :: ks) (.inr w) a := by
  show step5 P ops w0 M L0 G o 3 (wp5l P ops w0 M L0 G K rest ks) (.inr w) a
  unfold step5
  rw [if_pos (by simp [Region.wanted, hg]), if_neg (by omega)]
  exact h.mono fun v w' hR => by rw [hd]; exact next _ _ _ hR (hF.put (Nat.le_of_ble_eq_true hn) v)
theorem w5_s {w : World} (hF : Fr a n F) (hg : o.guard = none) (hd : o.dst = none) (h : Eff P o a w R)
    (next : ∀ a v w, R v w → Fr a n F → wp5l P ops w0 M L0 G K rest ks (.inr w) a) : wp5l P ops w0 M L0 G K (o :: rest) (3 :: ks) (.inr w) a := by
  show step5 P ops w0 M L0 G o 3 (wp5l P ops w0 M L0 G K rest ks) (.inr w) a
  unfold step5
  rw [if_pos (by simp [Region.wanted, hg]), if_neg (by omega)]
  exact h.mono fun v w' hR => by rw [hd]; exact next _ _ _ hR (hF.putNone v)
theorem w5_nil (h : ∀ w, St w0 M w L → K a w) : wp5l P ops w0 M L0 G K [] ks (.inl L) a := h
theorem w5_nilw {w : World} (h : K a w) : wp5l P ops w0 M L0 G K [] ks (.inr w) a := h
/-! what is known of a new block -/
end
end Go.Proofs.Ytfkmlcgccffmnaa
namespace Go.Proofs.Ytfkmlcgccffmnaa
open Go Go.ChangeMaps
set_option linter.unusedVariables false
def nilEnt (v : Value) : MapEntry := ⟨.pointer none, v, 0⟩
section
variable {P : Program} {w w0 w' : World} {t kt et e : TypeId} {b n i : Nat} {M : List Nat} {L : List Ent} {o : Oper} {a : Act} {x y u : Operand} {v z : Value} {p : Option Addr} {ad : Addr}
theorem setB_grown {es : Array MapEntry} {ck : Nat} (hb : w.heap[b]? = some (.map es ck)) (ob : Obj) : w.grownBy (setBlock w b ob) (some b) :=
  ⟨rfl, rfl, rfl, by simp [setBlock], fun i _ hi => heap_setBlock_other hb _ (fun e => hi (by rw [e]))⟩
theorem check_ptr (hk : P.underlying kt = some (.pointer e)) (em : Bool) (n : Nat) : (Instr.checkKey em (n + 1) kt (.pointer p)).run P w = .ok () w := by
  unfold Instr.checkKey
  simp [run_underlying hk]
theorem check_ptr' (hk : P.underlying kt = some (.pointer e)) (em : Bool) : (Instr.checkKey em 10000 kt (.pointer p)).run P w = .ok () w := check_ptr hk em 9999
theorem e_insP (hO : St w0 M w L) (hi : L[i]? = some (.mp b (.map #[] 0))) (ht : P.underlying t = some (.map kt et)) (hk : P.underlying kt = some (.pointer e)) (ho : o.op = .insert t x y u) (hx : a.eval x = .map (some b)) (hy : a.eval y = .pointer none) (hu : a.eval u = v) :
    Eff P o a w (fun r w' => r = undef ∧ St w0 M w' (L.set i (.mp b (.map #[nilEnt v] 1)))) := by
  have hb : w.heap[b]? = some (.map #[] 0) := hO.ok hi
  have hrun : (Instr.mapUpdate t (.map (some b)) (.pointer none) v).run P w = .ok () (setBlock w b (.map #[nilEnt v] 1)) := by
    simp [Instr.mapUpdate, run_underlying ht, run_underlying hk, MapKept.run_getObj_map hb, check_ptr' hk, Instr.findKey, Instr.findNow, MapKept.run_setObj_map _ hb, Result.andThen, setBlock, nilEnt]
  refine Eff.skip (w' := setBlock w b (.map #[nilEnt v] 1)) ?_ ⟨rfl, hO.turnG hi (setB_grown hb _) rfl (heap_setBlock_same hb _) rfl⟩
  simp [execOp, ho, hx, hy, hu, hrun]
theorem find_ptr (hk : P.underlying kt = some (.pointer e)) : (Instr.findKey kt (.pointer (some ad)) [nilEnt v]).run P w = .ok none w := by
  simp [Instr.findKey, Instr.findNow, Instr.sameNow, run_underlying hk, Instr.findAsking, nilEnt, run_equal_ptr hk]
theorem q_lookP (hO : St w0 M w L) (hi : L[i]? = some (.mp b (.map #[nilEnt v] 1))) (ht : P.underlying t = some (.map kt et)) (hk : P.underlying kt = some (.pointer e)) (hz : (zeroValue et).run P w = .ok z w) (ho : o.op = .lookup t x y false) (hx : a.eval x = .map (some b)) (hy : a.eval y = ptr ad) : QV P o a w z := by
  have hb : w.heap[b]? = some (.map #[nilEnt v] 1) := hO.ok hi
  have hf := find_ptr (w := w) (v := v) (ad := ad) hk
  have hrun : (Instr.lookup t (.map (some b)) (ptr ad) false).run P w = .ok z w := by
    simp [Instr.lookup, run_underlying ht, MapKept.run_getObj_map hb, check_ptr' hk, ptr, hf, hz, Result.andThen]
  simp [QV, execOp, ho, hx, hy, hrun]
theorem e_updP (hO : St w0 M w L) (hi : L[i]? = some (.mp b (.map #[nilEnt v] 1))) (ht : P.underlying t = some (.map kt et)) (hk : P.underlying kt = some (.pointer e)) (ho : o.op = .mapUpdate t x y u) (hx : a.eval x = .map (some b)) (hy : a.eval y = ptr ad) (hu : a.eval u = z) :
    Eff P o a w (fun r w' => r = undef ∧ St w0 M w' (L.set i (.mp b (.map #[nilEnt v, ⟨ptr ad, z, 1⟩] 2)))) := by
  have hb : w.heap[b]? = some (.map #[nilEnt v] 1) := hO.ok hi
  have hf := find_ptr (w := w) (v := v) (ad := ad) hk
  have hrun : (Instr.mapUpdate t (.map (some b)) (ptr ad) z).run P w = .ok () (setBlock w b (.map #[nilEnt v, ⟨ptr ad, z, 1⟩] 2)) := by
    simp [Instr.mapUpdate, run_underlying ht, MapKept.run_getObj_map hb, check_ptr' hk, ptr, hf, MapKept.run_setObj_map _ hb, Result.andThen, setBlock]
  refine Eff.skip (w' := setBlock w b (.map #[nilEnt v, ⟨ptr ad, z, 1⟩] 2)) ?_ ⟨rfl, hO.turnG hi (setB_grown hb _) rfl (heap_setBlock_same hb _) rfl⟩
  simp [execOp, ho, hx, hy, hu, hrun]
end
end Go.Proofs.Ytfkmlcgccffmnaa
