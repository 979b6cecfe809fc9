/- GW24: queues: own slices whose front has been cut off; append to them. -/
import Derived.Test.YtglienidnffnjaaGw23
namespace Go.Proofs.Ytglienidnffnjaa
open Go
set_option linter.unusedVariables false
def OwnQ (w : World) (e : TypeId) (size : Nat) (v : Value) (n : Nat) (xs : List Value) : Prop :=
  xs.length = n * size ∧ ((v = .slice none 0 0 ∧ n = 0) ∨ ∃ g off cap cur, v = .slice (some ⟨g, off, none⟩) n cap ∧ w.heap[g]? = some (.cells cur e (0, 0)) ∧ n ≤ cap ∧ cap ≤ maxLen ∧ off + cap * size ≤ cur.size ∧ (cur.toList.drop off).take (n * size) = xs)
section
variable {P : Program} {w w0 w' : World} {e t : TypeId} {size n : Nat} {v : Value} {xs : List Value} {M : List Nat} {L : List Ent} {o : Oper} {a : Act} {x y : Operand}
theorem OwnQ.of (h : w.ownsRow 0 e size v n xs) : OwnQ w e size v n xs := by
  refine ⟨h.1, ?_⟩
  rcases h.2 with h2 | ⟨g, cap, cur, rfl, _, hg, hnc, hcm, hcs, htake⟩
  · exact .inl h2
  · exact .inr ⟨g, 0, cap, cur, rfl, hg, hnc, hcm, by omega, by simpa using htake⟩
theorem OwnQ.keep (h : OwnQ w e size v n xs) (hk : ∀ b ∈ v.ownBlock.toList, w'.heap[b]? = w.heap[b]?) : OwnQ w' e size v n xs := by
  refine ⟨h.1, ?_⟩
  rcases h.2 with h2 | ⟨g, off, cap, cur, rfl, hg, rest⟩
  · exact .inl h2
  · exact .inr ⟨g, off, cap, cur, rfl, (hk g (by simp [Value.ownBlock])).trans hg, rest⟩
theorem OwnQ.lt (h : OwnQ w e size v n xs) : ∀ b ∈ v.ownBlock.toList, b < w.heap.size := by
  intro b hb
  rcases h.2 with ⟨rfl, _⟩ | ⟨g, off, cap, cur, rfl, hg, _⟩
  · simp [Value.ownBlock] at hb
  · obtain rfl : b = g := by simpa [Value.ownBlock] using hb
    exact (Array.getElem?_eq_some_iff.1 hg).1
def Ent.qu (v : Value) (e size n : Nat) (xs : List Value) : Ent :=
  .gp v.ownBlock.toList (fun w => OwnQ w e size v n xs) (fun _ _ h hk => h.keep hk) (fun _ h => h.lt)
def quT {α : Type} (v : Value) (e : Nat) (E : Enc α) (l : List α) : Ent := Ent.qu v e E.size l.length (flat E l)
theorem OwnQ.rd (h : OwnQ w e size v n xs) (hs : 0 < size) : Rd w [] v size n xs := by
  refine ⟨h.1, ?_⟩
  rcases h.2 with ⟨rfl, rfl⟩ | ⟨g, off, cap, cur, rfl, hg, hnc, hcm, hcs, ht⟩
  · exact ⟨none, 0, rfl, Nat.le_refl _, by decide, fun h => absurd h (by omega)⟩
  · refine ⟨_, cap, rfl, hnc, hcm, fun h0 => ⟨_, rfl, by simp, (Array.getElem?_eq_some_iff.1 hg).1, fun j u hj => ?_⟩⟩
    have hjl : j < n * size := by rw [← h.1]; exact (List.getElem?_eq_some_iff.1 hj).1
    have e1 : (⟨g, off, none⟩ : Addr).add j = ⟨g, off + j, none⟩ := by simp [Addr.add]
    rw [e1, cell_of_row w g (off + j) cur e (0, 0) hg]
    rw [← ht, List.getElem?_take, if_pos hjl, List.getElem?_drop] at hj
    simpa using hj
theorem St.rdQ {α : Type} {E : Enc α} {l : List α} {e : Nat} (hO : St w0 M w L) (i : Nat) (hi : L[i]? = some (quT v e E l)) (hs : 0 < E.size) : RdT w [] v E l := (hO.ok hi : OwnQ w e E.size v l.length (flat E l)).rd hs
theorem OwnQ.drop (h : OwnQ w e size v n xs) {j : Nat} (hj : j ≤ n) : OwnQ w e size (dropV v j size) (n - j) (xs.drop (j * size)) := by
  refine ⟨by rw [List.length_drop, h.1, Nat.sub_mul], ?_⟩
  rcases h.2 with ⟨rfl, rfl⟩ | ⟨g, off, cap, cur, rfl, hg, hnc, hcm, hcs, ht⟩
  · obtain rfl : j = 0 := by omega
    exact .inl ⟨by simp [dropV], rfl⟩
  · right
    by_cases hc : cap = j
    · refine ⟨g, off, cap - j, cur, ?_, hg, by omega, by omega, ?_, ?_⟩
      · simp [dropV, hc]
      · rw [hc, Nat.sub_self, Nat.zero_mul]; exact Nat.le_trans (Nat.le_add_right _ _) hcs
      · have : n - j = 0 := by omega
        rw [this, Nat.zero_mul, List.take_zero]
        have hl : xs.length ≤ j * size := by rw [h.1]; exact Nat.mul_le_mul_right _ (by omega)
        exact (List.drop_of_length_le hl).symm
    · refine ⟨g, off + j * size, cap - j, cur, ?_, hg, by omega, by omega, ?_, ?_⟩
      · simp [dropV, hc, Addr.add]
      · rw [Nat.sub_mul]
        have : j * size ≤ cap * size := Nat.mul_le_mul_right _ (by omega)
        omega
      · rw [← ht, List.drop_take, List.drop_drop, Nat.sub_mul]
theorem cell_1 (g off j : Nat) : (⟨g, off, none⟩ : Addr).add j = ⟨g, off + j, none⟩ := by simp [Addr.add]
theorem OwnQ.append {ty : TypeId} {i : TypeInfo} {z : Value} {bytes : Nat} (ht : P.underlying t = some (.slice e)) (hi : P.info? e = some i) (hz : i.zero = some z) (hsize : i.size = size) (hby : i.bytes = bytes) (hzs : z.cells.size = size) (hsz : 0 < size)
    (h : OwnQ w e size v n xs) (ad : Addr) (m c : Nat) (news : List Value) (hl : news.length = m * size) (hnews : ∀ j u, news[j]? = some u → w.cell? (ad.add j) = some u) (h1 : ∀ u ∈ news, u.oneCell' = true)
    (h63 : n + m ≤ maxLen) (hbytes : (n + m) * bytes ≤ 140737488355328) :
    ∃ v' w', (Builtin.append_ #[t, t] ty #[v, .slice (some ad) m c]).run P w = .ok v' w' ∧ OwnQ w' e size v' (n + m) (xs ++ news) ∧ w.grownBy w' v.ownBlock ∧ (v'.ownBlock = v.ownBlock ∨ v'.ownBlock = some w.heap.size) := by
  rcases h.2 with ⟨rfl, rfl⟩ | ⟨g, off, cap, cur, rfl, hg, hnc, hcm, hcs, htake⟩
  · have hx : xs = [] := List.eq_nil_of_length_eq_zero (by simpa using h.1)
    subst hx
    obtain ⟨v', w', hr, h2, h3, _, h5⟩ := run_append_own_at (P := P) w 0 t ty e i z size bytes ht hi hz hsize hby hzs hsz (.slice none 0 0) 0 [] (World.ownsRow_nil w 0 e size) ad m c news hl hnews h1 h63 hbytes (Nat.zero_le _)
    exact ⟨v', w', hr, .of h2, h3, h5⟩
  · subst hsize hby
    have hlen : (xs ++ news).length = (n + m) * i.size := by rw [List.length_append, h.1, hl, Nat.add_mul]
    have hsmall : n + m ≤ 9223372036854775807 := by simp only [maxLen] at h63; omega
    by_cases hroom : n + m ≤ cap
    · have hnm : (n + m) * i.size ≤ cap * i.size := Nat.mul_le_mul_right _ hroom
      have hfit : off + n * i.size + news.length ≤ cur.size := by rw [hl, Nat.add_assoc, ← Nat.add_mul]; omega
      have hf := run_firstCells_some (P := P) w i.size m ad m c news hl hnews
      have hst := run_storeCells_at P g (off + n * i.size) e news 0 cur w hg (by simpa using hfit) h1
      simp only [Nat.add_zero] at hst
      have hr : (Builtin.append_ #[t, t] ty #[.slice (some ⟨g, off, none⟩) n cap, .slice (some ad) m c]).run P w = .ok (.slice (some ⟨g, off, none⟩) (n + m) cap) (w.setRow g (cur.toList.take (off + n * i.size) ++ news ++ cur.toList.drop (off + n * i.size + news.length)).toArray) := by
        simp [Builtin.append_, run_underlying ht, sizeOf, typeInfo, hi, Builtin.lenOf, hroom, hf, cell_1, hst]
      refine ⟨_, _, hr, ⟨hlen, .inr ⟨g, off, cap, _, rfl, setRow_heap w g cur _ e _ hg, hroom, hcm, ?_, ?_⟩⟩, ⟨rfl, rfl, rfl, by simp, fun k _ hk => setRow_other w g k _ (fun e => hk (by simp [Value.ownBlock, e]))⟩, Or.inl rfl⟩
      · simp only [List.size_toArray, List.length_append, List.length_take, List.length_drop, Array.length_toList]
        omega
      · have ho : off ≤ (cur.toList.take (off + n * i.size)).length := by simp; omega
        simp only [List.append_assoc]
        rw [List.drop_append_of_le_length ho, List.drop_take, Nat.add_sub_cancel_left, htake, ← List.append_assoc, ← hlen]
        exact List.take_left
    · have holds : ∀ j u, xs[j]? = some u → w.cell? ((⟨g, off, none⟩ : Addr).add j) = some u := by
        intro j u hj
        have hjl : j < n * i.size := by rw [← h.1]; exact (List.getElem?_eq_some_iff.1 hj).1
        rw [cell_1, cell_of_row w g (off + j) cur e (0, 0) hg]
        rw [← htake, List.getElem?_take, if_pos hjl, List.getElem?_drop] at hj
        simpa using hj
      have hr := run_append_grow (P := P) w t ty e i z ht hi hz ⟨g, off, none⟩ n cap xs h.1 holds ad m c news hl hnews (by omega) (by omega) (growslice_fits (by omega) hbytes)
      refine ⟨_, _, hr, ⟨hlen, .inr ⟨w.heap.size, 0, _, _, rfl, heap_alloc_new w.drew _, grownCap_ge w (n + m) cap e, grownCap_le_maxLen w (n + m) cap e h63, ?_, ?_⟩⟩, ⟨rfl, rfl, rfl, by simp, fun k hk _ => heap_alloc_old w.drew _ hk⟩, Or.inr rfl⟩
      · simp only [Array.size_append, List.size_toArray, size_zeroCells, hzs, h.1, hl, ← Nat.add_mul]
        have := grownCap_ge w (n + m) cap e
        rw [Nat.zero_add]
        exact Nat.mul_le_mul_right _ (by omega)
      · simp only [Array.toList_append, List.append_assoc, List.drop_zero]
        rw [← List.append_assoc, ← hlen]
        exact List.take_left
theorem e_appendQ {α : Type} {E : Enc α} {l r : List α} {inf : TypeInfo} {zv : Value} {bytes : Nat} {v2 : Value} {i : Nat} {M2 : List Nat} (hO : St w0 M w L) (hi : L[i]? = some (quT v e E l)) (hR : Rd w M2 v2 E.size r.length (flat E r))
    (ht : P.underlying t = some (.slice e)) (hinf : P.info? e = some inf) (hz : inf.zero = some zv) (hsize : inf.size = E.size) (hby : inf.bytes = bytes) (hzs : zv.cells.size = E.size) (hsz : Nat.ble 1 E.size = true) (hr0 : 0 < r.length)
    (ho : o.op = .call { callee := .builtin .append, args := #[x, y], argTypes := #[t, t] }) (hx : a.eval x = v) (hy : a.eval y = v2) (hb : (l.length + r.length) * bytes ≤ 140737488355328) (hm : l.length + r.length ≤ 9223372036854775807) :
    Eff P o a w (fun u w' => St w0 M w' (L.set i (quT u e E (l ++ r)))) := by
  have hown : OwnQ w e E.size v l.length (flat E l) := hO.ok hi
  obtain ⟨hlen, A, cap, rfl, _, _, h0⟩ := hR
  obtain ⟨ad, rfl, _, _, hcell⟩ := h0 hr0
  obtain ⟨v', w', hrun, h2, h3, h5⟩ := hown.append (P := P) (t := t) (ty := o.type) ht hinf hz hsize hby hzs (Nat.le_of_ble_eq_true hsz) ad r.length cap (flat E r) hlen hcell (flat_oneCell E r) (by unfold maxLen; exact hm) hb
  refine Eff.value (w' := w') (v := v') ?_ ?_
  · simp only [execOp, ho, resolve, invoke, builtin, Sem.run_bind, Sem.run_pure, Result.andThen_ok, List.map_toArray, List.map_cons, List.map_nil, hx, hy, hrun]
  · have hq : OwnQ w' e E.size v' (l ++ r).length (flat E (l ++ r)) := by rw [List.length_append, flat_app]; exact h2
    refine ((hO.pull i hi).turns (e' := quT v' e E (l ++ r)) h3.os h3.tape h3.output h3.size (fun b hlt hn => h3.block b hlt fun hb => hn ?_) hq ?_ fun b hb => ?_).perm (set_perm L i _ _ hi)
    · show b ∈ v.ownBlock.toList
      rw [← hb]; simp
    · show v'.ownBlock.toList.Nodup
      cases v'.ownBlock <;> simp
    · have hb : b ∈ v'.ownBlock.toList := hb
      have hb := Option.mem_toList.1 hb
      rcases h5 with h5 | h5
      · left; show b ∈ v.ownBlock.toList; rw [← h5]; exact Option.mem_toList.2 hb
      · right; rw [h5] at hb; cases hb; exact Nat.le_refl _
theorem St.toQ {α : Type} {E : Enc α} {l : List α} {e : Nat} {i : Nat} (hO : St w0 M w L) (hi : L[i]? = some (slT v e E l)) : St w0 M w (L.set i (quT v e E l)) := by
  refine ((hO.pull i hi).conv (e' := quT v e E l) ?_ fun h => OwnQ.of h).perm (set_perm L i _ _ hi)
  show (v.ownBlock.toList).Perm (Ent.bs (.sl v e E.size l.length (flat E l)))
  exact List.Perm.refl _
theorem dropV_own {j s : Nat} {A : Option Addr} {n c : Nat} : (dropV (.slice A n c) j s).ownBlock = (Value.slice A n c).ownBlock := by
  unfold dropV
  cases A with
  | none => simp [Value.ownBlock]
  | some ad =>
    simp only [Option.map_some]
    split
    · rfl
    · simp [Value.ownBlock, block_add]
theorem St.dropQ {α : Type} {E : Enc α} {l : List α} {e i : Nat} (hO : St w0 M w L) (hi : L[i]? = some (quT v e E l)) {j : Nat} (hj : j ≤ l.length) : St w0 M w (L.set i (quT (dropV v j E.size) e E (l.drop j))) := by
  have hown : OwnQ w e E.size v l.length (flat E l) := hO.ok hi
  have hv : ∃ A n c, v = .slice A n c := by
    rcases hown.2 with ⟨rfl, _⟩ | ⟨g, off, cap, cur, rfl, _⟩
    · exact ⟨_, _, _, rfl⟩
    · exact ⟨_, _, _, rfl⟩
  obtain ⟨A, n, c, rfl⟩ := hv
  refine ((hO.pull i hi).conv (e' := quT (dropV (.slice A n c) j E.size) e E (l.drop j)) ?_ fun h => ?_).perm (set_perm L i _ _ hi)
  · show ((dropV (.slice A n c) j E.size).ownBlock.toList).Perm ((Value.slice A n c).ownBlock.toList)
    rw [dropV_own]
  · show OwnQ w e E.size _ (l.drop j).length (flat E (l.drop j))
    rw [List.length_drop, ← flat_drop]
    exact OwnQ.drop h hj
end
end Go.Proofs.Ytglienidnffnjaa
