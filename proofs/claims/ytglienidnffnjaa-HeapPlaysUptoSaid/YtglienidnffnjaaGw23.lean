/- GW23: maps that the program has made itself: what each key leads to; a map of pointers, entry by entry. -/
import Derived.Test.YtglienidnffnjaaGw22
import Derived.Maps.OwnSet
import Derived.Maps.Views
namespace Go.Proofs.Ytglienidnffnjaa
open Go Go.Maps Go.WideAt
set_option linter.unusedVariables false
def heldR : Value → Option (DataW Value × List MemPlace) := fun v => some (.held v, [])
def MapIs (P : Program) (w : World) (k : TypeId) (b n : Nat) (f : Lit → Option Value) : Prop :=
  ∃ D : DataW Value, w.ownsMap P k heldR b n D ∧ ∀ kl z, D.atKey kl (.held z) = .held ((f kl).getD z)
open Classical in
noncomputable def putF (f : Lit → Option Value) (kl : Lit) (v : Value) : Lit → Option Value := fun x => if x = kl then some v else f x
theorem MapIs.keep {P : Program} {w w' : World} {k : TypeId} {b n : Nat} {f : Lit → Option Value} (h : MapIs P w k b n f) (hk : w'.heap[b]? = w.heap[b]?) : MapIs P w' k b n f := by
  obtain ⟨D, ⟨es, clock, hb, rest⟩, hf⟩ := h
  exact ⟨D, ⟨es, clock, hk.trans hb, rest⟩, hf⟩
theorem MapIs.lt {P : Program} {w : World} {k : TypeId} {b n : Nat} {f : Lit → Option Value} (h : MapIs P w k b n f) : b < w.heap.size := by
  obtain ⟨D, h, _⟩ := h; exact h.lt
def Ent.mapE (P : Program) (k : TypeId) (b n : Nat) (f : Lit → Option Value) : Ent :=
  .gp [b] (fun w => MapIs P w k b n f) (fun _ _ h hk => h.keep (hk b (List.mem_singleton.2 rfl))) (fun _ h b' hb => by obtain rfl := List.mem_singleton.1 hb; exact h.lt)
theorem two_false : (Value.bool true) ≠ .bool false := by simp
theorem held_none {f : Option Value} (h : ∀ z, (DataW.held (H := Value) z) = .held (f.getD z)) : f = none := by
  cases f with
  | none => rfl
  | some u =>
    have h1 : Value.bool true = u := by simpa using h (.bool true)
    have h2 : Value.bool false = u := by simpa using h (.bool false)
    exact absurd (h1.trans h2.symm) two_false
theorem held_some {f : Option Value} {v : Value} (h : ∀ z, (DataW.held (H := Value) v) = .held (f.getD z)) : f = some v := by
  cases f with
  | none =>
    have h1 : v = Value.bool true := by simpa using h (.bool true)
    have h2 : v = Value.bool false := by simpa using h (.bool false)
    exact absurd (h1.symm.trans h2) two_false
  | some u =>
    have h1 : v = u := by simpa using h (.bool true)
    rw [h1]
section
variable {P : Program} {w w0 w' : World} {k e t : TypeId} {b n : Nat} {f : Lit → Option Value} {M : List Nat} {L : List Ent} {o : Oper} {a : Act} {x y : Operand} {key z v : Value} {kl : Lit}
theorem MapIs.look (c : Bool) (h : MapIs P w k b n f) (K : Keyed P k) (ht : P.underlying t = some (.map k e)) (hz : (zeroValue e).run P w = .ok z w) (hkey : keyOf P k key = some kl) :
    (Instr.lookup t (.map (some b)) key c).run P w = .ok (if c then .tuple #[(f kl).getD z, .bool (f kl).isSome] else (f kl).getD z) w := by
  obtain ⟨D, ⟨es, clock, hb, F, _, rfl⟩, hf⟩ := h
  rcases Maps.fit_look c K ht hz hb F hkey with ⟨hrun, _, hat⟩ | ⟨e0, y, _, _, hrun, hRv, hat, _⟩
  · have : f kl = none := held_none fun z => (hat _).symm.trans (hf kl z)
    rw [hrun, this]; rfl
  · cases hRv
    have : f kl = some e0.val := held_some fun z => (hat _).symm.trans (hf kl z)
    rw [hrun, this]; rfl
theorem MapIs.put (h : MapIs P w k b n f) (K : Keyed P k) (ht : P.underlying t = some (.map k e)) (hn : n < maxLen) (hkey : keyOf P k key = some kl) :
    ∃ w', (Instr.mapUpdate t (.map (some b)) key v).run P w = .ok () w' ∧ MapIs P w' k b (n + 1) (putF f kl v) ∧ w.grownBy w' (some b) := by
  obtain ⟨D, hD, hf⟩ := h
  obtain ⟨w', h1, h2, h3⟩ := hD.update K ht hn (val := v) (d := .held v) (ps := []) hkey rfl
  refine ⟨w', h1, ⟨_, h2, fun kl' z => ?_⟩, h3⟩
  unfold putF
  by_cases hk : kl' = kl
  · subst hk
    rw [if_pos rfl, atKey_put_same hD.isMap (K.key hkey)]; rfl
  · rw [if_neg hk, atKey_put_other hk, hf]
theorem St.turnG {e e' : Ent} {i : Nat} (hO : St w0 M w L) (hi : L[i]? = some e) (hg : w.grownBy w' (some b)) (hb : e.bs = [b]) (he : e'.ok w') (hb' : e'.bs = [b]) : St w0 M w' (L.set i e') :=
  ((hO.pull i hi).turns hg.os hg.tape hg.output hg.size (fun b' hlt hn => hg.block b' hlt (fun h => hn (by rw [hb]; cases h; exact List.mem_singleton.2 rfl))) he (by rw [hb']; simp) (fun x hx => .inl (by rw [hb]; rwa [hb'] at hx))).perm (set_perm L i _ _ hi)
theorem q_lookup {i : Nat} (hO : St w0 M w L) (hi : L[i]? = some (Ent.mapE P k b n f)) (K : Keyed P k) (ht : P.underlying t = some (.map k e)) (hz : (zeroValue e).run P w = .ok z w) (ho : o.op = .lookup t x y false) (hx : a.eval x = .map (some b)) (hy : a.eval y = key) (hkey : keyOf P k key = some kl) : QV P o a w ((f kl).getD z) := by
  have hrun := MapIs.look false (hO.ok hi : MapIs P w k b n f) K ht hz hkey
  simp [QV, execOp, ho, hx, hy, hrun]
theorem q_lookOk {i : Nat} (hO : St w0 M w L) (hi : L[i]? = some (Ent.mapE P k b n f)) (K : Keyed P k) (ht : P.underlying t = some (.map k e)) (hz : (zeroValue e).run P w = .ok z w) (ho : o.op = .lookup t x y true) (hx : a.eval x = .map (some b)) (hy : a.eval y = key) (hkey : keyOf P k key = some kl) : QV P o a w (.tuple #[(f kl).getD z, .bool (f kl).isSome]) := by
  have hrun := MapIs.look true (hO.ok hi : MapIs P w k b n f) K ht hz hkey
  simp [QV, execOp, ho, hx, hy, hrun]
theorem e_mapPut {i : Nat} {u : Operand} (hO : St w0 M w L) (hi : L[i]? = some (Ent.mapE P k b n f)) (K : Keyed P k) (ht : P.underlying t = some (.map k e)) (hn : n < maxLen) (ho : o.op = .mapUpdate t x y u) (hx : a.eval x = .map (some b)) (hy : a.eval y = key) (hu : a.eval u = v) (hkey : keyOf P k key = some kl) :
    Eff P o a w (fun u w' => u = undef ∧ St w0 M w' (L.set i (Ent.mapE P k b (n + 1) (putF f kl v)))) := by
  obtain ⟨w', hrun, h2, h3⟩ := (hO.ok hi : MapIs P w k b n f).put (v := v) K ht hn hkey
  refine Eff.skip (w' := w') ?_ ⟨rfl, hO.turnG hi h3 rfl h2 rfl⟩
  simp [execOp, ho, hx, hy, hu, hrun]
theorem map_made (w : World) : MapIs P (w.alloc (.map #[] 0)) k w.heap.size 0 (fun _ => none) := ⟨_, w.ownsMap_made P k heldR, fun _ _ => rfl⟩
theorem St.mapNew (hO : St w0 M w L) : St w0 M (w.alloc (.map #[] 0)) (Ent.mapE P k w.heap.size 0 (fun _ => none) :: L) := by
  have h1 := hO.newMp (.map #[] 0)
  refine h1.turns (e' := Ent.mapE P k w.heap.size 0 (fun _ => none)) rfl rfl rfl (Nat.le_refl _) (fun _ _ _ => rfl) (map_made w) ?_ ?_
  · show ([w.heap.size] : List Nat).Nodup; simp
  · intro b hb; exact .inl hb
theorem e_makeMap (hO : St w0 M w L) (k : TypeId) (ho : o.op = .makeMap t none) : Eff P o a w (fun u w' => ∃ b, u = .map (some b) ∧ St w0 M w' (Ent.mapE P k b 0 (fun _ => none) :: L)) := by
  refine Eff.value (w' := w.alloc (.map #[] 0)) (v := .map (some w.heap.size)) ?_ ⟨_, rfl, hO.mapNew⟩
  simp [execOp, ho, Instr.makeMap]
theorem e_makeMapO (hO : St w0 M w L) (ho : o.op = .makeMap t none) : Eff P o a w (fun u w' => ∃ b, u = .map (some b) ∧ St w0 M w' (.mp b (.map #[] 0) :: L)) := by
  refine Eff.value (w' := w.alloc (.map #[] 0)) (v := .map (some w.heap.size)) ?_ ⟨_, rfl, hO.newMp _⟩
  simp [execOp, ho, Instr.makeMap]
end
end Go.Proofs.Ytglienidnffnjaa
