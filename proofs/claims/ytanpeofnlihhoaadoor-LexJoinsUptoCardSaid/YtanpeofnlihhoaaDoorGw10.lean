/- GW10: rounds of a range over a function; what stands behind one. -/
import Derived.Test.YtanpeofnlihhoaaDoorGw9
import Derived.RangeFuncFrom
import Derived.RangeFuncLeaves
import Derived.OwnWalkIn
import Derived.RangeFuncCalls
namespace Go.Proofs.YtanpeofnlihhoaaDoor
open Go
/-! ### Operations in a round -/
def noDefer (ops : Array Oper) : Bool := ops.all fun o => match o.op with | .defer _ => false | _ => true
theorem noDefer_at {ops : Array Oper} (h : noDefer ops = true) {i : Nat} {o : Oper} (ho : ops[i]? = some o) : ∀ c, o.op ≠ .defer c := by
  intro c hc
  have := Array.all_eq_true'.1 h o (Array.mem_of_getElem? ho)
  rw [hc] at this
  cases this
section
variable {P : Program} {a : Act} {w : World} {l n : Nat}
theorem calls_round {f : Nat} {args : Array Value} {R : Ending → World → Prop} {m : Nat} (h : Calls P f args w R) : CallsIn (Fence.wide.inRound l) m P f args w R := CallsIn.inRound l (callsIn_wide.2 h)
theorem rows_round {row : String} {args : Array Value} {R : Value → World → Prop} {m : Nat} (h : Rows P row args w R) : RowsIn (Fence.wide.inRound l) m P row args w R :=
  fun c cs _ => let ⟨v, w', r, s⟩ := h c cs; ⟨v, w', r, stepsIn_wide.2 s⟩
theorem upon_round {o : Oper} {next next' : Act → World → Prop} {Q : Exit → Act → World → Prop} (hn : ∀ a w, next a w → next' a w) : ∀ r, o.upon P a next Q r → o.uponIn (Fence.wide.inRound l) n P a next' Q r := by
  intro r h
  cases r with
  | ok x w' =>
    cases x with
    | value v => exact hn _ _ h
    | skip => exact hn _ _ h
    | defer d => exact hn _ _ h
    | enter f args =>
      refine ⟨fun hd => (by cases hd), calls_round (Calls.mono (show Calls P f args w' _ from h) fun e w'' he => ?_)⟩
      cases e with
      | returned v => exact hn _ _ he
      | panicked c => exact he
      | outgrown => exact he
    | row row args => exact ⟨fun hd => (by cases hd), rows_round (Rows.mono (show Rows P row args w' _ from h) fun v w'' he => hn _ _ he)⟩
    | _ => exact h.elim
  | halt x w' => cases x <;> first | exact h | exact h.elim
theorem ops_round {ops : Array Oper} {Q : Exit → Act → World → Prop} (hno : ¬ LetsOut Q) (hnd : noDefer ops = true) : ∀ is a w, wpOps P ops Q is a w → wpOpsIn (Fence.wide.inRound l) n P ops Q is a w := by
  intro is
  induction is with
  | nil => intro a w h; exact h
  | cons i rest ih =>
    intro a w h
    unfold wpOps at h
    unfold wpOpsIn
    cases ho : ops[i]? with
    | none => simp only [ho] at h ⊢; exact ih a w h
    | some o =>
      simp only [ho] at h ⊢
      split at h
      · rename_i hw
        rw [if_pos hw]
        rcases h with h | h
        · refine ⟨fun _ _ => trivial, ?_⟩
          rw [Oper.semAt_eq _ _ _ (noDefer_at hnd ho)]
          exact upon_round (fun a w h => ih a w h) _ h
        · exact absurd h.2 hno
      · rename_i hw
        rw [if_neg hw]
        exact ⟨fun _ _ => trivial, ih _ _ h⟩
theorem ops_list {l : List Oper} {Q : Exit → Act → World → Prop} (h : wpList P l.toArray Q l a w) : wpOps P l.toArray Q (List.range l.toArray.size) a w := by
  rw [List.range_eq_range', List.size_toArray, wpOps_eq_wpList l 0 (by simp)]; exact h

theorem any_D {ls : List Oper} {Q : Exit → Act → World → Prop} (ks : List Nat) (S : World → Prop) (hlook : lookD ls.toArray ks = true)
    (hS : S w.drew) (h : wpD P ls.toArray S (Q .normal) ls ks a w.drew) : wpAny P .any ls.toArray Q ls.toArray.size (Array.replicate ls.toArray.size false) a { w with drawn := w.drawn + 1 } := by
  have e0 : rem ls.toArray (Array.replicate ls.toArray.size false) = List.range' 0 ls.length := by
    unfold rem
    rw [List.range_eq_range', List.filter_eq_self.2]
    · simp
    · intro i hi
      have : i < ls.length := by simpa using hi
      simp [this]
  refine wpI_any (ks := ks) (S := S) (K := Q .normal) hlook (fun _ _ h => h) _ _ _ _ ?_ (by simp) ?_ (.inl hS) ?_
  · rw [e0]; simp
  · intro j o hj hl
    simp at hl
    have : j < ls.length := by simpa using (Array.getElem?_eq_some_iff.1 hj).1
    simp [this] at hl
  · rw [e0, wpI_eq (ks := ks) ls 0 ks (fun j => by simp) (fun j => by simp)]
    exact h

/-! ### The rules of a round -/
variable {Q : Exit → Act → World → Prop}
theorem wi_region_lit {id : Nat} {ls : List Oper} (hnd : noDefer ls.toArray = true) (hno : ¬ LetsOut Q) (h : wpList P ls.toArray Q ls a w) : (Code.region id ls.toArray false).wpIn (Fence.wide.inRound l) n P Q a w :=
  wpIn_region (ops_round hno hnd _ _ _ (ops_list h))
theorem wi_region_D {id : Nat} {ls : List Oper} (ks : List Nat) (S : World → Prop) (hm : P.follows .mixedOrders = true) (hlook : lookD ls.toArray ks = true)
    (hS : S w.drew) (hnd : noDefer ls.toArray = true) (hno : ¬ LetsOut Q) (h : wpD P ls.toArray S (Q .normal) ls ks a w.drew) : (Code.region id ls.toArray true).wpIn (Fence.wide.inRound l) n P Q a w := by
  refine wpIn_region_draw fun t => ops_round hno hnd _ _ _ ?_
  simp only [Region.schedule, hm, Bool.true_or, if_true]
  refine wpAny_sound ls.toArray.size t _ a _ ?_
  exact any_D ks S hlook hS h
theorem wi_ifD {c : Operand} {p q : Code} {m : Nat} {L : List (Nat × Value)} {b : Bool} {r : Prop} {ir : Decidable r} (hF : Fr a m L) (hv : ev L c = some (.bool b)) (hb : b = decide r) (ht : r → p.wpIn (Fence.wide.inRound l) n P Q a w) (hf : ¬ r → q.wpIn (Fence.wide.inRound l) n P Q a w) :
    (Code.cond c p q).wpIn (Fence.wide.inRound l) n P Q a w :=
  wpIn_cond_split (hF.eval hv) (fun e => ht (of_decide_eq_true (hb ▸ e))) (fun e => hf (of_decide_eq_false (hb ▸ e)))
end

/-! ### An iterator's own walk: a region that calls yield -/
section
variable {P : Program} {a : Act} {w : World} {l n d m : Nat} {Q : Exit → Act → World → Prop} {ops : Array Oper} {o : Oper} {rest : List Oper} {F : List (Nat × Value)} {v : Value} {R : Ending → World → Prop}
theorem wp_region_y {id : Nat} {ls : List Oper} (n : Nat) (h : wpListIn Fence.wide n P ls.toArray Q ls a w) : (Code.region id ls.toArray false).wp P Q a w := wpIn_wide.1 (wpIn_region_lit (n := n) h)
theorem wy_v (hF : Fr a m F) (hg : o.guard = none) (hd : o.dst = some d) (hn : Nat.ble (d + 1) m = true) (h : QV P o a w v)
    (next : ∀ a, Fr a m ((d, v) :: F) → wpListIn Fence.wide n P ops Q rest a w) : wpListIn Fence.wide n P ops Q (o :: rest) a w := by
  unfold wpListIn
  rw [if_pos (by simp [Region.wanted, hg])]
  refine ⟨fun _ _ => trivial, ?_⟩
  show o.uponIn _ _ _ _ _ _ ((execOp a.eval o).run P w)
  rw [show (execOp a.eval o).run P w = .ok (.value v) w from h]
  show wpListIn Fence.wide n P ops Q rest (a.put o.dst v) w
  rw [hd]
  exact next _ (hF.put (Nat.le_of_ble_eq_true hn) v)
theorem wy_yield {g : Operand} {argo : List Operand} {vs : List Value} {ts : Array TypeId} (hF : Fr a m F) (hg : o.guard = none) (hd : o.dst = some d) (hn : Nat.ble (d + 1) m = true)
    (ho : o.op = .call { callee := .value g, args := argo.toArray, argTypes := ts }) (hgv : ev F g = some (.func (.yield l) #[] #[])) (hv : evs F argo = some vs) (hY : YieldAt Fence.wide (n - 1) P l vs.toArray w R)
    (hR : ∀ e w', R e w' → ∃ v, e = .returned v) (next : ∀ a v w', R (.returned v) w' → Fr a m ((d, v) :: F) → wpListIn Fence.wide n P ops Q rest a w') : wpListIn Fence.wide n P ops Q (o :: rest) a w := by
  unfold wpListIn
  rw [if_pos (by simp [Region.wanted, hg])]
  refine ⟨fun _ _ => trivial, ?_⟩
  obtain ⟨fn, tmps, assign, body, hy, hround⟩ := hY
  have e : (execOp a.eval o).run P w = .ok (.round l fn tmps assign body) w := by
    simp [execOp, ho, resolve, invoke, hF.eval hgv, Deferred.ofValue, List.map_toArray, hF.evals hv, hy]
  show o.uponIn _ _ _ _ _ _ ((execOp a.eval o).run P w)
  rw [e]
  refine ⟨fun h => (by cases h), hround.mono fun e w' he => ?_⟩
  obtain ⟨v, rfl⟩ := hR e w' he
  show wpListIn Fence.wide n P ops Q rest (a.put o.dst v) w'
  rw [hd]
  exact next _ v w' he (hF.put (Nat.le_of_ble_eq_true hn) v)
theorem wy_nil (h : Q .normal a w) : wpListIn Fence.wide n P ops Q [] a w := h
end
/-- What a round must leave as it is, for an iterator over a slice in a box. -/
def KeepB (bs : List Nat) (A B : World) : Prop := A.heap.size ≤ B.heap.size ∧ ∀ b ∈ bs, B.heap[b]? = A.heap[b]?
theorem KeepB.trans {bs : List Nat} {A B C : World} (h : KeepB bs A B) (k : KeepB bs B C) : KeepB bs A C := ⟨Nat.le_trans h.1 k.1, fun b hb => (k.2 b hb).trans (h.2 b hb)⟩
theorem KeepB.refl (bs : List Nat) (A : World) : KeepB bs A A := ⟨Nat.le_refl _, fun _ _ => rfl⟩
theorem RdT.keepB {α : Type} {E : Enc α} {xs : List α} {A B : World} {v : Value} {bs : List Nat} (h : RdT A [] v E xs) (k : KeepB bs A B) (hb : 0 < xs.length → (sa v).block ∈ bs) : RdT B [] v E xs := by
  obtain ⟨h1, S, cap, rfl, h2, h3, h4⟩ := h
  refine ⟨h1, S, cap, rfl, h2, h3, fun hn => ?_⟩
  obtain ⟨ad, rfl, h5, h6, h7⟩ := h4 hn
  exact ⟨ad, rfl, h5, Nat.lt_of_lt_of_le h6 k.1, fun j u hj => (World.cell?_of_block (k.2 _ (by rw [block_add]; exact hb hn))).trans (h7 j u hj)⟩
theorem RdT.below {α : Type} {E : Enc α} {xs : List α} {A B : World} {v : Value} (h : RdT A [] v E xs) (k : RowKit.Below A.heap.size A B) : RdT B [] v E xs := by
  obtain ⟨h1, S, cap, rfl, h2, h3, h4⟩ := h
  refine ⟨h1, S, cap, rfl, h2, h3, fun hn => ?_⟩
  obtain ⟨ad, rfl, h5, h6, h7⟩ := h4 hn
  exact ⟨ad, rfl, h5, Nat.lt_of_lt_of_le h6 k.size, fun j u hj => (k.cell (by rw [block_add]; exact h6)).trans (h7 j u hj)⟩
end Go.Proofs.YtanpeofnlihhoaaDoor
