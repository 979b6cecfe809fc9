/- GW10: rounds of a range over a function; what stands behind one. -/
import Derived.Test.YtfkmlcgccffmnaaGw9
import Derived.RangeFuncFrom
import Derived.RangeFuncLeaves
import Derived.OwnWalkIn
import Derived.RangeFuncCalls
import Derived.Laws.MakeOwn
import Derived.Deep.Slices
import Derived.WideShapes
import Derived.Carry
namespace Go.Proofs.Ytfkmlcgccffmnaa
open Go
/-! ### Operations in a round -/
def noDefer (ops : Array Oper) : Bool := ops.all fun o => match o.op with | .defer _ => false | _ => true
theorem noDefer_at {ops : Array Oper} (h : noDefer ops = true) {i : Nat} {o : Oper} (ho : ops[i]? = some o) : ∀ c, o.op ≠ .defer c := by
  intro c hc
  have := Array.all_eq_true'.1 h o (Array.mem_of_getElem? ho)
  rw [hc] at this
  cases this
section
variable {P : Program} {a : Act} {w : World} {l n : Nat}
theorem calls_round {f : Nat} {args : Array Value} {R : Ending → World → Prop} {m : Nat} (h : Calls P f args w R) : CallsIn (Fence.wide.inRound l) m P f args w R := CallsIn.inRound l (callsIn_wide.2 h)
theorem rows_round {row : String} {args : Array Value} {R : Value → World → Prop} {m : Nat} (h : Rows P row args w R) : RowsIn (Fence.wide.inRound l) m P row args w R :=
  fun c cs _ => let ⟨v, w', r, s⟩ := h c cs; ⟨v, w', r, stepsIn_wide.2 s⟩
theorem upon_round {o : Oper} {next next' : Act → World → Prop} {Q : Exit → Act → World → Prop} (hn : ∀ a w, next a w → next' a w) : ∀ r, o.upon P a next Q r → o.uponIn (Fence.wide.inRound l) n P a next' Q r := by
  intro r h
  cases r with
  | ok x w' =>
    cases x with
    | value v => exact hn _ _ h
    | skip => exact hn _ _ h
    | defer d => exact hn _ _ h
    | enter f args =>
      refine ⟨fun hd => (by cases hd), calls_round (Calls.mono (show Calls P f args w' _ from h) fun e w'' he => ?_)⟩
      cases e with
      | returned v => exact hn _ _ he
      | panicked c => exact he
      | outgrown => exact he
    | row row args => exact ⟨fun hd => (by cases hd), rows_round (Rows.mono (show Rows P row args w' _ from h) fun v w'' he => hn _ _ he)⟩
    | _ => exact h.elim
  | halt x w' => cases x <;> first | exact h | exact h.elim
theorem ops_round {ops : Array Oper} {Q : Exit → Act → World → Prop} (hno : ¬ LetsOut Q) (hnd : noDefer ops = true) : ∀ is a w, wpOps P ops Q is a w → wpOpsIn (Fence.wide.inRound l) n P ops Q is a w := by
  intro is
  induction is with
  | nil => intro a w h; exact h
  | cons i rest ih =>
    intro a w h
    unfold wpOps at h
    unfold wpOpsIn
    cases ho : ops[i]? with
    | none => simp only [ho] at h ⊢; exact ih a w h
    | some o =>
      simp only [ho] at h ⊢
      split at h
      · rename_i hw
        rw [if_pos hw]
        rcases h with h | h
        · refine ⟨fun _ _ => trivial, ?_⟩
          rw [Oper.semAt_eq _ _ _ (noDefer_at hnd ho)]
          exact upon_round (fun a w h => ih a w h) _ h
        · exact absurd h.2 hno
      · rename_i hw
        rw [if_neg hw]
        exact ⟨fun _ _ => trivial, ih _ _ h⟩
theorem ops_list {l : List Oper} {Q : Exit → Act → World → Prop} (h : wpList P l.toArray Q l a w) : wpOps P l.toArray Q (List.range l.toArray.size) a w := by
  rw [List.range_eq_range', List.size_toArray, wpOps_eq_wpList l 0 (by simp)]; exact h

theorem any_D {ls : List Oper} {Q : Exit → Act → World → Prop} (ks : List Nat) (S : World → Prop) (hlook : lookD ls.toArray ks = true)
    (hS : S w.drew) (h : wpD P ls.toArray S (Q .normal) ls ks a w.drew) : wpAny P .any ls.toArray Q ls.toArray.size (Array.replicate ls.toArray.size false) a { w with drawn := w.drawn + 1 } := by
  have e0 : rem ls.toArray (Array.replicate ls.toArray.size false) = List.range' 0 ls.length := by
    unfold rem
    rw [List.range_eq_range', List.filter_eq_self.2]
    · simp
    · intro i hi
      have : i < ls.length := by simpa using hi
      simp [this]
  refine wpI_any (ks := ks) (S := S) (K := Q .normal) hlook (fun _ _ h => h) _ _ _ _ ?_ (by simp) ?_ (.inl hS) ?_
  · rw [e0]; simp
  · intro j o hj hl
    simp at hl
    have : j < ls.length := by simpa using (Array.getElem?_eq_some_iff.1 hj).1
    simp [this] at hl
  · rw [e0, wpI_eq (ks := ks) ls 0 ks (fun j => by simp) (fun j => by simp)]
    exact h

/-! ### The rules of a round -/
variable {Q : Exit → Act → World → Prop}
theorem wi_region_lit {id : Nat} {ls : List Oper} (hnd : noDefer ls.toArray = true) (hno : ¬ LetsOut Q) (h : wpList P ls.toArray Q ls a w) : (Code.region id ls.toArray false).wpIn (Fence.wide.inRound l) n P Q a w :=
  wpIn_region (ops_round hno hnd _ _ _ (ops_list h))
theorem wi_region_D {id : Nat} {ls : List Oper} (ks : List Nat) (S : World → Prop) (hm : P.follows .mixedOrders = true) (hlook : lookD ls.toArray ks = true)
    (hS : S w.drew) (hnd : noDefer ls.toArray = true) (hno : ¬ LetsOut Q) (h : wpD P ls.toArray S (Q .normal) ls ks a w.drew) : (Code.region id ls.toArray true).wpIn (Fence.wide.inRound l) n P Q a w := by
  refine wpIn_region_draw fun t => ops_round hno hnd _ _ _ ?_
  simp only [Region.schedule, hm, Bool.true_or, if_true]
  refine wpAny_sound ls.toArray.size t _ a _ ?_
  exact any_D ks S hlook hS h
theorem wi_ifD {c : Operand} {p q : Code} {m : Nat} {L : List (Nat × Value)} {b : Bool} {r : Prop} {ir : Decidable r} (hF : Fr a m L) (hv : ev L c = some (.bool b)) (hb : b = decide r) (ht : r → p.wpIn (Fence.wide.inRound l) n P Q a w) (hf : ¬ r → q.wpIn (Fence.wide.inRound l) n P Q a w) :
    (Code.cond c p q).wpIn (Fence.wide.inRound l) n P Q a w :=
  wpIn_cond_split (hF.eval hv) (fun e => ht (of_decide_eq_true (hb ▸ e))) (fun e => hf (of_decide_eq_false (hb ▸ e)))
end

/-! ### An iterator's own walk: a region that calls yield -/
section
variable {P : Program} {a : Act} {w : World} {l n d m : Nat} {Q : Exit → Act → World → Prop} {ops : Array Oper} {o : Oper} {rest : List Oper} {F : List (Nat × Value)} {v : Value} {R : Ending → World → Prop}
theorem wp_region_y {id : Nat} {ls : List Oper} (n : Nat) (h : wpListIn Fence.wide n P ls.toArray Q ls a w) : (Code.region id ls.toArray false).wp P Q a w := wpIn_wide.1 (wpIn_region_lit (n := n) h)
theorem wy_v (hF : Fr a m F) (hg : o.guard = none) (hd : o.dst = some d) (hn : Nat.ble (d + 1) m = true) (h : QV P o a w v)
    (next : ∀ a, Fr a m ((d, v) :: F) → wpListIn Fence.wide n P ops Q rest a w) : wpListIn Fence.wide n P ops Q (o :: rest) a w := by
  unfold wpListIn
  rw [if_pos (by simp [Region.wanted, hg])]
  refine ⟨fun _ _ => trivial, ?_⟩
  show o.uponIn _ _ _ _ _ _ ((execOp a.eval o).run P w)
  rw [show (execOp a.eval o).run P w = .ok (.value v) w from h]
  show wpListIn Fence.wide n P ops Q rest (a.put o.dst v) w
  rw [hd]
  exact next _ (hF.put (Nat.le_of_ble_eq_true hn) v)
theorem wy_yield {g : Operand} {argo : List Operand} {vs : List Value} {ts : Array TypeId} (hF : Fr a m F) (hg : o.guard = none) (hd : o.dst = some d) (hn : Nat.ble (d + 1) m = true)
    (ho : o.op = .call { callee := .value g, args := argo.toArray, argTypes := ts }) (hgv : ev F g = some (.func (.yield l) #[] #[])) (hv : evs F argo = some vs) (hY : YieldAt Fence.wide (n - 1) P l vs.toArray w R)
    (hR : ∀ e w', R e w' → ∃ v, e = .returned v) (next : ∀ a v w', R (.returned v) w' → Fr a m ((d, v) :: F) → wpListIn Fence.wide n P ops Q rest a w') : wpListIn Fence.wide n P ops Q (o :: rest) a w := by
  unfold wpListIn
  rw [if_pos (by simp [Region.wanted, hg])]
  refine ⟨fun _ _ => trivial, ?_⟩
  obtain ⟨fn, tmps, assign, body, hy, hround⟩ := hY
  have e : (execOp a.eval o).run P w = .ok (.round l fn tmps assign body) w := by
    simp [execOp, ho, resolve, invoke, hF.eval hgv, Deferred.ofValue, List.map_toArray, hF.evals hv, hy]
  show o.uponIn _ _ _ _ _ _ ((execOp a.eval o).run P w)
  rw [e]
  refine ⟨fun h => (by cases h), hround.mono fun e w' he => ?_⟩
  obtain ⟨v, rfl⟩ := hR e w' he
  show wpListIn Fence.wide n P ops Q rest (a.put o.dst v) w'
  rw [hd]
  exact next _ v w' he (hF.put (Nat.le_of_ble_eq_true hn) v)
theorem wy_nil (h : Q .normal a w) : wpListIn Fence.wide n P ops Q [] a w := h
end
/-- What a round must leave as it is, for an iterator over a slice in a box. -/
def KeepB (bs : List Nat) (A B : World) : Prop := A.heap.size ≤ B.heap.size ∧ ∀ b ∈ bs, B.heap[b]? = A.heap[b]?
theorem KeepB.trans {bs : List Nat} {A B C : World} (h : KeepB bs A B) (k : KeepB bs B C) : KeepB bs A C := ⟨Nat.le_trans h.1 k.1, fun b hb => (k.2 b hb).trans (h.2 b hb)⟩
theorem KeepB.refl (bs : List Nat) (A : World) : KeepB bs A A := ⟨Nat.le_refl _, fun _ _ => rfl⟩
theorem RdT.keepB {α : Type} {E : Enc α} {xs : List α} {A B : World} {v : Value} {bs : List Nat} (h : RdT A [] v E xs) (k : KeepB bs A B) (hb : 0 < xs.length → (sa v).block ∈ bs) : RdT B [] v E xs := by
  obtain ⟨h1, S, cap, rfl, h2, h3, h4⟩ := h
  refine ⟨h1, S, cap, rfl, h2, h3, fun hn => ?_⟩
  obtain ⟨ad, rfl, h5, h6, h7⟩ := h4 hn
  exact ⟨ad, rfl, h5, Nat.lt_of_lt_of_le h6 k.1, fun j u hj => (World.cell?_of_block (k.2 _ (by rw [block_add]; exact hb hn))).trans (h7 j u hj)⟩
theorem RdT.below {α : Type} {E : Enc α} {xs : List α} {A B : World} {v : Value} (h : RdT A [] v E xs) (k : RowKit.Below A.heap.size A B) : RdT B [] v E xs := by
  obtain ⟨h1, S, cap, rfl, h2, h3, h4⟩ := h
  refine ⟨h1, S, cap, rfl, h2, h3, fun hn => ?_⟩
  obtain ⟨ad, rfl, h5, h6, h7⟩ := h4 hn
  exact ⟨ad, rfl, h5, Nat.lt_of_lt_of_le h6 k.size, fun j u hj => (k.cell (by rw [block_add]; exact h6)).trans (h7 j u hj)⟩
end Go.Proofs.Ytfkmlcgccffmnaa
namespace Go.Proofs.Ytfkmlcgccffmnaa
open Go
def Ent.noMp : Ent → Bool | .mp _ _ => false | .gp _ _ _ _ => false | _ => true
section
variable {w0 w w' W : World} {M : List Nat} {L A B L' : List Ent} {row : Option Nat}
theorem Ent.isCells {e : Ent} {b : Nat} (h : e.ok w) (hb : e.blk = some b) (hm : e.noMp = true) : ∃ o : Obj, w.heap[b]? = some o ∧ o.isCells = true := by
  cases e with
  | ob b' t cs => cases hb; exact ⟨_, h, rfl⟩
  | mp b' o => cases hm
  | gp bs ok st lt => cases hm
  | sl v e size n xs =>
    rcases h.2 with ⟨rfl, _⟩ | ⟨g, cap, cur, rfl, _, hg, _⟩
    · cases hb
    · cases hb; exact ⟨_, hg, rfl⟩
theorem blks_cells (hA : ∀ e ∈ L, e.ok w) (hm : L.all Ent.noMp = true) {b : Nat} (hb : b ∈ blks L) : ∃ o : Obj, w.heap[b]? = some o ∧ o.isCells = true := by
  obtain ⟨e, he, hb⟩ := mem_blk.1 hb
  have hm' := List.all_eq_true.1 hm e he
  exact Ent.isCells (hA e he) (by rw [Ent.bs_of (by cases e <;> first | rfl | cases hm')] at hb; exact Option.mem_toList.1 hb) (List.all_eq_true.1 hm e he)
theorem St.grown (h : St w0 M w L) (hm : L.all Ent.noMp = true) (hg : w.grownBy w' row) (hr : ∀ r, row = some r → w0.heap.size ≤ r ∧ ∃ o : Obj, w.heap[r]? = some o ∧ o.isCells = false) : St w0 M w' L := by
  refine ⟨hg.os.trans h.os, hg.tape.trans h.tape, hg.output.trans h.output, Nat.le_trans h.le hg.size, fun b hb hM => ?_, fun e he => ?_, h.nodup, h.src⟩
  · refine (hg.block b (Nat.lt_of_lt_of_le hb h.le) fun e => ?_).trans (h.keep b hb hM)
    have := (hr b e.symm).1
    omega
  · refine Ent.ok_keep (h.own e he) fun b hb => hg.block b (Ent.ok_lts (h.own e he) hb) (fun e2 => ?_)
    obtain ⟨_, o, ho, hc⟩ := hr b e2.symm
    obtain ⟨o', ho', hc'⟩ := blks_cells h.own hm (mem_blk.2 ⟨e, he, hb⟩)
    rw [ho] at ho'; cases ho'; rw [hc] at hc'; cases hc'
theorem St.others (hA : ∀ e ∈ L, e.ok W) (hm : L.all Ent.noMp = true) (hO : St W (blks L) w L') : KeepsOthers W w := by
  refine ⟨hO.le, fun k o hk hc => ?_⟩
  have hlt : k < W.heap.size := (Array.getElem?_eq_some_iff.1 hk).1
  refine (hO.keep k hlt fun hb => ?_).trans hk
  obtain ⟨o', ho', hc'⟩ := blks_cells hA hm hb
  rw [hk] at ho'; cases ho'; rw [hc] at hc'; cases hc'
theorem St.keepOf (hS : St w0 M W (A ++ B)) (hO : St W (blks A) w L') {b : Nat} (hb : b ∈ blks B) : w.heap[b]? = W.heap[b]? := by
  have hn := hS.nodup
  have hsp : blks (A ++ B) = blks A ++ blks B := by simp [blks]
  rw [hsp, List.nodup_append] at hn
  exact hO.keep b (hS.lt (by rw [hsp]; exact List.mem_append_right _ hb)) fun h => hn.2.2 b h b hb rfl
end
section
variable {P : Program} {a : Act} {w : World} {n : Nat}
def wd (ds : List Deferred) (a : Act) : Act := { a with defers := ds }
theorem put_wd (ds : List Deferred) (a : Act) (d : Option Tmp) (v : Value) : (wd ds a).put d v = wd ds (a.put d v) := by cases d <;> rfl
theorem eval_wd (ds : List Deferred) (a : Act) : (wd ds a).eval = a.eval := by funext x; cases x <;> rfl
/-- loads, stores and moves alone -/
def plainOp (o : Oper) : Bool := match o.op with | .load _ _ => true | .store _ _ _ => true | .move _ => true | .assign _ => true | _ => false
theorem plain_run {o : Oper} (h : plainOp o = true) (ρ : Operand → Value) (w : World) : (∃ v w', (execOp ρ o).run P w = .ok (.value v) w') ∨ (∃ w', (execOp ρ o).run P w = .ok .skip w') ∨ ∃ x w', (execOp ρ o).run P w = .halt x w' := by
  unfold plainOp at h
  unfold execOp
  cases ho : o.op <;> simp only [ho] at h <;> first | (cases h; done) | skip
  case move x => exact .inl ⟨_, _, rfl⟩
  case assign x => exact .inl ⟨_, _, rfl⟩
  case load t x =>
    simp only [Sem.run_bind]
    cases (Instr.loadAt t (ρ x)).run P w with
    | ok v w' => exact .inl ⟨_, _, rfl⟩
    | halt x w' => exact .inr (.inr ⟨_, _, rfl⟩)
  case store t x y =>
    simp only [Sem.run_bind]
    cases (Instr.storeAt t (ρ x) (ρ y)).run P w with
    | ok v w' => exact .inr (.inl ⟨_, rfl⟩)
    | halt x w' => exact .inr (.inr ⟨_, _, rfl⟩)
def onlyQ (K : Act → World → Prop) : Exit → Act → World → Prop
  | .normal, a, w => K a w
  | _, _, _ => False
theorem only_out {K : Act → World → Prop} : ¬ LetsOut (onlyQ K) := fun ⟨_, _, h⟩ => h
theorem ops_wd {ops : Array Oper} {Q : Exit → Act → World → Prop} {K : Act → World → Prop} (ds : List Deferred) (hp : ops.all plainOp = true) (hK : ∀ a w, K a w → Q .normal (wd ds a) w) :
    ∀ is a w, wpOps P ops (onlyQ K) is a w → wpOps P ops Q is (wd ds a) w := by
  intro is
  induction is with
  | nil => intro a w h; exact hK a w h
  | cons i rest ih =>
    intro a w h
    unfold wpOps at h ⊢
    cases ho : ops[i]? with
    | none => simp only [ho] at h ⊢; exact ih a w h
    | some o =>
      simp only [ho] at h ⊢
      have ht : (wd ds a).tmps = a.tmps := rfl
      rw [ht]
      split at h
      · rename_i hw
        rw [if_pos hw]
        rcases h with h | h
        · refine .inl ?_
          have hpo := Array.all_eq_true'.1 hp o (Array.mem_of_getElem? ho)
          unfold Oper.wp at h ⊢
          rw [eval_wd]
          rcases plain_run (P := P) hpo a.eval w with ⟨v, w', e⟩ | ⟨w', e⟩ | ⟨x, w', e⟩
          · rw [e] at h ⊢
            show wpOps P ops Q rest ((wd ds a).put o.dst v) w'
            rw [put_wd]; exact ih _ _ h
          · rw [e] at h ⊢
            show wpOps P ops Q rest ((wd ds a).put o.dst undef) w'
            rw [put_wd]; exact ih _ _ h
          · rw [e] at h
            cases x <;> exact h.elim
        · exact absurd h.2 only_out
      · rename_i hw
        rw [if_neg hw, put_wd]
        exact ih _ _ h
theorem wp_region_DW {id : Nat} {ls : List Oper} {Q : Exit → Act → World → Prop} (ds : List Deferred) (ks : List Nat) (S : World → Prop) (K : Act → World → Prop) (hm : P.follows .mixedOrders = true) (hlook : lookD ls.toArray ks = true)
    (hS : S w.drew) (hp : ls.toArray.all plainOp = true) (hK : ∀ a w, K a w → Q .normal (wd ds a) w) (h : wpD P ls.toArray S K ls ks a w.drew) : (Code.region id ls.toArray true).wp P Q (wd ds a) w := by
  refine wp_region_draw fun t => ops_wd ds hp hK _ _ _ ?_
  simp only [Region.schedule, hm, Bool.true_or, if_true]
  exact wpAny_sound ls.toArray.size t _ a _ (any_D ks S hlook hS h)
/-- A body that holds a range over a function. -/
def PostM (P : Program) (n : Nat) (fn : Func) (R : Value → World → Prop) : Exit → Act → World → Prop := bodyPostM Fence.wide n P fn fun e w' => ∃ v, e = .returned v ∧ R v w'
theorem ret_ofM {f : Nat} {fn : Func} {c : Code} {args : Array Value} {R : Value → World → Prop} (n : Nat) (hf : P.funcs[f]? = some fn) (hb : fn.body = some c) {m : Nat} (hm : fn.ntmps = m) (L : List (Nat × Value)) (hle : Nat.ble args.size m = true) (hL : AllIn ((List.range args.size).zip args.toList) L)
    (h : ∀ a, Fr a m L → c.wp P (PostM P n fn R) a w) : Ret P f args w R := by
  refine callsIn_wide.1 (callsIn_of_wp_marks (n := n) hf hb trivial (wpIn_wide.2 ?_) rfl)
  have := Fr.init args (fn.ntmps - args.size) L hL
  rw [show args.size + (fn.ntmps - args.size) = m by rw [hm]; have := Nat.le_of_ble_eq_true hle; omega] at this
  exact h _ this
/-- the way out behind one range over a function: two results in variables of one cell -/
theorem rM_cc {fn : Func} {R : Value → World → Prop} {m : Nat} {L : List (Nat × Value)} {k l D : Nat} {t1 t2 : TypeId} {ad ad' : Addr} {v u : Value} (hF : Fr a m L) (hr : fn.results = #[.cell k t1, .cell l t2]) (hk : lk L k = some (ptr ad)) (hl : lk L l = some (ptr ad'))
    (h1 : ∀ w, (isAgg t1).run P w = .ok false w) (h2 : ∀ w, (isAgg t2).run P w = .ok false w) (hD : w.heap[D]? = some (.deferred (some [])))
    (hc : (w.putObj D (.deferred none)).cell? ad = some v) (hc' : (w.putObj D (.deferred none)).cell? ad' = some u) (hR : R (.tuple #[v, u]) (w.putObj D (.deferred none))) :
    PostM P n fn R .ret (wd [{ target := .collected D, args := #[] }] a) w := by
  show LeavesInM Fence.wide n P fn a.tmps _ [_] .returning w
  refine ⟨by simp, .inl ⟨D, _, rfl, run_takeDeferred hD, ?_⟩⟩
  refine ⟨.tuple #[v, u], ?_, _, rfl, hR⟩
  have e1 := hF.get k _ hk
  have e2 := hF.get l _ hl
  rw [Array.getD_eq_getD_getElem?] at e1 e2
  simp [results, hr, e1, e2, ptr, asAddr, loadVar, h1, h2, hc, hc']
end
end Go.Proofs.Ytfkmlcgccffmnaa
namespace Go.Proofs.Ytfkmlcgccffmnaa
open Go
open Go.RowKit
section
variable {P : Program} {n : Nat}
/-- the block of the rounds' deferred calls, and the loop's record -/
structure Book (D : Nat) (r : Loop) (W : World) : Prop where
  loop : W.heap[D + 1]? = some (.loop r)
  defs : W.heap[D]? = some (.deferred (some []))
theorem Book.keep {D : Nat} {r : Loop} {A B : World} (h : Book D r A) (k : KeepsOthers A B) : Book D r B := ⟨k.same _ _ h.loop rfl, k.same _ _ h.defs rfl⟩
theorem Book.turn {D : Nat} {r : Loop} {A : World} (h : Book D r A) (r' : Loop) : Book D r' (A.putObj (D + 1) (.loop r')) :=
  ⟨World.putObj_heap_same (Array.getElem?_eq_some_iff.1 h.loop).1, (World.putObj_heap_other (by omega)).trans h.defs⟩
theorem Book.walk {D : Nat} {r : Loop} {A B : World} {row : Option Nat} (h : Book D r A) (hg : A.grownBy B row) (hr : ∀ k, row = some k → ∃ o : Obj, A.heap[k]? = some o ∧ o.isWalk = true) : Book D r B :=
  ⟨(grownBy_keeps hg hr h.loop rfl).trans h.loop, (grownBy_keeps hg hr h.defs rfl).trans h.defs⟩

theorem wp_range {α : Type} {g : Operand} {ps : Array Tmp} {assign body : Code} {Q : Exit → Act → World → Prop} {a : Act} {w : World} (n : Nat)
    {gf : Nat} {lb : Array Value} (hg : a.eval g = .func (.func gf) #[] lb) (eg : ∀ args w, (callFunc gf args).run P w = .ok (.enter gf args) w)
    {encs : α → Array Value} {Kp : World → World → Prop} {S Sp : List α → Prop} {N : Nat} (hseq : SeqStopsK Fence.wide (n + 1) P gf lb encs Kp S Sp N w)
    (hKt : ∀ {A B C : World}, Kp A B → Kp B C → Kp A C) (hKb : ∀ (W : World) (l : Nat) (o o' : Obj), w.heap.size ≤ l → W.heap[l]? = some o → Kp W (W.putObj l o')) (hps : ∀ x, (encs x).size = ps.size)
    (I : List α → World → Prop) (J : List α → α → Act → World → Prop) (Ix : Code → List α → World → Prop) (hI : OwnFrom w.heap.size I) (hJ : ∀ pre x a, OwnFrom w.heap.size (fun (_ : Unit) W => J pre x a W)) (hIx : ∀ c, OwnFrom w.heap.size (Ix c)) (h0 : I [] w)
    (hassign : ∀ (l : Nat) (pre : List α) (x : α) (W : World), I pre W → pre.length < N →
      assign.wpIn (Fence.wide.inRound l) n P (Exit.then (fun a₁ W₁ => KeepsOthers W W₁ ∧ Kp W W₁ ∧ J pre x a₁ W₁) (fun _ _ _ => False)) { tmps := (ps.zip (encs x)).foldl (fun t (p, v) => t.setIfInBounds p v) a.tmps, defers := [] } W)
    (hbody : ∀ (l : Nat) (pre : List α) (x : α) (a₁ : Act) (W : World), J pre x a₁ W → body.wpIn (Fence.wide.inRound l) n P (ownPostK Kp I Ix (pre ++ [x]) W) a₁ W)
    (hdone : ∀ (D : Nat) (xs : List α) (W : World), w.heap.size ≤ D → S xs → I xs W → W.heap[D]? = some (.deferred (some [])) → Q .normal (wd ({ target := .collected D, args := #[] } :: a.defers) a) W)
    (hstop : ∀ (D : Nat) (c : Code) (pre : List α) (W : World), w.heap.size ≤ D → Sp pre → Ix c pre W → W.heap[D]? = some (.deferred (some [])) → c.wp P Q (wd ({ target := .collected D, args := #[] } :: a.defers) a) W) :
    (Code.rangeFunc g ps assign body).wp P Q a w := by
  refine wpIn_wide.1 (wpIn_rangeFunc (n := n + 2) fun fn _ => ?_)
  let D := w.heap.size
  let rec0 : LoopState → Option Code → Loop := fun st pe => { state := st, pending := pe, fn, tmps := a.tmps, params := ps, assign, body, defers := D }
  let W1 := (w.alloc (.deferred (some []))).alloc (.loop (rec0 .ready none))
  have hB1 : Book D (rec0 .ready none) W1 := by
    refine ⟨?_, (Below.heap_alloc _ _ _ (by rw [World.size_alloc]; exact Nat.lt_succ_self _)).trans (World.alloc_heap_new w _)⟩
    have := World.alloc_heap_new (w.alloc (.deferred (some []))) (.loop (rec0 .ready none))
    rwa [World.size_alloc] at this
  have hI1 : I [] W1 := hI.alloc _ (hI.alloc _ h0)
  have hW1 : Below w.heap.size w W1 := ((Below.refl _ w).alloc (Nat.le_refl _) _).alloc (by simp) _
  have hsz : w.heap.size ≤ W1.heap.size := hW1.size
  have own : ∀ {β : Type} {X : β → World → Prop}, OwnFrom w.heap.size X → AbidesFrom W1.heap.size X := fun h s A B row hs hg hr =>
    h s A B row hs hg fun r e => by obtain ⟨hb, o, ho, hw⟩ := hr r e; exact ⟨Nat.le_trans hsz hb, o, ho, Obj.not_cells_of_walk hw⟩
  refine ⟨D + 1, [{ target := .collected D, args := #[] }], W1, { target := .fn (.func gf) lb, args := #[.func (.yield (D + 1)) #[] #[]] }, W1, gf, #[.func (.yield (D + 1)) #[] #[]] ++ lb, W1,
    run_enterLoop_outer _ _ _ _ _, ?_, fun _ _ => trivial, ?_, fun h => (by cases h), ?_⟩
  · simp only [resolve, hg]
    simp [go_sem]
  · simp [invoke, go_sem, eg]
  refine (hseq (D + 1) (fun pre W => I pre W ∧ Book D (rec0 .ready none) W) (fun pre W => ∃ c, Ix c pre W ∧ Book D (rec0 .done (some c)) W) W1 hW1
    (fun s A B row hs hg' hr => ⟨own hI s A B row hs.1 hg' hr, hs.2.walk hg' fun r e => (hr r e).2⟩)
    (fun s A B row ⟨c, hc, hb⟩ hg' hr => ⟨c, own (hIx c) s A B row hc hg' hr, hb.walk hg' fun r e => (hr r e).2⟩) ?_ ⟨hI1, hB1⟩).mono ?_
  · rintro pre x W ⟨hi, hb⟩ hlen
    refine ⟨fn, _, assign, body, run_yield (P := P) (args := encs x) hb.loop (hps x), roundIn_of_wpIn trivial ?_⟩
    refine wpIn_mono (hassign (D + 1) pre x W hi hlen) fun e a₁ W₁ he => ?_
    cases e with
    | normal =>
      obtain ⟨hk, hkp, hj⟩ := he
      have hb₁ := hb.keep hk
      refine ⟨_, run_beginRound hb₁.loop rfl, ?_⟩
      have hb₂ := hb₁.turn (rec0 .busy none)
      have hj₂ : J pre x a₁ (W₁.putObj (D + 1) (.loop (rec0 .busy none))) := (hJ pre x a₁).putObj (s := ()) _ hj (Nat.le_succ _) hb₁.loop rfl
      have hkp₂ : Kp W (W₁.putObj (D + 1) (.loop (rec0 .busy none))) := hKt hkp (hKb _ _ _ _ (Nat.le_succ _) hb₁.loop)
      refine wpIn_mono (hbody (D + 1) pre x a₁ _ hj₂) fun e a₃ W₃ hp => ?_
      have fin : ∀ (jump : Option Code), KeepsOthers (W₁.putObj (D + 1) (.loop (rec0 .busy none))) W₃ →
          (Instr.endRound (D + 1) jump).run P W₃ = .ok (.bool jump.isNone) (W₃.putObj (D + 1) (.loop (rec0 (if jump.isNone then .ready else .done) jump))) ∧ Book D (rec0 .busy none) W₃ :=
        fun jump hk₃ => ⟨run_endRound (P := P) jump (hb₂.keep hk₃).loop, hb₂.keep hk₃⟩
      have out : ∀ c, KeepsOthers (W₁.putObj (D + 1) (.loop (rec0 .busy none))) W₃ → Ix c (pre ++ [x]) W₃ → ∃ v w', (Instr.endRound (D + 1) (some c)).run P W₃ = .ok v w' ∧
          ((Ending.returned v = .returned (.bool true) ∧ (I (pre ++ [x]) w' ∧ Book D (rec0 .ready none) w') ∧ Kp W w') ∨ (Ending.returned v = .returned (.bool false) ∧ ∃ c, Ix c (pre ++ [x]) w' ∧ Book D (rec0 .done (some c)) w')) := fun c hk₃ hx => by
        obtain ⟨hr, hb₃⟩ := fin (some c) hk₃
        exact ⟨_, _, hr, .inr ⟨rfl, c, (hIx c).putObj _ hx (Nat.le_succ _) hb₃.loop rfl, hb₃.turn _⟩⟩
      cases e with
      | normal =>
        obtain ⟨hk₃, hkp₃, hi₃⟩ := hp
        obtain ⟨hr, hb₃⟩ := fin none hk₃
        exact ⟨_, _, hr, .inl ⟨rfl, ⟨hI.putObj _ hi₃ (Nat.le_succ _) hb₃.loop rfl, hb₃.turn _⟩, hKt (hKt hkp₂ hkp₃) (hKb _ _ _ _ (Nat.le_succ _) hb₃.loop)⟩⟩
      | ret => exact out _ hp.1 hp.2
      | exit id => exact out _ hp.1 hp.2
      | goto t => exact out _ hp.1 hp.2
      | panic ch => exact hp.elim
      | outgrown => exact hp.elim
    | _ => exact he.elim
  · rintro e W₂ ⟨⟨v, rfl⟩, (⟨xs, hS, hi, hb⟩ | ⟨pre, hSp, c, hi, hb⟩)⟩
    · exact ⟨none, _, run_endLoop (P := P) hb.loop (by simp [rec0]), hdone D xs _ (Nat.le_refl _) hS (hI.putObj _ hi (Nat.le_succ _) hb.loop rfl) ((World.putObj_heap_other (by omega)).trans hb.defs)⟩
    · exact ⟨some c, _, run_endLoop (P := P) hb.loop (by simp [rec0]), wpIn_wide.2 (hstop D c pre _ (Nat.le_refl _) hSp ((hIx c).putObj _ hi (Nat.le_succ _) hb.loop rfl) ((World.putObj_heap_other (by omega)).trans hb.defs))⟩
end

section
variable {P : Program} {Q : Exit → Act → World → Prop} {a : Act} {w w0 : World} {l n i : Nat} {x y c : Code} {M : List Nat} {L : List Ent}
theorem wi_seq (h : x.wpIn (Fence.wide.inRound l) n P (Exit.then (y.wpIn (Fence.wide.inRound l) n P Q) Q) a w) : (Code.seq x y).wpIn (Fence.wide.inRound l) n P Q a w := wpIn_seq h
theorem wi_block (h : c.wpIn (Fence.wide.inRound l) n P (Exit.inBlock i Q) a w) : (Code.block i c).wpIn (Fence.wide.inRound l) n P Q a w := wpIn_block h
theorem wi_skip (h : Q .normal a w) : Code.skip.wpIn (Fence.wide.inRound l) n P Q a w := wpIn_skip h
theorem wi_exit (h : Q (.exit i) a w) : (Code.exit i).wpIn (Fence.wide.inRound l) n P Q a w := wpIn_exit h
theorem wi_ret (h : Q .ret a w) : Code.ret.wpIn (Fence.wide.inRound l) n P Q a w := wpIn_ret h
theorem fr_yield2 {F : List (Nat × Value)} {m t u : Nat} (hF : Fr a m F) (v1 v2 : Value) (ht : Nat.ble (t + 1) m = true) (hu : Nat.ble (u + 1) m = true) :
    Fr { tmps := ((#[t, u] : Array Tmp).zip #[v1, v2]).foldl (fun t (p, v) => t.setIfInBounds p v) a.tmps, defers := [] } m ((u, v2) :: (t, v1) :: F) := by
  have h := (hF.put (Nat.le_of_ble_eq_true ht) v1).put (Nat.le_of_ble_eq_true hu) v2
  have e : ({ tmps := ((#[t, u] : Array Tmp).zip #[v1, v2]).foldl (fun t (p, v) => t.setIfInBounds p v) a.tmps, defers := [] } : Act) = (a.put (some t) v1).put (some u) v2 := by
    simp [Act.put, hF.defs]
  rw [e]; exact h
theorem St.addMp {D : Nat} {o : Obj} (hO : St w0 M w L) (hm : L.all Ent.noMp = true) (hD : w0.heap.size ≤ D) (h : w.heap[D]? = some o) (ho : o.isCells = false) : St w0 M w (.mp D o :: L) := by
  refine ⟨hO.os, hO.tape, hO.output, hO.le, hO.keep, fun e he => ?_, ?_, fun b hb => ?_⟩
  · rcases List.mem_cons.1 he with rfl | he
    · exact h
    · exact hO.own e he
  · show (D :: blks L).Nodup
    refine List.nodup_cons.2 ⟨fun hb => ?_, hO.nodup⟩
    obtain ⟨o', ho', hc'⟩ := blks_cells hO.own hm hb
    rw [h] at ho'; cases ho'; rw [ho] at hc'; cases hc'
  · rcases List.mem_cons.1 (show b ∈ D :: blks L from hb) with rfl | hb
    · exact .inr hD
    · exact hO.src b hb
theorem St.saOwn {α : Type} {E : Enc α} {xs : List α} {v : Value} {e : Nat} (hO : St w0 M w L) (i : Nat) (hi : L[i]? = some (slT v e E xs)) : 0 < xs.length → (sa v).block ∈ v.ownBlock.toList := by
  have hown : w.ownsRow 0 e E.size v xs.length (flat E xs) := hO.ok hi
  intro h
  rcases hown.2 with ⟨_, h0⟩ | ⟨g, cap, cur, rfl, _⟩
  · omega
  · simp [sa, Value.ownBlock]
end
end Go.Proofs.Ytfkmlcgccffmnaa
namespace Go.Proofs.Ytfkmlcgccffmnaa
open Go
section
variable {P : Program} {o : Oper} {a : Act} {w w0 : World} {v u : Value} {x y z : Operand} {t t' : TypeId} {M : List Nat} {L : List Ent} {size n : Nat} {xs : List Value}
theorem RdT.lenle {α : Type} {E : Enc α} {l : List α} (h : RdT w M v E l) : l.length ≤ 9223372036854775807 := by
  obtain ⟨_, _, cap, _, h1, h2, _⟩ := h
  have : maxLen = 9223372036854775807 := by decide
  omega
def dropV (v : Value) (j s : Nat) : Value := match v with | .slice A n c => .slice (if c = j then A else A.map (·.add (j * s))) (n - j) (c - j) | v => v
theorem q_drop {e : TypeId} {w1 : World} {k : IntKind} {j : Nat} (hR : Rd w1 M v size n xs) (ht : P.underlying t = some (.slice e)) (hs : ∀ w, (sizeOf e).run P w = .ok size w) (ho : o.op = .slice t x (some y) none none) (hx : a.eval x = v) (hy : a.eval y = .int k (j : Int)) (hj : j ≤ n) :
    QV P o a w (dropV v j size) := by
  obtain ⟨_, A, cap, rfl, hc, _, _⟩ := hR
  have hj' : j ≤ cap := by omega
  simp [QV, execOp, ho, hx, hy, Instr.sliceAt, Instr.slice, run_underlying ht, Instr.sliceBounds, Instr.sliceBound, asIntOf, hj, hs, dropV]
theorem q_lenDrop {e : TypeId} {w1 : World} {j s : Nat} (hR : Rd w1 M v size n xs) (ht : P.underlying t = some (.slice e)) (ho : o.op = .call { callee := .builtin .len, args := #[x], argTypes := #[t] }) (hx : a.eval x = dropV v j s) : QV P o a w (i64 ((n - j : Nat) : Int)) := by
  obtain ⟨A, cap, rfl, _⟩ := hR.is
  exact q_lenSl ht ho hx
theorem q_atDrop {e : TypeId} {w1 : World} {k : IntKind} {i j : Nat} (hR : Rd w1 M v size n xs) (ht : P.underlying t = some (.slice e)) (hs : ∀ w, (sizeOf e).run P w = .ok size w) (ho : o.op = .indexAddr t x y) (hx : a.eval x = dropV v j size) (hy : a.eval y = .int k (i : Int)) (hi : j + i < n) :
    QV P o a w (ptr ((sa v).add ((j + i) * size))) := by
  obtain ⟨_, A, cap, rfl, hc, _, h0⟩ := hR
  obtain ⟨ad, rfl, _⟩ := h0 (by omega)
  have hne : ¬ cap = j := by omega
  have e1 : (ad.add (j * size)).add (i * size) = ad.add ((j + i) * size) := by rw [add_add', Nat.add_mul]
  have := q_indexAddr (P := P) (w := w) (len := n - j) (cap := cap - j) (ad := ad.add (j * size)) ht ho (by rw [hx]; simp [dropV, hne]) hy (by omega) hs
  rw [e1] at this
  exact this
end
section
variable {P : Program} {a : Act} {o : Oper} {n : Nat} {F : List (Nat × Value)} {w w0 : World} {M : List Nat} {L : List Ent} {ops : Array Oper} {Q : Exit → Act → World → Prop} {rest : List Oper} {d : Nat} {S : World → Prop} {K : Act → World → Prop} {ks : List Nat} {v : Value}
theorem wd_gk2 {j : Nat} {b : Bool} {dj : Nat} {oj : Oper} {g : Value} (hO : St w0 M w L) (hF : Fr a n F) (hg : o.guard = some (j, b)) (hj : ops[j]? = some oj) (hdj : oj.dst = some dj) (hv : lk F dj = some g)
    (hd : o.dst = some d) (hn : Nat.ble (d + 1) n = true) (h : isB g b = true → Eff P o a w (fun u w' => u = v ∧ St w [] w' [])) (hS : ∀ w', St w0 M w' L → S w')
    (next : ∀ a w, St w0 M w L → Fr a n ((d, gv g b v) :: F) → wpD P ops S K rest ks a w) : wpD P ops S K (o :: rest) (2 :: ks) a w := by
  show stepD P ops S o 2 (wpD P ops S K rest ks) a w
  have hw := wanted_of hF hg hj hdj hv
  unfold stepD
  rw [hw]
  cases hb : isB g b with
  | true =>
    simp only [if_true]
    rw [if_neg (by omega)]
    refine (h hb).mono fun u w' ⟨hu, hS'⟩ => ⟨fun _ => hS w' (hO.call0 hS'), ?_⟩
    have := next _ w' (hO.call0 hS') (hF.put (Nat.le_of_ble_eq_true hn) (gv g b v))
    rw [gv_of hb] at this
    subst hu
    rw [hd]; exact this
  | false =>
    have := next _ w hO (hF.put (Nat.le_of_ble_eq_true hn) (gv g b v))
    rw [gv_not hb] at this
    rw [hd]; exact this
/-- A guarded effect, its two outcomes as one state that tells which. -/
theorem wd_gS2 {Js : Type} (J : Bool → Js → Value → World → Prop) {j : Nat} {b : Bool} {dj : Nat} {oj : Oper} {g : Value} (hF : Fr a n F) (hg : o.guard = some (j, b)) (hj : ops[j]? = some oj) (hdj : oj.dst = some dj) (hv : lk F dj = some g)
    (hd : o.dst = some d) (hn : Nat.ble (d + 1) n = true) (h : isB g b = true → Eff P o a w (fun u w' => ∃ s, J true s u w')) (h0 : isB g b = false → ∃ s u, J false s u w) (hS : ∀ s u w', J true s u w' → S w')
    (next : ∀ s u a w, J (isB g b) s u w → Fr a n ((d, gv g b u) :: F) → wpD P ops S K rest ks a w) : wpD P ops S K (o :: rest) (2 :: ks) a w := by
  show stepD P ops S o 2 (wpD P ops S K rest ks) a w
  have hw := wanted_of hF hg hj hdj hv
  unfold stepD
  rw [hw]
  cases hb : isB g b with
  | true =>
    simp only [if_true]
    rw [if_neg (by omega)]
    refine (h hb).mono fun u w' ⟨s, hJ⟩ => ⟨fun _ => hS s u w' hJ, ?_⟩
    have := next s u _ w' (by rw [hb]; exact hJ) (hF.put (Nat.le_of_ble_eq_true hn) (gv g b u))
    rw [gv_of hb] at this
    rw [hd]; exact this
  | false =>
    obtain ⟨s, u, hJ⟩ := h0 hb
    have := next s u _ w (by rw [hb]; exact hJ) (hF.put (Nat.le_of_ble_eq_true hn) (gv g b u))
    rw [gv_not hb] at this
    rw [hd]; exact this
end
end Go.Proofs.Ytfkmlcgccffmnaa
namespace Go.Proofs.Ytfkmlcgccffmnaa
open Go
section
variable {P : Program} {o : Oper} {a : Act} {w w0 : World} {v u : Value} {x y z : Operand} {t t' : TypeId} {M : List Nat} {L : List Ent} {size n : Nat} {xs : List Value}
theorem e_make0 {e : TypeId} {inf : TypeInfo} {zv : Value} {bytes c : Nat} {k k' : IntKind} (hO : St w0 M w L) (ht : P.underlying t = some (.slice e)) (hinf : P.info? e = some inf) (hz : inf.zero = some zv) (hsize : inf.size = size) (hby : inf.bytes = bytes)
    (ho : o.op = .makeSlice t x y) (hx : a.eval x = .int k 0) (hy : a.eval y = .int k' (c : Int)) (hb : bytes * c ≤ 281474976710656) (hm : c ≤ 9223372036854775807) :
    Eff P o a w (fun u w' => St w0 M w' (.sl u e size 0 [] :: L)) := by
  subst hsize hby
  have hb' : (inf.bytes : Int) * (c : Int) ≤ 281474976710656 := by rw [← Int.natCast_mul]; omega
  have hr := run_make (P := P) w t e inf zv ht hinf hz k k' 0 c (Int.le_refl _) (by omega) hb' (by omega)
  simp only [Int.toNat_zero, Int.toNat_natCast] at hr
  refine Eff.value (v := .slice (some ⟨w.heap.size, 0, none⟩) 0 c) (w' := w.alloc (.cells (madeCells zv.cells (c * inf.size)) e)) ?_ (hO.new _ (e := .sl (.slice (some ⟨w.heap.size, 0, none⟩) 0 c) e inf.size 0 []) rfl (World.ownsRow_made w _ c (Nat.zero_le _) (by unfold maxLen; exact hm) (size_madeCells _ _)))
  simp only [execOp, ho, hx, hy, Sem.run_bind, hr, Result.andThen_ok]
  rfl
theorem made_flat {α : Type} (E : Enc α) (z : α) (zv : Value) (hz : zv.cells = (E.cells z).toArray) (h1 : 0 < E.size) (n : Nat) : (madeCells zv.cells (n * E.size)).toList = flat E (List.replicate n z) := by
  apply List.ext_getElem?
  intro j
  by_cases hj : j < n * E.size
  · have hq : j / E.size < n := (Nat.div_lt_iff_lt_mul h1).2 hj
    have hr : j % E.size < (E.cells z).length := by rw [E.len]; exact Nat.mod_lt _ h1
    have hf := flat_at E (l := List.replicate n z) (i := j / E.size) (x := z) (by simp [hq]) (j := j % E.size) (List.getElem?_eq_getElem hr)
    rw [Nat.div_add_mod'] at hf
    have hc : zv.cells.size = E.size := by rw [hz]; simp [E.len]
    rw [hf]
    simp [madeCells, hj, hc]
    simp [hz, getElem!_pos, hr]
  · rw [List.getElem?_eq_none (by simp [madeCells]; omega), List.getElem?_eq_none (by rw [flat_len, List.length_replicate]; omega)]
theorem e_makeT {α : Type} {E : Enc α} {z : α} {e : TypeId} {inf : TypeInfo} {zv : Value} {bytes n : Nat} {k k' : IntKind} (hO : St w0 M w L) (ht : P.underlying t = some (.slice e)) (hinf : P.info? e = some inf) (hz : inf.zero = some zv) (hsize : inf.size = E.size) (hby : inf.bytes = bytes)
    (hzc : zv.cells = (E.cells z).toArray) (h1 : Nat.ble 1 E.size = true) (ho : o.op = .makeSlice t x y) (hx : a.eval x = .int k (n : Int)) (hy : a.eval y = .int k' (n : Int)) (hb : bytes * n ≤ 281474976710656) (hm : n ≤ 9223372036854775807) :
    Eff P o a w (fun u w' => St w0 M w' (slT u e E (List.replicate n z) :: L)) := by
  have h1 := Nat.le_of_ble_eq_true h1
  subst hby
  have hb' : (inf.bytes : Int) * (n : Int) ≤ 281474976710656 := by rw [← Int.natCast_mul]; omega
  have hr := run_make (P := P) w t e inf zv ht hinf hz k k' n n (by omega) (Int.le_refl _) hb' (by omega)
  simp only [Int.toNat_natCast] at hr
  have hrow := World.ownsRow_lit w (base := 0) (e := e) (size := inf.size) (madeCells zv.cells (n * inf.size)) n (Nat.zero_le _) (by unfold maxLen; exact hm) (size_madeCells _ _)
  rw [hsize, made_flat E z zv hzc h1 n] at hrow
  rw [hsize] at hr
  refine Eff.value (v := .slice (some ⟨w.heap.size, 0, none⟩) n n) (w' := w.alloc (.cells (madeCells zv.cells (n * E.size)) e)) ?_ (hO.new _ rfl (e := slT (.slice (some ⟨w.heap.size, 0, none⟩) n n) e E (List.replicate n z)) ?_)
  rotate_left
  · unfold slT Ent.ok
    rw [List.length_replicate]
    exact hrow
  · simp only [execOp, ho, hx, hy, Sem.run_bind, hr, Result.andThen_ok]
    rfl

/-! guards that are known -/
variable {ops : Array Oper} {Q : Exit → Act → World → Prop} {rest : List Oper} {S : World → Prop} {K : Act → World → Prop} {ks : List Nat} {F : List (Nat × Value)} {d : Nat}
def Oper.free (o : Oper) : Oper := { o with guard := none }
theorem wl_un {j : Nat} {b : Bool} {dj : Nat} {oj : Oper} {g : Value} (hF : Fr a n F) (hg : o.guard = some (j, b)) (hj : ops[j]? = some oj) (hdj : oj.dst = some dj) (hv : lk F dj = some g) (hT : isB g b = true)
    (h : wpList P ops Q ({ o with guard := none } :: rest) a w) : wpList P ops Q (o :: rest) a w := by
  have hw := wanted_of hF hg hj hdj hv
  unfold wpList at h ⊢
  rw [hw, hT, if_pos rfl]
  rw [if_pos (by simp [Region.wanted])] at h
  exact h
theorem wd_un {k : Nat} {j : Nat} {b : Bool} {dj : Nat} {oj : Oper} {g : Value} (hF : Fr a n F) (hg : o.guard = some (j, b)) (hj : ops[j]? = some oj) (hdj : oj.dst = some dj) (hv : lk F dj = some g) (hT : isB g b = true)
    (h : wpD P ops S K ({ o with guard := none } :: rest) (k :: ks) a w) : wpD P ops S K (o :: rest) (k :: ks) a w := by
  have hw := wanted_of hF hg hj hdj hv
  have h' : stepD P ops S { o with guard := none } k (wpD P ops S K rest ks) a w := h
  show stepD P ops S o k (wpD P ops S K rest ks) a w
  unfold stepD at h' ⊢
  rw [hw, hT, if_pos rfl]
  rw [if_pos (by simp [Region.wanted])] at h'
  exact h'
theorem isB_T {p : Prop} {_ : Decidable p} (h : p) : isB (.bool (decide p)) true = true := by simp [isB, h]
theorem isB_F {p : Prop} {_ : Decidable p} (h : ¬ p) : isB (.bool (decide p)) false = true := by simp [isB, h]
end
end Go.Proofs.Ytfkmlcgccffmnaa
namespace Go.Proofs.Ytfkmlcgccffmnaa
open Go Go.WideShapes Go.Deep
/-- Cells that are read as data of a type are a thing's cells. -/
def Cod {α : Type} (P : Program) (t : TypeId) (E : Enc α) (Q : α → Prop) : Prop :=
  ∀ {H : Type} (enc : TypeId × Value → H) (w : World) (base : Nat) (sp : Nat → Bool) (held : Bool) (fuel : Nat) (cs : List Value) (x : DataW H × List MemPlace),
    DataW.trod enc P w base sp held fuel t cs = some x → ∃ a : α, cs = E.cells a ∧ Q a
theorem flat_at' {α : Type} (E : Enc α) : ∀ {l : List α} {j : Nat} {u : Value}, (flat E l)[j]? = some u → ∃ i k x, l[i]? = some x ∧ (E.cells x)[k]? = some u ∧ j = i * E.size + k
  | [], j, u, h => by simp [flat] at h
  | x :: l, j, u, h => by
    have e : flat E (x :: l) = E.cells x ++ flat E l := by simp [flat]
    rw [e] at h
    by_cases hj : j < (E.cells x).length
    · rw [List.getElem?_append_left hj] at h
      exact ⟨0, j, x, rfl, h, by omega⟩
    · rw [List.getElem?_append_right (by omega)] at h
      obtain ⟨i, k, y, h1, h2, h3⟩ := flat_at' E h
      refine ⟨i + 1, k, y, by simpa using h1, h2, ?_⟩
      rw [E.len] at h3 hj
      rw [Nat.add_mul]; omega
section
variable {P : Program} {α : Type} {E : Enc α} {Q : α → Prop}
theorem open_rd {H : Type} {enc : TypeId × Value → H} {W : World} {t e : TypeId} {v : Value} {d : DataW H} {p : List MemPlace} {base : Nat} {r : Reach} (ht : P.underlying t = some (.slice e)) (hc : P.cellsOf e = E.size) (h1 : 0 < E.size) (hcod : Cod P e E Q)
    (hval : Value.okWide P W r base t v) (h : DataW.Trod enc P W 0 (fun _ => true) true t v d p) :
    ∃ l : List α, RdT W [] v E l ∧ (∀ a ∈ l, Q a) ∧ (d = .nil ∧ l = [] ∨ ∃ elems spare, d = .slice elems spare ∧ elems.length = l.length) := by
  obtain ⟨A, len, cap, rfl⟩ := okWide_slice ht hval
  obtain ⟨fuel, h⟩ := h
  have ecs : (Value.slice A len cap).cells.toList = [.slice A len cap] := rfl
  rw [ecs] at h
  rcases open_slice ht h with ⟨hcs, hx⟩ | ⟨a, len', cap', m, n, D, Pl, hcs, _, hl, hm, hmm, hx, hel⟩
  · simp only [List.cons.injEq, Value.slice.injEq, and_true] at hcs
    obtain ⟨rfl, rfl, rfl⟩ := hcs
    exact ⟨[], Rd.nil W [] E.size, fun _ h => (by cases h), .inl ⟨(Prod.mk.inj hx).1, rfl⟩⟩
  · simp only [List.cons.injEq, Value.slice.injEq, and_true] at hcs
    obtain ⟨rfl, rfl, rfl⟩ := hcs
    simp only [if_true] at hmm
    subst hmm
    have each : ∀ i, i < m → ∃ x : α, (∀ k u, (E.cells x)[k]? = some u → W.cell? (a.add (i * E.size + k)) = some u) ∧ Q x := by
      intro i hi
      obtain ⟨cs', g1, g2⟩ := hel i hi
      rw [hc] at g1
      obtain ⟨_, hlen, hcell⟩ := World.cells?_some g1
      obtain ⟨x, rfl, hq⟩ := hcod enc W _ _ _ _ _ _ g2
      refine ⟨x, fun k u hk => ?_, hq⟩
      have hkl : k < E.size := by have := (List.getElem?_eq_some_iff.1 hk).1; rw [E.len] at this; exact this
      rw [← add_add', hcell k hkl]; exact hk
    have hex : ∃ l : List α, l.length = len ∧ (∀ i x, l[i]? = some x → (∀ k u, (E.cells x)[k]? = some u → W.cell? (a.add (i * E.size + k)) = some u) ∧ Q x) := by
      clear hx hel h hval ecs
      revert hl
      induction len with
      | zero => intro _; exact ⟨[], rfl, fun i x h => by simp at h⟩
      | succ k ih =>
        intro hl
        obtain ⟨l, hll, hlx⟩ := ih (by omega)
        obtain ⟨x, hx, hq⟩ := each k (by omega)
        refine ⟨l ++ [x], by simp [hll], fun i y hy => ?_⟩
        by_cases hi : i < l.length
        · rw [List.getElem?_append_left hi] at hy; exact hlx i y hy
        · rw [List.getElem?_append_right (by omega)] at hy
          have : i - l.length = 0 := by
            cases hd : i - l.length with
            | zero => rfl
            | succ q => rw [hd] at hy; simp at hy
          rw [this] at hy
          obtain rfl : x = y := by simpa using hy
          obtain rfl : i = k := by omega
          exact ⟨hx, hq⟩
    obtain ⟨l, rfl, hlx⟩ := hex
    refine ⟨l, ⟨flat_len E l, some a, m, rfl, hl, hm, fun h0 => ⟨a, rfl, by simp, ?_, fun j u hj => ?_⟩⟩, fun x hx => ?_, .inr ⟨_, _, (Prod.mk.inj hx).1, by simp⟩⟩
    · obtain ⟨x, hx0⟩ : ∃ x, l[0]? = some x := ⟨_, List.getElem?_eq_getElem h0⟩
      have hlen : 0 < (E.cells x).length := by rw [E.len]; exact h1
      have := (hlx 0 x hx0).1 0 _ (List.getElem?_eq_getElem hlen)
      obtain ⟨o, ho, _⟩ := cells_of_cell this
      have := (Array.getElem?_eq_some_iff.1 ho).1
      rwa [block_add] at this
    · obtain ⟨i, k, x, g1, g2, rfl⟩ := flat_at' E hj
      exact (hlx i x g1).1 k u g2
    · obtain ⟨i, hi⟩ := List.getElem?_of_mem hx
      exact (hlx i x hi).2
end
theorem wf_i64 {n : Int} (h : (Lit.int .i64 n).wf = true) : -9223372036854775808 ≤ n ∧ n ≤ 9223372036854775807 := by
  simp [Lit.wf, IntKind.min, IntKind.max] at h
  exact ⟨of_decide_eq_true h.1, of_decide_eq_true h.2⟩
theorem bytes_str (s : ByteArray) : Value.string s = str s.data.toList := by simp [str]
end Go.Proofs.Ytfkmlcgccffmnaa
namespace Go.Proofs.Ytfkmlcgccffmnaa
open Go
section
variable {P : Program} {o : Oper} {a : Act} {w w0 : World} {v u : Value} {x y z : Operand} {t t' : TypeId} {M : List Nat} {L : List Ent} {size n : Nat} {xs : List Value}
theorem run_equalIn_ptr {e : TypeId} {p : Option Addr} (d : Nat) (ht : P.underlying t = some (.pointer e)) : (Op.equalIn (d + 1) t (.pointer p) (.pointer none)).run P w = .ok (decide (p = none)) w := by
  cases p <;> simp [Op.equalIn, run_underlying ht]
theorem run_equal_ptr {e : TypeId} {p : Option Addr} (ht : P.underlying t = some (.pointer e)) : (Op.equal t (.pointer p) (.pointer none)).run P w = .ok (decide (p = none)) w := run_equalIn_ptr 9999 ht
theorem run_equalIn_sl {e : TypeId} {A : Option Addr} {n c : Nat} (d : Nat) (ht : P.underlying t = some (.slice e)) : (Op.equalIn (d + 1) t (.slice A n c) (.slice none 0 0)).run P w = .ok (decide (A = none)) w := by
  cases A <;> simp [Op.equalIn, run_underlying ht]
theorem run_equal_sl {e : TypeId} {A : Option Addr} {n c : Nat} (ht : P.underlying t = some (.slice e)) : (Op.equal t (.slice A n c) (.slice none 0 0)).run P w = .ok (decide (A = none)) w := run_equalIn_sl 9999 ht
theorem set_self {α : Type} {l : List α} {i : Nat} {x : α} (h : l[i]? = some x) : l.set i x = l := by
  obtain ⟨h1, h2⟩ := List.getElem?_eq_some_iff.1 h
  rw [← h2]; exact List.set_getElem_self h1
theorem q_peq {e : TypeId} {p : Option Addr} (ht : P.underlying t = some (.pointer e)) (ho : o.op = .binOp .eql t x y t') (hx : a.eval x = .pointer p) (hy : a.eval y = .pointer none) : QV P o a w (.bool (decide (p = none))) := by
  have hg : eqGuard .eql t x y (.pointer p) (.pointer none) = pure () := rfl
  simp [QV, execOp, ho, hx, hy, hg, binOp, run_equal_ptr ht]
theorem q_pne {e : TypeId} {p : Option Addr} (ht : P.underlying t = some (.pointer e)) (ho : o.op = .binOp .neq t x y t') (hx : a.eval x = .pointer p) (hy : a.eval y = .pointer none) : QV P o a w (.bool (decide (¬ p = none))) := by
  have hg : eqGuard .neq t x y (.pointer p) (.pointer none) = pure () := rfl
  simp [QV, execOp, ho, hx, hy, hg, binOp, run_equal_ptr ht]
theorem q_sleq {e : TypeId} {A : Option Addr} {n c : Nat} (ht : P.underlying t = some (.slice e)) (ho : o.op = .binOp .eql t x y t') (hx : a.eval x = .slice A n c) (hy : a.eval y = .slice none 0 0) : QV P o a w (.bool (decide (A = none))) := by
  have hg : eqGuard .eql t x y (.slice A n c) (.slice none 0 0) = pure () := rfl
  simp [QV, execOp, ho, hx, hy, hg, binOp, run_equal_sl ht]
theorem q_atArr {e : TypeId} {k : IntKind} {ad : Addr} {i m s : Nat} (ht : P.underlying t = some (.array m e)) (hs : ∀ w, (sizeOf e).run P w = .ok s w) (ho : o.op = .indexAddr t x y) (hx : a.eval x = ptr ad) (hy : a.eval y = .int k (i : Int)) (hi : i < m) :
    QV P o a w (ptr (ad.add (i * s))) := by
  simp [QV, execOp, ho, hx, hy, Instr.indexAt, asIntOf, run_underlying ht, Instr.sureAddr, hi, hs, ptr]
/-- 's[i:j]' -/
def cutV (v : Value) (i j s : Nat) : Value := match v with | .slice A _ c => .slice (if c = i then A else A.map (·.add (i * s))) (j - i) (c - i) | v => v
theorem q_cut2 {e : TypeId} {w1 : World} {k k' : IntKind} {i j : Nat} (hR : Rd w1 M v size n xs) (ht : P.underlying t = some (.slice e)) (hs : ∀ w, (sizeOf e).run P w = .ok size w) (ho : o.op = .slice t x (some y) (some z) none) (hx : a.eval x = v) (hy : a.eval y = .int k (i : Int)) (hz : a.eval z = .int k' (j : Int)) (hij : i ≤ j) (hj : j ≤ n) :
    QV P o a w (cutV v i j size) := by
  obtain ⟨_, A, cap, rfl, hc, _, _⟩ := hR
  have hj' : j ≤ cap := by omega
  simp [QV, execOp, ho, hx, hy, hz, Instr.sliceAt, Instr.slice, run_underlying ht, Instr.sliceBounds, Instr.sliceBound, asIntOf, hij, hj', hs, cutV]
theorem Rd.cut2 {i j : Nat} (hR : Rd w M v size n xs) (hij : i ≤ j) (hj : j ≤ n) : Rd w M (cutV v i j size) size (j - i) ((xs.drop (i * size)).take ((j - i) * size)) := by
  obtain ⟨hl, A, cap, rfl, hc, hm, hn⟩ := hR
  have hmul : (j - i) * size + i * size ≤ n * size := by rw [← Nat.add_mul]; exact Nat.mul_le_mul_right _ (by omega)
  refine ⟨?_, _, cap - i, rfl, by omega, by omega, fun h0 => ?_⟩
  · rw [List.length_take, List.length_drop, hl]; omega
  · obtain ⟨ad, rfl, h1, h2, h3⟩ := hn (by omega)
    have hci : ¬ cap = i := by omega
    refine ⟨ad.add (i * size), by simp [hci], by rw [block_add]; exact h1, by rw [block_add]; exact h2, fun q u hu => ?_⟩
    rw [add_add']
    refine h3 _ u ?_
    rw [List.getElem?_take] at hu
    split at hu
    · rw [List.getElem?_drop] at hu; exact hu
    · cases hu
theorem RdT.cut2 {α : Type} {E : Enc α} {l : List α} {i j : Nat} (hR : RdT w M v E l) (hij : i ≤ j) (hj : j ≤ l.length) : RdT w M (cutV v i j E.size) E ((l.drop i).take (j - i)) := by
  have := Rd.cut2 hR hij hj
  rw [flat_drop, flat_take] at this
  unfold RdT
  rw [List.length_take, List.length_drop, show min (j - i) (l.length - i) = j - i by omega]
  exact this

/-! stores of many cells into an own slice -/
theorem own_cells {i k e : Nat} {vs : List Value} (hO : St w0 M w L) (hi : L[i]? = some (.sl v e size n xs)) (hk : k + vs.length ≤ xs.length) (h1 : ∀ u ∈ vs, u.oneCell' = true) (hne : vs ≠ []) :
    ∃ w', (storeCells ((sa v).add k) vs 0).run P w = .ok () w' ∧ St w0 M w' (L.set i (.sl v e size n (xs.take k ++ vs ++ xs.drop (k + vs.length)))) := by
  have hown : w.ownsRow 0 e size v n xs := hO.ok hi
  have hvs : 1 ≤ vs.length := List.length_pos_iff.2 hne
  rcases hown.2 with ⟨rfl, rfl⟩ | ⟨g, cap, cur, rfl, hb, hg, hnc, hm, hsz, htk⟩
  · have := hown.1
    rw [Nat.zero_mul] at this
    omega
  · have hlen := hown.1
    have hcs : n * size ≤ cur.size := by rw [hsz]; exact Nat.mul_le_mul_right _ hnc
    have hst := run_storeCells_at P g k e vs 0 cur w hg (by simp; omega) h1
    simp only [Nat.add_zero] at hst
    refine ⟨w.setRow g (cur.toList.take k ++ vs ++ cur.toList.drop (k + vs.length)).toArray, ?_, hO.turnAt hi rfl rfl rfl (by simp) (fun c _ hc => setRow_other w g c _ (fun e => hc (by simp [Ent.blk, Value.ownBlock, e]))) ?_ (.inl rfl)⟩
    · rw [show (sa (.slice (some ⟨g, 0, none⟩) n cap)).add k = ⟨g, k, none⟩ from adr_add g k]
      exact hst
    · refine ⟨by simp; omega, .inr ⟨g, cap, _, rfl, hb, setRow_heap w g _ _ e _ hg, hnc, hm, ?_, ?_⟩⟩
      · simp; omega
      · rw [← htk] at hlen hk ⊢
        simp only [List.length_take, Array.length_toList] at hlen hk
        have hk' : k + vs.length ≤ n * size := by omega
        rw [List.take_append, List.take_append, List.take_take, List.take_take, List.drop_take]
        simp only [List.length_append, List.length_take, Array.length_toList]
        rw [show min (n * size) k = k by omega, show min k cur.size = k by omega]
        rw [show min k (n * size) = k by omega, List.take_of_length_le (l := vs) (by omega)]
theorem flat_put {α : Type} (E : Enc α) (l fs : List α) (k : Nat) : (flat E l).take (k * E.size) ++ flat E fs ++ (flat E l).drop (k * E.size + (flat E fs).length) = flat E (l.take k ++ fs ++ l.drop (k + fs.length)) := by
  rw [flat_take, flat_len, ← Nat.add_mul, flat_drop, flat_app, flat_app]
/-- copy onto an own slice's rest. -/
theorem e_copyT {α : Type} {E : Enc α} {l fs : List α} {e i k : Nat} {v2 : Value} {M2 : List Nat} (hO : St w0 M w L) (hi : L[i]? = some (slT v e E l)) (hR : RdT w M2 v2 E fs) {et : TypeId} (ht : P.underlying t = some (.slice et)) (hs : ∀ w, (sizeOf et).run P w = .ok E.size w)
    (ho : o.op = .call { callee := .builtin .copy, args := #[x, y], argTypes := #[t, t'] }) (hx : a.eval x = dropV v k E.size) (hy : a.eval y = v2) (hk : k + fs.length ≤ l.length) (h0 : Nat.ble 1 E.size = true) :
    Eff P o a w (fun _ w' => St w0 M w' (L.set i (slT v e E (l.take k ++ fs ++ l.drop (k + fs.length))))) := by
  have hsz := Nat.le_of_ble_eq_true h0
  have hown : w.ownsRow 0 e E.size v l.length (flat E l) := hO.ok hi
  obtain ⟨hfl, A2, c2, rfl, h2, _, hn2⟩ := hR
  have hlen : (l.take k ++ fs ++ l.drop (k + fs.length)).length = l.length := by
    simp only [List.length_append, List.length_take, List.length_drop]; omega
  obtain ⟨_, A, cap, rfl, hc, _, hn⟩ := hO.rd i hi
  have hmin : Nat.min fs.length (l.length - k) = fs.length := Nat.min_eq_left (by omega)
  by_cases hf : fs = []
  · subst hf
    have hL : L.set i (slT (.slice A l.length cap) e E (l.take k ++ [] ++ l.drop (k + ([] : List α).length))) = L := by
      rw [List.append_nil, List.length_nil, Nat.add_zero, List.take_append_drop]
      exact set_self hi
    rw [hL]
    refine Eff.value (w' := w) (v := goInt 0) ?_ hO
    have hfc : (Builtin.firstCells E.size 0 (.slice A2 0 c2)).run P w = .ok #[] w := by
      cases A2 with
      | none => simp [Builtin.firstCells]
      | some ad => exact run_firstCells_some (P := P) w E.size 0 ad 0 c2 [] (by simp) (by simp)
    have hcopy : (Builtin.copy_ #[t, t'] o.type #[dropV (.slice A l.length cap) k E.size, .slice A2 0 c2]).run P w = .ok (goInt 0) w := by
      simp only [Builtin.copy_, dropV]
      simp only [List.getElem?_toArray, List.getElem?_cons_zero, List.getElem?_cons_succ, Sem.run_bind, run_underlying ht, Result.andThen_ok, Builtin.lenOf, Sem.run_pure, Nat.zero_min, hs, hfc]
      split <;> simp [storeCells]
    simp only [execOp, ho, resolve, invoke, builtin, Sem.run_bind, Sem.run_pure, Result.andThen_ok, List.map_toArray, List.map_cons, List.map_nil, hx, hy, List.length_nil] at hcopy ⊢
    rw [hcopy]
    rfl
  · have hfp : 0 < fs.length := List.length_pos_iff.2 hf
    obtain ⟨ad2, rfl, _, _, hcell⟩ := hn2 hfp
    obtain ⟨ad, rfl, _⟩ := hn (by omega)
    have hci : ¬ cap = k := by omega
    have hfne : flat E fs ≠ [] := fun h => by
      have := congrArg List.length h
      rw [flat_len, List.length_nil] at this
      have h3 := Nat.mul_pos hfp hsz
      omega
    obtain ⟨w', hst, hS⟩ := own_cells (P := P) (k := k * E.size) (vs := flat E fs) hO hi (by rw [flat_len, flat_len, ← Nat.add_mul]; exact Nat.mul_le_mul_right _ hk) (flat_oneCell E fs) hfne
    rw [flat_put] at hS
    have hfc := run_firstCells_some (P := P) w E.size fs.length ad2 fs.length c2 (flat E fs) (flat_len E fs) (fun j v hj => hcell j v hj)
    refine Eff.value (w' := w') (v := goInt fs.length) ?_ (by unfold slT; rw [hlen]; exact hS)
    have hst' : (storeCells (ad.add (k * E.size)) (flat E fs)).run P w = .ok () w' := hst
    have hcopy : (Builtin.copy_ #[t, t'] o.type #[dropV (.slice (some ad) l.length cap) k E.size, .slice (some ad2) fs.length c2]).run P w = .ok (goInt fs.length) w' := by
      simp only [Builtin.copy_, dropV, hci, if_false, Option.map_some]
      simp only [List.getElem?_toArray, List.getElem?_cons_zero, List.getElem?_cons_succ, Sem.run_bind, run_underlying ht, Result.andThen_ok, Builtin.lenOf, Sem.run_pure, hs, hmin, hfc, hst']
    simp only [execOp, ho, resolve, invoke, builtin, Sem.run_bind, Sem.run_pure, Result.andThen_ok, List.map_toArray, List.map_cons, List.map_nil, hx, hy]
    rw [hcopy]
    rfl
/-- clear of a cut of an own slice. -/
theorem e_clearT {α : Type} {E : Enc α} {l : List α} {z0 : α} {e i p q : Nat} {zv : Value} (hO : St w0 M w L) (hi : L[i]? = some (slT v e E l)) {et : TypeId} (ht : P.underlying t = some (.slice et)) (hz : ∀ w, (zeroValue et).run P w = .ok zv w) (hzc : zv.cells = (E.cells z0).toArray)
    (ho : o.op = .call { callee := .builtin .clear, args := #[x], argTypes := #[t] }) (hx : a.eval x = cutV v p q E.size) (hpq : p ≤ q) (hq : q ≤ l.length) (h0 : Nat.ble 1 E.size = true) :
    Eff P o a w (fun _ w' => St w0 M w' (L.set i (slT v e E (l.take p ++ List.replicate (q - p) z0 ++ l.drop q)))) := by
  have hsz := Nat.le_of_ble_eq_true h0
  obtain ⟨_, A, cap, rfl, hc, _, hn⟩ := hO.rd i hi
  have hlen : (l.take p ++ List.replicate (q - p) z0 ++ l.drop q).length = l.length := by
    simp only [List.length_append, List.length_take, List.length_drop, List.length_replicate]; omega
  by_cases hpq' : q - p = 0
  · have hL : L.set i (slT (.slice A l.length cap) e E (l.take p ++ List.replicate (q - p) z0 ++ l.drop q)) = L := by
      rw [hpq', List.replicate_zero, List.append_nil, show q = p by omega, List.take_append_drop]
      exact set_self hi
    rw [hL]
    refine Eff.value (w' := w) (v := .tuple #[]) ?_ hO
    have hclear : (Builtin.clear_ #[t] o.type #[cutV (.slice A l.length cap) p q E.size]).run P w = .ok (.tuple #[]) w := by
      simp only [Builtin.clear_, cutV, hpq']
      simp only [List.getElem?_toArray, List.getElem?_cons_zero, Sem.run_bind, run_underlying ht, Result.andThen_ok]
      cases A <;> by_cases h : cap = p <;> simp [h]
    simp only [execOp, ho, resolve, invoke, builtin, Sem.run_bind, Sem.run_pure, Result.andThen_ok, List.map_toArray, List.map_cons, List.map_nil, hx]
    rw [hclear]
    rfl
  · obtain ⟨ad, rfl, _⟩ := hn (by omega)
    have hci : ¬ cap = p := by omega
    have hrl : (List.replicate (q - p) z0).length = q - p := List.length_replicate ..
    have hfne : flat E (List.replicate (q - p) z0) ≠ [] := fun h => by
      have := congrArg List.length h
      rw [flat_len, List.length_nil, hrl] at this
      have h3 := Nat.mul_pos (Nat.pos_of_ne_zero hpq') hsz
      omega
    obtain ⟨w', hst, hS⟩ := own_cells (P := P) (k := p * E.size) (vs := flat E (List.replicate (q - p) z0)) hO hi (by rw [flat_len, flat_len, ← Nat.add_mul, hrl]; exact Nat.mul_le_mul_right _ (by omega)) (flat_oneCell E _) hfne
    rw [flat_put, hrl, show p + (q - p) = q by omega] at hS
    have hzc2 : (Builtin.zeroCells zv.cells (q - p)).toList = flat E (List.replicate (q - p) z0) := by
      have := made_flat E z0 zv hzc hsz (q - p)
      rw [← this]
      have e2 : zv.cells.size = E.size := by rw [hzc]; simp [E.len]
      simp only [Builtin.zeroCells, madeCells, e2]
    refine Eff.value (w' := w') (v := .tuple #[]) ?_ (by unfold slT; rw [hlen]; exact hS)
    have hst' : (storeCells (ad.add (p * E.size)) (flat E (List.replicate (q - p) z0))).run P w = .ok () w' := hst
    obtain ⟨m, hm⟩ : ∃ m, q - p = m + 1 := ⟨q - p - 1, by omega⟩
    have hclear : (Builtin.clear_ #[t] o.type #[cutV (.slice (some ad) l.length cap) p q E.size]).run P w = .ok (.tuple #[]) w' := by
      simp only [Builtin.clear_, cutV, hci, if_false, Option.map_some]
      rw [hm] at hzc2 hst' ⊢
      simp only [List.getElem?_toArray, List.getElem?_cons_zero, Sem.run_bind, run_underlying ht, Result.andThen_ok, hz, hzc2, hst', Sem.run_pure]
    simp only [execOp, ho, resolve, invoke, builtin, Sem.run_bind, Sem.run_pure, Result.andThen_ok, List.map_toArray, List.map_cons, List.map_nil, hx]
    rw [hclear]
    rfl
end
/-! ### Blocks that are only read -/
def gl1 (b : Nat) : Value := .slice (some (adr b)) 1 1
section
variable {w w0 : World} {M : List Nat} {L B : List Ent} {e f g h : Ent} {t : TypeId} {cs : List Value} {b : Nat} {v : Value}
theorem St.rdOb (hO : St w0 M w L) (i : Nat) (hi : L[i]? = some (.ob b t cs)) : Rd w [] (gl1 b) cs.length 1 cs := by
  refine ⟨by simp, some (adr b), 1, rfl, Nat.le_refl _, by decide, fun _ => ⟨adr b, rfl, by simp, Ent.ok_lt (hO.ok hi) rfl, fun j u hj => hO.cell i hi hj⟩⟩
theorem rdB_cell {m : Nat} (hR : Rd w M (gl1 b) m 1 cs) {k : Nat} (hk : cs[k]? = some v) : w.cell? ((adr b).add k) = some v := Rd.cell hR hk
theorem rdB_cell0 {m : Nat} (hR : Rd w M (gl1 b) m 1 cs) (hk : cs[0]? = some v) : w.cell? (adr b) = some v := Rd.cell hR hk
theorem rdB_cells {m : Nat} (hR : Rd w M (gl1 b) m 1 cs) (k n : Nat) {cs' : List Value} (hk : (cs.drop k).take n = cs') : ∀ j u, cs'[j]? = some u → w.cell? (((adr b).add k).add j) = some u := fun j u hj => by
  rw [add_add']
  refine rdB_cell hR ?_
  subst hk
  rw [List.getElem?_take] at hj
  split at hj
  · simpa using hj
  · cases hj
theorem rdB_all {m : Nat} (hR : Rd w M (gl1 b) m 1 cs) : ∀ j u, cs[j]? = some u → w.cell? ((adr b).add j) = some u := fun _ _ hj => rdB_cell hR hj
theorem Rd.at0 {m n : Nat} {xs : List Value} (h : Rd w0 M v m n xs) (hO : St w0 M w L) : Rd w [] v m n xs := Rd.mono (Rd.now h hO) (fun _ h => by cases h)
theorem St.own4 (hO : St w0 M w (e :: f :: g :: h :: B)) : Owns w [e, f, g, h] := (St.front (A := [e, f, g, h]) hO).owns
theorem St.call4 {A' : List Ent} {w' : World} (hO : St w0 M w (e :: f :: g :: h :: B)) (hc : St w (blks [e, f, g, h]) w' A') : St w0 M w' (A' ++ B) := St.call (A := [e, f, g, h]) hO hc
theorem RdT.at4 {α : Type} {E : Enc α} {l : List α} (hR : RdT w0 M v E l) (hO : St w0 M w (e :: f :: g :: h :: B)) : RdT w (blks [e, f, g, h]) v E l := RdT.now hR (St.front (A := [e, f, g, h]) hO)
theorem St.rdT4 {α : Type} {E : Enc α} {l : List α} {x y z q : Ent} (hO : St w0 M w (x :: y :: z :: q :: B)) (i : Nat) {e : Nat} (hi : B[i]? = some (slT v e E l)) : RdT w (blks [x, y, z, q]) v E l := St.rdB (A := [x, y, z, q]) hO i hi
end
/-! ### Results -/
section
variable {P : Program} {fn : Func} {a : Act} {w : World} {R : Value → World → Prop} {m k l q size : Nat} {L : List (Nat × Value)} {ty : TypeId} {ad : Addr} {cs : List Value} {v u : Value}
theorem r_c1 (hF : Fr a m L) (hr : fn.results = #[.cell l ty]) (hu : lk L l = some (ptr ad))
    (ha : ∀ w, (isAgg ty).run P w = .ok true w) (hs : ∀ w, (sizeOf ty).run P w = .ok size w) (hc : ∀ j u, cs[j]? = some u → w.cell? (ad.add j) = some u) (hl : cs.length = size) (hR : R (.agg cs.toArray) w) : Post P fn R .ret a w := by
  subst hl
  refine ⟨hF.defs, .agg cs.toArray, ?_, _, rfl, hR⟩
  have e2 := hF.get l _ hu
  rw [Array.getD_eq_getD_getElem?] at e2
  simp [results, hr, e2, ptr, asAddr, loadVar, ha, hs, run_loadCells_list w ad cs hc]
theorem r_ct (hF : Fr a m L) (hr : fn.results = #[.cell l ty, .tmp k]) (hu : lk L l = some (ptr ad)) (hv : lk L k = some v)
    (ha : ∀ w, (isAgg ty).run P w = .ok true w) (hs : ∀ w, (sizeOf ty).run P w = .ok size w) (hc : ∀ j u, cs[j]? = some u → w.cell? (ad.add j) = some u) (hl : cs.length = size) (hR : R (.tuple #[.agg cs.toArray, v]) w) : Post P fn R .ret a w := by
  subst hl
  refine ⟨hF.defs, .tuple #[.agg cs.toArray, v], ?_, _, rfl, hR⟩
  have e1 := hF.get k v hv
  have e2 := hF.get l _ hu
  rw [Array.getD_eq_getD_getElem?] at e1 e2
  simp [results, hr, e1, e2, ptr, asAddr, loadVar, ha, hs, run_loadCells_list w ad cs hc]
end
end Go.Proofs.Ytfkmlcgccffmnaa
namespace Go.Proofs.Ytfkmlcgccffmnaa
open Go
def setAllG (pl : List (Nat × Nat)) : List Value → List (Nat × Value) → List Value
  | cs, [] => cs
  | cs, (i, v) :: r => setAllG pl (cs.take (pl.getD i (0, 0)).1 ++ v.cells.toList ++ cs.drop ((pl.getD i (0, 0)).1 + v.cells.toList.length)) r
def okSetG (pl : List (Nat × Nat)) (n : Nat) : List (Nat × Value) → Bool
  | [] => true
  | (i, v) :: r => Nat.ble (i + 1) pl.length && Nat.beq v.cells.toList.length (pl.getD i (0, 0)).2 && Nat.ble ((pl.getD i (0, 0)).1 + v.cells.toList.length) n && okSetG pl n r
theorem fill_setG (pl : List (Nat × Nat)) (place : Nat → Option (Nat × Nat)) (hpl : ∀ i, i < pl.length → place i = some (pl.getD i (0, 0))) : ∀ (vs : List (Nat × Value)) (cs : List Value), okSetG pl cs.length vs = true →
    Instr.fill place cs.toArray vs = some (setAllG pl cs vs).toArray
  | [], cs, _ => rfl
  | (i, v) :: r, cs, h => by
    simp only [okSetG, Bool.and_eq_true] at h
    obtain ⟨⟨⟨h1, h2⟩, h3⟩, h4⟩ := h
    have h1 := Nat.le_of_ble_eq_true h1
    have h2 := Nat.eq_of_beq_eq_true h2
    have h3 := Nat.le_of_ble_eq_true h3
    have hp := hpl i (by omega)
    have hsz : v.cells.size = v.cells.toList.length := by simp
    unfold Instr.fill
    simp only [hp]
    have hb : (decide (v.cells.size ≠ (pl.getD i (0, 0)).2) || decide ((pl.getD i (0, 0)).1 + v.cells.size > cs.toArray.size)) = false := by
      have e2 : cs.toArray.size = cs.length := by simp
      rw [e2, hsz, Bool.or_eq_false_iff]
      exact ⟨decide_eq_false (by omega), decide_eq_false (by omega)⟩
    simp only [hb, Bool.false_eq_true, if_false]
    have hfold : v.cells.zipIdx.foldl (fun cs (c, j) => cs.setIfInBounds ((pl.getD i (0, 0)).1 + j) c) cs.toArray = (cs.take (pl.getD i (0, 0)).1 ++ v.cells.toList ++ cs.drop ((pl.getD i (0, 0)).1 + v.cells.toList.length)).toArray := by
      have hf := fold_set v.cells.toList (pl.getD i (0, 0)).1 0 (cs.take (pl.getD i (0, 0)).1) (cs.drop (pl.getD i (0, 0)).1) (by rw [List.length_take]; omega) (by rw [List.length_drop]; omega)
      rw [List.take_append_drop, List.drop_drop] at hf
      rw [← Array.foldl_toList, Array.toList_zipIdx]
      exact hf
    rw [hfold, fill_setG pl place hpl r _ (by
      have : (cs.take (pl.getD i (0, 0)).1 ++ v.cells.toList ++ cs.drop ((pl.getD i (0, 0)).1 + v.cells.toList.length)).length = cs.length := by
        simp only [List.length_append, List.length_take, List.length_drop]; omega
      rw [this]; exact h4)]
    rfl
section
variable {P : Program} {o : Oper} {a : Act} {w w0 : World} {v u : Value} {x y z : Operand} {t t' : TypeId} {M : List Nat} {L : List Ent} {n : Nat} {F : List (Nat × Value)}
theorem c_buildG {fs : Array Field} {parts : List (Nat × Operand)} {vs : List (Nat × Value)} {zv : Value} {pl : List (Nat × Nat)} {cs : List Value} (hF : Fr a n F) (ht : P.underlying t = some (.struct fs)) (hz : ∀ w, (zeroValue t).run P w = .ok zv w)
    (hp : PlacesG P t pl) (hzc : zv.cells = cs.toArray) (ho : o.op = .build t parts.toArray) (hv : evp F parts = some vs) (hok : okSetG pl cs.length vs = true) : QV P o a w (.agg (setAllG pl cs vs).toArray) :=
  q_build (vs := vs) ht hz (hp fs ht) ho (by rw [List.map_toArray, hF.evalp hv]) (by
    rw [hzc]
    exact fill_setG pl _ (fun i hi => by simp [List.getElem?_eq_getElem hi]) vs cs hok)
theorem c_buildArr {m e size : Nat} {parts : List (Nat × Operand)} {vs : List (Nat × Value)} {zv : Value} {cs : List Value} (hF : Fr a n F) (ht : P.underlying t = some (.array m e)) (hz : ∀ w, (zeroValue t).run P w = .ok zv w) (hs : ∀ w, (sizeOf e).run P w = .ok size w)
    (hzc : zv.cells = cs.toArray) (ho : o.op = .build t parts.toArray) (hv : evp F parts = some vs) (hok : okSetG ((List.range m).map fun i => (i * size, size)) cs.length vs = true) : QV P o a w (.agg (setAllG ((List.range m).map fun i => (i * size, size)) cs vs).toArray) := by
  have hfill : Instr.fill (fun i => some (i * size, size)) cs.toArray vs = some (setAllG ((List.range m).map fun i => (i * size, size)) cs vs).toArray :=
    fill_setG _ _ (fun i hi => by
      have hi' : i < m := by simpa using hi
      simp [hi']) vs cs hok
  have hv' : (parts.toArray.map fun (i, x) => (i, a.eval x)).toList = vs := by rw [List.map_toArray, hF.evalp hv]
  simp only [QV, execOp, ho, Sem.run_bind, Instr.build, hz, Result.andThen_ok, run_underlying ht, hs, hv', hzc, hfill]
  rfl
theorem e_build0 {e : TypeId} {size : Nat} (hO : St w0 M w L) (ht : P.underlying t = some (.slice e)) (hs : ∀ w, (sizeOf e).run P w = .ok size w) (ho : o.op = .buildSlice t 0 #[]) :
    Eff P o a w (fun u w' => ∃ b, u = .slice (some (adr b)) 0 0 ∧ St w0 M w' (.sl (.slice (some (adr b)) 0 0) e size 0 [] :: L)) := by
  refine Eff.value (w' := w.alloc (.cells #[] e)) (v := .slice (some (adr w.heap.size)) 0 0) ?_ ⟨_, rfl, ?_⟩
  · simp only [execOp, ho, Sem.run_bind, Instr.buildSlice, run_underlying ht, Result.andThen_ok, hs, Nat.zero_mul]
    simp [Instr.fill, newRow, adr, Array.range_zero']
  · exact hO.newSl e size 0 [] (by simp) (Nat.zero_le _)
theorem q_atArrK {e : TypeId} {k : IntKind} {ad : Addr} {i m s d : Nat} (ht : P.underlying t = some (.array m e)) (hs : ∀ w, (sizeOf e).run P w = .ok s w) (ho : o.op = .indexAddr t x y) (hx : a.eval x = ptr (ad.add d)) (hy : a.eval y = .int k (i : Int)) (hi : i < m) :
    QV P o a w (ptr (ad.add (d + i * s))) := by
  have := q_atArr (P := P) (w := w) ht hs ho hx hy hi
  rwa [add_add'] at this
end
end Go.Proofs.Ytfkmlcgccffmnaa
