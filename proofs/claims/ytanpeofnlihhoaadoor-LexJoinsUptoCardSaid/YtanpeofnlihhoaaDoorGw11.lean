/- GW11: behind a range over a function. -/
import Derived.Test.YtanpeofnlihhoaaDoorGw10
namespace Go.Proofs.YtanpeofnlihhoaaDoor
open Go
def Ent.noMp : Ent → Bool | .mp _ _ => false | .gp _ _ _ _ => false | _ => true
section
variable {w0 w w' W : World} {M : List Nat} {L A B L' : List Ent} {row : Option Nat}
theorem Ent.isCells {e : Ent} {b : Nat} (h : e.ok w) (hb : e.blk = some b) (hm : e.noMp = true) : ∃ o : Obj, w.heap[b]? = some o ∧ o.isCells = true := by
  cases e with
  | ob b' t cs => cases hb; exact ⟨_, h, rfl⟩
  | mp b' o => cases hm
  | gp bs ok st lt => cases hm
  | sl v e size n xs =>
    rcases h.2 with ⟨rfl, _⟩ | ⟨g, cap, cur, rfl, _, hg, _⟩
    · cases hb
    · cases hb; exact ⟨_, hg, rfl⟩
theorem blks_cells (hA : ∀ e ∈ L, e.ok w) (hm : L.all Ent.noMp = true) {b : Nat} (hb : b ∈ blks L) : ∃ o : Obj, w.heap[b]? = some o ∧ o.isCells = true := by
  obtain ⟨e, he, hb⟩ := mem_blk.1 hb
  have hm' := List.all_eq_true.1 hm e he
  exact Ent.isCells (hA e he) (by rw [Ent.bs_of (by cases e <;> first | rfl | cases hm')] at hb; exact Option.mem_toList.1 hb) (List.all_eq_true.1 hm e he)
theorem St.grown (h : St w0 M w L) (hm : L.all Ent.noMp = true) (hg : w.grownBy w' row) (hr : ∀ r, row = some r → w0.heap.size ≤ r ∧ ∃ o : Obj, w.heap[r]? = some o ∧ o.isCells = false) : St w0 M w' L := by
  refine ⟨hg.os.trans h.os, hg.tape.trans h.tape, hg.output.trans h.output, Nat.le_trans h.le hg.size, fun b hb hM => ?_, fun e he => ?_, h.nodup, h.src⟩
  · refine (hg.block b (Nat.lt_of_lt_of_le hb h.le) fun e => ?_).trans (h.keep b hb hM)
    have := (hr b e.symm).1
    omega
  · refine Ent.ok_keep (h.own e he) fun b hb => hg.block b (Ent.ok_lts (h.own e he) hb) (fun e2 => ?_)
    obtain ⟨_, o, ho, hc⟩ := hr b e2.symm
    obtain ⟨o', ho', hc'⟩ := blks_cells h.own hm (mem_blk.2 ⟨e, he, hb⟩)
    rw [ho] at ho'; cases ho'; rw [hc] at hc'; cases hc'
theorem St.others (hA : ∀ e ∈ L, e.ok W) (hm : L.all Ent.noMp = true) (hO : St W (blks L) w L') : KeepsOthers W w := by
  refine ⟨hO.le, fun k o hk hc => ?_⟩
  have hlt : k < W.heap.size := (Array.getElem?_eq_some_iff.1 hk).1
  refine (hO.keep k hlt fun hb => ?_).trans hk
  obtain ⟨o', ho', hc'⟩ := blks_cells hA hm hb
  rw [hk] at ho'; cases ho'; rw [hc] at hc'; cases hc'
theorem St.keepOf (hS : St w0 M W (A ++ B)) (hO : St W (blks A) w L') {b : Nat} (hb : b ∈ blks B) : w.heap[b]? = W.heap[b]? := by
  have hn := hS.nodup
  have hsp : blks (A ++ B) = blks A ++ blks B := by simp [blks]
  rw [hsp, List.nodup_append] at hn
  exact hO.keep b (hS.lt (by rw [hsp]; exact List.mem_append_right _ hb)) fun h => hn.2.2 b h b hb rfl
end
section
variable {P : Program} {a : Act} {w : World} {n : Nat}
def wd (ds : List Deferred) (a : Act) : Act := { a with defers := ds }
theorem put_wd (ds : List Deferred) (a : Act) (d : Option Tmp) (v : Value) : (wd ds a).put d v = wd ds (a.put d v) := by cases d <;> rfl
theorem eval_wd (ds : List Deferred) (a : Act) : (wd ds a).eval = a.eval := by funext x; cases x <;> rfl
/-- loads, stores and moves alone -/
def plainOp (o : Oper) : Bool := match o.op with | .load _ _ => true | .store _ _ _ => true | .move _ => true | .assign _ => true | _ => false
theorem plain_run {o : Oper} (h : plainOp o = true) (ρ : Operand → Value) (w : World) : (∃ v w', (execOp ρ o).run P w = .ok (.value v) w') ∨ (∃ w', (execOp ρ o).run P w = .ok .skip w') ∨ ∃ x w', (execOp ρ o).run P w = .halt x w' := by
  unfold plainOp at h
  unfold execOp
  cases ho : o.op <;> simp only [ho] at h <;> first | (cases h; done) | skip
  case move x => exact .inl ⟨_, _, rfl⟩
  case assign x => exact .inl ⟨_, _, rfl⟩
  case load t x =>
    simp only [Sem.run_bind]
    cases (Instr.loadAt t (ρ x)).run P w with
    | ok v w' => exact .inl ⟨_, _, rfl⟩
    | halt x w' => exact .inr (.inr ⟨_, _, rfl⟩)
  case store t x y =>
    simp only [Sem.run_bind]
    cases (Instr.storeAt t (ρ x) (ρ y)).run P w with
    | ok v w' => exact .inr (.inl ⟨_, rfl⟩)
    | halt x w' => exact .inr (.inr ⟨_, _, rfl⟩)
def onlyQ (K : Act → World → Prop) : Exit → Act → World → Prop
  | .normal, a, w => K a w
  | _, _, _ => False
theorem only_out {K : Act → World → Prop} : ¬ LetsOut (onlyQ K) := fun ⟨_, _, h⟩ => h
theorem ops_wd {ops : Array Oper} {Q : Exit → Act → World → Prop} {K : Act → World → Prop} (ds : List Deferred) (hp : ops.all plainOp = true) (hK : ∀ a w, K a w → Q .normal (wd ds a) w) :
    ∀ is a w, wpOps P ops (onlyQ K) is a w → wpOps P ops Q is (wd ds a) w := by
  intro is
  induction is with
  | nil => intro a w h; exact hK a w h
  | cons i rest ih =>
    intro a w h
    unfold wpOps at h ⊢
    cases ho : ops[i]? with
    | none => simp only [ho] at h ⊢; exact ih a w h
    | some o =>
      simp only [ho] at h ⊢
      have ht : (wd ds a).tmps = a.tmps := rfl
      rw [ht]
      split at h
      · rename_i hw
        rw [if_pos hw]
        rcases h with h | h
        · refine .inl ?_
          have hpo := Array.all_eq_true'.1 hp o (Array.mem_of_getElem? ho)
          unfold Oper.wp at h ⊢
          rw [eval_wd]
          rcases plain_run (P := P) hpo a.eval w with ⟨v, w', e⟩ | ⟨w', e⟩ | ⟨x, w', e⟩
          · rw [e] at h ⊢
            show wpOps P ops Q rest ((wd ds a).put o.dst v) w'
            rw [put_wd]; exact ih _ _ h
          · rw [e] at h ⊢
            show wpOps P ops Q rest ((wd ds a).put o.dst undef) w'
            rw [put_wd]; exact ih _ _ h
          · rw [e] at h
            cases x <;> exact h.elim
        · exact absurd h.2 only_out
      · rename_i hw
        rw [if_neg hw, put_wd]
        exact ih _ _ h
theorem wp_region_DW {id : Nat} {ls : List Oper} {Q : Exit → Act → World → Prop} (ds : List Deferred) (ks : List Nat) (S : World → Prop) (K : Act → World → Prop) (hm : P.follows .mixedOrders = true) (hlook : lookD ls.toArray ks = true)
    (hS : S w.drew) (hp : ls.toArray.all plainOp = true) (hK : ∀ a w, K a w → Q .normal (wd ds a) w) (h : wpD P ls.toArray S K ls ks a w.drew) : (Code.region id ls.toArray true).wp P Q (wd ds a) w := by
  refine wp_region_draw fun t => ops_wd ds hp hK _ _ _ ?_
  simp only [Region.schedule, hm, Bool.true_or, if_true]
  exact wpAny_sound ls.toArray.size t _ a _ (any_D ks S hlook hS h)
/-- A body that holds a range over a function. -/
def PostM (P : Program) (n : Nat) (fn : Func) (R : Value → World → Prop) : Exit → Act → World → Prop := bodyPostM Fence.wide n P fn fun e w' => ∃ v, e = .returned v ∧ R v w'
theorem ret_ofM {f : Nat} {fn : Func} {c : Code} {args : Array Value} {R : Value → World → Prop} (n : Nat) (hf : P.funcs[f]? = some fn) (hb : fn.body = some c) {m : Nat} (hm : fn.ntmps = m) (L : List (Nat × Value)) (hle : Nat.ble args.size m = true) (hL : AllIn ((List.range args.size).zip args.toList) L)
    (h : ∀ a, Fr a m L → c.wp P (PostM P n fn R) a w) : Ret P f args w R := by
  refine callsIn_wide.1 (callsIn_of_wp_marks (n := n) hf hb trivial (wpIn_wide.2 ?_) rfl)
  have := Fr.init args (fn.ntmps - args.size) L hL
  rw [show args.size + (fn.ntmps - args.size) = m by rw [hm]; have := Nat.le_of_ble_eq_true hle; omega] at this
  exact h _ this
/-- the way out behind one range over a function: two results in variables of one cell -/
theorem rM_cc {fn : Func} {R : Value → World → Prop} {m : Nat} {L : List (Nat × Value)} {k l D : Nat} {t1 t2 : TypeId} {ad ad' : Addr} {v u : Value} (hF : Fr a m L) (hr : fn.results = #[.cell k t1, .cell l t2]) (hk : lk L k = some (ptr ad)) (hl : lk L l = some (ptr ad'))
    (h1 : ∀ w, (isAgg t1).run P w = .ok false w) (h2 : ∀ w, (isAgg t2).run P w = .ok false w) (hD : w.heap[D]? = some (.deferred (some [])))
    (hc : (w.putObj D (.deferred none)).cell? ad = some v) (hc' : (w.putObj D (.deferred none)).cell? ad' = some u) (hR : R (.tuple #[v, u]) (w.putObj D (.deferred none))) :
    PostM P n fn R .ret (wd [{ target := .collected D, args := #[] }] a) w := by
  show LeavesInM Fence.wide n P fn a.tmps _ [_] .returning w
  refine ⟨by simp, .inl ⟨D, _, rfl, run_takeDeferred hD, ?_⟩⟩
  refine ⟨.tuple #[v, u], ?_, _, rfl, hR⟩
  have e1 := hF.get k _ hk
  have e2 := hF.get l _ hl
  rw [Array.getD_eq_getD_getElem?] at e1 e2
  simp [results, hr, e1, e2, ptr, asAddr, loadVar, h1, h2, hc, hc']
end
end Go.Proofs.YtanpeofnlihhoaaDoor
