/- GW12: a range over a function whose loop variables are variables of their own (the assignment turns the world). -/
import Derived.Test.YtanpeofnlihhoaaDoorGw11
namespace Go.Proofs.YtanpeofnlihhoaaDoor
open Go
open Go.RowKit
section
variable {P : Program} {n : Nat}
/-- the block of the rounds' deferred calls, and the loop's record -/
structure Book (D : Nat) (r : Loop) (W : World) : Prop where
  loop : W.heap[D + 1]? = some (.loop r)
  defs : W.heap[D]? = some (.deferred (some []))
theorem Book.keep {D : Nat} {r : Loop} {A B : World} (h : Book D r A) (k : KeepsOthers A B) : Book D r B := ⟨k.same _ _ h.loop rfl, k.same _ _ h.defs rfl⟩
theorem Book.turn {D : Nat} {r : Loop} {A : World} (h : Book D r A) (r' : Loop) : Book D r' (A.putObj (D + 1) (.loop r')) :=
  ⟨World.putObj_heap_same (Array.getElem?_eq_some_iff.1 h.loop).1, (World.putObj_heap_other (by omega)).trans h.defs⟩
theorem Book.walk {D : Nat} {r : Loop} {A B : World} {row : Option Nat} (h : Book D r A) (hg : A.grownBy B row) (hr : ∀ k, row = some k → ∃ o : Obj, A.heap[k]? = some o ∧ o.isWalk = true) : Book D r B :=
  ⟨(grownBy_keeps hg hr h.loop rfl).trans h.loop, (grownBy_keeps hg hr h.defs rfl).trans h.defs⟩

theorem wp_range {α : Type} {g : Operand} {ps : Array Tmp} {assign body : Code} {Q : Exit → Act → World → Prop} {a : Act} {w : World} (n : Nat)
    {gf : Nat} {lb : Array Value} (hg : a.eval g = .func (.func gf) #[] lb) (eg : ∀ args w, (callFunc gf args).run P w = .ok (.enter gf args) w)
    {encs : α → Array Value} {Kp : World → World → Prop} {S Sp : List α → Prop} {N : Nat} (hseq : SeqStopsK Fence.wide (n + 1) P gf lb encs Kp S Sp N w)
    (hKt : ∀ {A B C : World}, Kp A B → Kp B C → Kp A C) (hKb : ∀ (W : World) (l : Nat) (o o' : Obj), w.heap.size ≤ l → W.heap[l]? = some o → Kp W (W.putObj l o')) (hps : ∀ x, (encs x).size = ps.size)
    (I : List α → World → Prop) (J : List α → α → Act → World → Prop) (Ix : Code → List α → World → Prop) (hI : OwnFrom w.heap.size I) (hJ : ∀ pre x a, OwnFrom w.heap.size (fun (_ : Unit) W => J pre x a W)) (hIx : ∀ c, OwnFrom w.heap.size (Ix c)) (h0 : I [] w)
    (hassign : ∀ (l : Nat) (pre : List α) (x : α) (W : World), I pre W → pre.length < N →
      assign.wpIn (Fence.wide.inRound l) n P (Exit.then (fun a₁ W₁ => KeepsOthers W W₁ ∧ Kp W W₁ ∧ J pre x a₁ W₁) (fun _ _ _ => False)) { tmps := (ps.zip (encs x)).foldl (fun t (p, v) => t.setIfInBounds p v) a.tmps, defers := [] } W)
    (hbody : ∀ (l : Nat) (pre : List α) (x : α) (a₁ : Act) (W : World), J pre x a₁ W → body.wpIn (Fence.wide.inRound l) n P (ownPostK Kp I Ix (pre ++ [x]) W) a₁ W)
    (hdone : ∀ (D : Nat) (xs : List α) (W : World), w.heap.size ≤ D → S xs → I xs W → W.heap[D]? = some (.deferred (some [])) → Q .normal (wd ({ target := .collected D, args := #[] } :: a.defers) a) W)
    (hstop : ∀ (D : Nat) (c : Code) (pre : List α) (W : World), w.heap.size ≤ D → Sp pre → Ix c pre W → W.heap[D]? = some (.deferred (some [])) → c.wp P Q (wd ({ target := .collected D, args := #[] } :: a.defers) a) W) :
    (Code.rangeFunc g ps assign body).wp P Q a w := by
  refine wpIn_wide.1 (wpIn_rangeFunc (n := n + 2) fun fn _ => ?_)
  let D := w.heap.size
  let rec0 : LoopState → Option Code → Loop := fun st pe => { state := st, pending := pe, fn, tmps := a.tmps, params := ps, assign, body, defers := D }
  let W1 := (w.alloc (.deferred (some []))).alloc (.loop (rec0 .ready none))
  have hB1 : Book D (rec0 .ready none) W1 := by
    refine ⟨?_, (Below.heap_alloc _ _ _ (by rw [World.size_alloc]; exact Nat.lt_succ_self _)).trans (World.alloc_heap_new w _)⟩
    have := World.alloc_heap_new (w.alloc (.deferred (some []))) (.loop (rec0 .ready none))
    rwa [World.size_alloc] at this
  have hI1 : I [] W1 := hI.alloc _ (hI.alloc _ h0)
  have hW1 : Below w.heap.size w W1 := ((Below.refl _ w).alloc (Nat.le_refl _) _).alloc (by simp) _
  have hsz : w.heap.size ≤ W1.heap.size := hW1.size
  have own : ∀ {β : Type} {X : β → World → Prop}, OwnFrom w.heap.size X → AbidesFrom W1.heap.size X := fun h s A B row hs hg hr =>
    h s A B row hs hg fun r e => by obtain ⟨hb, o, ho, hw⟩ := hr r e; exact ⟨Nat.le_trans hsz hb, o, ho, Obj.not_cells_of_walk hw⟩
  refine ⟨D + 1, [{ target := .collected D, args := #[] }], W1, { target := .fn (.func gf) lb, args := #[.func (.yield (D + 1)) #[] #[]] }, W1, gf, #[.func (.yield (D + 1)) #[] #[]] ++ lb, W1,
    run_enterLoop_outer _ _ _ _ _, ?_, fun _ _ => trivial, ?_, fun h => (by cases h), ?_⟩
  · simp only [resolve, hg]
    simp [go_sem]
  · simp [invoke, go_sem, eg]
  refine (hseq (D + 1) (fun pre W => I pre W ∧ Book D (rec0 .ready none) W) (fun pre W => ∃ c, Ix c pre W ∧ Book D (rec0 .done (some c)) W) W1 hW1
    (fun s A B row hs hg' hr => ⟨own hI s A B row hs.1 hg' hr, hs.2.walk hg' fun r e => (hr r e).2⟩)
    (fun s A B row ⟨c, hc, hb⟩ hg' hr => ⟨c, own (hIx c) s A B row hc hg' hr, hb.walk hg' fun r e => (hr r e).2⟩) ?_ ⟨hI1, hB1⟩).mono ?_
  · rintro pre x W ⟨hi, hb⟩ hlen
    refine ⟨fn, _, assign, body, run_yield (P := P) (args := encs x) hb.loop (hps x), roundIn_of_wpIn trivial ?_⟩
    refine wpIn_mono (hassign (D + 1) pre x W hi hlen) fun e a₁ W₁ he => ?_
    cases e with
    | normal =>
      obtain ⟨hk, hkp, hj⟩ := he
      have hb₁ := hb.keep hk
      refine ⟨_, run_beginRound hb₁.loop rfl, ?_⟩
      have hb₂ := hb₁.turn (rec0 .busy none)
      have hj₂ : J pre x a₁ (W₁.putObj (D + 1) (.loop (rec0 .busy none))) := (hJ pre x a₁).putObj (s := ()) _ hj (Nat.le_succ _) hb₁.loop rfl
      have hkp₂ : Kp W (W₁.putObj (D + 1) (.loop (rec0 .busy none))) := hKt hkp (hKb _ _ _ _ (Nat.le_succ _) hb₁.loop)
      refine wpIn_mono (hbody (D + 1) pre x a₁ _ hj₂) fun e a₃ W₃ hp => ?_
      have fin : ∀ (jump : Option Code), KeepsOthers (W₁.putObj (D + 1) (.loop (rec0 .busy none))) W₃ →
          (Instr.endRound (D + 1) jump).run P W₃ = .ok (.bool jump.isNone) (W₃.putObj (D + 1) (.loop (rec0 (if jump.isNone then .ready else .done) jump))) ∧ Book D (rec0 .busy none) W₃ :=
        fun jump hk₃ => ⟨run_endRound (P := P) jump (hb₂.keep hk₃).loop, hb₂.keep hk₃⟩
      have out : ∀ c, KeepsOthers (W₁.putObj (D + 1) (.loop (rec0 .busy none))) W₃ → Ix c (pre ++ [x]) W₃ → ∃ v w', (Instr.endRound (D + 1) (some c)).run P W₃ = .ok v w' ∧
          ((Ending.returned v = .returned (.bool true) ∧ (I (pre ++ [x]) w' ∧ Book D (rec0 .ready none) w') ∧ Kp W w') ∨ (Ending.returned v = .returned (.bool false) ∧ ∃ c, Ix c (pre ++ [x]) w' ∧ Book D (rec0 .done (some c)) w')) := fun c hk₃ hx => by
        obtain ⟨hr, hb₃⟩ := fin (some c) hk₃
        exact ⟨_, _, hr, .inr ⟨rfl, c, (hIx c).putObj _ hx (Nat.le_succ _) hb₃.loop rfl, hb₃.turn _⟩⟩
      cases e with
      | normal =>
        obtain ⟨hk₃, hkp₃, hi₃⟩ := hp
        obtain ⟨hr, hb₃⟩ := fin none hk₃
        exact ⟨_, _, hr, .inl ⟨rfl, ⟨hI.putObj _ hi₃ (Nat.le_succ _) hb₃.loop rfl, hb₃.turn _⟩, hKt (hKt hkp₂ hkp₃) (hKb _ _ _ _ (Nat.le_succ _) hb₃.loop)⟩⟩
      | ret => exact out _ hp.1 hp.2
      | exit id => exact out _ hp.1 hp.2
      | goto t => exact out _ hp.1 hp.2
      | panic ch => exact hp.elim
      | outgrown => exact hp.elim
    | _ => exact he.elim
  · rintro e W₂ ⟨⟨v, rfl⟩, (⟨xs, hS, hi, hb⟩ | ⟨pre, hSp, c, hi, hb⟩)⟩
    · exact ⟨none, _, run_endLoop (P := P) hb.loop (by simp [rec0]), hdone D xs _ (Nat.le_refl _) hS (hI.putObj _ hi (Nat.le_succ _) hb.loop rfl) ((World.putObj_heap_other (by omega)).trans hb.defs)⟩
    · exact ⟨some c, _, run_endLoop (P := P) hb.loop (by simp [rec0]), wpIn_wide.2 (hstop D c pre _ (Nat.le_refl _) hSp ((hIx c).putObj _ hi (Nat.le_succ _) hb.loop rfl) ((World.putObj_heap_other (by omega)).trans hb.defs))⟩
end

section
variable {P : Program} {Q : Exit → Act → World → Prop} {a : Act} {w w0 : World} {l n i : Nat} {x y c : Code} {M : List Nat} {L : List Ent}
theorem wi_seq (h : x.wpIn (Fence.wide.inRound l) n P (Exit.then (y.wpIn (Fence.wide.inRound l) n P Q) Q) a w) : (Code.seq x y).wpIn (Fence.wide.inRound l) n P Q a w := wpIn_seq h
theorem wi_block (h : c.wpIn (Fence.wide.inRound l) n P (Exit.inBlock i Q) a w) : (Code.block i c).wpIn (Fence.wide.inRound l) n P Q a w := wpIn_block h
theorem wi_skip (h : Q .normal a w) : Code.skip.wpIn (Fence.wide.inRound l) n P Q a w := wpIn_skip h
theorem wi_exit (h : Q (.exit i) a w) : (Code.exit i).wpIn (Fence.wide.inRound l) n P Q a w := wpIn_exit h
theorem wi_ret (h : Q .ret a w) : Code.ret.wpIn (Fence.wide.inRound l) n P Q a w := wpIn_ret h
theorem fr_yield2 {F : List (Nat × Value)} {m t u : Nat} (hF : Fr a m F) (v1 v2 : Value) (ht : Nat.ble (t + 1) m = true) (hu : Nat.ble (u + 1) m = true) :
    Fr { tmps := ((#[t, u] : Array Tmp).zip #[v1, v2]).foldl (fun t (p, v) => t.setIfInBounds p v) a.tmps, defers := [] } m ((u, v2) :: (t, v1) :: F) := by
  have h := (hF.put (Nat.le_of_ble_eq_true ht) v1).put (Nat.le_of_ble_eq_true hu) v2
  have e : ({ tmps := ((#[t, u] : Array Tmp).zip #[v1, v2]).foldl (fun t (p, v) => t.setIfInBounds p v) a.tmps, defers := [] } : Act) = (a.put (some t) v1).put (some u) v2 := by
    simp [Act.put, hF.defs]
  rw [e]; exact h
theorem St.addMp {D : Nat} {o : Obj} (hO : St w0 M w L) (hm : L.all Ent.noMp = true) (hD : w0.heap.size ≤ D) (h : w.heap[D]? = some o) (ho : o.isCells = false) : St w0 M w (.mp D o :: L) := by
  refine ⟨hO.os, hO.tape, hO.output, hO.le, hO.keep, fun e he => ?_, ?_, fun b hb => ?_⟩
  · rcases List.mem_cons.1 he with rfl | he
    · exact h
    · exact hO.own e he
  · show (D :: blks L).Nodup
    refine List.nodup_cons.2 ⟨fun hb => ?_, hO.nodup⟩
    obtain ⟨o', ho', hc'⟩ := blks_cells hO.own hm hb
    rw [h] at ho'; cases ho'; rw [ho] at hc'; cases hc'
  · rcases List.mem_cons.1 (show b ∈ D :: blks L from hb) with rfl | hb
    · exact .inr hD
    · exact hO.src b hb
theorem St.saOwn {α : Type} {E : Enc α} {xs : List α} {v : Value} {e : Nat} (hO : St w0 M w L) (i : Nat) (hi : L[i]? = some (slT v e E xs)) : 0 < xs.length → (sa v).block ∈ v.ownBlock.toList := by
  have hown : w.ownsRow 0 e E.size v xs.length (flat E xs) := hO.ok hi
  intro h
  rcases hown.2 with ⟨_, h0⟩ | ⟨g, cap, cur, rfl, _⟩
  · omega
  · simp [sa, Value.ownBlock]
end
end Go.Proofs.YtanpeofnlihhoaaDoor
