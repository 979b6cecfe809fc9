/- GW31: a range over a function whose body writes a map that was made ahead of it; what stands behind such a loop. -/
import Derived.Test.YtfkmlcgccffmnaaPu8
import Derived.RangeFuncWrites
import Derived.Test.YtfkmlcgccffmnaaPu10
import Derived.Test.YtfkmlcgccffmnaaUn
namespace Go.Proofs.Ytfkmlcgccffmnaa
open Go
open Go.RowKit
section
variable {P : Program} {n : Nat}
theorem Book.keepF {D : Nat} {r : Loop} {A B : World} (h : Book D r A) (k : KeepsFrom D A B) : Book D r B := ⟨k.same _ _ (Nat.le_succ _) h.loop rfl, k.same _ _ (Nat.le_refl _) h.defs rfl⟩
theorem wp_rangeW {α : Type} {g : Operand} {ps : Array Tmp} {assign body : Code} {Q : Exit → Act → World → Prop} {a : Act} {w : World} (n : Nat)
    {gf : Nat} {lb : Array Value} (hg : a.eval g = .func (.func gf) #[] lb) (eg : ∀ args w, (callFunc gf args).run P w = .ok (.enter gf args) w)
    {encs : α → Array Value} {Kp : World → World → Prop} {S Sp : List α → Prop} {N : Nat} (hseq : SeqStopsK Fence.wide (n + 1) P gf lb encs Kp S Sp N w)
    (hKt : ∀ {A B C : World}, Kp A B → Kp B C → Kp A C) (hKb : ∀ (W : World) (l : Nat) (o o' : Obj), w.heap.size ≤ l → W.heap[l]? = some o → Kp W (W.putObj l o')) (hps : ∀ x, (encs x).size = ps.size)
    (I : List α → World → Prop) (J : List α → α → Act → World → Prop) (Ix : Code → List α → World → Prop) (hI : OwnFrom w.heap.size I) (hJ : ∀ pre x a, OwnFrom w.heap.size (fun (_ : Unit) W => J pre x a W)) (hIx : ∀ c, OwnFrom w.heap.size (Ix c)) (h0 : I [] w)
    (hassign : ∀ (l : Nat) (pre : List α) (x : α) (W : World), I pre W → pre.length < N →
      assign.wpIn (Fence.wide.inRound l) n P (Exit.then (fun a₁ W₁ => KeepsFrom w.heap.size W W₁ ∧ Kp W W₁ ∧ J pre x a₁ W₁) (fun _ _ _ => False)) { tmps := (ps.zip (encs x)).foldl (fun t (p, v) => t.setIfInBounds p v) a.tmps, defers := [] } W)
    (hbody : ∀ (l : Nat) (pre : List α) (x : α) (a₁ : Act) (W : World), J pre x a₁ W → body.wpIn (Fence.wide.inRound l) n P (ownPostG w.heap.size Kp I Ix (pre ++ [x]) W) a₁ W)
    (hdone : ∀ (D : Nat) (xs : List α) (W : World), w.heap.size = D → S xs → I xs W → W.heap[D]? = some (.deferred (some [])) → Q .normal (wd ({ target := .collected D, args := #[] } :: a.defers) a) W)
    (hstop : ∀ (D : Nat) (c : Code) (pre : List α) (W : World), w.heap.size = D → Sp pre → Ix c pre W → W.heap[D]? = some (.deferred (some [])) → c.wp P Q (wd ({ target := .collected D, args := #[] } :: a.defers) a) W) :
    (Code.rangeFunc g ps assign body).wp P Q a w := by
  refine wpIn_wide.1 (wpIn_rangeFunc (n := n + 2) fun fn _ => ?_)
  let D := w.heap.size
  let rec0 : LoopState → Option Code → Loop := fun st pe => { state := st, pending := pe, fn, tmps := a.tmps, params := ps, assign, body, defers := D }
  let W1 := (w.alloc (.deferred (some []))).alloc (.loop (rec0 .ready none))
  have hB1 : Book D (rec0 .ready none) W1 := by
    refine ⟨?_, (Below.heap_alloc _ _ _ (by rw [World.size_alloc]; exact Nat.lt_succ_self _)).trans (World.alloc_heap_new w _)⟩
    have := World.alloc_heap_new (w.alloc (.deferred (some []))) (.loop (rec0 .ready none))
    rwa [World.size_alloc] at this
  have hI1 : I [] W1 := hI.alloc _ (hI.alloc _ h0)
  have hW1 : Below w.heap.size w W1 := ((Below.refl _ w).alloc (Nat.le_refl _) _).alloc (by simp) _
  have hsz : w.heap.size ≤ W1.heap.size := hW1.size
  have own : ∀ {β : Type} {X : β → World → Prop}, OwnFrom w.heap.size X → AbidesFrom W1.heap.size X := fun h s A B row hs hg hr =>
    h s A B row hs hg fun r e => by obtain ⟨hb, o, ho, hw⟩ := hr r e; exact ⟨Nat.le_trans hsz hb, o, ho, Obj.not_cells_of_walk hw⟩
  refine ⟨D + 1, [{ target := .collected D, args := #[] }], W1, { target := .fn (.func gf) lb, args := #[.func (.yield (D + 1)) #[] #[]] }, W1, gf, #[.func (.yield (D + 1)) #[] #[]] ++ lb, W1,
    run_enterLoop_outer _ _ _ _ _, ?_, fun _ _ => trivial, ?_, fun h => (by cases h), ?_⟩
  · simp only [resolve, hg]
    simp [go_sem]
  · simp [invoke, go_sem, eg]
  refine (hseq (D + 1) (fun pre W => I pre W ∧ Book D (rec0 .ready none) W) (fun pre W => ∃ c, Ix c pre W ∧ Book D (rec0 .done (some c)) W) W1 hW1
    (fun s A B row hs hg' hr => ⟨own hI s A B row hs.1 hg' hr, hs.2.walk hg' fun r e => (hr r e).2⟩)
    (fun s A B row ⟨c, hc, hb⟩ hg' hr => ⟨c, own (hIx c) s A B row hc hg' hr, hb.walk hg' fun r e => (hr r e).2⟩) ?_ ⟨hI1, hB1⟩).mono ?_
  · rintro pre x W ⟨hi, hb⟩ hlen
    refine ⟨fn, _, assign, body, run_yield (P := P) (args := encs x) hb.loop (hps x), roundIn_of_wpIn trivial ?_⟩
    refine wpIn_mono (hassign (D + 1) pre x W hi hlen) fun e a₁ W₁ he => ?_
    cases e with
    | normal =>
      obtain ⟨hk, hkp, hj⟩ := he
      have hb₁ := hb.keepF hk
      refine ⟨_, run_beginRound hb₁.loop rfl, ?_⟩
      have hb₂ := hb₁.turn (rec0 .busy none)
      have hj₂ : J pre x a₁ (W₁.putObj (D + 1) (.loop (rec0 .busy none))) := (hJ pre x a₁).putObj (s := ()) _ hj (Nat.le_succ _) hb₁.loop rfl
      have hkp₂ : Kp W (W₁.putObj (D + 1) (.loop (rec0 .busy none))) := hKt hkp (hKb _ _ _ _ (Nat.le_succ _) hb₁.loop)
      refine wpIn_mono (hbody (D + 1) pre x a₁ _ hj₂) fun e a₃ W₃ hp => ?_
      have fin : ∀ (jump : Option Code), KeepsFrom D (W₁.putObj (D + 1) (.loop (rec0 .busy none))) W₃ →
          (Instr.endRound (D + 1) jump).run P W₃ = .ok (.bool jump.isNone) (W₃.putObj (D + 1) (.loop (rec0 (if jump.isNone then .ready else .done) jump))) ∧ Book D (rec0 .busy none) W₃ :=
        fun jump hk₃ => ⟨run_endRound (P := P) jump (hb₂.keepF hk₃).loop, hb₂.keepF hk₃⟩
      have out : ∀ c, KeepsFrom D (W₁.putObj (D + 1) (.loop (rec0 .busy none))) W₃ → Ix c (pre ++ [x]) W₃ → ∃ v w', (Instr.endRound (D + 1) (some c)).run P W₃ = .ok v w' ∧
          ((Ending.returned v = .returned (.bool true) ∧ (I (pre ++ [x]) w' ∧ Book D (rec0 .ready none) w') ∧ Kp W w') ∨ (Ending.returned v = .returned (.bool false) ∧ ∃ c, Ix c (pre ++ [x]) w' ∧ Book D (rec0 .done (some c)) w')) := fun c hk₃ hx => by
        obtain ⟨hr, hb₃⟩ := fin (some c) hk₃
        exact ⟨_, _, hr, .inr ⟨rfl, c, (hIx c).putObj _ hx (Nat.le_succ _) hb₃.loop rfl, hb₃.turn _⟩⟩
      cases e with
      | normal =>
        obtain ⟨hk₃, hkp₃, hi₃⟩ := hp
        obtain ⟨hr, hb₃⟩ := fin none hk₃
        exact ⟨_, _, hr, .inl ⟨rfl, ⟨hI.putObj _ hi₃ (Nat.le_succ _) hb₃.loop rfl, hb₃.turn _⟩, hKt (hKt hkp₂ hkp₃) (hKb _ _ _ _ (Nat.le_succ _) hb₃.loop)⟩⟩
      | ret => exact out _ hp.1 hp.2
      | exit id => exact out _ hp.1 hp.2
      | goto t => exact out _ hp.1 hp.2
      | panic ch => exact hp.elim
      | outgrown => exact hp.elim
    | _ => exact he.elim
  · rintro e W₂ ⟨⟨v, rfl⟩, (⟨xs, hS, hi, hb⟩ | ⟨pre, hSp, c, hi, hb⟩)⟩
    · exact ⟨none, _, run_endLoop (P := P) hb.loop (by simp [rec0]), hdone D xs _ rfl hS (hI.putObj _ hi (Nat.le_succ _) hb.loop rfl) ((World.putObj_heap_other (by omega)).trans hb.defs)⟩
    · exact ⟨some c, _, run_endLoop (P := P) hb.loop (by simp [rec0]), wpIn_wide.2 (hstop D c pre _ rfl hSp ((hIx c).putObj _ hi (Nat.le_succ _) hb.loop rfl) ((World.putObj_heap_other (by omega)).trans hb.defs))⟩
end
/-! ### Entries that the loop's own blocks are apart from -/
def Low (B : Nat) (w : World) (L : List Ent) : Prop := ∀ b ∈ blks L, b < B ∨ ∃ o : Obj, w.heap[b]? = some o ∧ o.isCells = true
section
variable {w w0 w' W : World} {M : List Nat} {L L' : List Ent} {B : Nat} {row : Option Nat}
theorem low_of (hA : ∀ e ∈ L, e.ok w) (hm : ∀ e ∈ L, e.noMp = true ∨ ∀ b ∈ e.bs, b < B) : Low B w L := fun b hb => by
  obtain ⟨e, he, hbe⟩ := mem_blk.1 hb
  rcases hm e he with h | h
  · have h1 : e.single = true := by cases e <;> first | rfl | cases h
    rw [Ent.bs_of h1] at hbe
    exact .inr (Ent.isCells (hA e he) (Option.mem_toList.1 hbe) h)
  · exact .inl (h b hbe)
theorem St.grownF (h : St w0 M w L) (hl : Low B w L) (hg : w.grownBy w' row) (hr : ∀ r, row = some r → (B ≤ r ∧ w0.heap.size ≤ r) ∧ ∃ o : Obj, w.heap[r]? = some o ∧ o.isCells = false) : St w0 M w' L := by
  refine ⟨hg.os.trans h.os, hg.tape.trans h.tape, hg.output.trans h.output, Nat.le_trans h.le hg.size, fun b hb hM => ?_, fun e he => ?_, h.nodup, h.src⟩
  · refine (hg.block b (Nat.lt_of_lt_of_le hb h.le) fun e => ?_).trans (h.keep b hb hM)
    have := (hr b e.symm).1
    omega
  · refine Ent.ok_keep (h.own e he) fun b hb => hg.block b (Ent.ok_lts (h.own e he) hb) (fun e2 => ?_)
    obtain ⟨⟨h1, _⟩, o, ho, hc⟩ := hr b e2.symm
    rcases hl b (mem_blk.2 ⟨e, he, hb⟩) with h2 | ⟨o', ho', hc'⟩
    · omega
    · rw [ho] at ho'; cases ho'; rw [hc] at hc'; cases hc'
theorem St.othersF (hl : Low B W L) (hO : St W (blks L) w L') : KeepsFrom B W w := by
  refine ⟨hO.le, fun k o hB hk hc => ?_⟩
  have hlt : k < W.heap.size := (Array.getElem?_eq_some_iff.1 hk).1
  refine (hO.keep k hlt fun hb => ?_).trans hk
  rcases hl k hb with h | ⟨o', ho', hc'⟩
  · omega
  · rw [hk] at ho'; cases ho'; rw [hc] at hc'; cases hc'
theorem St.addMpF {D : Nat} {o : Obj} (hO : St w0 M w L) (hl : Low D w L) (hD : w0.heap.size ≤ D) (h : w.heap[D]? = some o) (ho : o.isCells = false) : St w0 M w (.mp D o :: L) := by
  refine ⟨hO.os, hO.tape, hO.output, hO.le, hO.keep, fun e he => ?_, ?_, fun b hb => ?_⟩
  · rcases List.mem_cons.1 he with rfl | he
    · exact h
    · exact hO.own e he
  · show (D :: blks L).Nodup
    refine List.nodup_cons.2 ⟨fun hb => ?_, hO.nodup⟩
    rcases hl D hb with h1 | ⟨o', ho', hc'⟩
    · exact Nat.lt_irrefl _ h1
    · rw [h] at ho'; cases ho'; rw [ho] at hc'; cases hc'
  · rcases List.mem_cons.1 (show b ∈ D :: blks L from hb) with rfl | hb
    · exact .inr hD
    · exact hO.src b hb
end
/-! ### What stands behind the loop -/
section
variable {P : Program} {ops : Array Oper} {S : World → Prop} {K K' : Act → World → Prop} {Q : Exit → Act → World → Prop}
theorem wpD_wd (ds : List Deferred) (hK : ∀ a w, K a w → K' (wd ds a) w) : ∀ (l : List Oper) (ks : List Nat) (a : Act) (w : World), wpD P ops S K l ks a w → wpD P ops S K' l ks (wd ds a) w
  | [], _, a, w, h => hK a w h
  | o :: l, ks, a, w, h => by
    have ih := wpD_wd ds hK l ks.tail
    have h : stepD P ops S o (ks.headD 0) (wpD P ops S K l ks.tail) a w := h
    show stepD P ops S o (ks.headD 0) (wpD P ops S K' l ks.tail) (wd ds a) w
    have he : execOp (wd ds a).eval o = execOp a.eval o := by rw [eval_wd]
    unfold stepD at *
    show if Region.wanted o (yielded ops a.tmps) = true then _ else _
    split
    · rename_i hw
      rw [if_pos hw] at h
      split
      · rename_i hk
        rw [if_pos hk] at h
        obtain ⟨v, h1, h2⟩ := h
        exact ⟨v, fun w' hc => (h1 w' hc).congr he, by rw [put_wd]; exact ih _ _ h2⟩
      · rename_i hk
        rw [if_neg hk] at h
        exact (h.congr he).mono fun u w2 hu => ⟨hu.1, by rw [put_wd]; exact ih _ _ hu.2⟩
    · rename_i hw
      rw [if_neg hw] at h
      rw [put_wd]; exact ih _ _ h
theorem wpList_D (hS : ∀ w, S w) (hQ : ∀ a w, K a w → Q .normal a w) : ∀ (l : List Oper) (ks : List Nat) (a : Act) (w : World), wpD P ops S K l ks a w → wpList P ops Q l a w
  | [], _, a, w, h => hQ a w h
  | o :: l, ks, a, w, h => by
    have ih := wpList_D hS hQ l ks.tail
    have h : stepD P ops S o (ks.headD 0) (wpD P ops S K l ks.tail) a w := h
    unfold stepD at h
    unfold wpList
    split
    · rename_i hw
      rw [if_pos hw] at h
      split at h
      · obtain ⟨v, h1, h2⟩ := h
        exact .inl (Eff.wp (Eff.value (h1 w (.inr (hS w))) (ih _ _ h2)))
      · exact .inl (Eff.wp (h.mono fun u w2 hu => ih _ _ hu.2))
    · rename_i hw
      rw [if_neg hw] at h
      exact ih _ _ h
theorem wp_region_LD {id : Nat} {ls : List Oper} {a : Act} {w : World} {ds : List Deferred} (ks : List Nat) (h : wpD P ls.toArray (fun _ => True) (fun a w => Q .normal (wd ds a) w) ls ks a w) : (Code.region id ls.toArray false).wp P Q (wd ds a) w :=
  wp_region_lit (wpList_D (K := Q .normal) (fun _ => trivial) (fun _ _ h => h) _ _ _ _ (wpD_wd ds (fun _ _ h => h) _ _ _ _ h))
theorem wp_ifDW {c : Operand} {p q : Code} {a : Act} {w : World} {ds : List Deferred} {m : Nat} {F : List (Nat × Value)} {b : Bool} {r : Prop} {ir : Decidable r} (hF : Fr a m F) (hv : ev F c = some (.bool b)) (hb : b = decide r) (ht : r → p.wp P Q (wd ds a) w) (hf : ¬ r → q.wp P Q (wd ds a) w) : (Code.cond c p q).wp P Q (wd ds a) w := by
  subst hb
  have e : (wd ds a).eval c = .bool (decide r) := by rw [eval_wd]; exact hF.eval hv
  refine wp_cond e ?_
  by_cases h : r
  · simp only [h, decide_true, if_true]; exact ht h
  · simp only [h, decide_false, Bool.false_eq_true, if_false]; exact hf h
theorem rM_c1 {fn : Func} {R : Value → World → Prop} {n m : Nat} {a : Act} {w : World} {F : List (Nat × Value)} {l D size : Nat} {ty : TypeId} {ad : Addr} {cs : List Value} (hF : Fr a m F) (hr : fn.results = #[.cell l ty]) (hu : lk F l = some (ptr ad))
    (ha : ∀ w, (isAgg ty).run P w = .ok true w) (hs : ∀ w, (sizeOf ty).run P w = .ok size w) (hD : w.heap[D]? = some (.deferred (some []))) (hc : ∀ j u, cs[j]? = some u → (w.putObj D (.deferred none)).cell? (ad.add j) = some u) (hl : cs.length = size) (hR : R (.agg cs.toArray) (w.putObj D (.deferred none))) :
    PostM P n fn R .ret (wd [{ target := .collected D, args := #[] }] a) w := by
  subst hl
  show LeavesInM Fence.wide n P fn a.tmps _ [_] .returning w
  refine ⟨by simp, .inl ⟨D, _, rfl, run_takeDeferred hD, ?_⟩⟩
  refine ⟨.agg cs.toArray, ?_, _, rfl, hR⟩
  have e2 := hF.get l _ hu
  rw [Array.getD_eq_getD_getElem?] at e2
  simp [results, hr, e2, ptr, asAddr, loadVar, ha, hs, run_loadCells_list _ ad cs hc]
end
end Go.Proofs.Ytfkmlcgccffmnaa
namespace Go.Proofs.Ytfkmlcgccffmnaa
open Go Go.Maps
theorem subOf_cons (s : SbN) (l : List SbN) (n : Nam) : subOf (s :: l) n = if n = s.name then some s.t else subOf l n := by
  unfold subOf
  by_cases e : n = s.name
  · rw [if_pos e, List.find?_cons_of_pos (by simpa using e.symm)]; rfl
  · rw [if_neg e, List.find?_cons_of_neg (by simpa using fun h => e h.symm)]
theorem subOf_mem {l : List SbN} {n : Nam} {t : TN} (h : subOf l n = some t) : ∃ s ∈ l, s.name = n ∧ s.t = t := by
  unfold subOf at h
  cases hf : l.find? (fun s => decide (s.name = n)) with
  | none => rw [hf] at h; cases h
  | some s =>
    rw [hf] at h
    exact ⟨s, List.mem_of_find?_eq_some hf, by have := List.find?_some hf; simpa using this, Option.some.inj h⟩
/-- what has been put last for a name -/
def gAl (l : List SbN) : Nam → Option TN := subOf l.reverse
theorem gAl_next (l : List SbN) (s : SbN) : gAl (l ++ [s]) = fun m => if m = s.name then some s.t else gAl l m := funext fun m => by
  unfold gAl
  rw [List.reverse_append, List.reverse_singleton, List.singleton_append, subOf_cons]
theorem gAl_all (l : List SbN) : gAl l.reverse = subOf l := by unfold gAl; rw [List.reverse_reverse]
def sgT (g : Nam → Option TN) (n : Nam) : Ty := match g n with | some t => t.er | none => varT n
theorem sgT_sig : ∀ (l : List SbN), sgT (subOf l) = sigF (l.map SbN.er) := fun l => funext fun n => by
  unfold sgT sigF subOf
  rw [List.find?_map]
  show _ = match (l.find? ((fun s => decide (s.1 = n)) ∘ SbN.er)).map SbN.er with | some s => s.2 | none => varT n
  have e : ((fun (s : Nam × Ty) => decide (s.1 = n)) ∘ SbN.er) = fun s : SbN => decide (s.name = n) := rfl
  rw [e]
  cases l.find? (fun s => decide (s.name = n)) <;> rfl
/-! the rows of a slice, from its end -/
abbrev SbI (ss : List SbN) := { x : Nat × SbN // ss[x.1]? = some x.2 }
def backS (ss : List SbN) (k : Nat) : List (SbI ss) := (List.range k).filterMap fun j => if h : ss.length - 1 - j < ss.length then some ⟨(ss.length - 1 - j, ss[ss.length - 1 - j]), List.getElem?_eq_getElem h⟩ else none
theorem backS_succ {ss : List SbN} {k m : Nat} (hm : m < ss.length) (e : ss.length - 1 - k = m) : backS ss (k + 1) = backS ss k ++ [⟨(m, ss[m]), List.getElem?_eq_getElem hm⟩] := by
  subst e
  unfold backS
  rw [List.range_succ, List.filterMap_append]
  congr 1
  rw [List.filterMap_cons_some (b := ⟨(ss.length - 1 - k, ss[ss.length - 1 - k]), List.getElem?_eq_getElem hm⟩) (by rw [dif_pos hm])]; rfl
theorem backS_map {ss : List SbN} : ∀ {k : Nat}, k ≤ ss.length → (backS ss k).map (·.1.2) = (ss.drop (ss.length - k)).reverse
  | 0, _ => by simp [backS]
  | k + 1, h => by
    have hm : ss.length - 1 - k < ss.length := by omega
    rw [backS_succ hm rfl, List.map_append, backS_map (by omega)]
    have e : ss.length - k = ss.length - 1 - k + 1 := by omega
    rw [show ss.length - (k + 1) = ss.length - 1 - k by omega, List.drop_eq_getElem_cons hm, List.reverse_cons, e]; rfl
theorem backS_len {ss : List SbN} {k : Nat} (h : k ≤ ss.length) : (backS ss k).length = k := by
  have := congrArg List.length (backS_map h)
  rw [List.length_map, List.length_reverse, List.length_drop] at this
  omega
theorem backS_all (ss : List SbN) : (backS ss ss.length).map (·.1.2) = ss.reverse := by
  rw [backS_map (Nat.le_refl _), Nat.sub_self, List.drop_zero]
theorem tE_cells {T : Nat} {w : World} : ∀ t : TN, (tE T t).ok w → ∀ b ∈ (tE T t).bs, ∃ o : Obj, w.heap[b]? = some o ∧ o.isCells = true := TN.ind fun k n h l ih hok b hb => by
  cases l with
  | nil => rw [tE_leaf] at hb; cases hb
  | cons t l =>
    rw [tE_node] at hok hb
    have h1 : (slT h.v T tnE (t :: l)).ok w := hok _ (by simp)
    have h2 : (Ent.grp ((t :: l).map (tE T))).ok w := hok _ (by simp)
    have hb : b ∈ blks [slT h.v T tnE (t :: l), Ent.grp ((t :: l).map (tE T))] := hb
    rw [blks_cons] at hb
    rcases List.mem_append.1 hb with hb | hb
    · exact Ent.isCells h1 (Option.mem_toList.1 hb) rfl
    · rw [blks_cons] at hb
      rcases List.mem_append.1 hb with hb | hb
      · have hb : b ∈ blks ((t :: l).map (tE T)) := hb
        obtain ⟨e, he, hbe⟩ := mem_blk.1 hb
        obtain ⟨s, hs, rfl⟩ := List.mem_map.1 he
        exact ih s hs (h2 _ (List.mem_map.2 ⟨s, hs, rfl⟩)) b hbe
      · cases hb
theorem RdT.blk {α : Type} {E : Enc α} {l : List α} {w : World} {M : List Nat} {v : Value} (h : RdT w M v E l) (h0 : 0 < l.length) : (sa v).block < w.heap.size ∧ (sa v).block ∉ M := by
  obtain ⟨_, A, c, rfl, _, _, hn⟩ := h
  obtain ⟨ad, rfl, h1, h2, _⟩ := hn h0
  exact ⟨h2, h1⟩
/-- what stands for variables, in a map -/
structure ApI (P : Program) (yb mb cn : Nat) (f : Lit → Option Value) (g : Nam → Option TN) (w : World) : Prop where
  box : Rd w [] (gl1 yb) 1 1 [.map (some mb)]
  map : MapIs P w 9 mb cn f
  fit : MapT f g
  rds : ∀ n t, g n = some t → RdN w [] t
  rgt : ∀ n t, g n = some t → ∃ r : RT, t.er = r.ty
theorem ApI.at0 {P : Program} {yb mb cn : Nat} {f : Lit → Option Value} {g : Nam → Option TN} {w0 w : World} {L : List Ent} (h : ApI P yb mb cn f g w0) (hO : St w0 [] w L) : ApI P yb mb cn f g w :=
  ⟨Rd.at0 h.box hO, h.map.keep (hO.keep _ h.map.lt (by simp)), h.fit, fun n t hg => (h.rds n t hg).at0 hO, h.rgt⟩
section
variable {P : Program} {w w0 : World} {M : List Nat} {L : List Ent} {i b c : Nat} {k e t : TypeId} {f : Lit → Option Value} {g : Nam → Option TN} {o : Oper} {a : Act} {x y u : Operand} {n : Nam}
theorem q_lookT (h : MapIs P w k b c f) (hf : MapT f g) (hk : P.underlying k = some .string) (ht : P.underlying t = some (.map k e)) (hz : (zeroValue e).run P w = .ok (tyV tn0) w) (ho : o.op = .lookup t x y true) (hx : a.eval x = .map (some b)) (hy : a.eval y = str n) (hn : n.length ≤ 9223372036854775807) : QV P o a w (.tuple #[tyV ((g n).getD tn0), .bool (g n).isSome]) := by
  have h1 := q_lookOkR h (string_keyed hk) ht hz ho hx hy (keyStr hk hn)
  obtain ⟨e1, e2⟩ := hf.get n
  rw [e1, e2] at h1; exact h1
theorem q_lookT1 (h : MapIs P w k b c f) (hf : MapT f g) (hk : P.underlying k = some .string) (ht : P.underlying t = some (.map k e)) (hz : (zeroValue e).run P w = .ok (tyV tn0) w) (ho : o.op = .lookup t x y false) (hx : a.eval x = .map (some b)) (hy : a.eval y = str n) (hn : n.length ≤ 9223372036854775807) : QV P o a w (tyV ((g n).getD tn0)) := by
  have h1 := q_lookR h (string_keyed hk) ht hz ho hx hy (keyStr hk hn)
  obtain ⟨e1, e2⟩ := hf.get n
  rw [e1] at h1; exact h1
end
end Go.Proofs.Ytfkmlcgccffmnaa
namespace Go.Proofs.Ytfkmlcgccffmnaa
open Go
set_option maxRecDepth 100000
set_option linter.unusedVariables false
theorem id46_r (w0 : World) (k : Int) (n : List UInt8) (hd : Hdr) (hR : RdT w0 [] hd.v tnE []) : Ret Try.prog 46 #[.agg (tnE.cells (TN.mk k n hd [])).toArray] w0 (fun v w' => ∃ z : TN, v = .agg (tnE.cells z).toArray ∧ z.er = (TN.mk k n hd []).er ∧ St w0 [] w' [tE 33 z]) := by
  have hO := St.init0 w0
  refine ret_of (m := 4) Try.func46 rfl Try.ntmps46 [(0, .agg (tnE.cells (TN.mk k n hd [])).toArray)] rfl ⟨rfl, trivial⟩ fun a hF => ?_
  refine wp_seq ?_
  refine wp_region_lit ?_
  refine wl_e hF rfl rfl rfl (e_box hO rfl (hF.eval rfl) rfl) ?_
  rintro a _ w ⟨tk, rfl, hO⟩ hF
  refine wl_e hF rfl rfl rfl (e_alloc hO Try.zeroValue33 rfl rfl) ?_
  rintro a _ w ⟨rs, rfl, hO⟩ hF
  refine wl_nil ?_
  refine k_n ?_
  refine wp_seq ?_
  refine wp_region_lit ?_
  refine wl_v hF rfl rfl rfl (q_loadAgg Try.isAgg33 Try.sizeOf33 rfl (hF.eval rfl) (hO.cells 1 rfl) rfl) fun a hF => ?_
  refine wl_s hF rfl rfl (e_storeAll hO (i := 0) rfl Try.sizeOf33 rfl (hF.eval rfl) (hF.eval rfl) rfl rfl) ?_
  rintro a _ w ⟨-, hO⟩ hF
  have hO : St _ _ _ [_, _] := hO
  refine wl_nil ?_
  refine k_n ?_
  refine wp_ret ?_
  refine r_c1 hF rfl rfl Try.isAgg33 Try.sizeOf33 (hO.cells 0 rfl) rfl ?_
  have hO := hO.drop1 0
  have hO := hO.drop1 0
  have hO : St _ _ _ [] := hO
  have hO := hO.leafT (T := 33) (rd0_any hR _ _) k n
  exact ⟨(TN.mk k n hd []), rfl, rfl, hO⟩

theorem id54_r (w0 : World) (k : Int) (n : List UInt8) (hd : Hdr) (hR : RdT w0 [] hd.v tnE []) : Ret Try.prog 54 #[.agg (tnE.cells (TN.mk k n hd [])).toArray] w0 (fun v w' => ∃ z : TN, v = .agg (tnE.cells z).toArray ∧ z.er = (TN.mk k n hd []).er ∧ St w0 [] w' [tE 33 z]) := by
  have hO := St.init0 w0
  refine ret_of (m := 4) Try.func54 rfl Try.ntmps54 [(0, .agg (tnE.cells (TN.mk k n hd [])).toArray)] rfl ⟨rfl, trivial⟩ fun a hF => ?_
  refine wp_seq ?_
  refine wp_region_lit ?_
  refine wl_e hF rfl rfl rfl (e_box hO rfl (hF.eval rfl) rfl) ?_
  rintro a _ w ⟨tk, rfl, hO⟩ hF
  refine wl_e hF rfl rfl rfl (e_alloc hO Try.zeroValue33 rfl rfl) ?_
  rintro a _ w ⟨rs, rfl, hO⟩ hF
  refine wl_nil ?_
  refine k_n ?_
  refine wp_seq ?_
  refine wp_region_lit ?_
  refine wl_v hF rfl rfl rfl (q_loadAgg Try.isAgg33 Try.sizeOf33 rfl (hF.eval rfl) (hO.cells 1 rfl) rfl) fun a hF => ?_
  refine wl_s hF rfl rfl (e_storeAll hO (i := 0) rfl Try.sizeOf33 rfl (hF.eval rfl) (hF.eval rfl) rfl rfl) ?_
  rintro a _ w ⟨-, hO⟩ hF
  have hO : St _ _ _ [_, _] := hO
  refine wl_nil ?_
  refine k_n ?_
  refine wp_ret ?_
  refine r_c1 hF rfl rfl Try.isAgg33 Try.sizeOf33 (hO.cells 0 rfl) rfl ?_
  have hO := hO.drop1 0
  have hO := hO.drop1 0
  have hO : St _ _ _ [] := hO
  have hO := hO.leafT (T := 33) (rd0_any hR _ _) k n
  exact ⟨(TN.mk k n hd []), rfl, rfl, hO⟩

set_option maxHeartbeats 2000000 in
theorem mapped46_i  (r : RT) (ih : ∀ r' : RT, r'.nodes < r.nodes → ∀ t : TN, ∀ (w0 : World),  RdN w0 [] t → t.er = r'.ty → r'.small → Ret Try.prog 44 #[.agg (tnE.cells t).toArray, .func (.func 46) #[] #[]] w0 (fun v w' => ∃ z : TN, v = .agg (tnE.cells z).toArray ∧ z.er = substF varT r'.ty ∧ St w0 [] w' [tE 33 z])) (k : Int) (n : List UInt8) (hd : Hdr) (l : List TN) (w0 : World) (hR : RdN w0 [] (TN.mk k n hd l)) (her : (TN.mk k n hd l).er = r.ty) (hsm : r.small) : Ret Try.prog 44 #[.agg (tnE.cells (TN.mk k n hd l)).toArray, .func (.func 46) #[] #[]] w0 (fun v w' => ∃ z : TN, v = .agg (tnE.cells z).toArray ∧ z.er = substF varT r.ty ∧ St w0 [] w' [tE 33 z]) := by
  have hO := St.init0 w0
  refine ret_of (m := 29) Try.func44 rfl Try.ntmps44 [(0, .agg (tnE.cells (TN.mk k n hd l)).toArray), (1, .func (.func 46) #[] #[])] rfl ⟨rfl, rfl, trivial⟩ fun a hF => ?_
  refine wp_seq ?_
  refine wp_region_lit ?_
  refine wl_e hF rfl rfl rfl (e_box hO rfl (hF.eval rfl) rfl) ?_
  rintro a _ w ⟨tk, rfl, hO⟩ hF
  refine wl_e hF rfl rfl rfl (e_alloc hO Try.zeroValue33 rfl rfl) ?_
  rintro a _ w ⟨rs, rfl, hO⟩ hF
  refine wl_nil ?_
  refine k_n ?_
  refine wp_seq ?_
  refine wp_seq ?_
  refine wp_region_lit ?_
  refine wl_v hF rfl rfl rfl (q_fieldAddr0 (d := 0) Try.underlying33 rfl (hF.eval rfl) rfl Try.sizeOf3 (by decide) rfl) fun a hF => ?_
  refine wl_v hF rfl rfl rfl (q_load Try.isAgg3 rfl (hF.eval rfl) (hO.cell 1 rfl rfl)) fun a hF => ?_
  refine wl_nil ?_
  refine k_n ?_
  refine wp_block ?_
  refine wp_seq ?_
  refine wp_region_lit ?_
  refine wl_v hF rfl rfl rfl (q_eq rfl (hF.eval rfl) (hF.eval rfl)) fun a hF => ?_
  refine wl_v hF rfl rfl rfl (q_assign rfl (hF.eval rfl)) fun a hF => ?_
  refine wl_nil ?_
  refine k_n ?_
  refine wp_ifD hF rfl rfl (fun hc1 => ?_) (fun hc1 => ?_)
  · skip
    obtain ⟨rfl, rfl⟩ := er_var her hc1
    obtain rfl : k = 52 := hc1
    have hnl : n.length ≤ 9223372036854775807 := Nat.le_trans hsm (by decide)
    refine wp_seq ?_
    refine wp_region_lit ?_
    refine wl_v hF rfl rfl rfl (q_move rfl (hF.eval rfl)) fun a hF => ?_
    refine wl_v hF rfl rfl rfl (q_loadAgg Try.isAgg33 Try.sizeOf33 rfl (hF.eval rfl) (hO.cells 1 rfl) rfl) fun a hF => ?_
    refine wl_e hF rfl rfl rfl (c_callV hF rfl (hF.eval rfl) rfl rfl Try.call46 (id46_r _ 52 n hd ((hR.sl).at0 hO))) ?_
    rintro a _ w ⟨tz, rfl, htz, hS⟩ hF
    have hO := hO.call0 hS
    have hO : St _ _ _ [_, _, _] := hO
    refine wl_s hF rfl rfl (e_storeAll hO (i := 1) rfl Try.sizeOf33 rfl (hF.eval rfl) (hF.eval rfl) rfl rfl) ?_
    rintro a _ w ⟨-, hO⟩ hF
    have hO : St _ _ _ [_, _, _] := hO
    refine wl_nil ?_
    refine k_n ?_
    refine wp_ret ?_
    refine b_r ?_
    refine k_r ?_
    refine r_c1 hF rfl rfl Try.isAgg33 Try.sizeOf33 (hO.cells 1 rfl) rfl ?_
    have hO := hO.drop1 1
    have hO := hO.drop1 1
    have hO : St _ _ _ [_] := hO
    exact ⟨tz, rfl, htz, hO⟩
  · skip
    refine wp_seq ?_
    refine wp_region_lit ?_
    refine wl_v hF rfl rfl rfl (q_eq rfl (hF.eval rfl) (hF.eval rfl)) fun a hF => ?_
    refine wl_v hF rfl rfl rfl (q_assign rfl (hF.eval rfl)) fun a hF => ?_
    refine wl_nil ?_
    refine k_n ?_
    refine wp_ifD hF rfl rfl (fun hc2 => ?_) (fun hc2 => ?_)
    · skip
      obtain ⟨rfl, rfl⟩ := er_con her hc2
      obtain rfl : k = 53 := hc2
      refine wp_seq ?_
      refine wp_region_lit ?_
      refine wl_v hF rfl rfl rfl (q_loadAgg Try.isAgg33 Try.sizeOf33 rfl (hF.eval rfl) (hO.cells 1 rfl) rfl) fun a hF => ?_
      refine wl_s hF rfl rfl (e_storeAll hO (i := 0) rfl Try.sizeOf33 rfl (hF.eval rfl) (hF.eval rfl) rfl rfl) ?_
      rintro a _ w ⟨-, hO⟩ hF
      have hO : St _ _ _ [_, _] := hO
      refine wl_nil ?_
      refine k_n ?_
      refine wp_ret ?_
      refine b_r ?_
      refine k_r ?_
      refine r_c1 hF rfl rfl Try.isAgg33 Try.sizeOf33 (hO.cells 0 rfl) rfl ?_
      have hO := hO.drop1 0
      have hO := hO.drop1 0
      have hO : St _ _ _ [] := hO
      have hO := hO.leafT (T := 33) (rd0_any hR.sl _ _) 53 n
      exact ⟨TN.mk 53 n hd [], rfl, rfl, hO⟩
    · skip
      obtain ⟨ra, rb, ta, tb, rfl, hk4, rfl, rfl, hea, heb⟩ := er_app her hc1 hc2
      have hpa := ra.pos
      have hpb := rb.pos
      have hnn : (RT.app ra rb).nodes = 1 + ra.nodes + rb.nodes := rfl
      refine wp_skip ?_
      refine b_n ?_
      refine k_n ?_
      refine wp_seq ?_
      have hO := hO.pull 1 rfl
      have hO := hO.drew
      refine wp_region_D [0, 1, 0, 1, 0, 2, 0, 1, 0, 1, 0, 3, 3, 0, 3] (fun w => ∃ L', St w0 [] w (.ob tk 33 (tnE.cells (TN.mk k [] hd [ta, tb])) :: L')) Try_mixed (by kernel_rfl) ⟨_, hO⟩ ?_
      refine wd_p hF rfl rfl rfl (fun w => q_fieldAddr0 (d := 2) Try.underlying33 rfl (hF.eval rfl) rfl Try.sizeOf31 (by decide) rfl) fun a hF => ?_
      refine wd_r hF rfl rfl rfl (fun w ⟨_, hO⟩ => q_load Try.isAgg31 rfl (hF.eval rfl) (hO.cell 0 rfl rfl)) fun a hF => ?_
      refine wd_p hF rfl rfl rfl (fun w => q_at (i := 0) hR.sl Try.underlying31 Try.sizeOf33 rfl (hF.eval rfl) (hF.eval rfl) (by simp)) fun a hF => ?_
      refine wd_r hF rfl rfl rfl (fun w ⟨_, hO⟩ => q_loadAgg Try.isAgg33 Try.sizeOf33 rfl (hF.eval rfl) (RdT.cells (hR.sl.now hO) (show [ta, tb][0]? = some ta from rfl)) rfl) fun a hF => ?_
      refine wd_p hF rfl rfl rfl (fun w => q_move rfl (hF.eval rfl)) fun a hF => ?_
      refine wd_e hF rfl rfl rfl (c_call hF rfl rfl Try.call44 (ih ra (by omega) ta _ ((hR.sub ta (by simp)).at0 hO) hea hsm.1)) (fun _ _ ⟨_, _, _, hS⟩ => ⟨_, (hO.call0 hS).pull 1 rfl⟩) ?_
      rintro a _ w ⟨tl, rfl, htl, hS⟩ hF
      have hO := hO.call0 hS
      have hO : St _ _ _ [_, _, _] := hO
      refine wd_p hF rfl rfl rfl (fun w => q_fieldAddr0 (d := 2) Try.underlying33 rfl (hF.eval rfl) rfl Try.sizeOf31 (by decide) rfl) fun a hF => ?_
      refine wd_r hF rfl rfl rfl (fun w ⟨_, hO⟩ => q_load Try.isAgg31 rfl (hF.eval rfl) (hO.cell 0 rfl rfl)) fun a hF => ?_
      refine wd_p hF rfl rfl rfl (fun w => q_at (i := 1) hR.sl Try.underlying31 Try.sizeOf33 rfl (hF.eval rfl) (hF.eval rfl) (by simp)) fun a hF => ?_
      refine wd_r hF rfl rfl rfl (fun w ⟨_, hO⟩ => q_loadAgg Try.isAgg33 Try.sizeOf33 rfl (hF.eval rfl) (RdT.cells (hR.sl.now hO) (show [ta, tb][1]? = some tb from rfl)) rfl) fun a hF => ?_
      refine wd_p hF rfl rfl rfl (fun w => q_move rfl (hF.eval rfl)) fun a hF => ?_
      refine wd_f hF rfl rfl rfl (c_call hF rfl rfl Try.call44 (ih rb (by omega) tb _ ((hR.sub tb (by simp)).at0 hO) heb hsm.2)) ?_
      rintro a _ w ⟨tr, rfl, htr, hS⟩ hF
      have hO := hO.call0 hS
      have hO : St _ _ _ [_, _, _, _] := hO
      refine wd_f hF rfl rfl rfl (c_buildSlice hF hO Try.underlying31 Try.sizeOf33 Try.zeroValue33 rfl rfl rfl rfl rfl rfl rfl) ?_
      rintro a _ w ⟨sb9, rfl, hO⟩ hF
      have hO : St _ _ _ (slT (.slice (some (adr sb9)) 2 2) 33 tnE [tl, tr] :: [_, _, _, _]) := hO
      have hO := hO.pull 1 rfl
      have hO := hO.pull 2 rfl
      have hO := hO.pull 2 rfl
      have hO := St.node2 (h := ⟨some (adr sb9), 2, 2⟩) hO 54 []
      have hO : St _ _ _ [_, _, _] := hO
      refine wd_p hF rfl rfl rfl (fun w => c_build hF Try.underlying33 Try.zeroValue33 Try_places33 rfl rfl rfl rfl) fun a hF => ?_
      refine wd_s hF rfl rfl (e_storeAll hO (i := 2) rfl Try.sizeOf33 rfl (hF.eval rfl) (hF.eval rfl) rfl rfl) ?_
      rintro a _ w ⟨-, hO⟩ hF
      have hO : St _ _ _ [_, _, _] := hO
      refine wd_nil ?_
      refine k_n ?_
      refine wp_ret ?_
      refine r_c1 hF rfl rfl Try.isAgg33 Try.sizeOf33 (hO.cells 2 rfl) rfl ?_
      have hO := hO.drop1 1
      have hO := hO.drop1 1
      have hO : St _ _ _ [_] := hO
      refine ⟨.mk 54 [] ⟨some (adr sb9), 2, 2⟩ [tl, tr], rfl, ?_, hO⟩
      show Ty.mk 54 [] [tl.er, tr.er] = _
      rw [htl, htr]; rfl


theorem mapped46_r  : ∀ (q : Nat) (r : RT), r.nodes < q → ∀ t : TN, ∀ (w0 : World),  RdN w0 [] t → t.er = r.ty → r.small → Ret Try.prog 44 #[.agg (tnE.cells t).toArray, .func (.func 46) #[] #[]] w0 (fun v w' => ∃ z : TN, v = .agg (tnE.cells z).toArray ∧ z.er = substF varT r.ty ∧ St w0 [] w' [tE 33 z])
  | 0, _, h => absurd h (Nat.not_lt_zero _)
  | q + 1, r, h => fun t => by
    obtain ⟨k, n', hd, l⟩ := t
    intro w0 h1 h2 h3
    exact mapped46_i  r (fun r' hr => mapped46_r  q r' (by omega)) k n' hd l w0 h1 h2 h3
set_option maxHeartbeats 2000000 in
theorem mapped54_i  (r : RT) (ih : ∀ r' : RT, r'.nodes < r.nodes → ∀ t : TN, ∀ (w0 : World),  RdN w0 [] t → t.er = r'.ty → r'.small → Ret Try.prog 44 #[.agg (tnE.cells t).toArray, .func (.func 54) #[] #[]] w0 (fun v w' => ∃ z : TN, v = .agg (tnE.cells z).toArray ∧ z.er = substF varT r'.ty ∧ St w0 [] w' [tE 33 z])) (k : Int) (n : List UInt8) (hd : Hdr) (l : List TN) (w0 : World) (hR : RdN w0 [] (TN.mk k n hd l)) (her : (TN.mk k n hd l).er = r.ty) (hsm : r.small) : Ret Try.prog 44 #[.agg (tnE.cells (TN.mk k n hd l)).toArray, .func (.func 54) #[] #[]] w0 (fun v w' => ∃ z : TN, v = .agg (tnE.cells z).toArray ∧ z.er = substF varT r.ty ∧ St w0 [] w' [tE 33 z]) := by
  have hO := St.init0 w0
  refine ret_of (m := 29) Try.func44 rfl Try.ntmps44 [(0, .agg (tnE.cells (TN.mk k n hd l)).toArray), (1, .func (.func 54) #[] #[])] rfl ⟨rfl, rfl, trivial⟩ fun a hF => ?_
  refine wp_seq ?_
  refine wp_region_lit ?_
  refine wl_e hF rfl rfl rfl (e_box hO rfl (hF.eval rfl) rfl) ?_
  rintro a _ w ⟨tk, rfl, hO⟩ hF
  refine wl_e hF rfl rfl rfl (e_alloc hO Try.zeroValue33 rfl rfl) ?_
  rintro a _ w ⟨rs, rfl, hO⟩ hF
  refine wl_nil ?_
  refine k_n ?_
  refine wp_seq ?_
  refine wp_seq ?_
  refine wp_region_lit ?_
  refine wl_v hF rfl rfl rfl (q_fieldAddr0 (d := 0) Try.underlying33 rfl (hF.eval rfl) rfl Try.sizeOf3 (by decide) rfl) fun a hF => ?_
  refine wl_v hF rfl rfl rfl (q_load Try.isAgg3 rfl (hF.eval rfl) (hO.cell 1 rfl rfl)) fun a hF => ?_
  refine wl_nil ?_
  refine k_n ?_
  refine wp_block ?_
  refine wp_seq ?_
  refine wp_region_lit ?_
  refine wl_v hF rfl rfl rfl (q_eq rfl (hF.eval rfl) (hF.eval rfl)) fun a hF => ?_
  refine wl_v hF rfl rfl rfl (q_assign rfl (hF.eval rfl)) fun a hF => ?_
  refine wl_nil ?_
  refine k_n ?_
  refine wp_ifD hF rfl rfl (fun hc1 => ?_) (fun hc1 => ?_)
  · skip
    obtain ⟨rfl, rfl⟩ := er_var her hc1
    obtain rfl : k = 52 := hc1
    have hnl : n.length ≤ 9223372036854775807 := Nat.le_trans hsm (by decide)
    refine wp_seq ?_
    refine wp_region_lit ?_
    refine wl_v hF rfl rfl rfl (q_move rfl (hF.eval rfl)) fun a hF => ?_
    refine wl_v hF rfl rfl rfl (q_loadAgg Try.isAgg33 Try.sizeOf33 rfl (hF.eval rfl) (hO.cells 1 rfl) rfl) fun a hF => ?_
    refine wl_e hF rfl rfl rfl (c_callV hF rfl (hF.eval rfl) rfl rfl Try.call54 (id54_r _ 52 n hd ((hR.sl).at0 hO))) ?_
    rintro a _ w ⟨tz, rfl, htz, hS⟩ hF
    have hO := hO.call0 hS
    have hO : St _ _ _ [_, _, _] := hO
    refine wl_s hF rfl rfl (e_storeAll hO (i := 1) rfl Try.sizeOf33 rfl (hF.eval rfl) (hF.eval rfl) rfl rfl) ?_
    rintro a _ w ⟨-, hO⟩ hF
    have hO : St _ _ _ [_, _, _] := hO
    refine wl_nil ?_
    refine k_n ?_
    refine wp_ret ?_
    refine b_r ?_
    refine k_r ?_
    refine r_c1 hF rfl rfl Try.isAgg33 Try.sizeOf33 (hO.cells 1 rfl) rfl ?_
    have hO := hO.drop1 1
    have hO := hO.drop1 1
    have hO : St _ _ _ [_] := hO
    exact ⟨tz, rfl, htz, hO⟩
  · skip
    refine wp_seq ?_
    refine wp_region_lit ?_
    refine wl_v hF rfl rfl rfl (q_eq rfl (hF.eval rfl) (hF.eval rfl)) fun a hF => ?_
    refine wl_v hF rfl rfl rfl (q_assign rfl (hF.eval rfl)) fun a hF => ?_
    refine wl_nil ?_
    refine k_n ?_
    refine wp_ifD hF rfl rfl (fun hc2 => ?_) (fun hc2 => ?_)
    · skip
      obtain ⟨rfl, rfl⟩ := er_con her hc2
      obtain rfl : k = 53 := hc2
      refine wp_seq ?_
      refine wp_region_lit ?_
      refine wl_v hF rfl rfl rfl (q_loadAgg Try.isAgg33 Try.sizeOf33 rfl (hF.eval rfl) (hO.cells 1 rfl) rfl) fun a hF => ?_
      refine wl_s hF rfl rfl (e_storeAll hO (i := 0) rfl Try.sizeOf33 rfl (hF.eval rfl) (hF.eval rfl) rfl rfl) ?_
      rintro a _ w ⟨-, hO⟩ hF
      have hO : St _ _ _ [_, _] := hO
      refine wl_nil ?_
      refine k_n ?_
      refine wp_ret ?_
      refine b_r ?_
      refine k_r ?_
      refine r_c1 hF rfl rfl Try.isAgg33 Try.sizeOf33 (hO.cells 0 rfl) rfl ?_
      have hO := hO.drop1 0
      have hO := hO.drop1 0
      have hO : St _ _ _ [] := hO
      have hO := hO.leafT (T := 33) (rd0_any hR.sl _ _) 53 n
      exact ⟨TN.mk 53 n hd [], rfl, rfl, hO⟩
    · skip
      obtain ⟨ra, rb, ta, tb, rfl, hk4, rfl, rfl, hea, heb⟩ := er_app her hc1 hc2
      have hpa := ra.pos
      have hpb := rb.pos
      have hnn : (RT.app ra rb).nodes = 1 + ra.nodes + rb.nodes := rfl
      refine wp_skip ?_
      refine b_n ?_
      refine k_n ?_
      refine wp_seq ?_
      have hO := hO.pull 1 rfl
      have hO := hO.drew
      refine wp_region_D [0, 1, 0, 1, 0, 2, 0, 1, 0, 1, 0, 3, 3, 0, 3] (fun w => ∃ L', St w0 [] w (.ob tk 33 (tnE.cells (TN.mk k [] hd [ta, tb])) :: L')) Try_mixed (by kernel_rfl) ⟨_, hO⟩ ?_
      refine wd_p hF rfl rfl rfl (fun w => q_fieldAddr0 (d := 2) Try.underlying33 rfl (hF.eval rfl) rfl Try.sizeOf31 (by decide) rfl) fun a hF => ?_
      refine wd_r hF rfl rfl rfl (fun w ⟨_, hO⟩ => q_load Try.isAgg31 rfl (hF.eval rfl) (hO.cell 0 rfl rfl)) fun a hF => ?_
      refine wd_p hF rfl rfl rfl (fun w => q_at (i := 0) hR.sl Try.underlying31 Try.sizeOf33 rfl (hF.eval rfl) (hF.eval rfl) (by simp)) fun a hF => ?_
      refine wd_r hF rfl rfl rfl (fun w ⟨_, hO⟩ => q_loadAgg Try.isAgg33 Try.sizeOf33 rfl (hF.eval rfl) (RdT.cells (hR.sl.now hO) (show [ta, tb][0]? = some ta from rfl)) rfl) fun a hF => ?_
      refine wd_p hF rfl rfl rfl (fun w => q_move rfl (hF.eval rfl)) fun a hF => ?_
      refine wd_e hF rfl rfl rfl (c_call hF rfl rfl Try.call44 (ih ra (by omega) ta _ ((hR.sub ta (by simp)).at0 hO) hea hsm.1)) (fun _ _ ⟨_, _, _, hS⟩ => ⟨_, (hO.call0 hS).pull 1 rfl⟩) ?_
      rintro a _ w ⟨tl, rfl, htl, hS⟩ hF
      have hO := hO.call0 hS
      have hO : St _ _ _ [_, _, _] := hO
      refine wd_p hF rfl rfl rfl (fun w => q_fieldAddr0 (d := 2) Try.underlying33 rfl (hF.eval rfl) rfl Try.sizeOf31 (by decide) rfl) fun a hF => ?_
      refine wd_r hF rfl rfl rfl (fun w ⟨_, hO⟩ => q_load Try.isAgg31 rfl (hF.eval rfl) (hO.cell 0 rfl rfl)) fun a hF => ?_
      refine wd_p hF rfl rfl rfl (fun w => q_at (i := 1) hR.sl Try.underlying31 Try.sizeOf33 rfl (hF.eval rfl) (hF.eval rfl) (by simp)) fun a hF => ?_
      refine wd_r hF rfl rfl rfl (fun w ⟨_, hO⟩ => q_loadAgg Try.isAgg33 Try.sizeOf33 rfl (hF.eval rfl) (RdT.cells (hR.sl.now hO) (show [ta, tb][1]? = some tb from rfl)) rfl) fun a hF => ?_
      refine wd_p hF rfl rfl rfl (fun w => q_move rfl (hF.eval rfl)) fun a hF => ?_
      refine wd_f hF rfl rfl rfl (c_call hF rfl rfl Try.call44 (ih rb (by omega) tb _ ((hR.sub tb (by simp)).at0 hO) heb hsm.2)) ?_
      rintro a _ w ⟨tr, rfl, htr, hS⟩ hF
      have hO := hO.call0 hS
      have hO : St _ _ _ [_, _, _, _] := hO
      refine wd_f hF rfl rfl rfl (c_buildSlice hF hO Try.underlying31 Try.sizeOf33 Try.zeroValue33 rfl rfl rfl rfl rfl rfl rfl) ?_
      rintro a _ w ⟨sb9, rfl, hO⟩ hF
      have hO : St _ _ _ (slT (.slice (some (adr sb9)) 2 2) 33 tnE [tl, tr] :: [_, _, _, _]) := hO
      have hO := hO.pull 1 rfl
      have hO := hO.pull 2 rfl
      have hO := hO.pull 2 rfl
      have hO := St.node2 (h := ⟨some (adr sb9), 2, 2⟩) hO 54 []
      have hO : St _ _ _ [_, _, _] := hO
      refine wd_p hF rfl rfl rfl (fun w => c_build hF Try.underlying33 Try.zeroValue33 Try_places33 rfl rfl rfl rfl) fun a hF => ?_
      refine wd_s hF rfl rfl (e_storeAll hO (i := 2) rfl Try.sizeOf33 rfl (hF.eval rfl) (hF.eval rfl) rfl rfl) ?_
      rintro a _ w ⟨-, hO⟩ hF
      have hO : St _ _ _ [_, _, _] := hO
      refine wd_nil ?_
      refine k_n ?_
      refine wp_ret ?_
      refine r_c1 hF rfl rfl Try.isAgg33 Try.sizeOf33 (hO.cells 2 rfl) rfl ?_
      have hO := hO.drop1 1
      have hO := hO.drop1 1
      have hO : St _ _ _ [_] := hO
      refine ⟨.mk 54 [] ⟨some (adr sb9), 2, 2⟩ [tl, tr], rfl, ?_, hO⟩
      show Ty.mk 54 [] [tl.er, tr.er] = _
      rw [htl, htr]; rfl


theorem mapped54_r  : ∀ (q : Nat) (r : RT), r.nodes < q → ∀ t : TN, ∀ (w0 : World),  RdN w0 [] t → t.er = r.ty → r.small → Ret Try.prog 44 #[.agg (tnE.cells t).toArray, .func (.func 54) #[] #[]] w0 (fun v w' => ∃ z : TN, v = .agg (tnE.cells z).toArray ∧ z.er = substF varT r.ty ∧ St w0 [] w' [tE 33 z])
  | 0, _, h => absurd h (Nat.not_lt_zero _)
  | q + 1, r, h => fun t => by
    obtain ⟨k, n', hd, l⟩ := t
    intro w0 h1 h2 h3
    exact mapped54_i  r (fun r' hr => mapped54_r  q r' (by omega)) k n' hd l w0 h1 h2 h3

theorem subst_var : ∀ r : RT, substF varT r.ty = r.ty := fun r => by
  have h := r.sub_ty .var
  rw [r.sub_var] at h
  exact h
set_option maxHeartbeats 1000000 in
theorem apply1_r (yb mb cn : Nat) (f : Lit → Option Value) (gm : Nam → Option TN) (w0 : World) (hI : ApI Try.prog yb mb cn f gm w0) (hsmall : ∀ n t r, gm n = some t → t.er = RT.ty r → r.small) (n : List UInt8) (hd : Hdr) (hR : RdT w0 [] hd.v tnE []) (hnl : n.length ≤ 9223372036854775807) : Ret Try.prog 45 #[.agg (tnE.cells (TN.mk 52 n hd [])).toArray, ptr (adr yb)] w0 (fun v w' => ∃ z : TN, v = .agg (tnE.cells z).toArray ∧ z.er = sgT gm n ∧ St w0 [] w' [tE 33 z]) := by
  have hO := St.init0 w0
  refine ret_of (m := 17) Try.func45 rfl Try.ntmps45 [(0, .agg (tnE.cells (TN.mk 52 n hd [])).toArray), (1, ptr (adr yb))] rfl ⟨rfl, rfl, trivial⟩ fun a hF => ?_
  refine wp_seq ?_
  refine wp_region_lit ?_
  refine wl_e hF rfl rfl rfl (e_box hO rfl (hF.eval rfl) rfl) ?_
  rintro a _ w ⟨tk, rfl, hO⟩ hF
  refine wl_e hF rfl rfl rfl (e_alloc hO Try.zeroValue33 rfl rfl) ?_
  rintro a _ w ⟨rs, rfl, hO⟩ hF
  refine wl_nil ?_
  refine k_n ?_
  refine wp_seq ?_
  refine wp_seq ?_
  refine wp_region_lit ?_
  refine wl_v hF rfl rfl rfl (q_load Try.isAgg82 rfl (hF.eval rfl) (rdB_cell0 (Rd.now hI.box hO) rfl)) fun a hF => ?_
  refine wl_v hF rfl rfl rfl (q_fieldAddr0 (d := 1) Try.underlying33 rfl (hF.eval rfl) rfl Try.sizeOf9 (by decide) rfl) fun a hF => ?_
  refine wl_v hF rfl rfl rfl (q_load Try.isAgg9 rfl (hF.eval rfl) (hO.cell 1 rfl rfl)) fun a hF => ?_
  refine wl_v hF rfl rfl rfl (q_lookT ((hI.at0 hO).map) hI.fit Try.underlying9 Try.underlying82 (Try.zeroValue33 _) rfl (hF.eval rfl) (hF.eval rfl) hnl) fun a hF => ?_
  refine wl_v hF rfl rfl rfl (q_move rfl (hF.eval rfl)) fun a hF => ?_
  refine wl_v hF rfl rfl rfl (q_extract rfl (hF.eval rfl) rfl) fun a hF => ?_
  refine wl_v hF rfl rfl rfl (q_extract rfl (hF.eval rfl) rfl) fun a hF => ?_
  refine wl_e hF rfl rfl rfl (e_alloc hO Try.zeroValue33 rfl rfl) ?_
  rintro a _ w ⟨u4, rfl, hO⟩ hF
  refine wl_s hF rfl rfl (e_storeAll hO (i := 0) rfl Try.sizeOf33 rfl (hF.eval rfl) (hF.eval rfl) rfl rfl) ?_
  rintro a _ w ⟨-, hO⟩ hF
  have hO : St _ _ _ [_, _, _] := hO
  refine wl_v hF rfl rfl rfl (q_assign rfl (hF.eval rfl)) fun a hF => ?_
  refine wl_nil ?_
  refine k_n ?_
  refine wp_seq ?_
  refine wp_region_lit ?_
  refine wl_v hF rfl rfl rfl (q_move rfl (hF.eval rfl)) fun a hF => ?_
  refine wl_nil ?_
  refine k_n ?_
  refine wp_ifD hF rfl (dec_b _) (fun hc1 => ?_) (fun hc1 => ?_)
  · skip
    obtain ⟨t, ht⟩ := Option.isSome_iff_exists.1 hc1
    have ht : gm n = some t := ht
    obtain ⟨r, hr⟩ := hI.rgt n t ht
    have hgt : (gm n).getD tn0 = t := by rw [ht]; rfl
    have hO : St _ _ _ [.ob u4 33 (tnE.cells ((gm n).getD tn0)), _, _] := hO
    rw [hgt] at hO
    refine wp_seq ?_
    refine wp_region_lit ?_
    refine wl_v hF rfl rfl rfl (q_loadAgg Try.isAgg33 Try.sizeOf33 rfl (hF.eval rfl) (hO.cells 0 rfl) rfl) fun a hF => ?_
    refine wl_e hF rfl rfl rfl (c_call hF rfl rfl Try.call44 (mapped46_r (r.nodes + 1) r (by omega) t _ ((hI.rds n t ht).at0 hO) hr (hsmall n t r ht hr))) ?_
    rintro a _ w ⟨tz, rfl, htz, hS⟩ hF
    have hO := hO.call0 hS
    have hO : St _ _ _ [_, _, _, _] := hO
    refine wl_s hF rfl rfl (e_storeAll hO (i := 2) rfl Try.sizeOf33 rfl (hF.eval rfl) (hF.eval rfl) rfl rfl) ?_
    rintro a _ w ⟨-, hO⟩ hF
    have hO : St _ _ _ [_, _, _, _] := hO
    refine wl_nil ?_
    refine k_n ?_
    refine wp_ret ?_
    refine k_r ?_
    refine r_c1 hF rfl rfl Try.isAgg33 Try.sizeOf33 (hO.cells 2 rfl) rfl ?_
    have hO := hO.drop1 1
    have hO := hO.drop1 1
    have hO := hO.drop1 1
    have hO : St _ _ _ [_] := hO
    refine ⟨tz, rfl, ?_, hO⟩
    rw [htz, subst_var, ← hr]; unfold sgT; rw [ht]
  · skip
    have hgn : gm n = none := Option.not_isSome_iff_eq_none.1 (show ¬ (gm n).isSome = true from hc1)
    refine wp_skip ?_
    refine k_n ?_
    refine wp_seq ?_
    refine wp_region_lit ?_
    refine wl_v hF rfl rfl rfl (q_loadAgg Try.isAgg33 Try.sizeOf33 rfl (hF.eval rfl) (hO.cells 2 rfl) rfl) fun a hF => ?_
    refine wl_s hF rfl rfl (e_storeAll hO (i := 1) rfl Try.sizeOf33 rfl (hF.eval rfl) (hF.eval rfl) rfl rfl) ?_
    rintro a _ w ⟨-, hO⟩ hF
    have hO : St _ _ _ [_, _, _] := hO
    refine wl_nil ?_
    refine k_n ?_
    refine wp_ret ?_
    refine r_c1 hF rfl rfl Try.isAgg33 Try.sizeOf33 (hO.cells 1 rfl) rfl ?_
    have hO := hO.drop1 0
    have hO := hO.drop1 0
    have hO := hO.drop1 0
    have hO : St _ _ _ [] := hO
    have hO := hO.leafT (T := 33) (rd0_any hR _ _) 52 n
    refine ⟨TN.mk 52 n hd [], rfl, ?_, hO⟩
    unfold sgT; rw [hgn]; rfl

set_option maxHeartbeats 2000000 in
theorem mapped45_i (yb mb cn : Nat) (f : Lit → Option Value) (gm : Nam → Option TN) (hsmall : ∀ n t r, gm n = some t → t.er = RT.ty r → r.small) (r : RT) (ih : ∀ r' : RT, r'.nodes < r.nodes → ∀ t : TN, ∀ (w0 : World), ApI Try.prog yb mb cn f gm w0 → RdN w0 [] t → t.er = r'.ty → r'.small → Ret Try.prog 44 #[.agg (tnE.cells t).toArray, .func (.func 45) #[] #[ptr (adr yb)]] w0 (fun v w' => ∃ z : TN, v = .agg (tnE.cells z).toArray ∧ z.er = substF (sgT gm) r'.ty ∧ St w0 [] w' [tE 33 z])) (k : Int) (n : List UInt8) (hd : Hdr) (l : List TN) (w0 : World) (hI : ApI Try.prog yb mb cn f gm w0) (hR : RdN w0 [] (TN.mk k n hd l)) (her : (TN.mk k n hd l).er = r.ty) (hsm : r.small) : Ret Try.prog 44 #[.agg (tnE.cells (TN.mk k n hd l)).toArray, .func (.func 45) #[] #[ptr (adr yb)]] w0 (fun v w' => ∃ z : TN, v = .agg (tnE.cells z).toArray ∧ z.er = substF (sgT gm) r.ty ∧ St w0 [] w' [tE 33 z]) := by
  have hO := St.init0 w0
  refine ret_of (m := 29) Try.func44 rfl Try.ntmps44 [(0, .agg (tnE.cells (TN.mk k n hd l)).toArray), (1, .func (.func 45) #[] #[ptr (adr yb)])] rfl ⟨rfl, rfl, trivial⟩ fun a hF => ?_
  refine wp_seq ?_
  refine wp_region_lit ?_
  refine wl_e hF rfl rfl rfl (e_box hO rfl (hF.eval rfl) rfl) ?_
  rintro a _ w ⟨tk, rfl, hO⟩ hF
  refine wl_e hF rfl rfl rfl (e_alloc hO Try.zeroValue33 rfl rfl) ?_
  rintro a _ w ⟨rs, rfl, hO⟩ hF
  refine wl_nil ?_
  refine k_n ?_
  refine wp_seq ?_
  refine wp_seq ?_
  refine wp_region_lit ?_
  refine wl_v hF rfl rfl rfl (q_fieldAddr0 (d := 0) Try.underlying33 rfl (hF.eval rfl) rfl Try.sizeOf3 (by decide) rfl) fun a hF => ?_
  refine wl_v hF rfl rfl rfl (q_load Try.isAgg3 rfl (hF.eval rfl) (hO.cell 1 rfl rfl)) fun a hF => ?_
  refine wl_nil ?_
  refine k_n ?_
  refine wp_block ?_
  refine wp_seq ?_
  refine wp_region_lit ?_
  refine wl_v hF rfl rfl rfl (q_eq rfl (hF.eval rfl) (hF.eval rfl)) fun a hF => ?_
  refine wl_v hF rfl rfl rfl (q_assign rfl (hF.eval rfl)) fun a hF => ?_
  refine wl_nil ?_
  refine k_n ?_
  refine wp_ifD hF rfl rfl (fun hc1 => ?_) (fun hc1 => ?_)
  · skip
    obtain ⟨rfl, rfl⟩ := er_var her hc1
    obtain rfl : k = 52 := hc1
    have hnl : n.length ≤ 9223372036854775807 := Nat.le_trans hsm (by decide)
    refine wp_seq ?_
    refine wp_region_lit ?_
    refine wl_v hF rfl rfl rfl (q_move rfl (hF.eval rfl)) fun a hF => ?_
    refine wl_v hF rfl rfl rfl (q_loadAgg Try.isAgg33 Try.sizeOf33 rfl (hF.eval rfl) (hO.cells 1 rfl) rfl) fun a hF => ?_
    refine wl_e hF rfl rfl rfl (c_callV hF rfl (hF.eval rfl) rfl rfl Try.call45 (apply1_r yb mb cn f gm _ (hI.at0 hO) hsmall n hd ((hR.sl).at0 hO) hnl)) ?_
    rintro a _ w ⟨tz, rfl, htz, hS⟩ hF
    have hO := hO.call0 hS
    have hO : St _ _ _ [_, _, _] := hO
    refine wl_s hF rfl rfl (e_storeAll hO (i := 1) rfl Try.sizeOf33 rfl (hF.eval rfl) (hF.eval rfl) rfl rfl) ?_
    rintro a _ w ⟨-, hO⟩ hF
    have hO : St _ _ _ [_, _, _] := hO
    refine wl_nil ?_
    refine k_n ?_
    refine wp_ret ?_
    refine b_r ?_
    refine k_r ?_
    refine r_c1 hF rfl rfl Try.isAgg33 Try.sizeOf33 (hO.cells 1 rfl) rfl ?_
    have hO := hO.drop1 1
    have hO := hO.drop1 1
    have hO : St _ _ _ [_] := hO
    exact ⟨tz, rfl, htz, hO⟩
  · skip
    refine wp_seq ?_
    refine wp_region_lit ?_
    refine wl_v hF rfl rfl rfl (q_eq rfl (hF.eval rfl) (hF.eval rfl)) fun a hF => ?_
    refine wl_v hF rfl rfl rfl (q_assign rfl (hF.eval rfl)) fun a hF => ?_
    refine wl_nil ?_
    refine k_n ?_
    refine wp_ifD hF rfl rfl (fun hc2 => ?_) (fun hc2 => ?_)
    · skip
      obtain ⟨rfl, rfl⟩ := er_con her hc2
      obtain rfl : k = 53 := hc2
      refine wp_seq ?_
      refine wp_region_lit ?_
      refine wl_v hF rfl rfl rfl (q_loadAgg Try.isAgg33 Try.sizeOf33 rfl (hF.eval rfl) (hO.cells 1 rfl) rfl) fun a hF => ?_
      refine wl_s hF rfl rfl (e_storeAll hO (i := 0) rfl Try.sizeOf33 rfl (hF.eval rfl) (hF.eval rfl) rfl rfl) ?_
      rintro a _ w ⟨-, hO⟩ hF
      have hO : St _ _ _ [_, _] := hO
      refine wl_nil ?_
      refine k_n ?_
      refine wp_ret ?_
      refine b_r ?_
      refine k_r ?_
      refine r_c1 hF rfl rfl Try.isAgg33 Try.sizeOf33 (hO.cells 0 rfl) rfl ?_
      have hO := hO.drop1 0
      have hO := hO.drop1 0
      have hO : St _ _ _ [] := hO
      have hO := hO.leafT (T := 33) (rd0_any hR.sl _ _) 53 n
      exact ⟨TN.mk 53 n hd [], rfl, rfl, hO⟩
    · skip
      obtain ⟨ra, rb, ta, tb, rfl, hk4, rfl, rfl, hea, heb⟩ := er_app her hc1 hc2
      have hpa := ra.pos
      have hpb := rb.pos
      have hnn : (RT.app ra rb).nodes = 1 + ra.nodes + rb.nodes := rfl
      refine wp_skip ?_
      refine b_n ?_
      refine k_n ?_
      refine wp_seq ?_
      have hO := hO.pull 1 rfl
      have hO := hO.drew
      refine wp_region_D [0, 1, 0, 1, 0, 2, 0, 1, 0, 1, 0, 3, 3, 0, 3] (fun w => ∃ L', St w0 [] w (.ob tk 33 (tnE.cells (TN.mk k [] hd [ta, tb])) :: L')) Try_mixed (by kernel_rfl) ⟨_, hO⟩ ?_
      refine wd_p hF rfl rfl rfl (fun w => q_fieldAddr0 (d := 2) Try.underlying33 rfl (hF.eval rfl) rfl Try.sizeOf31 (by decide) rfl) fun a hF => ?_
      refine wd_r hF rfl rfl rfl (fun w ⟨_, hO⟩ => q_load Try.isAgg31 rfl (hF.eval rfl) (hO.cell 0 rfl rfl)) fun a hF => ?_
      refine wd_p hF rfl rfl rfl (fun w => q_at (i := 0) hR.sl Try.underlying31 Try.sizeOf33 rfl (hF.eval rfl) (hF.eval rfl) (by simp)) fun a hF => ?_
      refine wd_r hF rfl rfl rfl (fun w ⟨_, hO⟩ => q_loadAgg Try.isAgg33 Try.sizeOf33 rfl (hF.eval rfl) (RdT.cells (hR.sl.now hO) (show [ta, tb][0]? = some ta from rfl)) rfl) fun a hF => ?_
      refine wd_p hF rfl rfl rfl (fun w => q_move rfl (hF.eval rfl)) fun a hF => ?_
      refine wd_e hF rfl rfl rfl (c_call hF rfl rfl Try.call44 (ih ra (by omega) ta _ (hI.at0 hO) ((hR.sub ta (by simp)).at0 hO) hea hsm.1)) (fun _ _ ⟨_, _, _, hS⟩ => ⟨_, (hO.call0 hS).pull 1 rfl⟩) ?_
      rintro a _ w ⟨tl, rfl, htl, hS⟩ hF
      have hO := hO.call0 hS
      have hO : St _ _ _ [_, _, _] := hO
      refine wd_p hF rfl rfl rfl (fun w => q_fieldAddr0 (d := 2) Try.underlying33 rfl (hF.eval rfl) rfl Try.sizeOf31 (by decide) rfl) fun a hF => ?_
      refine wd_r hF rfl rfl rfl (fun w ⟨_, hO⟩ => q_load Try.isAgg31 rfl (hF.eval rfl) (hO.cell 0 rfl rfl)) fun a hF => ?_
      refine wd_p hF rfl rfl rfl (fun w => q_at (i := 1) hR.sl Try.underlying31 Try.sizeOf33 rfl (hF.eval rfl) (hF.eval rfl) (by simp)) fun a hF => ?_
      refine wd_r hF rfl rfl rfl (fun w ⟨_, hO⟩ => q_loadAgg Try.isAgg33 Try.sizeOf33 rfl (hF.eval rfl) (RdT.cells (hR.sl.now hO) (show [ta, tb][1]? = some tb from rfl)) rfl) fun a hF => ?_
      refine wd_p hF rfl rfl rfl (fun w => q_move rfl (hF.eval rfl)) fun a hF => ?_
      refine wd_f hF rfl rfl rfl (c_call hF rfl rfl Try.call44 (ih rb (by omega) tb _ (hI.at0 hO) ((hR.sub tb (by simp)).at0 hO) heb hsm.2)) ?_
      rintro a _ w ⟨tr, rfl, htr, hS⟩ hF
      have hO := hO.call0 hS
      have hO : St _ _ _ [_, _, _, _] := hO
      refine wd_f hF rfl rfl rfl (c_buildSlice hF hO Try.underlying31 Try.sizeOf33 Try.zeroValue33 rfl rfl rfl rfl rfl rfl rfl) ?_
      rintro a _ w ⟨sb9, rfl, hO⟩ hF
      have hO : St _ _ _ (slT (.slice (some (adr sb9)) 2 2) 33 tnE [tl, tr] :: [_, _, _, _]) := hO
      have hO := hO.pull 1 rfl
      have hO := hO.pull 2 rfl
      have hO := hO.pull 2 rfl
      have hO := St.node2 (h := ⟨some (adr sb9), 2, 2⟩) hO 54 []
      have hO : St _ _ _ [_, _, _] := hO
      refine wd_p hF rfl rfl rfl (fun w => c_build hF Try.underlying33 Try.zeroValue33 Try_places33 rfl rfl rfl rfl) fun a hF => ?_
      refine wd_s hF rfl rfl (e_storeAll hO (i := 2) rfl Try.sizeOf33 rfl (hF.eval rfl) (hF.eval rfl) rfl rfl) ?_
      rintro a _ w ⟨-, hO⟩ hF
      have hO : St _ _ _ [_, _, _] := hO
      refine wd_nil ?_
      refine k_n ?_
      refine wp_ret ?_
      refine r_c1 hF rfl rfl Try.isAgg33 Try.sizeOf33 (hO.cells 2 rfl) rfl ?_
      have hO := hO.drop1 1
      have hO := hO.drop1 1
      have hO : St _ _ _ [_] := hO
      refine ⟨.mk 54 [] ⟨some (adr sb9), 2, 2⟩ [tl, tr], rfl, ?_, hO⟩
      show Ty.mk 54 [] [tl.er, tr.er] = _
      rw [htl, htr]; rfl


theorem mapped45_r (yb mb cn : Nat) (f : Lit → Option Value) (gm : Nam → Option TN) (hsmall : ∀ n t r, gm n = some t → t.er = RT.ty r → r.small) : ∀ (q : Nat) (r : RT), r.nodes < q → ∀ t : TN, ∀ (w0 : World), ApI Try.prog yb mb cn f gm w0 → RdN w0 [] t → t.er = r.ty → r.small → Ret Try.prog 44 #[.agg (tnE.cells t).toArray, .func (.func 45) #[] #[ptr (adr yb)]] w0 (fun v w' => ∃ z : TN, v = .agg (tnE.cells z).toArray ∧ z.er = substF (sgT gm) r.ty ∧ St w0 [] w' [tE 33 z])
  | 0, _, h => absurd h (Nat.not_lt_zero _)
  | q + 1, r, h => fun t => by
    obtain ⟨k, n', hd, l⟩ := t
    intro w0 hI h1 h2 h3
    exact mapped45_i yb mb cn f gm hsmall r (fun r' hr => mapped45_r yb mb cn f gm hsmall q r' (by omega)) k n' hd l w0 hI h1 h2 h3
end Go.Proofs.Ytfkmlcgccffmnaa
namespace Go.Proofs.Ytfkmlcgccffmnaa
open Go
set_option maxRecDepth 100000
set_option linter.unusedVariables false

theorem back_stops (n : Nat) (w : World) (bx : Nat) (v : Value) (st : List SbN) (bs : List Nat) (hlen : st.length ≤ 2000000000000) (hbox : w.cell? (adr bx) = some v) (hbl : bx < w.heap.size) (hv : RdT w [] v sbE st) (hb1 : bx ∈ bs) (hb2 : 0 < st.length → (sa v).block ∈ bs) :
    SeqStopsK Fence.wide n Try.prog 64 #[ptr (adr bx)] (fun x : SbI st => #[i64 (x.1.1 : Int), .agg (sbE.cells x.1.2).toArray]) (KeepB bs) (fun xs => xs = backS st st.length) (fun pre => ∃ k, k ≤ st.length ∧ pre = backS st k) st.length w := by
  intro l J Jx W hW _ _ hY h0
  have hbW : W.cell? (adr bx) = some v := (hW.cell (p := adr bx) hbl).trans hbox
  have hvW : RdT W [] v sbE st := hv.below hW
  have key : Ret Try.prog 64 #[.func (.yield l) #[] #[], ptr (adr bx)] W (fun _ w' => (∃ xs, xs = backS st st.length ∧ J xs w') ∨ (∃ pre, (∃ k, k ≤ st.length ∧ pre = backS st k) ∧ Jx pre w')) := by
    refine ret_of (m := 19) Try.func64 rfl Try.ntmps64 [(0, .func (.yield l) #[] #[]), (1, ptr (adr bx))] rfl ⟨rfl, rfl, trivial⟩ fun a hF => ?_
    refine wp_seq ?_
    refine wp_region_lit ?_
    refine wl_v hF rfl rfl rfl (q_load Try.isAgg23 rfl (hF.eval rfl) hbW) fun a hF => ?_
    refine wl_v hF rfl rfl rfl (q_lenRd hvW Try.underlying23 rfl (hF.eval rfl)) fun a hF => ?_
    refine wl_v hF rfl rfl rfl (q_sub rfl (hF.eval rfl) (hF.eval rfl) (by omega)) fun a hF => ?_
    refine wl_v hF rfl rfl rfl (q_assign rfl (hF.eval rfl)) fun a hF => ?_
    refine wl_nil ?_
    refine k_n ?_
    refine wp_block ?_
    refine wp_loopS (fun (k : Nat) a w' => (k ≤ st.length ∧ J (backS st (st.length - k)) w' ∧ KeepB bs W w') ∧ Fr a 19 [(0, .func (.yield l) #[] #[]), (1, ptr (adr bx)), (3, i64 ((k : Int) - 1))]) (fun k => k) st.length ⟨⟨Nat.le_refl _, by rw [Nat.sub_self]; exact h0, KeepB.refl _ _⟩, hF.sub ⟨rfl, rfl, rfl, trivial⟩⟩ ?_
    rintro k a wr ⟨⟨hk, hJ, hK⟩, hF⟩
    refine wp_seq ?_
    refine wp_seq ?_
    refine wp_region_lit ?_
    refine wl_v hF rfl rfl rfl (q_move rfl (hF.eval rfl)) fun a hF => ?_
    refine wl_v hF rfl rfl rfl (q_ge rfl (hF.eval rfl) (hF.eval rfl)) fun a hF => ?_
    refine wl_nil ?_
    refine k_n ?_
    refine wp_ifD hF rfl rfl (fun hc1 => ?_) (fun hc1 => ?_)
    · refine wp_skip ?_
      refine k_n ?_
      obtain ⟨m, rfl⟩ : ∃ m, k = m + 1 := ⟨k - 1, by omega⟩
      have em : ((m + 1 : Nat) : Int) - 1 = (m : Int) := by omega
      rw [em] at hF
      have hml : m < st.length := by omega
      have hbr : wr.cell? (adr bx) = some v := (World.cell?_of_block (hK.2 _ hb1)).trans hbW
      have hvr : RdT wr [] v sbE st := hvW.keepB hK hb2
      refine wp_seq ?_
      refine wp_block ?_
      refine wp_seq ?_
      refine wp_region_y n ?_
      refine wy_v hF rfl rfl rfl (q_move rfl (hF.eval rfl)) fun a hF => ?_
      refine wy_v hF rfl rfl rfl (q_move rfl (hF.eval rfl)) fun a hF => ?_
      refine wy_v hF rfl rfl rfl (q_load Try.isAgg23 rfl (hF.eval rfl) hbr) fun a hF => ?_
      refine wy_v hF rfl rfl rfl (q_move rfl (hF.eval rfl)) fun a hF => ?_
      refine wy_v hF rfl rfl rfl (q_at (i := m) hvr Try.underlying23 Try.sizeOf45 rfl (hF.eval rfl) (hF.eval rfl) (by omega)) fun a hF => ?_
      refine wy_v hF rfl rfl rfl (q_loadAgg Try.isAgg45 Try.sizeOf45 rfl (hF.eval rfl) (RdT.cells hvr (List.getElem?_eq_getElem hml)) rfl) fun a hF => ?_
      have hYm := hY (backS st (st.length - (m + 1))) ⟨(m, st[m]), List.getElem?_eq_getElem hml⟩ wr hJ (by rw [backS_len (by omega)]; omega)
      refine wy_yield hF rfl rfl rfl rfl rfl rfl hYm (fun e w' h => ?_) fun a u w' hR hF => ?_
      · rcases h with ⟨rfl, _⟩ | ⟨rfl, _⟩ <;> exact ⟨_, rfl⟩
      have eb : backS st (st.length - (m + 1)) ++ [⟨(m, st[m]), List.getElem?_eq_getElem hml⟩] = backS st (st.length - m) := by
        rw [show st.length - m = st.length - (m + 1) + 1 by omega, backS_succ hml (by omega)]
      rw [eb] at hR
      obtain ⟨b, rfl, hbt, hbf⟩ : ∃ b : Bool, u = .bool b ∧ (b = true → J (backS st (st.length - m)) w' ∧ KeepB bs wr w') ∧ (b = false → Jx (backS st (st.length - m)) w') := by
        rcases hR with ⟨h, h2, h3⟩ | ⟨h, h2⟩
        · cases h; exact ⟨true, rfl, fun _ => ⟨h2, h3⟩, fun h => by cases h⟩
        · cases h; exact ⟨false, rfl, (fun h => by cases h), fun _ => h2⟩
      refine wy_v hF rfl rfl rfl (q_not rfl (hF.eval rfl) (dec_b _)) fun a hF => ?_
      refine wy_nil ?_
      refine k_n ?_
      refine wp_ifD hF rfl rfl (fun hc2 => ?_) (fun hc2 => ?_)
      · refine wp_ret ?_
        refine b_r ?_
        refine k_r ?_
        refine k_r ?_
        refine b_r ?_
        refine r_0 hF rfl ?_
        exact .inr ⟨_, ⟨st.length - m, by omega, rfl⟩, hbf (by simpa using hc2)⟩
      · refine wp_skip ?_
        refine b_n ?_
        refine k_n ?_
        obtain ⟨hJ2, hK2⟩ := hbt (by simpa using hc2)
        refine wp_region_lit ?_
        refine wl_v hF rfl rfl rfl (q_move rfl (hF.eval rfl)) fun a hF => ?_
        refine wl_v hF rfl rfl rfl (q_sub rfl (hF.eval rfl) (hF.eval rfl) (by omega)) fun a hF => ?_
        refine wl_v hF rfl rfl rfl (q_assign rfl (hF.eval rfl)) fun a hF => ?_
        refine wl_nil ?_
        exact ⟨m, ⟨⟨by omega, hJ2, hK.trans hK2⟩, hF.sub ⟨rfl, rfl, rfl, trivial⟩⟩, by omega⟩
    · refine wp_exit ?_
      refine k_x ?_
      refine k_x ?_
      refine b_x ?_
      refine r_0n hF rfl ?_
      obtain rfl : k = 0 := by omega
      exact .inl ⟨_, rfl, hJ⟩
  exact callsIn_wide.2 (Calls.mono key fun e w' ⟨v, he, h⟩ => ⟨⟨v, he⟩, h⟩)
theorem backward_r (w0 : World) (v : Value) (st : List SbN) (hv : RdT w0 [] v sbE st) : Ret Try.prog 42 #[v] w0 (fun v2 w' => ∃ bx, v2 = .func (.func 64) #[] #[ptr (adr bx)] ∧ St w0 [] w' [.ob bx 23 [v]]) := by
  have hO := St.init0 w0
  refine ret_of (m := 4) Try.func42 rfl Try.ntmps42 [(0, v)] rfl ⟨rfl, trivial⟩ fun a hF => ?_
  refine wp_seq ?_
  refine wp_region_lit ?_
  refine wl_e hF rfl rfl rfl (e_box hO rfl (hF.eval rfl) (cells_one (RdT.one hv))) ?_
  rintro a _ w ⟨bx, rfl, hO⟩ hF
  refine wl_v hF rfl rfl rfl (q_assign rfl (hF.eval rfl)) fun a hF => ?_
  refine wl_nil ?_
  refine k_n ?_
  refine wp_seq ?_
  refine wp_region_lit ?_
  refine wl_v hF rfl rfl rfl (c_makeFunc hF rfl rfl rfl) fun a hF => ?_
  refine wl_v hF rfl rfl rfl (q_assign rfl (hF.eval rfl)) fun a hF => ?_
  refine wl_nil ?_
  refine k_n ?_
  refine wp_ret ?_
  refine r_1 hF rfl rfl ?_
  exact ⟨_, rfl, hO⟩

set_option maxHeartbeats 4000000 in
theorem apply_r (w0 : World) (t : TN) (vs : Value) (ss : List SbN) (hR : RdN w0 [] t) (hSs : RdT w0 [] vs sbE ss) (hSn : ∀ s ∈ ss, RdN w0 [] s.t) (hF0 : Fit t.er) (hFs : ∀ s ∈ ss, Fit s.t.er ∧ s.name.length ≤ 4611686018427387904) (hlen : ss.length ≤ 1000000000000) : Ret Try.prog 15 #[.agg (tnE.cells t).toArray, vs] w0 (fun v w' => ∃ z : TN, v = .agg (tnE.cells z).toArray ∧ z.er = applyF t.er (ss.map SbN.er) ∧ St w0 [] w' [tE 33 z]) := by
  have hO := St.init0 w0
  refine ret_ofM 1 (m := 42) Try.func15 rfl Try.ntmps15 [(0, .agg (tnE.cells t).toArray), (1, vs)] rfl ⟨rfl, rfl, trivial⟩ fun a hF => ?_
  refine wp_seq ?_
  refine wp_region_lit ?_
  refine wl_e hF rfl rfl rfl (e_box hO rfl (hF.eval rfl) rfl) ?_
  rintro a _ w ⟨tk, rfl, hO⟩ hF
  refine wl_e hF rfl rfl rfl (e_alloc hO Try.zeroValue33 rfl rfl) ?_
  rintro a _ w ⟨rs, rfl, hO⟩ hF
  refine wl_nil ?_
  refine k_n ?_
  refine wp_seq ?_
  refine wp_region_lit ?_
  refine wl_e hF rfl rfl rfl (e_makeMap hO 9 rfl) ?_
  rintro a _ w ⟨mp, rfl, hO⟩ hF
  refine wl_e hF rfl rfl rfl (e_alloc hO Try.zeroValue82 rfl rfl) ?_
  rintro a _ w ⟨yb, rfl, hO⟩ hF
  refine wl_s hF rfl rfl (e_store0 hO (i := 0) rfl Try.sizeOf82 rfl (hF.eval rfl) (hF.eval rfl) rfl rfl rfl) ?_
  rintro a _ w ⟨-, hO⟩ hF
  have hO : St _ _ _ [_, _, _, _] := hO
  refine wl_nil ?_
  refine k_n ?_
  refine wp_seq ?_
  refine wp_seq ?_
  refine wp_region_lit ?_
  refine wl_v hF rfl rfl rfl (q_move rfl (hF.eval rfl)) fun a hF => ?_
  refine wl_e hF rfl rfl rfl (c_call hF rfl rfl Try.call42 (backward_r _ _ _ (hSs.at0 hO))) ?_
  rintro a _ w ⟨bx, rfl, hS⟩ hF
  have hO := hO.call0 hS
  have hO : St _ _ _ [_, _, _, _, _] := hO
  refine wl_nil ?_
  refine k_n ?_
  refine wp_block ?_
  have hO := hO.pull 4 rfl
  have hO := hO.pull 2 rfl
  have hO := hO.pull 3 rfl
  have hO := hO.pull 4 rfl
  have hO : St _ _ _ [_, _, _, _, _] := hO
  have hle := hO.le
  have hmpl : mp < w.heap.size := hO.lt (mem_blk.2 ⟨_, List.mem_of_getElem? (i := 1) rfl, List.mem_singleton.2 rfl⟩)
  have hbx := hO.cell0 4 rfl rfl
  have hbl : bx < w.heap.size := Ent.ok_lt (hO.ok (i := 4) rfl) rfl
  have hv := hSs.at0 hO
  obtain ⟨bs, hbs1, hbs2, hbs⟩ : ∃ bs : List Nat, bx ∈ bs ∧ (0 < ss.length → (sa vs).block ∈ bs) ∧ ∀ b ∈ bs, b = bx ∨ (b < w0.heap.size ∧ 0 < ss.length) := by
    by_cases h0 : 0 < ss.length
    · exact ⟨[bx, (sa vs).block], by simp, fun _ => by simp, fun b hb => by
        rcases List.mem_cons.1 hb with rfl | hb
        · exact .inl rfl
        · rw [List.mem_singleton.1 hb]; exact .inr ⟨(hSs.blk h0).1, h0⟩⟩
    · exact ⟨[bx], by simp, fun h => absurd h h0, fun b hb => .inl (List.mem_singleton.1 hb)⟩
  have hbw : ∀ b ∈ bs, b < w.heap.size := fun b hb => by rcases hbs b hb with e | ⟨h, _⟩; rw [e]; exact hbl; omega
  refine wp_rangeW (α := SbI ss) 1 (hF.eval rfl) Try.call64 (back_stops 2 w bx vs ss bs (by omega) hbx hbl hv hbs1 hbs2) (fun h k => KeepB.trans h k) (fun W l o o2 hl _ => ⟨by simp [World.putObj], fun b hb => World.putObj_heap_other (by have := hbw b hb; omega)⟩) (fun _ => rfl)
    (fun xs W => ∃ cn f, (∀ x ∈ xs, rightF x.1.2.t.er = true) ∧ MapT f (gAl (xs.map fun x : SbI ss => x.1.2)) ∧ cn ≤ xs.length ∧ St w0 [] W [.ob rs 33 [i64 0, str [], .slice none 0 0], Ent.mapE Try.prog 9 mp cn f, .ob yb 82 [.map (some mp)], .ob tk 33 (tnE.cells t), .ob bx 23 [vs]])
    (fun pre x a W => pre.length < ss.length ∧ ∃ cn f t7, (∀ x ∈ pre, rightF x.1.2.t.er = true) ∧ MapT f (gAl (pre.map fun x : SbI ss => x.1.2)) ∧ cn ≤ pre.length ∧ St w0 [] W (.ob t7 45 (sbE.cells x.1.2) :: [.ob rs 33 [i64 0, str [], .slice none 0 0], Ent.mapE Try.prog 9 mp cn f, .ob yb 82 [.map (some mp)], .ob tk 33 (tnE.cells t), .ob bx 23 [vs]]) ∧ Fr a 42 [(2, ptr (adr tk)), (4, ptr (adr rs)), (5, ptr (adr yb)), (7, ptr (adr t7))])
    (fun c xs W => c = .ret ∧ (∃ x ∈ xs, rightF x.1.2.t.er = false) ∧ ∃ cn f, St w0 [] W [.ob rs 33 [i64 0, str [], .slice none 0 0], Ent.mapE Try.prog 9 mp cn f, .ob yb 82 [.map (some mp)], .ob tk 33 (tnE.cells t), .ob bx 23 [vs]])
    (fun s W W2 row ⟨cn, f, h1, h2, h3, hS⟩ hg hr => ⟨cn, f, h1, h2, h3, hS.grownF (B := w.heap.size) (low_of (L := [.ob rs 33 [i64 0, str [], .slice none 0 0], Ent.mapE Try.prog 9 mp cn f, .ob yb 82 [.map (some mp)], .ob tk 33 (tnE.cells t), .ob bx 23 [vs]]) hS.own (fun e he => by simp only [List.mem_cons, List.not_mem_nil, or_false] at he; rcases he with rfl | rfl | rfl | rfl | rfl <;> first | exact .inl rfl | exact .inr fun b hb => by obtain rfl := List.mem_singleton.1 hb; exact hmpl)) hg (fun r e => ⟨⟨(hr r e).1, Nat.le_trans hle (hr r e).1⟩, (hr r e).2⟩)⟩)
    (fun pre x a s W W2 row ⟨hl, cn, f, t7, h1, h2, h3, hS, hp⟩ hg hr => ⟨hl, cn, f, t7, h1, h2, h3, hS.grownF (B := w.heap.size) (low_of (L := (.ob t7 45 (sbE.cells x.1.2) :: [.ob rs 33 [i64 0, str [], .slice none 0 0], Ent.mapE Try.prog 9 mp cn f, .ob yb 82 [.map (some mp)], .ob tk 33 (tnE.cells t), .ob bx 23 [vs]])) hS.own (fun e he => by simp only [List.mem_cons, List.not_mem_nil, or_false] at he; rcases he with rfl | rfl | rfl | rfl | rfl | rfl <;> first | exact .inl rfl | exact .inr fun b hb => by obtain rfl := List.mem_singleton.1 hb; exact hmpl)) hg (fun r e => ⟨⟨(hr r e).1, Nat.le_trans hle (hr r e).1⟩, (hr r e).2⟩), hp⟩)
    (fun c s W W2 row ⟨hc, hx, cn, f, hS⟩ hg hr => ⟨hc, hx, cn, f, hS.grownF (B := w.heap.size) (low_of (L := [.ob rs 33 [i64 0, str [], .slice none 0 0], Ent.mapE Try.prog 9 mp cn f, .ob yb 82 [.map (some mp)], .ob tk 33 (tnE.cells t), .ob bx 23 [vs]]) hS.own (fun e he => by simp only [List.mem_cons, List.not_mem_nil, or_false] at he; rcases he with rfl | rfl | rfl | rfl | rfl <;> first | exact .inl rfl | exact .inr fun b hb => by obtain rfl := List.mem_singleton.1 hb; exact hmpl)) hg (fun r e => ⟨⟨(hr r e).1, Nat.le_trans hle (hr r e).1⟩, (hr r e).2⟩)⟩)
    ⟨0, _, fun x hx => (by cases hx), mapT_none, Nat.le_refl _, hO⟩ ?_ ?_ ?_ ?_
  · skip
    rintro l pre x W ⟨cn, f, h1, h2, h3, hU⟩ hpl
    have hA := (St.front (A := [.ob rs 33 [i64 0, str [], .slice none 0 0], Ent.mapE Try.prog 9 mp cn f, .ob yb 82 [.map (some mp)]]) hU).owns
    have hO := St.init hA
    have hF := fr_yield2 (t := 15) (u := 16) hF (i64 (x.1.1 : Int)) (.agg (sbE.cells x.1.2).toArray) rfl rfl
    refine wi_region_lit (by kernel_rfl) (fun ⟨_, _, h⟩ => h) ?_
    refine wl_e hF rfl rfl rfl (e_alloc hO Try.zeroValue45 rfl rfl) ?_
    rintro a _ w ⟨t7, rfl, hO⟩ hF
    refine wl_s hF rfl rfl (e_storeAll hO (i := 0) rfl Try.sizeOf45 rfl (hF.eval rfl) (hF.eval rfl) rfl rfl) ?_
    rintro a _ w ⟨-, hO⟩ hF
    have hO : St _ _ _ [_, _, _, _] := hO
    refine wl_nil ?_
    refine k_n ?_
    exact ⟨St.othersF (low_of (L := [.ob rs 33 [i64 0, str [], .slice none 0 0], Ent.mapE Try.prog 9 mp cn f, .ob yb 82 [.map (some mp)]]) hA.own (fun e he => by simp only [List.mem_cons, List.not_mem_nil, or_false] at he; rcases he with rfl | rfl | rfl <;> first | exact .inl rfl | exact .inr fun b hb => by obtain rfl := List.mem_singleton.1 hb; exact hmpl)) hO, ⟨hO.le, fun b hb => by rcases hbs b hb with e | ⟨h0, h1⟩; rw [e]; exact St.keepOf (A := [.ob rs 33 [i64 0, str [], .slice none 0 0], Ent.mapE Try.prog 9 mp cn f, .ob yb 82 [.map (some mp)]]) hU hO (mem_blks ⟨_, List.mem_of_getElem? (i := 1) rfl, rfl⟩); exact hO.keep b (Nat.lt_of_lt_of_le h0 hU.le) fun hm => by have := (hU.src b (sub_blks (List.sublist_append_left [.ob rs 33 [i64 0, str [], .slice none 0 0], Ent.mapE Try.prog 9 mp cn f, .ob yb 82 [.map (some mp)]] _) |>.subset hm)).resolve_left (by simp); omega⟩, hpl, cn, f, t7, h1, h2, h3, (St.call (A := [.ob rs 33 [i64 0, str [], .slice none 0 0], Ent.mapE Try.prog 9 mp cn f, .ob yb 82 [.map (some mp)]]) hU hO), hF.sub ⟨rfl, rfl, rfl, rfl, trivial⟩⟩
  · skip
    rintro l pre x a W ⟨hpl, cn, f, t7, h1, h2, h3, hU, hF⟩
    have hA := (St.front (A := [.ob t7 45 (sbE.cells x.1.2), .ob rs 33 [i64 0, str [], .slice none 0 0], Ent.mapE Try.prog 9 mp cn f, .ob yb 82 [.map (some mp)]]) hU).owns
    have hO := St.init hA
    have hxm := List.mem_of_getElem? x.2
    have hRx := RdN.now (St.front (A := [.ob t7 45 (sbE.cells x.1.2), .ob rs 33 [i64 0, str [], .slice none 0 0], Ent.mapE Try.prog 9 mp cn f, .ob yb 82 [.map (some mp)]]) hU) (hSn _ hxm)
    have hNx := (hFs _ hxm).1.nodes
    have hxn : x.1.2.name.length ≤ 9223372036854775807 := Nat.le_trans (hFs _ hxm).2 (by decide)
    refine wi_block ?_
    refine wi_seq ?_
    refine wi_seq ?_
    refine wi_region_lit (by kernel_rfl) (fun ⟨_, _, h⟩ => h) ?_
    refine wl_v hF rfl rfl rfl (q_fieldAddr0 (d := 1) Try.underlying45 rfl (hF.eval rfl) rfl Try.sizeOf33 (by decide) rfl) fun a hF => ?_
    refine wl_v hF rfl rfl rfl (q_loadAgg Try.isAgg33 Try.sizeOf33 rfl (hF.eval rfl) (hO.cellsK 0 rfl 1 3 rfl) rfl) fun a hF => ?_
    refine wl_e hF rfl rfl rfl (c_call hF rfl rfl Try.call43 (isType_r x.1.2.t _ (RdN.at0 hRx hO) hNx)) ?_
    rintro a _ w ⟨m, rfl, hm, hS⟩ hF
    have hO := hO.call0 hS
    have hO : St _ _ _ [_, _, _, _] := hO
    refine wl_v hF rfl rfl rfl (q_move rfl (hF.eval rfl)) fun a hF => ?_
    refine wl_v hF rfl rfl rfl (q_extract rfl (hF.eval rfl) rfl) fun a hF => ?_
    refine wl_v hF rfl rfl rfl (q_extract rfl (hF.eval rfl) rfl) fun a hF => ?_
    refine wl_v hF rfl rfl rfl (q_assign rfl (hF.eval rfl)) fun a hF => ?_
    refine wl_v hF rfl rfl rfl (q_assign rfl (hF.eval rfl)) fun a hF => ?_
    refine wl_nil ?_
    refine k_n ?_
    refine wi_seq ?_
    refine wi_region_lit (by kernel_rfl) (fun ⟨_, _, h⟩ => h) ?_
    refine wl_v hF rfl rfl rfl (q_move rfl (hF.eval rfl)) fun a hF => ?_
    refine wl_v hF rfl rfl rfl (q_not rfl (hF.eval rfl) (dec_b _)) fun a hF => ?_
    refine wl_nil ?_
    refine k_n ?_
    refine wi_ifD hF rfl rfl (fun hc1 => ?_) (fun hc1 => ?_)
    · skip
      have hxr : rightF x.1.2.t.er = false := by simpa using hc1
      refine wi_seq ?_
      refine wi_region_lit (by kernel_rfl) (fun ⟨_, _, h⟩ => h) ?_
      refine wl_v hF rfl rfl rfl (c_build hF Try.underlying33 Try.zeroValue33 Try_places33 rfl rfl rfl rfl) fun a hF => ?_
      refine wl_s hF rfl rfl (e_storeAll hO (i := 1) rfl Try.sizeOf33 rfl (hF.eval rfl) (hF.eval rfl) rfl rfl) ?_
      rintro a _ w ⟨-, hO⟩ hF
      have hO : St _ _ _ [_, _, _, _] := hO
      refine wl_nil ?_
      refine k_n ?_
      refine wi_ret ?_
      refine k_r ?_
      refine b_r ?_
      exact ⟨St.othersF (low_of (L := [.ob t7 45 (sbE.cells x.1.2), .ob rs 33 [i64 0, str [], .slice none 0 0], Ent.mapE Try.prog 9 mp cn f, .ob yb 82 [.map (some mp)]]) hA.own (fun e he => by simp only [List.mem_cons, List.not_mem_nil, or_false] at he; rcases he with rfl | rfl | rfl | rfl <;> first | exact .inl rfl | exact .inr fun b hb => by obtain rfl := List.mem_singleton.1 hb; exact hmpl)) hO, rfl, ⟨x, by simp, hxr⟩, cn, f, ((St.call (A := [.ob t7 45 (sbE.cells x.1.2), .ob rs 33 [i64 0, str [], .slice none 0 0], Ent.mapE Try.prog 9 mp cn f, .ob yb 82 [.map (some mp)]]) hU hO).drop1 0)⟩
    · skip
      have hxr : rightF x.1.2.t.er = true := by simpa using hc1
      refine wi_skip ?_
      refine k_n ?_
      refine wi_region_lit (by kernel_rfl) (fun ⟨_, _, h⟩ => h) ?_
      refine wl_v hF rfl rfl rfl (q_load Try.isAgg82 rfl (hF.eval rfl) (hO.cell0 3 rfl rfl)) fun a hF => ?_
      refine wl_v hF rfl rfl rfl (q_fieldAddr0 (d := 0) Try.underlying45 rfl (hF.eval rfl) rfl Try.sizeOf9 (by decide) rfl) fun a hF => ?_
      refine wl_v hF rfl rfl rfl (q_load Try.isAgg9 rfl (hF.eval rfl) (hO.cell 0 rfl rfl)) fun a hF => ?_
      refine wl_v hF rfl rfl rfl (q_fieldAddr0 (d := 1) Try.underlying45 rfl (hF.eval rfl) rfl Try.sizeOf33 (by decide) rfl) fun a hF => ?_
      refine wl_v hF rfl rfl rfl (q_loadAgg Try.isAgg33 Try.sizeOf33 rfl (hF.eval rfl) (hO.cellsK 0 rfl 1 3 rfl) rfl) fun a hF => ?_
      refine wl_s hF rfl rfl (e_mapPut (v := tyV x.1.2.t) hO (i := 2) rfl (Go.Maps.string_keyed Try.underlying9) Try.underlying82 (by unfold Go.maxLen; omega) rfl (hF.eval rfl) (hF.eval rfl) (hF.eval rfl) (keyStr Try.underlying9 hxn)) ?_
      rintro a _ w ⟨-, hO⟩ hF
      have hO : St _ _ _ [_, _, _, _] := hO
      refine wl_nil ?_
      refine b_n ?_
      exact ⟨St.othersF (low_of (L := [.ob t7 45 (sbE.cells x.1.2), .ob rs 33 [i64 0, str [], .slice none 0 0], Ent.mapE Try.prog 9 mp cn f, .ob yb 82 [.map (some mp)]]) hA.own (fun e he => by simp only [List.mem_cons, List.not_mem_nil, or_false] at he; rcases he with rfl | rfl | rfl | rfl <;> first | exact .inl rfl | exact .inr fun b hb => by obtain rfl := List.mem_singleton.1 hb; exact hmpl)) hO, ⟨hO.le, fun b hb => by rcases hbs b hb with e | ⟨h0, h1⟩; rw [e]; exact St.keepOf (A := [.ob t7 45 (sbE.cells x.1.2), .ob rs 33 [i64 0, str [], .slice none 0 0], Ent.mapE Try.prog 9 mp cn f, .ob yb 82 [.map (some mp)]]) hU hO (mem_blks ⟨_, List.mem_of_getElem? (i := 1) rfl, rfl⟩); exact hO.keep b (Nat.lt_of_lt_of_le h0 hU.le) fun hm => by have := (hU.src b (sub_blks (List.sublist_append_left [.ob t7 45 (sbE.cells x.1.2), .ob rs 33 [i64 0, str [], .slice none 0 0], Ent.mapE Try.prog 9 mp cn f, .ob yb 82 [.map (some mp)]] _) |>.subset hm)).resolve_left (by simp); omega⟩, cn + 1, _, fun y hy => (List.mem_append.1 hy).elim (h1 y) fun h => by rw [List.mem_singleton.1 h]; exact hxr, by rw [List.map_append, List.map_singleton, gAl_next]; exact h2.put _ _, by rw [List.length_append]; exact Nat.succ_le_succ h3, ((St.call (A := [.ob t7 45 (sbE.cells x.1.2), .ob rs 33 [i64 0, str [], .slice none 0 0], Ent.mapE Try.prog 9 mp cn f, .ob yb 82 [.map (some mp)]]) hU hO).drop1 0)⟩
  · skip
    rintro D xs W hD rfl ⟨cn, f, h1, hmt, h3, hO⟩ hdf
    rw [hF.defs]
    rw [backS_all, gAl_all] at hmt
    have hall : ∀ s ∈ ss, rightF s.t.er = true := fun s hs => by
      have h5 : s ∈ (backS ss ss.length).map (·.1.2) := by rw [backS_all]; exact List.mem_reverse.2 hs
      obtain ⟨x, hx, rfl⟩ := List.mem_map.1 h5
      exact h1 x hx
    have hleD : w0.heap.size ≤ D := by rw [← hD]; exact hle
    have hmplD : mp < D := by rw [← hD]; exact hmpl
    have hO := hO.addMpF (low_of (L := [.ob rs 33 [i64 0, str [], .slice none 0 0], Ent.mapE Try.prog 9 mp cn f, .ob yb 82 [.map (some mp)], .ob tk 33 (tnE.cells t), .ob bx 23 [vs]]) hO.own (fun e he => by simp only [List.mem_cons, List.not_mem_nil, or_false] at he; rcases he with rfl | rfl | rfl | rfl | rfl <;> first | exact .inl rfl | exact .inr fun b hb => by obtain rfl := List.mem_singleton.1 hb; exact hmplD)) hleD hdf rfl
    refine b_n ?_
    refine k_n ?_
    refine wp_seq ?_
    refine wp_seq ?_
    refine wp_region_LD [3, 3, 0, 0, 0, 0, 0] ?_
    refine wd_f hF rfl rfl rfl (QV.eff (q_loadAgg Try.isAgg33 Try.sizeOf33 rfl (hF.eval rfl) (hO.cells 4 rfl) rfl)) ?_
    rintro a _ w ⟨rfl, rfl⟩ hF
    refine wd_f hF rfl rfl rfl (c_call hF rfl rfl Try.call43 (isType_r t _ (hR.at0 hO) hF0.nodes)) ?_
    rintro a _ w ⟨m, rfl, hm, hS⟩ hF
    have hO := hO.call0 hS
    have hO : St _ _ _ [_, _, _, _, _, _] := hO
    refine wd_p hF rfl rfl rfl (fun w => q_move rfl (hF.eval rfl)) fun a hF => ?_
    refine wd_p hF rfl rfl rfl (fun w => q_extract rfl (hF.eval rfl) rfl) fun a hF => ?_
    refine wd_p hF rfl rfl rfl (fun w => q_extract rfl (hF.eval rfl) rfl) fun a hF => ?_
    refine wd_p hF rfl rfl rfl (fun w => q_assign rfl (hF.eval rfl)) fun a hF => ?_
    refine wd_p hF rfl rfl rfl (fun w => q_assign rfl (hF.eval rfl)) fun a hF => ?_
    refine wd_nil ?_
    refine k_n ?_
    refine wp_seq ?_
    refine wp_region_LD [0, 0] ?_
    refine wd_p hF rfl rfl rfl (fun w => q_move rfl (hF.eval rfl)) fun a hF => ?_
    refine wd_p hF rfl rfl rfl (fun w => q_not rfl (hF.eval rfl) (dec_b _)) fun a hF => ?_
    refine wd_nil ?_
    refine k_n ?_
    refine wp_ifDW hF rfl rfl (fun hc2 => ?_) (fun hc2 => ?_)
    · skip
      have htr : rightF t.er = false := by simpa using hc2
      refine wp_seq ?_
      refine wp_region_LD [0, 3] ?_
      refine wd_p hF rfl rfl rfl (fun w => c_build hF Try.underlying33 Try.zeroValue33 Try_places33 rfl rfl rfl rfl) fun a hF => ?_
      refine wd_s hF rfl rfl (e_storeAll hO (i := 1) rfl Try.sizeOf33 rfl (hF.eval rfl) (hF.eval rfl) rfl rfl) ?_
      rintro a _ w ⟨-, hO⟩ hF
      have hO : St _ _ _ [_, _, _, _, _, _] := hO
      refine wd_nil ?_
      refine k_n ?_
      refine wp_ret ?_
      refine k_r ?_
      have hdf := (hO.ok (i := 0) rfl)
      have hO := hO.drop1 0
      have hO := hO.drop1 1
      have hO := hO.drop1 1
      have hO := hO.drop1 1
      have hO := hO.drop1 1
      have hO : St _ _ _ [_] := hO
      have hO := hO.grownF (B := D) (low_of hO.own (fun e he => by rw [List.mem_singleton.1 he]; exact .inl rfl)) (grownBy_putObj' _ D (.deferred none)) (fun r e => by cases e; exact ⟨⟨Nat.le_refl _, hleD⟩, _, hdf, rfl⟩)
      refine rM_c1 hF rfl rfl Try.isAgg33 Try.sizeOf33 hdf (hO.cells 0 rfl) rfl ⟨tn0, rfl, ?_, (hO.drop1 0).leafT (rd_nilT _ _) _ _⟩
      unfold applyF
      rw [if_neg]; rfl
      rintro ⟨h, _⟩
      rw [htr] at h; cases h
    · skip
      have htr : rightF t.er = true := by simpa using hc2
      obtain ⟨rt, hrk, hrt⟩ := right_ex _ htr
      have hrgt : ∀ n s, subOf ss n = some s → ∃ r : RT, s.er = r.ty := fun n s hs => by
        obtain ⟨q, hq, _, rfl⟩ := subOf_mem hs
        obtain ⟨r, _, e⟩ := right_ex _ (hall q hq)
        exact ⟨r, e⟩
      have hsml : ∀ n s r, subOf ss n = some s → s.er = RT.ty r → r.small := fun n s r hs e => by
        obtain ⟨q, hq, _, rfl⟩ := subOf_mem hs
        exact small_of (by rw [← e]; exact (hFs q hq).1)
      refine wp_skip ?_
      refine k_n ?_
      refine wp_seq ?_
      refine wp_region_LD [3, 0, 3, 3] ?_
      refine wd_f hF rfl rfl rfl (QV.eff (q_loadAgg Try.isAgg33 Try.sizeOf33 rfl (hF.eval rfl) (hO.cells 4 rfl) rfl)) ?_
      rintro a _ w ⟨rfl, rfl⟩ hF
      refine wd_p hF rfl rfl rfl (fun w => c_makeFunc hF rfl rfl rfl) fun a hF => ?_
      refine wd_f hF rfl rfl rfl (c_call hF rfl rfl Try.call44 (mapped45_r yb mp cn f (subOf ss) hsml (rt.nodes + 1) rt (by omega) t _ ⟨hO.rdOb 3 rfl, hO.ok (i := 2) rfl, hmt, fun n s hs => by obtain ⟨q, hq, _, rfl⟩ := subOf_mem hs; exact (hSn q hq).at0 hO, hrgt⟩ (hR.at0 hO) hrt (small_of (by rw [← hrt]; exact hF0)))) ?_
      rintro a _ w ⟨tz, rfl, htz, hS⟩ hF
      have hO := hO.call0 hS
      have hO : St _ _ _ [_, _, _, _, _, _, _] := hO
      refine wd_s hF rfl rfl (e_storeAll hO (i := 2) rfl Try.sizeOf33 rfl (hF.eval rfl) (hF.eval rfl) rfl rfl) ?_
      rintro a _ w ⟨-, hO⟩ hF
      have hO : St _ _ _ [_, _, _, _, _, _, _] := hO
      refine wd_nil ?_
      refine k_n ?_
      refine wp_ret ?_
      have hdf := (hO.ok (i := 1) rfl)
      have hO := hO.drop1 1
      have hO := hO.drop1 2
      have hO := hO.drop1 2
      have hO := hO.drop1 2
      have hO := hO.drop1 2
      have hO := hO.pull 1 rfl
      have hO : St _ _ _ [_, _] := hO
      have hO := hO.grownF (B := D) (fun b hb => by
        obtain ⟨e, he, hbe⟩ := mem_blk.1 hb
        rcases List.mem_cons.1 he with rfl | he
        · exact .inr (Ent.isCells (hO.ok (i := 0) rfl) (Option.mem_toList.1 hbe) rfl)
        · rw [List.mem_singleton.1 he] at hbe; exact .inr (tE_cells tz (hO.ok (i := 1) rfl) b hbe)) (grownBy_putObj' _ D (.deferred none)) (fun r e => by cases e; exact ⟨⟨Nat.le_refl _, hleD⟩, _, hdf, rfl⟩)
      refine rM_c1 hF rfl rfl Try.isAgg33 Try.sizeOf33 hdf (hO.cells 0 rfl) rfl ⟨tz, rfl, ?_, hO.drop1 0⟩
      rw [htz, sgT_sig, ← hrt]
      unfold applyF
      rw [if_pos]
      refine ⟨htr, fun s hs => ?_⟩
      obtain ⟨q, hq, rfl⟩ := List.mem_map.1 hs
      exact hall q hq
  · skip
    rintro D c pre W hD ⟨k, hk, rfl⟩ ⟨rfl, ⟨x, hx, hxr⟩, cn, f, hO⟩ hdf
    rw [hF.defs]
    have hleD : w0.heap.size ≤ D := by rw [← hD]; exact hle
    refine wp_ret ?_
    refine b_r ?_
    refine k_r ?_
    have hO := hO.less (L' := [.ob rs 33 [i64 0, str [], .slice none 0 0]]) (by simp)
    have hO := hO.grownF (B := D) (low_of hO.own (fun e he => by rw [List.mem_singleton.1 he]; exact .inl rfl)) (grownBy_putObj' W D (.deferred none)) (fun r e => by cases e; exact ⟨⟨Nat.le_refl _, hleD⟩, _, hdf, rfl⟩)
    refine rM_c1 hF rfl rfl Try.isAgg33 Try.sizeOf33 hdf (hO.cells 0 rfl) rfl ⟨tn0, rfl, ?_, (hO.drop1 0).leafT (rd_nilT _ _) _ _⟩
    unfold applyF
    rw [if_neg]; rfl
    rintro ⟨_, h⟩
    have h := h (SbN.er x.1.2) (List.mem_map_of_mem (List.mem_of_getElem? x.2))
    rw [show rightF (SbN.er x.1.2).2 = false from hxr] at h; cases h

end Go.Proofs.Ytfkmlcgccffmnaa
