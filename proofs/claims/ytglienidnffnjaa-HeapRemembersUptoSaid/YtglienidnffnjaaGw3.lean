/- GENERAL PARTS (3): MEMORY: 'St w0 M w L': since the world w0 nothing but the blocks of M, and new ones, has turned; w holds the entries L, no two of them in one block. 'Rd': a slice that reads as cells, outside M. -/
import Derived.Test.YtglienidnffnjaaGw2
import Derived.Laws.OwnMore
import Derived.Maps.AppendAt
import Derived.Laws.AppendOwnNone
namespace Go.Proofs.Ytglienidnffnjaa
open Go

inductive Ent where
  | ob (b : Nat) (t : TypeId) (cs : List Value)
  | sl (v : Value) (e size n : Nat) (xs : List Value)
  | mp (b : Nat) (o : Obj)

def Ent.blk : Ent → Option Nat
  | .ob b _ _ => some b
  | .sl v _ _ _ _ => v.ownBlock
  | .mp b _ => some b

def Ent.ok (w : World) : Ent → Prop
  | .ob b t cs => w.heap[b]? = some (.cells cs.toArray t (0, 0))
  | .sl v e size n xs => w.ownsRow 0 e size v n xs
  | .mp b o => w.heap[b]? = some o

def blks (L : List Ent) : List Nat := L.filterMap Ent.blk

theorem Ent.ok_keep {w w' : World} {e : Ent} (h : e.ok w) (hk : ∀ b, e.blk = some b → w'.heap[b]? = w.heap[b]?) : e.ok w' := by
  cases e with
  | ob b t cs => exact (hk b rfl).trans h
  | mp b o => exact (hk b rfl).trans h
  | sl v e size n xs =>
    refine ⟨h.1, ?_⟩
    rcases h.2 with hn | ⟨g, cap, cur, rfl, hb, hg, rest⟩
    · exact .inl hn
    · exact .inr ⟨g, cap, cur, rfl, hb, (hk g rfl).trans hg, rest⟩

theorem Ent.ok_lt {w : World} {e : Ent} (h : e.ok w) {b : Nat} (hb : e.blk = some b) : b < w.heap.size := by
  have lt : ∀ {b : Nat} {o : Obj}, w.heap[b]? = some o → b < w.heap.size := fun h => (Array.getElem?_eq_some_iff.1 h).1
  cases e with
  | ob b t cs => cases hb; exact lt h
  | mp b o => cases hb; exact lt h
  | sl v e size n xs => exact (World.ownsRow.lt h b hb).2

structure Owns (w : World) (L : List Ent) : Prop where
  own : ∀ e ∈ L, e.ok w
  nodup : (blks L).Nodup

structure St (w0 : World) (M : List Nat) (w : World) (L : List Ent) : Prop where
  os : w.os = w0.os
  tape : w.tape = w0.tape
  output : w.output = w0.output
  le : w0.heap.size ≤ w.heap.size
  keep : ∀ b, b < w0.heap.size → b ∉ M → w.heap[b]? = w0.heap[b]?
  own : ∀ e ∈ L, e.ok w
  nodup : (blks L).Nodup
  src : ∀ b ∈ blks L, b ∈ M ∨ w0.heap.size ≤ b

theorem mem_blks {L : List Ent} {b : Nat} : b ∈ blks L ↔ ∃ e ∈ L, e.blk = some b := by simp [blks]

section
variable {w0 w w' : World} {M : List Nat} {L : List Ent}

theorem St.init (h : Owns w L) : St w (blks L) w L :=
  ⟨rfl, rfl, rfl, Nat.le_refl _, fun _ _ _ => rfl, h.own, h.nodup, fun _ hb => .inl hb⟩

theorem St.owns (h : St w0 M w L) : Owns w L := ⟨h.own, h.nodup⟩

theorem St.lt (h : St w0 M w L) {b : Nat} (hb : b ∈ blks L) : b < w.heap.size := by
  obtain ⟨e, he, hb⟩ := mem_blks.1 hb
  exact Ent.ok_lt (h.own e he) hb

/-- Any step that leaves the blocks of L as they are, and what is old and outside M. -/
theorem St.step (h : St w0 M w L) (hos : w'.os = w.os) (ht : w'.tape = w.tape) (ho : w'.output = w.output) (hle : w.heap.size ≤ w'.heap.size)
    (hk : ∀ b, b < w.heap.size → (b ∈ blks L ∨ (b < w0.heap.size ∧ b ∉ M)) → w'.heap[b]? = w.heap[b]?) : St w0 M w' L :=
  ⟨hos.trans h.os, ht.trans h.tape, ho.trans h.output, Nat.le_trans h.le hle, fun b hb hm => (hk b (Nat.lt_of_lt_of_le hb h.le) (.inr ⟨hb, hm⟩)).trans (h.keep b hb hm),
    fun e he => Ent.ok_keep (h.own e he) fun b hb => hk b (Ent.ok_lt (h.own e he) hb) (.inl (mem_blks.2 ⟨e, he, hb⟩)), h.nodup, h.src⟩

theorem St.eq {L' : List Ent} (h : St w0 M w L) (e : L = L') : St w0 M w L' := e ▸ h
theorem St.drew (h : St w0 M w L) : St w0 M w.drew L := h.step rfl rfl rfl (Nat.le_refl _) fun _ _ _ => rfl

/-- The entries in another order, or fewer. -/
theorem St.perm {L' : List Ent} (h : St w0 M w L) (hp : L'.Perm L) : St w0 M w L' :=
  ⟨h.os, h.tape, h.output, h.le, h.keep, fun e he => h.own e (hp.mem_iff.1 he), (hp.filterMap _).nodup_iff.2 h.nodup, fun b hb => h.src b ((hp.filterMap _).mem_iff.1 hb)⟩
theorem St.less {L' : List Ent} (h : St w0 M w L) (hp : L'.Sublist L) : St w0 M w L' :=
  ⟨h.os, h.tape, h.output, h.le, h.keep, fun e he => h.own e (hp.subset he), (hp.filterMap _).nodup h.nodup, fun b hb => h.src b ((hp.filterMap _).subset hb)⟩
theorem pull_perm : ∀ (L : List Ent) (i : Nat) (e : Ent), L[i]? = some e → (e :: L.eraseIdx i).Perm L
  | [], _, _, h => by simp at h
  | x :: L, 0, e, h => by
    simp at h
    subst h
    simp
  | x :: L, i + 1, e, h => by
    have := pull_perm L i e (by simpa using h)
    simp only [List.eraseIdx_cons_succ]
    exact (List.Perm.swap x e _).trans (this.cons x)
theorem St.pull (h : St w0 M w L) (i : Nat) {e : Ent} (hi : L[i]? = some e) : St w0 M w (e :: L.eraseIdx i) := by
  exact h.perm (pull_perm L i e hi)
theorem St.drop1 (h : St w0 M w L) (i : Nat) : St w0 M w (L.eraseIdx i) := h.less (List.eraseIdx_sublist L i)
theorem St.tail {e : Ent} (h : St w0 M w (e :: L)) : St w0 M w L := h.less (List.sublist_cons_self e L)
theorem St.back {A B : List Ent} (h : St w0 M w (A ++ B)) : St w0 M w B := h.less (List.sublist_append_right A B)
theorem St.front {A B : List Ent} (h : St w0 M w (A ++ B)) : St w0 M w A := h.less (List.sublist_append_left A B)

theorem St.only {e : Ent} {B : List Ent} (h : St w0 M w (e :: B)) : St w0 M w [e] := St.front (A := [e]) h
theorem St.ok (h : St w0 M w L) {i : Nat} {e : Ent} (hi : L[i]? = some e) : e.ok w := h.own e (List.mem_of_getElem? hi)

/-- A new object. -/
theorem St.new (h : St w0 M w L) (o : Obj) {e : Ent} (hb : e.blk = some w.heap.size) (he : e.ok (w.alloc o)) : St w0 M (w.alloc o) (e :: L) := by
  have hs : St w0 M (w.alloc o) L := h.step rfl rfl rfl (by simp) fun b hb _ => heap_alloc_old w o hb
  refine ⟨hs.os, hs.tape, hs.output, hs.le, hs.keep, fun x hx => ?_, ?_, fun b hx => ?_⟩
  · rcases List.mem_cons.1 hx with rfl | hx
    · exact he
    · exact hs.own x hx
  · simp only [blks, List.filterMap_cons, hb]
    refine List.nodup_cons.2 ⟨fun hm => ?_, h.nodup⟩
    exact absurd (h.lt hm) (Nat.lt_irrefl _)
  · simp only [blks, List.filterMap_cons, hb] at hx
    rcases List.mem_cons.1 hx with rfl | hx
    · exact .inr h.le
    · exact h.src b hx
theorem St.newOb (h : St w0 M w L) (t : TypeId) (cs : List Value) : St w0 M (w.alloc (.cells cs.toArray t)) (.ob w.heap.size t cs :: L) := h.new _ rfl (heap_alloc_new w _)
theorem St.newMp (h : St w0 M w L) (o : Obj) : St w0 M (w.alloc o) (.mp w.heap.size o :: L) := h.new o rfl (heap_alloc_new w o)
theorem St.newSl (h : St w0 M w L) (t : TypeId) (size n : Nat) (cs : List Value) (hn : cs.length = n * size) (hm : n ≤ maxLen) :
    St w0 M (w.alloc (.cells cs.toArray t)) (.sl (.slice (some ⟨w.heap.size, 0, none⟩) n n) t size n cs :: L) :=
  h.new _ rfl ⟨hn, .inr ⟨w.heap.size, n, cs.toArray, rfl, Nat.zero_le _, heap_alloc_new w _, Nat.le_refl _, hm, by simp [hn], by rw [← hn]; simp⟩⟩
theorem St.nilSl (h : St w0 M w L) (t : TypeId) (size : Nat) : St w0 M w (.sl (.slice none 0 0) t size 0 [] :: L) := by
  have hb : blks (.sl (.slice none 0 0) t size 0 [] :: L) = blks L := rfl
  refine ⟨h.os, h.tape, h.output, h.le, h.keep, fun x hx => ?_, hb.symm ▸ h.nodup, fun b hx => h.src b (hb ▸ hx)⟩
  rcases List.mem_cons.1 hx with rfl | hx
  · exact World.ownsRow_nil w 0 t size
  · exact h.own x hx

/-- One entry is changed in its block, or moves to a new one. -/
theorem St.turn {e e' : Ent} (h : St w0 M w (e :: L)) (hos : w'.os = w.os) (ht : w'.tape = w.tape) (ho : w'.output = w.output) (hle : w.heap.size ≤ w'.heap.size)
    (hk : ∀ b, b < w.heap.size → some b ≠ e.blk → w'.heap[b]? = w.heap[b]?) (he : e'.ok w') (hb : e'.blk = e.blk ∨ e'.blk = some w.heap.size) : St w0 M w' (e' :: L) := by
  have hdis : ∀ b, e.blk = some b → b ∉ blks L := fun b hb hm => by
    have := h.nodup
    simp only [blks, List.filterMap_cons, hb] at this
    exact (List.nodup_cons.1 this).1 hm
  have hold : ∀ b, e.blk = some b → b ∈ M ∨ w0.heap.size ≤ b := fun b hb => h.src b (by simp [blks, hb])
  have ht' := h.tail
  have hs : St w0 M w' L := ht'.step hos ht ho hle fun b hlt hb' => hk b hlt fun hbe => by
    rcases hb' with hb' | ⟨h1, h2⟩
    · exact hdis b hbe.symm hb'
    · rcases hold b hbe.symm with h3 | h3
      · exact h2 h3
      · omega
  refine ⟨hs.os, hs.tape, hs.output, hs.le, hs.keep, fun x hx => ?_, ?_, fun b hx => ?_⟩
  · rcases List.mem_cons.1 hx with rfl | hx
    · exact he
    · exact hs.own x hx
  · simp only [blks, List.filterMap_cons]
    cases hbb : e'.blk with
    | none => exact hs.nodup
    | some b =>
      refine List.nodup_cons.2 ⟨fun hm => ?_, hs.nodup⟩
      rcases hb with h1 | h1
      · exact hdis b (by rw [← h1, hbb]) hm
      · rw [hbb] at h1
        cases h1
        exact absurd (ht'.lt hm) (Nat.lt_irrefl _)
  · simp only [blks, List.filterMap_cons] at hx
    cases hbb : e'.blk with
    | none => rw [hbb] at hx; exact hs.src b hx
    | some c =>
      rw [hbb] at hx
      rcases List.mem_cons.1 hx with rfl | hx
      · rcases hb with h1 | h1
        · exact hold b (by rw [← h1, hbb])
        · rw [hbb] at h1; cases h1; exact .inr h.le
      · exact hs.src b hx

/-- A call that has turned the entries A into A'. -/
theorem St.call {A A' B : List Ent} (h : St w0 M w (A ++ B)) (hc : St w (blks A) w' A') : St w0 M w' (A' ++ B) := by
  have e1 : blks (A ++ B) = blks A ++ blks B := by simp [blks]
  have hn := h.nodup
  rw [e1, List.nodup_append] at hn
  obtain ⟨_, _, hd⟩ := hn
  have hB := h.back
  have hs : St w0 M w' B := hB.step hc.os hc.tape hc.output hc.le fun b hlt hb => hc.keep b hlt fun hbA => by
    rcases hb with hb | ⟨h1, h2⟩
    · exact hd b hbA b hb rfl
    · rcases h.src b (by rw [e1]; simp [hbA]) with h3 | h3
      · exact h2 h3
      · omega
  refine ⟨hs.os, hs.tape, hs.output, hs.le, hs.keep, fun x hx => ?_, ?_, fun b hx => ?_⟩
  · rcases List.mem_append.1 hx with hx | hx
    · exact hc.own x hx
    · exact hs.own x hx
  · rw [show blks (A' ++ B) = blks A' ++ blks B by simp [blks], List.nodup_append]
    refine ⟨hc.nodup, hs.nodup, fun b hb c hcB hbc => ?_⟩
    subst hbc
    rcases hc.src b hb with h1 | h1
    · exact hd b h1 b hcB rfl
    · exact absurd (hB.lt hcB) (by omega)
  · rw [show blks (A' ++ B) = blks A' ++ blks B by simp [blks]] at hx
    rcases List.mem_append.1 hx with hx | hx
    · rcases hc.src b hx with h1 | h1
      · exact h.src b (by rw [e1]; simp [h1])
      · exact .inr (Nat.le_trans h.le h1)
    · exact hs.src b hx

theorem St.call1 {e : Ent} {A' B : List Ent} (h : St w0 M w (e :: B)) (hc : St w (blks [e]) w' A') : St w0 M w' (A' ++ B) := St.call (A := [e]) h hc
theorem St.call2 {e f : Ent} {A' B : List Ent} (h : St w0 M w (e :: f :: B)) (hc : St w (blks [e, f]) w' A') : St w0 M w' (A' ++ B) := St.call (A := [e, f]) h hc
theorem St.call3 {e f g : Ent} {A' B : List Ent} (h : St w0 M w (e :: f :: g :: B)) (hc : St w (blks [e, f, g]) w' A') : St w0 M w' (A' ++ B) := St.call (A := [e, f, g]) h hc
theorem St.call0 {A' : List Ent} (h : St w0 M w L) (hc : St w [] w' A') : St w0 M w' (A' ++ L) := St.call (A := []) h hc
end

/-! ### Slices that are only read -/
def Rd (w : World) (M : List Nat) (v : Value) (size n : Nat) (xs : List Value) : Prop :=
  xs.length = n * size ∧ ∃ A cap, v = .slice A n cap ∧ n ≤ cap ∧ cap ≤ maxLen ∧
    (0 < n → ∃ ad : Addr, A = some ad ∧ ad.block ∉ M ∧ ad.block < w.heap.size ∧ ∀ j u, xs[j]? = some u → w.cell? (ad.add j) = some u)

theorem block_add (a : Addr) (n : Nat) : (a.add n).block = a.block := by unfold Addr.add; split <;> rfl
theorem add_add' (a : Addr) (i j : Nat) : (a.add i).add j = a.add (i + j) := by
  unfold Addr.add
  by_cases hi : i = 0 <;> by_cases hj : j = 0 <;> simp [hi, hj, Nat.add_assoc]

section
variable {w0 w w' : World} {M M' : List Nat} {L : List Ent} {v : Value} {size n : Nat} {xs : List Value}

theorem Rd.keep (h : Rd w M v size n xs) (hle : w.heap.size ≤ w'.heap.size) (hk : ∀ b, b < w.heap.size → b ∉ M → w'.heap[b]? = w.heap[b]? ∧ b ∉ M') : Rd w' M' v size n xs := by
  obtain ⟨hl, A, cap, rfl, hc, hm, hn⟩ := h
  refine ⟨hl, A, cap, rfl, hc, hm, fun h0 => ?_⟩
  obtain ⟨ad, rfl, hbm, hlt, hcell⟩ := hn h0
  obtain ⟨h1, h2⟩ := hk _ hlt hbm
  exact ⟨ad, rfl, h2, by omega, fun j u hu => (World.cell?_of_block (by rw [block_add]; exact h1)).trans (hcell j u hu)⟩

/-- At the world of now, and apart from the entries. -/
theorem Rd.now (h : Rd w0 M v size n xs) (hO : St w0 M w L) : Rd w (blks L) v size n xs :=
  h.keep hO.le fun b hb hm => ⟨hO.keep b hb hm, fun hx => by rcases hO.src b hx with h1 | h1; exact hm h1; omega⟩
theorem Rd.mono (h : Rd w M v size n xs) (hs : ∀ b ∈ M', b ∈ M) : Rd w M' v size n xs := h.keep (Nat.le_refl _) fun _ _ hm => ⟨rfl, fun hx => hm (hs _ hx)⟩
theorem Rd.nil (w : World) (M : List Nat) (size : Nat) : Rd w M (.slice none 0 0) size 0 [] := ⟨by simp, none, 0, rfl, Nat.le_refl _, Nat.zero_le _, fun h => by omega⟩

/-- An own slice, for reading. -/
theorem Ent.rd {e : Nat} (h : (Ent.sl v e size n xs).ok w) (hM : ∀ b, v.ownBlock = some b → b ∉ M) : Rd w M v size n xs := by
  have hlt := World.ownsRow.lt h
  refine ⟨h.1, ?_⟩
  rcases h.2 with ⟨rfl, rfl⟩ | ⟨g, cap, cur, rfl, hb, hg, hnc, hm, rest⟩
  · exact ⟨none, 0, rfl, Nat.le_refl _, Nat.zero_le _, fun h => by omega⟩
  · exact ⟨_, cap, rfl, hnc, hm, fun _ => ⟨_, rfl, hM g rfl, (hlt g rfl).2, World.ownsRow.cells h (g := g) rfl⟩⟩

/-- The same slice, cut. -/
theorem Rd.size_eq (h : Rd w M v size n xs) : xs.length = n * size := h.1
end
end Go.Proofs.Ytglienidnffnjaa
