/- GENERAL PARTS (3): MEMORY: 'St w0 M w L': since the world w0 nothing but the blocks of M, and new ones, has turned; w holds the entries L, no two of them in one block. 'Rd': a slice that reads as cells, outside M. -/
import Derived.Test.YtanpeofnlihhoaaDoorGw2
import Derived.Laws.OwnMore
import Derived.Maps.AppendAt
import Derived.Laws.AppendOwnNone
namespace Go.Proofs.YtanpeofnlihhoaaDoor
open Go

inductive Ent where
  | ob (b : Nat) (t : TypeId) (cs : List Value)
  | sl (v : Value) (e size n : Nat) (xs : List Value)
  | mp (b : Nat) (o : Obj)
  | gp (bs : List Nat) (ok : World → Prop) (st : ∀ w w', ok w → (∀ b ∈ bs, w'.heap[b]? = w.heap[b]?) → ok w') (lt : ∀ w, ok w → ∀ b ∈ bs, b < w.heap.size)

def Ent.blk : Ent → Option Nat
  | .ob b _ _ => some b
  | .sl v _ _ _ _ => v.ownBlock
  | .mp b _ => some b
  | .gp _ _ _ _ => none
def Ent.bs : Ent → List Nat
  | .ob b _ _ => [b]
  | .sl v _ _ _ _ => v.ownBlock.toList
  | .mp b _ => [b]
  | .gp bs _ _ _ => bs
def Ent.single : Ent → Bool
  | .gp _ _ _ _ => false
  | _ => true
theorem Ent.bs_of {e : Ent} (h : e.single = true) : e.bs = e.blk.toList := by cases e <;> first | rfl | cases h
theorem Ent.blk_bs {e : Ent} {b : Nat} (h : e.blk = some b) : b ∈ e.bs := by
  cases e with
  | gp bs ok st lt => cases h
  | ob b' t cs => cases h; exact List.mem_singleton.2 rfl
  | mp b' o => cases h; exact List.mem_singleton.2 rfl
  | sl v e size n xs => exact Option.mem_toList.2 h

def Ent.ok (w : World) : Ent → Prop
  | .ob b t cs => w.heap[b]? = some (.cells cs.toArray t (0, 0))
  | .sl v e size n xs => w.ownsRow 0 e size v n xs
  | .mp b o => w.heap[b]? = some o
  | .gp _ ok _ _ => ok w

def blks (L : List Ent) : List Nat := L.flatMap Ent.bs

theorem Ent.ok_keep {w w' : World} {e : Ent} (h : e.ok w) (hk : ∀ b, b ∈ e.bs → w'.heap[b]? = w.heap[b]?) : e.ok w' := by
  cases e with
  | ob b t cs => exact (hk b (List.mem_singleton.2 rfl)).trans h
  | mp b o => exact (hk b (List.mem_singleton.2 rfl)).trans h
  | gp bs ok st lt => exact st w w' h hk
  | sl v e size n xs =>
    refine ⟨h.1, ?_⟩
    rcases h.2 with hn | ⟨g, cap, cur, rfl, hb, hg, rest⟩
    · exact .inl hn
    · exact .inr ⟨g, cap, cur, rfl, hb, (hk g (Option.mem_toList.2 rfl)).trans hg, rest⟩

theorem Ent.ok_lts {w : World} {e : Ent} (h : e.ok w) {b : Nat} (hb : b ∈ e.bs) : b < w.heap.size := by
  have lt : ∀ {b : Nat} {o : Obj}, w.heap[b]? = some o → b < w.heap.size := fun h => (Array.getElem?_eq_some_iff.1 h).1
  cases e with
  | ob b' t cs => obtain rfl := List.mem_singleton.1 hb; exact lt h
  | mp b' o => obtain rfl := List.mem_singleton.1 hb; exact lt h
  | gp bs ok st l => exact l w h b hb
  | sl v e size n xs => exact (World.ownsRow.lt h b (Option.mem_toList.1 hb)).2
theorem Ent.ok_lt {w : World} {e : Ent} (h : e.ok w) {b : Nat} (hb : e.blk = some b) : b < w.heap.size := Ent.ok_lts h (Ent.blk_bs hb)

structure Owns (w : World) (L : List Ent) : Prop where
  own : ∀ e ∈ L, e.ok w
  nodup : (blks L).Nodup

structure St (w0 : World) (M : List Nat) (w : World) (L : List Ent) : Prop where
  os : w.os = w0.os
  tape : w.tape = w0.tape
  output : w.output = w0.output
  le : w0.heap.size ≤ w.heap.size
  keep : ∀ b, b < w0.heap.size → b ∉ M → w.heap[b]? = w0.heap[b]?
  own : ∀ e ∈ L, e.ok w
  nodup : (blks L).Nodup
  src : ∀ b ∈ blks L, b ∈ M ∨ w0.heap.size ≤ b

theorem mem_blk {L : List Ent} {b : Nat} : b ∈ blks L ↔ ∃ e ∈ L, b ∈ e.bs := by simp [blks]
theorem mem_blks {L : List Ent} {b : Nat} (h : ∃ e ∈ L, e.blk = some b) : b ∈ blks L := by
  obtain ⟨e, he, hb⟩ := h
  exact mem_blk.2 ⟨e, he, Ent.blk_bs hb⟩
theorem sub_blks {L' L : List Ent} (h : L'.Sublist L) : (blks L').Sublist (blks L) := by
  induction h with
  | slnil => exact List.Sublist.refl _
  | cons a _ ih => exact ih.trans (by simp [blks])
  | cons_cons a _ ih => simpa [blks] using ih
theorem blks_cons (e : Ent) (L : List Ent) : blks (e :: L) = e.bs ++ blks L := by simp [blks]

section
variable {w0 w w' : World} {M : List Nat} {L : List Ent}

theorem St.init (h : Owns w L) : St w (blks L) w L :=
  ⟨rfl, rfl, rfl, Nat.le_refl _, fun _ _ _ => rfl, h.own, h.nodup, fun _ hb => .inl hb⟩

theorem St.owns (h : St w0 M w L) : Owns w L := ⟨h.own, h.nodup⟩

theorem St.lt (h : St w0 M w L) {b : Nat} (hb : b ∈ blks L) : b < w.heap.size := by
  obtain ⟨e, he, hb⟩ := mem_blk.1 hb
  exact Ent.ok_lts (h.own e he) hb

/-- Any step that leaves the blocks of L as they are, and what is old and outside M. -/
theorem St.step (h : St w0 M w L) (hos : w'.os = w.os) (ht : w'.tape = w.tape) (ho : w'.output = w.output) (hle : w.heap.size ≤ w'.heap.size)
    (hk : ∀ b, b < w.heap.size → (b ∈ blks L ∨ (b < w0.heap.size ∧ b ∉ M)) → w'.heap[b]? = w.heap[b]?) : St w0 M w' L :=
  ⟨hos.trans h.os, ht.trans h.tape, ho.trans h.output, Nat.le_trans h.le hle, fun b hb hm => (hk b (Nat.lt_of_lt_of_le hb h.le) (.inr ⟨hb, hm⟩)).trans (h.keep b hb hm),
    fun e he => Ent.ok_keep (h.own e he) fun b hb => hk b (Ent.ok_lts (h.own e he) hb) (.inl (mem_blk.2 ⟨e, he, hb⟩)), h.nodup, h.src⟩

theorem St.eq {L' : List Ent} (h : St w0 M w L) (e : L = L') : St w0 M w L' := e ▸ h
theorem St.drew (h : St w0 M w L) : St w0 M w.drew L := h.step rfl rfl rfl (Nat.le_refl _) fun _ _ _ => rfl

/-- The entries in another order, or fewer. -/
theorem St.perm {L' : List Ent} (h : St w0 M w L) (hp : L'.Perm L) : St w0 M w L' :=
  ⟨h.os, h.tape, h.output, h.le, h.keep, fun e he => h.own e (hp.mem_iff.1 he), (hp.flatMap_right _).nodup_iff.2 h.nodup, fun b hb => h.src b ((hp.flatMap_right _).mem_iff.1 hb)⟩
theorem St.less {L' : List Ent} (h : St w0 M w L) (hp : L'.Sublist L) : St w0 M w L' :=
  ⟨h.os, h.tape, h.output, h.le, h.keep, fun e he => h.own e (hp.subset he), (sub_blks hp).nodup h.nodup, fun b hb => h.src b ((sub_blks hp).subset hb)⟩
theorem pull_perm : ∀ (L : List Ent) (i : Nat) (e : Ent), L[i]? = some e → (e :: L.eraseIdx i).Perm L
  | [], _, _, h => by simp at h
  | x :: L, 0, e, h => by
    simp at h
    subst h
    simp
  | x :: L, i + 1, e, h => by
    have := pull_perm L i e (by simpa using h)
    simp only [List.eraseIdx_cons_succ]
    exact (List.Perm.swap x e _).trans (this.cons x)
theorem St.pull (h : St w0 M w L) (i : Nat) {e : Ent} (hi : L[i]? = some e) : St w0 M w (e :: L.eraseIdx i) := by
  exact h.perm (pull_perm L i e hi)
theorem St.drop1 (h : St w0 M w L) (i : Nat) : St w0 M w (L.eraseIdx i) := h.less (List.eraseIdx_sublist L i)
theorem St.tail {e : Ent} (h : St w0 M w (e :: L)) : St w0 M w L := h.less (List.sublist_cons_self e L)
theorem St.back {A B : List Ent} (h : St w0 M w (A ++ B)) : St w0 M w B := h.less (List.sublist_append_right A B)
theorem St.front {A B : List Ent} (h : St w0 M w (A ++ B)) : St w0 M w A := h.less (List.sublist_append_left A B)

theorem St.only {e : Ent} {B : List Ent} (h : St w0 M w (e :: B)) : St w0 M w [e] := St.front (A := [e]) h
theorem St.ok (h : St w0 M w L) {i : Nat} {e : Ent} (hi : L[i]? = some e) : e.ok w := h.own e (List.mem_of_getElem? hi)

/-- A new object. -/
theorem St.new (h : St w0 M w L) (o : Obj) {e : Ent} (hb : e.blk = some w.heap.size) (he : e.ok (w.alloc o)) (h1 : e.single = true := by rfl) : St w0 M (w.alloc o) (e :: L) := by
  have hbs : e.bs = [w.heap.size] := by rw [Ent.bs_of h1, hb]; rfl
  have hs : St w0 M (w.alloc o) L := h.step rfl rfl rfl (by simp) fun b hb _ => heap_alloc_old w o hb
  refine ⟨hs.os, hs.tape, hs.output, hs.le, hs.keep, fun x hx => ?_, ?_, fun b hx => ?_⟩
  · rcases List.mem_cons.1 hx with rfl | hx
    · exact he
    · exact hs.own x hx
  · rw [blks_cons, hbs]
    refine List.nodup_cons.2 ⟨fun hm => ?_, h.nodup⟩
    exact absurd (h.lt hm) (Nat.lt_irrefl _)
  · rw [blks_cons, hbs] at hx
    rcases List.mem_cons.1 hx with rfl | hx
    · exact .inr h.le
    · exact h.src b hx
theorem St.newOb (h : St w0 M w L) (t : TypeId) (cs : List Value) : St w0 M (w.alloc (.cells cs.toArray t)) (.ob w.heap.size t cs :: L) := h.new _ rfl (heap_alloc_new w _)
theorem St.newMp (h : St w0 M w L) (o : Obj) : St w0 M (w.alloc o) (.mp w.heap.size o :: L) := h.new o rfl (heap_alloc_new w o)
theorem St.newSl (h : St w0 M w L) (t : TypeId) (size n : Nat) (cs : List Value) (hn : cs.length = n * size) (hm : n ≤ maxLen) :
    St w0 M (w.alloc (.cells cs.toArray t)) (.sl (.slice (some ⟨w.heap.size, 0, none⟩) n n) t size n cs :: L) :=
  h.new _ rfl ⟨hn, .inr ⟨w.heap.size, n, cs.toArray, rfl, Nat.zero_le _, heap_alloc_new w _, Nat.le_refl _, hm, by simp [hn], by rw [← hn]; simp⟩⟩
theorem St.nilSl (h : St w0 M w L) (t : TypeId) (size : Nat) : St w0 M w (.sl (.slice none 0 0) t size 0 [] :: L) := by
  have hb : blks (.sl (.slice none 0 0) t size 0 [] :: L) = blks L := rfl
  refine ⟨h.os, h.tape, h.output, h.le, h.keep, fun x hx => ?_, hb.symm ▸ h.nodup, fun b hx => h.src b (hb ▸ hx)⟩
  rcases List.mem_cons.1 hx with rfl | hx
  · exact World.ownsRow_nil w 0 t size
  · exact h.own x hx

/-- One entry is changed in its blocks, or moves to a new one. -/
theorem St.turns {e e' : Ent} (h : St w0 M w (e :: L)) (hos : w'.os = w.os) (ht : w'.tape = w.tape) (ho : w'.output = w.output) (hle : w.heap.size ≤ w'.heap.size)
    (hk : ∀ b, b < w.heap.size → b ∉ e.bs → w'.heap[b]? = w.heap[b]?) (he : e'.ok w') (hn : e'.bs.Nodup) (hb : ∀ b ∈ e'.bs, b ∈ e.bs ∨ w.heap.size ≤ b) : St w0 M w' (e' :: L) := by
  have hN := h.nodup
  rw [blks_cons, List.nodup_append] at hN
  have hdis : ∀ b, b ∈ e.bs → b ∉ blks L := fun b hb hm => hN.2.2 b hb b hm rfl
  have hold : ∀ b, b ∈ e.bs → b ∈ M ∨ w0.heap.size ≤ b := fun b hb => h.src b (by rw [blks_cons]; exact List.mem_append_left _ hb)
  have ht' := h.tail
  have hs : St w0 M w' L := ht'.step hos ht ho hle fun b hlt hb' => hk b hlt fun hbe => by
    rcases hb' with hb' | ⟨h1, h2⟩
    · exact hdis b hbe hb'
    · rcases hold b hbe with h3 | h3
      · exact h2 h3
      · omega
  refine ⟨hs.os, hs.tape, hs.output, hs.le, hs.keep, fun x hx => ?_, ?_, fun b hx => ?_⟩
  · rcases List.mem_cons.1 hx with rfl | hx
    · exact he
    · exact hs.own x hx
  · rw [blks_cons, List.nodup_append]
    refine ⟨hn, hs.nodup, fun b h1 c h2 hbc => ?_⟩
    subst hbc
    rcases hb b h1 with h3 | h3
    · exact hdis b h3 h2
    · exact absurd (ht'.lt h2) (by omega)
  · rw [blks_cons] at hx
    rcases List.mem_append.1 hx with hx | hx
    · rcases hb b hx with h1 | h1
      · exact hold b h1
      · exact .inr (Nat.le_trans h.le h1)
    · exact hs.src b hx
theorem St.turn {e e' : Ent} (h : St w0 M w (e :: L)) (hos : w'.os = w.os) (ht : w'.tape = w.tape) (ho : w'.output = w.output) (hle : w.heap.size ≤ w'.heap.size)
    (hk : ∀ b, b < w.heap.size → some b ≠ e.blk → w'.heap[b]? = w.heap[b]?) (he : e'.ok w') (hb : e'.blk = e.blk ∨ e'.blk = some w.heap.size) (h1 : e.single = true) (h2 : e'.single = true) : St w0 M w' (e' :: L) := by
  refine h.turns hos ht ho hle (fun b hlt hne => hk b hlt fun hx => hne ?_) he ?_ fun b hx => ?_
  · exact Ent.blk_bs hx.symm
  · rw [Ent.bs_of h2]; cases e'.blk <;> simp
  · rw [Ent.bs_of h2] at hx
    have hx := Option.mem_toList.1 hx
    rcases hb with h3 | h3
    · exact .inl (Ent.blk_bs (h3.symm.trans hx))
    · rw [h3] at hx; cases hx; exact .inr (Nat.le_refl _)

/-- A call that has turned the entries A into A'. -/
theorem St.call {A A' B : List Ent} (h : St w0 M w (A ++ B)) (hc : St w (blks A) w' A') : St w0 M w' (A' ++ B) := by
  have e1 : blks (A ++ B) = blks A ++ blks B := by simp [blks]
  have hn := h.nodup
  rw [e1, List.nodup_append] at hn
  obtain ⟨_, _, hd⟩ := hn
  have hB := h.back
  have hs : St w0 M w' B := hB.step hc.os hc.tape hc.output hc.le fun b hlt hb => hc.keep b hlt fun hbA => by
    rcases hb with hb | ⟨h1, h2⟩
    · exact hd b hbA b hb rfl
    · rcases h.src b (by rw [e1]; simp [hbA]) with h3 | h3
      · exact h2 h3
      · omega
  refine ⟨hs.os, hs.tape, hs.output, hs.le, hs.keep, fun x hx => ?_, ?_, fun b hx => ?_⟩
  · rcases List.mem_append.1 hx with hx | hx
    · exact hc.own x hx
    · exact hs.own x hx
  · rw [show blks (A' ++ B) = blks A' ++ blks B by simp [blks], List.nodup_append]
    refine ⟨hc.nodup, hs.nodup, fun b hb c hcB hbc => ?_⟩
    subst hbc
    rcases hc.src b hb with h1 | h1
    · exact hd b h1 b hcB rfl
    · exact absurd (hB.lt hcB) (by omega)
  · rw [show blks (A' ++ B) = blks A' ++ blks B by simp [blks]] at hx
    rcases List.mem_append.1 hx with hx | hx
    · rcases hc.src b hx with h1 | h1
      · exact h.src b (by rw [e1]; simp [h1])
      · exact .inr (Nat.le_trans h.le h1)
    · exact hs.src b hx

/-- One entry read another way. -/
theorem St.conv {e e' : Ent} (h : St w0 M w (e :: L)) (hb : e'.bs.Perm e.bs) (hok : e.ok w → e'.ok w) : St w0 M w (e' :: L) :=
  h.turns rfl rfl rfl (Nat.le_refl _) (fun _ _ _ => rfl) (hok (h.own e List.mem_cons_self)) (hb.nodup_iff.2 (by have := h.nodup; rw [blks_cons, List.nodup_append] at this; exact this.1)) fun b hx => .inl (hb.mem_iff.1 hx)
/-- Some entries as one. -/
def Ent.grp (L : List Ent) : Ent := .gp (blks L) (fun w => ∀ e ∈ L, e.ok w) (fun _ _ h hk e he => Ent.ok_keep (h e he) fun b hb => hk b (mem_blk.2 ⟨e, he, hb⟩)) (fun _ h b hb => by
  obtain ⟨e, he, hb⟩ := mem_blk.1 hb
  exact Ent.ok_lts (h e he) hb)
theorem St.group {A B : List Ent} (h : St w0 M w (A ++ B)) : St w0 M w (Ent.grp A :: B) := by
  have e : blks (Ent.grp A :: B) = blks (A ++ B) := by rw [blks_cons]; simp [blks, Ent.grp, Ent.bs]
  refine ⟨h.os, h.tape, h.output, h.le, h.keep, fun x hx => ?_, by rw [e]; exact h.nodup, by rw [e]; exact h.src⟩
  rcases List.mem_cons.1 hx with rfl | hx
  · exact fun y hy => h.own y (List.mem_append_left _ hy)
  · exact h.own x (List.mem_append_right _ hx)
theorem St.ungroup {A B : List Ent} (h : St w0 M w (Ent.grp A :: B)) : St w0 M w (A ++ B) := by
  have e : blks (Ent.grp A :: B) = blks (A ++ B) := by rw [blks_cons]; simp [blks, Ent.grp, Ent.bs]
  refine ⟨h.os, h.tape, h.output, h.le, h.keep, fun x hx => ?_, by rw [← e]; exact h.nodup, by rw [← e]; exact h.src⟩
  rcases List.mem_append.1 hx with hx | hx
  · exact h.own (Ent.grp A) List.mem_cons_self x hx
  · exact h.own x (List.mem_cons_of_mem _ hx)
theorem St.call1 {e : Ent} {A' B : List Ent} (h : St w0 M w (e :: B)) (hc : St w (blks [e]) w' A') : St w0 M w' (A' ++ B) := St.call (A := [e]) h hc
theorem St.call2 {e f : Ent} {A' B : List Ent} (h : St w0 M w (e :: f :: B)) (hc : St w (blks [e, f]) w' A') : St w0 M w' (A' ++ B) := St.call (A := [e, f]) h hc
theorem St.call3 {e f g : Ent} {A' B : List Ent} (h : St w0 M w (e :: f :: g :: B)) (hc : St w (blks [e, f, g]) w' A') : St w0 M w' (A' ++ B) := St.call (A := [e, f, g]) h hc
theorem St.call0 {A' : List Ent} (h : St w0 M w L) (hc : St w [] w' A') : St w0 M w' (A' ++ L) := St.call (A := []) h hc
end

/-! ### Slices that are only read -/
def Rd (w : World) (M : List Nat) (v : Value) (size n : Nat) (xs : List Value) : Prop :=
  xs.length = n * size ∧ ∃ A cap, v = .slice A n cap ∧ n ≤ cap ∧ cap ≤ maxLen ∧
    (0 < n → ∃ ad : Addr, A = some ad ∧ ad.block ∉ M ∧ ad.block < w.heap.size ∧ ∀ j u, xs[j]? = some u → w.cell? (ad.add j) = some u)

theorem block_add (a : Addr) (n : Nat) : (a.add n).block = a.block := by unfold Addr.add; split <;> rfl
theorem add_add' (a : Addr) (i j : Nat) : (a.add i).add j = a.add (i + j) := by
  unfold Addr.add
  by_cases hi : i = 0 <;> by_cases hj : j = 0 <;> simp [hi, hj, Nat.add_assoc]

section
variable {w0 w w' : World} {M M' : List Nat} {L : List Ent} {v : Value} {size n : Nat} {xs : List Value}

theorem Rd.keep (h : Rd w M v size n xs) (hle : w.heap.size ≤ w'.heap.size) (hk : ∀ b, b < w.heap.size → b ∉ M → w'.heap[b]? = w.heap[b]? ∧ b ∉ M') : Rd w' M' v size n xs := by
  obtain ⟨hl, A, cap, rfl, hc, hm, hn⟩ := h
  refine ⟨hl, A, cap, rfl, hc, hm, fun h0 => ?_⟩
  obtain ⟨ad, rfl, hbm, hlt, hcell⟩ := hn h0
  obtain ⟨h1, h2⟩ := hk _ hlt hbm
  exact ⟨ad, rfl, h2, by omega, fun j u hu => (World.cell?_of_block (by rw [block_add]; exact h1)).trans (hcell j u hu)⟩

/-- At the world of now, and apart from the entries. -/
theorem Rd.now (h : Rd w0 M v size n xs) (hO : St w0 M w L) : Rd w (blks L) v size n xs :=
  h.keep hO.le fun b hb hm => ⟨hO.keep b hb hm, fun hx => by rcases hO.src b hx with h1 | h1; exact hm h1; omega⟩
theorem Rd.mono (h : Rd w M v size n xs) (hs : ∀ b ∈ M', b ∈ M) : Rd w M' v size n xs := h.keep (Nat.le_refl _) fun _ _ hm => ⟨rfl, fun hx => hm (hs _ hx)⟩
theorem Rd.nil (w : World) (M : List Nat) (size : Nat) : Rd w M (.slice none 0 0) size 0 [] := ⟨by simp, none, 0, rfl, Nat.le_refl _, Nat.zero_le _, fun h => by omega⟩

/-- An own slice, for reading. -/
theorem Ent.rd {e : Nat} (h : (Ent.sl v e size n xs).ok w) (hM : ∀ b, v.ownBlock = some b → b ∉ M) : Rd w M v size n xs := by
  have hlt := World.ownsRow.lt h
  refine ⟨h.1, ?_⟩
  rcases h.2 with ⟨rfl, rfl⟩ | ⟨g, cap, cur, rfl, hb, hg, hnc, hm, rest⟩
  · exact ⟨none, 0, rfl, Nat.le_refl _, Nat.zero_le _, fun h => by omega⟩
  · exact ⟨_, cap, rfl, hnc, hm, fun _ => ⟨_, rfl, hM g rfl, (hlt g rfl).2, World.ownsRow.cells h (g := g) rfl⟩⟩

/-- The same slice, cut. -/
theorem Rd.size_eq (h : Rd w M v size n xs) : xs.length = n * size := h.1
end
end Go.Proofs.YtanpeofnlihhoaaDoor
