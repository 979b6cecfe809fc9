/- PLAIN: what is used, where objects of some words are laid. -/
import Derived.Test.YtglienidnffnjaaPl9
namespace Go.Proofs.Ytglienidnffnjaa
open Go
structure Fl (h : Hp) : Prop where
  wf : Wf h
  y1 : h.y.first = 0
  y2 : h.y.end_ = 64
  a1 : h.a.first = 64
  a2 : h.a.end_ = 164
  use : h.use = 0
  rem : h.rem = []
theorem fl_new : Fl (newH 64 100) := ⟨wf_new (show ¬ newBad 64 100 by decide), rfl, rfl, rfl, rfl, rfl, rfl⟩
theorem real_zero (hs : List Hd) (n : Nat) : realF hs (List.replicate n wd0) = true := by
  unfold realF
  rw [List.all_eq_true]
  intro w hw
  rw [List.eq_of_mem_replicate hw]
  exact decide_eq_true (fun h => by cases h.1)
theorem notes_zero (h : Hp) (at_ : Int) : ∀ n : Nat, notesF h at_ (List.replicate n wd0) = h
  | 0 => rfl
  | n + 1 => by
    rw [List.replicate_succ]
    show notesF (noteF h at_ wd0) at_ (List.replicate n wd0) = h
    rw [note_yes (by left; left; right; exact Bool.false_ne_true), notes_zero h at_ n]
section
variable {h h1 : Hp} {k : Nat} {i : Int} {n : Nat} {r : Int × Int}
theorem Fl.lay (c : Fl h) (hk : k ≤ 1) (hi : 0 ≤ i ∧ i < 200) (hn : n ≤ 120) (hl : layH h k 1 i (List.replicate n wd0) = (r, h1)) :
    Fl h1 ∧ (r.2 = 0 ∨ r.2 = 180) ∧ (r.2 = 0 ↔ (h.rg k).next - (h.rg k).first + (1 + max 1 (n : Int)) ≤ (h.rg k).end_ - (h.rg k).first) ∧
      h1.y.next = (if k = 0 ∧ r.2 = 0 then h.y.next + (1 + max 1 (n : Int)) else h.y.next) ∧ h1.a.next = (if k = 1 ∧ r.2 = 0 then h.a.next + (1 + max 1 (n : Int)) else h.a.next) := by
  have ht : takesF (List.replicate n wd0) = 1 + max 1 (n : Int) := by unfold takesF; rw [List.length_replicate]
  have hb : ¬ argsBad 1 i (List.replicate n wd0) := by unfold argsBad; rw [List.length_replicate]; omega
  have hwf : Wf h1 := by have := c.wf.lay (k := k) (by omega) 1 i (List.replicate n wd0); rw [hl] at this; exact this
  by_cases hfit : (h.rg k).end_ - (h.rg k).next < takesF (List.replicate n wd0)
  · rw [lay_3 hb (by simp [real_zero]) hfit] at hl
    obtain ⟨rfl, rfl⟩ := Prod.mk.inj hl
    rw [ht] at hfit
    refine ⟨c, .inr rfl, ⟨fun h => absurd h (by decide), fun h => by omega⟩, ?_, ?_⟩ <;> rw [if_neg (fun h => absurd h.2 (by decide))]
  · rw [lay_4 hb (by simp [real_zero]) hfit] at hl
    obtain ⟨rfl, rfl⟩ := Prod.mk.inj hl
    rw [ht] at hfit
    rw [notes_zero] at hwf ⊢
    have hy : (laidH h k 1 i (List.replicate n wd0)).y = if k = 0 then h.y.to ((h.rg k).next + takesF (List.replicate n wd0)) else h.y := rfl
    have ha : (laidH h k 1 i (List.replicate n wd0)).a = if k = 1 then h.a.to ((h.rg k).next + takesF (List.replicate n wd0)) else h.a := rfl
    refine ⟨⟨hwf, by rw [hy]; split <;> exact c.y1, by rw [hy]; split <;> exact c.y2, by rw [ha]; split <;> exact c.a1, by rw [ha]; split <;> exact c.a2, c.use, c.rem⟩, .inl rfl, ⟨fun _ => by omega, fun _ => rfl⟩, ?_, ?_⟩
    · rw [hy, ht]
      by_cases e : k = 0
      · subst e; simp [Rg.to, Hp.rg]
      · simp [e]
    · rw [ha, ht]
      by_cases e : k = 1
      · subst e; simp [Rg.to, Hp.rg]
      · simp [e]
theorem Fl.used (c : Fl h) : usedH h = (h.y.next, h.a.next - 64) := by
  unfold usedH
  rw [c.use, c.y1]
  show (h.y.next - 0, h.a.next - h.a.first) = _
  rw [c.a1, Int.sub_zero]
theorem Fl.cleared (c : Fl h) : usedH (clearH h) = (0, h.a.next - 64) := by
  have e : (clearH h).use = h.use := rfl
  have ey : (clearH h).y = h.y.to h.y.first := rfl
  have ea : (clearH h).a = h.a := rfl
  unfold usedH
  rw [e, c.use, ey]
  show (h.y.first - h.y.first, (clearH h).a.next - (clearH h).a.first) = _
  rw [ea, c.a1, Int.sub_self]
end
end Go.Proofs.Ytglienidnffnjaa
