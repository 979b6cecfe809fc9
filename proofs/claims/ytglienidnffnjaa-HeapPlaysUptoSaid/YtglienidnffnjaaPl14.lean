/- PLAIN: what an object holds, and that other calls leave it. -/
import Derived.Test.YtglienidnffnjaaPl13
namespace Go.Proofs.Ytglienidnffnjaa
open Go
structure ObjAt (h : Hp) (k : Nat) (kind info : Int) (ws : List Wd) : Prop where
  ne : kind ≠ 0
  kind : (hdAt h k).kind = kind
  info : (hdAt h k).info = info
  fields : (hdAt h k).fields = ws.length
  words : ∀ j w, ws[j]? = some w → wdAt h (k + 1 + j) = w
section
variable {h : Hp} {k : Nat} {kind info : Int} {ws : List Wd}
theorem ObjAt.head (o : ObjAt h k kind info ws) : headAt h.heads (k : Int) = some k := headAt_of (show (hdAt h k).kind ≠ 0 by rw [o.kind]; exact o.ne)
theorem ObjAt.obj (o : ObjAt h k kind info ws) (hw : Wf h) : objH h k = (⟨kind, info, ws⟩, 0) := by
  rw [obj_2 o.head]
  have h1 : h.heads.getD k hd0 = hdAt h k := rfl
  rw [h1, o.kind, o.info, o.fields]
  have hb := (hw.obj k (by rw [o.kind]; exact o.ne)).2.1
  rw [o.fields] at hb
  refine congrArg (fun f => (Ob.mk kind info f, (0 : Int))) ?_
  apply List.ext_getElem?
  intro j
  rw [List.getElem?_take]
  by_cases hj : j < ws.length
  · rw [if_pos (by simpa using hj), List.getElem?_drop]
    have := o.words j _ (List.getElem?_eq_getElem hj)
    unfold wdAt at this
    rw [List.getD_eq_getElem?_getD, List.getElem?_eq_getElem (by rw [hw.len]; omega)] at this
    rw [List.getElem?_eq_getElem (by rw [hw.len]; omega), List.getElem?_eq_getElem hj]
    exact congrArg some this
  · rw [if_neg (by simpa using hj), List.getElem?_eq_none (by omega)]
theorem ObjAt.lay (o : ObjAt h k kind info ws) (hs : Sep h) {r : Nat} {kind' info' : Int} {fs : List Wd} (hr : r ≤ 2) (hfit : ¬ (h.rg r).end_ - (h.rg r).next < takesF fs) : ObjAt (layF h r kind' info' fs) k kind info ws := by
  obtain ⟨e, hl, hp, h0⟩ := hs.fit hr hfit
  obtain ⟨t1, t2, t3⟩ := takes_ge fs
  have hk : (hdAt h k).kind ≠ 0 := by rw [o.kind]; exact o.ne
  have hne : k ≠ h.nx r := fun e => by subst e; exact hk h0
  have hd := lay_hd (kind := kind') (info := info') hs hr hfit k
  rw [if_neg hne] at hd
  refine ⟨o.ne, by rw [hd]; exact o.kind, by rw [hd]; exact o.info, by rw [hd]; exact o.fields, fun j w hj => ?_⟩
  have hjl := (List.getElem?_eq_some_iff.1 hj).1
  have h1 := hp k hk
  have h2 := hs.tk k hk
  have h3 := o.fields
  rw [lay_wd (kind := kind') (info := info') hs hr hfit, if_neg (by omega)]
  exact o.words j w hj
theorem obj_new (hs : Sep h) {r : Nat} {fs : List Wd} (hk : kind ≠ 0) (hr : r ≤ 2) (hfit : ¬ (h.rg r).end_ - (h.rg r).next < takesF fs) : ObjAt (layF h r kind info fs) (h.nx r) kind info fs := by
  have hd := lay_hd (kind := kind) (info := info) hs hr hfit (h.nx r)
  rw [if_pos rfl] at hd
  refine ⟨hk, by rw [hd], by rw [hd], by rw [hd], fun j w hj => ?_⟩
  have hjl := (List.getElem?_eq_some_iff.1 hj).1
  rw [lay_wd (kind := kind) (info := info) hs hr hfit, if_pos (by omega), show h.nx r + 1 + j - (h.nx r + 1) = j by omega, List.getD_eq_getElem?_getD, hj]
  rfl
/-- one field is set in another object -/
theorem ObjAt.other (o : ObjAt h k kind info ws) (hs : Sep h) {i m : Nat} {x : Hd} {w : Wd} (hi : (hdAt h i).kind ≠ 0) (hne : k ≠ i) (hm : i + 1 ≤ m ∧ (m : Int) < i + (hdAt h i).takes) (hmw : m < h.words.length) : ObjAt (putH h i x m w) k kind info ws := by
  have hil : i < h.heads.length := by obtain ⟨_, _, _, h3, _⟩ := head_ne (by rw [headAt_of hi]; simp : headAt h.heads (i : Int) ≠ none); omega
  have hk : (hdAt h k).kind ≠ 0 := by rw [o.kind]; exact o.ne
  have hd := put_hd (h := h) hil x m w k
  rw [if_neg hne] at hd
  refine ⟨o.ne, by rw [hd]; exact o.kind, by rw [hd]; exact o.info, by rw [hd]; exact o.fields, fun j u hj => ?_⟩
  have hjl := (List.getElem?_eq_some_iff.1 hj).1
  have h3 := o.fields
  have tk := hs.tk k hk
  have ti := hs.tk i hi
  rw [putWd x hmw, if_neg]
  · exact o.words j u hj
  · intro e
    rcases Nat.lt_or_ge i k with hlt | hge
    · have := hs.ap i k hlt hi hk; omega
    · have := hs.ap k i (by omega) hk hi; omega
/-- one field is set -/
theorem ObjAt.set (o : ObjAt h k kind info ws) {f : Nat} {w : Wd} (hf : f < ws.length) (hmw : k + 1 + f < h.words.length) : ObjAt (putH h k (hdAt h k) (k + 1 + f) w) k kind info (ws.set f w) := by
  have hk : (hdAt h k).kind ≠ 0 := by rw [o.kind]; exact o.ne
  have hil : k < h.heads.length := by obtain ⟨_, _, _, h3, _⟩ := head_ne (by rw [headAt_of hk]; simp : headAt h.heads (k : Int) ≠ none); omega
  have hd : (hdAt (putH h k (hdAt h k) (k + 1 + f) w) k).kind = (hdAt h k).kind ∧ (hdAt (putH h k (hdAt h k) (k + 1 + f) w) k).info = (hdAt h k).info ∧ (hdAt (putH h k (hdAt h k) (k + 1 + f) w) k).fields = (hdAt h k).fields := by
    rw [put_hd (h := h) hil, if_pos rfl]
    split <;> exact ⟨rfl, rfl, rfl⟩
  refine ⟨o.ne, by rw [hd.1]; exact o.kind, by rw [hd.2.1]; exact o.info, by rw [hd.2.2, List.length_set]; exact o.fields, fun j u hj => ?_⟩
  rw [putWd _ hmw]
  rw [List.getElem?_set] at hj
  by_cases e : f = j
  · subst e
    rw [if_pos rfl, if_pos hf] at hj
    rw [if_pos rfl]; exact Option.some.inj hj
  · rw [if_neg e] at hj
    rw [if_neg (by omega)]
    exact o.words j u hj
end
/-! objects without pointers -/
def nW (n : Int) : Wd := ⟨false, n⟩
theorem real_nW (hs : List Hd) (r : List Int) : realF hs (r.map nW) = true := by
  unfold realF
  rw [List.all_eq_true]
  intro w hw
  obtain ⟨n, _, rfl⟩ := List.mem_map.1 hw
  exact decide_eq_true (fun h => by cases h.1)
theorem notes_nW (at_ : Int) : ∀ (r : List Int) (h : Hp), notesF h at_ (r.map nW) = h
  | [], _ => rfl
  | n :: r, h => by
    show notesF (noteF h at_ (nW n)) at_ (r.map nW) = h
    rw [note_yes (by left; left; right; exact Bool.false_ne_true), notes_nW at_ r h]
structure AI (h : Hp) (all : List Int) (rows : List (List Int)) : Prop where
  sep : Sep h
  rem : h.rem = []
  len : all.length = rows.length
  ob : ∀ (i : Nat) a row, all[i]? = some a → rows[i]? = some row → ∃ A : Nat, a = A ∧ ObjAt h A 1 i (row.map nW)
structure AG (h : Hp) (i : Nat) : Prop where
  y1 : h.y.end_ = 4096
  y2 : h.y.next ≤ 21 * i
  a1 : h.a.end_ = 8192
  a2 : h.a.next ≤ 4096 + 21 * i
  use : h.use = 0
theorem ai_new : AI (newH 4096 4096) [] [] ∧ AG (newH 4096 4096) 0 :=
  ⟨⟨sep_new (show ¬ newBad 4096 4096 by decide), rfl, rfl, fun i a row h => by simp at h⟩, ⟨rfl, by decide, rfl, by decide, rfl⟩⟩
section
variable {h : Hp} {all : List Int} {rows : List (List Int)}
/-- an object is laid -/
theorem AI.lay (c : AI h all rows) {i r m : Nat} (g : AG h m) (hm : m ≤ 101) {row : List Int} (hr : r ≤ 1) (hi : i < 100) (hrow : row.length ≤ 20) :
    layH h r 1 i (row.map nW) = (((h.rg r).next, 0), layF h r 1 i (row.map nW)) ∧ AI (layF h r 1 i (row.map nW)) all rows ∧ (∃ A : Nat, (h.rg r).next = A ∧ ObjAt (layF h r 1 i (row.map nW)) A 1 i (row.map nW)) ∧
      (layF h r 1 i (row.map nW)).y.end_ = 4096 ∧ (layF h r 1 i (row.map nW)).a.end_ = 8192 ∧ (layF h r 1 i (row.map nW)).use = 0 ∧ (layF h r 1 i (row.map nW)).y.next ≤ (if r = 0 then h.y.next + 21 else h.y.next) ∧ (layF h r 1 i (row.map nW)).a.next ≤ (if r = 1 then h.a.next + 21 else h.a.next) := by
  have ht : takesF (row.map nW) = 1 + max 1 (row.length : Int) := by unfold takesF; rw [List.length_map]
  have hb : ¬ argsBad 1 i (row.map nW) := by unfold argsBad; rw [List.length_map]; omega
  obtain ⟨y1, y2, a1, a2, u⟩ := g
  have hfit : ¬ (h.rg r).end_ - (h.rg r).next < takesF (row.map nW) := by
    rw [ht]
    rcases c.sep.cases (r := r) (by omega) with ⟨_, q1, q2, q3⟩ | ⟨_, q1, q2, q3⟩ | ⟨e, _⟩
    · rw [q2, q3]; omega
    · rw [q2, q3]; omega
    · omega
  obtain ⟨e, hl, _⟩ := c.sep.fit (r := r) (by omega) hfit
  obtain ⟨g1, g2, g3, g4, g5⟩ := lay_rg h r 1 i (row.map nW)
  refine ⟨lay_4 hb (by simp [real_nW]) hfit, ⟨c.sep.lay (by omega) hfit, ?_, c.len, fun j a row' ha hrw => ?_⟩, ⟨h.nx r, e.symm, obj_new c.sep (by decide) (by omega) hfit⟩, ?_, ?_, by rw [g2]; exact u, ?_, ?_⟩
  · unfold layF
    rw [notes_nW]
    exact c.rem
  · obtain ⟨A, rfl, o⟩ := c.ob j a row' ha hrw
    exact ⟨A, rfl, o.lay c.sep (by omega) hfit⟩
  · rw [g3]; split <;> exact y1
  · rw [g4]; split <;> exact a1
  · rw [g3]
    split
    · rename_i e; subst e
      show (h.rg 0).next + takesF _ ≤ _
      rw [ht]
      show h.y.next + _ ≤ _
      omega
    · omega
  · rw [g4]
    split
    · rename_i e; subst e
      show (h.rg 1).next + takesF _ ≤ _
      rw [ht]
      show h.a.next + _ ≤ _
      omega
    · omega
theorem AI.on (c : AI h all rows) {A : Nat} {row : List Int} (o : ObjAt h A 1 all.length (row.map nW)) : AI h (all ++ [(A : Int)]) (rows ++ [row]) := by
  refine ⟨c.sep, c.rem, by rw [List.length_append, List.length_append, c.len]; rfl, fun j a row' ha hrw => ?_⟩
  by_cases hj : j < all.length
  · rw [List.getElem?_append_left hj] at ha
    rw [List.getElem?_append_left (by rw [← c.len]; exact hj)] at hrw
    exact c.ob j a row' ha hrw
  · rw [List.getElem?_append_right (by omega)] at ha
    rw [List.getElem?_append_right (by rw [← c.len]; omega)] at hrw
    have hj0 : j = all.length := by
      have := (List.getElem?_eq_some_iff.1 ha).1
      simp at this; omega
    subst hj0
    rw [Nat.sub_self] at ha
    rw [c.len, Nat.sub_self] at hrw
    obtain rfl : (A : Int) = a := by simpa using ha
    obtain rfl : row = row' := by simpa using hrw
    exact ⟨A, rfl, o⟩
/-- a field is set -/
theorem AI.set (c : AI h all rows) {K : Nat} {a f n : Int} {row : List Int} (ha : all[K]? = some a) (hrw : rows[K]? = some row) {x : Int × Hp} (hl : setH h a f (nW n) = x) :
    (x.1 = 0 ↔ 0 ≤ f ∧ f < row.length) ∧ (x.1 = 0 → AI x.2 all (rows.set K (row.set f.toNat n))) ∧ (x.1 ≠ 0 → x.2 = h) := by
  subst hl
  obtain ⟨A, rfl, o⟩ := c.ob K a row ha hrw
  have hh := o.head
  have hk : (hdAt h A).kind ≠ 0 := by rw [o.kind]; decide
  have hfl : (hdAt h A).fields = row.length := by rw [o.fields, List.length_map]
  have tk := c.sep.tk A hk
  have wo := c.sep.wf.obj A hk
  have hnb : ¬ badW h.heads (nW n) := fun h => by cases h.1
  unfold setH
  rw [hh]
  simp only
  by_cases hc : (f < 0 ∨ (hdAt h A).fields ≤ f) ∨ badW h.heads (nW n)
  · rw [if_pos hc]
    refine ⟨⟨fun h => absurd h (show ¬ (181 : Int) = 0 by decide), fun h => ?_⟩, fun h => absurd h (show ¬ (181 : Int) = 0 by decide), fun _ => rfl⟩
    rcases hc with hc | hc
    · omega
    · exact absurd hc hnb
  · rw [if_neg hc]
    have hc1 := (not_or.1 hc).1
    refine ⟨⟨fun _ => by omega, fun _ => rfl⟩, fun _ => ?_, fun h => absurd rfl h⟩
    rw [set_put (by omega) rfl]
    have hm : A + 1 + f.toNat < h.words.length := by rw [c.sep.wf.len]; omega
    refine ⟨c.sep.put hk rfl ⟨tk.2.1, tk.2.2⟩ hm _, ?_, by rw [List.length_set]; exact c.len, fun j b row' hb hr' => ?_⟩
    · show (putH h A (hdAt h A) (A + 1 + f.toNat) (nW n)).rem = []
      unfold putH
      rw [note_yes (by left; left; right; exact Bool.false_ne_true)]
      exact c.rem
    · rw [List.getElem?_set] at hr'
      by_cases e : K = j
      · subst e
        rw [ha] at hb
        cases hb
        rw [if_pos rfl, if_pos (List.getElem?_eq_some_iff.1 hrw).1] at hr'
        cases hr'
        refine ⟨A, rfl, ?_⟩
        have := o.set (w := nW n) (f := f.toNat) (by rw [List.length_map]; omega) hm
        rwa [← List.map_set] at this
      · rw [if_neg e] at hr'
        obtain ⟨B, rfl, o2⟩ := c.ob j b row' hb hr'
        refine ⟨B, rfl, o2.other c.sep hk (fun e2 => ?_) ⟨by omega, by omega⟩ hm⟩
        subst e2
        have := o.info.symm.trans o2.info
        omega
end
/-! rows with their headers -/
def hrE : Enc (Hdr × List Int) where
  size := 1
  cells q := [q.1.v]
  len _ := rfl
  one t u hu := by
    simp only [List.mem_cons, List.not_mem_nil, or_false] at hu
    subst hu; rfl
def rowE (t : Nat) (p : Hdr × List Int) : Ent := slT p.1.v t intE p.2
theorem hr_set {rows : List (Hdr × List Int)} {K : Nat} {p : Hdr × List Int} (hp : rows[K]? = some p) (r : List Int) (v : Value) (t : Nat) : slT v t hrE rows = slT v t hrE (rows.set K (p.1, r)) := by
  have e : ∀ (rows : List (Hdr × List Int)) (K : Nat), rows[K]? = some p → flat hrE rows = flat hrE (rows.set K (p.1, r)) := by
    intro rows
    induction rows with
    | nil => intro K _; rfl
    | cons x rows ih =>
      intro K hp
      cases K with
      | zero =>
        obtain rfl : x = p := by simpa using hp
        rfl
      | succ K =>
        have := ih K (by simpa using hp)
        unfold flat at this ⊢
        simp only [List.set_cons_succ, List.flatMap_cons]
        rw [this]
  unfold slT
  rw [List.length_set, e rows K hp]
theorem nW_n (r : List Int) : (r.map nW).map (·.n) = r := by
  rw [List.map_map]
  exact (List.map_congr_left (fun _ _ => rfl)).trans (List.map_id r)
def sK (a len : Int) : Int := (a.tmod len + len).tmod len
theorem sK_in {a len : Int} (h : 0 < len) : 0 ≤ sK a len ∧ sK a len < len := by
  have := tmod_in (n := a) h
  exact ⟨Int.tmod_nonneg _ (by omega), Int.tmod_lt_of_pos _ h⟩
end Go.Proofs.Ytglienidnffnjaa
