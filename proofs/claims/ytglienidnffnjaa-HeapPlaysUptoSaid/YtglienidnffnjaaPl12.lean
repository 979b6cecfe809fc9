/- PLAIN: a row of links, and what chasing comes to. -/
import Derived.Test.YtglienidnffnjaaPl8
namespace Go.Proofs.Ytglienidnffnjaa
open Go
def Row (h : Hp) (first : Wd) : Nat → Wd → Prop
  | 0, w => w = first
  | i + 1, w => w = ⟨true, ((2 * i : Nat) : Int)⟩ ∧ (hdAt h (2 * i)).kind = 5 ∧ Row h first i (h.words.getD (2 * i + 1) wd0)
theorem headAt_of {hs : List Hd} {k : Nat} (h : (hs.getD k hd0).kind ≠ 0) : headAt hs (k : Int) = some k := by
  have hl : k < hs.length := by
    rcases Nat.lt_or_ge k hs.length with h1 | h1
    · exact h1
    · rw [getD_out h1] at h; exact absurd rfl h
  unfold headAt
  rw [if_neg]
  · simp
  · rintro ((h1 | h1) | h1)
    · omega
    · omega
    · exact h (by simpa using h1)
theorem row_chase {h : Hp} {first : Wd} (hp : first.ptr = false) : ∀ (i : Nat) (w : Wd) (f : Nat) (met : List Int), Row h first i w → (∀ m ∈ met, (2 * i : Int) ≤ m) → i < f → chaseG h f w met = first
  | 0, w, f + 1, met, hr, _, _ => by
    have e : w = first := hr
    subst e
    exact chase_stop (fun hc => by have := hc.1.1.1; rw [hp] at this; cases this)
  | i + 1, w, f + 1, met, hr, hm, hf => by
    obtain ⟨rfl, hk, hr⟩ := hr
    have hd := headAt_of (hs := h.heads) (k := 2 * i) (by show (hdAt h (2 * i)).kind ≠ 0; rw [hk]; decide)
    rw [chase_go ⟨⟨⟨rfl, by rw [hd]; simp⟩, by show (hdAt h ((((2 * i : Nat) : Int))).toNat).kind = 5; rw [Int.toNat_natCast]; exact hk⟩, fun hc => by
      have := hm _ (List.contains_iff_mem.1 hc)
      simp only at this
      omega⟩]
    have e : ((((2 * i : Nat) : Int)) + 1).toNat = 2 * i + 1 := by omega
    show chaseG h f (h.words.getD ((((2 * i : Nat) : Int)) + 1).toNat wd0) _ = first
    rw [e]
    refine row_chase hp i _ f _ hr (fun m hm' => ?_) (by omega)
    rcases List.mem_append.1 hm' with h1 | h1
    · have := hm m h1; omega
    · rw [List.mem_singleton.1 h1]; simp
  | _ + 1, _, 0, _, _, _, hf => by omega
  | 0, _, 0, _, _, _, hf => by omega
theorem row_keep {h h' : Hp} {first : Wd} : ∀ (i : Nat) (w : Wd), (∀ k, k < 2 * i → hdAt h' k = hdAt h k ∧ h'.words.getD k wd0 = h.words.getD k wd0) → Row h first i w → Row h' first i w
  | 0, _, _, hr => hr
  | i + 1, w, hk, hr => by
    obtain ⟨e, h1, h2⟩ := hr
    refine ⟨e, by rw [(hk (2 * i) (by omega)).1]; exact h1, ?_⟩
    rw [(hk (2 * i + 1) (by omega)).2]
    exact row_keep i _ (fun k hk' => hk k (by omega)) h2
structure Ch (first : Wd) (i : Nat) (w : Wd) (h : Hp) : Prop where
  wf : Wf h
  y : h.y = ⟨0, ((2 * i : Nat) : Int), 1024⟩
  rem : h.rem = []
  len : h.heads.length = 1056
  row : Row h first i w
theorem ch_new (first : Wd) : Ch first 0 first (newH 1024 16) :=
  ⟨wf_new (show ¬ newBad 1024 16 by decide), rfl, rfl, by show (List.replicate _ hd0).length = _; rw [List.length_replicate]; rfl, rfl⟩
theorem putW_nil (ws : List Wd) (k : Nat) : putW ws k [] = ws := by simp [putW]
/-- a thunk laid behind the row -/
def chA (h : Hp) (i : Nat) (kind info : Int) : Hp := ⟨h.words, h.heads.set (2 * i) ⟨kind, info, 0, 2, false⟩, ⟨0, ((2 * i + 2 : Nat) : Int), 1024⟩, h.a, h.b, h.use, h.rem⟩
def chB (h : Hp) (i : Nat) (w : Wd) : Hp := ⟨h.words.set (2 * i + 1) w, h.heads.set (2 * i) ⟨5, 0, 1, 2, false⟩, ⟨0, ((2 * i + 2 : Nat) : Int), 1024⟩, h.a, h.b, h.use, h.rem⟩
section
variable {first : Wd} {i : Nat} {w : Wd} {h : Hp}
theorem Ch.lay (c : Ch first i w h) (hi : i ≤ 100) {kind info : Int} (hb : ¬ argsBad kind info []) : layH h 0 kind info [] = ((((2 * i : Nat) : Int), 0), chA h i kind info) := by
  have ht : takesF [] = 2 := rfl
  have hfit : ¬ (h.rg 0).end_ - (h.rg 0).next < takesF [] := by rw [ht]; show ¬ h.y.end_ - h.y.next < 2; rw [c.y]; show ¬ (1024 : Int) - ((2 * i : Nat) : Int) < 2; omega
  rw [lay_4 hb (by simp [realF]) hfit]
  have e1 : (h.rg 0).next = ((2 * i : Nat) : Int) := by show h.y.next = _; rw [c.y]
  rw [e1]
  refine congrArg (Prod.mk _) ?_
  show laidH h 0 kind info [] = _
  unfold laidH chA
  simp only [Hp.setN, e1, putW_nil, ht, Int.toNat_natCast, if_true]
  rw [c.y]
  congr 1
theorem Ch.wfA (c : Ch first i w h) (hi : i ≤ 100) {kind info : Int} (hb : ¬ argsBad kind info []) : Wf (chA h i kind info) := by
  have := c.wf.lay (k := 0) (by decide) kind info []
  rw [c.lay hi hb] at this
  exact this
theorem chA_at {j : Nat} (hl : h.heads.length = 1056) (hi : i ≤ 100) {kind info : Int} : hdAt (chA h i kind info) j = if j = 2 * i then ⟨kind, info, 0, 2, false⟩ else hdAt h j := by
  unfold hdAt chA
  simp only
  by_cases e : j = 2 * i
  · subst e; rw [if_pos rfl, getD_set_self (by omega)]
  · rw [if_neg e, getD_set_ne' (fun h => e h.symm)]
theorem Ch.link (c : Ch first i w h) (hi : i < 100) (hp : first.ptr = false) : linkH (chA h i 3 0) ((2 * i : Nat) : Int) w = (0, chB h i w) := by
  have hk : hdAt (chA h i 3 0) (2 * i) = ⟨3, 0, 0, 2, false⟩ := by rw [chA_at c.len (by omega), if_pos rfl]
  have hd : headAt (chA h i 3 0).heads ((2 * i : Nat) : Int) = some (2 * i) := headAt_of (by show (hdAt _ _).kind ≠ 0; rw [hk]; decide)
  have hnb : ¬ badW (chA h i 3 0).heads w := by
    rintro ⟨h1, h2⟩
    have hr := c.row
    cases i with
    | zero =>
      have e : w = first := hr
      subst e; rw [hp] at h1; cases h1
    | succ i =>
      obtain ⟨rfl, hk5, _⟩ := hr
      have := headAt_of (hs := (chA h (i + 1) 3 0).heads) (k := 2 * i) (by show (hdAt _ _).kind ≠ 0; rw [chA_at c.len (by omega), if_neg (by omega), hk5]; decide)
      rw [this] at h2; cases h2
  rw [link_4 hd hnb (by show ¬ (¬ (hdAt _ _).kind = 3 ∧ ¬ (hdAt _ _).kind = 6); rw [hk]; simp)]
  refine congrArg (Prod.mk _) ?_
  rw [note_yes (by left; left; left; show ((2 * i : Nat) : Int) < 1024; omega)]
  have hk' : (chA h i 3 0).heads.getD (2 * i) hd0 = ⟨3, 0, 0, 2, false⟩ := hk
  rw [hk']
  unfold chA chB
  simp only [List.set_set]
  congr 2
theorem Ch.next (c : Ch first i w h) (hi : i < 100) (hp : first.ptr = false) : Ch first (i + 1) ⟨true, ((2 * i : Nat) : Int)⟩ (chB h i w) := by
  have hlw : h.words.length = 1056 := by rw [c.wf.len, c.len]
  have hat : ∀ j, hdAt (chB h i w) j = if j = 2 * i then ⟨5, 0, 1, 2, false⟩ else hdAt h j := fun j => by
    unfold hdAt chB
    simp only
    by_cases e : j = 2 * i
    · subst e; rw [if_pos rfl, getD_set_self (by rw [c.len]; omega)]
    · rw [if_neg e, getD_set_ne' (fun h => e h.symm)]
  refine ⟨?_, ?_, c.rem, by show (h.heads.set _ _).length = _; rw [List.length_set]; exact c.len, rfl, by rw [hat, if_pos rfl], ?_⟩
  · have := (c.wfA (kind := 3) (info := 0) (by omega) (by decide)).link ((2 * i : Nat) : Int) w
    rw [c.link hi hp] at this
    exact this
  · show (⟨0, ((2 * i + 2 : Nat) : Int), 1024⟩ : Rg) = _
    rw [show 2 * (i + 1) = 2 * i + 2 by omega]
  · have e : (chB h i w).words.getD (2 * i + 1) wd0 = w := by show (h.words.set _ _).getD _ _ = _; rw [getD_set_self (by omega)]
    rw [e]
    refine row_keep i w (fun k hk => ⟨by rw [hat, if_neg (by omega)], ?_⟩) c.row
    show (h.words.set _ _).getD _ _ = _
    rw [getD_set_ne' (by omega)]
theorem Ch.chase (c : Ch first i w h) (hi : i ≤ 100) (hp : first.ptr = false) : chaseH h w = first :=
  row_chase hp i w _ [] c.row (fun _ h => by cases h) (by rw [c.len]; omega)
theorem Ch.last (c : Ch first i w h) (hi : i ≤ 100) : chaseH (chA h i 1 1) ⟨true, ((2 * i : Nat) : Int)⟩ = ⟨true, ((2 * i : Nat) : Int)⟩ := by
  refine chase_stop (fun hc => ?_)
  have h1 := hc.1.2
  have e : ((((2 * i : Nat) : Int))).toNat = 2 * i := by omega
  rw [show (⟨true, ((2 * i : Nat) : Int)⟩ : Wd).n.toNat = 2 * i from e, chA_at c.len hi, if_pos rfl] at h1
  exact absurd h1 (by decide)
end
end Go.Proofs.Ytglienidnffnjaa
namespace Go.Proofs.Ytglienidnffnjaa
open Go
structure Fl (h : Hp) : Prop where
  wf : Wf h
  y1 : h.y.first = 0
  y2 : h.y.end_ = 64
  a1 : h.a.first = 64
  a2 : h.a.end_ = 164
  use : h.use = 0
  rem : h.rem = []
theorem fl_new : Fl (newH 64 100) := ⟨wf_new (show ¬ newBad 64 100 by decide), rfl, rfl, rfl, rfl, rfl, rfl⟩
theorem real_zero (hs : List Hd) (n : Nat) : realF hs (List.replicate n wd0) = true := by
  unfold realF
  rw [List.all_eq_true]
  intro w hw
  rw [List.eq_of_mem_replicate hw]
  exact decide_eq_true (fun h => by cases h.1)
theorem notes_zero (h : Hp) (at_ : Int) : ∀ n : Nat, notesF h at_ (List.replicate n wd0) = h
  | 0 => rfl
  | n + 1 => by
    rw [List.replicate_succ]
    show notesF (noteF h at_ wd0) at_ (List.replicate n wd0) = h
    rw [note_yes (by left; left; right; exact Bool.false_ne_true), notes_zero h at_ n]
section
variable {h h1 : Hp} {k : Nat} {i : Int} {n : Nat} {r : Int × Int}
theorem Fl.lay (c : Fl h) (hk : k ≤ 1) (hi : 0 ≤ i ∧ i < 200) (hn : n ≤ 120) (hl : layH h k 1 i (List.replicate n wd0) = (r, h1)) :
    Fl h1 ∧ (r.2 = 0 ∨ r.2 = 180) ∧ (r.2 = 0 ↔ (h.rg k).next - (h.rg k).first + (1 + max 1 (n : Int)) ≤ (h.rg k).end_ - (h.rg k).first) ∧
      h1.y.next = (if k = 0 ∧ r.2 = 0 then h.y.next + (1 + max 1 (n : Int)) else h.y.next) ∧ h1.a.next = (if k = 1 ∧ r.2 = 0 then h.a.next + (1 + max 1 (n : Int)) else h.a.next) := by
  have ht : takesF (List.replicate n wd0) = 1 + max 1 (n : Int) := by unfold takesF; rw [List.length_replicate]
  have hb : ¬ argsBad 1 i (List.replicate n wd0) := by unfold argsBad; rw [List.length_replicate]; omega
  have hwf : Wf h1 := by have := c.wf.lay (k := k) (by omega) 1 i (List.replicate n wd0); rw [hl] at this; exact this
  by_cases hfit : (h.rg k).end_ - (h.rg k).next < takesF (List.replicate n wd0)
  · rw [lay_3 hb (by simp [real_zero]) hfit] at hl
    obtain ⟨rfl, rfl⟩ := Prod.mk.inj hl
    rw [ht] at hfit
    refine ⟨c, .inr rfl, ⟨fun h => absurd h (by decide), fun h => by omega⟩, ?_, ?_⟩ <;> rw [if_neg (fun h => absurd h.2 (by decide))]
  · rw [lay_4 hb (by simp [real_zero]) hfit] at hl
    obtain ⟨rfl, rfl⟩ := Prod.mk.inj hl
    rw [ht] at hfit
    rw [notes_zero] at hwf ⊢
    have hy : (laidH h k 1 i (List.replicate n wd0)).y = if k = 0 then h.y.to ((h.rg k).next + takesF (List.replicate n wd0)) else h.y := rfl
    have ha : (laidH h k 1 i (List.replicate n wd0)).a = if k = 1 then h.a.to ((h.rg k).next + takesF (List.replicate n wd0)) else h.a := rfl
    refine ⟨⟨hwf, by rw [hy]; split <;> exact c.y1, by rw [hy]; split <;> exact c.y2, by rw [ha]; split <;> exact c.a1, by rw [ha]; split <;> exact c.a2, c.use, c.rem⟩, .inl rfl, ⟨fun _ => by omega, fun _ => rfl⟩, ?_, ?_⟩
    · rw [hy, ht]
      by_cases e : k = 0
      · subst e; simp [Rg.to, Hp.rg]
      · simp [e]
    · rw [ha, ht]
      by_cases e : k = 1
      · subst e; simp [Rg.to, Hp.rg]
      · simp [e]
theorem Fl.used (c : Fl h) : usedH h = (h.y.next, h.a.next - 64) := by
  unfold usedH
  rw [c.use, c.y1]
  show (h.y.next - 0, h.a.next - h.a.first) = _
  rw [c.a1, Int.sub_zero]
theorem Fl.cleared (c : Fl h) : usedH (clearH h) = (0, h.a.next - 64) := by
  have e : (clearH h).use = h.use := rfl
  have ey : (clearH h).y = h.y.to h.y.first := rfl
  have ea : (clearH h).a = h.a := rfl
  unfold usedH
  rw [e, c.use, ey]
  show (h.y.first - h.y.first, (clearH h).a.next - (clearH h).a.first) = _
  rw [ea, c.a1, Int.sub_self]
end
end Go.Proofs.Ytglienidnffnjaa
namespace Go.Proofs.Ytglienidnffnjaa
open Go
def wdAt (h : Hp) (k : Nat) : Wd := h.words.getD k wd0
/-- a word that an old object remembers for -/
def grey (ye at_ : Int) (w : Wd) : Prop := ye ≤ at_ ∧ w.ptr = true ∧ w.n < ye
instance (ye at_ : Int) (w : Wd) : Decidable (grey ye at_ w) := by unfold grey; infer_instance
theorem knowP_iff (h : Hp) (at_ : Int) (w : Wd) : knowP h at_ w ↔ ¬ grey h.y.end_ at_ w ∨ (hdAt h at_.toNat).knows = true := by
  unfold knowP grey hdAt
  constructor
  · rintro (((h1 | h1) | h1) | h1)
    · exact .inl (fun g => by omega)
    · exact .inl (fun g => h1 g.2.1)
    · exact .inl (fun g => by omega)
    · exact .inr h1
  · rintro (h1 | h1)
    · by_cases a : at_ < h.y.end_
      · exact .inl (.inl (.inl a))
      · by_cases b : w.ptr = true
        · exact .inl (.inr (by apply Classical.byContradiction; intro c; exact h1 ⟨by omega, b, by omega⟩))
        · exact .inl (.inl (.inr b))
    · exact .inr h1
theorem setK_same {x : Hd} (h : x.knows = true) : setK x true = x := by cases x; simp only [setK] at *; rw [h]
theorem hdAt_set (h : Hp) (ws : List Wd) (y a b : Rg) (u : Nat) (rm : List Int) (k j : Nat) (x : Hd) : hdAt ⟨ws, h.heads.set k x, y, a, b, u, rm⟩ j = if j = k ∧ k < h.heads.length then x else hdAt h j := by
  unfold hdAt
  simp only
  by_cases e : k = j
  · subst e
    by_cases hl : k < h.heads.length
    · rw [getD_set_self hl, if_pos ⟨rfl, hl⟩]
    · rw [List.set_eq_of_length_le (by omega), if_neg (fun h => hl h.2)]
  · rw [getD_set_ne' e, if_neg (fun h => e h.1.symm)]
theorem wdAt_set (l : List Wd) (k j : Nat) (x : Wd) (hk : k < l.length) : (l.set k x).getD j wd0 = if j = k then x else l.getD j wd0 := by
  by_cases e : k = j
  · subst e; rw [getD_set_self hk, if_pos rfl]
  · rw [getD_set_ne' e, if_neg (fun h => e h.symm)]
theorem note_hd {h : Hp} {at_ : Int} (hl : at_.toNat < h.heads.length) (w : Wd) (j : Nat) : hdAt (noteF h at_ w) j = if j = at_.toNat ∧ grey h.y.end_ at_ w then setK (hdAt h j) true else hdAt h j := by
  by_cases hk : knowP h at_ w
  · rw [note_yes hk]
    split
    · rename_i e
      rcases (knowP_iff h at_ w).1 hk with g | g
      · exact absurd e.2 g
      · rw [← e.1] at g; exact (setK_same g).symm
    · rfl
  · rw [note_no hk, hdAt_set]
    have g : grey h.y.end_ at_ w := by
      apply Classical.byContradiction; intro c
      exact hk ((knowP_iff h at_ w).2 (.inl c))
    by_cases e : j = at_.toNat
    · subst e; rw [if_pos ⟨rfl, hl⟩, if_pos ⟨rfl, g⟩]; rfl
    · rw [if_neg (fun h => e h.1), if_neg (fun h => e h.1)]
theorem notes_hd {at_ : Int} : ∀ (ws : List Wd) (h : Hp), at_.toNat < h.heads.length → ∀ j, hdAt (notesF h at_ ws) j = if j = at_.toNat ∧ ∃ w ∈ ws, grey h.y.end_ at_ w then setK (hdAt h j) true else hdAt h j
  | [], h, _, j => by rw [if_neg (fun ⟨_, w, hw, _⟩ => by cases hw)]; rfl
  | w :: ws, h, hl, j => by
    obtain ⟨a1, _, a3, _⟩ := note_len h at_ w
    have ih := notes_hd ws (noteF h at_ w) (by rw [a1]; exact hl) j
    have e : notesF h at_ (w :: ws) = notesF (noteF h at_ w) at_ ws := rfl
    rw [e, ih, a3, note_hd hl]
    by_cases ej : j = at_.toNat
    · by_cases g1 : grey h.y.end_ at_ w
      · by_cases g2 : ∃ w ∈ ws, grey h.y.end_ at_ w
        · rw [if_pos ⟨ej, g2⟩, if_pos ⟨ej, g1⟩, if_pos ⟨ej, w, List.mem_cons_self, g1⟩]; rfl
        · rw [if_neg (fun h => g2 h.2), if_pos ⟨ej, g1⟩, if_pos ⟨ej, w, List.mem_cons_self, g1⟩]
      · by_cases g2 : ∃ w ∈ ws, grey h.y.end_ at_ w
        · obtain ⟨v, hv, gv⟩ := g2
          rw [if_pos ⟨ej, v, hv, gv⟩, if_neg (fun h => g1 h.2), if_pos ⟨ej, v, List.mem_cons_of_mem _ hv, gv⟩]
        · rw [if_neg (fun h => g2 h.2), if_neg (fun h => g1 h.2), if_neg]
          rintro ⟨_, v, hv, gv⟩
          rcases List.mem_cons.1 hv with rfl | hv
          · exact g1 gv
          · exact g2 ⟨v, hv, gv⟩
    · rw [if_neg (fun h => ej h.1), if_neg (fun h => ej h.1), if_neg (fun h => ej h.1)]
/-- who knows is remembered -/
def Kn (h : Hp) : Prop := ∀ k : Nat, (hdAt h k).knows = true → (k : Int) ∈ h.rem
theorem Kn.note {h : Hp} (hk : Kn h) {at_ : Int} (h0 : 0 ≤ at_) (hl : at_.toNat < h.heads.length) (w : Wd) : Kn (noteF h at_ w) := by
  intro k hkk
  by_cases hp : knowP h at_ w
  · rw [note_yes hp] at hkk ⊢; exact hk k hkk
  · rw [note_hd hl] at hkk
    rw [note_no hp]
    show (k : Int) ∈ h.rem ++ [at_]
    rw [List.mem_append]
    by_cases e : k = at_.toNat
    · right; rw [List.mem_singleton]; omega
    · rw [if_neg (fun h => e h.1)] at hkk
      exact .inl (hk k hkk)
theorem Kn.notes {at_ : Int} (h0 : 0 ≤ at_) : ∀ (ws : List Wd) {h : Hp}, Kn h → at_.toNat < h.heads.length → Kn (notesF h at_ ws)
  | [], _, hk, _ => hk
  | w :: ws, h, hk, hl => Kn.notes h0 ws (hk.note h0 hl w) (by rw [(note_len h at_ w).1]; exact hl)
theorem note_mem {h : Hp} {at_ x : Int} {w : Wd} (hx : x ∈ h.rem) : x ∈ (noteF h at_ w).rem := by
  unfold noteF; split
  · exact hx
  · exact List.mem_append_left _ hx
theorem putW_at {ws fs : List Wd} {k : Nat} (h : k + fs.length ≤ ws.length) (j : Nat) : (putW ws k fs).getD j wd0 = if k ≤ j ∧ j < k + fs.length then fs.getD (j - k) wd0 else ws.getD j wd0 := by
  unfold putW
  rw [List.getD_eq_getElem?_getD, List.getD_eq_getElem?_getD, List.getD_eq_getElem?_getD]
  by_cases h1 : j < k
  · rw [if_neg (by omega), List.append_assoc, List.getElem?_append_left (by rw [List.length_take]; omega), List.getElem?_take, if_pos h1]
  · by_cases h2 : j < k + fs.length
    · rw [if_pos ⟨by omega, h2⟩, List.getElem?_append_left (by rw [List.length_append, List.length_take]; omega), List.getElem?_append_right (by rw [List.length_take]; omega), List.length_take, show min k ws.length = k by omega]
    · rw [if_neg (by omega), List.getElem?_append_right (by rw [List.length_append, List.length_take]; omega), List.getElem?_drop, List.length_append, List.length_take]
      congr 2
      omega
/-- the place where the next object of a part is laid -/
def Hp.nx (h : Hp) (r : Nat) : Nat := (h.rg r).next.toNat
structure Sep (h : Hp) : Prop where
  wf : Wf h
  y0 : h.y.first = 0
  a0 : h.a.first = h.y.end_
  b0 : h.b.first = h.a.end_
  tk : ∀ k, (hdAt h k).kind ≠ 0 → 2 ≤ (hdAt h k).takes ∧ 0 ≤ (hdAt h k).fields ∧ (hdAt h k).fields + 1 ≤ (hdAt h k).takes
  oy : ∀ k : Nat, (hdAt h k).kind ≠ 0 → (k : Int) < h.y.end_ → k + (hdAt h k).takes ≤ h.y.next
  oa : ∀ k : Nat, (hdAt h k).kind ≠ 0 → h.y.end_ ≤ (k : Int) → (k : Int) < h.a.end_ → k + (hdAt h k).takes ≤ h.a.next
  ob : ∀ k : Nat, (hdAt h k).kind ≠ 0 → h.a.end_ ≤ (k : Int) → k + (hdAt h k).takes ≤ h.b.next
  ap : ∀ j k : Nat, j < k → (hdAt h j).kind ≠ 0 → (hdAt h k).kind ≠ 0 → j + (hdAt h j).takes ≤ k
theorem sep_new {y o : Int} (hb : ¬ newBad y o) : Sep (newH y o) := by
  have hk : ∀ k, (hdAt (newH y o) k).kind = 0 := fun k => by
    unfold hdAt newH
    simp only
    rw [List.getD_eq_getElem?_getD, List.getElem?_replicate]
    split <;> rfl
  exact ⟨wf_new hb, rfl, rfl, rfl, fun k h => absurd (hk k) h, fun k h => absurd (hk k) h, fun k h => absurd (hk k) h, fun k h => absurd (hk k) h, fun j k _ h => absurd (hk j) h⟩
section
variable {h : Hp} {r : Nat} {kind info : Int} {fs : List Wd}
/-- what is laid -/
def layF (h : Hp) (r : Nat) (kind info : Int) (fs : List Wd) : Hp := notesF (laidH h r kind info fs) (h.rg r).next fs
theorem Sep.cases (_ : Sep h) (hr : r ≤ 2) : (r = 0 ∧ (h.rg r).first = h.y.first ∧ (h.rg r).next = h.y.next ∧ (h.rg r).end_ = h.y.end_) ∨ (r = 1 ∧ (h.rg r).first = h.a.first ∧ (h.rg r).next = h.a.next ∧ (h.rg r).end_ = h.a.end_) ∨ (r = 2 ∧ (h.rg r).first = h.b.first ∧ (h.rg r).next = h.b.next ∧ (h.rg r).end_ = h.b.end_) := by
  rcases (by omega : r = 0 ∨ r = 1 ∨ r = 2) with rfl | rfl | rfl
  · exact .inl ⟨rfl, rfl, rfl, rfl⟩
  · exact .inr (.inl ⟨rfl, rfl, rfl, rfl⟩)
  · exact .inr (.inr ⟨rfl, rfl, rfl, rfl⟩)
theorem Sep.fit (hs : Sep h) (hr : r ≤ 2) (hfit : ¬ (h.rg r).end_ - (h.rg r).next < takesF fs) : ((h.nx r : Nat) : Int) = (h.rg r).next ∧ h.nx r + 1 + fs.length ≤ h.heads.length ∧
    (∀ k : Nat, (hdAt h k).kind ≠ 0 → k + (hdAt h k).takes ≤ h.nx r ∨ (h.nx r : Int) + takesF fs ≤ k) ∧ (hdAt h (h.nx r)).kind = 0 := by
  obtain ⟨r1, r2, r3, r4⟩ := hs.wf.rg r
  obtain ⟨t1, t2, t3⟩ := takes_ge fs
  obtain ⟨y1, y2, y3, y4⟩ := hs.wf.y
  obtain ⟨a1, a2, a3, a4⟩ := hs.wf.a
  obtain ⟨b1, b2, b3, b4⟩ := hs.wf.b
  have e : ((h.nx r : Nat) : Int) = (h.rg r).next := Int.toNat_of_nonneg (by omega)
  have hy0 := hs.y0
  have ha0 := hs.a0
  have hb0 := hs.b0
  have key : ∀ k : Nat, (hdAt h k).kind ≠ 0 → k + (hdAt h k).takes ≤ h.nx r ∨ (h.nx r : Int) + takesF fs ≤ k := by
    intro k hk
    have o1 := hs.oy k hk
    have o2 := hs.oa k hk
    have o3 := hs.ob k hk
    have o4 := hs.tk k hk
    rcases hs.cases hr with ⟨rfl, q1, q2, q3⟩ | ⟨rfl, q1, q2, q3⟩ | ⟨rfl, q1, q2, q3⟩
    · by_cases c : (k : Int) < h.y.end_
      · have := o1 c; left; omega
      · right; omega
    · by_cases c : (k : Int) < h.y.end_
      · have := o1 c; left; omega
      · by_cases d : (k : Int) < h.a.end_
        · have := o2 (by omega) d; left; omega
        · right; omega
    · by_cases c : (k : Int) < h.y.end_
      · have := o1 c; left; omega
      · by_cases d : (k : Int) < h.a.end_
        · have := o2 (by omega) d; left; omega
        · have := o3 (by omega); left; omega
  refine ⟨e, by omega, key, ?_⟩
  apply Classical.byContradiction
  intro hk
  have := key _ hk
  have := hs.tk _ hk
  omega
theorem lay_hd (hs : Sep h) (hr : r ≤ 2) (hfit : ¬ (h.rg r).end_ - (h.rg r).next < takesF fs) (j : Nat) :
    hdAt (layF h r kind info fs) j = if j = h.nx r then ⟨kind, info, fs.length, takesF fs, decide (∃ w ∈ fs, grey h.y.end_ (h.rg r).next w)⟩ else hdAt h j := by
  obtain ⟨e, hl, _⟩ := hs.fit hr hfit
  have hl2 : (laidH h r kind info fs).heads.length = h.heads.length := (laid_len h r kind info fs).1
  have hy : (laidH h r kind info fs).y.end_ = h.y.end_ := by
    show (if r = 0 then h.y.to _ else h.y).end_ = _
    split <;> rfl
  have hL : hdAt (laidH h r kind info fs) j = if j = h.nx r then ⟨kind, info, fs.length, takesF fs, false⟩ else hdAt h j := by
    rw [laid_head]
    have e2 : (h.rg r).next.toNat = h.nx r := rfl
    rw [e2]
    by_cases ej : j = h.nx r
    · rw [if_pos ej, if_pos ⟨ej, by omega⟩]
    · rw [if_neg ej, if_neg (fun h => ej h.1)]
  have hlt : (h.rg r).next.toNat < (laidH h r kind info fs).heads.length := by rw [hl2]; show h.nx r < _; omega
  unfold layF
  rw [notes_hd fs _ hlt, hy, hL]
  have e2 : (h.rg r).next.toNat = h.nx r := rfl
  rw [e2]
  by_cases ej : j = h.nx r
  · rw [if_pos ej, if_pos ej]
    by_cases g : ∃ w ∈ fs, grey h.y.end_ (h.rg r).next w
    · rw [if_pos ⟨ej, g⟩, decide_eq_true g]; rfl
    · rw [if_neg (fun h => g h.2), decide_eq_false g]
  · rw [if_neg (fun h => ej h.1), if_neg ej, if_neg ej]
theorem lay_wd (hs : Sep h) (hr : r ≤ 2) (hfit : ¬ (h.rg r).end_ - (h.rg r).next < takesF fs) (j : Nat) :
    wdAt (layF h r kind info fs) j = if h.nx r + 1 ≤ j ∧ j < h.nx r + 1 + fs.length then fs.getD (j - (h.nx r + 1)) wd0 else wdAt h j := by
  obtain ⟨e, hl, _⟩ := hs.fit hr hfit
  have e1 : (layF h r kind info fs).words = putW h.words (h.nx r + 1) fs := (notes_len _ fs _).2.1
  unfold wdAt
  rw [e1, putW_at (by rw [hs.wf.len]; omega)]
theorem lay_rg (h : Hp) (r : Nat) (kind info : Int) (fs : List Wd) : (layF h r kind info fs).heads.length = h.heads.length ∧ (layF h r kind info fs).use = h.use ∧ (layF h r kind info fs).y = (if r = 0 then h.y.to ((h.rg r).next + takesF fs) else h.y) ∧ (layF h r kind info fs).a = (if r = 1 then h.a.to ((h.rg r).next + takesF fs) else h.a) ∧ (layF h r kind info fs).b = (if 2 ≤ r then h.b.to ((h.rg r).next + takesF fs) else h.b) := by
  obtain ⟨a1, a2, a3, a4, a5, a6, a7⟩ := notes_len (h.rg r).next fs (laidH h r kind info fs)
  exact ⟨a1.trans (laid_len h r kind info fs).1, a6, a3, a4, a5⟩
theorem Sep.lay (hs : Sep h) (hr : r ≤ 2) (hfit : ¬ (h.rg r).end_ - (h.rg r).next < takesF fs) : Sep (layF h r kind info fs) := by
  obtain ⟨e, hl, hp, _⟩ := hs.fit hr hfit
  obtain ⟨t1, t2, t3⟩ := takes_ge fs
  obtain ⟨y1, y2, y3, y4⟩ := hs.wf.y
  obtain ⟨a1, a2, a3, a4⟩ := hs.wf.a
  obtain ⟨b1, b2, b3, b4⟩ := hs.wf.b
  have hy0 := hs.y0
  have ha0 := hs.a0
  have hb0 := hs.b0
  obtain ⟨g1, g2, g3, g4, g5⟩ := lay_rg h r kind info fs
  have hd := fun j => lay_hd (kind := kind) (info := info) hs hr hfit j
  have wf : Wf (layF h r kind info fs) := by
    have hl2 : (laidH h r kind info fs).heads.length = h.heads.length := (laid_len h r kind info fs).1
    exact Wf.notes fs (hs.wf.laid hr hfit) (by omega) (by rw [hl2]; omega)
  have fy : (layF h r kind info fs).y.first = h.y.first ∧ (layF h r kind info fs).y.end_ = h.y.end_ ∧ (layF h r kind info fs).y.next = (if r = 0 then (h.nx r : Int) + takesF fs else h.y.next) := by
    rw [g3]; split
    · exact ⟨rfl, rfl, by rw [e]; rfl⟩
    · exact ⟨rfl, rfl, rfl⟩
  have fa : (layF h r kind info fs).a.first = h.a.first ∧ (layF h r kind info fs).a.end_ = h.a.end_ ∧ (layF h r kind info fs).a.next = (if r = 1 then (h.nx r : Int) + takesF fs else h.a.next) := by
    rw [g4]; split
    · exact ⟨rfl, rfl, by rw [e]; rfl⟩
    · exact ⟨rfl, rfl, rfl⟩
  have fb : (layF h r kind info fs).b.first = h.b.first ∧ (layF h r kind info fs).b.next = (if 2 ≤ r then (h.nx r : Int) + takesF fs else h.b.next) := by
    rw [g5]; split
    · exact ⟨rfl, by rw [e]; rfl⟩
    · exact ⟨rfl, rfl⟩
  have cs : (r = 0 ∧ h.rg r = h.y) ∨ (r = 1 ∧ h.rg r = h.a) ∨ (r = 2 ∧ h.rg r = h.b) := by
    rcases (by omega : r = 0 ∨ r = 1 ∨ r = 2) with rfl | rfl | rfl
    · exact .inl ⟨rfl, rfl⟩
    · exact .inr (.inl ⟨rfl, rfl⟩)
    · exact .inr (.inr ⟨rfl, rfl⟩)
  have hq : ∀ k : Nat, (hdAt (layF h r kind info fs) k).kind ≠ 0 → (k = h.nx r ∧ (hdAt (layF h r kind info fs) k).takes = takesF fs ∧ (hdAt (layF h r kind info fs) k).fields = fs.length) ∨ (hdAt (layF h r kind info fs) k = hdAt h k ∧ (hdAt h k).kind ≠ 0 ∧ k ≠ h.nx r) := fun k hk => by
    rw [hd k] at hk ⊢
    by_cases ek : k = h.nx r
    · left; rw [if_pos ek]; exact ⟨ek, rfl, rfl⟩
    · right; rw [if_neg ek] at hk ⊢; exact ⟨rfl, hk, ek⟩
  refine ⟨wf, by rw [fy.1]; exact hy0, by rw [fa.1, fy.2.1]; exact ha0, by rw [fb.1, fa.2.1]; exact hb0, fun k hk => ?_, fun k hk hlt => ?_, fun k hk hge hlt => ?_, fun k hk hge => ?_, fun j k hjk hj hk => ?_⟩
  · rcases hq k hk with ⟨_, e1, e2⟩ | ⟨e1, e2, _⟩
    · rw [e1, e2]; omega
    · rw [e1]; exact hs.tk k e2
  · rw [fy.2.1] at hlt
    rw [fy.2.2]
    rcases hq k hk with ⟨e0, e1, e2⟩ | ⟨e1, e2, e3⟩
    · rw [e1, e0]
      rcases cs with ⟨c, c2⟩ | ⟨c, c2⟩ | ⟨c, c2⟩
      · rw [if_pos c]; omega
      · rw [c2] at e; omega
      · rw [c2] at e; omega
    · rw [e1]
      have := hs.oy k e2 hlt
      rcases cs with ⟨c, c2⟩ | ⟨c, c2⟩ | ⟨c, c2⟩
      · rw [if_pos c]; rw [c2] at e; omega
      · rw [if_neg (by omega)]; exact this
      · rw [if_neg (by omega)]; exact this
  · rw [fy.2.1] at hge
    rw [fa.2.1] at hlt
    rw [fa.2.2]
    rcases hq k hk with ⟨e0, e1, e2⟩ | ⟨e1, e2, e3⟩
    · rw [e1, e0]
      rcases cs with ⟨c, c2⟩ | ⟨c, c2⟩ | ⟨c, c2⟩
      · rw [c2] at hfit e; omega
      · rw [if_pos c]; omega
      · rw [c2] at e; omega
    · rw [e1]
      have := hs.oa k e2 hge hlt
      rcases cs with ⟨c, c2⟩ | ⟨c, c2⟩ | ⟨c, c2⟩
      · rw [if_neg (by omega)]; exact this
      · rw [if_pos c]; rw [c2] at e; omega
      · rw [if_neg (by omega)]; exact this
  · rw [fa.2.1] at hge
    rw [fb.2]
    rcases hq k hk with ⟨e0, e1, e2⟩ | ⟨e1, e2, e3⟩
    · rw [e1, e0]
      rcases cs with ⟨c, c2⟩ | ⟨c, c2⟩ | ⟨c, c2⟩
      · rw [c2] at hfit e; omega
      · rw [c2] at hfit e; omega
      · rw [if_pos (by omega)]; omega
    · rw [e1]
      have := hs.ob k e2 hge
      rcases cs with ⟨c, c2⟩ | ⟨c, c2⟩ | ⟨c, c2⟩
      · rw [if_neg (by omega)]; exact this
      · rw [if_neg (by omega)]; exact this
      · rw [if_pos (by omega)]; rw [c2] at e; omega
  · rcases hq j hj with ⟨e0, e1, e2⟩ | ⟨e1, e2, e3⟩ <;> rcases hq k hk with ⟨f0, f1, f2⟩ | ⟨f1, f2, f3⟩
    · omega
    · rw [e1]
      have := hp k f2
      have := hs.tk k f2
      omega
    · rw [e1]
      have := hp j e2
      have := hs.tk j e2
      omega
    · rw [e1]; exact hs.ap j k hjk e2 f2
/-- one word is turned -/
theorem Sep.word (hs : Sep h) (m : Nat) (w : Wd) : Sep ⟨h.words.set m w, h.heads, h.y, h.a, h.b, h.use, h.rem⟩ :=
  ⟨hs.wf.words _ (List.length_set ..), hs.y0, hs.a0, hs.b0, hs.tk, hs.oy, hs.oa, hs.ob, hs.ap⟩
/-- heads turn, but for where and how many words -/
theorem Sep.same {h' : Hp} (hs : Sep h) (hw : Wf h') (hy : h'.y = h.y) (ha : h'.a = h.a) (hb : h'.b = h.b) (hd : ∀ k, ((hdAt h' k).kind ≠ 0 → (hdAt h k).kind ≠ 0) ∧ (hdAt h' k).takes = (hdAt h k).takes ∧ ((hdAt h k).kind ≠ 0 → 0 ≤ (hdAt h' k).fields ∧ (hdAt h' k).fields + 1 ≤ (hdAt h' k).takes)) : Sep h' := by
  refine ⟨hw, by rw [hy]; exact hs.y0, by rw [ha, hy]; exact hs.a0, by rw [hb, ha]; exact hs.b0, fun k hk => ?_, fun k hk => ?_, fun k hk => ?_, fun k hk => ?_, fun j k hjk hj hk => ?_⟩
  · obtain ⟨d1, d2, d3⟩ := hd k
    have := hs.tk k (d1 hk)
    have := d3 (d1 hk)
    omega
  · obtain ⟨d1, d2, _⟩ := hd k
    rw [hy, d2]; exact hs.oy k (d1 hk)
  · obtain ⟨d1, d2, _⟩ := hd k
    rw [hy, ha, d2]; exact hs.oa k (d1 hk)
  · obtain ⟨d1, d2, _⟩ := hd k
    rw [ha, hb, d2]; exact hs.ob k (d1 hk)
  · rw [(hd j).2.1]
    exact hs.ap j k hjk ((hd j).1 hj) ((hd k).1 hk)
theorem Sep.note (hs : Sep h) {at_ : Int} (h0 : 0 ≤ at_) (h1 : at_ < h.heads.length) (w : Wd) : Sep (noteF h at_ w) := by
  obtain ⟨a1, a2, a3, a4, a5, a6, _⟩ := note_len h at_ w
  refine hs.same (hs.wf.note h0 h1 w) a3 a4 a5 fun k => ?_
  obtain ⟨e1, e2, e3, e4⟩ := note_at h at_ w k
  refine ⟨fun hk => by rw [← e1]; exact hk, e4, fun hk => ?_⟩
  rw [e2, e4]
  have := hs.tk k hk
  omega
end
end Go.Proofs.Ytglienidnffnjaa
namespace Go.Proofs.Ytglienidnffnjaa
open Go
structure RI (h : Hp) : Prop where
  sep : Sep h
  kn : Kn h
  mem : ∀ k : Nat, (hdAt h k).kind ≠ 0 → ∀ j : Nat, (j : Int) < (hdAt h k).fields → grey h.y.end_ k (wdAt h (k + 1 + j)) → (hdAt h k).knows = true
def Mono (h h' : Hp) : Prop := ∀ k, (hdAt h k).kind ≠ 0 → (hdAt h' k).kind ≠ 0
theorem Mono.refl (h : Hp) : Mono h h := fun _ h => h
def Alive (h : Hp) (all : List Int) : Prop := ∀ a ∈ all, headAt h.heads a ≠ none
theorem Alive.mono {h h' : Hp} {all : List Int} (ha : Alive h all) (hm : Mono h h') : Alive h' all := fun a hx => by
  obtain ⟨k, _, rfl, _, h4⟩ := head_ne (ha a hx)
  rw [headAt_of (hm k h4)]
  simp
theorem ri_new {y o : Int} (hb : ¬ newBad y o) : RI (newH y o) := by
  have hk : ∀ k, hdAt (newH y o) k = hd0 := fun k => by
    unfold hdAt newH
    simp only
    rw [List.getD_eq_getElem?_getD, List.getElem?_replicate]
    split <;> rfl
  exact ⟨sep_new hb, fun k h => (by rw [hk] at h; cases h), fun k h => absurd (by rw [hk]; rfl) h⟩
section
variable {h : Hp}
theorem RI.layF (c : RI h) {r : Nat} {kind info : Int} {fs : List Wd} (hr : r ≤ 2) (hb : ¬ argsBad kind info fs) (hfit : ¬ (h.rg r).end_ - (h.rg r).next < takesF fs) : RI (layF h r kind info fs) ∧ Mono h (layF h r kind info fs) ∧ headAt (layF h r kind info fs).heads (h.rg r).next ≠ none := by
  obtain ⟨e, hl, hp, h0⟩ := c.sep.fit hr hfit
  obtain ⟨t1, t2, t3⟩ := takes_ge fs
  obtain ⟨g1, g2, g3, g4, g5⟩ := lay_rg h r kind info fs
  have hd := fun j => lay_hd (kind := kind) (info := info) c.sep hr hfit j
  have hwd := fun j => lay_wd (kind := kind) (info := info) c.sep hr hfit j
  have hye : (Go.Proofs.Ytglienidnffnjaa.layF h r kind info fs).y.end_ = h.y.end_ := by rw [g3]; split <;> rfl
  have hk0 : kind ≠ 0 := by unfold argsBad at hb; omega
  have hm : Mono h (Go.Proofs.Ytglienidnffnjaa.layF h r kind info fs) := fun k hk => by
    rw [hd]
    by_cases ek : k = h.nx r
    · rw [if_pos ek]; exact hk0
    · rw [if_neg ek]; exact hk
  refine ⟨⟨c.sep.lay hr hfit, ?_, fun k hk j hj hg => ?_⟩, hm, ?_⟩
  · have hl2 : (laidH h r kind info fs).heads.length = h.heads.length := (laid_len h r kind info fs).1
    refine Kn.notes (by omega) fs (fun k hk => ?_) (by rw [hl2]; show h.nx r < _; omega)
    rw [laid_head] at hk
    split at hk
    · cases hk
    · exact c.kn k hk
  · rw [hye] at hg
    rw [hwd] at hg
    rw [hd] at hk hj ⊢
    by_cases ek : k = h.nx r
    · rw [if_pos ek] at hj ⊢
      simp only at hj
      rw [if_pos ⟨by omega, by omega⟩, show k + 1 + j - (h.nx r + 1) = j by omega] at hg
      refine decide_eq_true ⟨fs.getD j wd0, ?_, by rw [← e, ← ek]; exact hg⟩
      rw [List.getD_eq_getElem?_getD, List.getElem?_eq_getElem (by omega)]
      exact List.getElem_mem _
    · rw [if_neg ek] at hk hj ⊢
      have := hp k hk
      have := c.sep.tk k hk
      rw [if_neg (by omega)] at hg
      exact c.mem k hk j hj hg
  · have : (hdAt (Go.Proofs.Ytglienidnffnjaa.layF h r kind info fs) (h.nx r)).kind ≠ 0 := by rw [hd, if_pos rfl]; exact hk0
    rw [← e, headAt_of this]
    simp
theorem RI.lay (c : RI h) {r : Nat} {kind info : Int} {fs : List Wd} (hr : r ≤ 2) {x : Int × Int} {h' : Hp} (hl : layH h r kind info fs = (x, h')) : RI h' ∧ Mono h h' ∧ (x.2 = 0 → headAt h'.heads x.1 ≠ none) := by
  by_cases h1 : argsBad kind info fs
  · rw [lay_1 h1] at hl; obtain ⟨rfl, rfl⟩ := Prod.mk.inj hl; exact ⟨c, Mono.refl h, fun h => by cases h⟩
  · by_cases h2 : realF h.heads fs = true
    · by_cases h3 : (h.rg r).end_ - (h.rg r).next < takesF fs
      · rw [lay_3 h1 (by simp [h2]) h3] at hl; obtain ⟨rfl, rfl⟩ := Prod.mk.inj hl; exact ⟨c, Mono.refl h, fun h => by cases h⟩
      · rw [lay_4 h1 (by simp [h2]) h3] at hl
        obtain ⟨rfl, rfl⟩ := Prod.mk.inj hl
        obtain ⟨d1, d2, d3⟩ := c.layF hr h1 h3
        exact ⟨d1, d2, fun _ => d3⟩
    · rw [lay_2 h1 h2] at hl; obtain ⟨rfl, rfl⟩ := Prod.mk.inj hl; exact ⟨c, Mono.refl h, fun h => by cases h⟩
/-- an object's head turns, and one of its words -/
def putH (h : Hp) (k : Nat) (x : Hd) (m : Nat) (w : Wd) : Hp := noteF ⟨h.words.set m w, h.heads.set k x, h.y, h.a, h.b, h.use, h.rem⟩ k w
theorem put_hd {k : Nat} (hkl : k < h.heads.length) (x : Hd) (m : Nat) (w : Wd) (j : Nat) : hdAt (putH h k x m w) j = if j = k then (if grey h.y.end_ k w then setK x true else x) else hdAt h j := by
  unfold putH
  have e : ((k : Int)).toNat = k := by omega
  have h1 : hdAt ⟨h.words.set m w, h.heads.set k x, h.y, h.a, h.b, h.use, h.rem⟩ j = if j = k then x else hdAt h j := by
    rw [hdAt_set]
    by_cases ej : j = k
    · rw [if_pos ⟨ej, hkl⟩, if_pos ej]
    · rw [if_neg (fun h => ej h.1), if_neg ej]
  rw [note_hd (by show (k : Int).toNat < (h.heads.set k x).length; rw [List.length_set]; omega), h1, e]
  show (if j = k ∧ grey h.y.end_ k w then _ else _) = _
  by_cases ej : j = k
  · rw [if_pos ej, if_pos ej]
    by_cases g : grey h.y.end_ k w
    · rw [if_pos ⟨ej, g⟩, if_pos g]
    · rw [if_neg (fun h => g h.2), if_neg g]
  · rw [if_neg (fun h => ej h.1), if_neg ej, if_neg ej]
theorem putWd {k : Nat} (x : Hd) {m : Nat} (hm : m < h.words.length) (w : Wd) (j : Nat) : wdAt (putH h k x m w) j = if j = m then w else wdAt h j := by
  unfold putH wdAt
  rw [(note_len _ _ _).2.1]
  exact wdAt_set _ _ _ _ hm
theorem Sep.put (c : Sep h) {k : Nat} (hk : (hdAt h k).kind ≠ 0) {x : Hd} (ht : x.takes = (hdAt h k).takes) (hf : 0 ≤ x.fields ∧ x.fields + 1 ≤ x.takes) {m : Nat} (hm : m < h.words.length) (w : Wd) : Sep (putH h k x m w) := by
  obtain ⟨k', hkl⟩ := head_ne (by rw [headAt_of hk]; simp : headAt h.heads (k : Int) ≠ none)
  have hkl : k < h.heads.length := by omega
  have ho := c.wf.obj k hk
  have hle : (k : Int) + (hdAt h k).takes ≤ h.heads.length := by
    have o1 := c.oy k hk
    have o2 := c.oa k hk
    have o3 := c.ob k hk
    obtain ⟨_, _, y3, y4⟩ := c.wf.y
    obtain ⟨_, _, a3, a4⟩ := c.wf.a
    obtain ⟨_, _, b3, b4⟩ := c.wf.b
    by_cases d : (k : Int) < h.y.end_
    · have := o1 d; omega
    · by_cases d2 : (k : Int) < h.a.end_
      · have := o2 (by omega) d2; omega
      · have := o3 (by omega); omega
  have w1 : Wf ⟨h.words.set m w, h.heads.set k x, h.y, h.a, h.b, h.use, h.rem⟩ := c.wf.turn hkl _ (List.length_set ..) x ⟨hf.1, by omega, by omega⟩
  have w2 : Wf (putH h k x m w) := w1.note (by omega) (by show (k : Int) < (h.heads.set k x).length; rw [List.length_set]; omega) w
  obtain ⟨a1, a2, a3, a4, a5, a6, _⟩ := note_len ⟨h.words.set m w, h.heads.set k x, h.y, h.a, h.b, h.use, h.rem⟩ k w
  refine c.same w2 a3 a4 a5 fun j => ?_
  rw [put_hd hkl]
  by_cases ej : j = k
  · subst ej
    rw [if_pos rfl]
    split
    · exact ⟨fun _ => hk, ht, fun _ => hf⟩
    · exact ⟨fun _ => hk, ht, fun _ => hf⟩
  · rw [if_neg ej]
    refine ⟨fun h => h, rfl, fun hj => ?_⟩
    have := c.tk j hj
    omega
theorem RI.put (c : RI h) {k : Nat} (hk : (hdAt h k).kind ≠ 0) {x : Hd} (hx : x.kind ≠ 0) (ht : x.takes = (hdAt h k).takes) (hn : x.knows = (hdAt h k).knows) (hf : 0 ≤ x.fields ∧ x.fields + 1 ≤ x.takes) {m : Nat} (hm : k + 1 ≤ m ∧ (m : Int) < k + (hdAt h k).takes) (hmw : m < h.words.length) (w : Wd)
    (hj : ∀ j : Nat, (j : Int) < x.fields → k + 1 + j = m ∨ (j : Int) < (hdAt h k).fields) : RI (putH h k x m w) ∧ Mono h (putH h k x m w) := by
  obtain ⟨k', hkl⟩ := head_ne (by rw [headAt_of hk]; simp : headAt h.heads (k : Int) ≠ none)
  have hkl : k < h.heads.length := by omega
  obtain ⟨a1, a2, a3, a4, a5, a6, _⟩ := note_len ⟨h.words.set m w, h.heads.set k x, h.y, h.a, h.b, h.use, h.rem⟩ k w
  have hye : (putH h k x m w).y.end_ = h.y.end_ := by show (noteF _ _ _).y.end_ = _; rw [a3]
  have hd := put_hd (h := h) hkl x m w
  refine ⟨⟨c.sep.put hk ht hf hmw w, ?_, fun i hi j hij hg => ?_⟩, fun i hi => ?_⟩
  · refine Kn.note (fun i hi => ?_) (by omega) (by show (k : Int).toNat < (h.heads.set k x).length; rw [List.length_set]; omega) w
    rw [hdAt_set] at hi
    split at hi
    · rename_i e; rw [e.1]; exact c.kn k (by rw [← hn]; exact hi)
    · exact c.kn i hi
  · rw [hye, putWd x hmw] at hg
    rw [hd] at hi hij ⊢
    have tk := c.sep.tk k hk
    by_cases ei : i = k
    · subst ei
      rw [if_pos rfl] at hij ⊢
      have hij' : (j : Int) < x.fields := by split at hij <;> exact hij
      by_cases em : i + 1 + j = m
      · rw [if_pos em] at hg; rw [if_pos hg]; rfl
      · rw [if_neg em] at hg
        have := c.mem i hk j (by rcases hj j hij' with e | e; exact absurd e em; exact e) hg
        split
        · rfl
        · rw [hn]; exact this
    · rw [if_neg ei] at hi hij ⊢
      have tki := c.sep.tk i hi
      have hne : ¬ i + 1 + j = m := by
        intro e
        rcases Nat.lt_or_ge i k with hlt | hge
        · have := c.sep.ap i k hlt hi hk; omega
        · have := c.sep.ap k i (by omega) hk hi; omega
      rw [if_neg hne] at hg
      exact c.mem i hi j hij hg
  · rw [hd]
    by_cases ei : i = k
    · rw [if_pos ei]; split <;> exact hx
    · rw [if_neg ei]; exact hi
theorem set_put {at_ field : Int} {k : Nat} {w : Wd} (hf0 : 0 ≤ field) (e : at_ = k) : noteF ⟨h.words.set (at_ + 1 + field).toNat w, h.heads, h.y, h.a, h.b, h.use, h.rem⟩ at_ w = putH h k (hdAt h k) (k + 1 + field.toNat) w := by
  subst e
  have e1 : h.heads.set k (hdAt h k) = h.heads := by
    unfold hdAt
    by_cases hl : k < h.heads.length
    · apply List.ext_getElem?
      intro i
      rw [List.getElem?_set]
      split
      · rename_i e; subst e; simp [hl]
      · rfl
    · rw [List.set_eq_of_length_le (by omega)]
  unfold putH
  rw [e1, show ((k : Int) + 1 + field).toNat = k + 1 + field.toNat by omega]
theorem RI.set (c : RI h) {at_ field : Int} {w : Wd} {e : Int} {h' : Hp} (hl : setH h at_ field w = (e, h')) : RI h' ∧ Mono h h' := by
  unfold setH at hl
  split at hl
  · obtain ⟨_, rfl⟩ := Prod.mk.inj hl; exact ⟨c, Mono.refl h⟩
  · rename_i k hk
    obtain ⟨rfl, hkl, hkk⟩ := head_some hk
    split at hl
    · obtain ⟨_, rfl⟩ := Prod.mk.inj hl; exact ⟨c, Mono.refl h⟩
    · rename_i hn
      obtain ⟨_, rfl⟩ := Prod.mk.inj hl
      have g1 := (not_or.1 hn).1
      have hkk : (hdAt h k).kind ≠ 0 := hkk
      have tk := c.sep.tk k hkk
      have ho := c.sep.wf.obj k hkk
      rw [set_put (by omega) rfl]
      exact c.put hkk hkk rfl rfl ⟨tk.2.1, tk.2.2⟩ ⟨by omega, by omega⟩ (by rw [c.sep.wf.len]; omega) w (fun j hj => .inr hj)
theorem RI.link (c : RI h) {at_ : Int} {w : Wd} {e : Int} {h' : Hp} (hl : linkH h at_ w = (e, h')) : RI h' ∧ Mono h h' := by
  unfold linkH at hl
  split at hl
  · obtain ⟨_, rfl⟩ := Prod.mk.inj hl; exact ⟨c, Mono.refl h⟩
  · rename_i k hk
    obtain ⟨rfl, hkl, hkk⟩ := head_some hk
    split at hl
    · obtain ⟨_, rfl⟩ := Prod.mk.inj hl; exact ⟨c, Mono.refl h⟩
    · split at hl
      · obtain ⟨_, rfl⟩ := Prod.mk.inj hl; exact ⟨c, Mono.refl h⟩
      · obtain ⟨_, rfl⟩ := Prod.mk.inj hl
        have hkk : (hdAt h k).kind ≠ 0 := hkk
        have tk := c.sep.tk k hkk
        have ho := c.sep.wf.obj k hkk
        have := c.put (x := ⟨5, 0, 1, (hdAt h k).takes, (hdAt h k).knows⟩) (m := k + 1) hkk (show (5 : Int) ≠ 0 by decide) rfl rfl ⟨(show (0 : Int) ≤ 1 by decide), by show (1 : Int) + 1 ≤ _; exact tk.1⟩ ⟨by omega, by omega⟩ (by rw [c.sep.wf.len]; omega) w (fun j hj => .inl (by have : (j : Int) < 1 := hj; omega))
        unfold putH at this
        rw [show ((k : Int) + 1).toNat = k + 1 by omega]
        exact this
/-- heads alone, but for kinds -/
theorem RI.head (c : RI h) {k : Nat} (hk : (hdAt h k).kind ≠ 0) {x : Hd} (hx : x.kind ≠ 0) (ht : x.takes = (hdAt h k).takes) (hn : x.knows = (hdAt h k).knows) (hf : x.fields = (hdAt h k).fields) : RI ⟨h.words, h.heads.set k x, h.y, h.a, h.b, h.use, h.rem⟩ ∧ Mono h ⟨h.words, h.heads.set k x, h.y, h.a, h.b, h.use, h.rem⟩ := by
  obtain ⟨k', hkl⟩ := head_ne (by rw [headAt_of hk]; simp : headAt h.heads (k : Int) ≠ none)
  have hkl : k < h.heads.length := by omega
  have hd : ∀ j, hdAt ⟨h.words, h.heads.set k x, h.y, h.a, h.b, h.use, h.rem⟩ j = if j = k then x else hdAt h j := fun j => by
    rw [hdAt_set]
    by_cases e : j = k
    · rw [if_pos ⟨e, hkl⟩, if_pos e]
    · rw [if_neg (fun h => e h.1), if_neg e]
  have ho := c.sep.wf.obj k hk
  have tk := c.sep.tk k hk
  refine ⟨⟨c.sep.same (c.sep.wf.turn hkl _ rfl x (by rw [hf]; exact ho)) rfl rfl rfl fun j => ?_, fun j hj => ?_, fun i hi j hij hg => ?_⟩, fun i hi => ?_⟩
  · rw [hd]
    by_cases e : j = k
    · rw [if_pos e, e]; exact ⟨fun _ => hk, ht, fun _ => by rw [hf, ht]; omega⟩
    · rw [if_neg e]
      refine ⟨fun h => h, rfl, fun hj => ?_⟩
      have := c.sep.tk j hj
      omega
  · rw [hd] at hj
    by_cases e : j = k
    · rw [if_pos e, hn] at hj; rw [e]; exact c.kn k hj
    · rw [if_neg e] at hj; exact c.kn j hj
  · rw [hd] at hi hij ⊢
    by_cases e : i = k
    · rw [if_pos e] at hij ⊢
      rw [hn]; rw [hf] at hij
      subst e
      exact c.mem i hk j hij hg
    · rw [if_neg e] at hi hij ⊢
      exact c.mem i hi j hij hg
  · rw [hd]
    by_cases e : i = k
    · rw [if_pos e]; exact hx
    · rw [if_neg e]; exact hi
theorem RI.hole (c : RI h) {at_ : Int} {e : Int} {h' : Hp} (hl : holeH h at_ = (e, h')) : RI h' ∧ Mono h h' := by
  unfold holeH at hl
  split at hl
  · obtain ⟨_, rfl⟩ := Prod.mk.inj hl; exact ⟨c, Mono.refl h⟩
  · rename_i k hk
    obtain ⟨rfl, hkl, hkk⟩ := head_some hk
    split at hl
    · obtain ⟨_, rfl⟩ := Prod.mk.inj hl; exact ⟨c, Mono.refl h⟩
    · obtain ⟨_, rfl⟩ := Prod.mk.inj hl
      exact c.head hkk (by show (6 : Int) ≠ 0; decide) rfl rfl rfl
theorem RI.flip (c : RI h) : RI (flipH h) ∧ Mono h (flipH h) :=
  ⟨⟨⟨c.sep.wf.flip, c.sep.y0, c.sep.a0, c.sep.b0, c.sep.tk, c.sep.oy, c.sep.oa, c.sep.ob, c.sep.ap⟩, c.kn, c.mem⟩, fun _ h => h⟩
/-- THE STAGE's THEOREM, plain. -/
theorem RI.law (c : RI h) {a : Int} (ha : headAt h.heads a ≠ none) (hy : ¬ youngH h a) : (objH h a).2 = 0 ∧ ∀ f ∈ (objH h a).1.fields, f.ptr = true → youngH h f.n → a ∈ h.rem := by
  obtain ⟨k, hk, rfl, hkl, hkk⟩ := head_ne ha
  have hge : h.y.end_ ≤ (k : Int) := by
    apply Classical.byContradiction
    intro hn
    exact hy ⟨by omega, ha⟩
  rw [obj_2 hk]
  refine ⟨rfl, fun f hf hp hfy => ?_⟩
  obtain ⟨j, hj⟩ := List.getElem?_of_mem hf
  simp only at hj
  rw [List.getElem?_take] at hj
  split at hj
  · rename_i hlt
    rw [List.getElem?_drop] at hj
    have e : wdAt h (k + 1 + j) = f := by unfold wdAt; rw [List.getD_eq_getElem?_getD, hj]; rfl
    have hjl : (j : Int) < (hdAt h k).fields := by unfold hdAt; omega
    exact c.kn k (c.mem k hkk j hjl (by rw [e]; exact ⟨hge, hp, hfy.1⟩))
  · cases hj
end
end Go.Proofs.Ytglienidnffnjaa
