/- PLAIN: a row of links, and what chasing comes to. -/
import Derived.Test.YtglienidnffnjaaPl8
namespace Go.Proofs.Ytglienidnffnjaa
open Go
def Row (h : Hp) (first : Wd) : Nat → Wd → Prop
  | 0, w => w = first
  | i + 1, w => w = ⟨true, ((2 * i : Nat) : Int)⟩ ∧ (hdAt h (2 * i)).kind = 5 ∧ Row h first i (h.words.getD (2 * i + 1) wd0)
theorem headAt_of {hs : List Hd} {k : Nat} (h : (hs.getD k hd0).kind ≠ 0) : headAt hs (k : Int) = some k := by
  have hl : k < hs.length := by
    rcases Nat.lt_or_ge k hs.length with h1 | h1
    · exact h1
    · rw [getD_out h1] at h; exact absurd rfl h
  unfold headAt
  rw [if_neg]
  · simp
  · rintro ((h1 | h1) | h1)
    · omega
    · omega
    · exact h (by simpa using h1)
theorem row_chase {h : Hp} {first : Wd} (hp : first.ptr = false) : ∀ (i : Nat) (w : Wd) (f : Nat) (met : List Int), Row h first i w → (∀ m ∈ met, (2 * i : Int) ≤ m) → i < f → chaseG h f w met = first
  | 0, w, f + 1, met, hr, _, _ => by
    have e : w = first := hr
    subst e
    exact chase_stop (fun hc => by have := hc.1.1.1; rw [hp] at this; cases this)
  | i + 1, w, f + 1, met, hr, hm, hf => by
    obtain ⟨rfl, hk, hr⟩ := hr
    have hd := headAt_of (hs := h.heads) (k := 2 * i) (by show (hdAt h (2 * i)).kind ≠ 0; rw [hk]; decide)
    rw [chase_go ⟨⟨⟨rfl, by rw [hd]; simp⟩, by show (hdAt h ((((2 * i : Nat) : Int))).toNat).kind = 5; rw [Int.toNat_natCast]; exact hk⟩, fun hc => by
      have := hm _ (List.contains_iff_mem.1 hc)
      simp only at this
      omega⟩]
    have e : ((((2 * i : Nat) : Int)) + 1).toNat = 2 * i + 1 := by omega
    show chaseG h f (h.words.getD ((((2 * i : Nat) : Int)) + 1).toNat wd0) _ = first
    rw [e]
    refine row_chase hp i _ f _ hr (fun m hm' => ?_) (by omega)
    rcases List.mem_append.1 hm' with h1 | h1
    · have := hm m h1; omega
    · rw [List.mem_singleton.1 h1]; simp
  | _ + 1, _, 0, _, _, _, hf => by omega
  | 0, _, 0, _, _, _, hf => by omega
theorem row_keep {h h' : Hp} {first : Wd} : ∀ (i : Nat) (w : Wd), (∀ k, k < 2 * i → hdAt h' k = hdAt h k ∧ h'.words.getD k wd0 = h.words.getD k wd0) → Row h first i w → Row h' first i w
  | 0, _, _, hr => hr
  | i + 1, w, hk, hr => by
    obtain ⟨e, h1, h2⟩ := hr
    refine ⟨e, by rw [(hk (2 * i) (by omega)).1]; exact h1, ?_⟩
    rw [(hk (2 * i + 1) (by omega)).2]
    exact row_keep i _ (fun k hk' => hk k (by omega)) h2
structure Ch (first : Wd) (i : Nat) (w : Wd) (h : Hp) : Prop where
  wf : Wf h
  y : h.y = ⟨0, ((2 * i : Nat) : Int), 1024⟩
  rem : h.rem = []
  len : h.heads.length = 1056
  row : Row h first i w
theorem ch_new (first : Wd) : Ch first 0 first (newH 1024 16) :=
  ⟨wf_new (show ¬ newBad 1024 16 by decide), rfl, rfl, by show (List.replicate _ hd0).length = _; rw [List.length_replicate]; rfl, rfl⟩
theorem putW_nil (ws : List Wd) (k : Nat) : putW ws k [] = ws := by simp [putW]
/-- a thunk laid behind the row -/
def chA (h : Hp) (i : Nat) (kind info : Int) : Hp := ⟨h.words, h.heads.set (2 * i) ⟨kind, info, 0, 2, false⟩, ⟨0, ((2 * i + 2 : Nat) : Int), 1024⟩, h.a, h.b, h.use, h.rem⟩
def chB (h : Hp) (i : Nat) (w : Wd) : Hp := ⟨h.words.set (2 * i + 1) w, h.heads.set (2 * i) ⟨5, 0, 1, 2, false⟩, ⟨0, ((2 * i + 2 : Nat) : Int), 1024⟩, h.a, h.b, h.use, h.rem⟩
section
variable {first : Wd} {i : Nat} {w : Wd} {h : Hp}
theorem Ch.lay (c : Ch first i w h) (hi : i ≤ 100) {kind info : Int} (hb : ¬ argsBad kind info []) : layH h 0 kind info [] = ((((2 * i : Nat) : Int), 0), chA h i kind info) := by
  have ht : takesF [] = 2 := rfl
  have hfit : ¬ (h.rg 0).end_ - (h.rg 0).next < takesF [] := by rw [ht]; show ¬ h.y.end_ - h.y.next < 2; rw [c.y]; show ¬ (1024 : Int) - ((2 * i : Nat) : Int) < 2; omega
  rw [lay_4 hb (by simp [realF]) hfit]
  have e1 : (h.rg 0).next = ((2 * i : Nat) : Int) := by show h.y.next = _; rw [c.y]
  rw [e1]
  refine congrArg (Prod.mk _) ?_
  show laidH h 0 kind info [] = _
  unfold laidH chA
  simp only [Hp.setN, e1, putW_nil, ht, Int.toNat_natCast, if_true]
  rw [c.y]
  congr 1
theorem Ch.wfA (c : Ch first i w h) (hi : i ≤ 100) {kind info : Int} (hb : ¬ argsBad kind info []) : Wf (chA h i kind info) := by
  have := c.wf.lay (k := 0) (by decide) kind info []
  rw [c.lay hi hb] at this
  exact this
theorem chA_at {j : Nat} (hl : h.heads.length = 1056) (hi : i ≤ 100) {kind info : Int} : hdAt (chA h i kind info) j = if j = 2 * i then ⟨kind, info, 0, 2, false⟩ else hdAt h j := by
  unfold hdAt chA
  simp only
  by_cases e : j = 2 * i
  · subst e; rw [if_pos rfl, getD_set_self (by omega)]
  · rw [if_neg e, getD_set_ne' (fun h => e h.symm)]
theorem Ch.link (c : Ch first i w h) (hi : i < 100) (hp : first.ptr = false) : linkH (chA h i 3 0) ((2 * i : Nat) : Int) w = (0, chB h i w) := by
  have hk : hdAt (chA h i 3 0) (2 * i) = ⟨3, 0, 0, 2, false⟩ := by rw [chA_at c.len (by omega), if_pos rfl]
  have hd : headAt (chA h i 3 0).heads ((2 * i : Nat) : Int) = some (2 * i) := headAt_of (by show (hdAt _ _).kind ≠ 0; rw [hk]; decide)
  have hnb : ¬ badW (chA h i 3 0).heads w := by
    rintro ⟨h1, h2⟩
    have hr := c.row
    cases i with
    | zero =>
      have e : w = first := hr
      subst e; rw [hp] at h1; cases h1
    | succ i =>
      obtain ⟨rfl, hk5, _⟩ := hr
      have := headAt_of (hs := (chA h (i + 1) 3 0).heads) (k := 2 * i) (by show (hdAt _ _).kind ≠ 0; rw [chA_at c.len (by omega), if_neg (by omega), hk5]; decide)
      rw [this] at h2; cases h2
  rw [link_4 hd hnb (by show ¬ (¬ (hdAt _ _).kind = 3 ∧ ¬ (hdAt _ _).kind = 6); rw [hk]; simp)]
  refine congrArg (Prod.mk _) ?_
  rw [note_yes (by left; left; left; show ((2 * i : Nat) : Int) < 1024; omega)]
  have hk' : (chA h i 3 0).heads.getD (2 * i) hd0 = ⟨3, 0, 0, 2, false⟩ := hk
  rw [hk']
  unfold chA chB
  simp only [List.set_set]
  congr 2
theorem Ch.next (c : Ch first i w h) (hi : i < 100) (hp : first.ptr = false) : Ch first (i + 1) ⟨true, ((2 * i : Nat) : Int)⟩ (chB h i w) := by
  have hlw : h.words.length = 1056 := by rw [c.wf.len, c.len]
  have hat : ∀ j, hdAt (chB h i w) j = if j = 2 * i then ⟨5, 0, 1, 2, false⟩ else hdAt h j := fun j => by
    unfold hdAt chB
    simp only
    by_cases e : j = 2 * i
    · subst e; rw [if_pos rfl, getD_set_self (by rw [c.len]; omega)]
    · rw [if_neg e, getD_set_ne' (fun h => e h.symm)]
  refine ⟨?_, ?_, c.rem, by show (h.heads.set _ _).length = _; rw [List.length_set]; exact c.len, rfl, by rw [hat, if_pos rfl], ?_⟩
  · have := (c.wfA (kind := 3) (info := 0) (by omega) (by decide)).link ((2 * i : Nat) : Int) w
    rw [c.link hi hp] at this
    exact this
  · show (⟨0, ((2 * i + 2 : Nat) : Int), 1024⟩ : Rg) = _
    rw [show 2 * (i + 1) = 2 * i + 2 by omega]
  · have e : (chB h i w).words.getD (2 * i + 1) wd0 = w := by show (h.words.set _ _).getD _ _ = _; rw [getD_set_self (by omega)]
    rw [e]
    refine row_keep i w (fun k hk => ⟨by rw [hat, if_neg (by omega)], ?_⟩) c.row
    show (h.words.set _ _).getD _ _ = _
    rw [getD_set_ne' (by omega)]
theorem Ch.chase (c : Ch first i w h) (hi : i ≤ 100) (hp : first.ptr = false) : chaseH h w = first :=
  row_chase hp i w _ [] c.row (fun _ h => by cases h) (by rw [c.len]; omega)
theorem Ch.last (c : Ch first i w h) (hi : i ≤ 100) : chaseH (chA h i 1 1) ⟨true, ((2 * i : Nat) : Int)⟩ = ⟨true, ((2 * i : Nat) : Int)⟩ := by
  refine chase_stop (fun hc => ?_)
  have h1 := hc.1.2
  have e : ((((2 * i : Nat) : Int))).toNat = 2 * i := by omega
  rw [show (⟨true, ((2 * i : Nat) : Int)⟩ : Wd).n.toNat = 2 * i from e, chA_at c.len hi, if_pos rfl] at h1
  exact absurd h1 (by decide)
end
end Go.Proofs.Ytglienidnffnjaa
