/- PLAIN: the program's heap as functions on lists. -/
import Derived.Test.YtglienidnffnjaaGw17
namespace Go.Proofs.Ytglienidnffnjaa
open Go
structure Wd where
  ptr : Bool
  n : Int
  deriving DecidableEq
structure Hd where
  kind : Int
  info : Int
  fields : Int
  takes : Int
  knows : Bool
  deriving DecidableEq
structure Rg where
  first : Int
  next : Int
  end_ : Int
  deriving DecidableEq
structure Hp where
  words : List Wd
  heads : List Hd
  y : Rg
  a : Rg
  b : Rg
  use : Nat
  rem : List Int
def wordE : Enc Wd where
  size := 2
  cells x := [.bool x.ptr, i64 x.n]
  len _ := rfl
  one t u hu := by
    simp only [List.mem_cons, List.not_mem_nil, or_false] at hu
    rcases hu with rfl | rfl <;> rfl
def headE : Enc Hd where
  size := 5
  cells x := [i64 x.kind, i64 x.info, i64 x.fields, i64 x.takes, .bool x.knows]
  len _ := rfl
  one t u hu := by
    simp only [List.mem_cons, List.not_mem_nil, or_false] at hu
    rcases hu with rfl | rfl | rfl | rfl | rfl <;> rfl
def wd0 : Wd := ⟨false, 0⟩
def hd0 : Hd := ⟨0, 0, 0, 0, false⟩
def hpC (vw vh vr : Value) (h : Hp) : List Value :=
  [vw, vh, i64 h.y.first, i64 h.y.next, i64 h.y.end_, i64 h.a.first, i64 h.a.next, i64 h.a.end_, i64 h.b.first, i64 h.b.next, i64 h.b.end_, i64 (h.use : Int), vr]
theorem word_eq (s t : Wd) : (decide (s.ptr = t.ptr) && (decide (s.n = t.n) && true)) = decide (s = t) := by
  obtain ⟨a1, a2⟩ := s
  obtain ⟨b1, b2⟩ := t
  simp [Bool.decide_and]
/-- the heap, only read -/
structure HR (w : World) (M : List Nat) (bh : Nat) (vw vh vr : Value) (h : Hp) : Prop where
  blk : Rd w M (gl1 bh) 13 1 (hpC vw vh vr h)
  ws : RdT w M vw wordE h.words
  hs : RdT w M vh headE h.heads
  rm : RdT w M vr intE h.rem
section
variable {w0 w : World} {M : List Nat} {L : List Ent} {bh : Nat} {vw vh vr : Value} {h : Hp}
theorem HR.now (hH : HR w0 M bh vw vh vr h) (hO : St w0 M w L) : HR w (blks L) bh vw vh vr h := ⟨Rd.now hH.blk hO, hH.ws.now hO, hH.hs.now hO, hH.rm.now hO⟩
theorem HR.at0 (hH : HR w0 M bh vw vh vr h) (hO : St w0 M w L) : HR w [] bh vw vh vr h := ⟨Rd.at0 hH.blk hO, hH.ws.at0 hO, hH.hs.at0 hO, hH.rm.at0 hO⟩
theorem St.hr (hO : St w0 M w L) (i j k l : Nat) {t e1 e2 e3 : Nat} (hi : L[i]? = some (.ob bh t (hpC vw vh vr h))) (hj : L[j]? = some (slT vw e1 wordE h.words)) (hk : L[k]? = some (slT vh e2 headE h.heads)) (hl : L[l]? = some (slT vr e3 intE h.rem)) : HR w [] bh vw vh vr h :=
  ⟨hO.rdOb i hi, hO.rdT j hj, hO.rdT k hk, hO.rdT l hl⟩
end

/-! ### What the functions do -/
def headAt (hs : List Hd) (at_ : Int) : Option Nat := if (at_ < 0 ∨ (hs.length : Int) ≤ at_) ∨ (hs.getD at_.toNat hd0).kind = 0 then none else some at_.toNat
def hdP (vh : Value) (p : Option Nat) : Option Addr := p.map fun k => (sa vh).add (k * headE.size)
def badW (hs : List Hd) (w : Wd) : Prop := w.ptr = true ∧ headAt hs w.n = none
instance (hs : List Hd) (w : Wd) : Decidable (badW hs w) := by unfold badW; infer_instance
def realF (hs : List Hd) (ws : List Wd) : Bool := ws.all fun w => decide (¬ badW hs w)
def hdAt (h : Hp) (k : Nat) : Hd := h.heads.getD k hd0
def knowP (h : Hp) (at_ : Int) (w : Wd) : Prop := ((at_ < h.y.end_ ∨ ¬ w.ptr = true) ∨ h.y.end_ ≤ w.n) ∨ (h.heads.getD at_.toNat hd0).knows = true
instance (h : Hp) (at_ : Int) (w : Wd) : Decidable (knowP h at_ w) := by unfold knowP; infer_instance
def setK (x : Hd) (b : Bool) : Hd := ⟨x.kind, x.info, x.fields, x.takes, b⟩
def noteF (h : Hp) (at_ : Int) (w : Wd) : Hp :=
  if knowP h at_ w then h else ⟨h.words, h.heads.set at_.toNat (setK (h.heads.getD at_.toNat hd0) true), h.y, h.a, h.b, h.use, h.rem ++ [at_]⟩
def notesF (h : Hp) (at_ : Int) (ws : List Wd) : Hp := ws.foldl (fun h w => noteF h at_ w) h
def Hp.rg (h : Hp) : Nat → Rg
  | 0 => h.y
  | 1 => h.a
  | _ => h.b
def Rg.to (r : Rg) (n : Int) : Rg := ⟨r.first, n, r.end_⟩
def Hp.setN (h : Hp) (k : Nat) (n : Int) : Hp := ⟨h.words, h.heads, if k = 0 then h.y.to n else h.y, if k = 1 then h.a.to n else h.a, if 2 ≤ k then h.b.to n else h.b, h.use, h.rem⟩
def argsBad (kind info : Int) (fs : List Wd) : Prop := ((((kind < 1 ∨ 6 < kind) ∨ info < 0) ∨ 65535 < info) ∨ (1000 : Int) < fs.length) ∨ (kind = 5 ∧ ¬ (fs.length : Int) = 1)
instance (kind info : Int) (fs : List Wd) : Decidable (argsBad kind info fs) := by unfold argsBad; infer_instance
def takesF (fs : List Wd) : Int := 1 + max 1 (fs.length : Int)
def putW (ws : List Wd) (k : Nat) (fs : List Wd) : List Wd := ws.take k ++ fs ++ ws.drop (k + fs.length)
def laidH (h : Hp) (k : Nat) (kind info : Int) (fs : List Wd) : Hp :=
  let at_ := (h.rg k).next
  let h1 := h.setN k (at_ + takesF fs)
  ⟨putW h1.words (at_.toNat + 1) fs, h1.heads.set at_.toNat ⟨kind, info, fs.length, takesF fs, false⟩, h1.y, h1.a, h1.b, h1.use, h1.rem⟩
def layH (h : Hp) (k : Nat) (kind info : Int) (fs : List Wd) : (Int × Int) × Hp :=
  if argsBad kind info fs then ((0, 1), h)
  else if realF h.heads fs = false then ((0, 181), h)
  else if (h.rg k).end_ - (h.rg k).next < takesF fs then ((0, 180), h)
  else (((h.rg k).next, 0), notesF (laidH h k kind info fs) (h.rg k).next fs)
def setH (h : Hp) (at_ field : Int) (w : Wd) : Int × Hp := match headAt h.heads at_ with
  | none => (181, h)
  | some k => if ((field < 0 ∨ (hdAt h k).fields ≤ field) ∨ badW h.heads w) then (181, h)
    else (0, noteF ⟨h.words.set (at_ + 1 + field).toNat w, h.heads, h.y, h.a, h.b, h.use, h.rem⟩ at_ w)
def holeH (h : Hp) (at_ : Int) : Int × Hp := match headAt h.heads at_ with
  | none => (181, h)
  | some k => if ¬ (hdAt h k).kind = 3 then (1, h) else (0, ⟨h.words, h.heads.set k ⟨6, (hdAt h k).info, (hdAt h k).fields, (hdAt h k).takes, (hdAt h k).knows⟩, h.y, h.a, h.b, h.use, h.rem⟩)
def linkH (h : Hp) (at_ : Int) (w : Wd) : Int × Hp := match headAt h.heads at_ with
  | none => (181, h)
  | some k => if badW h.heads w then (181, h) else if ¬ (hdAt h k).kind = 3 ∧ ¬ (hdAt h k).kind = 6 then (1, h)
    else (0, noteF ⟨h.words.set (at_ + 1).toNat w, h.heads.set k ⟨5, 0, 1, (hdAt h k).takes, (hdAt h k).knows⟩, h.y, h.a, h.b, h.use, h.rem⟩ at_ w)
def isInd (h : Hp) (w : Wd) : Prop := (w.ptr = true ∧ ¬ headAt h.heads w.n = none) ∧ (hdAt h w.n.toNat).kind = 5
instance (h : Hp) (w : Wd) : Decidable (isInd h w) := by unfold isInd; infer_instance
def chaseG (h : Hp) : Nat → Wd → List Int → Wd
  | 0, w, _ => w
  | f + 1, w, met => if isInd h w ∧ ¬ met.contains w.n = true then chaseG h f (h.words.getD (w.n + 1).toNat wd0) (met ++ [w.n]) else w
def chaseH (h : Hp) (w : Wd) : Wd := chaseG h (h.heads.length + 1) w []
structure Ob where
  kind : Int
  info : Int
  fields : List Wd
def objH (h : Hp) (at_ : Int) : Ob × Int := match headAt h.heads at_ with
  | none => (⟨0, 0, []⟩, 181)
  | some k => (⟨(hdAt h k).kind, (hdAt h k).info, (h.words.drop (k + 1)).take (hdAt h k).fields.toNat⟩, 0)
def youngH (h : Hp) (at_ : Int) : Prop := at_ < h.y.end_ ∧ ¬ headAt h.heads at_ = none
instance (h : Hp) (at_ : Int) : Decidable (youngH h at_) := by unfold youngH; infer_instance
def usedH (h : Hp) : Int × Int := (h.y.next - h.y.first, (h.rg (1 + h.use)).next - (h.rg (1 + h.use)).first)
def emptyH (h : Hp) (k : Nat) : Hp :=
  let r := h.rg k
  let h1 := h.setN k r.first
  ⟨h1.words, h.heads.take r.first.toNat ++ List.replicate (r.next.toNat - r.first.toNat) hd0 ++ h.heads.drop r.next.toNat, h1.y, h1.a, h1.b, h1.use, h1.rem⟩
def unknowF (hs : List Hd) (rs : List Int) : List Hd := rs.foldl (fun hs r => hs.set r.toNat (setK (hs.getD r.toNat hd0) false)) hs
def clearH (h : Hp) : Hp :=
  let h1 := emptyH h 0
  ⟨h1.words, unknowF h1.heads h.rem, h1.y, h1.a, h1.b, h1.use, []⟩
def flipH (h : Hp) : Hp := ⟨h.words, h.heads, h.y, h.a, h.b, 1 - h.use, h.rem⟩
def newBad (y o : Int) : Prop := ((y < 16 ∨ 1048576 < y) ∨ o < 16) ∨ 1048576 < o
instance (y o : Int) : Decidable (newBad y o) := by unfold newBad; infer_instance
def newH (y o : Int) : Hp := ⟨List.replicate (y + 2 * o).toNat wd0, List.replicate (y + 2 * o).toNat hd0, ⟨0, 0, y⟩, ⟨y, y, y + o⟩, ⟨y + o, y + o, y + 2 * o⟩, 0, []⟩

/-! ### Well formed -/
def rgOk (N : Nat) (r : Rg) : Prop := 0 ≤ r.first ∧ r.first ≤ r.next ∧ r.next ≤ r.end_ ∧ r.end_ ≤ N
structure Wf (h : Hp) : Prop where
  len : h.words.length = h.heads.length
  le : h.heads.length ≤ 3145728
  use : h.use ≤ 1
  y : rgOk h.heads.length h.y
  a : rgOk h.heads.length h.a
  b : rgOk h.heads.length h.b
  obj : ∀ k, (hdAt h k).kind ≠ 0 → 0 ≤ (hdAt h k).fields ∧ (k : Int) + 1 + (hdAt h k).fields ≤ h.heads.length ∧ k + 2 ≤ h.heads.length
  rem : ∀ x ∈ h.rem, 0 ≤ x ∧ x < h.heads.length
theorem hdP_none {vh : Value} {p : Option Nat} : hdP vh p = none ↔ p = none := by cases p <;> simp [hdP]
theorem head_some {hs : List Hd} {at_ : Int} {k : Nat} (h : headAt hs at_ = some k) : at_ = k ∧ k < hs.length ∧ (hs.getD k hd0).kind ≠ 0 := by
  unfold headAt at h
  split at h
  · cases h
  · rename_i hn
    have := not_or.1 hn
    have h1 := not_or.1 this.1
    cases h
    exact ⟨by omega, by omega, this.2⟩
theorem head_ne {hs : List Hd} {at_ : Int} (h : ¬ headAt hs at_ = none) : ∃ k : Nat, headAt hs at_ = some k ∧ at_ = k ∧ k < hs.length ∧ (hs.getD k hd0).kind ≠ 0 := by
  cases hk : headAt hs at_ with
  | none => exact absurd hk h
  | some k => exact ⟨k, rfl, head_some hk⟩
theorem hdP_at {vh : Value} {hs : List Hd} {at_ : Int} (h : ¬ hdP vh (headAt hs at_) = none) : hdP vh (headAt hs at_) = some ((sa vh).add (at_.toNat * headE.size)) ∧ at_.toNat < hs.length := by
  obtain ⟨k, h1, rfl, h3, _⟩ := head_ne (fun e => h (hdP_none.2 e))
  rw [h1]
  exact ⟨rfl, h3⟩
theorem getD_set_self {α : Type} {l : List α} {i : Nat} {x d : α} (h : i < l.length) : (l.set i x).getD i d = x := by
  rw [List.getD_eq_getElem?_getD, List.getElem?_set_self h]; rfl
theorem getD_set_ne' {α : Type} {l : List α} {i j : Nat} {x d : α} (h : i ≠ j) : (l.set i x).getD j d = l.getD j d := by
  rw [List.getD_eq_getElem?_getD, List.getElem?_set_ne h, ← List.getD_eq_getElem?_getD]
theorem getD_out {α : Type} {l : List α} {i : Nat} {d : α} (h : l.length ≤ i) : l.getD i d = d := by
  rw [List.getD_eq_getElem?_getD, List.getElem?_eq_none h]; rfl
theorem note_len (h : Hp) (at_ : Int) (w : Wd) : (noteF h at_ w).heads.length = h.heads.length ∧ (noteF h at_ w).words = h.words ∧ (noteF h at_ w).y = h.y ∧ (noteF h at_ w).a = h.a ∧ (noteF h at_ w).b = h.b ∧ (noteF h at_ w).use = h.use ∧ (noteF h at_ w).rem.length ≤ h.rem.length + 1 := by
  unfold noteF; split <;> simp
theorem notes_on (h : Hp) (at_ : Int) (ws : List Wd) (w : Wd) : notesF h at_ (ws ++ [w]) = noteF (notesF h at_ ws) at_ w := by simp [notesF]
theorem notes_len (at_ : Int) : ∀ (ws : List Wd) (h : Hp), (notesF h at_ ws).heads.length = h.heads.length ∧ (notesF h at_ ws).words = h.words ∧ (notesF h at_ ws).y = h.y ∧ (notesF h at_ ws).a = h.a ∧ (notesF h at_ ws).b = h.b ∧ (notesF h at_ ws).use = h.use ∧ (notesF h at_ ws).rem.length ≤ h.rem.length + ws.length
  | [], h => by simp [notesF]
  | w :: ws, h => by
    have h1 := note_len h at_ w
    have h2 := notes_len at_ ws (noteF h at_ w)
    have e : notesF h at_ (w :: ws) = notesF (noteF h at_ w) at_ ws := rfl
    rw [e, List.length_cons]
    obtain ⟨a1, a2, a3, a4, a5, a6, a7⟩ := h1
    obtain ⟨b1, b2, b3, b4, b5, b6, b7⟩ := h2
    exact ⟨b1.trans a1, b2.trans a2, b3.trans a3, b4.trans a4, b5.trans a5, b6.trans a6, by omega⟩
/-- the kinds and the fields do not turn by a note -/
theorem note_at (h : Hp) (at_ : Int) (w : Wd) (k : Nat) : (hdAt (noteF h at_ w) k).kind = (hdAt h k).kind ∧ (hdAt (noteF h at_ w) k).fields = (hdAt h k).fields ∧ (hdAt (noteF h at_ w) k).info = (hdAt h k).info ∧ (hdAt (noteF h at_ w) k).takes = (hdAt h k).takes := by
  unfold noteF
  split
  · exact ⟨rfl, rfl, rfl, rfl⟩
  · unfold hdAt
    simp only
    by_cases e : at_.toNat = k
    · subst e
      by_cases hl : at_.toNat < h.heads.length
      · rw [getD_set_self hl]; exact ⟨rfl, rfl, rfl, rfl⟩
      · rw [List.set_eq_of_length_le (by omega)]; exact ⟨rfl, rfl, rfl, rfl⟩
    · rw [getD_set_ne' e]; exact ⟨rfl, rfl, rfl, rfl⟩
theorem Wf.note {h : Hp} (hw : Wf h) {at_ : Int} (h0 : 0 ≤ at_) (h1 : at_ < h.heads.length) (w : Wd) : Wf (noteF h at_ w) := by
  obtain ⟨a1, a2, a3, a4, a5, a6, _⟩ := note_len h at_ w
  refine ⟨by rw [a1, a2]; exact hw.len, by rw [a1]; exact hw.le, by rw [a6]; exact hw.use, by rw [a1, a3]; exact hw.y, by rw [a1, a4]; exact hw.a, by rw [a1, a5]; exact hw.b, fun k hk => ?_, fun x hx => ?_⟩
  · obtain ⟨e1, e2, _, _⟩ := note_at h at_ w k
    rw [e1] at hk
    rw [e2, a1]
    exact hw.obj k hk
  · rw [a1]
    unfold noteF at hx
    split at hx
    · exact hw.rem x hx
    · rcases List.mem_append.1 hx with hx | hx
      · exact hw.rem x hx
      · rw [List.mem_singleton.1 hx]; exact ⟨h0, h1⟩
theorem Wf.notes {at_ : Int} : ∀ (ws : List Wd) {h : Hp}, Wf h → 0 ≤ at_ → at_ < h.heads.length → Wf (notesF h at_ ws)
  | [], _, hw, _, _ => hw
  | w :: ws, h, hw, h0, h1 => Wf.notes ws (hw.note h0 h1 w) h0 (by rw [(note_len h at_ w).1]; exact h1)
theorem putW_len {ws fs : List Wd} {k : Nat} (h : k + fs.length ≤ ws.length) : (putW ws k fs).length = ws.length := by
  unfold putW
  simp only [List.length_append, List.length_take, List.length_drop]; omega
theorem takes_ge (fs : List Wd) : 2 ≤ takesF fs ∧ (fs.length : Int) + 1 ≤ takesF fs ∧ takesF fs ≤ fs.length + 2 := by unfold takesF; omega
theorem Wf.rg {h : Hp} (hw : Wf h) (k : Nat) : rgOk h.heads.length (h.rg k) := by
  match k with
  | 0 => exact hw.y
  | 1 => exact hw.a
  | k + 2 => exact hw.b
theorem laid_head (h : Hp) (k : Nat) (kind info : Int) (fs : List Wd) (j : Nat) : hdAt (laidH h k kind info fs) j = if j = (h.rg k).next.toNat ∧ j < h.heads.length then ⟨kind, info, fs.length, takesF fs, false⟩ else hdAt h j := by
  unfold hdAt laidH
  simp only [Hp.setN]
  by_cases e : (h.rg k).next.toNat = j
  · subst e
    by_cases hl : (h.rg k).next.toNat < h.heads.length
    · rw [getD_set_self hl, if_pos ⟨rfl, hl⟩]
    · rw [List.set_eq_of_length_le (by omega), if_neg (fun h => hl h.2)]
  · rw [getD_set_ne' e, if_neg (fun h => e h.1.symm)]
theorem Wf.laid {h : Hp} (hw : Wf h) {k : Nat} (hk : k ≤ 2) {kind info : Int} {fs : List Wd} (hr : ¬ (h.rg k).end_ - (h.rg k).next < takesF fs) : Wf (laidH h k kind info fs) := by
  obtain ⟨r1, r2, r3, r4⟩ := hw.rg k
  obtain ⟨t1, t2, t3⟩ := takes_ge fs
  have hl : (laidH h k kind info fs).heads.length = h.heads.length := by simp [laidH, Hp.setN]
  have hfit : (h.rg k).next.toNat + 1 + fs.length ≤ h.words.length := by rw [hw.len]; omega
  refine ⟨?_, by rw [hl]; exact hw.le, hw.use, ?_, ?_, ?_, fun j hj => ?_, fun x hx => by rw [hl]; exact hw.rem x hx⟩
  · rw [hl]
    show (putW h.words _ fs).length = _
    rw [putW_len hfit, hw.len]
  · rw [hl]
    show rgOk _ (if k = 0 then _ else _)
    split
    · rename_i e; subst e
      exact ⟨r1, by show h.y.first ≤ (h.rg 0).next + takesF fs; show h.y.first ≤ h.y.next + takesF fs; have : h.y.first ≤ h.y.next := r2; omega, by show (h.rg 0).next + takesF fs ≤ (h.rg 0).end_; omega, r4⟩
    · exact hw.y
  · rw [hl]
    show rgOk _ (if k = 1 then _ else _)
    split
    · rename_i e; subst e
      exact ⟨r1, by show h.a.first ≤ h.a.next + takesF fs; have : h.a.first ≤ h.a.next := r2; omega, by show (h.rg 1).next + takesF fs ≤ (h.rg 1).end_; omega, r4⟩
    · exact hw.a
  · rw [hl]
    show rgOk _ (if 2 ≤ k then _ else _)
    split
    · rename_i e
      obtain rfl : k = 2 := by omega
      exact ⟨r1, by show h.b.first ≤ h.b.next + takesF fs; have : h.b.first ≤ h.b.next := r2; omega, by show (h.rg 2).next + takesF fs ≤ (h.rg 2).end_; omega, r4⟩
    · exact hw.b
  · rw [hl]
    rw [laid_head] at hj ⊢
    split
    · rename_i e
      refine ⟨by simp only; omega, by simp only; omega, by omega⟩
    · rename_i e
      rw [if_neg e] at hj
      exact hw.obj j hj
theorem Wf.lay {h : Hp} (hw : Wf h) {k : Nat} (hk : k ≤ 2) (kind info : Int) (fs : List Wd) : Wf (layH h k kind info fs).2 := by
  unfold layH
  split
  · exact hw
  · split
    · exact hw
    · split
      · exact hw
      · rename_i hr
        obtain ⟨r1, r2, r3, r4⟩ := hw.rg k
        obtain ⟨t1, _, _⟩ := takes_ge fs
        have hl : (laidH h k kind info fs).heads.length = h.heads.length := by simp [laidH, Hp.setN]
        exact Wf.notes fs (hw.laid hk hr) (by omega) (by rw [hl]; omega)
theorem lay_rem (h : Hp) (k : Nat) (kind info : Int) (fs : List Wd) : (layH h k kind info fs).2.rem.length ≤ h.rem.length + fs.length := by
  unfold layH
  split
  · simp
  · split
    · simp
    · split
      · simp
      · exact (notes_len _ fs _).2.2.2.2.2.2
theorem wf_new {y o : Int} (h : ¬ newBad y o) : Wf (newH y o) := by
  have h1 := not_or.1 h
  have h2 := not_or.1 h1.1
  have h3 := not_or.1 h2.1
  have hn : (newH y o).heads.length = (y + 2 * o).toNat := by simp [newH]
  refine ⟨by simp [newH], by rw [hn]; omega, by simp [newH], ?_, ?_, ?_, fun k hk => ?_, fun x hx => by simp [newH] at hx⟩
  · rw [hn]; exact ⟨Int.le_refl _, Int.le_refl _, by show (0 : Int) ≤ y; omega, by show y ≤ _; omega⟩
  · rw [hn]; exact ⟨by show 0 ≤ y; omega, Int.le_refl _, by show y ≤ y + o; omega, by show y + o ≤ _; omega⟩
  · rw [hn]; exact ⟨by show 0 ≤ y + o; omega, Int.le_refl _, by show y + o ≤ y + 2 * o; omega, by show y + 2 * o ≤ _; omega⟩
  · exfalso
    apply hk
    unfold hdAt newH
    simp only
    rw [List.getD_eq_getElem?_getD]
    by_cases hl : k < (y + 2 * o).toNat
    · rw [List.getElem?_eq_getElem (by simpa using hl)]; simp [hd0]
    · rw [List.getElem?_eq_none (by simpa using hl)]; rfl
theorem Wf.set {h : Hp} (hw : Wf h) (at_ field : Int) (w : Wd) : Wf (setH h at_ field w).2 := by
  unfold setH
  split
  · exact hw
  · rename_i k hk
    obtain ⟨rfl, h2, h3⟩ := head_some hk
    split
    · exact hw
    · exact Wf.note (h := ⟨h.words.set _ w, h.heads, h.y, h.a, h.b, h.use, h.rem⟩) ⟨by show (h.words.set _ w).length = _; rw [List.length_set]; exact hw.len, hw.le, hw.use, hw.y, hw.a, hw.b, hw.obj, hw.rem⟩ (by omega) (by show (k : Int) < h.heads.length; omega) w
/-- one head is turned -/
theorem Wf.turn {h : Hp} (hw : Wf h) {k : Nat} (hk : k < h.heads.length) (ws : List Wd) (hl : ws.length = h.words.length) (x : Hd) (hx : 0 ≤ x.fields ∧ (k : Int) + 1 + x.fields ≤ h.heads.length ∧ k + 2 ≤ h.heads.length) :
    Wf ⟨ws, h.heads.set k x, h.y, h.a, h.b, h.use, h.rem⟩ := by
  have hlen : (h.heads.set k x).length = h.heads.length := List.length_set ..
  refine ⟨by show ws.length = (h.heads.set k x).length; rw [hlen, hl]; exact hw.len, by show (h.heads.set k x).length ≤ _; rw [hlen]; exact hw.le, hw.use, by show rgOk (h.heads.set k x).length _; rw [hlen]; exact hw.y, by show rgOk (h.heads.set k x).length _; rw [hlen]; exact hw.a, by show rgOk (h.heads.set k x).length _; rw [hlen]; exact hw.b, fun j hj => ?_, fun y hy => by show _ ∧ y < (h.heads.set k x).length; rw [hlen]; exact hw.rem y hy⟩
  show 0 ≤ (hdAt _ j).fields ∧ (j : Int) + 1 + (hdAt _ j).fields ≤ (h.heads.set k x).length ∧ j + 2 ≤ (h.heads.set k x).length
  rw [hlen]
  by_cases e : k = j
  · subst e
    have : hdAt ⟨ws, h.heads.set k x, h.y, h.a, h.b, h.use, h.rem⟩ k = x := getD_set_self hk
    rw [this]; exact hx
  · have e2 : hdAt ⟨ws, h.heads.set k x, h.y, h.a, h.b, h.use, h.rem⟩ j = hdAt h j := getD_set_ne' e
    rw [e2] at hj ⊢
    exact hw.obj j hj
theorem Wf.hole {h : Hp} (hw : Wf h) (at_ : Int) : Wf (holeH h at_).2 := by
  unfold holeH
  split
  · exact hw
  · rename_i k hk
    obtain ⟨rfl, h2, h3⟩ := head_some hk
    split
    · exact hw
    · exact hw.turn h2 _ rfl _ (hw.obj k h3)
theorem Wf.link {h : Hp} (hw : Wf h) (at_ : Int) (w : Wd) : Wf (linkH h at_ w).2 := by
  unfold linkH
  split
  · exact hw
  · rename_i k hk
    obtain ⟨rfl, h2, h3⟩ := head_some hk
    split
    · exact hw
    · split
      · exact hw
      · have ho := (hw.obj k h3).2.2
        refine Wf.note (h := ⟨h.words.set _ w, h.heads.set k _, h.y, h.a, h.b, h.use, h.rem⟩) (hw.turn h2 _ (List.length_set ..) _ ⟨(show (0 : Int) ≤ 1 by decide), by show (k : Int) + 1 + 1 ≤ _; omega, ho⟩) (by omega) ?_ w
        show (k : Int) < (h.heads.set k _).length
        rw [List.length_set]; omega
theorem Wf.flip {h : Hp} (hw : Wf h) : Wf (flipH h) := ⟨hw.len, hw.le, by show 1 - h.use ≤ 1; omega, hw.y, hw.a, hw.b, hw.obj, hw.rem⟩
theorem set_rem (h : Hp) (at_ field : Int) (w : Wd) : (setH h at_ field w).2.rem.length ≤ h.rem.length + 1 := by
  unfold setH
  split
  · exact Nat.le_succ _
  · split
    · exact Nat.le_succ _
    · exact (note_len _ _ _).2.2.2.2.2.2
theorem link_rem (h : Hp) (at_ : Int) (w : Wd) : (linkH h at_ w).2.rem.length ≤ h.rem.length + 1 := by
  unfold linkH
  split
  · exact Nat.le_succ _
  · split
    · exact Nat.le_succ _
    · split
      · exact Nat.le_succ _
      · exact (note_len _ _ _).2.2.2.2.2.2
theorem hole_rem (h : Hp) (at_ : Int) : (holeH h at_).2.rem = h.rem := by
  unfold holeH
  split
  · rfl
  · split <;> rfl
theorem nodup_le : ∀ (N : Nat) (l : List Int), l.Nodup → (∀ x ∈ l, 0 ≤ x ∧ x < N) → l.length ≤ N
  | 0, l, _, hx => by
    cases l with
    | nil => simp
    | cons x l => have := hx x (by simp); omega
  | N + 1, l, hn, hx => by
    by_cases hm : (N : Int) ∈ l
    · have h1 := nodup_le N (l.erase (N : Int)) (hn.erase _) (fun x h => by
        have h2 := hx x (List.mem_of_mem_erase h)
        have h3 : x ≠ (N : Int) := fun e => by subst e; exact hn.not_mem_erase h
        omega)
      rw [List.length_erase_of_mem hm] at h1
      omega
    · have := nodup_le N l hn (fun x h => by
        have h2 := hx x h
        have h3 : x ≠ (N : Int) := fun e => hm (e ▸ h)
        omega)
      omega
theorem takeAt {α : Type} {l : List α} {k : Nat} {x : α} (hx : l[k]? = some x) : l.take (k + 1) = l.take k ++ [x] := by rw [List.take_add_one, hx]; rfl
theorem of_gF {p : Prop} {_ : Decidable p} (h : isB (.bool (decide p)) true = false) : ¬ p := by simpa [isB] using h
theorem of_gFn {p : Prop} {_ : Decidable p} (h : isB (.bool (decide p)) false = false) : p := by simpa [isB] using h
theorem set_1 {vh : Value} {h : Hp} {at_ field : Int} {w : Wd} (hb : ((hdP vh (headAt h.heads at_) = none ∨ field < 0) ∨ (h.heads.getD at_.toNat hd0).fields ≤ field) ∨ ¬ realF h.heads [w] = true) : setH h at_ field w = (181, h) := by
  unfold setH
  cases hk : headAt h.heads at_ with
  | none => rfl
  | some k =>
    obtain ⟨rfl, _, _⟩ := head_some hk
    simp only
    refine if_pos ?_
    rcases hb with ((hb | hb) | hb) | hb
    · rw [hk] at hb; cases hb
    · exact .inl (.inl hb)
    · exact .inl (.inr hb)
    · exact .inr (by simpa [realF] using hb)
theorem set_2 {vh : Value} {h : Hp} {at_ field : Int} {w : Wd} (hb : ¬ (((hdP vh (headAt h.heads at_) = none ∨ field < 0) ∨ (h.heads.getD at_.toNat hd0).fields ≤ field) ∨ ¬ realF h.heads [w] = true)) :
    ∃ k : Nat, headAt h.heads at_ = some k ∧ at_ = k ∧ k < h.heads.length ∧ 0 ≤ field ∧ field < (hdAt h k).fields ∧ (hdAt h k).kind ≠ 0 ∧ setH h at_ field w = (0, noteF ⟨h.words.set (at_ + 1 + field).toNat w, h.heads, h.y, h.a, h.b, h.use, h.rem⟩ at_ w) := by
  obtain ⟨h1, h2⟩ := not_or.1 hb
  obtain ⟨h1, h3⟩ := not_or.1 h1
  obtain ⟨h1, h4⟩ := not_or.1 h1
  obtain ⟨k, hk, rfl, hkl, hkk⟩ := head_ne (fun e => h1 (hdP_none.2 e))
  refine ⟨k, hk, rfl, hkl, by omega, Int.not_le.1 h3, hkk, ?_⟩
  unfold setH
  rw [hk]
  simp only
  refine if_neg ?_
  rintro ((h | h) | h)
  · exact h4 h
  · exact h3 h
  · exact h2 (by simpa [realF] using h)
theorem real_one {hs : List Hd} {w : Wd} : realF hs [w] = true ↔ ¬ badW hs w := by simp [realF]
theorem note_yes {h : Hp} {at_ : Int} {w : Wd} (hk : knowP h at_ w) : noteF h at_ w = h := if_pos hk
theorem note_no {h : Hp} {at_ : Int} {w : Wd} (hk : ¬ knowP h at_ w) : noteF h at_ w = ⟨h.words, h.heads.set at_.toNat (setK (h.heads.getD at_.toNat hd0) true), h.y, h.a, h.b, h.use, h.rem ++ [at_]⟩ := if_neg hk
theorem lay_1 {h : Hp} {k : Nat} {kind info : Int} {fs : List Wd} (h1 : argsBad kind info fs) : layH h k kind info fs = ((0, 1), h) := if_pos h1
theorem lay_2 {h : Hp} {k : Nat} {kind info : Int} {fs : List Wd} (h1 : ¬ argsBad kind info fs) (h2 : ¬ realF h.heads fs = true) : layH h k kind info fs = ((0, 181), h) := by
  unfold layH; rw [if_neg h1, if_pos (by simpa using h2)]
theorem lay_3 {h : Hp} {k : Nat} {kind info : Int} {fs : List Wd} (h1 : ¬ argsBad kind info fs) (h2 : ¬ ¬ realF h.heads fs = true) (h3 : (h.rg k).end_ - (h.rg k).next < takesF fs) : layH h k kind info fs = ((0, 180), h) := by
  unfold layH; rw [if_neg h1, if_neg (by simpa using h2), if_pos h3]
theorem lay_4 {h : Hp} {k : Nat} {kind info : Int} {fs : List Wd} (h1 : ¬ argsBad kind info fs) (h2 : ¬ ¬ realF h.heads fs = true) (h3 : ¬ (h.rg k).end_ - (h.rg k).next < takesF fs) : layH h k kind info fs = (((h.rg k).next, 0), notesF (laidH h k kind info fs) (h.rg k).next fs) := by
  unfold layH; rw [if_neg h1, if_neg (by simpa using h2), if_neg h3]
theorem laid_len (h : Hp) (k : Nat) (kind info : Int) (fs : List Wd) : (laidH h k kind info fs).heads.length = h.heads.length ∧ (laidH h k kind info fs).rem = h.rem := by simp [laidH, Hp.setN]
theorem cont_no {l : List Int} {k : Nat} {x s : Int} (hx : l[k]? = some x) (hn : (l.take k).contains s = false) (h : ¬ s = x) : (l.take (k + 1)).contains s = false := by
  rw [takeAt hx]
  rw [Bool.eq_false_iff] at hn ⊢
  intro hc
  rw [List.contains_iff_mem, List.mem_append] at hc
  rcases hc with hc | hc
  · exact hn (List.contains_iff_mem.2 hc)
  · exact h (List.mem_singleton.1 hc)
theorem cont_yes {l : List Int} {k : Nat} {x : Int} (hx : l[k]? = some x) : l.contains x = true := List.contains_iff_mem.2 (List.mem_of_getElem? hx)
theorem chase_go {h : Hp} {f : Nat} {w : Wd} {met : List Int} (hc : isInd h w ∧ ¬ met.contains w.n = true) : chaseG h (f + 1) w met = chaseG h f (h.words.getD (w.n + 1).toNat wd0) (met ++ [w.n]) := by rw [chaseG, if_pos hc]
theorem chase_stop {h : Hp} {f : Nat} {w : Wd} {met : List Int} (hc : ¬ (isInd h w ∧ ¬ met.contains w.n = true)) : chaseG h (f + 1) w met = w := by rw [chaseG, if_neg hc]
theorem ind_at {h : Hp} (hw : Wf h) {w : Wd} (hi : isInd h w) : ∃ k : Nat, headAt h.heads w.n = some k ∧ w.n = k ∧ k < h.heads.length ∧ k + 2 ≤ h.heads.length := by
  obtain ⟨k, h1, h2, h3, h4⟩ := head_ne hi.1.2
  exact ⟨k, h1, h2, h3, (hw.obj k h4).2.2⟩
theorem hole_1 {vh : Value} {h : Hp} {at_ : Int} (h1 : hdP vh (headAt h.heads at_) = none) : holeH h at_ = (181, h) := by unfold holeH; rw [hdP_none.1 h1]
theorem hole_2 {h : Hp} {at_ : Int} {k : Nat} (h1 : headAt h.heads at_ = some k) (h2 : ¬ (h.heads.getD k hd0).kind = 3) : holeH h at_ = (1, h) := by unfold holeH; rw [h1]; exact if_pos h2
theorem hole_3 {h : Hp} {at_ : Int} {k : Nat} (h1 : headAt h.heads at_ = some k) (h2 : ¬ ¬ (h.heads.getD k hd0).kind = 3) : holeH h at_ = (0, ⟨h.words, h.heads.set k ⟨6, (h.heads.getD k hd0).info, (h.heads.getD k hd0).fields, (h.heads.getD k hd0).takes, (h.heads.getD k hd0).knows⟩, h.y, h.a, h.b, h.use, h.rem⟩) := by unfold holeH; rw [h1]; exact if_neg h2
theorem link_1 {vh : Value} {h : Hp} {at_ : Int} {w : Wd} (h1 : hdP vh (headAt h.heads at_) = none ∨ ¬ realF h.heads [w] = true) : linkH h at_ w = (181, h) := by
  unfold linkH
  cases hk : headAt h.heads at_ with
  | none => rfl
  | some k =>
    rcases h1 with h1 | h1
    · rw [hk] at h1; cases h1
    · exact if_pos (by simpa [realF] using h1)
theorem link_2 {vh : Value} {h : Hp} {at_ : Int} {w : Wd} (h1 : ¬ (hdP vh (headAt h.heads at_) = none ∨ ¬ realF h.heads [w] = true)) : ∃ k : Nat, headAt h.heads at_ = some k ∧ at_ = k ∧ k < h.heads.length ∧ (hdAt h k).kind ≠ 0 ∧ ¬ badW h.heads w := by
  obtain ⟨g1, g2⟩ := not_or.1 h1
  obtain ⟨k, hk, rfl, hkl, hkk⟩ := head_ne (fun e => g1 (hdP_none.2 e))
  exact ⟨k, hk, rfl, hkl, hkk, real_one.1 (Classical.not_not.1 g2)⟩
theorem link_3 {h : Hp} {at_ : Int} {w : Wd} {k : Nat} (h1 : headAt h.heads at_ = some k) (h2 : ¬ badW h.heads w) (h3 : ¬ (h.heads.getD k hd0).kind = 3 ∧ ¬ (h.heads.getD k hd0).kind = 6) : linkH h at_ w = (1, h) := by
  unfold linkH; rw [h1]; simp only; rw [if_neg h2]; exact if_pos h3
theorem link_4 {h : Hp} {at_ : Int} {w : Wd} {k : Nat} (h1 : headAt h.heads at_ = some k) (h2 : ¬ badW h.heads w) (h3 : ¬ (¬ (h.heads.getD k hd0).kind = 3 ∧ ¬ (h.heads.getD k hd0).kind = 6)) :
    linkH h at_ w = (0, noteF ⟨h.words.set (at_ + 1).toNat w, h.heads.set k ⟨5, 0, 1, (h.heads.getD k hd0).takes, (h.heads.getD k hd0).knows⟩, h.y, h.a, h.b, h.use, h.rem⟩ at_ w) := by
  unfold linkH; rw [h1]; simp only; rw [if_neg h2]; exact if_neg h3
theorem obj_1 {vh : Value} {h : Hp} {at_ : Int} (h1 : hdP vh (headAt h.heads at_) = none) : objH h at_ = (⟨0, 0, []⟩, 181) := by unfold objH; rw [hdP_none.1 h1]
theorem obj_2 {h : Hp} {at_ : Int} {k : Nat} (h1 : headAt h.heads at_ = some k) : objH h at_ = (⟨(h.heads.getD k hd0).kind, (h.heads.getD k hd0).info, (h.words.drop (k + 1)).take (h.heads.getD k hd0).fields.toNat⟩, 0) := by unfold objH; rw [h1]; rfl
theorem Wf.words {h : Hp} (hw : Wf h) (ws : List Wd) (hl : ws.length = h.words.length) : Wf ⟨ws, h.heads, h.y, h.a, h.b, h.use, h.rem⟩ := ⟨by show ws.length = _; rw [hl]; exact hw.len, hw.le, hw.use, hw.y, hw.a, hw.b, hw.obj, hw.rem⟩
theorem unknow_on (hs : List Hd) (rs : List Int) (r : Int) : unknowF hs (rs ++ [r]) = (unknowF hs rs).set r.toNat (setK ((unknowF hs rs).getD r.toNat hd0) false) := by simp [unknowF]
theorem unknow_len : ∀ (rs : List Int) (hs : List Hd), (unknowF hs rs).length = hs.length
  | [], _ => rfl
  | r :: rs, hs => by
    have := unknow_len rs (hs.set r.toNat (setK (hs.getD r.toNat hd0) false))
    rw [List.length_set] at this
    exact this
theorem unknow_at (rs : List Int) : ∀ (hs : List Hd) (k : Nat), ((unknowF hs rs).getD k hd0).kind = (hs.getD k hd0).kind ∧ ((unknowF hs rs).getD k hd0).fields = (hs.getD k hd0).fields := by
  induction rs with
  | nil => intro hs k; exact ⟨rfl, rfl⟩
  | cons r rs ih =>
    intro hs k
    have h1 := ih (hs.set r.toNat (setK (hs.getD r.toNat hd0) false)) k
    have h2 : ((hs.set r.toNat (setK (hs.getD r.toNat hd0) false)).getD k hd0).kind = (hs.getD k hd0).kind ∧ ((hs.set r.toNat (setK (hs.getD r.toNat hd0) false)).getD k hd0).fields = (hs.getD k hd0).fields := by
      by_cases e : r.toNat = k
      · subst e
        by_cases hl : r.toNat < hs.length
        · rw [getD_set_self hl]; exact ⟨rfl, rfl⟩
        · rw [List.set_eq_of_length_le (by omega)]; exact ⟨rfl, rfl⟩
      · rw [getD_set_ne' e]; exact ⟨rfl, rfl⟩
    exact ⟨h1.1.trans h2.1, h1.2.trans h2.2⟩
theorem empty_len (h : Hp) (hw : Wf h) (k : Nat) : (emptyH h k).heads.length = h.heads.length := by
  obtain ⟨r1, r2, r3, r4⟩ := hw.rg k
  unfold emptyH
  simp only [List.length_append, List.length_take, List.length_replicate, List.length_drop]
  omega
theorem empty_at (h : Hp) (hw : Wf h) (k j : Nat) : hdAt (emptyH h k) j = if (h.rg k).first.toNat ≤ j ∧ j < (h.rg k).next.toNat then hd0 else hdAt h j := by
  obtain ⟨r1, r2, r3, r4⟩ := hw.rg k
  unfold hdAt emptyH
  simp only
  rw [List.getD_eq_getElem?_getD, List.getD_eq_getElem?_getD]
  by_cases h1 : j < (h.rg k).first.toNat
  · rw [if_neg (by omega), List.append_assoc, List.getElem?_append_left (by rw [List.length_take]; omega), List.getElem?_take, if_pos h1]
  · by_cases h2 : j < (h.rg k).next.toNat
    · rw [if_pos ⟨by omega, h2⟩, List.getElem?_append_left (by rw [List.length_append, List.length_take, List.length_replicate]; omega), List.getElem?_append_right (by rw [List.length_take]; omega), List.getElem?_replicate, List.length_take, if_pos (by omega)]
      rfl
    · rw [if_neg (by omega), List.getElem?_append_right (by rw [List.length_append, List.length_take, List.length_replicate]; omega), List.getElem?_drop, List.length_append, List.length_take, List.length_replicate]
      congr 2
      omega
theorem Wf.empty {h : Hp} (hw : Wf h) (k : Nat) (hk : k ≤ 2) : Wf (emptyH h k) := by
  have hl := empty_len h hw k
  obtain ⟨r1, r2, r3, r4⟩ := hw.rg k
  refine ⟨by rw [hl]; exact hw.len, by rw [hl]; exact hw.le, hw.use, ?_, ?_, ?_, fun j hj => ?_, fun x hx => by rw [hl]; exact hw.rem x hx⟩
  · rw [hl]
    show rgOk _ (if k = 0 then _ else _)
    split
    · rename_i e; subst e; exact ⟨r1, Int.le_refl _, by show (h.rg 0).first ≤ (h.rg 0).end_; omega, r4⟩
    · exact hw.y
  · rw [hl]
    show rgOk _ (if k = 1 then _ else _)
    split
    · rename_i e; subst e; exact ⟨r1, Int.le_refl _, by show (h.rg 1).first ≤ (h.rg 1).end_; omega, r4⟩
    · exact hw.a
  · rw [hl]
    show rgOk _ (if 2 ≤ k then _ else _)
    split
    · rename_i e
      obtain rfl : k = 2 := by omega
      exact ⟨r1, Int.le_refl _, by show (h.rg 2).first ≤ (h.rg 2).end_; omega, r4⟩
    · exact hw.b
  · rw [hl]
    rw [empty_at h hw] at hj ⊢
    split
    · rename_i e; rw [if_pos e] at hj; exact absurd rfl hj
    · rename_i e; rw [if_neg e] at hj; exact hw.obj j hj
theorem Wf.clear {h : Hp} (hw : Wf h) : Wf (clearH h) := by
  have he := hw.empty 0 (by decide)
  have hl : (clearH h).heads.length = (emptyH h 0).heads.length := unknow_len h.rem _
  refine ⟨by rw [hl]; exact he.len, by rw [hl]; exact he.le, he.use, by rw [hl]; exact he.y, by rw [hl]; exact he.a, by rw [hl]; exact he.b, fun j hj => ?_, fun x hx => by cases hx⟩
  have ha := unknow_at h.rem (emptyH h 0).heads j
  have h1 : (hdAt (clearH h) j).kind = (hdAt (emptyH h 0) j).kind := ha.1
  have h2 : (hdAt (clearH h) j).fields = (hdAt (emptyH h 0) j).fields := ha.2
  rw [h1] at hj
  rw [h2, hl]
  exact he.obj j hj
end Go.Proofs.Ytglienidnffnjaa
