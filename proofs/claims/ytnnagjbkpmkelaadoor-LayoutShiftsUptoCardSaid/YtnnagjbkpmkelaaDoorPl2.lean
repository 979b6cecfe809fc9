/- PLAIN: what the reference of the layout does, as functions on lists. -/
import Derived.Test.YtnnagjbkpmkelaaDoorPl1
namespace Go.Proofs.YtnnagjbkpmkelaaDoor

structure Thg where
  sort : List UInt8
  col : Int
  deriving DecidableEq
def thgE : Enc Thg where
  size := 2
  cells t := [str t.sort, i64 t.col]
  len _ := rfl
  one t u hu := by
    simp only [List.mem_cons, List.not_mem_nil, or_false] at hu
    rcases hu with rfl | rfl <;> rfl
def thg0 : Thg := ⟨[], 0⟩
def tok0 : Tok := ⟨0, [], 0, 0, 0⟩

-- the words
def wWhere : List UInt8 := [119, 104, 101, 114, 101]
def wLet : List UInt8 := [108, 101, 116]
def wDo : List UInt8 := [100, 111]
def wOf : List UInt8 := [111, 102]
def wThen : List UInt8 := [116, 104, 101, 110]
def wElse : List UInt8 := [101, 108, 115, 101]
def wIn : List UInt8 := [105, 110]
def wIf : List UInt8 := [105, 102]
def wCase : List UInt8 := [99, 97, 115, 101]

def wordF (t : Tok) : List UInt8 := if t.kind = 7 ∨ t.kind = 8 then t.text else []
def openP (w : List UInt8) : Prop := ((w = wWhere ∨ w = wLet) ∨ w = wDo) ∨ w = wOf
instance (w : List UInt8) : Decidable (openP w) := by unfold openP; infer_instance
def closeP (w : List UInt8) : Prop := ((((((w = [41] ∨ w = [93]) ∨ w = [125]) ∨ w = [44]) ∨ w = wThen) ∨ w = wElse) ∨ w = wOf) ∨ w = wIn
instance (w : List UInt8) : Decidable (closeP w) := by unfold closeP; infer_instance
def looseP (x : Thg) : Prop := x.sort = [] ∨ x.sort = wLet
instance (x : Thg) : Decidable (looseP x) := by unfold looseP; infer_instance

def laidT (text : List UInt8) (t : Tok) : Tok := ⟨8, text, 1, t.line, t.col⟩

def blkF (st : List Thg) : Nat → Int
  | 0 => -1
  | i + 1 => if (st.getD i thg0).sort = [] then i else if (st.getD i thg0).sort = [123, 125] then -1 else blkF st i
def onlyF (st : List Thg) (at_ : Nat) : Bool := (st.drop (at_ + 1)).all fun x => decide (looseP x)

/-- step 2; the last part: is it well? -/
def lineF (t : Tok) (col : Int) : Nat → List Tok → List Thg → Option (List Tok × List Thg)
  | 0, _, _ => none
  | f + 1, out, st =>
    let b := blkF st st.length
    let c := (st.getD b.toNat thg0).col
    if b < 0 ∨ c < col then some (out, st)
    else if col = c ∧ closeP (wordF t) then some (out, st)
    else if onlyF st b.toNat = false then none
    else if col = c then some (out ++ [laidT [59] t], st.take (b.toNat + 1))
    else lineF t col f (out ++ [laidT [125] t]) (st.take b.toNat)

def fitsP (x w : List UInt8) : Bool :=
  if w = [41] then decide (x = [40])
  else if w = [93] then decide (x = [91])
  else if w = [125] then decide (x = [123] ∨ x = [123, 125])
  else if w = [44] then decide ((x = [40] ∨ x = [91]) ∨ x = [123])
  else if w = wThen then decide (x = wIf)
  else if w = wElse then decide (x = wThen)
  else if w = wOf then decide (x = wCase)
  else decide (w = wIn ∧ x = wLet)

/-- how many things lie below what a closer passes over -/
def passF (st : List Thg) (w : List UInt8) : Nat → Nat
  | 0 => 0
  | x + 1 => if (st.getD x thg0).sort = [] ∨ ((st.getD x thg0).sort = wLet ∧ ¬ w = wIn) then passF st w x else x + 1
def closF (t : Tok) (out : List Tok) (st : List Thg) : List Tok × List Thg :=
  let w := wordF t
  if ¬ closeP w then (out, st) else
  let n := passF st w st.length
  if n = 0 ∨ fitsP (st.getD (n - 1) thg0).sort w = false then (out, st) else
  let out' := out ++ ((st.drop n).filter fun x => decide (x.sort = [])).map fun _ => laidT [125] t
  if w = wThen then (out', (st.take n).set (n - 1) ⟨wThen, (st.getD (n - 1) thg0).col⟩)
  else if ¬ w = [44] then (out', st.take (n - 1))
  else (out', st.take n)

def markP (w : List UInt8) : Prop := ((((w = [40] ∨ w = [91]) ∨ w = [123]) ∨ w = wIf) ∨ w = wCase) ∨ w = wLet
instance (w : List UInt8) : Decidable (markP w) := by unfold markP; infer_instance

/-- behind an opener: 'none': braces were put, the token is done -/
def openF (t : Tok) (out : List Tok) (st : List Thg) : List Tok × List Thg × Bool :=
  let b := blkF st st.length
  let m := if 0 ≤ b then (st.getD b.toNat thg0).col else 0
  if m < t.col then (out ++ [laidT [123] t], st ++ [⟨[], t.col⟩], true) else (out ++ [laidT [123] t] ++ [laidT [125] t], st, false)
def tokF (t ahead : Tok) (first : Bool) (out : List Tok) (st : List Thg) : Option (List Tok × List Thg) :=
  if openP (wordF ahead) ∧ wordF t = [123] then some (out ++ [t], st ++ [⟨[123, 125], 0⟩]) else
  let o := if openP (wordF ahead) then openF t out st else (out, st, false)
  match (if first = true ∧ o.2.2 = false then lineF t t.col (o.2.1.length + 1) o.1 o.2.1 else some (o.1, o.2.1)) with
  | none => none
  | some (out, st) =>
    let c := closF t out st
    some (c.1 ++ [t], if markP (wordF t) then c.2 ++ [⟨wordF t, 0⟩] else c.2)

def runF : List Tok → Tok → Bool → List Tok → List Thg → Option (List Tok × List Thg) ⊕ Tok
  | [], _, _, out, st => .inl (some (out, st))
  | t :: r, ahead, first, out, st => match tokF t ahead (first || decide (ahead.line < t.line)) out st with
    | none => .inr t
    | some (out, st) => runF r t false out st

/-- the tokens ahead of the end, and the end -/
def splitF : List Tok → Tok → List Tok × Tok
  | [], e => ([], e)
  | t :: r, _ => if t.kind = 9 then ([], t) else let s := splitF r ⟨9, [], 0, t.line, t.col⟩; (t :: s.1, s.2)
def badD (t : Tok) : Diag := ⟨[], t.line, t.col, 20⟩
def layF (ts : List Tok) : List Tok × Diag :=
  let s := splitF ts ⟨9, [], 0, 1, 1⟩
  match runF s.1 tok0 true [] [] with
  | .inr t => ([], badD t)
  | .inl none => ([], .ok)
  | .inl (some (out, st)) =>
    let out := if openP (wordF (s.1.getLastD tok0)) then out ++ [laidT [123] s.2] ++ [laidT [125] s.2] else out
    match lineF s.2 0 (st.length + 1) out st with
    | none => ([], badD s.2)
    | some (out, _) => (out ++ [s.2], .ok)
end Go.Proofs.YtnnagjbkpmkelaaDoor
