/- PLAIN: tokens, and what the reference lexer computes, as functions on lists of bytes. -/
import Derived.Test.YtanpeofnlihhoaaDoorGw6
namespace Go.Proofs.YtanpeofnlihhoaaDoor

structure Tok where
  kind : Int
  text : List UInt8
  num : Int
  line : Int
  col : Int
  deriving DecidableEq

structure Diag where
  file : List UInt8
  line : Int
  col : Int
  number : Int
  deriving DecidableEq

def tokE : Enc Tok where
  size := 5
  cells t := [i64 t.kind, str t.text, i64 t.num, i64 t.line, i64 t.col]
  len _ := rfl
  one t u hu := by
    simp only [List.mem_cons, List.not_mem_nil, or_false] at hu
    rcases hu with rfl | rfl | rfl | rfl | rfl <;> rfl
def strE : Enc (List UInt8) where
  size := 1
  cells s := [str s]
  len _ := rfl
  one t u hu := by
    simp only [List.mem_cons, List.not_mem_nil, or_false] at hu
    subst hu; rfl
def diagCells (d : Diag) : List Value := [str d.file, i64 d.line, i64 d.col, i64 d.number]
theorem tok_eq (s t : Tok) : (decide (s.kind = t.kind) && (decide (s.text = t.text) && (decide (s.num = t.num) && (decide (s.line = t.line) && (decide (s.col = t.col) && true))))) = decide (s = t) := by
  obtain ⟨a1, a2, a3, a4, a5⟩ := s
  obtain ⟨b1, b2, b3, b4, b5⟩ := t
  simp [Bool.decide_and]
theorem diag_eq (s t : Diag) : (decide (s.file = t.file) && (decide (s.line = t.line) && (decide (s.col = t.col) && (decide (s.number = t.number) && true)))) = decide (s = t) := by
  obtain ⟨a1, a2, a3, a4⟩ := s
  obtain ⟨b1, b2, b3, b4⟩ := t
  simp [Bool.decide_and]
def Diag.ok : Diag := ⟨[], 0, 0, 0⟩

def gt (s : List UInt8) (i : Nat) : UInt8 := s.getD i 0

def letterB (b : UInt8) : Bool := decide (((97 : Int) ≤ b.toNat ∧ (b.toNat : Int) ≤ 122) ∨ ((65 : Int) ≤ b.toNat ∧ (b.toNat : Int) ≤ 90))
def digitB (b : UInt8) : Bool := decide ((48 : Int) ≤ b.toNat ∧ (b.toNat : Int) ≤ 57)
def marksL : List UInt8 := [33, 35, 36, 37, 38, 42, 43, 46, 47, 60, 61, 62, 63, 64, 92, 94, 124, 45, 58, 126]
def markB (b : UInt8) : Bool := decide (marksL.contains b = true ∧ ¬ (b.toNat : Int) = 126)
def singlesL : List UInt8 := [40, 41, 44, 59, 91, 93, 123, 125, 96]
def wordsL : List (List UInt8) := [[99, 97, 115, 101], [99, 108, 97, 115, 115], [100, 97, 116, 97], [100, 111], [101, 108, 115, 101], [105, 102], [105, 109, 112, 111, 114, 116], [105, 110], [105, 110, 102, 105, 120], [105, 110, 102, 105, 120, 108], [105, 110, 102, 105, 120, 114], [105, 110, 115, 116, 97, 110, 99, 101], [108, 101, 116], [109, 111, 100, 117, 108, 101], [111, 102], [116, 104, 101, 110], [119, 104, 101, 114, 101]]
def signsL : List (List UInt8) := [[61], [92], [124], [60, 45], [45, 62], [64], [61, 62], [58, 58]]

/-- may a byte stand in a row of a kind? -/
def goesB (kind : Nat) (c : UInt8) : Bool :=
  if kind = 0 then decide (((letterB c = true ∨ digitB c = true) ∨ (c.toNat : Int) = 95) ∨ (c.toNat : Int) = 39)
  else if kind = 1 then digitB c
  else if kind = 2 then markB c
  else decide (¬ (c.toNat : Int) = 10)

def rowF (s : List UInt8) (at_ kind : Nat) : Nat := ((s.drop at_).takeWhile (goesB kind)).length

/-- the line and the column of a place -/
def posF (s : List UInt8) : Nat → Nat × Nat
  | 0 => (1, 1)
  | k + 1 => if gt s k = 10 then ((posF s k).1 + 1, 1) else ((posF s k).1, (posF s k).2 + 1)

def remF (s : List UInt8) (at_ : Nat) : Nat → Int → Nat → Option Nat
  | 0, _, _ => none
  | f + 1, deep, i =>
    if i + 1 < s.length then
      if gt s i = 123 ∧ gt s (i + 1) = 45 then remF s at_ f (deep + 1) (i + 2)
      else if gt s i = 45 ∧ gt s (i + 1) = 125 then
        if deep - 1 = 0 then some (i + 2 - at_) else remF s at_ f (deep - 1) (i + 2)
      else remF s at_ f deep (i + 1)
    else none
def remarkF (s : List UInt8) (at_ : Nat) : Option Nat := remF s at_ (s.length + 1) 0 at_

/-- a decimal number behind a backslash, capped at 1000; and where it ends -/
def decF (s : List UInt8) : Nat → Nat → Nat → Nat × Nat
  | 0, n, i => (n, i)
  | f + 1, n, i => if i < s.length ∧ digitB (gt s i) = true then decF s f (min (10 * n + ((gt s i).toNat - 48)) 1000) (i + 1) else (n, i)
def escF (c : UInt8) : UInt8 := if c = 110 then 10 else if c = 116 then 9 else c
def escsL : List UInt8 := [110, 116, 92, 34]
/-- what a text stands for, and where it ends -/
def txtF (s : List UInt8) : Nat → List UInt8 → Nat → Option (List UInt8 × Nat)
  | 0, _, _ => none
  | f + 1, out, i =>
    if i < s.length then
      if gt s i = 34 then some (out, i + 1)
      else if ¬ gt s i = 92 then (if gt s i < 32 ∨ 126 < gt s i then none else txtF s f (out ++ [gt s i]) (i + 1))
      else if i + 1 < s.length ∧ digitB (gt s (i + 1)) = true then
        (let d := decF s s.length 0 (i + 1)
         if 255 < d.1 then none else txtF s f (out ++ [UInt8.ofNat d.1]) d.2)
      else if s.length ≤ i + 1 ∨ escsL.contains (gt s (i + 1)) = false then none
      else txtF s f (out ++ [escF (gt s (i + 1))]) (i + 2)
    else none
def textF (s : List UInt8) (at_ : Nat) : Option (List UInt8 × Nat) := (txtF s (s.length + 1) [] (at_ + 1)).map fun p => (p.1, p.2 - at_)

/-- a number's value; none: it is too great -/
def numF : List UInt8 → Nat → Option Nat
  | [], n => some n
  | c :: r, n => if (9223372036854775807 - (c.toNat - 48)) / 10 < n then none else numF r (10 * n + (c.toNat - 48))

inductive LexR where
  | skip (n : Nat)
  | tok (kind : Int) (text : List UInt8) (num : Int) (n : Nat)
  | bad (e : Int)

def cutF (s : List UInt8) (at_ n : Nat) : List UInt8 := (s.take (at_ + n)).drop at_

/-- what is done at a place -/
def lexF (s : List UInt8) (at_ : Nat) : LexR :=
  let b := gt s at_
  if b = 32 ∨ b = 10 then .skip 1
  else if b = 123 ∧ at_ + 1 < s.length ∧ gt s (at_ + 1) = 45 then
    match remarkF s at_ with
    | none => .bad 14
    | some k => .skip k
  else if letterB b = true ∨ b = 95 then
    let n := rowF s at_ 0
    let t := cutF s at_ n
    .tok (if wordsL.contains t then 7 else if t = [95] then 8 else if 65 ≤ b ∧ b ≤ 90 then 2 else 1) t 0 n
  else if digitB b = true then
    let n := rowF s at_ 1
    match numF (cutF s at_ n) 0 with
    | none => .bad 12
    | some v => .tok 5 (cutF s at_ n) v n
  else if markB b = true then
    let n := rowF s at_ 2
    let t := cutF s at_ n
    if t.all (fun c => c = 45) = true ∧ 2 ≤ n then .skip (rowF s at_ 3)
    else .tok (if signsL.contains t then 8 else if b = 58 then 4 else 3) t 0 n
  else if singlesL.contains b = true then .tok 8 (cutF s at_ 1) 0 1
  else if b = 34 then
    match textF s at_ with
    | none => .bad 13
    | some (t, n) => .tok 6 t 0 n
  else .bad 11

def readLoop (s : List UInt8) : Nat → Nat → List Tok → List Tok × Diag
  | 0, _, out => (out, .ok)
  | f + 1, at_, out =>
    if at_ < s.length then
      match lexF s at_ with
      | .skip n => readLoop s f (at_ + n) out
      | .tok k t v n => readLoop s f (at_ + n) (out ++ [⟨k, t, v, (posF s at_).1, (posF s at_).2⟩])
      | .bad e => ([], ⟨[], (posF s at_).1, (posF s at_).2, e⟩)
    else (out ++ [⟨9, [], 0, (posF s at_).1, (posF s at_).2⟩], .ok)
def readF (s : List UInt8) : List Tok × Diag :=
  if 16384 < s.length then ([], ⟨[], 1, 1, 10⟩) else readLoop s (s.length + 1) 0 []
end Go.Proofs.YtanpeofnlihhoaaDoor
