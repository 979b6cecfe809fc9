/-
  NARROWER THAN 'FOR EVERY INPUT', by the rows' own cells (each row's printed sentence says how): LayoutLays: laid · LayoutRaw: laid · LayoutKeeps: laid · LayoutShifts: laid · LayoutPlain: laid · LayoutStands: laid.
  DERIVED. THE GIVEN ROWS OF THIS SEAT. 6 by the template 'for every input the law returns true; each argument reads behind the call as it read before'; 0 by the template 'total and deterministic' (their statements: YtnnagjbkpmkelaaDoorTotals.lean).
  GIVEN WITH THE SEED: the statements are not yours to turn. If you find one false, say at which input.
  Laid BY PROGRAM, IN A SANDBOX (cutbox-rows.mjs): the forced cells as the released guide's own fill.sh prints them over the translation 9eef3e83a4c2d7bf… (all of the seat's roots in one cut). By AI agents, Wed Nov 11 2026. No macro, syntax, notation, axiom, sorry.
-/
import Derived.Test.YtnnagjbkpmkelaaDoorChecked
import GoSem.Claim
import GoSem.ClaimJoined
import GoSem.ClaimMapViews
import Derived.JoinedTies
import Derived.KernelRfl
namespace Go.Proofs.YtnnagjbkpmkelaaDoor
/- THE CELL 'sum', in the pinned program and in every row, IS THE sha256 OF THE DUMP (.gsa) THAT YtnnagjbkpmkelaaDoorProg.lean LOADS. Nothing in Lean hashes anything: it is a label: what it is worth is what the hold of that sum in a sandbox is worth. -/
noncomputable def Tryd.pinned : Pinned := { name := "ytnnagjbkpmkelaadoor", sum := "9eef3e83a4c2d7bfacf9630a33a67205b843c960b1f9d309ff263f1dc68e4a2b", checked := Tryd.checked }
namespace Rows
def none {H : Type} : Left H := { results := [], args := [] }

/- WHAT THE LISTED PACKAGE-LEVEL VARIABLES READ AS WHEN THE CALL BEGINS. Each datum BY PROGRAM (the guide's laid-datum.mjs) off the statement by which the dump's own 'gosem.cut.vars' lays the variable. In a bare row this is a premise. The card (YtnnagjbkpmkelaaDoorCards.lean) ties it to the program's text. -/
def laid_teasel_layout_braces {H : Type} : DataW H := .agg [.lit (.string [119, 104, 101, 114, 101, 32, 123]), .lit (.int .i64 0)]
def laid_teasel_layout_letter {H : Type} : DataW H := .agg [.lit (.string [108, 101, 116]), .lit (.int .i64 0)]

/-- 'teasellaw02.LayoutLays': WHATEVER THE INPUT: true; the input reads as it did. -/
def layoutLaysSpec : ChangeSpec := { name := "layoutLays", fn := fun _ => fun
  | [d] => { results := [.lit (.bool true)], args := [d] }
  | _ => none }
def layoutLaysRow : OpenClaim := { program := "ytnnagjbkpmkelaadoor", sum := "9eef3e83a4c2d7bfacf9630a33a67205b843c960b1f9d309ff263f1dc68e4a2b", func := "teasel/teasellaw02.LayoutLays", spec := "layoutLays", unfollowed := true, recurses := true, named := ["teasel/layout.braces", "teasel/layout.letter"], apart := false, laid := [("teasel/layout.braces", laid_teasel_layout_braces), ("teasel/layout.letter", laid_teasel_layout_letter)] }
def LayoutLaysSaid : Prop := layoutLaysRow.holds Tryd.pinned (OpenSpec.ofChange layoutLaysSpec)

/-- ITS FALSE NEIGHBOUR: 'it returns false'. Refute it at one input. -/
def layoutLaysWrong : ChangeSpec := { name := "layoutLays", fn := fun _ => fun
  | [d] => { results := [.lit (.bool false)], args := [d] }
  | _ => none }
def LayoutLaysWrongFalsely : Prop := layoutLaysRow.holds Tryd.pinned (OpenSpec.ofChange layoutLaysWrong)

/-- 'teasellaw02.LayoutRaw': WHATEVER THE INPUT: true; the input reads as it did. -/
def layoutRawSpec : ChangeSpec := { name := "layoutRaw", fn := fun _ => fun
  | [d] => { results := [.lit (.bool true)], args := [d] }
  | _ => none }
def layoutRawRow : OpenClaim := { program := "ytnnagjbkpmkelaadoor", sum := "9eef3e83a4c2d7bfacf9630a33a67205b843c960b1f9d309ff263f1dc68e4a2b", func := "teasel/teasellaw02.LayoutRaw", spec := "layoutRaw", unfollowed := true, recurses := true, named := ["teasel/layout.braces", "teasel/layout.letter"], apart := false, laid := [("teasel/layout.braces", laid_teasel_layout_braces), ("teasel/layout.letter", laid_teasel_layout_letter)] }
def LayoutRawSaid : Prop := layoutRawRow.holds Tryd.pinned (OpenSpec.ofChange layoutRawSpec)

/-- ITS FALSE NEIGHBOUR: 'it returns false'. Refute it at one input. -/
def layoutRawWrong : ChangeSpec := { name := "layoutRaw", fn := fun _ => fun
  | [d] => { results := [.lit (.bool false)], args := [d] }
  | _ => none }
def LayoutRawWrongFalsely : Prop := layoutRawRow.holds Tryd.pinned (OpenSpec.ofChange layoutRawWrong)

/-- 'teasellaw02.LayoutKeeps': WHATEVER THE INPUT: true; the input reads as it did. -/
def layoutKeepsSpec : ChangeSpec := { name := "layoutKeeps", fn := fun _ => fun
  | [d] => { results := [.lit (.bool true)], args := [d] }
  | _ => none }
def layoutKeepsRow : OpenClaim := { program := "ytnnagjbkpmkelaadoor", sum := "9eef3e83a4c2d7bfacf9630a33a67205b843c960b1f9d309ff263f1dc68e4a2b", func := "teasel/teasellaw02.LayoutKeeps", spec := "layoutKeeps", unfollowed := true, recurses := true, named := ["teasel/layout.braces", "teasel/layout.letter"], apart := false, laid := [("teasel/layout.braces", laid_teasel_layout_braces), ("teasel/layout.letter", laid_teasel_layout_letter)] }
def LayoutKeepsSaid : Prop := layoutKeepsRow.holds Tryd.pinned (OpenSpec.ofChange layoutKeepsSpec)

/-- ITS FALSE NEIGHBOUR: 'it returns false'. Refute it at one input. -/
def layoutKeepsWrong : ChangeSpec := { name := "layoutKeeps", fn := fun _ => fun
  | [d] => { results := [.lit (.bool false)], args := [d] }
  | _ => none }
def LayoutKeepsWrongFalsely : Prop := layoutKeepsRow.holds Tryd.pinned (OpenSpec.ofChange layoutKeepsWrong)

/-- 'teasellaw02.LayoutShifts': WHATEVER THE INPUT: true; the input reads as it did. -/
def layoutShiftsSpec : ChangeSpec := { name := "layoutShifts", fn := fun _ => fun
  | [d1, d2] => { results := [.lit (.bool true)], args := [d1, d2] }
  | _ => none }
def layoutShiftsRow : OpenClaim := { program := "ytnnagjbkpmkelaadoor", sum := "9eef3e83a4c2d7bfacf9630a33a67205b843c960b1f9d309ff263f1dc68e4a2b", func := "teasel/teasellaw02.LayoutShifts", spec := "layoutShifts", unfollowed := true, recurses := true, named := ["teasel/layout.braces", "teasel/layout.letter"], apart := false, laid := [("teasel/layout.braces", laid_teasel_layout_braces), ("teasel/layout.letter", laid_teasel_layout_letter)] }
def LayoutShiftsSaid : Prop := layoutShiftsRow.holds Tryd.pinned (OpenSpec.ofChange layoutShiftsSpec)

/-- ITS FALSE NEIGHBOUR: 'it returns false'. Refute it at one input. -/
def layoutShiftsWrong : ChangeSpec := { name := "layoutShifts", fn := fun _ => fun
  | [d1, d2] => { results := [.lit (.bool false)], args := [d1, d2] }
  | _ => none }
def LayoutShiftsWrongFalsely : Prop := layoutShiftsRow.holds Tryd.pinned (OpenSpec.ofChange layoutShiftsWrong)

/-- 'teasellaw02.LayoutPlain': WHATEVER THE INPUT: true; the input reads as it did. -/
def layoutPlainSpec : ChangeSpec := { name := "layoutPlain", fn := fun _ => fun
  | [d] => { results := [.lit (.bool true)], args := [d] }
  | _ => none }
def layoutPlainRow : OpenClaim := { program := "ytnnagjbkpmkelaadoor", sum := "9eef3e83a4c2d7bfacf9630a33a67205b843c960b1f9d309ff263f1dc68e4a2b", func := "teasel/teasellaw02.LayoutPlain", spec := "layoutPlain", unfollowed := true, recurses := true, named := ["teasel/layout.braces", "teasel/layout.letter"], apart := false, laid := [("teasel/layout.braces", laid_teasel_layout_braces), ("teasel/layout.letter", laid_teasel_layout_letter)] }
def LayoutPlainSaid : Prop := layoutPlainRow.holds Tryd.pinned (OpenSpec.ofChange layoutPlainSpec)

/-- ITS FALSE NEIGHBOUR: 'it returns false'. Refute it at one input. -/
def layoutPlainWrong : ChangeSpec := { name := "layoutPlain", fn := fun _ => fun
  | [d] => { results := [.lit (.bool false)], args := [d] }
  | _ => none }
def LayoutPlainWrongFalsely : Prop := layoutPlainRow.holds Tryd.pinned (OpenSpec.ofChange layoutPlainWrong)

/-- 'teasellaw02.LayoutStands': WHATEVER THE INPUT: true; the input reads as it did. -/
def layoutStandsSpec : ChangeSpec := { name := "layoutStands", fn := fun _ => fun
  | [d] => { results := [.lit (.bool true)], args := [d] }
  | _ => none }
def layoutStandsRow : OpenClaim := { program := "ytnnagjbkpmkelaadoor", sum := "9eef3e83a4c2d7bfacf9630a33a67205b843c960b1f9d309ff263f1dc68e4a2b", func := "teasel/teasellaw02.LayoutStands", spec := "layoutStands", unfollowed := true, recurses := true, named := ["teasel/layout.braces", "teasel/layout.letter"], apart := false, laid := [("teasel/layout.braces", laid_teasel_layout_braces), ("teasel/layout.letter", laid_teasel_layout_letter)] }
def LayoutStandsSaid : Prop := layoutStandsRow.holds Tryd.pinned (OpenSpec.ofChange layoutStandsSpec)

/-- ITS FALSE NEIGHBOUR: 'it returns false'. Refute it at one input. -/
def layoutStandsWrong : ChangeSpec := { name := "layoutStands", fn := fun _ => fun
  | [d] => { results := [.lit (.bool false)], args := [d] }
  | _ => none }
def LayoutStandsWrongFalsely : Prop := layoutStandsRow.holds Tryd.pinned (OpenSpec.ofChange layoutStandsWrong)

/- THE SECOND FORM. 'bulk': how many values and letters a reading holds, each counted each time it is reached (what is shared counts as often as it is met; a slice's spare places count too). A statement '..UptoSaid' is the law's where the arguments, and the package variables that the reading takes, are together of bulk at most 1048576: NARROWER than '..Said'. Prove '..Said' where nothing that the law and all that it calls make is longer than what came in: it says more and counts as full. Else prove '..UptoSaid'. A law counts once. -/
mutual
def uptoBulk {H : Type} : DataW H → Nat
  | .lit (.string bytes) => bytes.length + 1
  | .lit _ => 1
  | .nil => 1
  | .ptr d => uptoBulk d + 1
  | .slice elems spare => uptoBulkAll elems + uptoBulkAll spare + 1
  | .agg parts => uptoBulkAll parts + 1
  | .iface _ d => uptoBulk d + 1
  | .map entries => uptoBulkEntries entries + 1
  | .held _ => 1
def uptoBulkAll {H : Type} : List (DataW H) → Nat
  | [] => 0
  | d :: r => uptoBulk d + uptoBulkAll r
def uptoBulkEntries {H : Type} : List (Lit × DataW H) → Nat
  | [] => 0
  | x :: r => uptoBulkEntry x + uptoBulkEntries r
def uptoBulkEntry {H : Type} : Lit × DataW H → Nat
  | (.string bytes, d) => bytes.length + uptoBulk d + 1
  | (_, d) => uptoBulk d + 1
 end
def uptoSmall : (H : Type) → List (DataW H) → Bool := fun _ ds => decide (uptoBulkAll ds ≤ 1048576)
def OpenSpec.upto (s : _root_.Go.ChangeSpec) : _root_.Go.OpenSpec := { _root_.Go.OpenSpec.ofChange s with cond := some uptoSmall }

/-- 'teasellaw02.LayoutLays', WHERE WHAT IT READS IS OF BULK AT MOST 1048576: true; the input reads as it did. -/
def layoutLaysUptoRow : OpenClaim := { program := "ytnnagjbkpmkelaadoor", sum := "9eef3e83a4c2d7bfacf9630a33a67205b843c960b1f9d309ff263f1dc68e4a2b", func := "teasel/teasellaw02.LayoutLays", spec := "layoutLays", unfollowed := true, recurses := true, named := ["teasel/layout.braces", "teasel/layout.letter"], apart := false, laid := [("teasel/layout.braces", laid_teasel_layout_braces), ("teasel/layout.letter", laid_teasel_layout_letter)], narrowed := true }
def LayoutLaysUptoSaid : Prop := layoutLaysUptoRow.holds Tryd.pinned (OpenSpec.upto layoutLaysSpec)

/-- 'teasellaw02.LayoutRaw', WHERE WHAT IT READS IS OF BULK AT MOST 1048576: true; the input reads as it did. -/
def layoutRawUptoRow : OpenClaim := { program := "ytnnagjbkpmkelaadoor", sum := "9eef3e83a4c2d7bfacf9630a33a67205b843c960b1f9d309ff263f1dc68e4a2b", func := "teasel/teasellaw02.LayoutRaw", spec := "layoutRaw", unfollowed := true, recurses := true, named := ["teasel/layout.braces", "teasel/layout.letter"], apart := false, laid := [("teasel/layout.braces", laid_teasel_layout_braces), ("teasel/layout.letter", laid_teasel_layout_letter)], narrowed := true }
def LayoutRawUptoSaid : Prop := layoutRawUptoRow.holds Tryd.pinned (OpenSpec.upto layoutRawSpec)

/-- 'teasellaw02.LayoutKeeps', WHERE WHAT IT READS IS OF BULK AT MOST 1048576: true; the input reads as it did. -/
def layoutKeepsUptoRow : OpenClaim := { program := "ytnnagjbkpmkelaadoor", sum := "9eef3e83a4c2d7bfacf9630a33a67205b843c960b1f9d309ff263f1dc68e4a2b", func := "teasel/teasellaw02.LayoutKeeps", spec := "layoutKeeps", unfollowed := true, recurses := true, named := ["teasel/layout.braces", "teasel/layout.letter"], apart := false, laid := [("teasel/layout.braces", laid_teasel_layout_braces), ("teasel/layout.letter", laid_teasel_layout_letter)], narrowed := true }
def LayoutKeepsUptoSaid : Prop := layoutKeepsUptoRow.holds Tryd.pinned (OpenSpec.upto layoutKeepsSpec)

/-- 'teasellaw02.LayoutShifts', WHERE WHAT IT READS IS OF BULK AT MOST 1048576: true; the input reads as it did. -/
def layoutShiftsUptoRow : OpenClaim := { program := "ytnnagjbkpmkelaadoor", sum := "9eef3e83a4c2d7bfacf9630a33a67205b843c960b1f9d309ff263f1dc68e4a2b", func := "teasel/teasellaw02.LayoutShifts", spec := "layoutShifts", unfollowed := true, recurses := true, named := ["teasel/layout.braces", "teasel/layout.letter"], apart := false, laid := [("teasel/layout.braces", laid_teasel_layout_braces), ("teasel/layout.letter", laid_teasel_layout_letter)], narrowed := true }
def LayoutShiftsUptoSaid : Prop := layoutShiftsUptoRow.holds Tryd.pinned (OpenSpec.upto layoutShiftsSpec)

/-- 'teasellaw02.LayoutPlain', WHERE WHAT IT READS IS OF BULK AT MOST 1048576: true; the input reads as it did. -/
def layoutPlainUptoRow : OpenClaim := { program := "ytnnagjbkpmkelaadoor", sum := "9eef3e83a4c2d7bfacf9630a33a67205b843c960b1f9d309ff263f1dc68e4a2b", func := "teasel/teasellaw02.LayoutPlain", spec := "layoutPlain", unfollowed := true, recurses := true, named := ["teasel/layout.braces", "teasel/layout.letter"], apart := false, laid := [("teasel/layout.braces", laid_teasel_layout_braces), ("teasel/layout.letter", laid_teasel_layout_letter)], narrowed := true }
def LayoutPlainUptoSaid : Prop := layoutPlainUptoRow.holds Tryd.pinned (OpenSpec.upto layoutPlainSpec)

/-- 'teasellaw02.LayoutStands', WHERE WHAT IT READS IS OF BULK AT MOST 1048576: true; the input reads as it did. -/
def layoutStandsUptoRow : OpenClaim := { program := "ytnnagjbkpmkelaadoor", sum := "9eef3e83a4c2d7bfacf9630a33a67205b843c960b1f9d309ff263f1dc68e4a2b", func := "teasel/teasellaw02.LayoutStands", spec := "layoutStands", unfollowed := true, recurses := true, named := ["teasel/layout.braces", "teasel/layout.letter"], apart := false, laid := [("teasel/layout.braces", laid_teasel_layout_braces), ("teasel/layout.letter", laid_teasel_layout_letter)], narrowed := true }
def LayoutStandsUptoSaid : Prop := layoutStandsUptoRow.holds Tryd.pinned (OpenSpec.upto layoutStandsSpec)

end Rows
end Go.Proofs.YtnnagjbkpmkelaaDoor
