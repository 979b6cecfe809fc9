/-
  NARROWER THAN 'FOR EVERY INPUT', by the rows' own cells (each row's printed sentence says how): UnifySolves: loops · UnifyTurned: loops · UnifyApplies: loops · UnifyMatches: loops · UnifyBest: loops · UnifyOnce: loops.
  DERIVED. THE GIVEN ROWS OF THIS SEAT. 6 by the template 'for every input the law returns true; each argument reads behind the call as it read before'; 0 by the template 'total and deterministic' (their statements: YtfkmlcgccffmnaaTotals.lean).
  GIVEN WITH THE SEED: the statements are not yours to turn. If you find one false, say at which input.
  Laid BY PROGRAM, IN A SANDBOX (cutbox-rows.mjs): the forced cells as the released guide's own fill.sh prints them over the translation c4e26352bc171b7a… (all of the seat's roots in one cut). By AI agents, Wed Nov 11 2026. No macro, syntax, notation, axiom, sorry.
-/
import Derived.Test.YtfkmlcgccffmnaaChecked
import GoSem.Claim
import GoSem.ClaimJoined
import GoSem.ClaimMapViews
import Derived.JoinedTies
import Derived.KernelRfl
namespace Go.Proofs.Ytfkmlcgccffmnaa
/- THE CELL 'sum', in the pinned program and in every row, IS THE sha256 OF THE DUMP (.gsa) THAT YtfkmlcgccffmnaaProg.lean LOADS. Nothing in Lean hashes anything: it is a label: what it is worth is what the hold of that sum in a sandbox is worth. -/
noncomputable def Try.pinned : Pinned := { name := "ytfkmlcgccffmnaa", sum := "c4e26352bc171b7ae43fe9bb008a5e662e10ccddaa02175e518389a915d45d94", checked := Try.checked }
namespace Rows
def none {H : Type} : Left H := { results := [], args := [] }

/-- 'teasellaw07.UnifySolves': WHATEVER THE INPUT: true; the input reads as it did. -/
def unifySolvesSpec : ChangeSpec := { name := "unifySolves", fn := fun _ => fun
  | [d] => { results := [.lit (.bool true)], args := [d] }
  | _ => none }
def unifySolvesRow : OpenClaim := { program := "ytfkmlcgccffmnaa", sum := "c4e26352bc171b7ae43fe9bb008a5e662e10ccddaa02175e518389a915d45d94", func := "teasel/teasellaw07.UnifySolves", spec := "unifySolves", inPlace := ["internal/abi.NoEscape", "internal/bytealg.MakeNoZero"], unfollowed := true, recurses := true, loops := true, apart := false }
def UnifySolvesSaid : Prop := unifySolvesRow.holds Try.pinned (OpenSpec.ofChange unifySolvesSpec)

/-- ITS FALSE NEIGHBOUR: 'it returns false'. Refute it at one input. -/
def unifySolvesWrong : ChangeSpec := { name := "unifySolves", fn := fun _ => fun
  | [d] => { results := [.lit (.bool false)], args := [d] }
  | _ => none }
def UnifySolvesWrongFalsely : Prop := unifySolvesRow.holds Try.pinned (OpenSpec.ofChange unifySolvesWrong)

/-- 'teasellaw07.UnifyTurned': WHATEVER THE INPUT: true; the input reads as it did. -/
def unifyTurnedSpec : ChangeSpec := { name := "unifyTurned", fn := fun _ => fun
  | [d] => { results := [.lit (.bool true)], args := [d] }
  | _ => none }
def unifyTurnedRow : OpenClaim := { program := "ytfkmlcgccffmnaa", sum := "c4e26352bc171b7ae43fe9bb008a5e662e10ccddaa02175e518389a915d45d94", func := "teasel/teasellaw07.UnifyTurned", spec := "unifyTurned", inPlace := ["internal/abi.NoEscape", "internal/bytealg.MakeNoZero"], unfollowed := true, recurses := true, loops := true, apart := false }
def UnifyTurnedSaid : Prop := unifyTurnedRow.holds Try.pinned (OpenSpec.ofChange unifyTurnedSpec)

/-- ITS FALSE NEIGHBOUR: 'it returns false'. Refute it at one input. -/
def unifyTurnedWrong : ChangeSpec := { name := "unifyTurned", fn := fun _ => fun
  | [d] => { results := [.lit (.bool false)], args := [d] }
  | _ => none }
def UnifyTurnedWrongFalsely : Prop := unifyTurnedRow.holds Try.pinned (OpenSpec.ofChange unifyTurnedWrong)

/-- 'teasellaw07.UnifyApplies': WHATEVER THE INPUT: true; the input reads as it did. -/
def unifyAppliesSpec : ChangeSpec := { name := "unifyApplies", fn := fun _ => fun
  | [d1, d2] => { results := [.lit (.bool true)], args := [d1, d2] }
  | _ => none }
def unifyAppliesRow : OpenClaim := { program := "ytfkmlcgccffmnaa", sum := "c4e26352bc171b7ae43fe9bb008a5e662e10ccddaa02175e518389a915d45d94", func := "teasel/teasellaw07.UnifyApplies", spec := "unifyApplies", inPlace := ["internal/abi.NoEscape", "internal/bytealg.MakeNoZero"], unfollowed := true, recurses := true, loops := true, apart := false }
def UnifyAppliesSaid : Prop := unifyAppliesRow.holds Try.pinned (OpenSpec.ofChange unifyAppliesSpec)

/-- ITS FALSE NEIGHBOUR: 'it returns false'. Refute it at one input. -/
def unifyAppliesWrong : ChangeSpec := { name := "unifyApplies", fn := fun _ => fun
  | [d1, d2] => { results := [.lit (.bool false)], args := [d1, d2] }
  | _ => none }
def UnifyAppliesWrongFalsely : Prop := unifyAppliesRow.holds Try.pinned (OpenSpec.ofChange unifyAppliesWrong)

/-- 'teasellaw07.UnifyMatches': WHATEVER THE INPUT: true; the input reads as it did. -/
def unifyMatchesSpec : ChangeSpec := { name := "unifyMatches", fn := fun _ => fun
  | [d1, d2] => { results := [.lit (.bool true)], args := [d1, d2] }
  | _ => none }
def unifyMatchesRow : OpenClaim := { program := "ytfkmlcgccffmnaa", sum := "c4e26352bc171b7ae43fe9bb008a5e662e10ccddaa02175e518389a915d45d94", func := "teasel/teasellaw07.UnifyMatches", spec := "unifyMatches", inPlace := ["internal/abi.NoEscape", "internal/bytealg.MakeNoZero"], unfollowed := true, recurses := true, loops := true, apart := false }
def UnifyMatchesSaid : Prop := unifyMatchesRow.holds Try.pinned (OpenSpec.ofChange unifyMatchesSpec)

/-- ITS FALSE NEIGHBOUR: 'it returns false'. Refute it at one input. -/
def unifyMatchesWrong : ChangeSpec := { name := "unifyMatches", fn := fun _ => fun
  | [d1, d2] => { results := [.lit (.bool false)], args := [d1, d2] }
  | _ => none }
def UnifyMatchesWrongFalsely : Prop := unifyMatchesRow.holds Try.pinned (OpenSpec.ofChange unifyMatchesWrong)

/-- 'teasellaw07.UnifyBest': WHATEVER THE INPUT: true; the input reads as it did. -/
def unifyBestSpec : ChangeSpec := { name := "unifyBest", fn := fun _ => fun
  | [d1, d2] => { results := [.lit (.bool true)], args := [d1, d2] }
  | _ => none }
def unifyBestRow : OpenClaim := { program := "ytfkmlcgccffmnaa", sum := "c4e26352bc171b7ae43fe9bb008a5e662e10ccddaa02175e518389a915d45d94", func := "teasel/teasellaw07.UnifyBest", spec := "unifyBest", inPlace := ["internal/abi.NoEscape", "internal/bytealg.MakeNoZero"], unfollowed := true, recurses := true, loops := true, apart := false }
def UnifyBestSaid : Prop := unifyBestRow.holds Try.pinned (OpenSpec.ofChange unifyBestSpec)

/-- ITS FALSE NEIGHBOUR: 'it returns false'. Refute it at one input. -/
def unifyBestWrong : ChangeSpec := { name := "unifyBest", fn := fun _ => fun
  | [d1, d2] => { results := [.lit (.bool false)], args := [d1, d2] }
  | _ => none }
def UnifyBestWrongFalsely : Prop := unifyBestRow.holds Try.pinned (OpenSpec.ofChange unifyBestWrong)

/-- 'teasellaw07.UnifyOnce': WHATEVER THE INPUT: true; the input reads as it did. -/
def unifyOnceSpec : ChangeSpec := { name := "unifyOnce", fn := fun _ => fun
  | [d] => { results := [.lit (.bool true)], args := [d] }
  | _ => none }
def unifyOnceRow : OpenClaim := { program := "ytfkmlcgccffmnaa", sum := "c4e26352bc171b7ae43fe9bb008a5e662e10ccddaa02175e518389a915d45d94", func := "teasel/teasellaw07.UnifyOnce", spec := "unifyOnce", inPlace := ["internal/abi.NoEscape", "internal/bytealg.MakeNoZero"], unfollowed := true, recurses := true, loops := true, apart := false }
def UnifyOnceSaid : Prop := unifyOnceRow.holds Try.pinned (OpenSpec.ofChange unifyOnceSpec)

/-- ITS FALSE NEIGHBOUR: 'it returns false'. Refute it at one input. -/
def unifyOnceWrong : ChangeSpec := { name := "unifyOnce", fn := fun _ => fun
  | [d] => { results := [.lit (.bool false)], args := [d] }
  | _ => none }
def UnifyOnceWrongFalsely : Prop := unifyOnceRow.holds Try.pinned (OpenSpec.ofChange unifyOnceWrong)

/- THE SECOND FORM. 'bulk': how many values and letters a reading holds, each counted each time it is reached (what is shared counts as often as it is met; a slice's spare places count too). A statement '..UptoSaid' is the law's where the arguments, and the package variables that the reading takes, are together of bulk at most 1048576: NARROWER than '..Said'. Prove '..Said' where nothing that the law and all that it calls make is longer than what came in: it says more and counts as full. Else prove '..UptoSaid'. A law counts once. -/
mutual
def uptoBulk {H : Type} : DataW H → Nat
  | .lit (.string bytes) => bytes.length + 1
  | .lit _ => 1
  | .nil => 1
  | .ptr d => uptoBulk d + 1
  | .slice elems spare => uptoBulkAll elems + uptoBulkAll spare + 1
  | .agg parts => uptoBulkAll parts + 1
  | .iface _ d => uptoBulk d + 1
  | .map entries => uptoBulkEntries entries + 1
  | .held _ => 1
def uptoBulkAll {H : Type} : List (DataW H) → Nat
  | [] => 0
  | d :: r => uptoBulk d + uptoBulkAll r
def uptoBulkEntries {H : Type} : List (Lit × DataW H) → Nat
  | [] => 0
  | x :: r => uptoBulkEntry x + uptoBulkEntries r
def uptoBulkEntry {H : Type} : Lit × DataW H → Nat
  | (.string bytes, d) => bytes.length + uptoBulk d + 1
  | (_, d) => uptoBulk d + 1
 end
def uptoSmall : (H : Type) → List (DataW H) → Bool := fun _ ds => decide (uptoBulkAll ds ≤ 1048576)
def OpenSpec.upto (s : _root_.Go.ChangeSpec) : _root_.Go.OpenSpec := { _root_.Go.OpenSpec.ofChange s with cond := some uptoSmall }

/-- 'teasellaw07.UnifySolves', WHERE WHAT IT READS IS OF BULK AT MOST 1048576: true; the input reads as it did. -/
def unifySolvesUptoRow : OpenClaim := { program := "ytfkmlcgccffmnaa", sum := "c4e26352bc171b7ae43fe9bb008a5e662e10ccddaa02175e518389a915d45d94", func := "teasel/teasellaw07.UnifySolves", spec := "unifySolves", inPlace := ["internal/abi.NoEscape", "internal/bytealg.MakeNoZero"], unfollowed := true, recurses := true, loops := true, apart := false, narrowed := true }
def UnifySolvesUptoSaid : Prop := unifySolvesUptoRow.holds Try.pinned (OpenSpec.upto unifySolvesSpec)

/-- 'teasellaw07.UnifyTurned', WHERE WHAT IT READS IS OF BULK AT MOST 1048576: true; the input reads as it did. -/
def unifyTurnedUptoRow : OpenClaim := { program := "ytfkmlcgccffmnaa", sum := "c4e26352bc171b7ae43fe9bb008a5e662e10ccddaa02175e518389a915d45d94", func := "teasel/teasellaw07.UnifyTurned", spec := "unifyTurned", inPlace := ["internal/abi.NoEscape", "internal/bytealg.MakeNoZero"], unfollowed := true, recurses := true, loops := true, apart := false, narrowed := true }
def UnifyTurnedUptoSaid : Prop := unifyTurnedUptoRow.holds Try.pinned (OpenSpec.upto unifyTurnedSpec)

/-- 'teasellaw07.UnifyApplies', WHERE WHAT IT READS IS OF BULK AT MOST 1048576: true; the input reads as it did. -/
def unifyAppliesUptoRow : OpenClaim := { program := "ytfkmlcgccffmnaa", sum := "c4e26352bc171b7ae43fe9bb008a5e662e10ccddaa02175e518389a915d45d94", func := "teasel/teasellaw07.UnifyApplies", spec := "unifyApplies", inPlace := ["internal/abi.NoEscape", "internal/bytealg.MakeNoZero"], unfollowed := true, recurses := true, loops := true, apart := false, narrowed := true }
def UnifyAppliesUptoSaid : Prop := unifyAppliesUptoRow.holds Try.pinned (OpenSpec.upto unifyAppliesSpec)

/-- 'teasellaw07.UnifyMatches', WHERE WHAT IT READS IS OF BULK AT MOST 1048576: true; the input reads as it did. -/
def unifyMatchesUptoRow : OpenClaim := { program := "ytfkmlcgccffmnaa", sum := "c4e26352bc171b7ae43fe9bb008a5e662e10ccddaa02175e518389a915d45d94", func := "teasel/teasellaw07.UnifyMatches", spec := "unifyMatches", inPlace := ["internal/abi.NoEscape", "internal/bytealg.MakeNoZero"], unfollowed := true, recurses := true, loops := true, apart := false, narrowed := true }
def UnifyMatchesUptoSaid : Prop := unifyMatchesUptoRow.holds Try.pinned (OpenSpec.upto unifyMatchesSpec)

/-- 'teasellaw07.UnifyBest', WHERE WHAT IT READS IS OF BULK AT MOST 1048576: true; the input reads as it did. -/
def unifyBestUptoRow : OpenClaim := { program := "ytfkmlcgccffmnaa", sum := "c4e26352bc171b7ae43fe9bb008a5e662e10ccddaa02175e518389a915d45d94", func := "teasel/teasellaw07.UnifyBest", spec := "unifyBest", inPlace := ["internal/abi.NoEscape", "internal/bytealg.MakeNoZero"], unfollowed := true, recurses := true, loops := true, apart := false, narrowed := true }
def UnifyBestUptoSaid : Prop := unifyBestUptoRow.holds Try.pinned (OpenSpec.upto unifyBestSpec)

/-- 'teasellaw07.UnifyOnce', WHERE WHAT IT READS IS OF BULK AT MOST 1048576: true; the input reads as it did. -/
def unifyOnceUptoRow : OpenClaim := { program := "ytfkmlcgccffmnaa", sum := "c4e26352bc171b7ae43fe9bb008a5e662e10ccddaa02175e518389a915d45d94", func := "teasel/teasellaw07.UnifyOnce", spec := "unifyOnce", inPlace := ["internal/abi.NoEscape", "internal/bytealg.MakeNoZero"], unfollowed := true, recurses := true, loops := true, apart := false, narrowed := true }
def UnifyOnceUptoSaid : Prop := unifyOnceUptoRow.holds Try.pinned (OpenSpec.upto unifyOnceSpec)

end Rows
end Go.Proofs.Ytfkmlcgccffmnaa
