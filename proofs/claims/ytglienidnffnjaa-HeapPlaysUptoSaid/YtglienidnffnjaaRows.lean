/-
  No cell of these rows narrows 'for every input' (looked for: loops, veiled, ifaces, maps, wideKeys, modest, calm, conditions, laid).
  DERIVED. THE GIVEN ROWS OF THIS SEAT. 8 by the template 'for every input the law returns true; each argument reads behind the call as it read before'; 0 by the template 'total and deterministic' (their statements: YtglienidnffnjaaTotals.lean).
  GIVEN WITH THE SEED: the statements are not yours to turn. If you find one false, say at which input.
  Laid BY PROGRAM, IN A SANDBOX (cutbox-rows.mjs): the forced cells as the released guide's own fill.sh prints them over the translation db12d49149b179d6… (all of the seat's roots in one cut). By AI agents, Wed Nov 11 2026. No macro, syntax, notation, axiom, sorry.
-/
import Derived.Test.YtglienidnffnjaaChecked
import GoSem.Claim
import GoSem.ClaimJoined
import GoSem.ClaimMapViews
import Derived.JoinedTies
import Derived.KernelRfl
namespace Go.Proofs.Ytglienidnffnjaa
/- THE CELL 'sum', in the pinned program and in every row, IS THE sha256 OF THE DUMP (.gsa) THAT YtglienidnffnjaaProg.lean LOADS. Nothing in Lean hashes anything: it is a label: what it is worth is what the hold of that sum in a sandbox is worth. -/
noncomputable def Try.pinned : Pinned := { name := "ytglienidnffnjaa", sum := "db12d49149b179d6039ef0bb451d7a868866642c3a45a15a55a0672b8a127e41", checked := Try.checked }
namespace Rows
def none {H : Type} : Left H := { results := [], args := [] }

/-- 'teasellaw18.HeapChains': WHATEVER THE INPUT: true; the input reads as it did. -/
def heapChainsSpec : ChangeSpec := { name := "heapChains", fn := fun _ => fun
  | [d1, d2] => { results := [.lit (.bool true)], args := [d1, d2] }
  | _ => none }
def heapChainsRow : OpenClaim := { program := "ytglienidnffnjaa", sum := "db12d49149b179d6039ef0bb451d7a868866642c3a45a15a55a0672b8a127e41", func := "teasel/teasellaw18.HeapChains", spec := "heapChains", unfollowed := true, recurses := true, apart := false }
def HeapChainsSaid : Prop := heapChainsRow.holds Try.pinned (OpenSpec.ofChange heapChainsSpec)

/-- ITS FALSE NEIGHBOUR: 'it returns false'. Refute it at one input. -/
def heapChainsWrong : ChangeSpec := { name := "heapChains", fn := fun _ => fun
  | [d1, d2] => { results := [.lit (.bool false)], args := [d1, d2] }
  | _ => none }
def HeapChainsWrongFalsely : Prop := heapChainsRow.holds Try.pinned (OpenSpec.ofChange heapChainsWrong)

/-- 'teasellaw18.HeapApart': WHATEVER THE INPUT: true; the input reads as it did. -/
def heapApartSpec : ChangeSpec := { name := "heapApart", fn := fun _ => fun
  | [d1, d2] => { results := [.lit (.bool true)], args := [d1, d2] }
  | _ => none }
def heapApartRow : OpenClaim := { program := "ytglienidnffnjaa", sum := "db12d49149b179d6039ef0bb451d7a868866642c3a45a15a55a0672b8a127e41", func := "teasel/teasellaw18.HeapApart", spec := "heapApart", unfollowed := true, recurses := true, apart := false }
def HeapApartSaid : Prop := heapApartRow.holds Try.pinned (OpenSpec.ofChange heapApartSpec)

/-- ITS FALSE NEIGHBOUR: 'it returns false'. Refute it at one input. -/
def heapApartWrong : ChangeSpec := { name := "heapApart", fn := fun _ => fun
  | [d1, d2] => { results := [.lit (.bool false)], args := [d1, d2] }
  | _ => none }
def HeapApartWrongFalsely : Prop := heapApartRow.holds Try.pinned (OpenSpec.ofChange heapApartWrong)

/-- 'teasellaw18.HeapFills': WHATEVER THE INPUT: true; the input reads as it did. -/
def heapFillsSpec : ChangeSpec := { name := "heapFills", fn := fun _ => fun
  | [d] => { results := [.lit (.bool true)], args := [d] }
  | _ => none }
def heapFillsRow : OpenClaim := { program := "ytglienidnffnjaa", sum := "db12d49149b179d6039ef0bb451d7a868866642c3a45a15a55a0672b8a127e41", func := "teasel/teasellaw18.HeapFills", spec := "heapFills", unfollowed := true, recurses := true, apart := false }
def HeapFillsSaid : Prop := heapFillsRow.holds Try.pinned (OpenSpec.ofChange heapFillsSpec)

/-- ITS FALSE NEIGHBOUR: 'it returns false'. Refute it at one input. -/
def heapFillsWrong : ChangeSpec := { name := "heapFills", fn := fun _ => fun
  | [d] => { results := [.lit (.bool false)], args := [d] }
  | _ => none }
def HeapFillsWrongFalsely : Prop := heapFillsRow.holds Try.pinned (OpenSpec.ofChange heapFillsWrong)

/-- 'teasellaw18.HeapRemembers': WHATEVER THE INPUT: true; the input reads as it did. -/
def heapRemembersSpec : ChangeSpec := { name := "heapRemembers", fn := fun _ => fun
  | [d] => { results := [.lit (.bool true)], args := [d] }
  | _ => none }
def heapRemembersRow : OpenClaim := { program := "ytglienidnffnjaa", sum := "db12d49149b179d6039ef0bb451d7a868866642c3a45a15a55a0672b8a127e41", func := "teasel/teasellaw18.HeapRemembers", spec := "heapRemembers", unfollowed := true, recurses := true, apart := false }
def HeapRemembersSaid : Prop := heapRemembersRow.holds Try.pinned (OpenSpec.ofChange heapRemembersSpec)

/-- ITS FALSE NEIGHBOUR: 'it returns false'. Refute it at one input. -/
def heapRemembersWrong : ChangeSpec := { name := "heapRemembers", fn := fun _ => fun
  | [d] => { results := [.lit (.bool false)], args := [d] }
  | _ => none }
def HeapRemembersWrongFalsely : Prop := heapRemembersRow.holds Try.pinned (OpenSpec.ofChange heapRemembersWrong)

/-- 'teasellaw18.HeapPlays': WHATEVER THE INPUT: true; the input reads as it did. -/
def heapPlaysSpec : ChangeSpec := { name := "heapPlays", fn := fun _ => fun
  | [d1, d2, d3] => { results := [.lit (.bool true)], args := [d1, d2, d3] }
  | _ => none }
def heapPlaysRow : OpenClaim := { program := "ytglienidnffnjaa", sum := "db12d49149b179d6039ef0bb451d7a868866642c3a45a15a55a0672b8a127e41", func := "teasel/teasellaw18.HeapPlays", spec := "heapPlays", unfollowed := true, recurses := true, apart := false }
def HeapPlaysSaid : Prop := heapPlaysRow.holds Try.pinned (OpenSpec.ofChange heapPlaysSpec)

/-- ITS FALSE NEIGHBOUR: 'it returns false'. Refute it at one input. -/
def heapPlaysWrong : ChangeSpec := { name := "heapPlays", fn := fun _ => fun
  | [d1, d2, d3] => { results := [.lit (.bool false)], args := [d1, d2, d3] }
  | _ => none }
def HeapPlaysWrongFalsely : Prop := heapPlaysRow.holds Try.pinned (OpenSpec.ofChange heapPlaysWrong)

/-- 'teasellaw18.HeapNil': WHATEVER THE INPUT: true; the input reads as it did. -/
def heapNilSpec : ChangeSpec := { name := "heapNil", fn := fun _ => fun
  | [d] => { results := [.lit (.bool true)], args := [d] }
  | _ => none }
def heapNilRow : OpenClaim := { program := "ytglienidnffnjaa", sum := "db12d49149b179d6039ef0bb451d7a868866642c3a45a15a55a0672b8a127e41", func := "teasel/teasellaw18.HeapNil", spec := "heapNil", unfollowed := true, recurses := true, apart := false }
def HeapNilSaid : Prop := heapNilRow.holds Try.pinned (OpenSpec.ofChange heapNilSpec)

/-- ITS FALSE NEIGHBOUR: 'it returns false'. Refute it at one input. -/
def heapNilWrong : ChangeSpec := { name := "heapNil", fn := fun _ => fun
  | [d] => { results := [.lit (.bool false)], args := [d] }
  | _ => none }
def HeapNilWrongFalsely : Prop := heapNilRow.holds Try.pinned (OpenSpec.ofChange heapNilWrong)

/-- 'teasellaw19.GcEmpty': WHATEVER THE INPUT: true; the input reads as it did. -/
def gcEmptySpec : ChangeSpec := { name := "gcEmpty", fn := fun _ => fun
  | [d] => { results := [.lit (.bool true)], args := [d] }
  | _ => none }
def gcEmptyRow : OpenClaim := { program := "ytglienidnffnjaa", sum := "db12d49149b179d6039ef0bb451d7a868866642c3a45a15a55a0672b8a127e41", func := "teasel/teasellaw19.GcEmpty", spec := "gcEmpty", unfollowed := true, recurses := true, apart := false }
def GcEmptySaid : Prop := gcEmptyRow.holds Try.pinned (OpenSpec.ofChange gcEmptySpec)

/-- ITS FALSE NEIGHBOUR: 'it returns false'. Refute it at one input. -/
def gcEmptyWrong : ChangeSpec := { name := "gcEmpty", fn := fun _ => fun
  | [d] => { results := [.lit (.bool false)], args := [d] }
  | _ => none }
def GcEmptyWrongFalsely : Prop := gcEmptyRow.holds Try.pinned (OpenSpec.ofChange gcEmptyWrong)

/-- 'teasellaw19.GcNil': WHATEVER THE INPUT: true; the input reads as it did. -/
def gcNilSpec : ChangeSpec := { name := "gcNil", fn := fun _ => fun
  | [d] => { results := [.lit (.bool true)], args := [d] }
  | _ => none }
def gcNilRow : OpenClaim := { program := "ytglienidnffnjaa", sum := "db12d49149b179d6039ef0bb451d7a868866642c3a45a15a55a0672b8a127e41", func := "teasel/teasellaw19.GcNil", spec := "gcNil", unfollowed := true, recurses := true, apart := false }
def GcNilSaid : Prop := gcNilRow.holds Try.pinned (OpenSpec.ofChange gcNilSpec)

/-- ITS FALSE NEIGHBOUR: 'it returns false'. Refute it at one input. -/
def gcNilWrong : ChangeSpec := { name := "gcNil", fn := fun _ => fun
  | [d] => { results := [.lit (.bool false)], args := [d] }
  | _ => none }
def GcNilWrongFalsely : Prop := gcNilRow.holds Try.pinned (OpenSpec.ofChange gcNilWrong)

/- THE SECOND FORM. 'bulk': how many values and letters a reading holds, each counted each time it is reached (what is shared counts as often as it is met; a slice's spare places count too). A statement '..UptoSaid' is the law's where the arguments, and the package variables that the reading takes, are together of bulk at most 1048576: NARROWER than '..Said'. Prove '..Said' where nothing that the law and all that it calls make is longer than what came in: it says more and counts as full. Else prove '..UptoSaid'. A law counts once. -/
mutual
def uptoBulk {H : Type} : DataW H → Nat
  | .lit (.string bytes) => bytes.length + 1
  | .lit _ => 1
  | .nil => 1
  | .ptr d => uptoBulk d + 1
  | .slice elems spare => uptoBulkAll elems + uptoBulkAll spare + 1
  | .agg parts => uptoBulkAll parts + 1
  | .iface _ d => uptoBulk d + 1
  | .map entries => uptoBulkEntries entries + 1
  | .held _ => 1
def uptoBulkAll {H : Type} : List (DataW H) → Nat
  | [] => 0
  | d :: r => uptoBulk d + uptoBulkAll r
def uptoBulkEntries {H : Type} : List (Lit × DataW H) → Nat
  | [] => 0
  | x :: r => uptoBulkEntry x + uptoBulkEntries r
def uptoBulkEntry {H : Type} : Lit × DataW H → Nat
  | (.string bytes, d) => bytes.length + uptoBulk d + 1
  | (_, d) => uptoBulk d + 1
 end
def uptoSmall : (H : Type) → List (DataW H) → Bool := fun _ ds => decide (uptoBulkAll ds ≤ 1048576)
def OpenSpec.upto (s : _root_.Go.ChangeSpec) : _root_.Go.OpenSpec := { _root_.Go.OpenSpec.ofChange s with cond := some uptoSmall }

/-- 'teasellaw18.HeapChains', WHERE WHAT IT READS IS OF BULK AT MOST 1048576: true; the input reads as it did. -/
def heapChainsUptoRow : OpenClaim := { program := "ytglienidnffnjaa", sum := "db12d49149b179d6039ef0bb451d7a868866642c3a45a15a55a0672b8a127e41", func := "teasel/teasellaw18.HeapChains", spec := "heapChains", unfollowed := true, recurses := true, apart := false, narrowed := true }
def HeapChainsUptoSaid : Prop := heapChainsUptoRow.holds Try.pinned (OpenSpec.upto heapChainsSpec)

/-- 'teasellaw18.HeapApart', WHERE WHAT IT READS IS OF BULK AT MOST 1048576: true; the input reads as it did. -/
def heapApartUptoRow : OpenClaim := { program := "ytglienidnffnjaa", sum := "db12d49149b179d6039ef0bb451d7a868866642c3a45a15a55a0672b8a127e41", func := "teasel/teasellaw18.HeapApart", spec := "heapApart", unfollowed := true, recurses := true, apart := false, narrowed := true }
def HeapApartUptoSaid : Prop := heapApartUptoRow.holds Try.pinned (OpenSpec.upto heapApartSpec)

/-- 'teasellaw18.HeapFills', WHERE WHAT IT READS IS OF BULK AT MOST 1048576: true; the input reads as it did. -/
def heapFillsUptoRow : OpenClaim := { program := "ytglienidnffnjaa", sum := "db12d49149b179d6039ef0bb451d7a868866642c3a45a15a55a0672b8a127e41", func := "teasel/teasellaw18.HeapFills", spec := "heapFills", unfollowed := true, recurses := true, apart := false, narrowed := true }
def HeapFillsUptoSaid : Prop := heapFillsUptoRow.holds Try.pinned (OpenSpec.upto heapFillsSpec)

/-- 'teasellaw18.HeapRemembers', WHERE WHAT IT READS IS OF BULK AT MOST 1048576: true; the input reads as it did. -/
def heapRemembersUptoRow : OpenClaim := { program := "ytglienidnffnjaa", sum := "db12d49149b179d6039ef0bb451d7a868866642c3a45a15a55a0672b8a127e41", func := "teasel/teasellaw18.HeapRemembers", spec := "heapRemembers", unfollowed := true, recurses := true, apart := false, narrowed := true }
def HeapRemembersUptoSaid : Prop := heapRemembersUptoRow.holds Try.pinned (OpenSpec.upto heapRemembersSpec)

/-- 'teasellaw18.HeapPlays', WHERE WHAT IT READS IS OF BULK AT MOST 1048576: true; the input reads as it did. -/
def heapPlaysUptoRow : OpenClaim := { program := "ytglienidnffnjaa", sum := "db12d49149b179d6039ef0bb451d7a868866642c3a45a15a55a0672b8a127e41", func := "teasel/teasellaw18.HeapPlays", spec := "heapPlays", unfollowed := true, recurses := true, apart := false, narrowed := true }
def HeapPlaysUptoSaid : Prop := heapPlaysUptoRow.holds Try.pinned (OpenSpec.upto heapPlaysSpec)

/-- 'teasellaw18.HeapNil', WHERE WHAT IT READS IS OF BULK AT MOST 1048576: true; the input reads as it did. -/
def heapNilUptoRow : OpenClaim := { program := "ytglienidnffnjaa", sum := "db12d49149b179d6039ef0bb451d7a868866642c3a45a15a55a0672b8a127e41", func := "teasel/teasellaw18.HeapNil", spec := "heapNil", unfollowed := true, recurses := true, apart := false, narrowed := true }
def HeapNilUptoSaid : Prop := heapNilUptoRow.holds Try.pinned (OpenSpec.upto heapNilSpec)

/-- 'teasellaw19.GcEmpty', WHERE WHAT IT READS IS OF BULK AT MOST 1048576: true; the input reads as it did. -/
def gcEmptyUptoRow : OpenClaim := { program := "ytglienidnffnjaa", sum := "db12d49149b179d6039ef0bb451d7a868866642c3a45a15a55a0672b8a127e41", func := "teasel/teasellaw19.GcEmpty", spec := "gcEmpty", unfollowed := true, recurses := true, apart := false, narrowed := true }
def GcEmptyUptoSaid : Prop := gcEmptyUptoRow.holds Try.pinned (OpenSpec.upto gcEmptySpec)

/-- 'teasellaw19.GcNil', WHERE WHAT IT READS IS OF BULK AT MOST 1048576: true; the input reads as it did. -/
def gcNilUptoRow : OpenClaim := { program := "ytglienidnffnjaa", sum := "db12d49149b179d6039ef0bb451d7a868866642c3a45a15a55a0672b8a127e41", func := "teasel/teasellaw19.GcNil", spec := "gcNil", unfollowed := true, recurses := true, apart := false, narrowed := true }
def GcNilUptoSaid : Prop := gcNilUptoRow.holds Try.pinned (OpenSpec.upto gcNilSpec)

end Rows
end Go.Proofs.Ytglienidnffnjaa
