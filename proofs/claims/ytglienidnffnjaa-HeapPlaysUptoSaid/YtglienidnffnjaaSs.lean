/-
  DERIVED: THE SHELF's CONTRACTS AT THIS DUMP, IN PLAIN WORDS (tools/lay-plain.mjs out of 'TryShelf.lean', which tools/lay-shelf.mjs wrote): THE SAME DECLARATIONS UNDER THE SAME NAMES: 'import', 'namespace', 'open', 'def', 'theorem' AND NOTHING ELSE: no command of the shelf's: FOR A HAND-IN. Each laying: the table of numbers ('.._ren') and one theorem, a field a fact of the dump's own or the kernel's comparison; each contract: ONE APPLICATION.
-/
import Derived.Shelf.Sort.Plain
import Derived.Shelf.Slices.In.SortNone
import Derived.Test.YtglienidnffnjaaProg
namespace Go.Proofs
open Go.Shelf
def Try.lays189_ren : Go.Shelf.Ren := ⟨fun | 189 => 61 | 125 => 77 | 257 => 76 | 128 => 93 | 129 => 94 | 294 => 84 | 295 => 85 | 296 => 86 | 297 => 87 | 298 => 88 | 299 => 89 | 216 => 90 | 300 => 91 | 301 => 92 | 328 => 97 | 329 => 98 | 330 => 99 | 331 => 100 | 332 => 101 | 215 => 102 | 343 => 103 | n => n, fun | 28 => 36 | 3 => 3 | 46 => 111 | 0 => 0 | 51 => 138 | 53 => 140 | 4 => 4 | 183 => 131 | 182 => 130 | 131 => 135 | 5 => 5 | 9 => 9 | 218 => 144 | 222 => 148 | 228 => 150 | 229 => 46 | n => n, fun | n => n⟩
theorem Try.lays189 : Go.Proofs.Lays.n189 Try.prog Try.lays189_ren := {
  mixed := by kernel_rfl
  f125 := Try.func77.trans (congrArg some (by kernel_rfl))
  f128 := Try.func93.trans (congrArg some (by kernel_rfl))
  f129 := Try.func94.trans (congrArg some (by kernel_rfl))
  f189 := Try.func61.trans (congrArg some (by kernel_rfl))
  f215 := Try.func102.trans (congrArg some (by kernel_rfl))
  f216 := Try.func90.trans (congrArg some (by kernel_rfl))
  f257 := Try.func76.trans (congrArg some (by kernel_rfl))
  f294 := Try.func84.trans (congrArg some (by kernel_rfl))
  f295 := Try.func85.trans (congrArg some (by kernel_rfl))
  f296 := Try.func86.trans (congrArg some (by kernel_rfl))
  f297 := Try.func87.trans (congrArg some (by kernel_rfl))
  f298 := Try.func88.trans (congrArg some (by kernel_rfl))
  f299 := Try.func89.trans (congrArg some (by kernel_rfl))
  f300 := Try.func91.trans (congrArg some (by kernel_rfl))
  f301 := Try.func92.trans (congrArg some (by kernel_rfl))
  f328 := Try.func97.trans (congrArg some (by kernel_rfl))
  f329 := Try.func98.trans (congrArg some (by kernel_rfl))
  f330 := Try.func99.trans (congrArg some (by kernel_rfl))
  f331 := Try.func100.trans (congrArg some (by kernel_rfl))
  f332 := Try.func101.trans (congrArg some (by kernel_rfl))
  f343 := Try.func103.trans (congrArg some (by kernel_rfl))
  t0 := Try.underlying0
  a0 := Try.isAgg0
  z0 := Try.sizeOf0
  v0 := Try.zeroValue0
  t3 := Try.underlying3
  a3 := Try.isAgg3
  z3 := Try.sizeOf3
  v3 := Try.zeroValue3
  t4 := Try.underlying4
  a4 := Try.isAgg4
  z4 := Try.sizeOf4
  v4 := Try.zeroValue4
  t5 := Try.underlying5
  a5 := Try.isAgg5
  z5 := Try.sizeOf5
  v5 := Try.zeroValue5
  t9 := Try.underlying9
  a9 := Try.isAgg9
  z9 := Try.sizeOf9
  v9 := Try.zeroValue9
  t28 := Try.underlying36
  a28 := Try.isAgg36
  z28 := Try.sizeOf36
  v28 := Try.zeroValue36
  t46 := Try.underlying111
  a46 := Try.isAgg111
  z46 := Try.sizeOf111
  v46 := Try.zeroValue111
  t51 := Try.underlying138
  a51 := Try.isAgg138
  z51 := Try.sizeOf138
  v51 := Try.zeroValue138
  t53 := Try.underlying140
  a53 := Try.isAgg140
  z53 := Try.sizeOf140
  v53 := Try.zeroValue140
  t131 := Try.underlying135
  a131 := Try.isAgg135
  z131 := Try.sizeOf135
  v131 := Try.zeroValue135
  t182 := Try.underlying130
  a182 := Try.isAgg130
  z182 := Try.sizeOf130
  v182 := Try.zeroValue130
  t183 := Try.underlying131
  a183 := Try.isAgg131
  z183 := Try.sizeOf131
  v183 := Try.zeroValue131
  t218 := Try.underlying144
  a218 := Try.isAgg144
  z218 := Try.sizeOf144
  v218 := Try.zeroValue144
  t222 := Try.underlying148
  a222 := Try.isAgg148
  z222 := Try.sizeOf148
  v222 := Try.zeroValue148
  t228 := Try.underlying150
  a228 := Try.isAgg150
  z228 := Try.sizeOf150
  v228 := Try.zeroValue150
  t229 := Try.underlying46
  a229 := Try.isAgg46
  z229 := Try.sizeOf46
  v229 := Try.zeroValue46 }
open Go.Sort Go.RowKit in
theorem Try.slices_Sort_int (blk off cap : Nat) (zs : List Int) (w : World) (hH : Holds (Value.int .i64) w blk off zs.toArray) (hblk : blk < w.heap.size) (hsz : zs.length < 4611686018427387904) :
    Calls Try.prog 61 #[.slice (some ⟨blk, off, none⟩) zs.length cap] w fun e w' =>
      e = .returned (.tuple #[]) ∧ ∃ n os, w' = grow (putRow (Value.int .i64) (Sort.ahead w n) blk off (zs.mergeSort fun x y => decide (x ≤ y)).toArray) os := Any.slices_Sort_int Try.lays189 blk off cap zs w hH hblk hsz
open Go.RowKit Go.Sort in
theorem Try.slices_Sort_int_none (p : Option Addr) (cap : Nat) (w : World) :
    Calls Try.prog 61 #[.slice p 0 cap] w fun e w' => e = .returned (.tuple #[]) ∧ w' = w := Any.slices_Sort_int_none Try.lays189 p cap w
end Go.Proofs
