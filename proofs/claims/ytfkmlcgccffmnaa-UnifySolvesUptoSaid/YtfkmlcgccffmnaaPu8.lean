/-
  DERIVED: THE SHELF's CONTRACTS AT THIS DUMP, IN PLAIN WORDS (tools/lay-plain.mjs out of 'TryShelf.lean', which tools/lay-shelf.mjs wrote): THE SAME DECLARATIONS UNDER THE SAME NAMES: 'import', 'namespace', 'open', 'def', 'theorem' AND NOTHING ELSE: no command of the shelf's: FOR A HAND-IN. Each laying: the table of numbers ('.._ren') and one theorem, a field a fact of the dump's own or the kernel's comparison; each contract: ONE APPLICATION.
-/
import Derived.Shelf.Strings.Builder1
import Derived.Shelf.Strings.Builder2
import Derived.Shelf.Strings.OnBuilder
import Derived.Shelf.Strings.Prefix
import Derived.Shelf.SlIter.Nil
import Derived.Ground.GgzProg
import Derived.Ground.SlgmProg
import Derived.Shelf.SortM.Plain
import Derived.Shelf.SortM.SortNone
import Derived.Test.YtfkmlcgccffmnaaProg
import Derived.Test.YtfkmlcgccffmnaaUf
import Derived.Test.YtfkmlcgccffmnaaRows
namespace Go.Proofs
open Go.Shelf
def Try.keys29_ren : Go.Shelf.Ren := ⟨fun | 7 => 29 | 10 => 59 | n => n, fun | 23 => 50 | 26 => 9 | 3 => 54 | 28 => 59 | 0 => 0 | 27 => 58 | 33 => 101 | 4 => 4 | n => n, fun | n => n⟩
theorem Try.keys29 : Go.Proofs.SlLaysZ.n7 Try.prog Try.keys29_ren := {
  mixed := by kernel_rfl
  f7 := ⟨Try.f29.name, by decide, Try.func29.trans (congrArg some (by kernel_rfl))⟩
  f10 := ⟨Try.f59.name, by decide, Try.func59.trans (congrArg some (by kernel_rfl))⟩
  t0 := Try.underlying0
  a0 := Try.isAgg0
  z0 := Try.sizeOf0
  v0 := Try.zeroValue0
  t4 := Try.underlying4
  a4 := Try.isAgg4
  z4 := Try.sizeOf4
  v4 := Try.zeroValue4
  t23 := Try.underlying50
  a23 := Try.isAgg50
  z23 := Try.sizeOf50
  v23 := Try.zeroValue50
  t26 := Try.underlying9
  a26 := Try.isAgg9
  z26 := Try.sizeOf9
  v26 := Try.zeroValue9
  t27 := Try.underlying58
  a27 := Try.isAgg58
  z27 := Try.sizeOf58
  v27 := Try.zeroValue58
  t28 := Try.underlying59
  a28 := Try.isAgg59
  z28 := Try.sizeOf59
  v28 := Try.zeroValue59
  t33 := Try.underlying101
  a33 := Try.isAgg101
  z33 := Try.sizeOf101
  v33 := Try.zeroValue101 }
def Try.keys53_ren : Go.Shelf.Ren := ⟨fun | 7 => 53 | 10 => 73 | n => n, fun | 23 => 82 | 26 => 9 | 3 => 33 | 28 => 59 | 0 => 0 | 27 => 58 | 33 => 101 | 4 => 4 | n => n, fun | n => n⟩
theorem Try.keys53 : Go.Proofs.SlLaysZ.n7 Try.prog Try.keys53_ren := {
  mixed := by kernel_rfl
  f7 := ⟨Try.f53.name, by decide, Try.func53.trans (congrArg some (by kernel_rfl))⟩
  f10 := ⟨Try.f73.name, by decide, Try.func73.trans (congrArg some (by kernel_rfl))⟩
  t0 := Try.underlying0
  a0 := Try.isAgg0
  z0 := Try.sizeOf0
  v0 := Try.zeroValue0
  t4 := Try.underlying4
  a4 := Try.isAgg4
  z4 := Try.sizeOf4
  v4 := Try.zeroValue4
  t23 := Try.underlying82
  a23 := Try.isAgg82
  z23 := Try.sizeOf82
  v23 := Try.zeroValue82
  t26 := Try.underlying9
  a26 := Try.isAgg9
  z26 := Try.sizeOf9
  v26 := Try.zeroValue9
  t27 := Try.underlying58
  a27 := Try.isAgg58
  z27 := Try.sizeOf58
  v27 := Try.zeroValue58
  t28 := Try.underlying59
  a28 := Try.isAgg59
  z28 := Try.sizeOf59
  v28 := Try.zeroValue59
  t33 := Try.underlying101
  a33 := Try.isAgg101
  z33 := Try.sizeOf101
  v33 := Try.zeroValue101 }
def Try.sorted28_ren : Go.Shelf.Ren := ⟨fun | 6 => 28 | 8 => 57 | 9 => 58 | 11 => 74 | 13 => 76 | 12 => 75 | 23 => 91 | 24 => 92 | 14 => 82 | 15 => 83 | 16 => 84 | 17 => 85 | 18 => 86 | 19 => 87 | 20 => 88 | 21 => 89 | 22 => 90 | 25 => 96 | 26 => 97 | 27 => 98 | 28 => 99 | 29 => 100 | 30 => 101 | 31 => 104 | n => n, fun | 26 => 9 | 28 => 59 | 24 => 56 | 0 => 0 | 3 => 3 | 37 => 119 | 48 => 140 | 50 => 142 | 4 => 4 | 40 => 133 | 39 => 132 | 45 => 86 | 5 => 5 | 9 => 9 | 51 => 144 | 55 => 63 | 57 => 152 | 58 => 153 | 33 => 101 | n => n, fun | n => n⟩
theorem Try.sorted28 : Go.Proofs.SlLaysZ.n6 Try.prog Try.sorted28_ren := {
  mixed := by kernel_rfl
  f6 := ⟨Try.f28.name, by decide, Try.func28.trans (congrArg some (by kernel_rfl))⟩
  f8 := ⟨Try.f57.name, by decide, Try.func57.trans (congrArg some (by kernel_rfl))⟩
  f11 := ⟨Try.f74.name, by decide, Try.func74.trans (congrArg some (by kernel_rfl))⟩
  t0 := Try.underlying0
  a0 := Try.isAgg0
  z0 := Try.sizeOf0
  v0 := Try.zeroValue0
  t24 := Try.underlying56
  a24 := Try.isAgg56
  z24 := Try.sizeOf56
  v24 := Try.zeroValue56
  t26 := Try.underlying9
  a26 := Try.isAgg9
  z26 := Try.sizeOf9
  v26 := Try.zeroValue9
  t28 := Try.underlying59
  a28 := Try.isAgg59
  z28 := Try.sizeOf59
  v28 := Try.zeroValue59
  i26 := by kernel_rfl }
def Try.sort58_ren : Go.Shelf.Ren := ⟨fun | 6 => 58 | 8 => 76 | 9 => 75 | 19 => 91 | 20 => 92 | 21 => 82 | 22 => 83 | 23 => 84 | 24 => 85 | 25 => 86 | 26 => 87 | 27 => 88 | 28 => 89 | 29 => 90 | 36 => 96 | 31 => 97 | 32 => 98 | 37 => 99 | 38 => 100 | 39 => 101 | 41 => 104 | n => n, fun | 27 => 56 | 29 => 9 | 3 => 3 | 32 => 119 | 26 => 56 | 0 => 0 | 44 => 140 | 46 => 142 | 4 => 4 | 36 => 133 | 35 => 132 | 41 => 86 | 5 => 5 | 9 => 9 | 53 => 144 | 57 => 63 | 63 => 152 | 64 => 153 | n => n, fun | n => n⟩
theorem Try.sort58 : Go.Proofs.SlLaysM.n6 Try.prog Try.sort58_ren := {
  mixed := by kernel_rfl
  f6 := ⟨Try.f58.name, by decide, Try.func58.trans (congrArg some (by kernel_rfl))⟩
  f8 := Try.func76.trans (congrArg some (by kernel_rfl))
  f9 := ⟨Try.f75.name, by decide, Try.func75.trans (congrArg some (by kernel_rfl))⟩
  f19 := Try.func91.trans (congrArg some (by kernel_rfl))
  f20 := Try.func92.trans (congrArg some (by kernel_rfl))
  f21 := ⟨Try.f82.name, by decide, Try.func82.trans (congrArg some (by kernel_rfl))⟩
  f22 := ⟨Try.f83.name, by decide, Try.func83.trans (congrArg some (by kernel_rfl))⟩
  f23 := ⟨Try.f84.name, by decide, Try.func84.trans (congrArg some (by kernel_rfl))⟩
  f24 := ⟨Try.f85.name, by decide, Try.func85.trans (congrArg some (by kernel_rfl))⟩
  f25 := ⟨Try.f86.name, by decide, Try.func86.trans (congrArg some (by kernel_rfl))⟩
  f26 := ⟨Try.f87.name, by decide, Try.func87.trans (congrArg some (by kernel_rfl))⟩
  f27 := ⟨Try.f88.name, by decide, Try.func88.trans (congrArg some (by kernel_rfl))⟩
  f28 := ⟨Try.f89.name, by decide, Try.func89.trans (congrArg some (by kernel_rfl))⟩
  f29 := ⟨Try.f90.name, by decide, Try.func90.trans (congrArg some (by kernel_rfl))⟩
  f31 := Try.func97.trans (congrArg some (by kernel_rfl))
  f32 := Try.func98.trans (congrArg some (by kernel_rfl))
  f36 := ⟨Try.f96.name, by decide, Try.func96.trans (congrArg some (by kernel_rfl))⟩
  f37 := ⟨Try.f99.name, by decide, Try.func99.trans (congrArg some (by kernel_rfl))⟩
  f38 := ⟨Try.f100.name, by decide, Try.func100.trans (congrArg some (by kernel_rfl))⟩
  f39 := ⟨Try.f101.name, by decide, Try.func101.trans (congrArg some (by kernel_rfl))⟩
  f41 := ⟨Try.f104.name, by decide, Try.func104.trans (congrArg some (by kernel_rfl))⟩
  t0 := Try.underlying0
  a0 := Try.isAgg0
  z0 := Try.sizeOf0
  v0 := Try.zeroValue0
  t3 := Try.underlying3
  a3 := Try.isAgg3
  z3 := Try.sizeOf3
  v3 := Try.zeroValue3
  t4 := Try.underlying4
  a4 := Try.isAgg4
  z4 := Try.sizeOf4
  v4 := Try.zeroValue4
  t5 := Try.underlying5
  a5 := Try.isAgg5
  z5 := Try.sizeOf5
  v5 := Try.zeroValue5
  t9 := Try.underlying9
  a9 := Try.isAgg9
  z9 := Try.sizeOf9
  v9 := Try.zeroValue9
  t26 := Try.underlying56
  a26 := Try.isAgg56
  z26 := Try.sizeOf56
  v26 := Try.zeroValue56
  t27 := Try.underlying56
  a27 := Try.isAgg56
  z27 := Try.sizeOf56
  v27 := Try.zeroValue56
  t29 := Try.underlying9
  a29 := Try.isAgg9
  z29 := Try.sizeOf9
  v29 := Try.zeroValue9
  t32 := Try.underlying119
  a32 := Try.isAgg119
  z32 := Try.sizeOf119
  v32 := Try.zeroValue119
  t35 := Try.underlying132
  a35 := Try.isAgg132
  z35 := Try.sizeOf132
  v35 := Try.zeroValue132
  t36 := Try.underlying133
  a36 := Try.isAgg133
  z36 := Try.sizeOf133
  v36 := Try.zeroValue133
  t41 := Try.underlying86
  a41 := Try.isAgg86
  z41 := Try.sizeOf86
  v41 := Try.zeroValue86
  t44 := Try.underlying140
  a44 := Try.isAgg140
  z44 := Try.sizeOf140
  v44 := Try.zeroValue140
  t46 := Try.underlying142
  a46 := Try.isAgg142
  z46 := Try.sizeOf142
  v46 := Try.zeroValue142
  t53 := Try.underlying144
  a53 := Try.isAgg144
  z53 := Try.sizeOf144
  v53 := Try.zeroValue144
  t57 := Try.underlying63
  a57 := Try.isAgg63
  z57 := Try.sizeOf63
  v57 := Try.zeroValue63
  t63 := Try.underlying152
  a63 := Try.isAgg152
  z63 := Try.sizeOf152
  v63 := Try.zeroValue152
  t64 := Try.underlying153
  a64 := Try.isAgg153
  z64 := Try.sizeOf153
  v64 := Try.zeroValue153 }
def Try.lays156_ren : Go.Shelf.Ren := ⟨fun | 156 => 68 | 165 => 79 | 166 => 80 | 169 => 81 | 240 => 94 | 241 => 95 | 276 => 102 | 277 => 103 | n => n, fun | 31 => 56 | 9 => 9 | 3 => 3 | 4 => 4 | 0 => 0 | 20 => 20 | 72 => 124 | 76 => 128 | 70 => 121 | 37 => 122 | 75 => 127 | 127 => 143 | 164 => 149 | 5 => 5 | 80 => 130 | n => n, fun | n => n⟩
theorem Try.lays156 : Go.Proofs.Lays.n156 Try.prog Try.lays156_ren := {
  mixed := by kernel_rfl
  f156 := Try.func68.trans (congrArg some (by kernel_rfl))
  f165 := Try.func79.trans (congrArg some (by kernel_rfl))
  f166 := Try.func80.trans (congrArg some (by kernel_rfl))
  f169 := Try.func81.trans (congrArg some (by kernel_rfl))
  f240 := Try.func94.trans (congrArg some (by kernel_rfl))
  f241 := Try.func95.trans (congrArg some (by kernel_rfl))
  f276 := Try.func102.trans (congrArg some (by kernel_rfl))
  f277 := Try.func103.trans (congrArg some (by kernel_rfl))
  t0 := Try.underlying0
  a0 := Try.isAgg0
  z0 := Try.sizeOf0
  v0 := Try.zeroValue0
  t3 := Try.underlying3
  a3 := Try.isAgg3
  z3 := Try.sizeOf3
  v3 := Try.zeroValue3
  t4 := Try.underlying4
  a4 := Try.isAgg4
  z4 := Try.sizeOf4
  v4 := Try.zeroValue4
  t9 := Try.underlying9
  a9 := Try.isAgg9
  z9 := Try.sizeOf9
  v9 := Try.zeroValue9
  t20 := Try.underlying20
  a20 := Try.isAgg20
  z20 := Try.sizeOf20
  v20 := Try.zeroValue20
  t31 := Try.underlying56
  a31 := Try.isAgg56
  z31 := Try.sizeOf56
  v31 := Try.zeroValue56
  t37 := Try.underlying122
  a37 := Try.isAgg122
  z37 := Try.sizeOf122
  v37 := Try.zeroValue122
  t70 := Try.underlying121
  a70 := Try.isAgg121
  z70 := Try.sizeOf121
  v70 := Try.zeroValue121
  t72 := Try.underlying124
  a72 := Try.isAgg124
  z72 := Try.sizeOf124
  v72 := Try.zeroValue124
  t75 := Try.underlying127
  a75 := Try.isAgg127
  z75 := Try.sizeOf127
  v75 := Try.zeroValue127
  t76 := Try.underlying128
  a76 := Try.isAgg128
  z76 := Try.sizeOf128
  v76 := Try.zeroValue128
  t127 := Try.underlying143
  a127 := Try.isAgg143
  z127 := Try.sizeOf143
  v127 := Try.zeroValue143
  t164 := Try.underlying149
  a164 := Try.isAgg149
  z164 := Try.sizeOf149
  v164 := Try.zeroValue149 }
theorem Try.Builder_Extra_156 : Builder.Extra Try.prog Try.lays156_ren := {
  sizeBuilder := by kernel_rfl
  liesBuilder := by kernel_rfl
  t5 := Try.underlying5
  a5 := Try.isAgg5
  z5 := Try.sizeOf5
  v5 := Try.zeroValue5
  infoByte := by kernel_rfl
  cellsByte := by kernel_rfl
  sizeByte := by kernel_rfl
  neB5 := by decide }
open Go.RowKit in
/-- strings.Join: "Join concatenates the elements of its first argument to create a single string. The separator string sep is placed between elements in the resulting string.": HOWEVER MANY ELEMENTS. Below the heap's end the world is as it was. (LAID: no walk: one application.) -/
theorem Try.strings_Join (bk o c : Nat) (xs : List ByteArray) (sep : ByteArray) (w : World) (hcells : ∀ (j : Nat) x, xs[j]? = some x → w.cell? ⟨bk, o + j, none⟩ = some (.string x)) (hbk : bk < w.heap.size) (hN : xs.length ≤ 140737488355328) (hcap : xs.length ≤ c) (hlen : (Lib.join (xs.map (·.data.toList)) sep.data.toList).length ≤ 140737488355328) :
    Calls Try.prog 68 #[.slice (some ⟨bk, o, none⟩) xs.length c, .string sep] w fun e w' => e = .returned (.string ⟨(Lib.join (xs.map (·.data.toList)) sep.data.toList).toArray⟩) ∧ Below w.heap.size w w' := Any.strings_Join Try.lays156 Try.Builder_Extra_156 bk o c xs sep w hcells hbk hN hcap hlen
def Try.lays101_ren : Go.Shelf.Ren := ⟨fun | 101 => 65 | 208 => 77 | 206 => 93 | n => n, fun | 9 => 9 | 4 => 4 | 3 => 3 | n => n, fun | n => n⟩
theorem Try.lays101 : Go.Proofs.Lays.n101 Try.prog Try.lays101_ren := {
  mixed := by kernel_rfl
  f101 := Try.func65.trans (congrArg some (by kernel_rfl))
  f206 := Try.func93.trans (congrArg some (by kernel_rfl))
  f208 := Try.func77.trans (congrArg some (by kernel_rfl))
  t3 := Try.underlying3
  a3 := Try.isAgg3
  z3 := Try.sizeOf3
  v3 := Try.zeroValue3
  t4 := Try.underlying4
  a4 := Try.isAgg4
  z4 := Try.sizeOf4
  v4 := Try.zeroValue4
  t9 := Try.underlying9
  a9 := Try.isAgg9
  z9 := Try.sizeOf9
  v9 := Try.zeroValue9 }
open Go.RowKit Go.Lib in
/-- strings.TrimPrefix: "TrimPrefix returns s without the provided leading prefix string. If s doesn't start with prefix, s is returned unchanged.": IT RETURNS 'Lib.trimPrefix s prefix'; the world is as it was. (LAID: no walk: one application.) -/
theorem Try.strings_TrimPrefix (s p : ByteArray) (w : World) :
    Calls Try.prog 65 #[.string s, .string p] w fun e w' => e = .returned (.string ⟨(Lib.trimPrefix s.data.toList p.data.toList).toArray⟩) ∧ w' = w := Any.strings_TrimPrefix Try.lays101 s p w
end Go.Proofs
namespace Go.Proofs.Ytfkmlcgccffmnaa
open Go Go.Maps Go.WideAt
def strE : Enc Nam where
  size := 1
  cells n := [str n]
  len _ := rfl
  one t u hu := by
    obtain rfl := List.mem_singleton.1 hu; rfl
theorem flat_strE (l : List Nam) : flat strE l = l.map encStr := by
  induction l with
  | nil => rfl
  | cons x l ih => show str x :: flat strE l = _; rw [ih]; rfl
theorem bool_ne : (Value.bool true) ≠ .bool false := by simp
section
variable {P : Program} {w : World} {k : TypeId} {b n : Nat} {f : Lit → Option Value}
theorem keys_has {D : DataW Value} (hf : ∀ kl z, D.atKey kl (.held z) = .held ((f kl).getD z)) (kl : Lit) : has D kl = true ↔ ¬ f kl = none := by
  constructor
  · intro h e
    have h1 := hf kl (.bool true)
    have h2 := hf kl (.bool false)
    rw [e] at h1 h2
    cases D <;> try (cases h; done)
    rename_i es
    obtain ⟨p, hp, hpk⟩ := List.any_eq_true.1 h
    have hs : (es.find? (fun p => p.1.sameKey kl)).isSome = true := List.find?_isSome.2 ⟨p, hp, hpk⟩
    obtain ⟨x, hx⟩ := Option.isSome_iff_exists.1 hs
    simp only [DataW.atKey, hx] at h1 h2
    have := h1.symm.trans h2
    simp at this
  · intro h
    cases hh : has D kl with
    | true => rfl
    | false =>
      obtain ⟨v, hv⟩ := Option.ne_none_iff_exists'.1 h
      have h1 := (atKey_of_not_has hh (.held (.bool true))).symm.trans (hf kl (.bool true))
      have h2 := (atKey_of_not_has hh (.held (.bool false))).symm.trans (hf kl (.bool false))
      rw [hv] at h1 h2
      have := h1.trans h2.symm
      simp at this
/-- what is known of the keys -/
theorem keys_of {D : DataW Value} (K : Keyed P k) (hk : P.underlying k = some .string) (hown : w.ownsMap P k heldR b n D) (hf : ∀ kl z, D.atKey kl (.held z) = .held ((f kl).getD z)) :
    (strKeys D).Nodup ∧ (∀ x, x ∈ strKeys D ↔ ¬ f (litS x) = none) ∧ size D ≤ n ∧ (strKeys D).length ≤ n := by
  obtain ⟨es, hD, hpw, _⟩ := hown.entries K
  obtain ⟨es', hD', hko⟩ := hown.keysOf
  obtain rfl : es = es' := by rw [hD] at hD'; simpa using hD'
  have hkey : ∀ p ∈ es, ∃ x, p.1 = .string x := fun p hp => by
    obtain ⟨v, hv⟩ := hko p hp
    obtain ⟨x, _, hx, _⟩ := Maps.keyOf_str hk hv
    exact ⟨x, hx⟩
  refine ⟨?_, fun x => ?_, ?_⟩
  · rw [hD]
    refine List.pairwise_map.2 (hpw.imp_of_mem fun {p q} hp hq hne e => hne ?_)
    obtain ⟨a, ha⟩ := hkey p hp
    obtain ⟨c, hc⟩ := hkey q hq
    rw [ha, hc] at e ⊢
    exact congrArg _ e
  · rw [← keys_has hf (litS x), hD, has_eq, List.any_eq_true]
    show x ∈ es.map (fun p => strOf p.1) ↔ _
    rw [List.mem_map]
    constructor
    · rintro ⟨p, hp, rfl⟩
      obtain ⟨a, ha⟩ := hkey p hp
      exact ⟨p, hp, by rw [ha]; simp [Lit.sameKey, strOf, litS]⟩
    · rintro ⟨p, hp, hs⟩
      obtain ⟨a, ha⟩ := hkey p hp
      rw [ha] at hs
      exact ⟨p, hp, by rw [ha]; simpa [Lit.sameKey, strOf, litS] using hs⟩
  · obtain ⟨es2, clock, _, _, hs, hD2⟩ := hown
    have h1 : size D ≤ n := by
      rw [hD2]
      show List.length _ ≤ n
      rw [(Go.WideShapes.sorted_perm _).length_eq, List.length_map, Array.length_toList]; exact hs
    refine ⟨h1, ?_⟩
    rw [hD] at h1 ⊢
    show (es.map _).length ≤ n
    rw [List.length_map]; exact h1
end
theorem asc_of : ∀ {l : List Nam}, l.Pairwise (fun a b => a ≤ b) → l.Nodup → Asc l
  | [], _, _ => trivial
  | x :: l, h, hn => by
    rw [List.pairwise_cons] at h
    rw [List.nodup_cons] at hn
    exact ⟨fun y hy => (List.le_iff_lt_or_eq.1 (h.1 y hy)).resolve_right fun e => hn.1 (e ▸ hy), asc_of h.2 hn.2⟩
theorem asc_sort {l ss : List Nam} (hp : ss.Perm l) (hn : l.Nodup) : Asc (ss.mergeSort fun x y => decide (x ≤ y)) ∧ ∀ n, n ∈ (ss.mergeSort fun x y => decide (x ≤ y)) ↔ n ∈ l := by
  have tr : ∀ a b c : Nam, decide (a ≤ b) = true → decide (b ≤ c) = true → decide (a ≤ c) = true := fun a b c h1 h2 => by simp only [decide_eq_true_eq] at *; exact List.le_trans h1 h2
  have to : ∀ a b : Nam, (decide (a ≤ b) || decide (b ≤ a)) = true := fun a b => by simp only [Bool.or_eq_true, decide_eq_true_eq]; exact List.le_total a b
  have hpp := List.mergeSort_perm ss fun x y => decide (x ≤ y)
  refine ⟨asc_of ((List.pairwise_mergeSort tr to ss).imp fun h => of_decide_eq_true h) ((hpp.trans hp).nodup_iff.2 hn), fun n => (hpp.trans hp).mem_iff⟩
theorem asc_nodup {l : List Nam} : Asc l → l.Nodup := by
  induction l with
  | nil => exact fun _ => List.nodup_nil
  | cons x l ih => exact fun h => List.nodup_cons.2 ⟨fun hm => List.lt_irrefl _ (h.1 x hm), ih h.2⟩
end Go.Proofs.Ytfkmlcgccffmnaa
namespace Go.Proofs.Ytfkmlcgccffmnaa
open Go
abbrev TN2 := TN × TN
def prE : Enc TN2 where
  size := 6
  cells p := [i64 p.1.kind, str p.1.name, p.1.h.v, i64 p.2.kind, str p.2.name, p.2.h.v]
  len _ := rfl
  one t u hu := by
    simp only [List.mem_cons, List.not_mem_nil, or_false] at hu
    rcases hu with rfl | rfl | rfl | rfl | rfl | rfl <;> rfl
def er2 (p : TN2) : Ty × Ty := (p.1.er, p.2.er)
def gat : List TN2 → List TN
  | [] => []
  | p :: r => p.1 :: p.2 :: gat r
theorem gat_er : ∀ ps : List TN2, (gat ps).map TN.er = tysOf (ps.map er2)
  | [] => rfl
  | p :: r => by show p.1.er :: p.2.er :: (gat r).map TN.er = p.1.er :: p.2.er :: tysOf (r.map er2); rw [gat_er r]
theorem gat_app : ∀ a b : List TN2, gat (a ++ b) = gat a ++ gat b
  | [], b => rfl
  | p :: a, b => by show p.1 :: p.2 :: gat (a ++ b) = p.1 :: p.2 :: (gat a ++ gat b); rw [gat_app a b]
theorem gat_take {ps : List TN2} {i : Nat} {p : TN2} (h : ps[i]? = some p) : gat (ps.take (i + 1)) = gat (ps.take i) ++ [p.1, p.2] := by
  rw [takeAt h, gat_app]; rfl
theorem gat_len : ∀ ps : List TN2, (gat ps).length = 2 * ps.length
  | [] => rfl
  | p :: r => by show (gat r).length + 2 = _; rw [gat_len r, List.length_cons]; omega
theorem mem_gat {t : TN} : ∀ {ps : List TN2}, t ∈ gat ps ↔ ∃ p ∈ ps, t = p.1 ∨ t = p.2
  | [] => by simp [gat]
  | p :: r => by
    show t ∈ p.1 :: p.2 :: gat r ↔ _
    rw [List.mem_cons, List.mem_cons, mem_gat]
    simp [or_assoc]
mutual
def wtF : Ty → Nat
  | .mk _ n l => 1 + n.length + wtL l
def wtL : List Ty → Nat
  | [] => 0
  | t :: l => wtF t + wtL l
end
theorem wtL_mem {t : Ty} : ∀ {l : List Ty}, t ∈ l → wtF t ≤ wtL l
  | [], h => by cases h
  | x :: l, h => by
    show _ ≤ wtF x + wtL l
    rcases List.mem_cons.1 h with rfl | h
    · omega
    · have := wtL_mem h; omega
mutual
theorem nodes_wt : ∀ t : Ty, nodesF t ≤ wtF t
  | .mk k n l => by
    show 1 + nodesL l ≤ 1 + n.length + wtL l
    have := nodesL_wt l; omega
theorem nodesL_wt : ∀ l : List Ty, nodesL l ≤ wtL l
  | [] => Nat.le_refl _
  | t :: l => by
    show nodesF t + nodesL l ≤ wtF t + wtL l
    have := nodes_wt t; have := nodesL_wt l; omega
end
def Fit (t : Ty) : Prop := wtF t ≤ 1152921504606846976
theorem Fit.nodes {t : Ty} (h : Fit t) : nodesF t ≤ 2305843009213693952 := Nat.le_trans (nodes_wt t) (Nat.le_trans h (by decide))
theorem small_of : ∀ {r : RT}, Fit r.ty → r.small
  | .var n, h => by
    have h : 1 + n.length + 0 ≤ 1152921504606846976 := h
    show n.length ≤ 4611686018427387904; omega
  | .con n, h => by
    have h : 1 + n.length + 0 ≤ 1152921504606846976 := h
    show n.length ≤ 4611686018427387904; omega
  | .app a b, h => by
    have h : 1 + 0 + (wtF a.ty + (wtF b.ty + 0)) ≤ 1152921504606846976 := h
    exact ⟨small_of (r := a) (by unfold Fit; omega), small_of (r := b) (by unfold Fit; omega)⟩
theorem small_vs : ∀ {r : RT} {n : Nam}, r.small → n ∈ r.vs → n.length ≤ 9223372036854775807
  | .var m, n, h, hn => by
    obtain rfl := List.mem_singleton.1 hn
    exact Nat.le_trans h (by decide)
  | .con _, _, _, hn => by cases hn
  | .app a b, n, h, hn => (List.mem_append.1 hn).elim (small_vs h.1) (small_vs h.2)
theorem allF_zero : ∀ {l : List Ty} {e : Int}, allF l e = 0 → e = 0 ∧ ∀ t ∈ l, rightF t = true ∧ nodesF t ≤ 1000
  | [], e, h => ⟨h, fun _ h => by cases h⟩
  | t :: l, e, h => by
    unfold allF at h
    split at h
    · cases h
    · rename_i hr
      obtain ⟨h1, h2⟩ := allF_zero h
      split at h1
      · cases h1
      · rename_i hb
        exact ⟨h1, fun s hs => by
          rcases List.mem_cons.1 hs with rfl | hs
          · exact ⟨by simpa using hr, by omega⟩
          · exact h2 s hs⟩
theorem right_pairs : ∀ {ps : TPs}, (∀ t ∈ tysOf ps, rightF t = true ∧ nodesF t ≤ 1000) → ∃ rs : RPs, ps = tyPs rs ∧ ∀ r ∈ rs, (r.1.ok ∧ r.1.nodes ≤ 1000) ∧ r.2.ok ∧ r.2.nodes ≤ 1000
  | [], _ => ⟨[], rfl, fun _ h => (by cases h)⟩
  | p :: ps, h => by
    obtain ⟨rs, e, hrs⟩ := right_pairs (ps := ps) fun t ht => h t (List.mem_cons_of_mem _ (List.mem_cons_of_mem _ ht))
    obtain ⟨a1, a2⟩ := h p.1 (by simp [tysOf])
    obtain ⟨b1, b2⟩ := h p.2 (by simp [tysOf])
    obtain ⟨ra, ha, ea⟩ := right_ex p.1 a1
    obtain ⟨rb, hb, eb⟩ := right_ex p.2 b1
    refine ⟨(ra, rb) :: rs, ?_, fun r hr => ?_⟩
    · show p :: ps = (ra.ty, rb.ty) :: tyPs rs
      rw [e, ← ea, ← eb]
    · rcases List.mem_cons.1 hr with rfl | hr
      · exact ⟨⟨ha, by rw [← RT.nodes_ty, ← ea]; exact a2⟩, hb, by rw [← RT.nodes_ty, ← eb]; exact b2⟩
      · exact hrs r hr
theorem pair_at {ps : List TN2} {rs : RPs} (h : ps.map er2 = tyPs rs) {i : Nat} {p : TN2} (hp : ps[i]? = some p) : ∃ r, rs[i]? = some r ∧ p.1.er = r.1.ty ∧ p.2.er = r.2.ty := by
  have h1 : (ps.map er2)[i]? = some (er2 p) := by rw [List.getElem?_map, hp]; rfl
  rw [h] at h1
  have h2 : (rs.map fun p => (p.1.ty, p.2.ty))[i]? = some (er2 p) := h1
  rw [List.getElem?_map] at h2
  cases hr : rs[i]? with
  | none => rw [hr] at h2; cases h2
  | some r =>
    rw [hr] at h2
    have h2 : (r.1.ty, r.2.ty) = er2 p := Option.some.inj h2
    exact ⟨r, rfl, (congrArg Prod.fst h2).symm, (congrArg Prod.snd h2).symm⟩
theorem pairs_len {ps : List TN2} {rs : RPs} (h : ps.map er2 = tyPs rs) : ps.length = rs.length := by
  have := congrArg List.length h
  simpa [tyPs] using this
theorem markS_self (S : Sto) : markS S (fun b => (S.tm b).mark) = S := rfl
/-! the answer -/
def sbG (T : Nat) (l : List SbN) : Ent := Ent.grp (l.map fun s => tE T s.t)
theorem St.intoS {w0 w : World} {M : List Nat} {L : List Ent} {T : Nat} {l : List SbN} {s : SbN} (hO : St w0 M w (tE T s.t :: L)) (i : Nat) (hi : L[i]? = some (sbG T l)) : St w0 M w (L.set i (sbG T (l ++ [s]))) := by
  have h := hO.into i hi
  unfold sbG; rw [List.map_append]; exact h
theorem ansL_next {ns : List Nam} {σ : Nam → RT} {l : List SbN} {j : Nat} {n : Nam} {t : TN} (h : l.map SbN.er = ansL (ns.take j) σ) (hn : ns[j]? = some n) (ht : t.er = (σ n).ty) (hv : isV (σ n) n = false) : (l ++ [SbN.mk n t]).map SbN.er = ansL (ns.take (j + 1)) σ := by
  rw [takeAt hn, List.map_append, h]
  unfold ansL
  rw [List.filter_append, List.map_append]
  congr 1
  rw [List.filter_cons_of_pos (by rw [hv]; rfl)]
  show [(n, t.er)] = [(n, (σ n).ty)]
  rw [ht]
theorem ansL_skip {ns : List Nam} {σ : Nam → RT} {l : List SbN} {j : Nat} {n : Nam} (h : l.map SbN.er = ansL (ns.take j) σ) (hn : ns[j]? = some n) (hv : isV (σ n) n = true) : l.map SbN.er = ansL (ns.take (j + 1)) σ := by
  rw [takeAt hn, h]
  unfold ansL
  rw [List.filter_append, List.map_append, List.filter_cons_of_neg (by rw [hv]; simp)]
  simp
theorem isV_ty {r : RT} {n : Nam} {t : TN} (ht : t.er = r.ty) : (¬ t.kind = 52 ∨ ¬ t.name = n) ↔ isV r n = false := by
  obtain ⟨k, m, hd, l⟩ := t
  rw [er_mk] at ht
  show (¬ k = 52 ∨ ¬ m = n) ↔ _
  cases r with
  | var x =>
    injection ht with h1 h2
    subst h1 h2
    show _ ↔ decide (m = n) = false
    simp
  | con x => injection ht with h1; simp [isV]; omega
  | app a b => injection ht with h1; simp [isV]; omega
/-- what the variables are -/
theorem sol_choice {S : Sto} {ρ : Nat → Nat} {vm : Nam → Option Nat} {ns : List Nam} (h : ∀ n ∈ ns, ∃ c t, vm n = some c ∧ Res S ρ c t) (hd : ∀ n, vm n = none ↔ n ∉ ns) : ∃ σ : Nam → RT, (∀ n b, vm n = some b → Res S ρ b (σ n)) ∧ ∀ n, vm n = none → σ n = .var n := by
  have key : ∀ n, ∃ t : RT, (∀ b, vm n = some b → Res S ρ b t) ∧ (vm n = none → t = .var n) := fun n => by
    by_cases hn : n ∈ ns
    · obtain ⟨c, t, h1, h2⟩ := h n hn
      exact ⟨t, fun b hb => (by rw [h1] at hb; cases hb; exact h2), fun h0 => (by rw [h1] at h0; cases h0)⟩
    · have h0 := (hd n).2 hn
      exact ⟨.var n, fun b hb => (by rw [h0] at hb; cases hb), fun _ => rfl⟩
  exact ⟨fun n => Classical.choose (key n), fun n => (Classical.choose_spec (key n)).1, fun n => (Classical.choose_spec (key n)).2⟩
theorem names_dom {vm : Nam → Option Nat} {f : Lit → Option Value} {ns : List Nam} (hf : VarM f vm) (hn : ∀ x, x ∈ ns ↔ ¬ f (litS x) = none) (n : Nam) : vm n = none ↔ n ∉ ns := by
  rw [hn n, hf n]
  cases vm n with
  | none => simp
  | some b => simp
end Go.Proofs.Ytfkmlcgccffmnaa
