/- GcNil: a word handed in by value. -/
import Derived.Test.YtglienidnffnjaaLo
import Derived.Test.YtglienidnffnjaaKb
import Derived.WideShapes
namespace Go.Proofs.Ytglienidnffnjaa
open Go Go.WideShapes
set_option linter.unusedVariables false
set_option maxRecDepth 100000
theorem open_wd {H : Type} {enc : TypeId × Value → H} {w : World} {sp : Nat → Bool} {v : Value} {d : DataW H} {p : List MemPlace} {base : Nat} {r : Reach} (hval : Value.okWide Try.prog w r base 27 v) (h : DataW.Trod enc Try.prog w 0 sp true 27 v d p) :
    ∃ x : Wd, v = .agg (wordE.cells x).toArray ∧ wordR w x d := by
  obtain ⟨cs, rfl, hs⟩ := okWide_struct Try.underlying27 hval
  obtain ⟨fuel, h⟩ := h
  obtain ⟨x, hx, hq⟩ := cod_word fuel enc w sp _ _ h
  refine ⟨x, ?_, hq⟩
  rw [← hx]
  rfl
theorem gcnil_v (w0 : World) (x : Wd) (v : Value) (h : v = .agg (wordE.cells x).toArray) : Ret Try.prog 10 #[v] w0 (fun v w' => v = .bool true ∧ St w0 [] w' []) := by
  subst h
  exact gcnil_r w0 x
end Go.Proofs.Ytglienidnffnjaa
