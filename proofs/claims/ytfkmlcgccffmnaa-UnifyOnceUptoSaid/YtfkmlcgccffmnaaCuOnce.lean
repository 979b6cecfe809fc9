/- UnifyOnce returns true at every input whose bulk is at most 1048576, and leaves what is handed in as it is: the given statement Rows.UnifyOnceUptoSaid. Conditions: none beyond the statement's own. -/
import Derived.Test.YtfkmlcgccffmnaaXf
import Derived.Test.YtfkmlcgccffmnaaLu
import Derived.Test.YtfkmlcgccffmnaaLb
import Derived.Test.YtfkmlcgccffmnaaRows
import Derived.WalkKit
import Derived.ProofKit
import Derived.OpenShut
import Derived.ChangeMaps5
import Derived.Carry
import Derived.JoinedCond
namespace Go.Proofs.Ytfkmlcgccffmnaa.unifyOnce
open Go.ChangeShapes Go.WideShapes Go.ChangeAt Go.RowKit Go.ChangeMaps
set_option maxRecDepth 100000
theorem own : ownKnob Try.prog.godebug = none := by kernel_rfl
theorem laidOut : laidOutB Try.prog = true := by kernel_rfl
theorem contract (H : Type) (enc : TypeId × Value → H) (W : World) (base : Nat) (args : Array Value) (ds gs : List (DataW H)) (before : List MemPlace)
    (hval : ∀ (j : Nat) t v, Try.f8.params[j]? = some t → args[j]? = some v → Value.okWide Try.prog W .any base t v)
    (hW : DataW.Whole enc Try.prog Try.f8.params.toList Rows.unifyOnceSpec.vars false W args.toList ds gs before) (hk : Rows.uptoSmall H (ds ++ gs) = true) :
    Calls Try.prog 8 args W fun e W' => ∃ v, e = .returned v ∧ Rows.unifyOnceSpec.post enc Try.prog Try.f8 false true false false W args v W' := by
  have hW' := hW
  obtain ⟨p, q, hA0, hV, rfl, hfz, hnd⟩ := hW
  have hA : DataW.TrodAll enc Try.prog W 0 (fun _ => true) true Try.f8.params.toList args.toList ds p := hA0
  rw [Try.params8] at hA hval
  obtain ⟨v0, vs0, d0, ds0, p0, q0, hargs, rfl, rfl, h0, r0⟩ := trodAll_cons hA
  obtain ⟨rfl, rfl, rfl⟩ := trodAll_nil r0
  obtain rfl : args = #[v0] := by cases args; simp_all
  obtain ⟨rfl, rfl⟩ := trodVars_none hV
  obtain ⟨ps, hR0, hQ0⟩ := open_sl Try.underlying22 (by kernel_rfl) (by decide) (cod_pair) (hval 0 22 v0 rfl rfl) h0
  have hn0 : ps.length ≤ 1048576 := by have := bulk_sl hQ0; have := bulk_in hk (d := d0) (by simp); omega
  clear hA0
  have hlt0 : ∀ x ∈ p0, x.block < W.heap.size := fun x hx => by simpa using hW'.lt x (by simp only [List.mem_append]; first | exact .inl hx | simpa using hx | (simp_all))
  simp only [List.append_nil] at hW'
  have walk := once_r W v0 ps hR0 (hQ0.all fun a e h => h.1) (slQ_of hQ0 (bulk_in hk (by simp)) fun a e h hb => ⟨Nat.le_trans h.2.1 hb, Nat.le_trans h.2.2 hb⟩) hn0
  refine Calls.mono walk fun e W' ⟨v, he, hv, hS⟩ => ?_
  subst he hv
  have hb : Below W.heap.size W W' := ⟨hS.os, hS.tape, hS.output, hS.le, fun k hk => hS.keep k hk (by simp)⟩
  exact ⟨_, rfl, _, _, _, [], _, [], hW', trodAll_mk1 (shut_bool Try.underlying4 _), (trodAll_mk1 (Below.trod laidOut (by kernel_rfl) (of_decide_eq_true (by kernel_rfl)) h0 hb hlt0)), rfl, hb.frame _, fun h => by cases h⟩
theorem lifted (os : Os) (started : os.Started) (H : Type) (enc : TypeId × Value → H) (F : Stop.Interp) :
    ReturnsInHanded {} Try.checked os 8 .any ((Rows.OpenSpec.upto Rows.unifyOnceSpec).pre6 enc Try.prog Try.f8 Rows.unifyOnceUptoRow.domain false) (((Rows.OpenSpec.upto Rows.unifyOnceSpec).at F).post enc Try.prog Try.f8 false true false false) := by
  refine returnsInHanded_of_cond (C := Try.checked) (s := Rows.OpenSpec.upto Rows.unifyOnceSpec) (k := Rows.uptoSmall) rfl own started (by kernel_rfl) Try.func8
    (OpenSpec.witness (enc := enc) (C := Try.checked) (s := Rows.OpenSpec.upto Rows.unifyOnceSpec) (k := Rows.uptoSmall) rfl false ⟨#[], #[.slice none 0 0], []⟩ 8 (by kernel_rfl) (by kernel_rfl) (by kernel_rfl)
      (x := ([.nil], [], [])) (by kernel_rfl) rfl (by kernel_rfl)) ?_
  intro W base args ds gs before hval hW _ hk _
  exact contract H enc W base args ds gs before hval hW hk
theorem said : Rows.UnifyOnceUptoSaid :=
  OpenClaim.holds_of_cond 8 Try.f8 rfl rfl rfl rfl rfl rfl rfl ⟨rfl, rfl, rfl, rfl, rfl⟩ rfl rfl rfl rfl rfl (by kernel_rfl) Try.func8 (by kernel_rfl)
    (of_decide_eq_true (by kernel_rfl)) (by unfold Func.isWrapper; first | (rw [if_pos (by decide +kernel)]; kernel_rfl) | (rw [if_neg (by decide +kernel)]; exact ⟨rfl, rfl⟩))
    (fun os started H enc _ F => lifted os started H enc F)
end Go.Proofs.Ytfkmlcgccffmnaa.unifyOnce
