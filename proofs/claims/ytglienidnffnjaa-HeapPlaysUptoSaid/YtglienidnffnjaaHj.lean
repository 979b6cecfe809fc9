/- slices.Sort at int: the shelf's contract in this framework's words. -/
import Derived.Test.YtglienidnffnjaaGw18
import Derived.Test.YtglienidnffnjaaGf
import Derived.Test.YtglienidnffnjaaSs
import Derived.Sort.OwnSortedInts
namespace Go.Proofs.Ytglienidnffnjaa
open Go
def sortF (l : List Int) : List Int := l.mergeSort fun x y => decide (x ≤ y)
theorem sortF_len (l : List Int) : (sortF l).length = l.length := List.length_mergeSort ..
theorem flat_int (l : List Int) : flat intE l = l.map (Value.int .i64) := by
  induction l with
  | nil => rfl
  | cons x l ih => rw [List.map_cons, ← ih]; rfl
theorem sortI_r (w0 : World) (vr : Value) (rs : List Int) (hA : Owns w0 [slT vr 3 intE rs]) (hn : rs.length ≤ 1000000000000000) : Ret Try.prog 61 #[vr] w0 (fun v w' => v = .tuple #[] ∧ St w0 (blks [slT vr 3 intE rs]) w' [slT vr 3 intE (sortF rs)]) := by
  have hO := St.init hA
  have hown : w0.ownsRow 0 3 1 vr rs.length (flat intE rs) := hO.ok (i := 0) rfl
  obtain ⟨_, A, cap0, hvr, _, _, _⟩ := hO.rd 0 rfl
  by_cases h0 : rs = []
  · subst h0
    subst hvr
    refine Calls.mono (Try.slices_Sort_int_none A cap0 w0) fun e w' ⟨he, hw⟩ => ⟨_, he, rfl, ?_⟩
    subst hw
    have e : sortF [] = [] := by simp [sortF]
    rw [e]; exact hO
  · have hpos : 0 < rs.length := List.length_pos_iff.2 h0
    rcases hown.2 with ⟨_, hz⟩ | ⟨g, cap, cur, rfl, hb, hg, hnc, hm, hsz, htk⟩
    · omega
    · rw [Nat.mul_one, flat_int] at htk
      have hH := holds_of_blockI hg htk
      have hlt : g < w0.heap.size := (Array.getElem?_eq_some_iff.1 hg).1
      refine Calls.mono (Try.slices_Sort_int g 0 cap rs w0 hH hlt (by omega)) fun e w' ⟨he, n, os, hw⟩ => ⟨_, he, rfl, ?_⟩
      subst hw
      have hl : (sortF rs).length = rs.length := sortF_len rs
      have hgr := grownBy_sortedI (w := w0) (g := g) (n := n) (os := os) (sortF rs).toArray
      have hrow := ownsRow_sortedI (base := 0) (n := n) (os := os) hl (Nat.zero_le g) hg hnc hm hsz
      rw [← flat_int] at hrow
      exact hO.turnAt (i := 0) rfl hgr.os hgr.tape hgr.output hgr.size (fun b hb hne => hgr.block b hb hne) (e' := slT (.slice (some ⟨g, 0, none⟩) rs.length cap) 3 intE (sortF rs)) (by unfold slT; rw [hl]; exact hrow) (.inl rfl)
end Go.Proofs.Ytglienidnffnjaa
