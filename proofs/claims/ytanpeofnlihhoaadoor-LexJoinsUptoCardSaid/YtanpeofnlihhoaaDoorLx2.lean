/- The library's contracts as the lexer's walks take them; the builder; globals. Numbers are those of the seat (filled in: @F_..@). -/
import Derived.Test.YtanpeofnlihhoaaDoorLx1
import Derived.Test.YtanpeofnlihhoaaDoorGw22
import Derived.Test.YtanpeofnlihhoaaDoorSs
import Derived.Test.YtanpeofnlihhoaaDoorGf
import Derived.Lib.AtoiErrMem
namespace Go.Proofs.YtanpeofnlihhoaaDoor
open Go Go.RowKit
set_option linter.unusedVariables false
set_option maxRecDepth 100000
/-- what the library's two variables hold: something or nil -/
structure GlE (w : World) (M : List Nat) : Prop where
  a : ∃ ev, Rd w M (gl1 0) 1 1 [ev] ∧ (ev = .nilIface ∨ ∃ te pe, ev = .iface te pe)
  b : ∃ ev, Rd w M (gl1 1) 1 1 [ev] ∧ (ev = .nilIface ∨ ∃ te pe, ev = .iface te pe)
section
variable {w0 w : World} {M : List Nat} {L B : List Ent} {e f : Ent}
theorem GlE.now (h : GlE w0 M) (hO : St w0 M w L) : GlE w (blks L) := by
  obtain ⟨⟨x, h1, h2⟩, ⟨y, h3, h4⟩⟩ := h
  exact ⟨⟨x, Rd.now h1 hO, h2⟩, ⟨y, Rd.now h3 hO, h4⟩⟩
theorem GlE.at0 (h : GlE w0 M) (hO : St w0 M w L) : GlE w [] := by
  obtain ⟨⟨x, h1, h2⟩, ⟨y, h3, h4⟩⟩ := h
  exact ⟨⟨x, Rd.at0 h1 hO, h2⟩, ⟨y, Rd.at0 h3 hO, h4⟩⟩
theorem GlE.at2 (h : GlE w0 M) (hO : St w0 M w (e :: f :: B)) : GlE w (blks [e, f]) := h.now (St.front (A := [e, f]) hO)
end
theorem index_r (w0 : World) (l : List UInt8) (b : UInt8) : Ret Tryd.prog 37 #[str l, .int .u8 b.toNat] w0 (fun v w' => v = i64 (Lib.indexByte l b) ∧ St w0 [] w' []) := by
  refine Ret.mono (ret_calls (Tryd.strings_IndexByte ⟨l.toArray⟩ (b.toNat : Int) w0)) fun v w' ⟨hv, hw⟩ => ?_
  subst hv hw
  refine ⟨?_, st_same⟩
  have e : ((b.toNat : Int)).toNat.toUInt8 = b := by simp
  rw [bytes_l, e]; rfl
theorem trim_r (w0 : World) (l : List UInt8) (hl : l.length ≤ 16384) : Ret Tryd.prog 45 #[str l, str [45]] w0 (fun v w' => v = str (Lib.trimB l 45) ∧ St w0 [] w' []) := by
  refine Ret.mono (ret_calls (Tryd.strings_Trim_one ⟨l.toArray⟩ 45 (by decide) w0 (by rw [str_size]; omega))) fun v w' ⟨hv, hw⟩ => ?_
  subst hv
  rw [bytes_l]
  refine ⟨rfl, ?_⟩
  rcases hw with rfl | rfl
  · exact st_same
  · exact St.drew st_same
theorem parseInt_r (w0 : World) (l : List UInt8) (hl : l.length ≤ 16384) (h0 : l ≠ []) (hd : ∀ c ∈ l, digitB c = true) (hG : GlE w0 []) : Ret Tryd.prog 34 #[str l, i64 10, i64 64] w0 (fun v w' => ∃ (n : Int) (e : Option (TypeId × Value)), v = .tuple #[i64 n, errV e] ∧ ((∃ k : Nat, numF l 0 = some k ∧ n = k ∧ e = none) ∨ (numF l 0 = none ∧ e.isSome = true)) ∧ St w0 [] w' []) := by
  have hs : (⟨l.toArray⟩ : ByteArray).size = l.length := str_size l
  rcases num64 h0 hd with ⟨v, h1, h2, h3⟩ | ⟨h1, h2⟩
  · refine Ret.mono (ret_calls (Tryd.strconv_ParseInt_10_at64_ok ⟨l.toArray⟩ (by rw [hs]; omega) (v : Int) (by rw [bytes_l]; exact h2) w0)) fun u w' ⟨hv, hw⟩ => ?_
    subst hv
    refine ⟨v, none, rfl, .inl ⟨v, h1, rfl, rfl⟩, ?_⟩
    rcases hw with rfl | ⟨t, rfl⟩
    · exact st_same
    · exact st_below (Lib.bytesWorld_below _ _ _)
  · obtain ⟨ev, hr, hev⟩ := hG.b
    refine Calls.mono (Tryd.strconv_ParseInt_10_at64_range ⟨l.toArray⟩ (by rw [hs]; omega) (by rw [bytes_l]; exact h2) ev w0 (rdB_cell0 hr rfl) hev) fun e w' ⟨N, he, _, _, hw⟩ => ?_
    exact ⟨_, he, _, some (_, _), rfl, .inr ⟨h1, rfl⟩, st_below hw⟩
theorem parseUint_r (w0 : World) (l : List UInt8) (hl : l.length ≤ 16384) (hd : ∀ c ∈ l, digitB c = true) (hG : GlE w0 []) : Ret Tryd.prog 51 #[str l, i64 10, i64 8] w0 (fun v w' => ∃ (n : Nat) (e : Option (TypeId × Value)), v = .tuple #[.int .u64 n, errV e] ∧ (l ≠ [] → (n = capF l 0 ∧ n ≤ 255 ∧ e = none) ∨ (255 < capF l 0 ∧ e.isSome = true)) ∧ St w0 [] w' []) := by
  have hs : (⟨l.toArray⟩ : ByteArray).size = l.length := str_size l
  by_cases h0 : l = []
  · subst h0
    obtain ⟨ev, hr, hev⟩ := hG.a
    refine Calls.mono (Tryd.strconv_ParseUint_10_at8_syntax ⟨([] : List UInt8).toArray⟩ (by rw [hs]; omega) (by rw [bytes_l]) ev w0 (rdB_cell0 hr rfl) hev) fun e w' ⟨N, he, _, _, hw⟩ => ?_
    exact ⟨_, he, 0, some (_, _), rfl, fun h => absurd rfl h, st_below hw⟩
  · rcases num8 h0 hd with ⟨h2, h3⟩ | ⟨h2, h3⟩
    · refine Ret.mono (ret_calls (Tryd.strconv_ParseUint_10_at8_ok ⟨l.toArray⟩ (by rw [hs]; omega) (capF l 0) (by rw [bytes_l]; exact h2) w0)) fun u w' ⟨hv, hw⟩ => ?_
      subst hv
      refine ⟨capF l 0, none, rfl, fun _ => .inl ⟨rfl, h3, rfl⟩, ?_⟩
      rcases hw with rfl | rfl
      · exact st_same
      · exact st_below (Lib.bytesWorld_below _ _ _)
    · obtain ⟨ev, hr, hev⟩ := hG.b
      refine Calls.mono (Tryd.strconv_ParseUint_10_at8_range ⟨l.toArray⟩ (by rw [hs]; omega) (by rw [bytes_l]; exact h2) ev w0 (rdB_cell0 hr rfl) hev) fun e w' ⟨N, he, _, _, hw⟩ => ?_
      exact ⟨_, he, 255, some (_, _), rfl, fun _ => .inr ⟨h3, rfl⟩, st_below hw⟩
/-! the builder -/
theorem flat_bytes (l : List UInt8) : flat byteE l = Lib.byteCells l := by
  unfold flat Lib.byteCells
  induction l with
  | nil => rfl
  | cons b l ih => rw [List.flatMap_cons, ih]; rfl
theorem bstr_r {w0 w : World} {b : Nat} {o : Option Addr} {bv : Value} {l : List UInt8} (ho : o = none ∨ o = some (adr b)) (hO : St w0 [] w [.ob b 70 [.pointer o, bv], slT bv 5 byteE l]) : Ret Tryd.prog 49 #[ptr (adr b)] w (fun v w' => v = str l ∧ St w0 [] w' []) := by
  have hb : w0.heap.size ≤ b := by
    rcases hO.src b (by simp [blks, Ent.bs]) with h | h
    · cases h
    · exact h
  have hob : w.heap[b]? = some (.cells #[.pointer o, bv] 70 (0, 0)) := hO.ok (i := 0) rfl
  have hsl : w.ownsRow 0 5 1 bv l.length (flat byteE l) := hO.ok (i := 1) rfl
  have hne : bv.ownBlock ≠ some b := fun h => by
    have := hO.nodup
    simp [blks, Ent.bs, slT, h] at this
  have hrow : w.ownsRow w0.heap.size 5 1 bv (Lib.byteCells l).length (Lib.byteCells l) := by
    rw [flat_bytes] at hsl
    have hlen : (Lib.byteCells l).length = l.length := by simp [Lib.byteCells]
    refine ⟨by rw [Nat.mul_one], ?_⟩
    rw [hlen]
    rcases hsl.2 with h | ⟨g, cap, cur, rfl, _, rest⟩
    · exact .inl h
    · refine .inr ⟨g, cap, cur, rfl, ?_, rest⟩
      rcases hO.src g (by simp [blks, Ent.bs, slT, Value.ownBlock]) with h | h
      · cases h
      · exact h
  have hB : Lib.IsBuilder 70 5 w0.heap.size b (Lib.byteCells l) w := by
    rcases ho with rfl | rfl
    · exact .inl ⟨hb, bv, hob, hrow, hne⟩
    · exact .inr ⟨hb, bv, hob, hrow, hne⟩
  refine Ret.mono (ret_calls (Tryd.Builder_String_any w0.heap.size b l w hB hO.le)) fun v w' ⟨hv, hw⟩ => ⟨hv, ?_⟩
  have h0 := hO.less (L' := []) (List.nil_sublist _)
  exact ⟨hw.os.trans h0.os, hw.tape.trans h0.tape, hw.output.trans h0.output, Nat.le_trans h0.le hw.size, fun k hk hm => (hw.block k hk).trans (h0.keep k hk hm), fun _ h => (by cases h), List.nodup_nil, fun _ h => (by cases h)⟩
/-! conversions of a builder's pointer -/
theorem q_toUnsafe {o : Oper} {a : Act} {w w0 : World} {x : Operand} {b i : Nat} {cs : List Value} {M : List Nat} {L : List Ent} (hO : St w0 M w L) (hi : L[i]? = some (.ob b 70 cs)) (hc : cs.length = 2) (ho : o.op = .convert 68 100 x) (hx : a.eval x = ptr (adr b)) : QV Tryd.prog o a w (ptr (adr b)) := by
  have hob : w.heap[b]? = some (.cells cs.toArray 70 (0, 0)) := hO.ok hi
  have hsh : w.shape? b = some (70, 2) := by simp [World.shape?, hob, hc]
  have := Lib.run_to_unsafe (P := Tryd.prog) (w := w) (src := 68) (dst := 100) (t := 70) (e := 70) (j := Tryd.t70) (cells := 2) (adr b) Tryd.underlying68 Tryd.underlying100 (by kernel_rfl) (by decide +kernel) hsh (Nat.zero_lt_succ 1)
  simp only [QV, execOp, ho, hx, ptr, Sem.run_bind, this, Result.andThen_ok]
  rfl
theorem q_fromUnsafe {o : Oper} {a : Act} {w w0 : World} {x : Operand} {b i : Nat} {cs : List Value} {M : List Nat} {L : List Ent} (hO : St w0 M w L) (hi : L[i]? = some (.ob b 70 cs)) (hc : cs.length = 2) (ho : o.op = .convert 100 68 x) (hx : a.eval x = ptr (adr b)) : QV Tryd.prog o a w (ptr (adr b)) := by
  have hob : w.heap[b]? = some (.cells cs.toArray 70 (0, 0)) := hO.ok hi
  have hsh : w.shape? b = some (70, 2) := by simp [World.shape?, hob, hc]
  have := Lib.run_from_unsafe (P := Tryd.prog) (w := w) (src := 100) (dst := 68) (u := 70) (e := 70) (j := Tryd.t70) (cells := 2) (adr b) Tryd.underlying100 Tryd.underlying68 (by kernel_rfl) hsh (by kernel_rfl)
  simp only [QV, execOp, ho, hx, ptr, Sem.run_bind, this, Result.andThen_ok]
  rfl
theorem e_noEscape {o : Oper} {a : Act} {w : World} {x : Operand} {v : Value} {ts : Array TypeId} (ho : o.op = .call { callee := .value (.func 77), args := #[x], argTypes := ts }) (hx : a.eval x = v) : QV Tryd.prog o a w v := by
  have h := run_callFunc_extern (P := Tryd.prog) Tryd.func77 (by kernel_rfl) (by kernel_rfl) (by kernel_rfl) (e := Extern.AbiNoEscape.same) (by kernel_rfl) #[v] w
  rw [Lib.run_noEscape] at h
  have hv : (#[x] : Array Operand).map a.eval = #[v] := by simp [hx]
  have hff : a.eval (.func 77) = .func (.func 77) #[] #[] := rfl
  have h2 : (callFunc 77 #[v]).run Tryd.prog w = .ok (.value v) w := h
  simp [QV, execOp, ho, resolve, invoke, hff, Deferred.ofValue, hx, h2]
/-! one operand of a pointer comparison -/
theorem q_pneS {o : Oper} {a : Act} {w : World} {x y : Operand} {t t' : TypeId} {p : Addr} (ht : Tryd.prog.underlying t = some (.pointer 70)) (ho : o.op = .binOp .neq t x y t') (hx : a.eval x = ptr p) (hy : a.eval y = ptr p) : QV Tryd.prog o a w (.bool (decide (¬ True))) := by
  have hg : eqGuard .neq t x y (ptr p) (ptr p) = pure () := eqGuard_at_pointer ..
  have := Lib.run_neq_ptr_same (P := Tryd.prog) w p ht (j := Tryd.t70) (by kernel_rfl)
  simp only [QV, execOp, ho, hx, hy, hg, Sem.run_bind, Sem.run_pure, Result.andThen_ok]
  simp only [ptr] at this ⊢
  rw [this]
  rfl
end Go.Proofs.YtanpeofnlihhoaaDoor
