/- GENERAL PARTS (6): operands in rows; the ways out of blocks; small forms for the printed walks. -/
import Derived.Test.YtanpeofnlihhoaaDoorGw5
namespace Go.Proofs.YtanpeofnlihhoaaDoor
open Go

def evs (L : List (Nat × Value)) : List Operand → Option (List Value)
  | [] => some []
  | x :: r => match ev L x, evs L r with
    | some v, some vs => some (v :: vs)
    | _, _ => none
def evp (L : List (Nat × Value)) : List (Nat × Operand) → Option (List (Nat × Value))
  | [] => some []
  | (i, x) :: r => match ev L x, evp L r with
    | some v, some vs => some ((i, v) :: vs)
    | _, _ => none

section
variable {P : Program} {o : Oper} {a : Act} {w w0 : World} {v u : Value} {x y z : Operand} {t t' : TypeId} {M : List Nat} {L : List Ent} {n : Nat} {F : List (Nat × Value)}

theorem Fr.evals (h : Fr a n F) : ∀ {args : List Operand} {vs : List Value}, evs F args = some vs → args.map a.eval = vs
  | [], vs, hv => by cases hv; rfl
  | x :: r, vs, hv => by
    unfold evs at hv
    split at hv
    · rename_i v vs' h1 h2
      cases hv
      rw [List.map_cons, h.eval h1, Fr.evals h h2]
    · cases hv
theorem Fr.evalp (h : Fr a n F) : ∀ {args : List (Nat × Operand)} {vs : List (Nat × Value)}, evp F args = some vs → args.map (fun (i, x) => (i, a.eval x)) = vs
  | [], vs, hv => by cases hv; rfl
  | (i, x) :: r, vs, hv => by
    unfold evp at hv
    split at hv
    · rename_i v vs' h1 h2
      cases hv
      rw [List.map_cons, Fr.evalp h h2]
      show (i, a.eval x) :: _ = _
      rw [h.eval h1]
    · cases hv

theorem c_call {f : Nat} {args : List Operand} {vs : List Value} {ts : Array TypeId} {R : Value → World → Prop} (hF : Fr a n F) (ho : o.op = .call { callee := .value (.func f), args := args.toArray, argTypes := ts }) (hv : evs F args = some vs)
    (hf : ∀ args w, (callFunc f args).run P w = .ok (.enter f args) w) (hc : Ret P f vs.toArray w R) : Eff P o a w R :=
  e_call ho (by rw [List.map_toArray, hF.evals hv]) hf hc
theorem c_callV {f : Nat} {g : Operand} {fs cs args : List Value} {argo : List Operand} {vs : List Value} {ts : Array TypeId} {R : Value → World → Prop} (hF : Fr a n F) (ho : o.op = .call { callee := .value g, args := argo.toArray, argTypes := ts })
    (hg : a.eval g = .func (.func f) fs.toArray cs.toArray) (hv : evs F argo = some args) (hvs : fs ++ args ++ cs = vs) (hf : ∀ args w, (callFunc f args).run P w = .ok (.enter f args) w) (hc : Ret P f vs.toArray w R) : Eff P o a w R :=
  e_callV ho hg (by rw [List.map_toArray, hF.evals hv, ← hvs]; simp) hf hc
theorem c_makeFunc {fn : Fn} {f c : List Operand} {f' c' : List Value} (hF : Fr a n F) (ho : o.op = .makeFunc fn f.toArray c.toArray) (hf : evs F f = some f') (hc : evs F c = some c') : QV P o a w (.func fn f'.toArray c'.toArray) :=
  q_makeFunc ho (by rw [List.map_toArray, hF.evals hf]) (by rw [List.map_toArray, hF.evals hc])
theorem c_build {fs : Array Field} {parts : List (Nat × Operand)} {vs : List (Nat × Value)} {zv : Value} {offs : List Nat} {cs : List Value} (hF : Fr a n F) (ht : P.underlying t = some (.struct fs)) (hz : ∀ w, (zeroValue t).run P w = .ok zv w)
    (hp : Places P t offs) (hzc : zv.cells = cs.toArray) (ho : o.op = .build t parts.toArray) (hv : evp F parts = some vs)
    (hok : okSet offs cs.length vs = true) : QV P o a w (.agg (setAll offs cs vs).toArray) :=
  q_buildS ht hz hp hzc ho (by rw [List.map_toArray, hF.evalp hv]) hok
theorem c_buildSlice {e : TypeId} {size len : Nat} {parts : List (Nat × Operand)} {vs : List (Nat × Value)} {zv : Value} (hF : Fr a n F) (hO : St w0 M w L) (ht : P.underlying t = some (.slice e)) (hs : ∀ w, (sizeOf e).run P w = .ok size w)
    (hz : ∀ w, (zeroValue e).run P w = .ok zv w) (ho : o.op = .buildSlice t len parts.toArray) (hv : evp F parts = some vs) (hsm : Nat.ble (len * size) 16777216 = true) (h0 : Nat.ble 1 (len * size) = true)
    (hlen : vs.length = len) (hok : okRow size 0 vs = true) (hm : Nat.ble len 9223372036854775807 = true) :
    Eff P o a w (fun u w' => ∃ b, u = .slice (some (adr b)) len len ∧ St w0 M w' (.sl (.slice (some (adr b)) len len) e size len (rowCells vs) :: L)) :=
  e_buildSlice hO ht hs hz ho (by rw [List.map_toArray, hF.evalp hv]) hsm h0 hlen hok hm

/-! ### Ways out -/
variable {K : Act → World → Prop} {Q : Exit → Act → World → Prop} {i j : Nat}
theorem k_n (h : K a w) : Exit.then K Q .normal a w := h
theorem k_r (h : Q .ret a w) : Exit.then K Q .ret a w := h
theorem k_x (h : Q (.exit i) a w) : Exit.then K Q (.exit i) a w := h
theorem b_n (h : Q .normal a w) : Exit.inBlock i Q .normal a w := h
theorem b_r (h : Q .ret a w) : Exit.inBlock i Q .ret a w := h
theorem b_x (h : Q .normal a w) : Exit.inBlock i Q (.exit i) a w := by simpa [Exit.inBlock] using h
theorem b_o (hne : Nat.beq i j = false) (h : Q (.exit i) a w) : Exit.inBlock j Q (.exit i) a w := by
  have : ¬ i = j := fun e => by subst e; simp at hne
  simpa [Exit.inBlock, this] using h

/-! ### What a call is handed -/
theorem Owns.nil (w : World) : Owns w [] := ⟨fun _ h => (by cases h), List.nodup_nil⟩
theorem St.init0 (w : World) : St w [] w [] := St.init (Owns.nil w)
theorem St.own1 {e : Ent} {B : List Ent} (h : St w0 M w (e :: B)) : Owns w [e] := (St.front (A := [e]) h).owns
theorem St.own2 {e f : Ent} {B : List Ent} (h : St w0 M w (e :: f :: B)) : Owns w [e, f] := (St.front (A := [e, f]) h).owns
theorem St.own3 {e f g : Ent} {B : List Ent} (h : St w0 M w (e :: f :: g :: B)) : Owns w [e, f, g] := (St.front (A := [e, f, g]) h).owns
section
variable {α : Type} {E : Enc α} {l : List α}
theorem RdT.at0 (h : RdT w0 M v E l) (hO : St w0 M w L) : RdT w [] v E l := Rd.mono (RdT.now h hO) (fun _ h => by cases h)
theorem RdT.at1 {e : Ent} {B : List Ent} (h : RdT w0 M v E l) (hO : St w0 M w (e :: B)) : RdT w (blks [e]) v E l := RdT.now h (St.front (A := [e]) hO)
theorem RdT.at2 {e f : Ent} {B : List Ent} (h : RdT w0 M v E l) (hO : St w0 M w (e :: f :: B)) : RdT w (blks [e, f]) v E l := RdT.now h (St.front (A := [e, f]) hO)
theorem RdT.at3 {e f g : Ent} {B : List Ent} (h : RdT w0 M v E l) (hO : St w0 M w (e :: f :: g :: B)) : RdT w (blks [e, f, g]) v E l := RdT.now h (St.front (A := [e, f, g]) hO)
theorem St.rdT1 {x : Ent} {B : List Ent} (hO : St w0 M w (x :: B)) (i : Nat) {e : Nat} (hi : B[i]? = some (slT v e E l)) : RdT w (blks [x]) v E l := St.rdB (A := [x]) hO i hi
theorem St.rdT2 {x y : Ent} {B : List Ent} (hO : St w0 M w (x :: y :: B)) (i : Nat) {e : Nat} (hi : B[i]? = some (slT v e E l)) : RdT w (blks [x, y]) v E l := St.rdB (A := [x, y]) hO i hi
theorem St.rdT3 {x y z : Ent} {B : List Ent} (hO : St w0 M w (x :: y :: z :: B)) (i : Nat) {e : Nat} (hi : B[i]? = some (slT v e E l)) : RdT w (blks [x, y, z]) v E l := St.rdB (A := [x, y, z]) hO i hi
end

theorem of_dec {p : Prop} [Decidable p] (h : decide p = true) : p := of_decide_eq_true h
theorem get_ex {α : Type} {l : List α} {i : Nat} (h : i < l.length) : ∃ x, l[i]? = some x := ⟨_, List.getElem?_eq_getElem h⟩
end
end Go.Proofs.YtanpeofnlihhoaaDoor
