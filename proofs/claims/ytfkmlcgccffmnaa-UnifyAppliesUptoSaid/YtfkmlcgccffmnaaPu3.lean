/- PU1, PLAIN: types as trees; how they lie in memory. -/
import Derived.Test.YtfkmlcgccffmnaaGw27
namespace Go.Proofs.Ytfkmlcgccffmnaa
open Go
theorem takeAt {α : Type} {l : List α} {k : Nat} {x : α} (hx : l[k]? = some x) : l.take (k + 1) = l.take k ++ [x] := by rw [List.take_add_one, hx]; rfl
inductive Ty where
  | mk (kind : Int) (name : List UInt8) (subs : List Ty)
inductive TN where
  | mk (kind : Int) (name : List UInt8) (h : Hdr) (subs : List TN)
def TN.kind : TN → Int | .mk k _ _ _ => k
def TN.name : TN → List UInt8 | .mk _ n _ _ => n
def TN.h : TN → Hdr | .mk _ _ h _ => h
def TN.subs : TN → List TN | .mk _ _ _ l => l
def Ty.kind : Ty → Int | .mk k _ _ => k
def Ty.name : Ty → List UInt8 | .mk _ n _ => n
def Ty.subs : Ty → List Ty | .mk _ _ l => l
def nilH : Hdr := ⟨none, 0, 0⟩
def tn0 : TN := .mk 0 [] nilH []
def ty0 : Ty := .mk 0 [] []
mutual
def TN.er : TN → Ty
  | .mk k n _ l => .mk k n (TN.erL l)
def TN.erL : List TN → List Ty
  | [] => []
  | t :: l => t.er :: TN.erL l
end
theorem erL_map : ∀ l : List TN, TN.erL l = l.map TN.er
  | [] => rfl
  | _ :: l => congrArg _ (erL_map l)
theorem er_mk (k : Int) (n : List UInt8) (h : Hdr) (l : List TN) : (TN.mk k n h l).er = .mk k n (l.map TN.er) := by
  show Ty.mk k n (TN.erL l) = _
  rw [erL_map]
theorem TN.ind {P : TN → Prop} (h : ∀ k n hd l, (∀ t ∈ l, P t) → P (.mk k n hd l)) : ∀ t, P t
  | .mk k n hd l => h k n hd l fun t _ => TN.ind h t
termination_by t => SizeOf.sizeOf t
decreasing_by
  rename_i ht
  have := List.sizeOf_lt_of_mem ht
  simp only [TN.mk.sizeOf_spec]
  omega
theorem Ty.ind {P : Ty → Prop} (h : ∀ k n l, (∀ t ∈ l, P t) → P (.mk k n l)) : ∀ t, P t
  | .mk k n l => h k n l fun t _ => Ty.ind h t
termination_by t => SizeOf.sizeOf t
decreasing_by
  rename_i ht
  have := List.sizeOf_lt_of_mem ht
  simp only [Ty.mk.sizeOf_spec]
  omega
def tnE : Enc TN where
  size := 3
  cells t := [i64 t.kind, str t.name, t.h.v]
  len _ := rfl
  one t u hu := by
    simp only [List.mem_cons, List.not_mem_nil, or_false] at hu
    rcases hu with rfl | rfl | rfl <;> rfl
mutual
def RdN (w : World) (M : List Nat) : TN → Prop
  | .mk _ _ h l => RdT w M h.v tnE l ∧ RdL w M l
def RdL (w : World) (M : List Nat) : List TN → Prop
  | [] => True
  | t :: l => RdN w M t ∧ RdL w M l
end
section
variable {w w0 w' : World} {M : List Nat} {L B : List Ent}
theorem rdL_iff : ∀ {l : List TN}, RdL w M l ↔ ∀ t ∈ l, RdN w M t
  | [] => ⟨fun _ t h => (by cases h), fun _ => trivial⟩
  | t :: l => by
    show RdN w M t ∧ RdL w M l ↔ _
    rw [rdL_iff]
    simp
theorem RdN.sl {k : Int} {n : List UInt8} {h : Hdr} {l : List TN} (hR : RdN w M (.mk k n h l)) : RdT w M h.v tnE l := hR.1
theorem RdN.sub {k : Int} {n : List UInt8} {h : Hdr} {l : List TN} (hR : RdN w M (.mk k n h l)) : ∀ t ∈ l, RdN w M t := rdL_iff.1 hR.2
theorem RdN.mk {k : Int} {n : List UInt8} {h : Hdr} {l : List TN} (h1 : RdT w M h.v tnE l) (h2 : ∀ t ∈ l, RdN w M t) : RdN w M (.mk k n h l) := ⟨h1, rdL_iff.2 h2⟩
theorem RdN.now (hO : St w0 M w L) : ∀ {t : TN}, RdN w0 M t → RdN w (blks L) t := fun {t} => TN.ind (P := fun t => RdN w0 M t → RdN w (blks L) t) (fun _ _ _ _ ih h => .mk (h.sl.now hO) fun t ht => ih t ht (h.sub t ht)) t
theorem RdN.at0 {t : TN} (h : RdN w0 M t) (hO : St w0 M w L) : RdN w [] t :=
  TN.ind (P := fun t => RdN w0 M t → RdN w [] t) (fun _ _ _ _ ih h => .mk (h.sl.at0 hO) fun t ht => ih t ht (h.sub t ht)) t h
theorem rd0_any {h : Hdr} (hR : RdT w M h.v tnE []) (w' : World) (M' : List Nat) : RdT w' M' h.v tnE [] := by
  obtain ⟨h1, A, c, e, h2, h3, _⟩ := hR
  exact ⟨h1, A, c, e, h2, h3, fun h0 => absurd h0 (Nat.lt_irrefl 0)⟩
mutual
/-- a tree that was made: its blocks -/
def tE (T : Nat) : TN → Ent
  | .mk _ _ h [] => Ent.gp [] (fun w => RdT w [] h.v tnE []) (fun _ w' h _ => rd0_any h w' []) (fun _ _ b hb => by cases hb)
  | .mk _ _ h (t :: l) => Ent.grp [slT h.v T tnE (t :: l), Ent.grp (tE T t :: tEL T l)]
def tEL (T : Nat) : List TN → List Ent
  | [] => []
  | t :: l => tE T t :: tEL T l
end
theorem tEL_map (T : Nat) : ∀ l : List TN, tEL T l = l.map (tE T)
  | [] => rfl
  | _ :: l => congrArg _ (tEL_map T l)
theorem tE_leaf (T : Nat) (k : Int) (n : List UInt8) (h : Hdr) : tE T (.mk k n h []) = Ent.gp [] (fun w => RdT w [] h.v tnE []) (fun _ w' h _ => rd0_any h w' []) (fun _ _ b hb => by cases hb) := rfl
theorem tE_node (T : Nat) (k : Int) (n : List UInt8) (h : Hdr) (t : TN) (l : List TN) : tE T (.mk k n h (t :: l)) = Ent.grp [slT h.v T tnE (t :: l), Ent.grp ((t :: l).map (tE T))] := by
  rw [← tEL_map]; rfl
theorem tE_rd {T : Nat} : ∀ t : TN, (tE T t).ok w → RdN w [] t := TN.ind fun k n h l ih hok => by
  cases l with
  | nil => exact .mk hok fun t ht => by cases ht
  | cons t l =>
    rw [tE_node] at hok
    have h1 : (slT h.v T tnE (t :: l)).ok w := hok _ (by simp)
    have h2 : (Ent.grp ((t :: l).map (tE T))).ok w := hok _ (by simp)
    exact .mk (Ent.rd h1 fun _ _ h => by cases h) fun s hs => ih s hs (h2 _ (List.mem_map.2 ⟨s, hs, rfl⟩))
theorem St.rdN {T : Nat} {t : TN} (hO : St w0 M w L) (i : Nat) (hi : L[i]? = some (tE T t)) : RdN w [] t := tE_rd t (hO.ok hi)
theorem St.rdNG {T : Nat} {l : List TN} {t : TN} (hO : St w0 M w L) (i : Nat) (hi : L[i]? = some (Ent.grp (l.map (tE T)))) (ht : t ∈ l) : RdN w [] t :=
  tE_rd t ((hO.ok hi : (Ent.grp _).ok w) _ (List.mem_map.2 ⟨t, ht, rfl⟩))
/-- what holds of the world for good -/
theorem St.gp0 (hO : St w0 M w L) (ok : World → Prop) (h1 : ∀ w w', ok w → (∀ b ∈ ([] : List Nat), w'.heap[b]? = w.heap[b]?) → ok w') (h2 : ∀ w, ok w → ∀ b ∈ ([] : List Nat), b < w.heap.size) (h : ok w) : St w0 M w (Ent.gp [] ok h1 h2 :: L) := by
  have e : blks (Ent.gp [] ok h1 h2 :: L) = blks L := rfl
  refine ⟨hO.os, hO.tape, hO.output, hO.le, hO.keep, fun x hx => ?_, e ▸ hO.nodup, fun b hb => hO.src b (e ▸ hb)⟩
  rcases List.mem_cons.1 hx with rfl | hx
  · exact h
  · exact hO.own x hx
/-- a slice of trees that were made becomes a tree -/
theorem St.mkT {T : Nat} {h : Hdr} {l : List TN} (hO : St w0 M w (slT h.v T tnE l :: Ent.grp (l.map (tE T)) :: L)) (k : Int) (n : List UInt8) : St w0 M w (tE T (.mk k n h l) :: L) := by
  cases l with
  | nil =>
    have hR : RdT w [] h.v tnE [] := hO.rdT 0 rfl
    exact St.gp0 hO.tail.tail _ _ _ hR
  | cons t l =>
    rw [tE_node]
    exact St.group (A := [_, _]) hO
theorem St.leafT {T : Nat} {h : Hdr} (hO : St w0 M w L) (hR : RdT w [] h.v tnE []) (k : Int) (n : List UInt8) : St w0 M w (tE T (.mk k n h []) :: L) := St.gp0 hO _ _ _ hR
end
/-! ### What is asked of types -/
def rightF : Ty → Bool
  | .mk k n [a, b] => decide (k = 54) && decide (n = []) && rightF a && rightF b
  | .mk k n l => decide ((k = 52 ∨ k = 53) ∧ ¬ n = [] ∧ (l.length : Int) = 0)
mutual
def nodesF : Ty → Nat
  | .mk _ _ l => 1 + nodesL l
def nodesL : List Ty → Nat
  | [] => 0
  | t :: l => nodesF t + nodesL l
end
theorem nodesL_mem {t : Ty} : ∀ {l : List Ty}, t ∈ l → nodesF t ≤ nodesL l
  | [], h => by cases h
  | x :: l, h => by
    show _ ≤ nodesF x + nodesL l
    rcases List.mem_cons.1 h with rfl | h
    · omega
    · have := nodesL_mem h; omega
theorem nodes_pos (t : Ty) : 1 ≤ nodesF t := by cases t; show 1 ≤ 1 + _; omega
def checkF (t : Ty) : Int := if rightF t = false then 1 else if 1000 < (nodesF t : Int) then 3 else 0
def allF : List Ty → Int → Int
  | [], e => e
  | t :: l, e => if rightF t = false then 1 else allF l (if 1000 < (nodesF t : Int) then 3 else e)
mutual
def sameF : Ty → Ty → Bool
  | .mk k n l, .mk k' n' l' => decide (k = k') && decide (n = n') && sameL l l'
def sameL : List Ty → List Ty → Bool
  | [], [] => true
  | a :: l, b :: r => sameF a b && sameL l r
  | [], _ :: _ => false
  | _ :: _, [] => false
end
mutual
theorem same_iff : ∀ {a b : Ty}, sameF a b = true ↔ a = b
  | .mk k n l, .mk k' n' l' => by
    show (decide (k = k') && decide (n = n') && sameL l l') = true ↔ _
    rw [Bool.and_eq_true, Bool.and_eq_true, decide_eq_true_iff, decide_eq_true_iff, sameL_iff, Ty.mk.injEq, and_assoc]
theorem sameL_iff : ∀ {a b : List Ty}, sameL a b = true ↔ a = b
  | [], [] => by simp [sameL]
  | a :: l, b :: r => by
    show (sameF a b && sameL l r) = true ↔ _
    rw [Bool.and_eq_true, same_iff, sameL_iff, List.cons.injEq]
  | [], _ :: _ => by simp [sameL]
  | _ :: _, [] => by simp [sameL]
end
instance : DecidableEq Ty := fun a b => decidable_of_iff _ same_iff
theorem same_dec (a b : Ty) : sameF a b = decide (a = b) := by
  rw [Bool.eq_iff_iff, same_iff, decide_eq_true_iff]
end Go.Proofs.Ytfkmlcgccffmnaa
namespace Go.Proofs.Ytfkmlcgccffmnaa
open Go
section
variable {k : Int} {n : List UInt8} {hd : Hdr} {l : List TN} {a b : TN} {m : Int}
theorem two_of (h : (l.length : Int) = 2) (h0 : l[0]? = some a) (h1 : l[1]? = some b) : l = [a, b] := by
  match l, h with
  | [x, y], _ =>
    cases h0; cases h1; rfl
theorem right_1 (h : k = 52 ∨ k = 53) : decide (¬ n = [] ∧ (l.length : Int) = 0) = rightF (TN.mk k n hd l).er := by
  rw [er_mk]
  match l with
  | [] => show _ = decide _; exact decide_eq_decide.2 ⟨fun g => ⟨h, g.1, rfl⟩, fun g => ⟨g.2.1, rfl⟩⟩
  | [x] => show _ = decide _; exact decide_eq_decide.2 ⟨fun g => absurd g.2 (by simp), fun g => absurd g.2.2 (by simp)⟩
  | [x, y] =>
    show _ = (decide (k = 54) && decide (n = []) && rightF x.er && rightF y.er)
    rw [decide_eq_false (show ¬ k = 54 by omega), decide_eq_false (fun g => absurd g.2 (by simp))]; rfl
  | x :: y :: z :: r => show _ = decide _; exact decide_eq_decide.2 ⟨fun g => absurd g.2 (by simp; omega), fun g => absurd g.2.2 (by simp; omega)⟩
theorem right_2 (h : k = 54) (hc : ¬ n = [] ∨ ¬ (l.length : Int) = 2) : rightF (TN.mk k n hd l).er = false := by
  rw [er_mk]
  match l with
  | [] => show decide _ = _; exact decide_eq_false fun g => by omega
  | [x] => show decide _ = _; exact decide_eq_false fun g => by omega
  | [x, y] =>
    show (decide (k = 54) && decide (n = []) && rightF x.er && rightF y.er) = _
    rw [decide_eq_false (show ¬ n = [] from hc.resolve_right (fun h => h rfl))]; simp
  | x :: y :: z :: r => show decide _ = _; exact decide_eq_false fun g => by omega
theorem right_3 (h : k = 54) (hn : n = []) : rightF (TN.mk k n hd [a, b]).er = decide (rightF a.er = true ∧ rightF b.er = true) := by
  rw [er_mk]
  show (decide (k = 54) && decide (n = []) && rightF a.er && rightF b.er) = _
  rw [decide_eq_true h, decide_eq_true hn]
  cases rightF a.er <;> cases rightF b.er <;> rfl
theorem right_4 (h1 : ¬ (k = 52 ∨ k = 53)) (h2 : ¬ k = 54) : rightF (TN.mk k n hd l).er = false := by
  rw [er_mk]
  match l with
  | [] => show decide _ = _; exact decide_eq_false fun g => h1 g.1
  | [x] => show decide _ = _; exact decide_eq_false fun g => h1 g.1
  | [x, y] =>
    show (decide (k = 54) && decide (n = []) && rightF x.er && rightF y.er) = _
    rw [decide_eq_false h2]; simp
  | x :: y :: z :: r => show decide _ = _; exact decide_eq_false fun g => h1 g.1
theorem nodes_2 : nodesF (TN.mk k n hd [a, b]).er = 1 + nodesF a.er + nodesF b.er := by
  show 1 + (nodesF a.er + (nodesF b.er + 0)) = _
  omega
theorem nodes_0 : nodesF (TN.mk k n hd []).er = 1 := rfl
theorem nodes_mk : nodesF (TN.mk k n hd l).er = 1 + nodesL (l.map TN.er) := by rw [er_mk]; rfl
theorem nodes_in (h : a ∈ l) : nodesF a.er < nodesF (TN.mk k n hd l).er := by
  rw [nodes_mk]
  have := nodesL_mem (List.mem_map_of_mem (f := TN.er) h)
  omega
theorem nodesL_app : ∀ (l r : List Ty), nodesL (l ++ r) = nodesL l + nodesL r
  | [], r => by simp [nodesL]
  | t :: l, r => by
    show nodesF t + nodesL (l ++ r) = nodesF t + nodesL l + nodesL r
    rw [nodesL_app l r]; omega
theorem nodesL_take {i : Nat} (hx : l[i]? = some a) : nodesL ((l.take (i + 1)).map TN.er) = nodesL ((l.take i).map TN.er) + nodesF a.er := by
  rw [takeAt hx, List.map_append, nodesL_app]
  show _ + (nodesF a.er + 0) = _
  omega
theorem nodesL_le {i : Nat} : nodesL ((l.take i).map TN.er) ≤ nodesL (l.map TN.er) := by
  have : l.map TN.er = (l.take i).map TN.er ++ (l.drop i).map TN.er := by rw [← List.map_append, List.take_append_drop]
  rw [this, nodesL_app]; omega
end
def isOk (t : Ty) (m : Int) : Prop := (0 ≤ m ∧ m ≤ nodesF t) ∧ (rightF t = true → m = nodesF t)
theorem allF_drop {l : List TN} {i : Nat} {x : TN} {e : Int} (hx : l[i]? = some x) : allF ((l.drop i).map TN.er) e = if rightF x.er = false then 1 else allF ((l.drop (i + 1)).map TN.er) (if 1000 < (nodesF x.er : Int) then 3 else e) := by
  obtain ⟨h1, h2⟩ := List.getElem?_eq_some_iff.1 hx
  rw [List.drop_eq_getElem_cons h1, h2]; rfl
theorem check_all (t : Ty) : allF [t] 0 = checkF t := by
  unfold checkF
  show (if rightF t = false then 1 else if 1000 < (nodesF t : Int) then 3 else 0) = _
  rfl
theorem sameL_len : ∀ {a b : List Ty}, sameL a b = true → a.length = b.length
  | a, b, h => by rw [sameL_iff.1 h]
theorem sameL_at {l r : List TN} {i : Nat} {x y : TN} (h : sameL ((l.take i).map TN.er) ((r.take i).map TN.er) = true) (hx : l[i]? = some x) (hy : r[i]? = some y) (e : sameF x.er y.er = true) : sameL ((l.take (i + 1)).map TN.er) ((r.take (i + 1)).map TN.er) = true := by
  rw [sameL_iff] at h ⊢
  rw [takeAt hx, takeAt hy, List.map_append, List.map_append, h, List.map_cons, List.map_cons, same_iff.1 e]
theorem same_yes {k : Int} {n : List UInt8} {hd hd' : Hdr} {k' : Int} {n' : List UInt8} {l r : List TN} {i : Nat} (hk : k = k') (hn : n = n') (h : sameL ((l.take i).map TN.er) ((r.take i).map TN.er) = true) (h1 : l.length ≤ i) (h2 : r.length ≤ i) : sameF (TN.mk k n hd l).er (TN.mk k' n' hd' r).er = true := by
  rw [same_iff, er_mk, er_mk, hk, hn]
  rw [List.take_of_length_le h1, List.take_of_length_le h2, sameL_iff] at h
  rw [h]
theorem same_no1 {k : Int} {n : List UInt8} {hd hd' : Hdr} {k' : Int} {n' : List UInt8} {l r : List TN} (h : (¬ k = k' ∨ ¬ n = n') ∨ ¬ (l.length : Int) = (r.length : Int)) : sameF (TN.mk k n hd l).er (TN.mk k' n' hd' r).er = false := by
  cases hs : sameF (TN.mk k n hd l).er (TN.mk k' n' hd' r).er with
  | false => rfl
  | true =>
    rw [same_iff, er_mk, er_mk, Ty.mk.injEq] at hs
    obtain ⟨h1, h2, h3⟩ := hs
    have h4 := congrArg List.length h3
    rw [List.length_map, List.length_map] at h4
    rcases h with (h | h) | h
    · exact absurd h1 h
    · exact absurd h2 h
    · exact absurd (by rw [h4]) h
theorem same_no2 {k : Int} {n : List UInt8} {hd hd' : Hdr} {k' : Int} {n' : List UInt8} {l r : List TN} {i : Nat} {x y : TN} (hx : l[i]? = some x) (hy : r[i]? = some y) (h : ¬ sameF x.er y.er = true) : sameF (TN.mk k n hd l).er (TN.mk k' n' hd' r).er = false := by
  cases hs : sameF (TN.mk k n hd l).er (TN.mk k' n' hd' r).er with
  | false => rfl
  | true =>
    rw [same_iff, er_mk, er_mk, Ty.mk.injEq] at hs
    have h1 : (l.map TN.er)[i]? = some x.er := by rw [List.getElem?_map, hx]; rfl
    have h2 : (r.map TN.er)[i]? = some y.er := by rw [List.getElem?_map, hy]; rfl
    rw [hs.2.2, h2] at h1
    exact absurd (same_iff.2 (Option.some.inj h1).symm) h
theorem getD_mem {i : Nat} {l : List TN} (h : i < l.length) : l.getD i tn0 ∈ l := by
  rw [List.getD_eq_getElem?_getD, List.getElem?_eq_getElem h]
  exact List.getElem_mem h
theorem right_5 {k : Int} {n : List UInt8} {hd : Hdr} {l : List TN} (h : k = 54) : decide (((n = [] ∧ (l.length : Int) = 2) ∧ rightF (l.getD 0 tn0).er = true) ∧ rightF (l.getD 1 tn0).er = true) = rightF (TN.mk k n hd l).er := by
  by_cases hc : n = [] ∧ (l.length : Int) = 2
  · obtain ⟨a, h0⟩ := get_ex (l := l) (i := 0) (by omega)
    obtain ⟨b, h1⟩ := get_ex (l := l) (i := 1) (by omega)
    obtain rfl := two_of hc.2 h0 h1
    rw [right_3 h hc.1]
    exact decide_eq_decide.2 ⟨fun g => ⟨g.1.2, g.2⟩, fun g => ⟨⟨hc, g.1⟩, g.2⟩⟩
  · rw [right_2 h (by
      by_cases hn : n = []
      · exact .inr fun e => hc ⟨hn, e⟩
      · exact .inl hn)]
    exact decide_eq_false fun g => hc g.1.1
theorem right_6 {k : Int} {n : List UInt8} {hd : Hdr} {l : List TN} (h : ¬ k = 54) : decide (((k = 52 ∨ k = 53) ∧ ¬ n = []) ∧ (l.length : Int) = 0) = rightF (TN.mk k n hd l).er := by
  by_cases hk : k = 52 ∨ k = 53
  · rw [← right_1 hk]
    exact decide_eq_decide.2 ⟨fun g => ⟨g.1.2, g.2⟩, fun g => ⟨⟨hk, g.1⟩, g.2⟩⟩
  · rw [right_4 hk h]
    exact decide_eq_false fun g => hk g.1.1
/-- what stands for a variable -/
structure SbN where
  name : List UInt8
  t : TN
def sb0 : SbN := ⟨[], tn0⟩
def sbE : Enc SbN where
  size := 4
  cells s := [str s.name, i64 s.t.kind, str s.t.name, s.t.h.v]
  len _ := rfl
  one t u hu := by
    simp only [List.mem_cons, List.not_mem_nil, or_false] at hu
    rcases hu with rfl | rfl | rfl | rfl <;> rfl
def SbN.er (s : SbN) : List UInt8 × Ty := (s.name, s.t.er)
def sameSF (a b : List (List UInt8 × Ty)) : Bool := decide (a = b)
theorem subs_no {a b : List SbN} (h : ¬ (a.length : Int) = (b.length : Int)) : decide (a.map SbN.er = b.map SbN.er) = false := by
  refine decide_eq_false fun e => h ?_
  have := congrArg List.length e
  rw [List.length_map, List.length_map] at this
  omega
theorem subs_no2 {a b : List SbN} {i : Nat} {x y : SbN} (hx : a[i]? = some x) (hy : b[i]? = some y) (h : ¬ x.name = y.name ∨ ¬ sameF x.t.er y.t.er = true) : decide (a.map SbN.er = b.map SbN.er) = false := by
  refine decide_eq_false fun e => ?_
  have h1 : (a.map SbN.er)[i]? = some x.er := by rw [List.getElem?_map, hx]; rfl
  have h2 : (b.map SbN.er)[i]? = some y.er := by rw [List.getElem?_map, hy]; rfl
  rw [e, h2] at h1
  have h3 : x.er = y.er := (Option.some.inj h1).symm
  rcases h with h | h
  · exact h (congrArg Prod.fst h3)
  · exact h (same_iff.2 (congrArg Prod.snd h3))
theorem subs_next {a b : List SbN} {i : Nat} {x y : SbN} (hx : a[i]? = some x) (hy : b[i]? = some y) (h : ¬ (¬ x.name = y.name ∨ ¬ sameF x.t.er y.t.er = true)) (ht : (a.take i).map SbN.er = (b.take i).map SbN.er) : (a.take (i + 1)).map SbN.er = (b.take (i + 1)).map SbN.er := by
  have h1 := not_or.1 h
  have h2 := same_iff.1 (Classical.not_not.1 h1.2)
  have h3 := Classical.not_not.1 h1.1
  rw [takeAt hx, takeAt hy, List.map_append, List.map_append, ht]
  show _ ++ [(x.name, x.t.er)] = _ ++ [(y.name, y.t.er)]
  rw [h2, h3]
theorem subs_yes {a b : List SbN} {i : Nat} (ht : (a.take i).map SbN.er = (b.take i).map SbN.er) (h1 : a.length ≤ i) (h2 : b.length ≤ i) : decide (a.map SbN.er = b.map SbN.er) = true := by
  rw [List.take_of_length_le h1, List.take_of_length_le h2] at ht
  exact decide_eq_true ht
theorem eqf_no {l r : List TN} (h : ¬ (l.length : Int) = (r.length : Int)) : sameL (l.map TN.er) (r.map TN.er) = false := by
  cases hs : sameL (l.map TN.er) (r.map TN.er) with
  | false => rfl
  | true =>
    have := sameL_len hs
    rw [List.length_map, List.length_map] at this
    exact absurd (by rw [this]) h
theorem eqf_no2 {l r : List TN} {i : Nat} {x y : TN} (hx : l[i]? = some x) (hy : r[i]? = some y) (h : ¬ sameF x.er y.er = true) : sameL (l.map TN.er) (r.map TN.er) = false := by
  cases hs : sameL (l.map TN.er) (r.map TN.er) with
  | false => rfl
  | true =>
    have hs := sameL_iff.1 hs
    have h1 : (l.map TN.er)[i]? = some x.er := by rw [List.getElem?_map, hx]; rfl
    have h2 : (r.map TN.er)[i]? = some y.er := by rw [List.getElem?_map, hy]; rfl
    rw [hs, h2] at h1
    exact absurd (same_iff.2 (Option.some.inj h1).symm) h
theorem eqf_yes {l r : List TN} {i : Nat} (h : sameL ((l.take i).map TN.er) ((r.take i).map TN.er) = true) (h1 : l.length ≤ i) (h2 : r.length ≤ i) : sameL (l.map TN.er) (r.map TN.er) = true := by
  rwa [List.take_of_length_le h1, List.take_of_length_le h2] at h
theorem equal_is {k k' : Int} {n n' : List UInt8} {hd hd' : Hdr} {l r : List TN} : decide ((k = k' ∧ n = n') ∧ sameL (l.map TN.er) (r.map TN.er) = true) = sameF (TN.mk k n hd l).er (TN.mk k' n' hd' r).er := by
  rw [er_mk, er_mk]
  show _ = (decide (k = k') && decide (n = n') && sameL _ _)
  rw [Bool.eq_iff_iff]
  simp [and_assoc]
section
variable {w0 w : World} {M : List Nat} {L : List Ent} {v : Value}
theorem RdT.cellsK {α : Type} {E : Enc α} {l : List α} (h : RdT w M v E l) {i : Nat} {x : α} (hi : l[i]? = some x) (k n : Nat) {cs' : List Value} (hk : ((E.cells x).drop k).take n = cs') : ∀ j u, cs'[j]? = some u → w.cell? ((((sa v).add (i * E.size)).add k).add j) = some u := fun j u hj => by
  rw [add_add']
  refine h.cells hi _ _ ?_
  subst hk
  rw [List.getElem?_take] at hj
  split at hj
  · simpa using hj
  · cases hj
end
end Go.Proofs.Ytfkmlcgccffmnaa
namespace Go.Proofs.Ytfkmlcgccffmnaa
open Go Go.Maps
section
variable {w w0 w' : World} {M : List Nat} {L : List Ent} {T : Nat} {h : Hdr} {a b : TN}
theorem St.node2 (hO : St w0 M w (slT h.v T tnE [a, b] :: tE T a :: tE T b :: L)) (k : Int) (n : List UInt8) : St w0 M w (tE T (.mk k n h [a, b]) :: L) := by
  have h1 : St w0 M w ([tE T a, tE T b] ++ (slT h.v T tnE [a, b] :: L)) := hO.perm (by
    show (tE T a :: tE T b :: slT h.v T tnE [a, b] :: L).Perm _
    exact ((List.Perm.swap _ _ _).cons _).trans (List.Perm.swap _ _ _))
  have h2 := St.group h1
  have h3 : St w0 M w (slT h.v T tnE [a, b] :: Ent.grp ([a, b].map (tE T)) :: L) := h2.perm (List.Perm.swap _ _ _)
  exact h3.mkT k n
end
theorem right_leaf {k : Int} {n : List UInt8} {hd : Hdr} {l : List TN} (hr : rightF (TN.mk k n hd l).er = true) (hk : k = 52 ∨ k = 53) : ¬ n = [] ∧ l = [] := by
  rw [← right_1 hk] at hr
  have h := of_decide_eq_true hr
  exact ⟨h.1, List.length_eq_zero_iff.1 (by omega)⟩
theorem right_node {k : Int} {n : List UInt8} {hd : Hdr} {l : List TN} (hr : rightF (TN.mk k n hd l).er = true) (h1 : ¬ k = 52) (h2 : ¬ k = 53) : k = 54 ∧ n = [] ∧ ∃ a b, l = [a, b] ∧ rightF a.er = true ∧ rightF b.er = true := by
  by_cases hk : k = 54
  · rw [← right_5 hk] at hr
    have h := of_decide_eq_true hr
    obtain ⟨⟨⟨hn, hl⟩, ha⟩, hb⟩ := h
    obtain ⟨a, h0⟩ := get_ex (l := l) (i := 0) (by omega)
    obtain ⟨b, h1⟩ := get_ex (l := l) (i := 1) (by omega)
    obtain rfl := two_of hl h0 h1
    exact ⟨hk, hn, a, b, rfl, ha, hb⟩
  · rw [right_4 (fun h => by omega) hk] at hr; cases hr
/-- variables put -/
def substF (σ : List UInt8 → Ty) : Ty → Ty
  | .mk _ _ [a, b] => .mk 54 [] [substF σ a, substF σ b]
  | .mk k n l => if k = 52 then σ n else .mk k n l
theorem subst_2 (σ : List UInt8 → Ty) (k : Int) (n : List UInt8) (hd : Hdr) (a b : TN) : substF σ (TN.mk k n hd [a, b]).er = .mk 54 [] [substF σ a.er, substF σ b.er] := rfl
theorem subst_v (σ : List UInt8 → Ty) (n : List UInt8) (hd : Hdr) : substF σ (TN.mk 52 n hd []).er = σ n := rfl
theorem subst_c {k : Int} (σ : List UInt8 → Ty) (n : List UInt8) (hd : Hdr) (h : ¬ k = 52) : substF σ (TN.mk k n hd []).er = (TN.mk k n hd []).er := if_neg h
def varT (n : List UInt8) : Ty := .mk 52 n []
theorem subst_id : ∀ t : Ty, rightF t = true → substF varT t = t := Ty.ind fun k n l ih hr => by
  match l, ih, hr with
  | [], _, hr =>
    show (if k = 52 then varT n else _) = _
    split
    · rename_i e; rw [e]; rfl
    · rfl
  | [x], _, hr => exact absurd (of_decide_eq_true hr).2.2 (by simp)
  | [x, y], ih, hr =>
    have hr : (decide (k = 54) && decide (n = []) && rightF x && rightF y) = true := hr
    rw [Bool.and_eq_true, Bool.and_eq_true, Bool.and_eq_true, decide_eq_true_iff, decide_eq_true_iff] at hr
    obtain ⟨⟨⟨h1, h2⟩, h3⟩, h4⟩ := hr
    show Ty.mk 54 [] [substF varT x, substF varT y] = _
    rw [ih x (by simp) h3, ih y (by simp) h4, h1, h2]
  | x :: y :: z :: r, _, hr => exact absurd (of_decide_eq_true hr).2.2 (by simp; omega)
/-- a map of types by name -/
def litS (n : List UInt8) : Lit := .string n
def tyV (t : TN) : Value := .agg (tnE.cells t).toArray
def MapT (f : Lit → Option Value) (g : List UInt8 → Option TN) : Prop := ∀ n, f (litS n) = (g n).map tyV
theorem litS_inj {m n : List UInt8} (h : litS m = litS n) : m = n := by injection h
theorem MapT.put {f : Lit → Option Value} {g : List UInt8 → Option TN} (h : MapT f g) (n : List UInt8) (t : TN) : MapT (putF f (litS n) (tyV t)) (fun m => if m = n then some t else g m) := fun m => by
  unfold putF
  by_cases e : m = n
  · subst e; simp
  · have e2 : ¬ litS m = litS n := fun h => e (litS_inj h)
    simp only [e, e2, if_false]; exact h m
theorem mapT_none : MapT (fun _ => none) (fun _ => none) := fun _ => rfl
theorem MapT.get {f : Lit → Option Value} {g : List UInt8 → Option TN} (h : MapT f g) (n : List UInt8) : (f (litS n)).getD (tyV tn0) = tyV ((g n).getD tn0) ∧ (f (litS n)).isSome = (g n).isSome := by
  rw [h n]
  cases g n <;> exact ⟨rfl, rfl⟩
theorem q_lookOkR {P : Program} {w : World} {k e t : TypeId} {b n : Nat} {f : Lit → Option Value} {o : Oper} {a : Act} {x y : Operand} {key z : Value} {kl : Lit} (h : MapIs P w k b n f) (K : Keyed P k) (ht : P.underlying t = some (.map k e)) (hz : (zeroValue e).run P w = .ok z w) (ho : o.op = .lookup t x y true) (hx : a.eval x = .map (some b)) (hy : a.eval y = key) (hkey : keyOf P k key = some kl) : QV P o a w (.tuple #[(f kl).getD z, .bool (f kl).isSome]) := by
  have hrun := h.look true K ht hz hkey
  simp [QV, execOp, ho, hx, hy, hrun]
theorem q_lookR {P : Program} {w : World} {k e t : TypeId} {b n : Nat} {f : Lit → Option Value} {o : Oper} {a : Act} {x y : Operand} {key z : Value} {kl : Lit} (h : MapIs P w k b n f) (K : Keyed P k) (ht : P.underlying t = some (.map k e)) (hz : (zeroValue e).run P w = .ok z w) (ho : o.op = .lookup t x y false) (hx : a.eval x = .map (some b)) (hy : a.eval y = key) (hkey : keyOf P k key = some kl) : QV P o a w ((f kl).getD z) := by
  have hrun := h.look false K ht hz hkey
  simp [QV, execOp, ho, hx, hy, hrun]
theorem keyStr {P : Program} {k : TypeId} (h : P.underlying k = some .string) {n : List UInt8} (hn : n.length ≤ 9223372036854775807) : keyOf P k (str n) = some (litS n) := by
  have h2 : (⟨n.toArray⟩ : ByteArray).size ≤ maxLen := by show n.toArray.size ≤ _; unfold maxLen; simp; omega
  simp only [keyOf, mapKey, h, str]
  rw [if_pos h2]; simp [litS]
/-- the first of that name -/
def subOf (l : List SbN) (n : List UInt8) : Option TN := (l.find? fun s => decide (s.name = n)).map (·.t)
def sigF (l : List (List UInt8 × Ty)) (n : List UInt8) : Ty := match l.find? fun s => decide (s.1 = n) with | some s => s.2 | none => varT n
def applyF (t : Ty) (l : List (List UInt8 × Ty)) : Ty := if rightF t = true ∧ (∀ s ∈ l, rightF s.2 = true) then substF (sigF l) t else ty0
end Go.Proofs.Ytfkmlcgccffmnaa
