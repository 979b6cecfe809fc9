/- PLAIN: the chapter's example of the collector; heaps without old objects that remember; ops. -/
import Derived.Test.YtglienidnffnjaaPl15
import Derived.Test.YtglienidnffnjaaPl13
import Derived.KernelRfl
namespace Go.Proofs.Ytglienidnffnjaa
open Go
def gw0 : Hp := newH 64 64
def gw1 : Hp := (layH gw0 0 1 1 [⟨false, 5⟩]).2
def gw2 : Hp := (layH gw1 0 1 2 [⟨true, 0⟩]).2
def gw3 : Hp := (layH gw2 0 3 0 []).2
def gw4 : Hp := (linkH gw3 4 ⟨true, 2⟩).2
def gx : Wd := ⟨true, 4⟩
def gy : Wd := ⟨true, 64⟩
theorem gw_1 : (layH gw0 0 1 1 [⟨false, 5⟩]).1 = (0, 0) := by kernel_rfl
theorem gw_2 : (layH gw1 0 1 2 [⟨true, 0⟩]).1 = (2, 0) := by kernel_rfl
theorem gw_3 : (layH gw2 0 3 0 []).1 = (4, 0) := by kernel_rfl
theorem gw_4 : (linkH gw3 4 ⟨true, 2⟩).1 = 0 := by kernel_rfl
theorem gw_w0 : Wf gw0 := wf_new (show ¬ newBad 64 64 by decide)
theorem gw_w1 : Wf gw1 := gw_w0.lay (by decide) _ _ _
theorem gw_w2 : Wf gw2 := gw_w1.lay (by decide) _ _ _
theorem gw_w3 : Wf gw3 := gw_w2.lay (by decide) _ _ _
theorem gw_w4 : Wf gw4 := gw_w3.link _ _
theorem gw_r0 : gw0.rem = [] := by kernel_rfl
theorem gw_r1 : gw1.rem = [] := by kernel_rfl
theorem gw_r2 : gw2.rem = [] := by kernel_rfl
theorem gw_r3 : gw3.rem = [] := by kernel_rfl
theorem gw_r4 : gw4.rem = [] := by kernel_rfl
theorem gw_m1 : measF gw4 true 10 [gx] = some 4 := by kernel_rfl
theorem gw_m2 : measF gw4 false 10 [gx] = some 4 := by kernel_rfl
theorem gw_f1 : (4 : Int) ≤ halfF gw4 - (usedH gw4).2 := of_decide_eq_true (by kernel_rfl)
def gq1 : Option Mv := queueG true 10 0 (moveF true (Mv.mk gw4 [] []) gx).2
theorem gq1_some : gq1.isSome = true := by kernel_rfl
def gm1 : Mv := gq1.get gq1_some
theorem gw_q1 : queueG true 10 0 (moveF true (Mv.mk gw4 [] []) gx).2 = some gm1 := (Option.some_get gq1_some).symm
theorem gw_y1 : (moveF true (Mv.mk gw4 [] []) gx).1 = gy := by kernel_rfl
theorem gw_o : objH (clearH gm1.h) 64 = (⟨1, 2, [⟨true, 66⟩]⟩, 0) := by kernel_rfl
theorem gw_u : usedH (clearH gm1.h) = (0, 4) := by kernel_rfl
theorem gw_l : leftF (clearH gm1.h) = 0 := by kernel_rfl
theorem gw_m3 : measF (clearH gm1.h) false 10 [gy] = some 4 := by kernel_rfl
theorem gw_f2 : (4 : Int) ≤ halfF (clearH gm1.h) := of_decide_eq_true (by kernel_rfl)
def gq2 : Option Mv := queueG false 10 0 (moveF false (Mv.mk (flipH (clearH gm1.h)) [] []) gy).2
theorem gq2_some : gq2.isSome = true := by kernel_rfl
def gm2 : Mv := gq2.get gq2_some
theorem gw_q2 : queueG false 10 0 (moveF false (Mv.mk (flipH (clearH gm1.h)) [] []) gy).2 = some gm2 := (Option.some_get gq2_some).symm
theorem gw_y2 : (moveF false (Mv.mk (flipH (clearH gm1.h)) [] []) gy).1 = ⟨true, 128⟩ := by kernel_rfl
theorem gw_rm2 : gm2.h.rem = [] := by kernel_rfl
/-! heaps in which nothing old points -/
structure GE (h : Hp) : Prop where
  wf : Wf h
  rem : h.rem = []
  use : h.use = 0
  a1 : h.a.first = 1024
  a2 : h.a.end_ = 2048
  bb : h.b.next = h.b.first
theorem ge_new : GE (newH 1024 1024) := ⟨wf_new (show ¬ newBad 1024 1024 by decide), rfl, rfl, rfl, rfl, rfl⟩
theorem notes_young {at_ : Int} : ∀ (ws : List Wd) {h : Hp}, at_ < h.y.end_ → notesF h at_ ws = h
  | [], _, _ => rfl
  | w :: ws, h, hy => by
    have e : notesF h at_ (w :: ws) = notesF (noteF h at_ w) at_ ws := rfl
    have e2 : noteF h at_ w = h := by unfold noteF; rw [if_pos]; exact .inl (.inl (.inl hy))
    rw [e, e2, notes_young ws hy]
theorem GE.alloc {h : Hp} (c : GE h) (kind info : Int) (fs : List Wd) : GE (layH h 0 kind info fs).2 := by
  have hw := c.wf.lay (k := 0) (by decide) kind info fs
  unfold layH at hw ⊢
  split
  · exact c
  · split
    · exact c
    · split
      · exact c
      · rename_i h1 h2 h3
        rw [if_neg h1, if_neg h2, if_neg h3] at hw
        have ht := takes_ge fs
        have e : notesF (laidH h 0 kind info fs) (h.rg 0).next fs = laidH h 0 kind info fs := notes_young fs (by
          show h.y.next < h.y.end_
          have h3 : ¬ h.y.end_ - h.y.next < takesF fs := h3
          omega)
        dsimp only at hw ⊢
        rw [e] at hw ⊢
        exact ⟨hw, c.rem, c.use, c.a1, c.a2, c.bb⟩
theorem GE.keep {h : Hp} (c : GE h) (kind info : Int) : GE (layH h (1 + h.use) kind info []).2 := by
  have hw := c.wf.lay c.wf.useK kind info []
  have hu := c.use
  rw [hu] at hw ⊢
  unfold layH at hw ⊢
  split
  · exact c
  · split
    · exact c
    · split
      · exact c
      · rename_i h1 h2 h3
        rw [if_neg h1, if_neg h2, if_neg h3] at hw
        exact ⟨hw, c.rem, c.use, c.a1, c.a2, c.bb⟩
theorem GE.fit {h : Hp} (c : GE h) : (0 : Int) ≤ halfF h - (usedH h).2 := by
  obtain ⟨r1, r2, r3, r4⟩ := c.wf.a
  have h1 := c.a1
  have h2 := c.a2
  unfold halfF usedH
  rw [c.use]
  show (0 : Int) ≤ h.a.end_ - h.a.first - (h.a.next - h.a.first)
  omega
theorem GE.used {h : Hp} (_ : GE h) : usedH (clearH h) = (0, (usedH h).2) := by
  unfold usedH clearH emptyH
  dsimp only
  have e1 : (h.setN 0 (h.rg 0).first).y.next - (h.setN 0 (h.rg 0).first).y.first = 0 := by
    show h.y.first - h.y.first = 0; omega
  rw [e1]
  have e2 : ∀ u, 1 ≤ u → (⟨(h.setN 0 (h.rg 0).first).words, unknowF (h.heads.take (h.rg 0).first.toNat ++ List.replicate ((h.rg 0).next.toNat - (h.rg 0).first.toNat) hd0 ++ h.heads.drop (h.rg 0).next.toNat) h.rem, (h.setN 0 (h.rg 0).first).y, (h.setN 0 (h.rg 0).first).a, (h.setN 0 (h.rg 0).first).b, (h.setN 0 (h.rg 0).first).use, []⟩ : Hp).rg u = h.rg u := by
    intro u hu
    match u with
    | 1 => rfl
    | u + 2 => rfl
  rw [e2 _ (by omega)]
  rfl
theorem GE.left {h : Hp} (c : GE h) : leftF (clearH h) = 0 := by
  have hu : (clearH h).use = 0 := c.use
  unfold leftF
  rw [hu]
  show h.b.next - h.b.first = 0
  have := c.bb
  omega
theorem GE.half {h : Hp} (c : GE h) : (0 : Int) ≤ halfF (clearH h) := by
  show (0 : Int) ≤ h.a.end_ - h.a.first
  have h1 := c.a1
  have h2 := c.a2
  omega
def endH (h : Hp) : Hp := clearH (emptyH (flipH (clearH h)) (1 + (1 - (flipH (clearH h)).use)))
theorem GE.done {h : Hp} (c : GE h) : usedH (endH h) = (0, 0) := by
  have hu : (flipH (clearH h)).use = 1 := by show 1 - h.use = 1; rw [c.use]
  unfold endH
  rw [hu]
  have hu2 : (clearH (emptyH (flipH (clearH h)) (1 + (1 - 1)))).use = 1 := hu
  unfold usedH
  rw [hu2]
  refine Prod.ext ?_ ?_
  · show h.y.first - h.y.first = 0; omega
  · show h.b.next - h.b.first = 0
    have := c.bb
    omega
/-! ops of layer 19 -/
structure OpG where
  ask : Int
  kind : Int
  info : Int
  fh : Hdr
  at_ : Int
  n : Int
  ah : Hdr
  fs : List Wd
  al : List Int
def opgE : Enc OpG where
  size := 7
  cells x := [i64 x.ask, i64 x.kind, i64 x.info, x.fh.v, i64 x.at_, i64 x.n, x.ah.v]
  len _ := rfl
  one t u hu := by
    simp only [List.mem_cons, List.not_mem_nil, or_false] at hu
    rcases hu with rfl | rfl | rfl | rfl | rfl | rfl | rfl <;> rfl
def opgQ (w : World) (x : OpG) : Prop := RdT w [] x.fh.v wordE x.fs ∧ x.fs.length ≤ 1048576
end Go.Proofs.Ytglienidnffnjaa
