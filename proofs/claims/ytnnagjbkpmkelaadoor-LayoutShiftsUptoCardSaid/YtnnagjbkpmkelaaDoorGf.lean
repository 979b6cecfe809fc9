/- FACTS OF THE PROGRAM: by the kernel. -/
import Derived.Test.YtnnagjbkpmkelaaDoorGw9
import Derived.Test.YtnnagjbkpmkelaaDoorRows
namespace Go.Proofs.YtnnagjbkpmkelaaDoor
open Go
theorem Tryd_mixed : Tryd.prog.follows .mixedOrders = true := by kernel_rfl
theorem Tryd_info5 : Tryd.prog.info? 5 = some Tryd.t5 := by kernel_rfl
theorem Tryd_info33 : Tryd.prog.info? 33 = some Tryd.t33 := by kernel_rfl
theorem Tryd_info63 : Tryd.prog.info? 63 = some Tryd.t63 := by kernel_rfl
theorem Tryd_info79 : Tryd.prog.info? 79 = some Tryd.t79 := by kernel_rfl
theorem Tryd_places25 : Places Tryd.prog 25 [0, 1, 2, 3] := by
  intro fs h w
  have e := Tryd.underlying25.symm.trans h
  injection e with e
  injection e with e
  subst e
  show @Eq _ _ _
  kernel_rfl
theorem Tryd_places33 : Places Tryd.prog 33 [0, 1, 2, 3, 4] := by
  intro fs h w
  have e := Tryd.underlying33.symm.trans h
  injection e with e
  injection e with e
  subst e
  show @Eq _ _ _
  kernel_rfl
theorem Tryd_places38 : Places Tryd.prog 38 [0, 1, 2, 3] := by
  intro fs h w
  have e := Tryd.underlying38.symm.trans h
  injection e with e
  injection e with e
  subst e
  show @Eq _ _ _
  kernel_rfl
theorem Tryd_places56 : Places Tryd.prog 56 [0, 1] := by
  intro fs h w
  have e := Tryd.underlying56.symm.trans h
  injection e with e
  injection e with e
  subst e
  show @Eq _ _ _
  kernel_rfl
theorem Tryd_places63 : Places Tryd.prog 63 [0, 1] := by
  intro fs h w
  have e := Tryd.underlying63.symm.trans h
  injection e with e
  injection e with e
  subst e
  show @Eq _ _ _
  kernel_rfl
theorem Tryd_placesG68 : PlacesG Tryd.prog 68 [(0, 1), (1, 1), (2, 4)] := by
  intro fs h w
  have e := Tryd.underlying68.symm.trans h
  injection e with e
  injection e with e
  subst e
  show @Eq _ _ _
  kernel_rfl
theorem Tryd_places79 : Places Tryd.prog 79 [0, 1] := by
  intro fs h w
  have e := Tryd.underlying79.symm.trans h
  injection e with e
  injection e with e
  subst e
  show @Eq _ _ _
  kernel_rfl
end Go.Proofs.YtnnagjbkpmkelaaDoor
