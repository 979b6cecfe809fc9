/- FACTS OF THE PROGRAM: by the kernel. -/
import Derived.Test.YtanpeofnlihhoaaDoorGw9
import Derived.Test.YtanpeofnlihhoaaDoorRows
namespace Go.Proofs.YtanpeofnlihhoaaDoor
open Go
set_option maxRecDepth 100000
theorem Tryd_mixed : Tryd.prog.follows .mixedOrders = true := by kernel_rfl
theorem Tryd_info5 : Tryd.prog.info? 5 = some Tryd.t5 := by kernel_rfl
theorem Tryd_info32 : Tryd.prog.info? 32 = some Tryd.t32 := by kernel_rfl
theorem Tryd_places25 : Places Tryd.prog 25 [0, 1, 2, 3] := by
  intro fs h w
  have e := Tryd.underlying25.symm.trans h
  injection e with e
  injection e with e
  subst e
  show @Eq _ _ _
  kernel_rfl
theorem Tryd_places32 : Places Tryd.prog 32 [0, 1, 2, 3, 4] := by
  intro fs h w
  have e := Tryd.underlying32.symm.trans h
  injection e with e
  injection e with e
  subst e
  show @Eq _ _ _
  kernel_rfl
theorem Tryd_places39 : Places Tryd.prog 39 [0, 1, 2, 3] := by
  intro fs h w
  have e := Tryd.underlying39.symm.trans h
  injection e with e
  injection e with e
  subst e
  show @Eq _ _ _
  kernel_rfl
theorem Tryd_places44 : Places Tryd.prog 44 [0, 1, 2, 3] := by
  intro fs h w
  have e := Tryd.underlying44.symm.trans h
  injection e with e
  injection e with e
  subst e
  show @Eq _ _ _
  kernel_rfl
theorem Tryd_places94 : Places Tryd.prog 94 [0, 1, 2] := by
  intro fs h w
  have e := Tryd.underlying94.symm.trans h
  injection e with e
  injection e with e
  subst e
  show @Eq _ _ _
  kernel_rfl
theorem Tryd_places105 : Places Tryd.prog 105 [0] := by
  intro fs h w
  have e := Tryd.underlying105.symm.trans h
  injection e with e
  injection e with e
  subst e
  show @Eq _ _ _
  kernel_rfl
theorem Tryd_places110 : Places Tryd.prog 110 [0, 1] := by
  intro fs h w
  have e := Tryd.underlying110.symm.trans h
  injection e with e
  injection e with e
  subst e
  show @Eq _ _ _
  kernel_rfl
end Go.Proofs.YtanpeofnlihhoaaDoor
