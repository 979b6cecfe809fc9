/- FACTS OF THE PROGRAM: by the kernel. -/
import Derived.Test.YtfkmlcgccffmnaaGw9
import Derived.Test.YtfkmlcgccffmnaaRows
namespace Go.Proofs.Ytfkmlcgccffmnaa
open Go
set_option maxRecDepth 100000
theorem Try_mixed : Try.prog.follows .mixedOrders = true := by kernel_rfl
theorem Try_info5 : Try.prog.info? 5 = some Try.t5 := by kernel_rfl
theorem Try_info9 : Try.prog.info? 9 = some Try.t9 := by kernel_rfl
theorem Try_info33 : Try.prog.info? 33 = some Try.t33 := by kernel_rfl
theorem Try_info34 : Try.prog.info? 34 = some Try.t34 := by kernel_rfl
theorem Try_info45 : Try.prog.info? 45 = some Try.t45 := by kernel_rfl
theorem Try_info74 : Try.prog.info? 74 = some Try.t74 := by kernel_rfl
theorem Try_info106 : Try.prog.info? 106 = some Try.t106 := by kernel_rfl
theorem Try_places33 : Places Try.prog 33 [0, 1, 2] := by
  intro fs h w
  have e := Try.underlying33.symm.trans h
  injection e with e
  injection e with e
  subst e
  show @Eq _ _ _
  kernel_rfl
theorem Try_placesG45 : PlacesG Try.prog 45 [(0, 1), (1, 3)] := by
  intro fs h w
  have e := Try.underlying45.symm.trans h
  injection e with e
  injection e with e
  subst e
  show @Eq _ _ _
  kernel_rfl
theorem Try_places52 : Places Try.prog 52 [0] := by
  intro fs h w
  have e := Try.underlying52.symm.trans h
  injection e with e
  injection e with e
  subst e
  show @Eq _ _ _
  kernel_rfl
theorem Try_places69 : Places Try.prog 69 [0] := by
  intro fs h w
  have e := Try.underlying69.symm.trans h
  injection e with e
  injection e with e
  subst e
  show @Eq _ _ _
  kernel_rfl
theorem Try_places73 : Places Try.prog 73 [0, 1] := by
  intro fs h w
  have e := Try.underlying73.symm.trans h
  injection e with e
  injection e with e
  subst e
  show @Eq _ _ _
  kernel_rfl
theorem Try_places99 : Places Try.prog 99 [0, 1, 2, 3, 4, 5] := by
  intro fs h w
  have e := Try.underlying99.symm.trans h
  injection e with e
  injection e with e
  subst e
  show @Eq _ _ _
  kernel_rfl
theorem Try_places106 : Places Try.prog 106 [0, 1, 2, 3, 4] := by
  intro fs h w
  have e := Try.underlying106.symm.trans h
  injection e with e
  injection e with e
  subst e
  show @Eq _ _ _
  kernel_rfl
end Go.Proofs.Ytfkmlcgccffmnaa
