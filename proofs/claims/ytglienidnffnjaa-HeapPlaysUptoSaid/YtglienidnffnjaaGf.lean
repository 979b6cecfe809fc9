/- FACTS OF THE PROGRAM: by the kernel. -/
import Derived.Test.YtglienidnffnjaaGw9
import Derived.Test.YtglienidnffnjaaRows
namespace Go.Proofs.Ytglienidnffnjaa
open Go
set_option maxRecDepth 100000
theorem Try_mixed : Try.prog.follows .mixedOrders = true := by kernel_rfl
theorem Try_info3 : Try.prog.info? 3 = some Try.t3 := by kernel_rfl
theorem Try_info27 : Try.prog.info? 27 = some Try.t27 := by kernel_rfl
theorem Try_info36 : Try.prog.info? 36 = some Try.t36 := by kernel_rfl
theorem Try_info42 : Try.prog.info? 42 = some Try.t42 := by kernel_rfl
theorem Try_info84 : Try.prog.info? 84 = some Try.t84 := by kernel_rfl
theorem Try_info99 : Try.prog.info? 99 = some Try.t99 := by kernel_rfl
theorem Try_info127 : Try.prog.info? 127 = some Try.t127 := by kernel_rfl
theorem Try_places27 : Places Try.prog 27 [0, 1] := by
  intro fs h w
  have e := Try.underlying27.symm.trans h
  injection e with e
  injection e with e
  subst e
  show @Eq _ _ _
  kernel_rfl
theorem Try_places42 : Places Try.prog 42 [0, 1, 2] := by
  intro fs h w
  have e := Try.underlying42.symm.trans h
  injection e with e
  injection e with e
  subst e
  show @Eq _ _ _
  kernel_rfl
theorem Try_places74 : Places Try.prog 74 [0, 1, 2] := by
  intro fs h w
  have e := Try.underlying74.symm.trans h
  injection e with e
  injection e with e
  subst e
  show @Eq _ _ _
  kernel_rfl
theorem Try_placesG77 : PlacesG Try.prog 77 [(0, 1), (1, 1), (2, 3), (5, 6), (11, 1), (12, 1)] := by
  intro fs h w
  have e := Try.underlying77.symm.trans h
  injection e with e
  injection e with e
  subst e
  show @Eq _ _ _
  kernel_rfl
theorem Try_places84 : Places Try.prog 84 [0, 1, 2, 3, 4] := by
  intro fs h w
  have e := Try.underlying84.symm.trans h
  injection e with e
  injection e with e
  subst e
  show @Eq _ _ _
  kernel_rfl
theorem Try_placesG94 : PlacesG Try.prog 94 [(0, 1), (1, 1), (2, 3), (5, 1)] := by
  intro fs h w
  have e := Try.underlying94.symm.trans h
  injection e with e
  injection e with e
  subst e
  show @Eq _ _ _
  kernel_rfl
theorem Try_placesG99 : PlacesG Try.prog 99 [(0, 1), (1, 1), (2, 3), (5, 1)] := by
  intro fs h w
  have e := Try.underlying99.symm.trans h
  injection e with e
  injection e with e
  subst e
  show @Eq _ _ _
  kernel_rfl
theorem Try_places117 : Places Try.prog 117 [0, 1, 2, 3, 4] := by
  intro fs h w
  have e := Try.underlying117.symm.trans h
  injection e with e
  injection e with e
  subst e
  show @Eq _ _ _
  kernel_rfl
theorem Try_placesG123 : PlacesG Try.prog 123 [(0, 5), (5, 1), (6, 1)] := by
  intro fs h w
  have e := Try.underlying123.symm.trans h
  injection e with e
  injection e with e
  subst e
  show @Eq _ _ _
  kernel_rfl
theorem Try_places127 : Places Try.prog 127 [0, 1] := by
  intro fs h w
  have e := Try.underlying127.symm.trans h
  injection e with e
  injection e with e
  subst e
  show @Eq _ _ _
  kernel_rfl
end Go.Proofs.Ytglienidnffnjaa
