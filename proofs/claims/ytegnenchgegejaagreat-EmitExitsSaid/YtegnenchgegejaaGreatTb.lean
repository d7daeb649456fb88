import Derived.Test.YtegnenchgegejaaGreatTa
import Derived.Test.YtegnenchgegejaaGreatEvC
import Derived.KernelRfl

set_option linter.unusedSectionVars false
set_option linter.unusedSimpArgs false
set_option linter.unusedVariables false
/- A table of closed calls; made by program (gentab.py). -/
set_option maxRecDepth 1000000
namespace Go.Proofs.YtegnenchgegejaaGreat
open Go Go.Ev Go.Proofs
noncomputable def rvFindT : List (List AVal × AVal) := [([.agg [.int false .u32 55, .int false .u32 0, .int false .u32 0]], (.int false .i64 1)),
  ([.agg [.int false .u32 23, .int false .u32 0, .int false .u32 0]], (.int false .i64 2)),
  ([.agg [.int false .u32 111, .int false .u32 0, .int false .u32 0]], (.int false .i64 3)),
  ([.agg [.int false .u32 103, .int false .u32 0, .int false .u32 0]], (.int false .i64 4)),
  ([.agg [.int false .u32 99, .int false .u32 0, .int false .u32 0]], (.int false .i64 5)),
  ([.agg [.int false .u32 99, .int false .u32 1, .int false .u32 0]], (.int false .i64 6)),
  ([.agg [.int false .u32 99, .int false .u32 4, .int false .u32 0]], (.int false .i64 7)),
  ([.agg [.int false .u32 99, .int false .u32 5, .int false .u32 0]], (.int false .i64 8)),
  ([.agg [.int false .u32 99, .int false .u32 6, .int false .u32 0]], (.int false .i64 9)),
  ([.agg [.int false .u32 99, .int false .u32 7, .int false .u32 0]], (.int false .i64 10)),
  ([.agg [.int false .u32 3, .int false .u32 0, .int false .u32 0]], (.int false .i64 11)),
  ([.agg [.int false .u32 3, .int false .u32 1, .int false .u32 0]], (.int false .i64 12)),
  ([.agg [.int false .u32 3, .int false .u32 2, .int false .u32 0]], (.int false .i64 13)),
  ([.agg [.int false .u32 3, .int false .u32 4, .int false .u32 0]], (.int false .i64 14)),
  ([.agg [.int false .u32 3, .int false .u32 5, .int false .u32 0]], (.int false .i64 15)),
  ([.agg [.int false .u32 35, .int false .u32 0, .int false .u32 0]], (.int false .i64 16)),
  ([.agg [.int false .u32 35, .int false .u32 1, .int false .u32 0]], (.int false .i64 17)),
  ([.agg [.int false .u32 35, .int false .u32 2, .int false .u32 0]], (.int false .i64 18)),
  ([.agg [.int false .u32 19, .int false .u32 0, .int false .u32 0]], (.int false .i64 19)),
  ([.agg [.int false .u32 19, .int false .u32 2, .int false .u32 0]], (.int false .i64 20)),
  ([.agg [.int false .u32 19, .int false .u32 3, .int false .u32 0]], (.int false .i64 21)),
  ([.agg [.int false .u32 19, .int false .u32 4, .int false .u32 0]], (.int false .i64 22)),
  ([.agg [.int false .u32 19, .int false .u32 6, .int false .u32 0]], (.int false .i64 23)),
  ([.agg [.int false .u32 19, .int false .u32 7, .int false .u32 0]], (.int false .i64 24)),
  ([.agg [.int false .u32 19, .int false .u32 1, .int false .u32 0]], (.int false .i64 25)),
  ([.agg [.int false .u32 19, .int false .u32 5, .int false .u32 0]], (.int false .i64 26)),
  ([.agg [.int false .u32 19, .int false .u32 5, .int false .u32 32]], (.int false .i64 27)),
  ([.agg [.int false .u32 51, .int false .u32 0, .int false .u32 0]], (.int false .i64 28)),
  ([.agg [.int false .u32 51, .int false .u32 0, .int false .u32 32]], (.int false .i64 29)),
  ([.agg [.int false .u32 51, .int false .u32 1, .int false .u32 0]], (.int false .i64 30)),
  ([.agg [.int false .u32 51, .int false .u32 2, .int false .u32 0]], (.int false .i64 31)),
  ([.agg [.int false .u32 51, .int false .u32 3, .int false .u32 0]], (.int false .i64 32)),
  ([.agg [.int false .u32 51, .int false .u32 4, .int false .u32 0]], (.int false .i64 33)),
  ([.agg [.int false .u32 51, .int false .u32 5, .int false .u32 0]], (.int false .i64 34)),
  ([.agg [.int false .u32 51, .int false .u32 5, .int false .u32 32]], (.int false .i64 35)),
  ([.agg [.int false .u32 51, .int false .u32 6, .int false .u32 0]], (.int false .i64 36)),
  ([.agg [.int false .u32 51, .int false .u32 7, .int false .u32 0]], (.int false .i64 37)),
  ([.agg [.int false .u32 51, .int false .u32 0, .int false .u32 1]], (.int false .i64 38)),
  ([.agg [.int false .u32 51, .int false .u32 1, .int false .u32 1]], (.int false .i64 39)),
  ([.agg [.int false .u32 51, .int false .u32 2, .int false .u32 1]], (.int false .i64 40)),
  ([.agg [.int false .u32 51, .int false .u32 3, .int false .u32 1]], (.int false .i64 41)),
  ([.agg [.int false .u32 51, .int false .u32 4, .int false .u32 1]], (.int false .i64 42)),
  ([.agg [.int false .u32 51, .int false .u32 5, .int false .u32 1]], (.int false .i64 43)),
  ([.agg [.int false .u32 51, .int false .u32 6, .int false .u32 1]], (.int false .i64 44)),
  ([.agg [.int false .u32 51, .int false .u32 7, .int false .u32 1]], (.int false .i64 45))]
theorem rvFind_0 [Rho] : retV (evF env sums1 100000 1000 168 [.agg [.int false .u32 55, .int false .u32 0, .int false .u32 0]] .run A0 ⟨[], []⟩) = some (.int false .i64 1) := by kernel_rfl
theorem rvFind_1 [Rho] : retV (evF env sums1 100000 1000 168 [.agg [.int false .u32 23, .int false .u32 0, .int false .u32 0]] .run A0 ⟨[], []⟩) = some (.int false .i64 2) := by kernel_rfl
theorem rvFind_2 [Rho] : retV (evF env sums1 100000 1000 168 [.agg [.int false .u32 111, .int false .u32 0, .int false .u32 0]] .run A0 ⟨[], []⟩) = some (.int false .i64 3) := by kernel_rfl
theorem rvFind_3 [Rho] : retV (evF env sums1 100000 1000 168 [.agg [.int false .u32 103, .int false .u32 0, .int false .u32 0]] .run A0 ⟨[], []⟩) = some (.int false .i64 4) := by kernel_rfl
theorem rvFind_4 [Rho] : retV (evF env sums1 100000 1000 168 [.agg [.int false .u32 99, .int false .u32 0, .int false .u32 0]] .run A0 ⟨[], []⟩) = some (.int false .i64 5) := by kernel_rfl
theorem rvFind_5 [Rho] : retV (evF env sums1 100000 1000 168 [.agg [.int false .u32 99, .int false .u32 1, .int false .u32 0]] .run A0 ⟨[], []⟩) = some (.int false .i64 6) := by kernel_rfl
theorem rvFind_6 [Rho] : retV (evF env sums1 100000 1000 168 [.agg [.int false .u32 99, .int false .u32 4, .int false .u32 0]] .run A0 ⟨[], []⟩) = some (.int false .i64 7) := by kernel_rfl
theorem rvFind_7 [Rho] : retV (evF env sums1 100000 1000 168 [.agg [.int false .u32 99, .int false .u32 5, .int false .u32 0]] .run A0 ⟨[], []⟩) = some (.int false .i64 8) := by kernel_rfl
theorem rvFind_8 [Rho] : retV (evF env sums1 100000 1000 168 [.agg [.int false .u32 99, .int false .u32 6, .int false .u32 0]] .run A0 ⟨[], []⟩) = some (.int false .i64 9) := by kernel_rfl
theorem rvFind_9 [Rho] : retV (evF env sums1 100000 1000 168 [.agg [.int false .u32 99, .int false .u32 7, .int false .u32 0]] .run A0 ⟨[], []⟩) = some (.int false .i64 10) := by kernel_rfl
theorem rvFind_10 [Rho] : retV (evF env sums1 100000 1000 168 [.agg [.int false .u32 3, .int false .u32 0, .int false .u32 0]] .run A0 ⟨[], []⟩) = some (.int false .i64 11) := by kernel_rfl
theorem rvFind_11 [Rho] : retV (evF env sums1 100000 1000 168 [.agg [.int false .u32 3, .int false .u32 1, .int false .u32 0]] .run A0 ⟨[], []⟩) = some (.int false .i64 12) := by kernel_rfl
theorem rvFind_12 [Rho] : retV (evF env sums1 100000 1000 168 [.agg [.int false .u32 3, .int false .u32 2, .int false .u32 0]] .run A0 ⟨[], []⟩) = some (.int false .i64 13) := by kernel_rfl
theorem rvFind_13 [Rho] : retV (evF env sums1 100000 1000 168 [.agg [.int false .u32 3, .int false .u32 4, .int false .u32 0]] .run A0 ⟨[], []⟩) = some (.int false .i64 14) := by kernel_rfl
theorem rvFind_14 [Rho] : retV (evF env sums1 100000 1000 168 [.agg [.int false .u32 3, .int false .u32 5, .int false .u32 0]] .run A0 ⟨[], []⟩) = some (.int false .i64 15) := by kernel_rfl
theorem rvFind_15 [Rho] : retV (evF env sums1 100000 1000 168 [.agg [.int false .u32 35, .int false .u32 0, .int false .u32 0]] .run A0 ⟨[], []⟩) = some (.int false .i64 16) := by kernel_rfl
theorem rvFind_16 [Rho] : retV (evF env sums1 100000 1000 168 [.agg [.int false .u32 35, .int false .u32 1, .int false .u32 0]] .run A0 ⟨[], []⟩) = some (.int false .i64 17) := by kernel_rfl
theorem rvFind_17 [Rho] : retV (evF env sums1 100000 1000 168 [.agg [.int false .u32 35, .int false .u32 2, .int false .u32 0]] .run A0 ⟨[], []⟩) = some (.int false .i64 18) := by kernel_rfl
theorem rvFind_18 [Rho] : retV (evF env sums1 100000 1000 168 [.agg [.int false .u32 19, .int false .u32 0, .int false .u32 0]] .run A0 ⟨[], []⟩) = some (.int false .i64 19) := by kernel_rfl
theorem rvFind_19 [Rho] : retV (evF env sums1 100000 1000 168 [.agg [.int false .u32 19, .int false .u32 2, .int false .u32 0]] .run A0 ⟨[], []⟩) = some (.int false .i64 20) := by kernel_rfl
theorem rvFind_20 [Rho] : retV (evF env sums1 100000 1000 168 [.agg [.int false .u32 19, .int false .u32 3, .int false .u32 0]] .run A0 ⟨[], []⟩) = some (.int false .i64 21) := by kernel_rfl
theorem rvFind_21 [Rho] : retV (evF env sums1 100000 1000 168 [.agg [.int false .u32 19, .int false .u32 4, .int false .u32 0]] .run A0 ⟨[], []⟩) = some (.int false .i64 22) := by kernel_rfl
theorem rvFind_22 [Rho] : retV (evF env sums1 100000 1000 168 [.agg [.int false .u32 19, .int false .u32 6, .int false .u32 0]] .run A0 ⟨[], []⟩) = some (.int false .i64 23) := by kernel_rfl
theorem rvFind_23 [Rho] : retV (evF env sums1 100000 1000 168 [.agg [.int false .u32 19, .int false .u32 7, .int false .u32 0]] .run A0 ⟨[], []⟩) = some (.int false .i64 24) := by kernel_rfl
theorem rvFind_24 [Rho] : retV (evF env sums1 100000 1000 168 [.agg [.int false .u32 19, .int false .u32 1, .int false .u32 0]] .run A0 ⟨[], []⟩) = some (.int false .i64 25) := by kernel_rfl
theorem rvFind_25 [Rho] : retV (evF env sums1 100000 1000 168 [.agg [.int false .u32 19, .int false .u32 5, .int false .u32 0]] .run A0 ⟨[], []⟩) = some (.int false .i64 26) := by kernel_rfl
theorem rvFind_26 [Rho] : retV (evF env sums1 100000 1000 168 [.agg [.int false .u32 19, .int false .u32 5, .int false .u32 32]] .run A0 ⟨[], []⟩) = some (.int false .i64 27) := by kernel_rfl
theorem rvFind_27 [Rho] : retV (evF env sums1 100000 1000 168 [.agg [.int false .u32 51, .int false .u32 0, .int false .u32 0]] .run A0 ⟨[], []⟩) = some (.int false .i64 28) := by kernel_rfl
theorem rvFind_28 [Rho] : retV (evF env sums1 100000 1000 168 [.agg [.int false .u32 51, .int false .u32 0, .int false .u32 32]] .run A0 ⟨[], []⟩) = some (.int false .i64 29) := by kernel_rfl
theorem rvFind_29 [Rho] : retV (evF env sums1 100000 1000 168 [.agg [.int false .u32 51, .int false .u32 1, .int false .u32 0]] .run A0 ⟨[], []⟩) = some (.int false .i64 30) := by kernel_rfl
theorem rvFind_30 [Rho] : retV (evF env sums1 100000 1000 168 [.agg [.int false .u32 51, .int false .u32 2, .int false .u32 0]] .run A0 ⟨[], []⟩) = some (.int false .i64 31) := by kernel_rfl
theorem rvFind_31 [Rho] : retV (evF env sums1 100000 1000 168 [.agg [.int false .u32 51, .int false .u32 3, .int false .u32 0]] .run A0 ⟨[], []⟩) = some (.int false .i64 32) := by kernel_rfl
theorem rvFind_32 [Rho] : retV (evF env sums1 100000 1000 168 [.agg [.int false .u32 51, .int false .u32 4, .int false .u32 0]] .run A0 ⟨[], []⟩) = some (.int false .i64 33) := by kernel_rfl
theorem rvFind_33 [Rho] : retV (evF env sums1 100000 1000 168 [.agg [.int false .u32 51, .int false .u32 5, .int false .u32 0]] .run A0 ⟨[], []⟩) = some (.int false .i64 34) := by kernel_rfl
theorem rvFind_34 [Rho] : retV (evF env sums1 100000 1000 168 [.agg [.int false .u32 51, .int false .u32 5, .int false .u32 32]] .run A0 ⟨[], []⟩) = some (.int false .i64 35) := by kernel_rfl
theorem rvFind_35 [Rho] : retV (evF env sums1 100000 1000 168 [.agg [.int false .u32 51, .int false .u32 6, .int false .u32 0]] .run A0 ⟨[], []⟩) = some (.int false .i64 36) := by kernel_rfl
theorem rvFind_36 [Rho] : retV (evF env sums1 100000 1000 168 [.agg [.int false .u32 51, .int false .u32 7, .int false .u32 0]] .run A0 ⟨[], []⟩) = some (.int false .i64 37) := by kernel_rfl
theorem rvFind_37 [Rho] : retV (evF env sums1 100000 1000 168 [.agg [.int false .u32 51, .int false .u32 0, .int false .u32 1]] .run A0 ⟨[], []⟩) = some (.int false .i64 38) := by kernel_rfl
theorem rvFind_38 [Rho] : retV (evF env sums1 100000 1000 168 [.agg [.int false .u32 51, .int false .u32 1, .int false .u32 1]] .run A0 ⟨[], []⟩) = some (.int false .i64 39) := by kernel_rfl
theorem rvFind_39 [Rho] : retV (evF env sums1 100000 1000 168 [.agg [.int false .u32 51, .int false .u32 2, .int false .u32 1]] .run A0 ⟨[], []⟩) = some (.int false .i64 40) := by kernel_rfl
theorem rvFind_40 [Rho] : retV (evF env sums1 100000 1000 168 [.agg [.int false .u32 51, .int false .u32 3, .int false .u32 1]] .run A0 ⟨[], []⟩) = some (.int false .i64 41) := by kernel_rfl
theorem rvFind_41 [Rho] : retV (evF env sums1 100000 1000 168 [.agg [.int false .u32 51, .int false .u32 4, .int false .u32 1]] .run A0 ⟨[], []⟩) = some (.int false .i64 42) := by kernel_rfl
theorem rvFind_42 [Rho] : retV (evF env sums1 100000 1000 168 [.agg [.int false .u32 51, .int false .u32 5, .int false .u32 1]] .run A0 ⟨[], []⟩) = some (.int false .i64 43) := by kernel_rfl
theorem rvFind_43 [Rho] : retV (evF env sums1 100000 1000 168 [.agg [.int false .u32 51, .int false .u32 6, .int false .u32 1]] .run A0 ⟨[], []⟩) = some (.int false .i64 44) := by kernel_rfl
theorem rvFind_44 [Rho] : retV (evF env sums1 100000 1000 168 [.agg [.int false .u32 51, .int false .u32 7, .int false .u32 1]] .run A0 ⟨[], []⟩) = some (.int false .i64 45) := by kernel_rfl
theorem rvFind_top : topsOk rvFindT = true := by kernel_rfl
theorem rvFind_ok [Rho] : SumOk1 env.P 168 (tableP rvFindT).sum := tableP_ok env_ok sums1_ok 100000 1000 rvFind_top ⟨rvFind_0, rvFind_1, rvFind_2, rvFind_3, rvFind_4, rvFind_5, rvFind_6, rvFind_7, rvFind_8, rvFind_9, rvFind_10, rvFind_11, rvFind_12, rvFind_13, rvFind_14, rvFind_15, rvFind_16, rvFind_17, rvFind_18, rvFind_19, rvFind_20, rvFind_21, rvFind_22, rvFind_23, rvFind_24, rvFind_25, rvFind_26, rvFind_27, rvFind_28, rvFind_29, rvFind_30, rvFind_31, rvFind_32, rvFind_33, rvFind_34, rvFind_35, rvFind_36, rvFind_37, rvFind_38, rvFind_39, rvFind_40, rvFind_41, rvFind_42, rvFind_43, rvFind_44, trivial⟩
end Go.Proofs.YtegnenchgegejaaGreat

set_option linter.unusedVariables false
set_option maxRecDepth 1000000
namespace Go.Proofs.YtegnenchgegejaaGreat
open Go Go.Ev Go.Proofs
noncomputable def sums2 : Sums := Sums.add 102 (tableP rvOfT).sum (Sums.add 168 (tableP rvFindT).sum sums1)
theorem sums2_ok [Rho] : SumsOk env.P sums2 := Sums.add_ok rvOf_ok (Sums.add_ok rvFind_ok sums1_ok)
theorem reg_ok [Rho] : SumOk1 env.P 222 regP.sum := regP_ok env_ok sums2_ok 100000 1000 (by kernel_rfl)
theorem truth_ok [Rho] : SumOk1 env.P 74 (truthP .u32).sum := truthP_ok env_ok sums2_ok 100000 1000 (by kernel_rfl) (by kernel_rfl)
theorem truthH_ok [Rho] : SumOk1 env.P 237 (truthP .u32).sum := truthP_ok env_ok sums2_ok 100000 1000 (by kernel_rfl) (by kernel_rfl)
noncomputable def sums3 : Sums := Sums.add 222 regP.sum (Sums.add 74 (truthP .u32).sum (Sums.add 237 (truthP .u32).sum sums2))
theorem sums3_ok [Rho] : SumsOk env.P sums3 := Sums.add_ok reg_ok (Sums.add_ok truth_ok (Sums.add_ok truthH_ok sums2_ok))
end Go.Proofs.YtegnenchgegejaaGreat
