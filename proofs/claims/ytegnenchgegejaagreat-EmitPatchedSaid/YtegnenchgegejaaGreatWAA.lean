/- EmitPatched: the ways on which the first place has the shape A and the second one A (A: two words; L: the upper half alone; H: the lower one alone); made by program. -/
import Derived.Test.YtegnenchgegejaaGreatTd
import Derived.KernelRfl
set_option maxRecDepth 1000000
namespace Go.Proofs.YtegnenchgegejaaGreat
open Go Go.Ev Go.Proofs
theorem wayAA_0 [Rho] (r : Int) : outcome (evF env sums5 100000 1000 3 [stS, .sym .u32 (.vr 10), .int true .u8 r] .run A0 ⟨[.lit 29 0, .br false, .br true, .lit 57 1, .br false, .br true, .lit 138 0, .lit 146 1], []⟩) =
    some (.bool false true, owedP [] (shA (linS 10 8 6) (linS 8 10 2054)) (shA (linS 8 10 7) (linS 10 8 2055)) r 0 1) := by kernel_rfl
theorem wayAA_1 [Rho] (r : Int) : outcome (evF env sums5 100000 1000 3 [stS, .sym .u32 (.vr 10), .int true .u8 r] .run A0 ⟨[.lit 29 1, .br false, .br true, .lit 57 2, .br false, .br true, .lit 138 1, .lit 146 2], []⟩) =
    some (.bool false true, owedP [] (shA (linS 10 8 6) (linS 8 10 2054)) (shA (linS 8 10 7) (linS 10 8 2055)) r 1 2) := by kernel_rfl
theorem wayAA_2 [Rho] (r : Int) : outcome (evF env sums5 100000 1000 3 [stS, .sym .u32 (.vr 10), .int true .u8 r] .run A0 ⟨[.lit 29 2, .br false, .br true, .lit 57 3, .br false, .br true, .lit 138 2, .lit 146 3], []⟩) =
    some (.bool false true, owedP [] (shA (linS 10 8 6) (linS 8 10 2054)) (shA (linS 8 10 7) (linS 10 8 2055)) r 2 3) := by kernel_rfl
theorem wayAA_3 [Rho] (r : Int) : outcome (evF env sums5 100000 1000 3 [stS, .sym .u32 (.vr 10), .int true .u8 r] .run A0 ⟨[.lit 29 3, .br false, .br true, .lit 57 4, .br false, .br true, .lit 138 3, .lit 146 4], []⟩) =
    some (.bool false true, owedP [] (shA (linS 10 8 6) (linS 8 10 2054)) (shA (linS 8 10 7) (linS 10 8 2055)) r 3 4) := by kernel_rfl
theorem wayAA_4 [Rho] (r : Int) : outcome (evF env sums5 100000 1000 3 [stS, .sym .u32 (.vr 10), .int true .u8 r] .run A0 ⟨[.lit 29 4, .br false, .br true, .lit 57 5, .br false, .br true, .lit 138 4, .lit 146 5], []⟩) =
    some (.bool false true, owedP [] (shA (linS 10 8 6) (linS 8 10 2054)) (shA (linS 8 10 7) (linS 10 8 2055)) r 4 5) := by kernel_rfl
theorem wayAA_5 [Rho] (r : Int) : outcome (evF env sums5 100000 1000 3 [stS, .sym .u32 (.vr 10), .int true .u8 r] .run A0 ⟨[.lit 29 5, .br false, .br true, .lit 57 6, .br false, .br true, .lit 138 5, .lit 146 6], []⟩) =
    some (.bool false true, owedP [] (shA (linS 10 8 6) (linS 8 10 2054)) (shA (linS 8 10 7) (linS 10 8 2055)) r 5 6) := by kernel_rfl
theorem wayAA_6 [Rho] (r : Int) : outcome (evF env sums5 100000 1000 3 [stS, .sym .u32 (.vr 10), .int true .u8 r] .run A0 ⟨[.lit 29 6, .br false, .br true, .lit 57 7, .br false, .br true, .lit 138 6, .lit 146 7], []⟩) =
    some (.bool false true, owedP [] (shA (linS 10 8 6) (linS 8 10 2054)) (shA (linS 8 10 7) (linS 10 8 2055)) r 6 7) := by kernel_rfl
theorem wayAA_7 [Rho] (r : Int) : outcome (evF env sums5 100000 1000 3 [stS, .sym .u32 (.vr 10), .int true .u8 r] .run A0 ⟨[.lit 29 7, .br false, .br true, .lit 57 0, .br false, .br true, .lit 138 7, .lit 146 0], []⟩) =
    some (.bool false true, owedP [] (shA (linS 10 8 6) (linS 8 10 2054)) (shA (linS 8 10 7) (linS 10 8 2055)) r 7 0) := by kernel_rfl
end Go.Proofs.YtegnenchgegejaaGreat
