/- EmitExits: the ways of the condition 4 (T: taken; N0: not, and the two places are two; N1: not, and they are one; behind it the two shapes: A: two words; L: the upper half alone; H: the lower one alone); made by program. -/
import Derived.Test.YtegnenchgegejaaGreatTe
import Derived.KernelRfl
set_option maxRecDepth 1000000
namespace Go.Proofs.YtegnenchgegejaaGreat
open Go Go.Ev Go.Proofs
theorem exTAA_4 [Rho] (r : Int) : outcome (evF env sums5 100000 1000 4 [stS, .int true .u8 r, .sym .u32 (.vr 10)] .run A0 ⟨[.lit 23 4, .br false, .br true, .br false, .br true, .br false, .lit 59 4, .br true], []⟩) =
    some (.bool false true, owedE [] [] true false (shA (linS 10 8 6) (linS 8 10 2054)) (shA (one 8 6) (one 8 2054)) r 4) := by kernel_rfl
theorem exN0AA_4 [Rho] (r : Int) : outcome (evF env sums5 100000 1000 4 [stS, .int true .u8 r, .sym .u32 (.vr 10)] .run A0 ⟨[.lit 23 4, .br false, .br true, .br false, .br true, .br true, .lit 59 4, .br false, .lit 83 0], []⟩) =
    some (.bool false true, owedE [] (meets (linS 10 8 6) (one 8 6) 0) false true (shA (linS 10 8 6) (linS 8 10 2054)) (shA (one 8 6) (one 8 2054)) r 4) := by kernel_rfl
theorem exN1AA_4 [Rho] (r : Int) : outcome (evF env sums5 100000 1000 4 [stS, .int true .u8 r, .sym .u32 (.vr 10)] .run A0 ⟨[.lit 23 4, .br false, .br true, .br false, .br true, .br true, .lit 59 4, .br false, .lit 83 1], []⟩) =
    some (.bool false true, owedE [] (meets (linS 10 8 6) (one 8 6) 1) false true (shA (linS 10 8 6) (linS 8 10 2054)) (shA (one 8 6) (one 8 2054)) r 4) := by kernel_rfl
theorem exTAL_4 [Rho] (r : Int) : outcome (evF env sums5 100000 1000 4 [stS, .int true .u8 r, .sym .u32 (.vr 10)] .run A0 ⟨[.lit 23 4, .br false, .br true, .br false, .br false, .br false, .lit 59 4, .br true], []⟩) =
    some (.bool false true, owedE [] [] true false (shA (linS 10 8 6) (linS 8 10 2054)) (shL (one 8 6) (one 8 2054)) r 4) := by kernel_rfl
theorem exN0AL_4 [Rho] (r : Int) : outcome (evF env sums5 100000 1000 4 [stS, .int true .u8 r, .sym .u32 (.vr 10)] .run A0 ⟨[.lit 23 4, .br false, .br true, .br false, .br false, .br true, .lit 59 4, .br false, .lit 83 0, .lit 91 1], []⟩) =
    some (.bool false true, owedE (endL (one 8 2054) (one 8 6)) (meets (linS 10 8 6) (one 8 6) 0) false true (shA (linS 10 8 6) (linS 8 10 2054)) (shL (one 8 6) (one 8 2054)) r 4) := by kernel_rfl
theorem exTAH_4 [Rho] (r : Int) : outcome (evF env sums5 100000 1000 4 [stS, .int true .u8 r, .sym .u32 (.vr 10)] .run A0 ⟨[.lit 23 4, .br false, .br true, .br true, .br false, .lit 59 4, .br true], []⟩) =
    some (.bool false true, owedE [] [] true false (shA (linS 10 8 6) (linS 8 10 2054)) (shH (one 8 2054)) r 4) := by kernel_rfl
theorem exN0AH_4 [Rho] (r : Int) : outcome (evF env sums5 100000 1000 4 [stS, .int true .u8 r, .sym .u32 (.vr 10)] .run A0 ⟨[.lit 23 4, .br false, .br true, .br true, .br true, .lit 59 4, .br false, .lit 83 0, .lit 91 1], []⟩) =
    some (.bool false true, owedE (endH (one 8 6)) (meets (linS 10 8 6) (one 8 6) 0) false true (shA (linS 10 8 6) (linS 8 10 2054)) (shH (one 8 2054)) r 4) := by kernel_rfl
theorem exTLA_4 [Rho] (r : Int) : outcome (evF env sums5 100000 1000 4 [stS, .int true .u8 r, .sym .u32 (.vr 10)] .run A0 ⟨[.lit 23 4, .br false, .br false, .br false, .br true, .br false, .lit 59 4, .br true, .lit 91 1], []⟩) =
    some (.bool false true, owedE (endL (linS 8 10 2054) (linS 10 8 6)) [] true false (shL (linS 10 8 6) (linS 8 10 2054)) (shA (one 8 6) (one 8 2054)) r 4) := by kernel_rfl
theorem exN0LA_4 [Rho] (r : Int) : outcome (evF env sums5 100000 1000 4 [stS, .int true .u8 r, .sym .u32 (.vr 10)] .run A0 ⟨[.lit 23 4, .br false, .br false, .br false, .br true, .br true, .lit 59 4, .br false, .lit 83 0], []⟩) =
    some (.bool false true, owedE [] (meets (linS 10 8 6) (one 8 6) 0) false true (shL (linS 10 8 6) (linS 8 10 2054)) (shA (one 8 6) (one 8 2054)) r 4) := by kernel_rfl
theorem exTLL_4 [Rho] (r : Int) : outcome (evF env sums5 100000 1000 4 [stS, .int true .u8 r, .sym .u32 (.vr 10)] .run A0 ⟨[.lit 23 4, .br false, .br false, .br false, .br false, .br false, .lit 59 4, .br true, .lit 91 1], []⟩) =
    some (.bool false true, owedE (endL (linS 8 10 2054) (linS 10 8 6)) [] true false (shL (linS 10 8 6) (linS 8 10 2054)) (shL (one 8 6) (one 8 2054)) r 4) := by kernel_rfl
theorem exN0LL_4 [Rho] (r : Int) : outcome (evF env sums5 100000 1000 4 [stS, .int true .u8 r, .sym .u32 (.vr 10)] .run A0 ⟨[.lit 23 4, .br false, .br false, .br false, .br false, .br true, .lit 59 4, .br false, .lit 83 0, .lit 91 1], []⟩) =
    some (.bool false true, owedE (endL (one 8 2054) (one 8 6)) (meets (linS 10 8 6) (one 8 6) 0) false true (shL (linS 10 8 6) (linS 8 10 2054)) (shL (one 8 6) (one 8 2054)) r 4) := by kernel_rfl
theorem exN1LL_4 [Rho] (r : Int) : outcome (evF env sums5 100000 1000 4 [stS, .int true .u8 r, .sym .u32 (.vr 10)] .run A0 ⟨[.lit 23 4, .br false, .br false, .br false, .br false, .br true, .lit 59 4, .br false, .lit 83 1, .lit 91 1], []⟩) =
    some (.bool false true, owedE (endL (one 8 2054) (one 8 6)) (meets (linS 10 8 6) (one 8 6) 1) false true (shL (linS 10 8 6) (linS 8 10 2054)) (shL (one 8 6) (one 8 2054)) r 4) := by kernel_rfl
theorem exTLH_4 [Rho] (r : Int) : outcome (evF env sums5 100000 1000 4 [stS, .int true .u8 r, .sym .u32 (.vr 10)] .run A0 ⟨[.lit 23 4, .br false, .br false, .br true, .br false, .lit 59 4, .br true, .lit 91 1], []⟩) =
    some (.bool false true, owedE (endL (linS 8 10 2054) (linS 10 8 6)) [] true false (shL (linS 10 8 6) (linS 8 10 2054)) (shH (one 8 2054)) r 4) := by kernel_rfl
theorem exN0LH_4 [Rho] (r : Int) : outcome (evF env sums5 100000 1000 4 [stS, .int true .u8 r, .sym .u32 (.vr 10)] .run A0 ⟨[.lit 23 4, .br false, .br false, .br true, .br true, .lit 59 4, .br false, .lit 83 0, .lit 91 1], []⟩) =
    some (.bool false true, owedE (endH (one 8 6)) (meets (linS 10 8 6) (one 8 6) 0) false true (shL (linS 10 8 6) (linS 8 10 2054)) (shH (one 8 2054)) r 4) := by kernel_rfl
theorem exTHA_4 [Rho] (r : Int) : outcome (evF env sums5 100000 1000 4 [stS, .int true .u8 r, .sym .u32 (.vr 10)] .run A0 ⟨[.lit 23 4, .br true, .br false, .br true, .br false, .lit 59 4, .br true, .lit 91 1], []⟩) =
    some (.bool false true, owedE (endH (linS 10 8 6)) [] true false (shH (linS 8 10 2054)) (shA (one 8 6) (one 8 2054)) r 4) := by kernel_rfl
theorem exN0HA_4 [Rho] (r : Int) : outcome (evF env sums5 100000 1000 4 [stS, .int true .u8 r, .sym .u32 (.vr 10)] .run A0 ⟨[.lit 23 4, .br true, .br false, .br true, .br true, .lit 59 4, .br false, .lit 83 0], []⟩) =
    some (.bool false true, owedE [] (meets (linS 10 8 6) (one 8 6) 0) false true (shH (linS 8 10 2054)) (shA (one 8 6) (one 8 2054)) r 4) := by kernel_rfl
theorem exTHL_4 [Rho] (r : Int) : outcome (evF env sums5 100000 1000 4 [stS, .int true .u8 r, .sym .u32 (.vr 10)] .run A0 ⟨[.lit 23 4, .br true, .br false, .br false, .br false, .lit 59 4, .br true, .lit 91 1], []⟩) =
    some (.bool false true, owedE (endH (linS 10 8 6)) [] true false (shH (linS 8 10 2054)) (shL (one 8 6) (one 8 2054)) r 4) := by kernel_rfl
theorem exN0HL_4 [Rho] (r : Int) : outcome (evF env sums5 100000 1000 4 [stS, .int true .u8 r, .sym .u32 (.vr 10)] .run A0 ⟨[.lit 23 4, .br true, .br false, .br false, .br true, .lit 59 4, .br false, .lit 83 0, .lit 91 1], []⟩) =
    some (.bool false true, owedE (endL (one 8 2054) (one 8 6)) (meets (linS 10 8 6) (one 8 6) 0) false true (shH (linS 8 10 2054)) (shL (one 8 6) (one 8 2054)) r 4) := by kernel_rfl
theorem exTHH_4 [Rho] (r : Int) : outcome (evF env sums5 100000 1000 4 [stS, .int true .u8 r, .sym .u32 (.vr 10)] .run A0 ⟨[.lit 23 4, .br true, .br true, .br false, .lit 59 4, .br true, .lit 91 1], []⟩) =
    some (.bool false true, owedE (endH (linS 10 8 6)) [] true false (shH (linS 8 10 2054)) (shH (one 8 2054)) r 4) := by kernel_rfl
theorem exN0HH_4 [Rho] (r : Int) : outcome (evF env sums5 100000 1000 4 [stS, .int true .u8 r, .sym .u32 (.vr 10)] .run A0 ⟨[.lit 23 4, .br true, .br true, .br true, .lit 59 4, .br false, .lit 83 0, .lit 91 1], []⟩) =
    some (.bool false true, owedE (endH (one 8 6)) (meets (linS 10 8 6) (one 8 6) 0) false true (shH (linS 8 10 2054)) (shH (one 8 2054)) r 4) := by kernel_rfl
theorem exN1HH_4 [Rho] (r : Int) : outcome (evF env sums5 100000 1000 4 [stS, .int true .u8 r, .sym .u32 (.vr 10)] .run A0 ⟨[.lit 23 4, .br true, .br true, .br true, .lit 59 4, .br false, .lit 83 1, .lit 91 1], []⟩) =
    some (.bool false true, owedE (endH (one 8 6)) (meets (linS 10 8 6) (one 8 6) 1) false true (shH (linS 8 10 2054)) (shH (one 8 2054)) r 4) := by kernel_rfl
end Go.Proofs.YtegnenchgegejaaGreat
