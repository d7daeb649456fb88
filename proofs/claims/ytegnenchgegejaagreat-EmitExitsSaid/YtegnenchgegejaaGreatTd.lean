import Derived.Test.YtegnenchgegejaaGreatTc
import Derived.Test.YtegnenchgegejaaGreatEvC
import Derived.KernelRfl

set_option linter.unusedSectionVars false
set_option linter.unusedSimpArgs false
set_option linter.unusedVariables false
set_option linter.unusedVariables false
set_option maxRecDepth 1000000
namespace Go.Proofs.YtegnenchgegejaaGreat
open Go Go.Ev Go.Proofs
theorem cond_all [Rho] : condAll env sums4 100000 1000 15 = true := by kernel_rfl
theorem cond_ok [Rho] : SumOk1 env.P 15 condP.sum := condP_ok env_ok sums4_ok 100000 1000 cond_all
theorem known_ev [Rho] : retV (evF env sums4 100000 1000 5 [] .run A0 ⟨[], []⟩) = some (.bool false true) := by kernel_rfl
theorem known_ok [Rho] : SumOk1 env.P 5 (constP (.bool false true)).sum := by
  obtain ⟨A', h⟩ := retV_ok known_ev
  exact constP_ok env_ok sums4_ok 100000 1000 rfl h
noncomputable def sums5 : Sums := Sums.add 15 condP.sum (Sums.add 5 (constP (.bool false true)).sum sums4)
theorem sums5_ok [Rho] : SumsOk env.P sums5 := Sums.add_ok cond_ok (Sums.add_ok known_ok sums4_ok)
end Go.Proofs.YtegnenchgegejaaGreat

/- EmitPatched: what is owed on each of its ways. -/
set_option linter.unusedVariables false
namespace Go.Proofs.YtegnenchgegejaaGreat
open Go Go.Ev
def linS (a b : Nat) (n : Int) : SX := .tm 1 (.vr a) (.tm 1 (.vr b) (.num n))
def hiS (e : SX) : SX := .cmp .eql (.sx 32 (.cs 12 0 (.sl 20 12 e .nil))) (.num 0)
def loS (e : SX) : SX := .no (.cmp .eql (.sx 12 (.sl 12 0 e .nil)) (.num 0))
def finH (e : SX) : SX := .cmp .eql (.sl 12 0 e (.sl 20 12 (.sx 12 (.sl 12 0 e .nil)) .nil)) (.sl 32 0 e .nil)
def finL (u e : SX) : SX := .cmp .eql (.cs 12 0 (.sl 20 12 u .nil)) (.sl 32 0 e .nil)
def remA (r : Int) : Int := irem r 8
def remB (r : Int) : Int := irem (fwrap .i64 (fwrap .u8 (r + 1))) 8
/-- What is owed: the numbers of the registers, the halves of the two places, the place at the end. -/
def owedP (fin s1 s2 : List Prop) (r c d : Int) : List Prop := fin ++ ((remB r = d) :: (remA r = c) :: (s2 ++ ((remB r = d) :: (s1 ++ [fwrap .i64 (remA r) = c]))))
def shA [Rho] (l h : SX) : List Prop := [nz (loS l).val = true, nz (hiS h).val = false]
def shL [Rho] (l h : SX) : List Prop := [nz (loS l).val = false, nz (hiS h).val = false]
def shH [Rho] (h : SX) : List Prop := [nz (hiS h).val = true]
end Go.Proofs.YtegnenchgegejaaGreat
