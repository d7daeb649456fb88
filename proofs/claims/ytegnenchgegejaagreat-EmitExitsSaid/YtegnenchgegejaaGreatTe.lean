import Derived.Test.YtegnenchgegejaaGreatTd

set_option linter.unusedSectionVars false
set_option linter.unusedSimpArgs false
set_option linter.unusedVariables false
/- EmitExits: what is owed on each of its ways. -/
set_option linter.unusedVariables false
namespace Go.Proofs.YtegnenchgegejaaGreat
open Go Go.Ev
def one (a : Nat) (n : Int) : SX := .tm 1 (.vr a) (.num n)
def tr (a : Nat) : SX := .sl 1 0 (.bv a) .nil
def wd (e : SX) : SX := .sl 32 0 e .nil
/-- What the host reckons of the flags. -/
def hostB : Nat → SX
  | 0 => .bv 5
  | 1 => .bv 0
  | 2 => .bv 3
  | 3 => .op .or .u32 (tr 0) (tr 3)
  | 4 => .bv 4
  | 5 => .bv 1
  | 6 => .op .xor .u32 (tr 4) (tr 5)
  | _ => .op .or .u32 (wd (.op .xor .u32 (tr 4) (tr 5))) (tr 3)
/-- Whether that is nought: by the condition's number. -/
def hostX : Nat → SX
  | 0 => .no (.bv 5)
  | 1 => .bv 5
  | 2 => .no (.bv 0)
  | 3 => .bv 0
  | 4 => .no (.bv 3)
  | 5 => .bv 3
  | 6 => .cmp .eql (wd (hostB 3)) .nil
  | 7 => .cmp .eql (wd (.op .xor .u32 (wd (hostB 3)) (.cs 32 1 .nil))) .nil
  | 8 => .no (.bv 4)
  | 9 => .bv 4
  | 10 => .no (.bv 1)
  | 11 => .bv 1
  | 12 => .cmp .eql (wd (hostB 6)) .nil
  | 13 => .cmp .eql (wd (.op .xor .u32 (wd (hostB 6)) (.cs 32 1 .nil))) .nil
  | 14 => .cmp .eql (wd (hostB 7)) .nil
  | _ => .cmp .eql (wd (.op .xor .u32 (wd (hostB 7)) (.cs 32 1 .nil))) .nil
def lawX (cc : Nat) : SX := condX (.bv 0) (.bv 1) (.bv 3) (.bv 4) (.bv 5) cc
def remC (r : Int) : Int := fwrap .i64 (irem r 16)
def endH [Rho] (l : SX) : List Prop := [(ieq (IntKind.wrap .u32 (SX.sx 12 (.sl 12 0 l .nil)).val) (IntKind.wrap .u32 l.val) && true) = nz 1]
def endL [Rho] (h l : SX) : List Prop := [(ieq (IntKind.wrap .u32 (SX.cs 12 0 (.sl 20 12 h .nil)).val) (IntKind.wrap .u32 l.val) && true) = nz 1]
def meets [Rho] (l k : SX) (b : Int) : List Prop := [nz (SX.cmp .eql (wd l) (wd k)).val = nz b]
/-- What is owed: the end's place, whether the two places are one, the condition by the law and by the host, the halves, the number. -/
def owedE [Rho] (fin eq : List Prop) (law host : Bool) (s1 s2 : List Prop) (r : Int) (cc : Nat) : List Prop :=
  fin ++ (eq ++ ((nz (lawX cc).val = law) :: (remC r = (cc : Int)) :: (nz (hostX cc).val = host) :: (AVal.int true .i64 (remC r) = AVal.int true .i64 (remC r)) :: (AVal.int true .i64 (remC r) = AVal.int true .i64 (remC r)) ::
    (s2 ++ (s1 ++ [remC r = (cc : Int)]))))
theorem host_law [Rho] (cc : Nat) (h : cc < 16) : nz (hostX cc).val = !nz (lawX cc).val := by
  have key : ∀ (b0 b1 b3 b4 b5 : Bool), Rho.b 0 = b0 → Rho.b 1 = b1 → Rho.b 3 = b3 → Rho.b 4 = b4 → Rho.b 5 = b5 → nz (hostX cc).val = !nz (lawX cc).val := by
    intro b0 b1 b3 b4 b5 h0 h1 h3 h4 h5
    have hl : nz (lawX cc).val = condF b0 b1 b3 b4 b5 cc := by
      unfold lawX; rw [nz_condX, nz_bv, nz_bv, nz_bv, nz_bv, nz_bv, h0, h1, h3, h4, h5]
    rw [hl]
    have e0 : (SX.bv 0).val = if b0 then 1 else 0 := by simp only [SX.val, h0]
    have e1 : (SX.bv 1).val = if b1 then 1 else 0 := by simp only [SX.val, h1]
    have e3 : (SX.bv 3).val = if b3 then 1 else 0 := by simp only [SX.val, h3]
    have e4 : (SX.bv 4).val = if b4 then 1 else 0 := by simp only [SX.val, h4]
    have e5 : (SX.bv 5).val = if b5 then 1 else 0 := by simp only [SX.val, h5]
    match cc, h with
    | 0, _ => simp only [hostX, nz_no, nz_bv, h5]; cases b5 <;> rfl
    | 1, _ => simp only [hostX, nz_no, nz_bv, h5]; cases b5 <;> rfl
    | 2, _ => simp only [hostX, nz_no, nz_bv, h0]; cases b0 <;> rfl
    | 3, _ => simp only [hostX, nz_no, nz_bv, h0]; cases b0 <;> rfl
    | 4, _ => simp only [hostX, nz_no, nz_bv, h3]; cases b3 <;> rfl
    | 5, _ => simp only [hostX, nz_no, nz_bv, h3]; cases b3 <;> rfl
    | 6, _ => simp only [hostX, hostB, nz_cmp_eq, SX.val, tr, wd, h0, h3]; cases b0 <;> cases b1 <;> cases b3 <;> cases b4 <;> cases b5 <;> decide
    | 7, _ => simp only [hostX, hostB, nz_cmp_eq, SX.val, tr, wd, h0, h3]; cases b0 <;> cases b1 <;> cases b3 <;> cases b4 <;> cases b5 <;> decide
    | 8, _ => simp only [hostX, nz_no, nz_bv, h4]; cases b4 <;> rfl
    | 9, _ => simp only [hostX, nz_no, nz_bv, h4]; cases b4 <;> rfl
    | 10, _ => simp only [hostX, nz_no, nz_bv, h1]; cases b1 <;> rfl
    | 11, _ => simp only [hostX, nz_no, nz_bv, h1]; cases b1 <;> rfl
    | 12, _ => simp only [hostX, hostB, nz_cmp_eq, SX.val, tr, wd, h4, h5]; cases b0 <;> cases b1 <;> cases b3 <;> cases b4 <;> cases b5 <;> decide
    | 13, _ => simp only [hostX, hostB, nz_cmp_eq, SX.val, tr, wd, h4, h5]; cases b0 <;> cases b1 <;> cases b3 <;> cases b4 <;> cases b5 <;> decide
    | 14, _ => simp only [hostX, hostB, nz_cmp_eq, SX.val, tr, wd, h3, h4, h5]; cases b0 <;> cases b1 <;> cases b3 <;> cases b4 <;> cases b5 <;> decide
    | 15, _ => simp only [hostX, hostB, nz_cmp_eq, SX.val, tr, wd, h3, h4, h5]; cases b0 <;> cases b1 <;> cases b3 <;> cases b4 <;> cases b5 <;> decide
    | k + 16, h => exact absurd h (by omega)
  exact key _ _ _ _ _ rfl rfl rfl rfl rfl
end Go.Proofs.YtegnenchgegejaaGreat
