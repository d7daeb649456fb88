/- EmitPatched answers true at every input: the words of a block that goes on at a place, patched to another block's words, go on there, and state and place are what they must be.
   Conditions: none beyond the given statement's. How: a verified evaluator of the model's code (EvA .. EvC) runs the law once for each way that it can take (W..: eight registers, six pairs of shapes of the two places' constants); here the ways are put together. -/
import Derived.Test.YtegnenchgegejaaGreatWAA
import Derived.Test.YtegnenchgegejaaGreatWAL
import Derived.Test.YtegnenchgegejaaGreatWLA
import Derived.Test.YtegnenchgegejaaGreatWHH
import Derived.Test.YtegnenchgegejaaGreatWHA
import Derived.Test.YtegnenchgegejaaGreatWAH
import Derived.Test.YtegnenchgegejaaGreatRows
set_option maxRecDepth 100000
set_option linter.unusedVariables false
namespace Go.Proofs.YtegnenchgegejaaGreat
open Go Go.Ev Go.Proofs Go.ChangeShapes Go.WideShapes Go.ChangeAt Go.RowKit

theorem AllL_app {p : Prop → Prop} : ∀ {a b : List Prop}, AllL p a → AllL p b → AllL p (a ++ b)
  | [], b, _, h => h
  | x :: a, b, ha, hb => ⟨ha.1, AllL_app ha.2 hb⟩
theorem owedP_ok {fin s1 s2 : List Prop} {r c d : Int} (h0 : AllL id fin) (h1 : AllL id s1) (h2 : AllL id s2) (ha : remA r = c) (hb : remB r = d) (hc : fwrap .i64 (remA r) = c) : AllL id (owedP fin s1 s2 r c d) :=
  AllL_app h0 ⟨hb, ha, AllL_app h2 ⟨hb, AllL_app h1 ⟨hc, trivial⟩⟩⟩
theorem remA_eq {r : Int} (h : 0 ≤ r) : remA r = r % 8 := by unfold remA; rw [irem_eq, Int.tmod_eq_emod_of_nonneg h]
theorem remA_wrap {r : Int} (h : 0 ≤ r) : fwrap .i64 (remA r) = r % 8 := by
  rw [remA_eq h, fwrap_eq]; simp [IntKind.wrap, IntKind.bits, IntKind.signed]; omega
theorem remB_eq {r : Int} (h : 0 ≤ r) (h' : r < 256) : remB r = (r + 1) % 8 := by
  unfold remB
  have e1 : fwrap .u8 (r + 1) = (r + 1) % 256 := by rw [fwrap_eq]; simp [IntKind.wrap, IntKind.bits, IntKind.signed]
  have e2 : fwrap .i64 ((r + 1) % 256) = (r + 1) % 256 := by rw [fwrap_eq]; simp [IntKind.wrap, IntKind.bits, IntKind.signed]; omega
  rw [e1, e2, irem_eq, Int.tmod_eq_emod_of_nonneg (by omega)]; omega
theorem lin_val (n : Nat → Int) (b : Nat → Bool) (i j : Nat) (m : Int) : @SX.val (rhoS n b) (linS i j m) = n i + n j + m := by
  show 1 * n i + (1 * n j + m) = _; omega
theorem hiS_nz [Rho] {e : SX} {x : Int} (h : e.val = x + 2048) : nz (hiS e).val = decide ((x + 2048) / 4096 % 1048576 = 0) := by rw [← h]; exact hi_nz e
theorem loS_nz [Rho] {e : SX} {x : Int} (h : e.val = x) : nz (loS e).val = !decide (x % 4096 = 0) := by rw [← h]; exact lo_nz e
theorem finL_nz [Rho] {u e : SX} {x : Int} (hu : u.val = x + 2048) (he : e.val = x) (h : x % 4096 = 0) : nz (finL u e).val = nz 1 := by
  show nz (SX.cmp .eql _ _).val = nz 1
  rw [nz_cmp_eq]
  show _ = true
  apply decide_eq_true
  simp only [SX.val, hu, he]
  simp
  omega
theorem finH_nz [Rho] {e : SX} {x : Int} (he : e.val = x) (h : (x + 2048) / 4096 % 1048576 = 0) : nz (finH e).val = nz 1 := by
  show nz (SX.cmp .eql _ _).val = nz 1
  rw [nz_cmp_eq]
  show _ = true
  apply decide_eq_true
  simp only [SX.val, sxI, he]
  simp
  split <;> omega
theorem patched_ret (n : Nat → Int) (b : Nat → Bool) (r : Int) (hn : stOk n) (hd : IntKind.wrap .u32 (n 10) = n 10) (hr : IntKind.wrap .u8 r = r) : GoRet env.P 3 #[stV n b, .int .u32 (n 10), .int .u8 r] (.bool true) := by
  have hr0 : 0 ≤ r ∧ r < 256 := by simp [IntKind.wrap, IntKind.bits, IntKind.signed] at hr; omega
  have go : ∀ {path : List Dec} {l : List Prop}, outcome (@evF (rhoS n b) env sums5 100000 1000 3 [stS, .sym .u32 (.vr 10), .int true .u8 r] .run A0 ⟨path, []⟩) = some (.bool false true, l) → AllL id l →
      GoRet env.P 3 #[stV n b, .int .u32 (n 10), .int .u8 r] (.bool true) := by
    intro path l h ho
    have hin : LIn [stS, .sym .u32 (.vr 10), .int true .u8 r] 0 := by
      intro v hv
      rcases List.mem_cons.1 hv with rfl | hv
      · exact Nat.le_refl _
      · rcases List.mem_cons.1 hv with rfl | hv
        · exact Nat.le_refl _
        · rcases List.mem_singleton.1 hv with rfl; exact Nat.le_refl _
    have := @goRet_of_outcome (rhoS n b) env env_ok sums5 (@sums5_ok (rhoS n b)) 3 100000 1000 _ path _ l h ho hin rfl ⟨fun _ => 0, fun _ => 0, fun _ => 0, fun _ => (0, 0)⟩
    have e : (@concL (rhoS n b) ⟨fun _ => 0, fun _ => 0, fun _ => 0, fun _ => (0, 0)⟩ [stS, .sym .u32 (.vr 10), .int true .u8 r]).toArray = #[stV n b, .int .u32 (n 10), .int .u8 r] := by
      simp only [concL]
      rw [conc_stS n b hn]
      have e1 : @conc (rhoS n b) ⟨fun _ => 0, fun _ => 0, fun _ => 0, fun _ => (0, 0)⟩ (.sym .u32 (.vr 10)) = .int .u32 (n 10) := by
        show Value.int .u32 (IntKind.wrap .u32 (n 10)) = _
        rw [hd]
      rw [e1]; rfl
    rw [e] at this
    exact this
  have hA := remA_eq hr0.1
  have hW := remA_wrap hr0.1
  have hB := remB_eq hr0.1 hr0.2
  generalize hx : n 8 + n 10 + 6 = x
  have vL1 : @SX.val (rhoS n b) (linS 10 8 6) = x := by rw [lin_val]; omega
  have vH1 : @SX.val (rhoS n b) (linS 8 10 2054) = x + 2048 := by rw [lin_val]; omega
  have vL2 : @SX.val (rhoS n b) (linS 8 10 7) = x + 1 := by rw [lin_val]; omega
  have vH2 : @SX.val (rhoS n b) (linS 10 8 2055) = x + 1 + 2048 := by rw [lin_val]; omega
  have h1 := @hiS_nz (rhoS n b) _ _ vH1
  have g1 := @loS_nz (rhoS n b) _ _ vL1
  have h2 := @hiS_nz (rhoS n b) _ _ vH2
  have g2 := @loS_nz (rhoS n b) _ _ vL2
  have hc : r % 8 = 0 ∨ r % 8 = 1 ∨ r % 8 = 2 ∨ r % 8 = 3 ∨ r % 8 = 4 ∨ r % 8 = 5 ∨ r % 8 = 6 ∨ r % 8 = 7 := by omega
  by_cases p1 : (x + 2048) / 4096 % 1048576 = 0
  · by_cases p2 : (x + 1 + 2048) / 4096 % 1048576 = 0
    · clear g1 g2
      rcases hc with e | e | e | e | e | e | e | e
      · exact go (@wayHH_0 (rhoS n b) r) (owedP_ok ⟨@finH_nz (rhoS n b) _ _ vL2 p2, trivial⟩ ⟨(h1.trans (decide_eq_true p1)), trivial⟩ ⟨(h2.trans (decide_eq_true p2)), trivial⟩ (hA.trans e) (hB.trans (by omega)) (hW.trans e))
      · exact go (@wayHH_1 (rhoS n b) r) (owedP_ok ⟨@finH_nz (rhoS n b) _ _ vL2 p2, trivial⟩ ⟨(h1.trans (decide_eq_true p1)), trivial⟩ ⟨(h2.trans (decide_eq_true p2)), trivial⟩ (hA.trans e) (hB.trans (by omega)) (hW.trans e))
      · exact go (@wayHH_2 (rhoS n b) r) (owedP_ok ⟨@finH_nz (rhoS n b) _ _ vL2 p2, trivial⟩ ⟨(h1.trans (decide_eq_true p1)), trivial⟩ ⟨(h2.trans (decide_eq_true p2)), trivial⟩ (hA.trans e) (hB.trans (by omega)) (hW.trans e))
      · exact go (@wayHH_3 (rhoS n b) r) (owedP_ok ⟨@finH_nz (rhoS n b) _ _ vL2 p2, trivial⟩ ⟨(h1.trans (decide_eq_true p1)), trivial⟩ ⟨(h2.trans (decide_eq_true p2)), trivial⟩ (hA.trans e) (hB.trans (by omega)) (hW.trans e))
      · exact go (@wayHH_4 (rhoS n b) r) (owedP_ok ⟨@finH_nz (rhoS n b) _ _ vL2 p2, trivial⟩ ⟨(h1.trans (decide_eq_true p1)), trivial⟩ ⟨(h2.trans (decide_eq_true p2)), trivial⟩ (hA.trans e) (hB.trans (by omega)) (hW.trans e))
      · exact go (@wayHH_5 (rhoS n b) r) (owedP_ok ⟨@finH_nz (rhoS n b) _ _ vL2 p2, trivial⟩ ⟨(h1.trans (decide_eq_true p1)), trivial⟩ ⟨(h2.trans (decide_eq_true p2)), trivial⟩ (hA.trans e) (hB.trans (by omega)) (hW.trans e))
      · exact go (@wayHH_6 (rhoS n b) r) (owedP_ok ⟨@finH_nz (rhoS n b) _ _ vL2 p2, trivial⟩ ⟨(h1.trans (decide_eq_true p1)), trivial⟩ ⟨(h2.trans (decide_eq_true p2)), trivial⟩ (hA.trans e) (hB.trans (by omega)) (hW.trans e))
      · exact go (@wayHH_7 (rhoS n b) r) (owedP_ok ⟨@finH_nz (rhoS n b) _ _ vL2 p2, trivial⟩ ⟨(h1.trans (decide_eq_true p1)), trivial⟩ ⟨(h2.trans (decide_eq_true p2)), trivial⟩ (hA.trans e) (hB.trans (by omega)) (hW.trans e))
    · have q2 : ¬ (x + 1) % 4096 = 0 := by omega
      rcases hc with e | e | e | e | e | e | e | e
      · exact go (@wayHA_0 (rhoS n b) r) (owedP_ok trivial ⟨(h1.trans (decide_eq_true p1)), trivial⟩ ⟨(g2.trans (by simp only [decide_eq_false q2, Bool.not_false])), (h2.trans (decide_eq_false p2)), trivial⟩ (hA.trans e) (hB.trans (by omega)) (hW.trans e))
      · exact go (@wayHA_1 (rhoS n b) r) (owedP_ok trivial ⟨(h1.trans (decide_eq_true p1)), trivial⟩ ⟨(g2.trans (by simp only [decide_eq_false q2, Bool.not_false])), (h2.trans (decide_eq_false p2)), trivial⟩ (hA.trans e) (hB.trans (by omega)) (hW.trans e))
      · exact go (@wayHA_2 (rhoS n b) r) (owedP_ok trivial ⟨(h1.trans (decide_eq_true p1)), trivial⟩ ⟨(g2.trans (by simp only [decide_eq_false q2, Bool.not_false])), (h2.trans (decide_eq_false p2)), trivial⟩ (hA.trans e) (hB.trans (by omega)) (hW.trans e))
      · exact go (@wayHA_3 (rhoS n b) r) (owedP_ok trivial ⟨(h1.trans (decide_eq_true p1)), trivial⟩ ⟨(g2.trans (by simp only [decide_eq_false q2, Bool.not_false])), (h2.trans (decide_eq_false p2)), trivial⟩ (hA.trans e) (hB.trans (by omega)) (hW.trans e))
      · exact go (@wayHA_4 (rhoS n b) r) (owedP_ok trivial ⟨(h1.trans (decide_eq_true p1)), trivial⟩ ⟨(g2.trans (by simp only [decide_eq_false q2, Bool.not_false])), (h2.trans (decide_eq_false p2)), trivial⟩ (hA.trans e) (hB.trans (by omega)) (hW.trans e))
      · exact go (@wayHA_5 (rhoS n b) r) (owedP_ok trivial ⟨(h1.trans (decide_eq_true p1)), trivial⟩ ⟨(g2.trans (by simp only [decide_eq_false q2, Bool.not_false])), (h2.trans (decide_eq_false p2)), trivial⟩ (hA.trans e) (hB.trans (by omega)) (hW.trans e))
      · exact go (@wayHA_6 (rhoS n b) r) (owedP_ok trivial ⟨(h1.trans (decide_eq_true p1)), trivial⟩ ⟨(g2.trans (by simp only [decide_eq_false q2, Bool.not_false])), (h2.trans (decide_eq_false p2)), trivial⟩ (hA.trans e) (hB.trans (by omega)) (hW.trans e))
      · exact go (@wayHA_7 (rhoS n b) r) (owedP_ok trivial ⟨(h1.trans (decide_eq_true p1)), trivial⟩ ⟨(g2.trans (by simp only [decide_eq_false q2, Bool.not_false])), (h2.trans (decide_eq_false p2)), trivial⟩ (hA.trans e) (hB.trans (by omega)) (hW.trans e))
  · by_cases q1 : x % 4096 = 0
    · have p2 : ¬ (x + 1 + 2048) / 4096 % 1048576 = 0 := by omega
      have q2 : ¬ (x + 1) % 4096 = 0 := by omega
      rcases hc with e | e | e | e | e | e | e | e
      · exact go (@wayLA_0 (rhoS n b) r) (owedP_ok trivial ⟨(g1.trans (by simp only [decide_eq_true q1, Bool.not_true])), (h1.trans (decide_eq_false p1)), trivial⟩ ⟨(g2.trans (by simp only [decide_eq_false q2, Bool.not_false])), (h2.trans (decide_eq_false p2)), trivial⟩ (hA.trans e) (hB.trans (by omega)) (hW.trans e))
      · exact go (@wayLA_1 (rhoS n b) r) (owedP_ok trivial ⟨(g1.trans (by simp only [decide_eq_true q1, Bool.not_true])), (h1.trans (decide_eq_false p1)), trivial⟩ ⟨(g2.trans (by simp only [decide_eq_false q2, Bool.not_false])), (h2.trans (decide_eq_false p2)), trivial⟩ (hA.trans e) (hB.trans (by omega)) (hW.trans e))
      · exact go (@wayLA_2 (rhoS n b) r) (owedP_ok trivial ⟨(g1.trans (by simp only [decide_eq_true q1, Bool.not_true])), (h1.trans (decide_eq_false p1)), trivial⟩ ⟨(g2.trans (by simp only [decide_eq_false q2, Bool.not_false])), (h2.trans (decide_eq_false p2)), trivial⟩ (hA.trans e) (hB.trans (by omega)) (hW.trans e))
      · exact go (@wayLA_3 (rhoS n b) r) (owedP_ok trivial ⟨(g1.trans (by simp only [decide_eq_true q1, Bool.not_true])), (h1.trans (decide_eq_false p1)), trivial⟩ ⟨(g2.trans (by simp only [decide_eq_false q2, Bool.not_false])), (h2.trans (decide_eq_false p2)), trivial⟩ (hA.trans e) (hB.trans (by omega)) (hW.trans e))
      · exact go (@wayLA_4 (rhoS n b) r) (owedP_ok trivial ⟨(g1.trans (by simp only [decide_eq_true q1, Bool.not_true])), (h1.trans (decide_eq_false p1)), trivial⟩ ⟨(g2.trans (by simp only [decide_eq_false q2, Bool.not_false])), (h2.trans (decide_eq_false p2)), trivial⟩ (hA.trans e) (hB.trans (by omega)) (hW.trans e))
      · exact go (@wayLA_5 (rhoS n b) r) (owedP_ok trivial ⟨(g1.trans (by simp only [decide_eq_true q1, Bool.not_true])), (h1.trans (decide_eq_false p1)), trivial⟩ ⟨(g2.trans (by simp only [decide_eq_false q2, Bool.not_false])), (h2.trans (decide_eq_false p2)), trivial⟩ (hA.trans e) (hB.trans (by omega)) (hW.trans e))
      · exact go (@wayLA_6 (rhoS n b) r) (owedP_ok trivial ⟨(g1.trans (by simp only [decide_eq_true q1, Bool.not_true])), (h1.trans (decide_eq_false p1)), trivial⟩ ⟨(g2.trans (by simp only [decide_eq_false q2, Bool.not_false])), (h2.trans (decide_eq_false p2)), trivial⟩ (hA.trans e) (hB.trans (by omega)) (hW.trans e))
      · exact go (@wayLA_7 (rhoS n b) r) (owedP_ok trivial ⟨(g1.trans (by simp only [decide_eq_true q1, Bool.not_true])), (h1.trans (decide_eq_false p1)), trivial⟩ ⟨(g2.trans (by simp only [decide_eq_false q2, Bool.not_false])), (h2.trans (decide_eq_false p2)), trivial⟩ (hA.trans e) (hB.trans (by omega)) (hW.trans e))
    · by_cases p2 : (x + 1 + 2048) / 4096 % 1048576 = 0
      · skip
        rcases hc with e | e | e | e | e | e | e | e
        · exact go (@wayAH_0 (rhoS n b) r) (owedP_ok ⟨@finH_nz (rhoS n b) _ _ vL2 p2, trivial⟩ ⟨(g1.trans (by simp only [decide_eq_false q1, Bool.not_false])), (h1.trans (decide_eq_false p1)), trivial⟩ ⟨(h2.trans (decide_eq_true p2)), trivial⟩ (hA.trans e) (hB.trans (by omega)) (hW.trans e))
        · exact go (@wayAH_1 (rhoS n b) r) (owedP_ok ⟨@finH_nz (rhoS n b) _ _ vL2 p2, trivial⟩ ⟨(g1.trans (by simp only [decide_eq_false q1, Bool.not_false])), (h1.trans (decide_eq_false p1)), trivial⟩ ⟨(h2.trans (decide_eq_true p2)), trivial⟩ (hA.trans e) (hB.trans (by omega)) (hW.trans e))
        · exact go (@wayAH_2 (rhoS n b) r) (owedP_ok ⟨@finH_nz (rhoS n b) _ _ vL2 p2, trivial⟩ ⟨(g1.trans (by simp only [decide_eq_false q1, Bool.not_false])), (h1.trans (decide_eq_false p1)), trivial⟩ ⟨(h2.trans (decide_eq_true p2)), trivial⟩ (hA.trans e) (hB.trans (by omega)) (hW.trans e))
        · exact go (@wayAH_3 (rhoS n b) r) (owedP_ok ⟨@finH_nz (rhoS n b) _ _ vL2 p2, trivial⟩ ⟨(g1.trans (by simp only [decide_eq_false q1, Bool.not_false])), (h1.trans (decide_eq_false p1)), trivial⟩ ⟨(h2.trans (decide_eq_true p2)), trivial⟩ (hA.trans e) (hB.trans (by omega)) (hW.trans e))
        · exact go (@wayAH_4 (rhoS n b) r) (owedP_ok ⟨@finH_nz (rhoS n b) _ _ vL2 p2, trivial⟩ ⟨(g1.trans (by simp only [decide_eq_false q1, Bool.not_false])), (h1.trans (decide_eq_false p1)), trivial⟩ ⟨(h2.trans (decide_eq_true p2)), trivial⟩ (hA.trans e) (hB.trans (by omega)) (hW.trans e))
        · exact go (@wayAH_5 (rhoS n b) r) (owedP_ok ⟨@finH_nz (rhoS n b) _ _ vL2 p2, trivial⟩ ⟨(g1.trans (by simp only [decide_eq_false q1, Bool.not_false])), (h1.trans (decide_eq_false p1)), trivial⟩ ⟨(h2.trans (decide_eq_true p2)), trivial⟩ (hA.trans e) (hB.trans (by omega)) (hW.trans e))
        · exact go (@wayAH_6 (rhoS n b) r) (owedP_ok ⟨@finH_nz (rhoS n b) _ _ vL2 p2, trivial⟩ ⟨(g1.trans (by simp only [decide_eq_false q1, Bool.not_false])), (h1.trans (decide_eq_false p1)), trivial⟩ ⟨(h2.trans (decide_eq_true p2)), trivial⟩ (hA.trans e) (hB.trans (by omega)) (hW.trans e))
        · exact go (@wayAH_7 (rhoS n b) r) (owedP_ok ⟨@finH_nz (rhoS n b) _ _ vL2 p2, trivial⟩ ⟨(g1.trans (by simp only [decide_eq_false q1, Bool.not_false])), (h1.trans (decide_eq_false p1)), trivial⟩ ⟨(h2.trans (decide_eq_true p2)), trivial⟩ (hA.trans e) (hB.trans (by omega)) (hW.trans e))
      · by_cases q2 : (x + 1) % 4096 = 0
        · skip
          rcases hc with e | e | e | e | e | e | e | e
          · exact go (@wayAL_0 (rhoS n b) r) (owedP_ok ⟨@finL_nz (rhoS n b) _ _ _ vH2 vL2 q2, trivial⟩ ⟨(g1.trans (by simp only [decide_eq_false q1, Bool.not_false])), (h1.trans (decide_eq_false p1)), trivial⟩ ⟨(g2.trans (by simp only [decide_eq_true q2, Bool.not_true])), (h2.trans (decide_eq_false p2)), trivial⟩ (hA.trans e) (hB.trans (by omega)) (hW.trans e))
          · exact go (@wayAL_1 (rhoS n b) r) (owedP_ok ⟨@finL_nz (rhoS n b) _ _ _ vH2 vL2 q2, trivial⟩ ⟨(g1.trans (by simp only [decide_eq_false q1, Bool.not_false])), (h1.trans (decide_eq_false p1)), trivial⟩ ⟨(g2.trans (by simp only [decide_eq_true q2, Bool.not_true])), (h2.trans (decide_eq_false p2)), trivial⟩ (hA.trans e) (hB.trans (by omega)) (hW.trans e))
          · exact go (@wayAL_2 (rhoS n b) r) (owedP_ok ⟨@finL_nz (rhoS n b) _ _ _ vH2 vL2 q2, trivial⟩ ⟨(g1.trans (by simp only [decide_eq_false q1, Bool.not_false])), (h1.trans (decide_eq_false p1)), trivial⟩ ⟨(g2.trans (by simp only [decide_eq_true q2, Bool.not_true])), (h2.trans (decide_eq_false p2)), trivial⟩ (hA.trans e) (hB.trans (by omega)) (hW.trans e))
          · exact go (@wayAL_3 (rhoS n b) r) (owedP_ok ⟨@finL_nz (rhoS n b) _ _ _ vH2 vL2 q2, trivial⟩ ⟨(g1.trans (by simp only [decide_eq_false q1, Bool.not_false])), (h1.trans (decide_eq_false p1)), trivial⟩ ⟨(g2.trans (by simp only [decide_eq_true q2, Bool.not_true])), (h2.trans (decide_eq_false p2)), trivial⟩ (hA.trans e) (hB.trans (by omega)) (hW.trans e))
          · exact go (@wayAL_4 (rhoS n b) r) (owedP_ok ⟨@finL_nz (rhoS n b) _ _ _ vH2 vL2 q2, trivial⟩ ⟨(g1.trans (by simp only [decide_eq_false q1, Bool.not_false])), (h1.trans (decide_eq_false p1)), trivial⟩ ⟨(g2.trans (by simp only [decide_eq_true q2, Bool.not_true])), (h2.trans (decide_eq_false p2)), trivial⟩ (hA.trans e) (hB.trans (by omega)) (hW.trans e))
          · exact go (@wayAL_5 (rhoS n b) r) (owedP_ok ⟨@finL_nz (rhoS n b) _ _ _ vH2 vL2 q2, trivial⟩ ⟨(g1.trans (by simp only [decide_eq_false q1, Bool.not_false])), (h1.trans (decide_eq_false p1)), trivial⟩ ⟨(g2.trans (by simp only [decide_eq_true q2, Bool.not_true])), (h2.trans (decide_eq_false p2)), trivial⟩ (hA.trans e) (hB.trans (by omega)) (hW.trans e))
          · exact go (@wayAL_6 (rhoS n b) r) (owedP_ok ⟨@finL_nz (rhoS n b) _ _ _ vH2 vL2 q2, trivial⟩ ⟨(g1.trans (by simp only [decide_eq_false q1, Bool.not_false])), (h1.trans (decide_eq_false p1)), trivial⟩ ⟨(g2.trans (by simp only [decide_eq_true q2, Bool.not_true])), (h2.trans (decide_eq_false p2)), trivial⟩ (hA.trans e) (hB.trans (by omega)) (hW.trans e))
          · exact go (@wayAL_7 (rhoS n b) r) (owedP_ok ⟨@finL_nz (rhoS n b) _ _ _ vH2 vL2 q2, trivial⟩ ⟨(g1.trans (by simp only [decide_eq_false q1, Bool.not_false])), (h1.trans (decide_eq_false p1)), trivial⟩ ⟨(g2.trans (by simp only [decide_eq_true q2, Bool.not_true])), (h2.trans (decide_eq_false p2)), trivial⟩ (hA.trans e) (hB.trans (by omega)) (hW.trans e))
        · skip
          rcases hc with e | e | e | e | e | e | e | e
          · exact go (@wayAA_0 (rhoS n b) r) (owedP_ok trivial ⟨(g1.trans (by simp only [decide_eq_false q1, Bool.not_false])), (h1.trans (decide_eq_false p1)), trivial⟩ ⟨(g2.trans (by simp only [decide_eq_false q2, Bool.not_false])), (h2.trans (decide_eq_false p2)), trivial⟩ (hA.trans e) (hB.trans (by omega)) (hW.trans e))
          · exact go (@wayAA_1 (rhoS n b) r) (owedP_ok trivial ⟨(g1.trans (by simp only [decide_eq_false q1, Bool.not_false])), (h1.trans (decide_eq_false p1)), trivial⟩ ⟨(g2.trans (by simp only [decide_eq_false q2, Bool.not_false])), (h2.trans (decide_eq_false p2)), trivial⟩ (hA.trans e) (hB.trans (by omega)) (hW.trans e))
          · exact go (@wayAA_2 (rhoS n b) r) (owedP_ok trivial ⟨(g1.trans (by simp only [decide_eq_false q1, Bool.not_false])), (h1.trans (decide_eq_false p1)), trivial⟩ ⟨(g2.trans (by simp only [decide_eq_false q2, Bool.not_false])), (h2.trans (decide_eq_false p2)), trivial⟩ (hA.trans e) (hB.trans (by omega)) (hW.trans e))
          · exact go (@wayAA_3 (rhoS n b) r) (owedP_ok trivial ⟨(g1.trans (by simp only [decide_eq_false q1, Bool.not_false])), (h1.trans (decide_eq_false p1)), trivial⟩ ⟨(g2.trans (by simp only [decide_eq_false q2, Bool.not_false])), (h2.trans (decide_eq_false p2)), trivial⟩ (hA.trans e) (hB.trans (by omega)) (hW.trans e))
          · exact go (@wayAA_4 (rhoS n b) r) (owedP_ok trivial ⟨(g1.trans (by simp only [decide_eq_false q1, Bool.not_false])), (h1.trans (decide_eq_false p1)), trivial⟩ ⟨(g2.trans (by simp only [decide_eq_false q2, Bool.not_false])), (h2.trans (decide_eq_false p2)), trivial⟩ (hA.trans e) (hB.trans (by omega)) (hW.trans e))
          · exact go (@wayAA_5 (rhoS n b) r) (owedP_ok trivial ⟨(g1.trans (by simp only [decide_eq_false q1, Bool.not_false])), (h1.trans (decide_eq_false p1)), trivial⟩ ⟨(g2.trans (by simp only [decide_eq_false q2, Bool.not_false])), (h2.trans (decide_eq_false p2)), trivial⟩ (hA.trans e) (hB.trans (by omega)) (hW.trans e))
          · exact go (@wayAA_6 (rhoS n b) r) (owedP_ok trivial ⟨(g1.trans (by simp only [decide_eq_false q1, Bool.not_false])), (h1.trans (decide_eq_false p1)), trivial⟩ ⟨(g2.trans (by simp only [decide_eq_false q2, Bool.not_false])), (h2.trans (decide_eq_false p2)), trivial⟩ (hA.trans e) (hB.trans (by omega)) (hW.trans e))
          · exact go (@wayAA_7 (rhoS n b) r) (owedP_ok trivial ⟨(g1.trans (by simp only [decide_eq_false q1, Bool.not_false])), (h1.trans (decide_eq_false p1)), trivial⟩ ⟨(g2.trans (by simp only [decide_eq_false q2, Bool.not_false])), (h2.trans (decide_eq_false p2)), trivial⟩ (hA.trans e) (hB.trans (by omega)) (hW.trans e))

theorem state_cells : Tryz.prog.cellTypes Tryz.prog.depth 28 = some [22, 22, 22, 22, 22, 22, 22, 22, 22, 4, 4, 4, 4, 4, 4, 4, 26] := by kernel_rfl
theorem state_size : Tryz.prog.cellsOf 28 = 17 := by kernel_rfl
theorem open_state {W : World} {base : Nat} {v : Value} (h : Value.okWide Tryz.prog W .any base 28 v) (d : Int) : ∃ (n : Nat → Int) (b : Nat → Bool), stOk n ∧ n 10 = d ∧ v = stV n b := by
  simp only [Value.okWide, Tryz.underlying28] at h
  obtain ⟨cs, rfl, hsz, ts, hts, _, hc⟩ := h
  rw [state_cells] at hts
  cases hts
  rw [state_size] at hsz
  obtain ⟨l⟩ := cs
  have hl : l.length = 17 := hsz
  match l, hl with
  | [c0, c1, c2, c3, c4, c5, c6, c7, c8, c9, c10, c11, c12, c13, c14, c15, c16], _ =>
    obtain ⟨u0, k0, w0⟩ := hc 0 c0 rfl
    have z0 : 22 = u0 := Option.some.inj k0
    subst z0
    obtain ⟨n0, rfl, v0⟩ := cell_int Tryz.underlying22 w0
    obtain ⟨u1, k1, w1⟩ := hc 1 c1 rfl
    have z1 : 22 = u1 := Option.some.inj k1
    subst z1
    obtain ⟨n1, rfl, v1⟩ := cell_int Tryz.underlying22 w1
    obtain ⟨u2, k2, w2⟩ := hc 2 c2 rfl
    have z2 : 22 = u2 := Option.some.inj k2
    subst z2
    obtain ⟨n2, rfl, v2⟩ := cell_int Tryz.underlying22 w2
    obtain ⟨u3, k3, w3⟩ := hc 3 c3 rfl
    have z3 : 22 = u3 := Option.some.inj k3
    subst z3
    obtain ⟨n3, rfl, v3⟩ := cell_int Tryz.underlying22 w3
    obtain ⟨u4, k4, w4⟩ := hc 4 c4 rfl
    have z4 : 22 = u4 := Option.some.inj k4
    subst z4
    obtain ⟨n4, rfl, v4⟩ := cell_int Tryz.underlying22 w4
    obtain ⟨u5, k5, w5⟩ := hc 5 c5 rfl
    have z5 : 22 = u5 := Option.some.inj k5
    subst z5
    obtain ⟨n5, rfl, v5⟩ := cell_int Tryz.underlying22 w5
    obtain ⟨u6, k6, w6⟩ := hc 6 c6 rfl
    have z6 : 22 = u6 := Option.some.inj k6
    subst z6
    obtain ⟨n6, rfl, v6⟩ := cell_int Tryz.underlying22 w6
    obtain ⟨u7, k7, w7⟩ := hc 7 c7 rfl
    have z7 : 22 = u7 := Option.some.inj k7
    subst z7
    obtain ⟨n7, rfl, v7⟩ := cell_int Tryz.underlying22 w7
    obtain ⟨u8, k8, w8⟩ := hc 8 c8 rfl
    have z8 : 22 = u8 := Option.some.inj k8
    subst z8
    obtain ⟨n8, rfl, v8⟩ := cell_int Tryz.underlying22 w8
    obtain ⟨u9, k9, w9⟩ := hc 9 c9 rfl
    have z9 : 4 = u9 := Option.some.inj k9
    subst z9
    obtain ⟨b0, rfl⟩ := cell_bool Tryz.underlying4 w9
    obtain ⟨u10, k10, w10⟩ := hc 10 c10 rfl
    have z10 : 4 = u10 := Option.some.inj k10
    subst z10
    obtain ⟨b1, rfl⟩ := cell_bool Tryz.underlying4 w10
    obtain ⟨u11, k11, w11⟩ := hc 11 c11 rfl
    have z11 : 4 = u11 := Option.some.inj k11
    subst z11
    obtain ⟨b2, rfl⟩ := cell_bool Tryz.underlying4 w11
    obtain ⟨u12, k12, w12⟩ := hc 12 c12 rfl
    have z12 : 4 = u12 := Option.some.inj k12
    subst z12
    obtain ⟨b3, rfl⟩ := cell_bool Tryz.underlying4 w12
    obtain ⟨u13, k13, w13⟩ := hc 13 c13 rfl
    have z13 : 4 = u13 := Option.some.inj k13
    subst z13
    obtain ⟨b4, rfl⟩ := cell_bool Tryz.underlying4 w13
    obtain ⟨u14, k14, w14⟩ := hc 14 c14 rfl
    have z14 : 4 = u14 := Option.some.inj k14
    subst z14
    obtain ⟨b5, rfl⟩ := cell_bool Tryz.underlying4 w14
    obtain ⟨u15, k15, w15⟩ := hc 15 c15 rfl
    have z15 : 4 = u15 := Option.some.inj k15
    subst z15
    obtain ⟨b6, rfl⟩ := cell_bool Tryz.underlying4 w15
    obtain ⟨u16, k16, w16⟩ := hc 16 c16 rfl
    have z16 : 26 = u16 := Option.some.inj k16
    subst z16
    obtain ⟨n9, rfl, v9u⟩ := cell_int Tryz.underlying26 w16
    refine ⟨fun i => match i with | 0 => n0 | 1 => n1 | 2 => n2 | 3 => n3 | 4 => n4 | 5 => n5 | 6 => n6 | 7 => n7 | 8 => n8 | 9 => n9 | 10 => d | _ => 0,
      fun i => match i with | 0 => b0 | 1 => b1 | 2 => b2 | 3 => b3 | 4 => b4 | 5 => b5 | 6 => b6 | _ => false, ⟨fun i hi => ?_, v9u⟩, rfl, rfl⟩
    match i, hi with
    | 0, _ => exact v0
    | 1, _ => exact v1
    | 2, _ => exact v2
    | 3, _ => exact v3
    | 4, _ => exact v4
    | 5, _ => exact v5
    | 6, _ => exact v6
    | 7, _ => exact v7
    | 8, _ => exact v8
theorem own : ownKnob Tryz.prog.godebug = none := by kernel_rfl
theorem patched_plain : Tryz.f3.params.toList.all (plainT Tryz.prog 10) = true := by kernel_rfl
theorem patched_contract (H : Type) (enc : TypeId × Value → H) (W : World) (base : Nat) (args : Array Value) (ds gs : List (DataW H)) (before : List MemPlace)
    (hval : ∀ (j : Nat) t v, Tryz.f3.params[j]? = some t → args[j]? = some v → Value.okWide Tryz.prog W .any base t v)
    (hW : DataW.Whole enc Tryz.prog Tryz.f3.params.toList Rows.emitPatchedSpec.vars false W args.toList ds gs before) :
    Calls Tryz.prog 3 args W fun e W' => ∃ v, e = .returned v ∧ Rows.emitPatchedSpec.post enc Tryz.prog Tryz.f3 false true false false W args v W' := by
  have hW' := hW
  obtain ⟨p, q, hA0, hV, rfl, hfz, hnd⟩ := hW
  have hA : DataW.TrodAll enc Tryz.prog W 0 (fun _ => true) true Tryz.f3.params.toList args.toList ds p := hA0
  rw [Tryz.params3] at hA hval
  obtain ⟨v0, vs0, d0, ds0, p0, q0, hargs, rfl, rfl, h0, r0⟩ := trodAll_cons hA
  obtain ⟨v1, vs1, d1, ds1, p1, q1, rfl, rfl, rfl, h1, r1⟩ := trodAll_cons r0
  obtain ⟨v2, vs2, d2, ds2, p2, q2, rfl, rfl, rfl, h2, r2⟩ := trodAll_cons r1
  obtain ⟨rfl, rfl, rfl⟩ := trodAll_nil r2
  obtain rfl : args = #[v0, v1, v2] := by cases args; simp_all
  obtain ⟨rfl, rfl⟩ := trodVars_none hV
  obtain ⟨d, rfl, hd⟩ := okWide_cell_int Tryz.underlying22 (hval 1 22 v1 rfl rfl)
  obtain ⟨r, rfl, hr⟩ := okWide_cell_int Tryz.underlying5 (hval 2 5 v2 rfl rfl)
  obtain ⟨n, b, hn, rfl, rfl⟩ := open_state (hval 0 28 v0 rfl rfl) d
  refine Calls.mono ((patched_ret n b r hn hd hr).2 W) fun e W' hh => ?_
  obtain ⟨rfl, hsz, hfr, hos, hout⟩ := hh
  exact ⟨_, rfl, post_plain 10 hW' rfl patched_plain (fun _ _ _ => trodAll_cons_mk (shut_bool Tryz.underlying4 _) trodAll_mk0) rfl rfl hfr hos hout (ok_one (by kernel_rfl) rfl (okWide_bool_mk Tryz.underlying4 _))⟩
theorem patched_lifted (os : Os) (started : os.Started) (H : Type) (enc : TypeId × Value → H) :
    ReturnsInHanded {} Tryz.checked os 3 .any (Rows.emitPatchedSpec.pre6 enc Tryz.prog Tryz.f3 Rows.emitPatchedRow.domain false) (Rows.emitPatchedSpec.post enc Tryz.prog Tryz.f3 false true false false) := by
  refine returnsInHanded_of_change (C := Tryz.checked) own started (by kernel_rfl) Tryz.func3
    (ChangeSpec.witness6 (enc := enc) (C := Tryz.checked) false ⟨#[], #[.agg #[.int .u32 0, .int .u32 0, .int .u32 0, .int .u32 0, .int .u32 0, .int .u32 0, .int .u32 0, .int .u32 0, .int .u32 0, .bool false, .bool false, .bool false, .bool false, .bool false, .bool false, .bool false, .int .u64 0], .int .u32 0, .int .u8 0], []⟩ 8 (by kernel_rfl) (by kernel_rfl) (by kernel_rfl) (by kernel_rfl)) ?_
  intro W base args ds gs before hval hW _ _
  exact patched_contract H enc W base args ds gs before hval hW
/-- EmitPatched: the given statement. -/
theorem patched_holds : Rows.EmitPatchedSaid :=
  OpenClaim.holds_of_wide 3 Tryz.f3 rfl rfl rfl rfl rfl rfl rfl ⟨rfl, rfl, rfl, rfl, rfl⟩ rfl rfl rfl rfl rfl (by kernel_rfl) Tryz.func3 (by kernel_rfl)
    (of_decide_eq_true (by kernel_rfl)) (by unfold Func.isWrapper; first | (rw [if_pos (by decide +kernel)]; kernel_rfl) | (rw [if_neg (by decide +kernel)]; exact ⟨rfl, rfl⟩))
    (fun os started H enc _ => patched_lifted os started H enc)
end Go.Proofs.YtegnenchgegejaaGreat
