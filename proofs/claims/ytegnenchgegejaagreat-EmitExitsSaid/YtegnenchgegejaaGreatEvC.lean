import Derived.Test.YtegnenchgegejaaGreatEvB
import Derived.Orders
import Derived.Laws.Sem
import Derived.WalkKit
import Derived.ProofKit
import Derived.OpenShut

set_option linter.unusedSectionVars false
set_option linter.unusedSimpArgs false
set_option linter.unusedVariables false
/- Regions in the text's order. -/
set_option linter.unusedSimpArgs false
set_option linter.unusedVariables false
namespace Go.Ev
variable [Rho]

noncomputable def dstsOf (ops : Array Oper) (j : Nat) : Option Nat := match nth ops.toList j with | some x => x.dst | none => none
theorem dstsOf_eq (ops : Array Oper) (j : Nat) : dstsOf ops j = (ops[j]?).bind (·.dst) := by
  unfold dstsOf
  rw [nth_eq, Array.getElem?_toList]
  cases ops[j]? <;> rfl
theorem decide_ok {o o' : Orc} {s t t' : Bool} (h : o.decide s t = some (t', o')) : o.Le o' ∧ (Owed o' → t = t') := by
  unfold Orc.decide at h
  split at h
  · cases h; exact ⟨Orc.Le.refl _, fun _ => rfl⟩
  · unfold Orc.branch at h
    split at h <;> cases h
    exact ⟨Orc.le_cons o _ _, fun ho => ho _ List.mem_cons_self⟩
theorem guardA_ok {ops : Array Oper} {tm : T AVal} {o o' : Orc} {x : Oper} {g : Nat × Bool} {want : Bool} (hg : x.guard = some g) (h : guardA (dstsOf ops) tm o g = some (want, o')) :
    o.Le o' ∧ (Owed o' → ∀ {σ : Sg} {n nx : Nat} {a : Array Value}, TR σ n nx tm a → Region.wanted x (yielded ops a) = want) := by
  obtain ⟨j, gb⟩ := g
  unfold guardA at h
  split at h <;> try cases h
  rename_i d hd
  rw [dstsOf_eq] at hd
  split at h <;> try cases h
  · rename_i s t ht
    split at h <;> cases h
    rename_i t2 hdec
    obtain ⟨h1, h2⟩ := decide_ok hdec
    refine ⟨h1, fun ho σ n nx a hT => ?_⟩
    have hv := hT.rel d _ ht
    have hlt : d < a.size := by
      rcases Nat.lt_or_ge d a.size with h' | h'
      · exact h'
      · rw [Array.getD_eq_getD_getElem?, Array.getElem?_eq_none h'] at hv; cases hv
    have hv' : a[d]? = some (.bool t) := by
      rw [Array.getD_eq_getD_getElem?, Array.getElem?_eq_getElem hlt] at hv
      rw [Array.getElem?_eq_getElem hlt]; exact congrArg some hv
    have : t = t2 := h2 ho
    subst this
    simp only [Region.wanted, hg, yielded, hd, Option.bind_some, hv']
    rfl
  · rename_i ht
    refine ⟨Orc.Le.refl _, fun ho σ n nx a hT => ?_⟩
    have hv := hT.rel d _ ht
    rw [Array.getD_eq_getD_getElem?] at hv
    simp only [Region.wanted, hg, yielded, hd, Option.bind_some]
    cases hx : a[d]? with
    | none => rfl
    | some y =>
      rw [hx] at hv
      have : y = .tuple #[] := by simpa [conc, concL] using hv
      subst this; rfl
  · rename_i e ht
    split at h <;> cases h
    rename_i t2 hdec
    unfold Orc.branch at hdec
    split at hdec <;> cases hdec
    refine ⟨Orc.le_cons o _ _, fun ho σ n nx a hT => ?_⟩
    have hv := hT.rel d _ ht
    have hlt : d < a.size := by
      rcases Nat.lt_or_ge d a.size with h' | h'
      · exact h'
      · rw [Array.getD_eq_getD_getElem?, Array.getElem?_eq_none h'] at hv; cases hv
    have hv' : a[d]? = some (.bool (nz e.val)) := by
      rw [Array.getD_eq_getD_getElem?, Array.getElem?_eq_getElem hlt] at hv
      rw [Array.getElem?_eq_getElem hlt]; exact congrArg some hv
    have : nz e.val = t2 := ho _ List.mem_cons_self
    rw [this] at hv'
    simp only [Region.wanted, hg, yielded, hd, Option.bind_some, hv']
    rfl

theorem put_other {a : Act} {dst : Option Nat} {v : Value} {i : Nat} (h : dst ≠ some i) : (a.put dst v).tmps[i]? = a.tmps[i]? := by
  cases dst with
  | none => rfl
  | some d =>
    have : d ≠ i := fun e => h (by rw [e])
    simp [Act.put, this]

/-- Where a region's operations lead to. -/
def Led (P : Program) (ops : Array Oper) (n : Nat) (t0 : T AVal) (b : Frame) (cs0 : List Frame) (k : List Item) (σ : Sg) (A : AW) (w : World) (a : Act) (mach : Machine)
    (e : AExit) (tm' : T AVal) (ds' : List ADef) (m' : AMode) (A' : AW) : Prop :=
  ∃ σ' a' cs' w', To σ A w σ' A' w' ∧ (∀ i, (∀ x ∈ ops.toList, x.dst ≠ some i) → a'.tmps[i]? = a.tmps[i]?) ∧
    match e with
    | .normal => St σ' n tm' ds' m' A' b cs0 a' cs' w' ∧ Steps P mach (lone (b.at a' k) cs' w')
    | .pan c => tm' = t0 ∧ Sp σ' ds' m' A' b cs0 a' cs' w' ∧ PIn c A'.next ∧ ∃ todo, Steps P mach (lone { b.at a' todo with mode := .panicking (concP σ' c) } cs' w')
    | _ => False
theorem Led.more {P : Program} {ops : Array Oper} {n : Nat} {t0 : T AVal} {b : Frame} {cs0 : List Frame} {k : List Item} {σ σ1 : Sg} {A A1 : AW} {w w1 : World} {a a1 : Act} {mach mach1 : Machine}
    {e : AExit} {tm' : T AVal} {ds' : List ADef} {m' : AMode} {A' : AW} (hs : Steps P mach mach1) (hto : To σ A w σ1 A1 w1) (ha : ∀ i, (∀ x ∈ ops.toList, x.dst ≠ some i) → a1.tmps[i]? = a.tmps[i]?)
    (h : Led P ops n t0 b cs0 k σ1 A1 w1 a1 mach1 e tm' ds' m' A') : Led P ops n t0 b cs0 k σ A w a mach e tm' ds' m' A' := by
  obtain ⟨σ', a', cs', w', h1, h2, h3⟩ := h
  refine ⟨σ', a', cs', w', hto.trans h1, fun i hi => (h2 i hi).trans (ha i hi), ?_⟩
  cases e with
  | normal => exact ⟨h3.1, hs.trans h3.2⟩
  | pan c => obtain ⟨g1, g2, g3, todo, g4⟩ := h3; exact ⟨g1, g2, g3, todo, hs.trans g4⟩
  | ret => exact h3.elim
  | exit id => exact h3.elim

def idxs (ops : Array Oper) (j : Nat) : List Nat := List.range' j (ops.size - j)
theorem idxs_cons {ops : Array Oper} {j : Nat} {x : Oper} {l : List Oper} (h : ops.toList.drop j = x :: l) : ops[j]? = some x ∧ ops.toList.drop (j + 1) = l ∧ idxs ops j = j :: idxs ops (j + 1) := by
  have hlt : j < ops.size := by
    rcases Nat.lt_or_ge j ops.size with h' | h'
    · exact h'
    · rw [List.drop_eq_nil_of_le (by simpa using h')] at h; cases h
  have hlt' : j < ops.toList.length := by simpa using hlt
  rw [List.drop_eq_getElem_cons hlt'] at h
  injection h with h1 h2
  refine ⟨?_, h2, ?_⟩
  · rw [← Array.getElem?_toList, List.getElem?_eq_getElem hlt', h1]
  · unfold idxs
    rw [show ops.size - j = (ops.size - (j + 1)) + 1 by omega, List.range'_succ]

section
variable {E : Env} {call : FuncId → List AVal → AMode → AW → Orc → FR} {n : Nat} {ops : Array Oper} {t0 : T AVal}
theorem runOps_cons (dsts : Nat → Option Nat) (x : Oper) (l : List Oper) (tm : T AVal) (ds : List ADef) (m : AMode) (A : AW) (o : Orc) :
    runOps E call n dsts t0 (x :: l) tm ds m A o = eO x.guard (stepOp E call n (runOps E call n dsts t0 l) t0 tm ds m A o x) fun g => stepG E call n (runOps E call n dsts t0 l) t0 tm ds m A x (guardA dsts tm o g) := rfl

theorem effOp_le (hC : CallOk E.P call) {tm : T AVal} {A : AW} {o o1 : Orc} {op : Op} (h : (effOp E call tm A o op).orc o = some o1) : o.Le o1 := by
  have va : ∀ {r : Option (AVal × AW)}, (eVA o r).orc o = some o1 → o.Le o1 := by
    intro r h
    cases r with
    | none => cases h
    | some p => obtain ⟨v, A'⟩ := p; cases h; exact Orc.Le.refl _
  have ea : ∀ {r : Option AW}, (eA o r).orc o = some o1 → o.Le o1 := by
    intro r h
    cases r with
    | none => cases h
    | some A' => cases h; exact Orc.Le.refl _
  have al : ∀ {z : Option AVal}, (eAlloc A o z).orc o = some o1 → o.Le o1 := by
    intro z h
    cases z with
    | none => cases h
    | some v =>
      have h' : (eB (notRaw v) .fail (.val (.ptr A.next 0) (A.new (newCells (cellsOf v))) o) : OR).orc o = some o1 := h
      cases hr : notRaw v with
      | false => rw [hr, eB_false] at h'; cases h'
      | true => rw [hr, eB_true] at h'; cases h'; exact Orc.Le.refl _
  have ms : ∀ {t : TypeId} {m k x : Option AVal}, (eMapSet E A o t m k x).orc o = some o1 → o.Le o1 := by
    intro t m k x h
    unfold eMapSet at h
    split at h
    · exact ea h
    · cases h
  cases op with
  | alloc t => exact al h
  | box t y => exact al h
  | buildSlice t k ps =>
    have h' : (eBuildSlice E A o t k (opdParts tm ps.toList)).orc o = some o1 := h
    unfold eBuildSlice at h'
    split at h'
    · exact va h'
    · cases h'
  | insert t m k y => exact ms h
  | store t a y =>
    have h' : (eStore E A o t (opd tm a) (opd tm y)).orc o = some o1 := h
    unfold eStore at h'
    split at h'
    · exact ea h'
    · cases h'
  | makeMap t r =>
    have h' : (eMakeMap E A o t r).orc o = some o1 := h
    unfold eMakeMap at h'
    split at h' <;> cases h'
    exact Orc.Le.refl _
  | makeSlice t l c =>
    have h' : (eMakeSlice E A o t (opd tm l) (opd tm c)).orc o = some o1 := h
    unfold eMakeSlice at h'
    split at h'
    · exact va h'
    · cases h'
  | mapUpdate t m k y => exact ms h
  | call c =>
    have h' : (eCall E call tm A o c).orc o = some o1 := h
    unfold eCall at h'
    split at h'
    · unfold eCallV at h'
      split at h'
      · rename_i g fi ca l _ _
        have hc := hC g (appArgs fi l ca) .run A o
        cases hcall : call g (appArgs fi l ca) .run A o with
        | fail => rw [hcall] at h'; cases h'
        | ret v m' A' o2 => rw [hcall] at h' hc; cases h'; exact (hc _ rfl).1
        | pan ch m' A' o2 => rw [hcall] at h' hc; cases h'; exact (hc _ rfl).1
      · cases h'
    · unfold eBuiltin at h'
      split at h'
      · split at h'
        · exact va h'
        · cases h'
      · split at h'
        · exact va h'
        · cases h'
      · split at h'
        · exact ea h'
        · cases h'
      · cases h'; exact Orc.Le.refl _
      · cases h'
    · cases h'
  | defer c =>
    have h' : (eDeferC tm A o c).orc o = some o1 := h
    unfold eDeferC at h'
    split at h'
    · unfold eDefer at h'
      split at h' <;> cases h'
      exact Orc.Le.refl _
    · cases h'
  | panic y =>
    have h' : (ePanic A o (opd tm y)).orc o = some o1 := h
    unfold ePanic at h'
    split at h' <;> cases h'
    exact Orc.Le.refl _
  | _ => cases h

/-- What is told of the operations behind. -/
def Goes (E : Env) (n : Nat) (ops : Array Oper) (t0 : T AVal) (j : Nat) (K : Cont) : Prop :=
  ∀ ⦃tm ds m A o e tm' ds' m' A' o'⦄, K tm ds m A o = .out e tm' ds' m' A' o' → o.Le o' ∧ (Owed o' → ∀ {σ a b cs0 cs w k}, St σ n tm ds m A b cs0 a cs w →
    Led E.P ops n t0 b cs0 k σ A w a (lone (b.at a (.inRegion ops (idxs ops j) :: k)) cs w) e tm' ds' m' A')

theorem goOn_goes {j : Nat} {K : Cont} (hK : Goes E n ops t0 (j + 1) K) {tm : T AVal} {ds : List ADef} {m : AMode} {A : AW} {o : Orc} {dst : Option Nat} {v : AVal} {e : AExit} {tm' : T AVal} {ds' : List ADef} {m' : AMode} {A' : AW} {o' : Orc}
    (h : goOn n K tm ds m A o dst v = .out e tm' ds' m' A' o') (hin : ∃ x ∈ ops.toList, x.dst = dst) :
    o.Le o' ∧ (Owed o' → ∀ {σ a b cs0 cs w k}, St σ n tm ds m A b cs0 a cs w → topOf v ≤ A.next →
      Led E.P ops n t0 b cs0 k σ A w a (lone (b.at (a.put dst (conc σ v)) (.inRegion ops (idxs ops (j + 1)) :: k)) cs w) e tm' ds' m' A') := by
  obtain ⟨o1, v1, h1, h2, h3, h4, h5⟩ := goOn_ok h
  obtain ⟨k1, k2⟩ := hK h1
  refine ⟨h2.trans k1, fun ho σ a b cs0 cs w k hst hv => ?_⟩
  have hc := h3 (ho.less k1) σ
  have hst' := hst.put h5 (v := v1) (by omega)
  rw [hc] at hst'
  have := k2 ho (k := k) hst'
  refine Led.more (Steps.refl _ _) (To.refl hst.r) (fun i hi => ?_) this
  obtain ⟨x, hx, hxd⟩ := hin
  exact put_other (by rw [← hxd]; exact hi x hx)
theorem stepOp_goes (hE : E.Ok) (hC : CallOk E.P call) {j : Nat} {K : Cont} (hK : Goes E n ops t0 (j + 1) K) {x : Oper} (hx : ops[j]? = some x) (hidx : idxs ops j = j :: idxs ops (j + 1))
    {tm : T AVal} {ds : List ADef} {m : AMode} {A : AW} {o : Orc} {e : AExit} {tm' : T AVal} {ds' : List ADef} {m' : AMode} {A' : AW} {o' : Orc} (h : stepOp E call n K t0 tm ds m A o x = .out e tm' ds' m' A' o') :
    o.Le o' ∧ (Owed o' → ∀ {σ a b cs0 cs w k}, St σ n tm ds m A b cs0 a cs w → Region.wanted x (yielded ops a.tmps) = true →
      Led E.P ops n t0 b cs0 k σ A w a (lone (b.at a (.inRegion ops (idxs ops j) :: k)) cs w) e tm' ds' m' A') := by
  have hmem : ∃ y ∈ ops.toList, y.dst = x.dst := ⟨x, by rw [← Array.getElem?_toList] at hx; exact List.mem_of_getElem? hx, rfl⟩
  -- behind a value
  have val : ∀ {v : AVal} {A1 : AW} {o1 : Orc}, goOn n K tm ds m A1 o1 x.dst v = .out e tm' ds' m' A' o' →
      o1.Le o' ∧ (Owed o' → ∀ {σ a b cs0 cs w k}, St σ n tm ds m A b cs0 a cs w → Region.wanted x (yielded ops a.tmps) = true → ValOk E.P σ A w (execOp a.eval x) v A1 →
        Led E.P ops n t0 b cs0 k σ A w a (lone (b.at a (.inRegion ops (idxs ops j) :: k)) cs w) e tm' ds' m' A') := by
    intro v A1 o1 hgo
    obtain ⟨k1, k2⟩ := goOn_goes hK hgo hmem
    refine ⟨k1, fun ho σ a b cs0 cs w k hst hw hval => ?_⟩
    rw [hidx]
    obtain ⟨σ', w', g1, g2, g3⟩ := val_steps (b := b) (cs := cs) (rest := idxs ops (j + 1)) (k := k) hx hw hval
    exact Led.more g3 g1 (fun _ _ => rfl) (k2 ho (hst.move g1) g2)
  unfold stepOp at h
  cases heff : isEff x.op with
  | false =>
    rw [heff, eB_false] at h
    unfold stepPure at h
    cases hp : pureOp E A tm x.op with
    | no => rw [hp] at h; cases h
    | v v =>
      rw [hp] at h
      obtain ⟨k1, k2⟩ := val h
      refine ⟨k1, fun ho σ a b cs0 cs w k hst hw => k2 ho hst hw ?_⟩
      have := pureOp_ok (w := w) (ac := a) hE hst.r hst.t x
      rw [hp] at this
      exact .inl ⟨σ, w, _, this.1, .inl rfl, To.refl hst.r, this.2⟩
    | vo v owed =>
      rw [hp] at h
      obtain ⟨k1, k2⟩ := val h
      refine ⟨fun p hp => k1 p (List.mem_append.2 (.inr hp)), fun ho σ a b cs0 cs w k hst hw => k2 ho hst hw ?_⟩
      have := pureOp_ok (w := w) (ac := a) hE hst.r hst.t x
      rw [hp] at this
      have := this (fun p hp => ho p (k1 p (List.mem_append.2 (.inl hp))))
      exact .inl ⟨σ, w, _, this.1, .inl rfl, To.refl hst.r, this.2⟩
  | true =>
    rw [heff, eB_true] at h
    unfold stepEff at h
    have hok : ∀ {σ : Sg} {a : Act} {b cs0 cs w}, St σ n tm ds m A b cs0 a cs w → EffOk E.P σ A w (execOp a.eval x) o (effOp E call tm A o x.op) :=
      fun {σ a b cs0 cs w} hst => effOp_ok hE hst.r hst.t hC o x
    -- the oracle of an operation's result grows without any state
    have hle : ∀ o1, (effOp E call tm A o x.op).orc o = some o1 → o.Le o1 := fun o1 => effOp_le hC
    cases hp : effOp E call tm A o x.op with
    | fail => rw [hp] at h; cases h
    | val v A1 o1 =>
      rw [hp] at h hle hok
      have hl := hle o1 rfl
      have h : forceW A1 (fun A' => goOn n K tm ds m A' o1 x.dst v) = .out e tm' ds' m' A' o' := h
      rw [forceW_eq] at h
      obtain ⟨k1, k2⟩ := val h
      refine ⟨hl.trans k1, fun ho σ a b cs0 cs w k hst hw => k2 ho hst hw ((hok hst o1 rfl).2 (ho.less k1))⟩
    | pan c A1 o1 =>
      rw [hp] at h hle hok
      have hl := hle o1 rfl
      cases h
      refine ⟨hl, fun ho σ a b cs0 cs w k hst hw => ?_⟩
      have hpan := (hok hst _ rfl).2 ho
      rw [hidx]
      obtain ⟨σ', w', g1, g2, g3⟩ := pan_steps (b := b) (cs := cs) (rest := idxs ops (j + 1)) (k := k) hx hw hst.r hpan
      exact ⟨σ', a, cs, w', g1, fun _ _ => rfl, rfl, hst.sp.move g1, g2, _, g3⟩
    | dfr d A1 o1 =>
      rw [hp] at h hle hok
      have hl := hle o1 rfl
      obtain ⟨k1, k2⟩ := goOn_goes hK h hmem
      refine ⟨hl.trans k1, fun ho σ a b cs0 cs w k hst hw => ?_⟩
      obtain ⟨hA, dd, g1, g2⟩ := (hok hst _ rfl).2 (ho.less k1)
      subst hA
      rw [hidx]
      have hs := dfr_steps (b := b) (cs := cs) (rest := idxs ops (j + 1)) (k := k) hx hw g1
      have hst' : St σ n tm (d :: ds) m A1 b cs0 { a with defers := dd :: a.defers } cs w := ⟨hst.r, hst.t, ⟨g2, hst.d⟩, hst.i, hst.h⟩
      have := k2 ho (k := k) hst' (Nat.zero_le _)
      rw [conc_undef] at this
      exact Led.more hs (To.refl hst.r) (fun _ _ => rfl) this
    | rcv =>
      rw [hp] at h hle hok
      obtain ⟨k1, k2⟩ := goOn_goes hK h hmem
      refine ⟨k1, fun ho σ a b cs0 cs w k hst hw => ?_⟩
      have hr := (hok hst _ rfl).2 (ho.less k1)
      rw [hidx]
      obtain ⟨cs', g1, g2⟩ := rcv_steps (m := m) (b := b) (cs := cs) (rest := idxs ops (j + 1)) (k := k) hx hw hr hst.h
      have hin : (recoverA m).2.In A.next ∧ topOf (recoverA m).1 ≤ A.next := by
        have := hst.i
        unfold recoverA
        split
        · refine ⟨fun p hp => ?_, this ⟨_, false⟩ List.mem_cons_self⟩
          rcases List.mem_cons.1 hp with rfl | hp
          · exact this ⟨_, false⟩ List.mem_cons_self
          · exact this p (List.mem_cons_of_mem _ hp)
        · exact ⟨this, Nat.zero_le _⟩
      have hst' : St σ n tm ds (recoverA m).2 A b cs0 a cs' w := ⟨hst.r, hst.t, hst.d, hin.1, g1⟩
      exact Led.more g2 (To.refl hst.r) (fun _ _ => rfl) (k2 ho (k := k) hst' hin.2)
theorem runOps_goes (hE : E.Ok) (hC : CallOk E.P call) : ∀ (l : List Oper) (j : Nat), ops.toList.drop j = l → Goes E n ops t0 j (runOps E call n (dstsOf ops) t0 l)
  | [], j, hl => by
    intro tm ds m A o e tm' ds' m' A' o' h
    cases h
    refine ⟨Orc.Le.refl _, fun ho σ a b cs0 cs w k hst => ⟨σ, a, cs, w, To.refl hst.r, fun _ _ => rfl, hst, ?_⟩⟩
    have : ops.size - j = 0 := by
      have := List.drop_eq_nil_iff.1 hl
      simp at this; omega
    have h0 : idxs ops j = [] := by unfold idxs; rw [this]; rfl
    rw [h0]
    exact .one step_region_end
  | x :: l, j, hl => by
    intro tm ds m A o e tm' ds' m' A' o' h
    obtain ⟨hx, hl', hidx⟩ := idxs_cons hl
    have hK := runOps_goes hE hC l (j + 1) hl'
    have hmem : ∃ y ∈ ops.toList, y.dst = x.dst := ⟨x, by rw [← Array.getElem?_toList] at hx; exact List.mem_of_getElem? hx, rfl⟩
    rw [runOps_cons] at h
    cases hg : x.guard with
    | none =>
      rw [hg, eO_none] at h
      obtain ⟨k1, k2⟩ := stepOp_goes hE hC hK hx hidx h
      exact ⟨k1, fun ho σ a b cs0 cs w k hst => k2 ho hst (by simp [Region.wanted, hg])⟩
    | some g =>
      rw [hg, eO_some] at h
      cases hgd : guardA (dstsOf ops) tm o g with
      | none => rw [hgd] at h; cases h
      | some p =>
        obtain ⟨want, o1⟩ := p
        obtain ⟨w1, w2⟩ := guardA_ok hg hgd
        rw [hgd] at h
        cases want with
        | true =>
          obtain ⟨k1, k2⟩ := stepOp_goes hE hC hK hx hidx h
          exact ⟨w1.trans k1, fun ho σ a b cs0 cs w k hst => k2 ho hst (w2 (ho.less k1) hst.t)⟩
        | false =>
          obtain ⟨k1, k2⟩ := goOn_goes hK h hmem
          refine ⟨w1.trans k1, fun ho σ a b cs0 cs w k hst => ?_⟩
          have hs := skip_steps (P := E.P) (b := b) (a := a) (cs := cs) (w := w) (rest := idxs ops (j + 1)) (k := k) hx (w2 (ho.less k1) hst.t)
          rw [hidx]
          have := k2 ho (k := k) hst (Nat.zero_le _)
          rw [conc_undef] at this
          exact Led.more hs (To.refl hst.r) (fun _ _ => rfl) this
end
end Go.Ev

/- Drawn regions: what an operation looks at. -/
set_option linter.unusedSimpArgs false
set_option linter.unusedVariables false
namespace Go.Ev
variable [Rho]
section
variable {E : Env} {A : AW} {tm tm' : T AVal} {call : FuncId → List AVal → AMode → AW → Orc → FR}
theorem opds_congr {xs : List Operand} (h : ∀ x ∈ xs, opd tm x = opd tm' x) : opds tm xs = opds tm' xs := by
  induction xs with
  | nil => rfl
  | cons x xs ih => rw [opds_cons, opds_cons, h x List.mem_cons_self, ih fun y hy => h y (List.mem_cons_of_mem _ hy)]
theorem opdParts_congr {xs : List (Nat × Operand)} (h : ∀ x ∈ xs, opd tm x.2 = opd tm' x.2) : opdParts tm xs = opdParts tm' xs := by
  induction xs with
  | nil => rfl
  | cons x xs ih => rw [opdParts_cons, opdParts_cons, h x List.mem_cons_self, ih fun y hy => h y (List.mem_cons_of_mem _ hy)]
theorem opdO_congr {x : Option Operand} (h : ∀ y ∈ x.toList, opd tm y = opd tm' y) : opdO tm x = opdO tm' x := by
  cases x with
  | none => rfl
  | some x => simp only [opdO, h x (by simp)]
theorem opd_of (op : Op) (h : ∀ t ∈ tmpsOf op, tm.get t = tm'.get t) : ∀ x ∈ op.operands, opd tm x = opd tm' x := by
  intro x hx
  cases x with
  | tmp t => exact h t (by unfold tmpsOf; exact List.mem_filterMap.2 ⟨.tmp t, by simpa using hx, rfl⟩)
  | const c => rfl
  | global g => rfl
  | func f => rfl
theorem pureOp_congr (op : Op) (ht : ∀ t ∈ tmpsOf op, tm.get t = tm'.get t) : pureOp E A tm op = pureOp E A tm' op := by
  have h := opd_of op ht
  cases op <;> simp only [Op.operands] at h <;> first | rfl | skip
  case move x => show pV (opd tm x) = pV (opd tm' x); rw [h x (by simp)]
  case assign x => show pV (opd tm x) = pV (opd tm' x); rw [h x (by simp)]
  case pick c a b =>
    show pPick tm (opd tm c) a b = pPick tm' (opd tm' c) a b
    rw [h c (by simp)]
    unfold pPick
    rw [h a (by simp), h b (by simp)]
  case build t ps =>
    show pBuild E t (opdParts tm ps.toList) = pBuild E t (opdParts tm' ps.toList)
    rw [opdParts_congr fun x hx => h x.2 (by simp; exact ⟨x.1, by simpa using hx⟩)]
  case load t a => show pLoad E A t (opd tm a) = pLoad E A t (opd tm' a); rw [h a (by simp)]
  case nilCheck x => show pNil (opd tm x) = pNil (opd tm' x); rw [h x (by simp)]
  case binOp op t x y ty => show pBin E op t x y (opd tm x) (opd tm y) = pBin E op t x y (opd tm' x) (opd tm' y); rw [h x (by simp), h y (by simp)]
  case unOp op t x => show pUn op (opd tm x) = pUn op (opd tm' x); rw [h x (by simp)]
  case convert s d x => show pConv E A (E.und s) (E.und d) (opd tm x) = pConv E A (E.und s) (E.und d) (opd tm' x); rw [h x (by simp)]
  case makeInterface t x => show pIface t (E.und t) (opd tm x) = pIface t (E.und t) (opd tm' x); rw [h x (by simp)]
  case makeFunc fn fi ca =>
    show pFunc fn (opds tm fi.toList) (opds tm ca.toList) = pFunc fn (opds tm' fi.toList) (opds tm' ca.toList)
    rw [opds_congr fun x hx => h x (by simp; exact .inl (by simpa using hx)), opds_congr fun x hx => h x (by simp; exact .inr (by simpa using hx))]
  case slice t x lo hi mx =>
    cases mx with
    | some m => rfl
    | none =>
      show pSlice E A t (opd tm x) (opdO tm lo) (opdO tm hi) = pSlice E A t (opd tm' x) (opdO tm' lo) (opdO tm' hi)
      rw [h x (by simp), opdO_congr fun y hy => h y (by simp_all), opdO_congr fun y hy => h y (by simp_all)]
  case fieldAddr s x f => show pFieldAddr (fieldOff E s f) (opd tm x) = pFieldAddr (fieldOff E s f) (opd tm' x); rw [h x (by simp)]
  case field s x f => show pField E s f (opd tm x) = pField E s f (opd tm' x); rw [h x (by simp)]
  case indexAddr t x i => show pIndexAddr E (E.und t) (opd tm x) (opd tm i) = pIndexAddr E (E.und t) (opd tm' x) (opd tm' i); rw [h x (by simp), h i (by simp)]
  case index t x i => show pIndex E (E.und t) (opd tm x) (opd tm i) = pIndex E (E.und t) (opd tm' x) (opd tm' i); rw [h x (by simp), h i (by simp)]
  case lookup t x i ok => show pLookup E A t (opd tm x) (opd tm i) ok = pLookup E A t (opd tm' x) (opd tm' i) ok; rw [h x (by simp), h i (by simp)]
  case typeAssert x t a ok => show pAssert E a ok (opd tm x) = pAssert E a ok (opd tm' x); rw [h x (by simp)]
  case extract x i => show pExtract (opd tm x) i = pExtract (opd tm' x) i; rw [h x (by simp)]
  case call c =>
    show pCall E A tm c = pCall E A tm' c
    have hargs : opds tm c.args.toList = opds tm' c.args.toList := opds_congr fun x hx => h x (by
      have : x ∈ c.args := by simpa using hx
      simp [Call.operands, this])
    unfold pCall
    rw [hargs]
theorem effOp_congr (o : Orc) (op : Op) (ht : ∀ t ∈ tmpsOf op, tm.get t = tm'.get t) : effOp E call tm A o op = effOp E call tm' A o op := by
  have h := opd_of op ht
  cases op <;> simp only [Op.operands] at h <;> first | rfl | skip
  case box t x => show eAlloc A o (opd tm x) = eAlloc A o (opd tm' x); rw [h x (by simp)]
  case buildSlice t k ps =>
    show eBuildSlice E A o t k (opdParts tm ps.toList) = eBuildSlice E A o t k (opdParts tm' ps.toList)
    rw [opdParts_congr fun x hx => h x.2 (by simp; exact ⟨x.1, by simpa using hx⟩)]
  case insert t m k x => show eMapSet E A o t (opd tm m) (opd tm k) (opd tm x) = eMapSet E A o t (opd tm' m) (opd tm' k) (opd tm' x); rw [h m (by simp), h k (by simp), h x (by simp)]
  case mapUpdate t m k x => show eMapSet E A o t (opd tm m) (opd tm k) (opd tm x) = eMapSet E A o t (opd tm' m) (opd tm' k) (opd tm' x); rw [h m (by simp), h k (by simp), h x (by simp)]
  case store t a x => show eStore E A o t (opd tm a) (opd tm x) = eStore E A o t (opd tm' a) (opd tm' x); rw [h a (by simp), h x (by simp)]
  case makeSlice t l c => show eMakeSlice E A o t (opd tm l) (opd tm c) = eMakeSlice E A o t (opd tm' l) (opd tm' c); rw [h l (by simp), h c (by simp)]
  case panic x => show ePanic A o (opd tm x) = ePanic A o (opd tm' x); rw [h x (by simp)]
  case call c =>
    show eCall E call tm A o c = eCall E call tm' A o c
    have hargs : opds tm c.args.toList = opds tm' c.args.toList := opds_congr fun x hx => h x (by
      have : x ∈ c.args := by simpa using hx
      simp [Call.operands, this])
    unfold eCall
    rw [hargs]
    split
    · rename_i f hf; rw [h f (by simp [Call.operands, hf])]
    · rfl
    · rfl
  case defer c =>
    show eDeferC tm A o c = eDeferC tm' A o c
    have hargs : opds tm c.args.toList = opds tm' c.args.toList := opds_congr fun x hx => h x (by
      have : x ∈ c.args := by simpa using hx
      simp [Call.operands, this])
    unfold eDeferC
    rw [hargs]
    split
    · rename_i f hf; rw [h f (by simp [Call.operands, hf])]
    · rfl
/-- What does not read is the same in every world. -/
theorem pureOp_world (A A' : AW) (op : Op) (h : isRead op = false) : pureOp E A tm op = pureOp E A' tm op := by
  cases op <;> first | rfl | cases h
end
end Go.Ev

/- Drawn regions: what stands ahead. -/
set_option linter.unusedSimpArgs false
set_option linter.unusedVariables false
namespace Go.Ev
variable [Rho]

def edgeStep (look : Nat → Nat) (s : Nat) (e : Edge) : Nat := if Region.binds .any e then s ||| 2 ^ e.on ||| look e.on else s
def markOf (look : Nat → Nat) (o : Oper) : Nat := o.after.toList.foldl (edgeStep look) 0
theorem edge_bit (look : Nat → Nat) (i : Nat) : ∀ (l : List Edge) (s : Nat), (l.foldl (edgeStep look) s).testBit i = true → s.testBit i = true ∨ ∃ e ∈ l, Region.binds .any e = true ∧ (e.on = i ∨ (look e.on).testBit i = true)
  | [], s, h => .inl h
  | e :: l, s, h => by
    rw [List.foldl_cons] at h
    rcases edge_bit look i l _ h with h | ⟨e', he', h'⟩
    · unfold edgeStep at h
      split at h
      · rename_i hb
        rw [Nat.testBit_or, Nat.testBit_or, Bool.or_eq_true, Bool.or_eq_true] at h
        rcases h with (h | h) | h
        · exact .inl h
        · rw [Nat.testBit_two_pow] at h
          exact .inr ⟨e, List.mem_cons_self, hb, .inl (by simpa using h)⟩
        · exact .inr ⟨e, List.mem_cons_self, hb, .inr h⟩
      · exact .inl h
    · exact .inr ⟨e', List.mem_cons_of_mem _ he', h'⟩
def marksOf (l : List Oper) (acc : Array Nat) : Array Nat := l.foldl (fun acc o => acc.push (markOf (fun i => acc.getD i 0) o)) acc
theorem before_eq (ops : Array Oper) : Region.before ops = marksOf ops.toList #[] := by
  unfold Region.before marksOf
  rw [← Array.foldl_toList]
  congr 1
  funext acc o
  unfold markOf
  rw [← Array.foldl_toList]
  rfl
theorem marksOf_old : ∀ (l : List Oper) (acc : Array Nat) (k : Nat), k < acc.size → (marksOf l acc)[k]? = acc[k]?
  | [], _, _, _ => rfl
  | o :: l, acc, k, hk => by
    have := marksOf_old l (acc.push (markOf (fun i => acc.getD i 0) o)) k (by simp; omega)
    rw [show marksOf (o :: l) acc = marksOf l (acc.push (markOf (fun i => acc.getD i 0) o)) from rfl, this]
    rw [Array.getElem?_push_lt hk, Array.getElem?_eq_getElem hk]
theorem marksOf_bit : ∀ (l : List Oper) (acc : Array Nat) (j : Nat) (x : Oper) (i : Nat), l[j]? = some x → ((marksOf l acc).getD (acc.size + j) 0).testBit i = true →
    ∃ e ∈ x.after.toList, Region.binds .any e = true ∧ (e.on = i ∨ (e.on < acc.size + j ∧ ((marksOf l acc).getD e.on 0).testBit i = true))
  | [], acc, j, x, i, h, _ => by simp at h
  | o :: l, acc, 0, x, i, h, hb => by
    simp at h; subst h
    have e1 : marksOf (o :: l) acc = marksOf l (acc.push (markOf (fun i => acc.getD i 0) o)) := rfl
    have hold := marksOf_old l (acc.push (markOf (fun i => acc.getD i 0) o)) acc.size (by simp)
    rw [Nat.add_zero, Array.getD_eq_getD_getElem?, e1, hold] at hb
    simp only [Array.getElem?_push_size, Option.getD_some] at hb
    rcases edge_bit _ i _ _ hb with h0 | ⟨e, he, hbd, h'⟩
    · simp at h0
    · refine ⟨e, he, hbd, h'.imp id fun h' => ?_⟩
      have hlt : e.on < acc.size := by
        rcases Nat.lt_or_ge e.on acc.size with h'' | h''
        · exact h''
        · rw [Array.getD_eq_getD_getElem?, Array.getElem?_eq_none h''] at h'; simp at h'
      refine ⟨hlt, ?_⟩
      rw [Array.getD_eq_getD_getElem?, e1, marksOf_old _ _ _ (by simp; omega), Array.getElem?_push_lt hlt, ← Array.getElem?_eq_getElem hlt, ← Array.getD_eq_getD_getElem?]
      exact h'
  | o :: l, acc, j + 1, x, i, h, hb => by
    have e1 : marksOf (o :: l) acc = marksOf l (acc.push (markOf (fun i => acc.getD i 0) o)) := rfl
    have hsz : (acc.push (markOf (fun i => acc.getD i 0) o)).size = acc.size + 1 := by simp
    have := marksOf_bit l (acc.push (markOf (fun i => acc.getD i 0) o)) j x i (by simpa using h) (by rw [hsz, ← e1, show acc.size + 1 + j = acc.size + (j + 1) by omega]; exact hb)
    rw [hsz, show acc.size + 1 + j = acc.size + (j + 1) by omega, ← e1] at this
    exact this
/-- Is the operation i ahead of j by the edges? -/
def Ahead (ops : Array Oper) (i j : Nat) : Prop := ((Region.before ops).getD j 0).testBit i = true
theorem ahead_edge {ops : Array Oper} {i j : Nat} {x : Oper} (hx : ops[j]? = some x) (h : Ahead ops i j) : ∃ e ∈ x.after.toList, Region.binds .any e = true ∧ (e.on = i ∨ (e.on < j ∧ Ahead ops i e.on)) := by
  unfold Ahead at h ⊢
  rw [before_eq] at h ⊢
  have := marksOf_bit ops.toList #[] j x i (by simpa using hx) (by simpa using h)
  simpa using this

/-- What is listed is closed under the edges. -/
def Closed (ops : Array Oper) (D : Nat → Prop) : Prop := ∀ j x, ops[j]? = some x → D j → ∀ e ∈ x.after.toList, Region.binds .any e = true → D e.on
theorem closed_ahead {ops : Array Oper} {D : Nat → Prop} (hD : Closed ops D) : ∀ (j : Nat) (x : Oper) (i : Nat), ops[j]? = some x → (∀ e ∈ x.after.toList, Region.binds .any e = true → D e.on) → Ahead ops i j → D i := by
  intro j
  induction j using Nat.strongRecOn with
  | _ j ih =>
    intro x i hx hp h
    obtain ⟨e, he, hb, h'⟩ := ahead_edge hx h
    rcases h' with rfl | ⟨hlt, h'⟩
    · exact hp e he hb
    · have hjs : j < ops.size := by
        rcases Nat.lt_or_ge j ops.size with h'' | h''
        · exact h''
        · rw [Array.getElem?_eq_none h''] at hx; cases hx
      have hy : ops[e.on]? = some ops[e.on] := Array.getElem?_eq_getElem (by omega)
      exact ih e.on hlt _ i hy (hD e.on _ hy (hp e he hb)) h'

/-! What 'drawOk' says. -/
theorem zip_all {ops : Array Oper} {p : Oper × Nat → Bool} (h : ops.toList.zipIdx.all p = true) {i : Nat} {x : Oper} (hx : ops[i]? = some x) : p (x, i) = true :=
  List.all_eq_true.1 h _ (List.mem_zipIdx_iff_getElem?.2 (by simpa using hx))
structure DrawOk (ops : Array Oper) : Prop where
  once : ∀ {i j : Nat} {x y : Oper} {d : Nat}, ops[j]? = some x → ops[i]? = some y → y.dst = some d → x.dst = some d → i = j
  reads : ∀ {i j : Nat} {x y : Oper} {d : Nat}, ops[j]? = some x → ops[i]? = some y → y.dst = some d → d ∈ tmpsOf x.op → (i < j ∧ Ahead ops i j ∧ (isEff x.op = true ∨ isAlloc y.op = false)) ∨ (isRead x.op = false ∧ j ≤ i ∧ (i = j ∨ Ahead ops j i))
  chain : ∀ {i j : Nat} {x y : Oper}, ops[j]? = some x → ops[i]? = some y → isEff x.op = true → isEff y.op = true → i < j → isAlloc x.op = true ∨ Ahead ops i j
  dfr : ∀ {j : Nat} {x : Oper} {c : Call}, ops[j]? = some x → x.op ≠ .defer c
  rcv : ∀ {j : Nat} {x : Oper} {as : Array Operand} {ts : Array TypeId}, ops[j]? = some x → x.op ≠ .call ⟨.builtin .recover, as, ts⟩
  guard : ∀ {j : Nat} {x : Oper} {i : Nat} {g : Bool}, ops[j]? = some x → x.guard = some (i, g) → i < j ∧ Ahead ops i j ∧ isAlloc x.op = false ∧ ∃ y, ops[i]? = some y ∧ isAlloc y.op = false
  back : ∀ {j : Nat} {x : Oper} {e : Edge}, ops[j]? = some x → e ∈ x.after.toList → Region.binds .any e = true → e.on < j
theorem drawOk_ok {ops : Array Oper} (h : drawOk ops = true) : DrawOk ops := by
  unfold drawOk at h
  have h1 := fun {j x} (hx : ops[j]? = some x) => zip_all h hx
  simp only [Bool.and_eq_true] at h1
  refine ⟨?_, ?_, ?_, ?_, ?_, ?_, ?_⟩
  · intro i j x y d hx hy hyd hxd
    have := zip_all (h1 hx).1.1.1 hy
    simp only [hyd, Bool.and_eq_true, Bool.or_eq_true] at this
    rcases this.1.1 with h | h
    · simpa using h
    · simp [hxd] at h
  · intro i j x y d hx hy hyd hd
    have := zip_all (h1 hx).1.1.1 hy
    simp only [hyd, Bool.and_eq_true, Bool.or_eq_true] at this
    rcases this.1.2 with (h | h) | h
    · simp [hd] at h
    · exact .inl ⟨(blt_iff _ _).1 h.1.1, h.1.2, h.2.imp id (by simp)⟩
    · exact .inr ⟨by simpa using h.1.1, (ble_iff _ _).1 h.1.2, h.2.imp (beq_iff _ _).1 id⟩
  · intro i j x y hx hy hex hey hlt
    have := zip_all (h1 hx).1.1.1 hy
    simp only [Bool.and_eq_true, Bool.or_eq_true] at this
    rcases this.2 with (h | h) | h
    · simp [hex, hey, (blt_iff i j).2 hlt] at h
    · exact .inl h
    · exact .inr h
  · intro j x c hx hc
    have := (h1 hx).1.1.2
    rw [hc] at this; cases this
  · intro j x as ts hx hc
    have := (h1 hx).1.1.2
    rw [hc] at this; cases this
  · intro j x i g hx hg
    have := (h1 hx).1.2
    rw [hg] at this
    simp only [Bool.and_eq_true] at this
    obtain ⟨⟨⟨g1, g2⟩, g3⟩, g4⟩ := this
    refine ⟨(blt_iff _ _).1 g1, g2, by simpa using g3, ?_⟩
    split at g4
    · rename_i y hy; exact ⟨y, hy, by simpa using g4⟩
    · cases g4
  · intro j x e hx he hb
    have := List.all_eq_true.1 (h1 hx).2 e he
    simp only [hb, Bool.not_true, Bool.false_or] at this
    exact (blt_iff _ _).1 this

/-- How many effects but 'alloc' stand among the first. -/
def realOp (x : Oper) : Bool := isEff x.op && !isAlloc x.op
def cnt (ops : Array Oper) (j : Nat) : Nat := ((ops.toList.take j).filter realOp).length
theorem cnt_succ {ops : Array Oper} {j : Nat} {x : Oper} (hx : ops[j]? = some x) : cnt ops (j + 1) = cnt ops j + (if realOp x then 1 else 0) := by
  unfold cnt
  have hx' : ops.toList[j]? = some x := by simpa using hx
  rw [List.take_add_one, hx', List.filter_append, List.length_append]
  simp only [Option.toList_some]
  cases h : realOp x <;> simp [List.filter_cons, h]
theorem cnt_mono {ops : Array Oper} {i j : Nat} (h : i ≤ j) : cnt ops i ≤ cnt ops j := by
  unfold cnt
  have : (ops.toList.take i).Sublist (ops.toList.take j) := by
    have e : ops.toList.take i = (ops.toList.take j).take i := by rw [List.take_take, Nat.min_eq_left h]
    rw [e]; exact List.take_sublist _ _
  exact (this.filter _).length_le
end Go.Ev

/- Drawn regions: what the evaluator has told. -/
set_option linter.unusedSimpArgs false
set_option linter.unusedVariables false
namespace Go.Ev
variable [Rho]

theorem eqP_eq {a b : AVal} (h : eqP a b = true) : a = b := by
  unfold eqP at h
  split at h
  · obtain ⟨h1, h2⟩ := and_true h
    rw [kindEq_eq] at h1; rw [ieq_eq] at h2
    rw [h1, eq_of_beq h2]
  · split at h <;> first | rfl | cases h
  · obtain ⟨h1, h2⟩ := and_true h
    rw [beq_iff] at h1 h2
    rw [h1, h2]
  · rfl
  · obtain ⟨h, h4⟩ := and_true h
    obtain ⟨h, h3⟩ := and_true h
    obtain ⟨h1, h2⟩ := and_true h
    rw [beq_iff] at h1 h2 h3
    subst h1; subst h2; subst h3
    split at h4
    · rw [beq_iff] at h4; rw [h4]
    · rw [beq_iff] at h4; rw [h4]
    · cases h4
  · rfl
  · rw [beq_iff] at h; rw [h]
  · rfl
  · rfl
  · obtain ⟨h1, h2⟩ := and_true h
    rw [SX.kindEq_iff h1, SX.beq_eq h2]
  · rw [SX.beq_eq h]
  · cases h
theorem eqPs_eq : ∀ {a b : List AVal}, eqPs a b = true → a = b
  | [], [], _ => rfl
  | a :: l, b :: r, h => by
    simp only [eqPs] at h
    obtain ⟨h1, h2⟩ := and_true h
    rw [eqP_eq h1, eqPs_eq h2]
  | [], _ :: _, h => by cases h
  | _ :: _, [], h => by cases h
theorem eqV_eq {a b : AVal} (h : eqV a b = true) : a = b := by
  unfold eqV at h
  split at h
  · rw [eqPs_eq h]
  · exact eqP_eq h

/-! The counts. -/
def realIdx (l : List Oper) (k : Nat) : List Nat := ((l.zipIdx k).filter fun (x, _) => isEff x.op && !isAlloc x.op).map (·.2)
theorem realIdx_cons (x : Oper) (l : List Oper) (k : Nat) : realIdx (x :: l) k = (if realOp x then [k] else []) ++ realIdx l (k + 1) := by
  unfold realIdx
  rw [List.zipIdx_cons, List.filter_cons]
  cases h : (isEff x.op && !isAlloc x.op) with
  | true => have hr : realOp x = true := h; simp only [h, hr, if_true]; rfl
  | false => have hr : realOp x = false := h; simp only [h, hr]; rfl
theorem realIdx_ge : ∀ (l : List Oper) (k i : Nat), i ∈ realIdx l k → k ≤ i ∧ ∃ y, l[i - k]? = some y ∧ realOp y = true
  | [], k, i, h => by simp [realIdx] at h
  | x :: l, k, i, h => by
    rw [realIdx_cons] at h
    rcases List.mem_append.1 h with h | h
    · split at h
      · rename_i hr
        simp at h; subst h
        exact ⟨Nat.le_refl _, x, by simp, hr⟩
      · cases h
    · obtain ⟨h1, y, h2, h3⟩ := realIdx_ge l (k + 1) i h
      exact ⟨by omega, y, by rw [show i - k = (i - (k + 1)) + 1 by omega, List.getElem?_cons_succ]; exact h2, h3⟩
theorem realIdx_count : ∀ (l : List Oper) (k m : Nat), ((realIdx l k).filter fun i => decide (i < k + m)).length = ((l.take m).filter realOp).length
  | [], k, m => by simp [realIdx]
  | x :: l, k, 0 => by
    have : (realIdx (x :: l) k).filter (fun i => decide (i < k + 0)) = [] := by
      rw [List.filter_eq_nil_iff]
      intro i hi
      have := (realIdx_ge _ _ _ hi).1
      simp; omega
    rw [this]; simp
  | x :: l, k, m + 1 => by
    rw [realIdx_cons, List.filter_append, List.length_append, List.take_succ_cons, List.filter_cons]
    have := realIdx_count l (k + 1) m
    rw [show k + 1 + m = k + (m + 1) by omega] at this
    rw [this]
    cases realOp x
    · simp
    · simp; omega
theorem loHi_eq (ops : Array Oper) (j : Nat) : loHi ops.toList (Region.before ops) j =
    (((realIdx ops.toList 0).filter fun i => ((Region.before ops).getD j 0).testBit i).length, ((realIdx ops.toList 0).filter fun i => !((Region.before ops).getD i 0).testBit j).length) := rfl
theorem count_le {l : List Nat} {p q : Nat → Bool} (h : ∀ x ∈ l, p x = true → q x = true) : (l.filter p).length ≤ (l.filter q).length := by
  rw [← List.countP_eq_length_filter, ← List.countP_eq_length_filter]
  exact List.countP_mono_left h
theorem lohi_between {ops : Array Oper} {j q lo hi : Nat} (h : loHi ops.toList (Region.before ops) j = (lo, hi))
    (h1 : ∀ i y, ops[i]? = some y → realOp y = true → Ahead ops i j → i < q) (h2 : ∀ i y, ops[i]? = some y → realOp y = true → i < q → ¬ Ahead ops j i) : lo ≤ cnt ops q ∧ cnt ops q ≤ hi := by
  rw [loHi_eq] at h
  injection h with hl hh
  have hc := realIdx_count ops.toList 0 q
  rw [Nat.zero_add] at hc
  have hmem : ∀ i ∈ realIdx ops.toList 0, ∃ y, ops[i]? = some y ∧ realOp y = true := fun i hi => by
    obtain ⟨_, y, h3, h4⟩ := realIdx_ge _ _ _ hi
    exact ⟨y, by simpa using h3, h4⟩
  unfold cnt
  rw [← hc, ← hl, ← hh]
  constructor
  · exact count_le fun i hi hb => by
      obtain ⟨y, hy, hr⟩ := hmem i hi
      simpa using h1 i y hy hr hb
  · exact count_le fun i hi hb => by
      obtain ⟨y, hy, hr⟩ := hmem i hi
      have := h2 i y hy hr (by simpa using hb)
      unfold Ahead at this
      simpa using this
theorem ahead_lt {ops : Array Oper} (hD : DrawOk ops) : ∀ (j i : Nat) (x : Oper), ops[j]? = some x → Ahead ops i j → i < j := by
  intro j
  induction j using Nat.strongRecOn with
  | _ j ih =>
    intro i x hx h
    obtain ⟨e, he, hb, h'⟩ := ahead_edge hx h
    have hlt := hD.back hx he hb
    rcases h' with rfl | ⟨_, h'⟩
    · exact hlt
    · have hjs : j < ops.size := by
        rcases Nat.lt_or_ge j ops.size with h'' | h''
        · exact h''
        · rw [Array.getElem?_eq_none h''] at hx; cases hx
      exact Nat.lt_trans (ih e.on hlt i _ (Array.getElem?_eq_getElem (by omega)) h') hlt

/-! Reads. -/
def Gives (r : PR) (v : AVal) : Prop := r = .v v ∨ ∃ owed, r = .vo v owed ∧ ∀ p ∈ owed, p
theorem Gives.ok {P : Program} {σ : Sg} {nx : Nat} {w : World} {s : Sem Next} {r : PR} {v : AVal} (h : Gives r v) (hp : PROk P σ nx w s r) : s.run P w = .ok (.value (conc σ v)) w ∧ topOf v ≤ nx := by
  rcases h with rfl | ⟨owed, rfl, ho⟩
  · exact hp
  · exact hp ho
def ReadFact (E : Env) (L : List AW) (TF : T AVal) (r : Op × AVal × Nat × Nat) : Prop := ∀ k Aw, L[k]? = some Aw → r.2.2.1 ≤ k → k ≤ r.2.2.2 → Gives (pureOp E Aw TF r.1) r.2.1
section
variable {E : Env}
theorem sameAt_cons (tm : T AVal) (op : Op) (v : AVal) (lo hi : Nat) (A : AW) (As : List AW) (k : Nat) :
    sameAt E tm op v lo hi (A :: As) k = eB (Nat.ble lo k && Nat.ble k hi) (sameAt E tm op v lo hi As (k - 1)) (sameOne v (pureOp E A tm op) (sameAt E tm op v lo hi As (k - 1))) := rfl
theorem sameAt_ok (tm : T AVal) (op : Op) (v : AVal) (lo hi : Nat) : ∀ (As : List AW) (l : List Prop), sameAt E tm op v lo hi As (As.length - 1) = some l → (∀ p ∈ l, p) → ReadFact E As.reverse tm (op, v, lo, hi)
  | [], l, h, ho => by intro k Aw hk; simp at hk
  | A :: As, l, h, ho => by
    rw [sameAt_cons] at h
    simp only [List.length_cons, Nat.add_sub_cancel] at h
    intro k Aw hk h1 h2
    simp only at h1 h2
    rw [List.reverse_cons] at hk
    -- the rest
    have rest : ∀ l', sameAt E tm op v lo hi As (As.length - 1) = some l' → (∀ p ∈ l', p) → k < As.length → Gives (pureOp E Aw tm op) v := by
      intro l' hl' ho' hlt
      rw [List.getElem?_append_left (by simpa using hlt)] at hk
      exact sameAt_ok tm op v lo hi As l' hl' ho' k Aw hk h1 h2
    have last : As.length ≤ k → k = As.length ∧ Aw = A := by
      intro hge
      rw [List.getElem?_append_right (by simpa using hge)] at hk
      simp only [List.length_reverse] at hk
      cases hx : k - As.length with
      | zero => rw [hx] at hk; simp at hk; exact ⟨by omega, hk.symm⟩
      | succ y => rw [hx] at hk; simp at hk
    cases hb : (Nat.ble lo As.length && Nat.ble As.length hi) with
    | false =>
      rw [hb, eB_false] at h
      rcases Nat.lt_or_ge k As.length with hlt | hge
      · exact rest l h ho hlt
      · obtain ⟨rfl, _⟩ := last hge
        exfalso
        rw [(ble_iff _ _).2 h1, (ble_iff _ _).2 h2] at hb
        cases hb
    | true =>
      rw [hb, eB_true] at h
      unfold sameOne at h
      split at h <;> try cases h
      · rename_i v' l' hr hl'
        cases hq : eqV v' v with
        | true =>
          rw [hq, eB_true] at ho
          rcases Nat.lt_or_ge k As.length with hlt | hge
          · exact rest l' hl' ho hlt
          · obtain ⟨_, rfl⟩ := last hge
            rw [hr, eqV_eq hq]; exact .inl rfl
        | false =>
          rw [hq, eB_false] at ho
          rcases Nat.lt_or_ge k As.length with hlt | hge
          · exact rest l' hl' (fun p hp => ho p (List.mem_cons_of_mem _ hp)) hlt
          · obtain ⟨_, rfl⟩ := last hge
            have : v' = v := ho _ List.mem_cons_self
            rw [hr, this]; exact .inl rfl
      · rename_i v' owed l' hr hl'
        rcases Nat.lt_or_ge k As.length with hlt | hge
        · exact rest l' hl' (fun p hp => ho p (List.mem_cons_of_mem _ (List.mem_append.2 (.inr hp)))) hlt
        · obtain ⟨_, rfl⟩ := last hge
          have : v' = v := ho _ List.mem_cons_self
          rw [hr, this]; exact .inr ⟨owed, rfl, fun p hp => ho p (List.mem_cons_of_mem _ (List.mem_append.2 (.inl hp)))⟩
theorem sameAll_cons (As : List AW) (tm : T AVal) (r : Op × AVal × Nat × Nat) (rs : Reads) : sameAll E As tm (r :: rs) = match sameAt E tm r.1 r.2.1 r.2.2.1 r.2.2.2 As (lenN As - 1), sameAll E As tm rs with
    | some a, some b => some (a ++ b)
    | _, _ => none := rfl
theorem sameAll_ok (As : List AW) (tm : T AVal) : ∀ (rs : Reads) (l : List Prop), sameAll E As tm rs = some l → (∀ p ∈ l, p) → ∀ r ∈ rs, ReadFact E As.reverse tm r
  | [], l, h, ho => by intro r hr; cases hr
  | r :: rs, l, h, ho => by
    rw [sameAll_cons] at h
    split at h <;> cases h
    rename_i a b ha hb
    rw [lenN_eq] at ha
    intro r' hr'
    rcases List.mem_cons.1 hr' with rfl | hr'
    · exact sameAt_ok _ _ _ _ _ As a ha fun p hp => ho p (List.mem_append.2 (.inl hp))
    · exact sameAll_ok As tm rs b hb (fun p hp => ho p (List.mem_append.2 (.inr hp))) r' hr'
end

/-! The text's order. -/
section
variable (E : Env) (call : FuncId → List AVal → AMode → AW → Orc → FR) (n : Nat) (ops : Array Oper)
/-- Is the operation wanted? -/
def Wants (T : T AVal) (x : Oper) (b : Bool) : Prop := match x.guard with | none => b = true | some g => ∃ o o1, guardA (dstsOf ops) T o g = some (b, o1) ∧ Owed o1
structure Trace (J : Nat) (T : Nat → T AVal) (W B : Nat → AW) (V : Nat → AVal) (L : List AW) (i : Nat) (x : Oper) : Prop where
  put : T (i + 1) = putO (T i) x.dst (V i)
  lt : ∀ d, x.dst = some d → d < n
  fact : (Wants ops (T i) x false ∧ W (i + 1) = W i ∧ B (i + 1) = (if realOp x then W i else B i) ∧ topOf (V i) = 0 ∧ ∀ σ, conc σ (V i) = undef) ∨
    (Wants ops (T i) x true ∧ ∃ v0, (∀ σ, conc σ (V i) = conc σ v0) ∧ topOf (V i) = topOf v0 ∧
      ((isEff x.op = false ∧ Gives (pureOp E (B i) (T i) x.op) v0 ∧ W (i + 1) = W i ∧ B (i + 1) = B i ∧
          (isRead x.op = true → ∀ lo hi, loHi ops.toList (Region.before ops) i = (lo, hi) → lo ≠ hi → ReadFact E L (T J) (x.op, v0, lo, hi))) ∨
       (isEff x.op = true ∧ ((∃ o o1, effOp E call (T i) (W i) o x.op = .val v0 (W (i + 1)) o1 ∧ Owed o1) ∧ (W i).next ≤ (W (i + 1)).next) ∧ B (i + 1) = (if isAlloc x.op then B i else W (i + 1)))))
/-- How the text's order ends. -/
inductive DEnd (t0 : T AVal) (J : Nat) (T : Nat → T AVal) (W : Nat → AW) : AExit → Go.Ev.T AVal → AW → Prop
  | normal : J = ops.size → DEnd t0 J T W .normal (T J) (W J)
  | pan {x c A'} : ops[J]? = some x → Wants ops (T J) x true → panOk E ops J = true → isEff x.op = true → (∃ o o1, effOp E call (T J) (W J) o x.op = .pan c A' o1 ∧ Owed o1) → DEnd t0 J T W (.pan c) t0 A'
end

section
variable {E : Env} {call : FuncId → List AVal → AMode → AW → Orc → FR} {n : Nat} {ops : Array Oper} {t0 : T AVal} {lh : List (Nat × Nat)}
theorem runDraw_cons (dsts : Nat → Option Nat) (x : Oper) (l : List Oper) (j : Nat) (rs : Reads) (As : List AW) (tm : T AVal) (ds : List ADef) (m : AMode) (A : AW) (o : Orc) :
    runDraw E call n ops lh dsts t0 (x :: l) j rs As tm ds m A o = eO x.guard (drawOp E call n ops lh (runDraw E call n ops lh dsts t0 l) t0 j rs As tm ds m A o x)
      fun g => drawG E call n ops lh (runDraw E call n ops lh dsts t0 l) t0 j rs As tm ds m A x (guardA dsts tm o g) := rfl
/-- What the evaluator tells of a suffix. -/
def Told (E : Env) (call : FuncId → List AVal → AMode → AW → Orc → FR) (n : Nat) (ops : Array Oper) (t0 : T AVal) (j : Nat) (rs : Reads) (As : List AW) (tm : T AVal) (A : AW) (e : AExit) (tm' : T AVal) (A' : AW) : Prop :=
  ∀ Bj, As.head? = some Bj → As.length = cnt ops j + 1 → ∃ (J : Nat) (T : Nat → T AVal) (W B : Nat → AW) (V : Nat → AVal) (L : List AW), j ≤ J ∧ T j = tm ∧ W j = A ∧ B j = Bj ∧ (∃ more, L = As.reverse ++ more) ∧
    (∀ i, j ≤ i → i ≤ J → L[cnt ops i]? = some (B i)) ∧ (∀ i x, j ≤ i → i < J → ops[i]? = some x → Trace E call n ops J T W B V L i x) ∧ (∀ r ∈ rs, ReadFact E L (T J) r) ∧ J ≤ ops.size ∧ DEnd E call ops t0 J T W e tm' A'
theorem told_cons {j : Nat} {x : Oper} (hx : ops[j]? = some x) {rs rs1 : Reads} {As As1 : List AW} {tm : T AVal} {A A1 : AW} {v : AVal} {e : AExit} {tm' : T AVal} {A' : AW}
    (h : Told E call n ops t0 (j + 1) rs1 As1 (putO tm x.dst v) A1 e tm' A') (hlt : ∀ d, x.dst = some d → d < n)
    (hAs : (realOp x = false ∧ As1 = As) ∨ (realOp x = true ∧ As1 = A1 :: As)) (hrs : ∀ r ∈ rs, r ∈ rs1)
    (hfact : ∀ Bj B1 (L : List AW) (TF : T AVal), As.head? = some Bj → As1.head? = some B1 → (∀ r ∈ rs1, ReadFact E L TF r) →
      (Wants ops tm x false ∧ A1 = A ∧ B1 = (if realOp x then A else Bj) ∧ topOf v = 0 ∧ ∀ σ, conc σ v = undef) ∨
      (Wants ops tm x true ∧ ∃ v0, (∀ σ, conc σ v = conc σ v0) ∧ topOf v = topOf v0 ∧
        ((isEff x.op = false ∧ Gives (pureOp E Bj tm x.op) v0 ∧ A1 = A ∧ B1 = Bj ∧
            (isRead x.op = true → ∀ lo hi, loHi ops.toList (Region.before ops) j = (lo, hi) → lo ≠ hi → ReadFact E L TF (x.op, v0, lo, hi))) ∨
         (isEff x.op = true ∧ ((∃ o o1, effOp E call tm A o x.op = .val v0 A1 o1 ∧ Owed o1) ∧ A.next ≤ A1.next) ∧ B1 = (if isAlloc x.op then Bj else A1))))) :
    Told E call n ops t0 j rs As tm A e tm' A' := by
  intro Bj hBj hlen
  obtain ⟨B1, hB1, hlen1⟩ : ∃ B1, As1.head? = some B1 ∧ As1.length = cnt ops (j + 1) + 1 := by
    rw [cnt_succ hx]
    rcases hAs with ⟨hr, rfl⟩ | ⟨hr, rfl⟩
    · exact ⟨Bj, hBj, by simp [hr, hlen]⟩
    · exact ⟨A1, rfl, by simp [hr, hlen]⟩
  obtain ⟨J, T, W, B, V, L, h1, h2, h3, h4, ⟨more, h5⟩, h6, h7, h8, h9, h10⟩ := h B1 hB1 hlen1
  have hgt : ∀ i, j + 1 ≤ i → i ≠ j := fun i hi => by omega
  refine ⟨J, fun i => if i = j then tm else T i, fun i => if i = j then A else W i, fun i => if i = j then Bj else B i, fun i => if i = j then v else V i, L, by omega, by simp, by simp, by simp, ?_, ?_, ?_, ?_, h9, ?_⟩
  · rcases hAs with ⟨_, rfl⟩ | ⟨_, rfl⟩
    · exact ⟨more, h5⟩
    · exact ⟨[A1] ++ more, by rw [h5]; simp⟩
  · intro i hi hiJ
    by_cases e : i = j
    · subst e
      simp only [if_true]
      have hpre : ∃ more', L = As.reverse ++ more' := by
        rcases hAs with ⟨_, rfl⟩ | ⟨_, rfl⟩
        · exact ⟨more, h5⟩
        · exact ⟨[A1] ++ more, by rw [h5]; simp⟩
      obtain ⟨more', hL⟩ := hpre
      rw [hL, List.getElem?_append_left (by simp; omega), List.getElem?_reverse (by omega)]
      rw [hlen, show cnt ops i + 1 - 1 - cnt ops i = 0 by omega, ← List.head?_eq_getElem?]; exact hBj
    · simp only [e, if_false]; exact h6 i (by omega) hiJ
  · intro i y hi hiJ hy
    have hJne : (if J = j then tm else T J) = T J := by simp [show J ≠ j by omega]
    by_cases e : i = j
    · subst e
      have : y = x := by rw [hx] at hy; exact (Option.some.inj hy).symm
      subst this
      have hne : i + 1 ≠ i := by omega
      refine ⟨by simp [hne, h2], hlt, ?_⟩
      simp only [if_true, hne, if_false, hJne, h3, h4]
      exact hfact Bj B1 L (T J) hBj hB1 h8
    · have hne : i + 1 ≠ j := by omega
      obtain ⟨p1, p2, p3⟩ := h7 i y (by omega) hiJ hy
      exact ⟨by simpa [e, hne] using p1, p2, by simpa only [e, hne, if_false, hJne] using p3⟩
  · intro r hr
    have hJne : (if J = j then tm else T J) = T J := by simp [show J ≠ j by omega]
    simp only [hJne]
    exact h8 r (hrs r hr)
  · have hJne : J ≠ j := by omega
    cases h10 with
    | normal hJ =>
      have e1 : T J = (fun i => if i = j then tm else T i) J := by simp [hJne]
      have e2 : W J = (fun i => if i = j then A else W i) J := by simp [hJne]
      rw [e1, e2]; exact .normal hJ
    | pan p1 p2 p3 p4 p5 => exact .pan p1 (by simpa [hJne] using p2) p3 p4 (by simpa [hJne] using p5)
theorem drawOp_told (hC : CallOk E.P call) (hlh : ∀ j p, nth lh j = some p → loHi ops.toList (Region.before ops) j = p) {j : Nat} {x : Oper} (hx : ops[j]? = some x) {K : DCont}
    (hK : ∀ rs As tm ds m A o e tm' ds' m' A' o', K (j + 1) rs As tm ds m A o = .out e tm' ds' m' A' o' → o.Le o' ∧ ds' = ds ∧ m' = m ∧ (Owed o' → Told E call n ops t0 (j + 1) rs As tm A e tm' A'))
    {rs : Reads} {As : List AW} {tm : T AVal} {ds : List ADef} {m : AMode} {A : AW} {o : Orc} {e : AExit} {tm' : T AVal} {ds' : List ADef} {m' : AMode} {A' : AW} {o' : Orc}
    (h : drawOp E call n ops lh K t0 j rs As tm ds m A o x = .out e tm' ds' m' A' o') : o.Le o' ∧ ds' = ds ∧ m' = m ∧ (Owed o' → Wants ops tm x true → Told E call n ops t0 j rs As tm A e tm' A') := by
  unfold drawOp at h
  cases heff : isEff x.op with
  | false =>
    rw [heff, eB_false] at h
    have hreal : realOp x = false := by simp [realOp, heff]
    cases As with
    | nil => cases h
    | cons A0 As0 =>
      simp only at h
      -- behind the value
      have val : ∀ {v0 : AVal} {o1 : Orc} (f : AVal → Reads), (∀ r ∈ rs, r ∈ f v0) → (isRead x.op = true → ∀ lo hi, loHi ops.toList (Region.before ops) j = (lo, hi) → lo ≠ hi → (x.op, v0, lo, hi) ∈ f v0) →
          goOn n (K (j + 1) (f v0) (A0 :: As0)) tm ds m A o1 x.dst v0 = .out e tm' ds' m' A' o' →
          o1.Le o' ∧ ds' = ds ∧ m' = m ∧ (Owed o' → Wants ops tm x true → Gives (pureOp E A0 tm x.op) v0 → Told E call n ops t0 j rs (A0 :: As0) tm A e tm' A') := by
        intro v0 o1 f hf1 hf2 hgo
        obtain ⟨o2, v1, g1, g2, g3, g4, g5⟩ := goOn_ok hgo
        obtain ⟨k1, k2, k3, k4⟩ := hK _ _ _ _ _ _ _ _ _ _ _ _ _ g1
        refine ⟨g2.trans k1, k2, k3, fun ho hw hgv => ?_⟩
        refine told_cons hx (k4 ho) g5 (.inl ⟨hreal, rfl⟩) hf1 (fun Bj B1 L TF hBj hB1 hreads => .inr ⟨hw, v0, g3 (ho.less k1), g4, .inl ⟨heff, ?_, rfl, ?_, fun hrd lo hi hlh' hne => ?_⟩⟩)
        · cases hBj; exact hgv
        · cases hBj; cases hB1; rfl
        · exact hreads _ (hf2 hrd lo hi hlh' hne)
      have valR : ∀ (f : AVal → Reads), (∀ v0, ∀ r ∈ rs, r ∈ f v0) → (∀ v0, isRead x.op = true → ∀ lo hi, loHi ops.toList (Region.before ops) j = (lo, hi) → lo ≠ hi → (x.op, v0, lo, hi) ∈ f v0) →
          drawPureR n K j f (A0 :: As0) tm ds m A o x (pureOp E A0 tm x.op) = .out e tm' ds' m' A' o' → o.Le o' ∧ ds' = ds ∧ m' = m ∧ (Owed o' → Wants ops tm x true → Told E call n ops t0 j rs (A0 :: As0) tm A e tm' A') := by
        intro f hf1 hf2 h
        unfold drawPureR at h
        cases hp : pureOp E A0 tm x.op with
        | no => rw [hp] at h; cases h
        | v v0 =>
          rw [hp] at h
          obtain ⟨k1, k2, k3, k4⟩ := val f (hf1 v0) (hf2 v0) h
          exact ⟨k1, k2, k3, fun ho hw => k4 ho hw (by rw [hp]; exact .inl rfl)⟩
        | vo v0 owed =>
          rw [hp] at h
          obtain ⟨k1, k2, k3, k4⟩ := val f (hf1 v0) (hf2 v0) h
          exact ⟨fun p hp => k1 p (List.mem_append.2 (.inr hp)), k2, k3, fun ho hw => k4 ho hw (by rw [hp]; exact .inr ⟨owed, rfl, fun p hp => ho p (k1 p (List.mem_append.2 (.inl hp)))⟩)⟩
      unfold drawPure at h
      cases hrd : isRead x.op with
      | false =>
        rw [hrd] at h
        exact valR (fun _ => rs) (fun _ r hr => hr) (fun v0 hrd' => by rw [hrd] at hrd'; cases hrd') h
      | true =>
        rw [hrd] at h
        simp only at h
        cases hn : nth lh j with
        | none => rw [hn, eO_none] at h; cases h
        | some p =>
          rw [hn, eO_some] at h
          have hp := hlh j p hn
          refine valR (fun v => noteRead p x v rs) (fun v0 r hr => ?_) (fun v0 _ lo hi hlo hne => ?_) h
          · unfold noteRead; split
            · exact hr
            · exact List.mem_cons_of_mem _ hr
          · rw [hp] at hlo
            subst hlo
            unfold noteRead
            cases hb : Nat.beq lo hi with
            | true => exact absurd ((beq_iff _ _).1 hb) hne
            | false => simp only [hb]; exact List.mem_cons_self
  | true =>
    rw [heff, eB_true] at h
    have hle : ∀ o1, (effOp E call tm A o x.op).orc o = some o1 → o.Le o1 := fun o1 => effOp_le hC
    unfold drawEff at h
    cases hp : effOp E call tm A o x.op with
    | fail => rw [hp] at h; cases h
    | dfr d A1 o1 => rw [hp] at h; cases h
    | rcv => rw [hp] at h; cases h
    | val v0 A1 o1 =>
      rw [hp] at h hle
      have hl := hle o1 rfl
      simp only [forceW_eq] at h
      cases hnx : Nat.ble A.next A1.next with
      | false => rw [hnx, eB_false] at h; cases h
      | true =>
      rw [hnx, eB_true] at h
      rw [ble_iff] at hnx
      obtain ⟨o2, v1, g1, g2, g3, g4, g5⟩ := goOn_ok h
      obtain ⟨k1, k2, k3, k4⟩ := hK _ _ _ _ _ _ _ _ _ _ _ _ _ g1
      refine ⟨hl.trans (g2.trans k1), k2, k3, fun ho hw => ?_⟩
      cases ha : isAlloc x.op with
      | true =>
        have hreal : realOp x = false := by simp [realOp, ha]
        rw [ha, eB_true] at k4
        refine told_cons hx (k4 ho) g5 (.inl ⟨hreal, rfl⟩) (fun r hr => hr) (fun Bj B1 L TF hBj hB1 hreads => .inr ⟨hw, v0, g3 (ho.less k1), g4, .inr ⟨heff, ⟨⟨o, o1, hp, ho.less (g2.trans k1)⟩, hnx⟩, ?_⟩⟩)
        rw [hBj] at hB1; cases hB1; rw [ha]; rfl
      | false =>
        have hreal : realOp x = true := by simp [realOp, ha, heff]
        rw [ha, eB_false] at k4
        refine told_cons hx (k4 ho) g5 (.inr ⟨hreal, rfl⟩) (fun r hr => hr) (fun Bj B1 L TF hBj hB1 hreads => .inr ⟨hw, v0, g3 (ho.less k1), g4, .inr ⟨heff, ⟨⟨o, o1, hp, ho.less (g2.trans k1)⟩, hnx⟩, ?_⟩⟩)
        cases hB1; rw [ha]; rfl
    | pan c A1 o1 =>
      rw [hp] at h hle
      have hl := hle o1 rfl
      simp only at h
      cases hpo : panOk E ops j with
      | false => rw [hpo, eB_false] at h; cases h
      | true =>
        rw [hpo, eB_true] at h
        unfold endPan at h
        split at h <;> cases h
        rename_i owed hs
        refine ⟨fun p hp => List.mem_append.2 (.inr (hl p hp)), rfl, rfl, fun ho hw => ?_⟩
        intro Bj hBj hlen
        have hjs : j < ops.size := by
          rcases Nat.lt_or_ge j ops.size with h'' | h''
          · exact h''
          · rw [Array.getElem?_eq_none h''] at hx; cases hx
        refine ⟨j, fun _ => tm, fun _ => A, fun _ => Bj, fun _ => .undef, As.reverse, Nat.le_refl _, rfl, rfl, rfl, ⟨[], by simp⟩, ?_, fun i x h1 h2 _ => by omega,
          sameAll_ok As tm rs owed hs (fun p hp => ho p (List.mem_append.2 (.inl hp))), by omega, .pan hx hw hpo heff ⟨o, o1, hp, fun p hp => ho p (List.mem_append.2 (.inr hp))⟩⟩
        intro i h1 h2
        have : i = j := by omega
        subst this
        rw [List.getElem?_reverse (by omega), hlen, show cnt ops i + 1 - 1 - cnt ops i = 0 by omega, ← List.head?_eq_getElem?]; exact hBj
theorem runDraw_told (hC : CallOk E.P call) (hlh : ∀ j p, nth lh j = some p → loHi ops.toList (Region.before ops) j = p) : ∀ (l : List Oper) (j : Nat), ops.toList.drop j = l → j ≤ ops.size → ∀ rs As tm ds m A o e tm' ds' m' A' o', runDraw E call n ops lh (dstsOf ops) t0 l j rs As tm ds m A o = .out e tm' ds' m' A' o' →
    o.Le o' ∧ ds' = ds ∧ m' = m ∧ (Owed o' → Told E call n ops t0 j rs As tm A e tm' A')
  | [], j, hl, hjle, rs, As, tm, ds, m, A, o, e, tm', ds', m', A', o', h => by
    have h' : endDraw (sameAll E As tm rs) tm ds m A o = .out e tm' ds' m' A' o' := h
    unfold endDraw at h'
    split at h' <;> cases h'
    rename_i owed hs
    refine ⟨Orc.le_add o _ _, rfl, rfl, fun ho => ?_⟩
    intro Bj hBj hlen
    have hj : ops.size ≤ j := by have := List.drop_eq_nil_iff.1 hl; simpa using this
    have hjs : j = ops.size := by omega
    · refine ⟨j, fun _ => tm, fun _ => A, fun _ => Bj, fun _ => .undef, As.reverse, Nat.le_refl _, rfl, rfl, rfl, ⟨[], by simp⟩, ?_, fun i x h1 h2 _ => by omega,
        sameAll_ok As tm rs owed hs (fun p hp => ho p (List.mem_append.2 (.inl hp))), by omega, DEnd.normal hjs⟩
      intro i h1 h2
      have : i = j := by omega
      subst this
      rw [List.getElem?_reverse (by omega), hlen, show cnt ops i + 1 - 1 - cnt ops i = 0 by omega, ← List.head?_eq_getElem?]; exact hBj
  | x :: l, j, hl, hjle, rs, As, tm, ds, m, A, o, e, tm', ds', m', A', o', h => by
    obtain ⟨hx, hl', _⟩ := idxs_cons hl
    have hjs : j < ops.size := by
      rcases Nat.lt_or_ge j ops.size with h'' | h''
      · exact h''
      · rw [Array.getElem?_eq_none h''] at hx; cases hx
    have hK := runDraw_told hC hlh l (j + 1) hl' hjs
    rw [runDraw_cons] at h
    cases hg : x.guard with
    | none =>
      rw [hg, eO_none] at h
      obtain ⟨k1, k2, k3, k4⟩ := drawOp_told hC hlh hx hK h
      exact ⟨k1, k2, k3, fun ho => k4 ho (by unfold Wants; rw [hg])⟩
    | some g =>
      rw [hg, eO_some] at h
      cases hgd : guardA (dstsOf ops) tm o g with
      | none => rw [hgd] at h; cases h
      | some p =>
        obtain ⟨want, o1⟩ := p
        obtain ⟨w1, _⟩ := guardA_ok hg hgd
        rw [hgd] at h
        cases want with
        | true =>
          obtain ⟨k1, k2, k3, k4⟩ := drawOp_told hC hlh hx hK h
          exact ⟨w1.trans k1, k2, k3, fun ho => k4 ho (by unfold Wants; rw [hg]; exact ⟨o, o1, hgd, ho.less k1⟩)⟩
        | false =>
          obtain ⟨o2, v1, g1, g2, g3, g4, g5⟩ := goOn_ok (show goOn n (runDraw E call n ops lh (dstsOf ops) t0 l (j + 1) rs (eB (isEff x.op && !isAlloc x.op) As (A :: As))) tm ds m A o1 x.dst .undef = .out e tm' ds' m' A' o' from h)
          obtain ⟨k1, k2, k3, k4⟩ := hK _ _ _ _ _ _ _ _ _ _ _ _ _ g1
          refine ⟨w1.trans (g2.trans k1), k2, k3, fun ho => ?_⟩
          have hw : Wants ops tm x false := by unfold Wants; rw [hg]; exact ⟨o, o1, hgd, ho.less (g2.trans k1)⟩
          refine told_cons hx (k4 ho) g5 ?_ (fun r hr => hr) (fun Bj B1 L TF hBj hB1 hreads => .inl ⟨hw, rfl, ?_, g4, fun σ => by rw [g3 (ho.less k1) σ, conc_undef]⟩)
          · cases hr : realOp x with
            | false => exact .inl ⟨rfl, by have : (isEff x.op && !isAlloc x.op) = false := hr; rw [this, eB_false]⟩
            | true => exact .inr ⟨rfl, by have : (isEff x.op && !isAlloc x.op) = true := hr; rw [this, eB_true]⟩
          · cases hr : realOp x with
            | false =>
              have : (isEff x.op && !isAlloc x.op) = false := hr
              rw [this, eB_false, hBj] at hB1; cases hB1; simp
            | true =>
              have : (isEff x.op && !isAlloc x.op) = true := hr
              rw [this, eB_true] at hB1; cases hB1; simp
end
end Go.Ev

/- Drawn regions: junk, adoption, stand-ins. -/
set_option linter.unusedSimpArgs false
set_option linter.unusedVariables false
namespace Go.Ev
variable [Rho]

section
variable {σ τ υ : Sg} {A B : AW} {w w' : World}
/-- Another reading that agrees on what there is. -/
theorem R.tag (hR : R τ B w) (ha : τ.Agree υ B.next) : R υ B w :=
  ⟨hR.once, hR.lt, hR.sc, fun i b h => by
    obtain ⟨o, ho, hb⟩ := hR.rel i b h
    exact ⟨o, by rw [(ha i (hR.lt i b h)).1]; exact ho, BR_congr ha (hR.sc i b h) (hR.lt i b h) hb⟩,
   fun i j b c h h' e => by
    rw [(ha i (hR.lt i b h)).1, (ha j (hR.lt j c h')).1] at e
    exact hR.inj i j b c h h' e⟩
theorem To.tag (h : To σ A w τ B w') (ha : τ.Agree υ B.next) : To σ A w υ B w' :=
  h.trans ⟨h.r.tag ha, ⟨Nat.le_refl _, ha, Nat.le_refl _, fun _ _ _ => rfl, fun i b hb => .inl ⟨i, b, hb, ((ha i (h.r.lt i b hb)).1).symm⟩, rfl, rfl⟩⟩
theorem R.lt_heap (hR : R σ A w) {i : Nat} {b : ABlk} (h : lookB A.blks i = some b) : σ.blk i < w.heap.size := by
  obtain ⟨o, ho, _⟩ := hR.rel i b h
  rcases Nat.lt_or_ge (σ.blk i) w.heap.size with h' | h'
  · exact h'
  · rw [Array.getElem?_eq_none h'] at ho; cases ho
/-- Junk behind the heap. -/
theorem To.junk (h : To σ A w τ B w') (o : Obj) : To σ A w τ B { w' with heap := w'.heap.push o } := by
  refine h.trans ⟨⟨h.r.once, h.r.lt, h.r.sc, fun i b hb => ?_, h.r.inj⟩, ⟨Nat.le_refl _, Sg.Agree.refl _ _, by simp, fun c hc _ => ?_, fun i b hb => .inl ⟨i, b, hb, rfl⟩, rfl, rfl⟩⟩
  · obtain ⟨x, hx, hbr⟩ := h.r.rel i b hb
    have hlt := h.r.lt_heap hb
    exact ⟨x, by rw [Array.getElem?_push_lt hlt]; simpa [Array.getElem?_eq_getElem hlt] using hx, hbr⟩
  · rw [Array.getElem?_push_lt hc]; simp [Array.getElem?_eq_getElem hc]
/-- A block that stands there already. -/
theorem To.adopt (h : To σ A w τ B w') {blk : ABlk} {o : Obj} (hs : blk.Scoped (B.next + 1)) (ho : w'.heap[τ.blk B.next]? = some o) (hb : BR τ B.next blk o)
    (hn : ∀ i b, lookB B.blks i = some b → τ.blk i ≠ τ.blk B.next) (hge : w.heap.size ≤ τ.blk B.next) : To σ A w τ (B.new blk) w' := by
  have hlook : ∀ i b, lookB (B.new blk).blks i = some b → (i = B.next ∧ b = blk) ∨ (i < B.next ∧ lookB B.blks i = some b) := by
    intro i b h1
    have h' : lookB ((B.next, blk) :: B.blks) i = some b := h1
    rw [lookB_cons] at h'
    split at h'
    · rename_i e; exact .inl ⟨e.symm, (Option.some.inj h').symm⟩
    · exact .inr ⟨h.r.lt i b h', h'⟩
  refine ⟨⟨?_, ?_, ?_, ?_, ?_⟩, ⟨Nat.le_succ_of_le h.s.next, h.s.agree, h.s.size, h.s.frame, fun i b hb' => ?_, h.s.os, h.s.output⟩⟩
  · show Once ((B.next, blk) :: B.blks)
    refine List.nodup_cons.2 ⟨fun hm => ?_, h.r.once⟩
    obtain ⟨p, hp, he⟩ := List.mem_map.1 hm
    have := h.r.lt p.1 p.2 (lookB_of_mem h.r.once hp)
    simp only at he; omega
  · intro i b hb'
    rcases hlook i b hb' with ⟨rfl, _⟩ | ⟨hi, _⟩
    · exact Nat.lt_succ_self _
    · exact Nat.lt_succ_of_lt hi
  · intro i b hb'
    rcases hlook i b hb' with ⟨rfl, rfl⟩ | ⟨_, h'⟩
    · exact hs
    · exact scoped_mono (h.r.sc i b h') (Nat.le_succ _)
  · intro i b hb'
    rcases hlook i b hb' with ⟨rfl, rfl⟩ | ⟨_, h'⟩
    · exact ⟨o, ho, hb⟩
    · exact h.r.rel i b h'
  · intro i j b c h1 h2 e
    rcases hlook i b h1 with ⟨rfl, _⟩ | ⟨_, h1'⟩
    · rcases hlook j c h2 with ⟨rfl, _⟩ | ⟨_, h2'⟩
      · rfl
      · exact absurd e.symm (hn j c h2')
    · rcases hlook j c h2 with ⟨rfl, _⟩ | ⟨_, h2'⟩
      · exact absurd e (hn i b h1')
      · exact h.r.inj i j b c h1' h2' e
  · rcases hlook i b hb' with ⟨rfl, _⟩ | ⟨_, h'⟩
    · exact .inr hge
    · exact h.s.image i b h'
end

/-! An 'alloc'. -/
theorem alloc_run {E : Env} (hE : E.Ok) {t : TypeId} {z : AVal} (hz : zeroT E t = some z) (hraw : notRaw z = true) : ∃ o, (∀ w, (Instr.alloc t true (.tuple #[])).run E.P w = .ok (.pointer (some ⟨w.heap.size, 0, none⟩)) { w with heap := w.heap.push o }) ∧
    (∀ (υ : Sg) (id c : Nat), BR (υ.put id c 0 t (0, 0)) id (newCells (cellsOf z)) o) ∧ (∀ m, (newCells (cellsOf z)).Scoped m) := by
  let σ0 : Sg := ⟨fun _ => 0, fun _ => 0, fun _ => 0, fun _ => (0, 0)⟩
  obtain ⟨hz0, hz1⟩ : (∀ w, (zeroValue t).run E.P w = .ok (conc σ0 z) w) ∧ topOf z = 0 := ⟨fun w => (zeroT_ok (σ := σ0) (w := w) hE hz).1, (zeroT_ok (σ := σ0) (w := (default : World)) hE hz).2.1⟩
  obtain ⟨h1, h2, h3, h4⟩ := newCells_ok (cs := cellsOf z)
  have hcells := cells_conc σ0 hraw
  have htop : ∀ v ∈ cellsOf z, topOf v = 0 := fun v hv => by have := topOf_cells (m := 0) (by omega : topOf z ≤ 0) v hv; omega
  refine ⟨.cells (concL σ0 (cellsOf z)).toArray t, fun w => ?_, fun υ id c => ?_, fun m => ?_⟩
  · simp only [Instr.alloc, Sem.run_bind, hz0, Result.andThen_ok, newVar, newRow, run_newObj, Sem.run_pure, hcells]
  · have := BR_row (σ := υ.put id c 0 t (0, 0)) (i := id) (b := newCells (cellsOf z)) (arr := (concL σ0 (cellsOf z)).toArray) h1
      (Row.mk (by rw [h3]; simp [concL_eq]) (fun _ => by rw [h3]; simp [concL_eq]) (fun st hst => by rw [h2] at hst; cases hst) (fun j v hj => by
        have hm := h4 j v hj
        have h0 := htop v (List.mem_of_getElem? hm)
        have : conc (υ.put id c 0 t (0, 0)) v = conc σ0 v := conc_congr (n := 0) (fun i hi => by omega) v (by omega)
        rw [this]; simp [concL_eq, hm]) (fun j hj => by simp [Sg.put]))
    simpa [Sg.put] using this
  · exact scoped_row h1 fun j v hj => by have := htop v (List.mem_of_getElem? (h4 j v hj)); omega

/-! Stand-ins for the temporaries. -/
theorem TR.put' {σ : Sg} {n nx : Nat} {tm : T AVal} {a : Array Value} (h : TR σ n nx tm a) {d : Nat} {v : AVal} (hd : n ≤ d → conc σ v = undef) (hv : topOf v ≤ nx) : TR σ n nx (tm.upd d v) (a.setIfInBounds d (conc σ v)) := by
  rcases Nat.lt_or_ge d n with hlt | hge
  · exact h.put hlt hv
  · refine ⟨by simp [h.size], fun i u hu => ?_, fun i u hu => ?_⟩
    · rw [T.get_upd] at hu
      by_cases e : d = i
      · subst e
        rw [if_pos rfl] at hu
        cases hg : tm.get d with
        | none => simp [hg] at hu
        | some x =>
          simp [hg] at hu; subst hu
          rw [Array.getD_eq_getD_getElem?, Array.getElem?_eq_none (by simp [h.size]; omega), hd hge]; rfl
      · rw [if_neg e] at hu
        rw [← h.rel i u hu]
        simp [Array.getD_eq_getD_getElem?, e]
    · rw [T.get_upd] at hu
      split at hu
      · cases hg : tm.get i with
        | none => simp [hg] at hu
        | some x => simp [hg] at hu; subst hu; exact hv
      · exact h.sc i u hu
theorem stand_in {τ : Sg} {n nx : Nat} {T0 Ti : T AVal} {a0 a : Array Value} (h0 : TR τ n nx T0 a0) (hsz : a.size = n) (hshape : ∀ t, (Ti.get t).isSome = (T0.get t).isSome) : ∀ (ts : List Nat),
    (∀ t ∈ ts, ∀ v, Ti.get t = some v → a.getD t undef = conc τ v ∧ topOf v ≤ nx) →
    ∃ tm' a', TR τ n nx tm' a' ∧ (∀ t, (tm'.get t).isSome = (T0.get t).isSome) ∧ (∀ t ∈ ts, tm'.get t = Ti.get t) ∧ ∀ t ∈ ts, a'.getD t undef = a.getD t undef
  | [], _ => ⟨T0, a0, h0, fun _ => rfl, by simp, by simp⟩
  | t :: ts, hv => by
    obtain ⟨tm', a', h1, h2, h3, h4⟩ := stand_in h0 hsz hshape ts fun t ht => hv t (List.mem_cons_of_mem _ ht)
    have look : ∀ {u : Value} {s : Nat}, (t = s → (t < n ∧ u = a.getD t undef) ∨ (n ≤ t ∧ a.getD t undef = undef)) → (t ≠ s → a'.getD s undef = a.getD s undef) → (a'.setIfInBounds t u).getD s undef = a.getD s undef := by
      intro u s he hne
      by_cases e : t = s
      · subst e
        rw [Array.getD_eq_getD_getElem?]
        rcases he rfl with ⟨hlt, rfl⟩ | ⟨hge, hu⟩
        · rw [Array.getElem?_setIfInBounds_self_of_lt (by rw [h1.size]; exact hlt)]; rfl
        · rw [Array.getElem?_eq_none (by simp [h1.size]; omega), hu]; rfl
      · rw [Array.getD_eq_getD_getElem?, Array.getElem?_setIfInBounds_ne e, ← Array.getD_eq_getD_getElem?]; exact hne e
    have big : n ≤ t → a.getD t undef = undef := fun hge => by rw [Array.getD_eq_getD_getElem?, Array.getElem?_eq_none (by omega)]; rfl
    cases hg : Ti.get t with
    | none =>
      have hn : tm'.get t = none := by
        have := h2 t
        rw [← hshape t, hg] at this
        cases hx : tm'.get t with
        | none => rfl
        | some y => rw [hx] at this; cases this
      refine ⟨tm', a'.setIfInBounds t (a.getD t undef), ⟨by simp [h1.size], fun s v hs => ?_, h1.sc⟩, h2, fun s hs => ?_, fun s hs => ?_⟩
      · have hne : t ≠ s := fun e => by subst e; rw [hn] at hs; cases hs
        rw [Array.getD_eq_getD_getElem?, Array.getElem?_setIfInBounds_ne hne, ← Array.getD_eq_getD_getElem?]; exact h1.rel s v hs
      · rcases List.mem_cons.1 hs with rfl | hs
        · rw [hg, hn]
        · exact h3 s hs
      · refine look (fun _ => ?_) (fun hne => ?_)
        · rcases Nat.lt_or_ge t n with h' | h'
          · exact .inl ⟨h', rfl⟩
          · exact .inr ⟨h', big h'⟩
        · rcases List.mem_cons.1 hs with rfl | hs
          · exact absurd rfl hne
          · exact h4 s hs
    | some v =>
      obtain ⟨g1, g2⟩ := hv t List.mem_cons_self v hg
      have hold : (tm'.get t).isSome = true := by rw [h2 t, ← hshape t, hg]; rfl
      refine ⟨tm'.upd t v, a'.setIfInBounds t (conc τ v), h1.put' (fun hge => by rw [← g1, big hge]) g2, fun s => ?_, fun s hs => ?_, fun s hs => ?_⟩
      · rw [T.get_upd]
        split
        · rw [Option.isSome_map]; exact h2 s
        · exact h2 s
      · rw [T.get_upd]
        by_cases e : t = s
        · subst e
          rw [if_pos rfl, hg]
          cases hx : tm'.get t with
          | none => rw [hx] at hold; cases hold
          | some y => rfl
        · rw [if_neg e]
          rcases List.mem_cons.1 hs with rfl | hs
          · exact absurd rfl e
          · exact h3 s hs
      · refine look (fun _ => ?_) (fun hne => ?_)
        · rcases Nat.lt_or_ge t n with h' | h'
          · exact .inl ⟨h', g1.symm⟩
          · exact .inr ⟨h', big h'⟩
        · rcases List.mem_cons.1 hs with rfl | hs
          · exact absurd rfl hne
          · exact h4 s hs

/-! Temporaries of the text's order. -/
section
variable {E : Env} {call : FuncId → List AVal → AMode → AW → Orc → FR} {n : Nat} {ops : Array Oper} {J : Nat} {T : Nat → T AVal} {W B : Nat → AW} {V : Nat → AVal} {L : List AW}
theorem T_shape (hTr : ∀ i x, i < J → ops[i]? = some x → Trace E call n ops J T W B V L i x) (hJ : J ≤ ops.size) : ∀ i, i ≤ J → ∀ t, ((T i).get t).isSome = ((T 0).get t).isSome
  | 0, _, _ => rfl
  | i + 1, hi, t => by
    have hx : ops[i]? = some ops[i] := Array.getElem?_eq_getElem (by omega)
    have := (hTr i _ (by omega) hx).put
    rw [this]
    have ih := T_shape hTr hJ i (by omega) t
    unfold putO
    split
    · exact ih
    · rw [Go.Ev.T.get_upd]
      split
      · rw [Option.isSome_map]; exact ih
      · exact ih
theorem T_same (hTr : ∀ i x, i < J → ops[i]? = some x → Trace E call n ops J T W B V L i x) (hJ : J ≤ ops.size) {t j : Nat} : ∀ i, j ≤ i → i ≤ J → (∀ k x, j ≤ k → k < i → ops[k]? = some x → x.dst ≠ some t) → (T i).get t = (T j).get t
  | 0, hj, _, _ => by
    have : j = 0 := by omega
    subst this; rfl
  | i + 1, hj, hi, h => by
    by_cases e : j = i + 1
    · subst e; rfl
    · have hx : ops[i]? = some ops[i] := Array.getElem?_eq_getElem (by omega)
      have hp := (hTr i _ (by omega) hx).put
      have ih := T_same hTr hJ (t := t) (j := j) i (by omega) (by omega) fun k x h1 h2 h3 => h k x h1 (by omega) h3
      rw [hp]
      have hne := h i _ (by omega) (by omega) hx
      unfold putO
      split
      · exact ih
      · rename_i d hd
        rw [Go.Ev.T.get_upd, if_neg (fun e' => hne (by rw [hd, e']))]; exact ih
theorem T_put (hTr : ∀ i x, i < J → ops[i]? = some x → Trace E call n ops J T W B V L i x) (hJ : J ≤ ops.size) (hD : DrawOk ops) {t j : Nat} {y : Oper} (hy : ops[j]? = some y) (hd : y.dst = some t) {i : Nat} (hji : j < i) (hi : i ≤ J) {v : AVal} (hv : (T i).get t = some v) : v = V j := by
  have h1 : (T i).get t = (T (j + 1)).get t := T_same hTr hJ i (by omega) hi fun k x h1 h2 h3 hk => by
    have := hD.once h3 hy hd hk
    omega
  rw [h1, (hTr j y (by omega) hy).put, hd] at hv
  simp only [putO, Go.Ev.T.get_upd, if_pos rfl] at hv
  cases hg : (T j).get t with
  | none => simp [hg] at hv
  | some u => simp [hg] at hv; exact hv.symm
theorem W_mono (hTr : ∀ i x, i < J → ops[i]? = some x → Trace E call n ops J T W B V L i x) (hJ : J ≤ ops.size) {j : Nat} : ∀ i, j ≤ i → i ≤ J → (W j).next ≤ (W i).next
  | 0, hj, _ => by
    have : j = 0 := by omega
    subst this; exact Nat.le_refl _
  | i + 1, hj, hi => by
    by_cases e : j = i + 1
    · subst e; exact Nat.le_refl _
    · have hx : ops[i]? = some ops[i] := Array.getElem?_eq_getElem (by omega)
      have ih := W_mono hTr hJ (j := j) i (by omega) (by omega)
      rcases (hTr i _ (by omega) hx).fact with ⟨_, h, _⟩ | ⟨_, v0, _, _, ⟨_, _, h, _⟩ | ⟨_, ⟨_, h⟩, _⟩⟩
      · rw [h]; exact ih
      · rw [h]; exact ih
      · exact Nat.le_trans ih h
end
end Go.Ev

/- Drawn regions: the invariant. -/
set_option linter.unusedSimpArgs false
set_option linter.unusedVariables false
namespace Go.Ev
variable [Rho]

structure Cx (E : Env) (call : FuncId → List AVal → AMode → AW → Orc → FR) (n : Nat) (ops : Array Oper) (J : Nat) (T : Nat → T AVal) (W B : Nat → AW) (V : Nat → AVal) (L : List AW) : Prop where
  hE : E.Ok
  hC : CallOk E.P call
  hD : DrawOk ops
  hJ : J ≤ ops.size
  hB0 : B 0 = W 0
  hL : ∀ i, i ≤ J → L[cnt ops i]? = some (B i)
  hTr : ∀ i x, i < J → ops[i]? = some x → Trace E call n ops J T W B V L i x

/-- A block made ahead of its place in the text. -/
def Early (E : Env) (lo : Nat) (τ : Sg) (A Ag : AW) (x : Oper) (w : World) : Prop :=
  ∃ t z o, x.op = .alloc t ∧ zeroT E t = some z ∧ τ.cap Ag.next = 0 ∧ τ.ty Ag.next = t ∧ τ.fr Ag.next = (0, 0) ∧ w.heap[τ.blk Ag.next]? = some o ∧
    (∀ (υ : Sg) (id c : Nat), BR (υ.put id c 0 t (0, 0)) id (newCells (cellsOf z)) o) ∧ (∀ m, (newCells (cellsOf z)).Scoped m) ∧ (∀ i b, lookB A.blks i = some b → τ.blk i ≠ τ.blk Ag.next) ∧ lo ≤ τ.blk Ag.next

structure Inv (E : Env) (n : Nat) (ops : Array Oper) (J : Nat) (W B : Nat → AW) (V : Nat → AVal) (σ0 : Sg) (w0 : World) (a0 : Act) (D : Nat → Prop) (q : Nat) (τ : Sg) (a : Act) (w : World) : Prop where
  closed : Closed ops D
  qJ : q ≤ J
  base : B q = W q
  last : q = 0 ∨ ∃ y, ops[q - 1]? = some y ∧ realOp y = true
  done : ∀ i x, ops[i]? = some x → realOp x = true → i < q → D i
  todo : ∀ i x, ops[i]? = some x → realOp x = true → D i → i < q
  to : To σ0 (W 0) w0 τ (W q) w
  early : ∀ g x, D g → q ≤ g → g < J → ops[g]? = some x → isAlloc x.op = true → Early E w0.heap.size τ (W q) (W g) x w
  sep : ∀ g x g' x', D g → q ≤ g → g < J → ops[g]? = some x → isAlloc x.op = true → D g' → q ≤ g' → g' < J → ops[g']? = some x' → isAlloc x'.op = true → τ.blk (W g).next = τ.blk (W g').next → g = g'
  size : a.tmps.size = n
  tmp : ∀ i x d, D i → i < J → ops[i]? = some x → x.dst = some d → a.tmps.getD d undef = conc τ (V i)
  sc : ∀ i x, D i → i < J → ops[i]? = some x → (isAlloc x.op = true → i < q) → topOf (V i) ≤ (W q).next
  old : ∀ t, (∀ i x, D i → ops[i]? = some x → x.dst ≠ some t) → a.tmps[t]? = a0.tmps[t]?
  dfr : a.defers = a0.defers

section
variable {E : Env} {call : FuncId → List AVal → AMode → AW → Orc → FR} {n : Nat} {ops : Array Oper} {J : Nat} {T : Nat → T AVal} {W B : Nat → AW} {V : Nat → AVal} {L : List AW}
variable {σ0 : Sg} {w0 : World} {a0 : Act} {D : Nat → Prop} {q : Nat} {τ : Sg} {a : Act} {w : World}

theorem alloc_eff {x : Oper} (h : isAlloc x.op = true) : isEff x.op = true ∧ ∃ t, x.op = .alloc t := by
  cases hop : x.op <;> rw [hop] at h <;> first | exact ⟨rfl, _, rfl⟩ | cases h
theorem size_of {i : Nat} {x : Oper} (hx : ops[i]? = some x) : i < ops.size := by
  rcases Nat.lt_or_ge i ops.size with h | h
  · exact h
  · rw [Array.getElem?_eq_none h] at hx; cases hx
theorem alloc_fact (c : Cx E call n ops J T W B V L) {j : Nat} {x : Oper} (hx : ops[j]? = some x) (hj : j < J) (ha : isAlloc x.op = true) :
    ∃ t z, x.op = .alloc t ∧ zeroT E t = some z ∧ notRaw z = true ∧ W (j + 1) = (W j).new (newCells (cellsOf z)) ∧ B (j + 1) = B j ∧ (∀ σ, conc σ (V j) = .pointer (some ⟨σ.blk (W j).next, 0, none⟩)) ∧ topOf (V j) = (W j).next + 1 ∧ x.guard = none := by
  obtain ⟨heff, t, ht⟩ := alloc_eff ha
  have hg : x.guard = none := by
    cases hg : x.guard with
    | none => rfl
    | some p => obtain ⟨i, g⟩ := p; have := (c.hD.guard hx hg).2.2.1; rw [ha] at this; cases this
  rcases (c.hTr j x hj hx).fact with ⟨hw, _⟩ | ⟨_, v0, h1, h2, ⟨he, _⟩ | ⟨_, ⟨⟨o, o1, h3, _⟩, _⟩, h4⟩⟩
  · unfold Wants at hw; rw [hg] at hw; cases hw
  · rw [heff] at he; cases he
  · rw [ht] at h3
    have h5 : eAlloc (W j) o (zeroT E t) = .val v0 (W (j + 1)) o1 := h3
    cases hz : zeroT E t with
    | none => rw [hz] at h5; cases h5
    | some z =>
      rw [hz] at h5
      have h6 : (eB (notRaw z) .fail (.val (.ptr (W j).next 0) ((W j).new (newCells (cellsOf z))) o) : OR) = .val v0 (W (j + 1)) o1 := h5
      cases hr : notRaw z with
      | false => rw [hr, eB_false] at h6; cases h6
      | true =>
        rw [hr, eB_true] at h6
        injection h6 with e1 e2 e3
        subst e1
        exact ⟨t, z, ht, hz, hr, e2.symm, by rw [h4, ha]; rfl, fun σ => h1 σ, h2, hg⟩

/-- What is told of a temporary. -/
theorem slot_ok (c : Cx E call n ops J T W B V L) (h : Inv E n ops J W B V σ0 w0 a0 D q τ a w) (h0 : TR σ0 n (W 0).next (T 0) a0.tmps) {i t : Nat} (hi : i ≤ J)
    (hw : ∀ j y, ops[j]? = some y → y.dst = some t → (D j ∧ j < i) ∨ (¬ D j ∧ i ≤ j)) {v : AVal} (hv : (T i).get t = some v) :
    a.tmps.getD t undef = conc τ v ∧ (topOf v ≤ (W q).next ∨ ∃ j y, q ≤ j ∧ j < i ∧ ops[j]? = some y ∧ isAlloc y.op = true ∧ y.dst = some t ∧ topOf v = (W (j + 1)).next) := by
  by_cases hex : ∃ (j : Nat) (y : Oper), ops[j]? = some y ∧ y.dst = some t ∧ D j ∧ j < i
  · obtain ⟨j, y, hy, hd, hDj, hji⟩ := hex
    have e := T_put c.hTr c.hJ c.hD hy hd hji hi hv
    subst e
    refine ⟨h.tmp j y t hDj (by omega) hy hd, ?_⟩
    by_cases ha : isAlloc y.op = true ∧ q ≤ j
    · obtain ⟨tt, z, _, _, _, hW, _, _, htop, _⟩ := alloc_fact c hy (by omega) ha.1
      exact .inr ⟨j, y, ha.2, hji, hy, ha.1, hd, by rw [htop, hW]; rfl⟩
    · exact .inl (h.sc j y hDj (by omega) hy fun h' => by
        rcases Nat.lt_or_ge j q with h'' | h''
        · exact h''
        · exact absurd ⟨h', h''⟩ ha)
  · have hno : ∀ (j : Nat) (y : Oper), ops[j]? = some y → y.dst = some t → ¬ D j ∧ i ≤ j := fun j y hy hd =>
      (hw j y hy hd).resolve_left fun h' => hex ⟨j, y, hy, hd, h'.1, h'.2⟩
    have e := T_same c.hTr c.hJ (t := t) (j := 0) i (Nat.zero_le _) hi fun k x _ hk2 hk hd => by have := (hno k x hk hd).2; omega
    rw [e] at hv
    have hold := h.old t fun j y hDj hy hd => (hno j y hy hd).1 hDj
    have hsc := h0.sc t v hv
    refine ⟨?_, .inl (Nat.le_trans hsc h.to.s.next)⟩
    rw [Array.getD_eq_getD_getElem?, hold, ← Array.getD_eq_getD_getElem?, h0.rel t v hv, conc_congr h.to.s.agree v hsc]

/-- The next state. -/
theorem inv_next (c : Cx E call n ops J T W B V L) (h : Inv E n ops J W B V σ0 w0 a0 D q τ a w) {i : Nat} {x : Oper} (hx : ops[i]? = some x) (hnot : ¬ D i)
    (hpred : ∀ e ∈ x.after.toList, Region.binds .any e = true → D e.on) {q' : Nat} {τ' : Sg} {w' : World} {u : Value} (hq : q ≤ q') (hqJ : q' ≤ J) (hbase : B q' = W q')
    (hreal : (realOp x = true ∧ q' = i + 1 ∧ q ≤ i ∧ ∀ j y, ops[j]? = some y → realOp y = true → j < i → j < q) ∨ (realOp x = false ∧ q' = q))
    (hto : To σ0 (W 0) w0 τ' (W q') w') (hag : τ.Agree τ' (W q).next)
    (hkeep : ∀ g y, D g → q ≤ g → g < J → ops[g]? = some y → isAlloc y.op = true → τ'.blk (W g).next = τ.blk (W g).next ∧ (q' ≤ g → Early E w0.heap.size τ' (W q') (W g) y w'))
    (hnew : isAlloc x.op = true → i < J → q' ≤ i → Early E w0.heap.size τ' (W q') (W i) x w' ∧ ∀ g y, D g → q ≤ g → g < J → ops[g]? = some y → isAlloc y.op = true → τ.blk (W g).next ≠ τ'.blk (W i).next)
    (hu : i < J → u = conc τ' (V i)) (hsc : i < J → (isAlloc x.op = true → i < q') → topOf (V i) ≤ (W q').next) :
    Inv E n ops J W B V σ0 w0 a0 (fun j => j = i ∨ D j) q' τ' (a.put x.dst u) w' := by
  have hmono : (W q).next ≤ (W q').next := W_mono c.hTr c.hJ q' hq hqJ
  have hput : ∀ d, x.dst ≠ some d → (a.put x.dst u).tmps[d]? = a.tmps[d]? := fun d hd => put_other hd
  -- an old value under the new reading
  have hval : ∀ j y, D j → j < J → ops[j]? = some y → conc τ' (V j) = conc τ (V j) := by
    intro j y hj hjJ hy
    by_cases ha : isAlloc y.op = true ∧ q ≤ j
    · obtain ⟨_, _, _, _, _, _, _, hc, _, _⟩ := alloc_fact c hy hjJ ha.1
      rw [hc, hc, (hkeep j y hj ha.2 hjJ hy ha.1).1]
    · exact conc_congr hag _ (h.sc j y hj hjJ hy fun h' => by
        rcases Nat.lt_or_ge j q with h'' | h''
        · exact h''
        · exact absurd ⟨h', h''⟩ ha)
  have hreal_lt : ∀ j y, ops[j]? = some y → realOp y = true → D j → j < q' := fun j y hy hr hj => by have := h.todo j y hy hr hj; omega
  refine ⟨?_, hqJ, hbase, ?_, ?_, ?_, hto, ?_, ?_, ?_, ?_, ?_, ?_, ?_⟩
  · intro j y hy hj e he hb
    rcases hj with rfl | hj
    · rw [hx] at hy; cases hy; exact .inr (hpred e he hb)
    · exact .inr (h.closed j y hy hj e he hb)
  · rcases hreal with ⟨hr, rfl, _, _⟩ | ⟨_, rfl⟩
    · exact .inr ⟨x, by simpa using hx, hr⟩
    · exact h.last
  · intro j y hy hr hj
    by_cases e : j = i
    · exact .inl e
    · refine .inr ?_
      rcases hreal with ⟨_, rfl, _, hlt⟩ | ⟨_, rfl⟩
      · exact h.done j y hy hr (hlt j y hy hr (by omega))
      · exact h.done j y hy hr hj
  · intro j y hy hr hj
    rcases hj with rfl | hj
    · rw [hx] at hy; cases hy
      rcases hreal with ⟨_, rfl, _, _⟩ | ⟨hf, _⟩
      · omega
      · rw [hf] at hr; cases hr
    · exact hreal_lt j y hy hr hj
  · intro g y hg hqg hgJ hy ha
    rcases hg with rfl | hg
    · rw [hx] at hy; cases hy; exact (hnew ha hgJ hqg).1
    · exact (hkeep g y hg (by omega) hgJ hy ha).2 hqg
  · intro g y g' y' hg hqg hgJ hy ha hg' hqg' hgJ' hy' ha' he
    rcases hg with rfl | hg
    · rw [hx] at hy; cases hy
      rcases hg' with rfl | hg'
      · rfl
      · rw [(hkeep g' y' hg' (by omega) hgJ' hy' ha').1] at he
        exact absurd he.symm ((hnew ha hgJ hqg).2 g' y' hg' (by omega) hgJ' hy' ha')
    · rcases hg' with rfl | hg'
      · rw [hx] at hy'; cases hy'
        rw [(hkeep g y hg (by omega) hgJ hy ha).1] at he
        exact absurd he ((hnew ha' hgJ' hqg').2 g y hg (by omega) hgJ hy ha)
      · rw [(hkeep g y hg (by omega) hgJ hy ha).1, (hkeep g' y' hg' (by omega) hgJ' hy' ha').1] at he
        exact h.sep g y g' y' hg (by omega) hgJ hy ha hg' (by omega) hgJ' hy' ha' he
  · have : (a.put x.dst u).tmps.size = a.tmps.size := by cases hd : x.dst <;> simp [Act.put]
    rw [this, h.size]
  · intro j y d hj hjJ hy hd
    rcases hj with rfl | hj
    · rw [hx] at hy; cases hy
      have hlt := (c.hTr j x hjJ hx).lt d hd
      rw [hd]
      simp only [Act.put, Array.getD_eq_getD_getElem?]
      rw [Array.getElem?_setIfInBounds_self_of_lt (by rw [h.size]; exact hlt), hu hjJ]; rfl
    · have hne : x.dst ≠ some d := fun hxd => by
        have := c.hD.once hx hy hd hxd
        subst this; exact hnot hj
      rw [Array.getD_eq_getD_getElem?, hput d hne, ← Array.getD_eq_getD_getElem?, h.tmp j y d hj hjJ hy hd, hval j y hj hjJ hy]
  · intro j y hj hjJ hy ha
    rcases hj with rfl | hj
    · rw [hx] at hy; cases hy; exact hsc hjJ ha
    · by_cases ha' : isAlloc y.op = true ∧ q ≤ j
      · obtain ⟨_, _, _, _, _, hW, _, _, htop, _⟩ := alloc_fact c hy hjJ ha'.1
        have : (W (j + 1)).next ≤ (W q').next := W_mono c.hTr c.hJ q' (by have := ha ha'.1; omega) hqJ
        rw [htop]
        rw [hW] at this
        exact this
      · exact Nat.le_trans (h.sc j y hj hjJ hy fun h' => by
          rcases Nat.lt_or_ge j q with h'' | h''
          · exact h''
          · exact absurd ⟨h', h''⟩ ha') hmono
  · intro t ht
    rw [hput t (ht i x (.inl rfl) hx)]
    exact h.old t fun j y hj hy => ht j y (.inr hj) hy
  · rw [← h.dfr]; cases x.dst <;> rfl

/-- The blocks made between two places are taken in. -/
theorem adopt (c : Cx E call n ops J T W B V L) (h : Inv E n ops J W B V σ0 w0 a0 D q τ a w) : ∀ (i : Nat), q ≤ i → i ≤ J → (∀ j y, ops[j]? = some y → q ≤ j → j < i → realOp y = false ∧ (isAlloc y.op = true → D j)) →
    To σ0 (W 0) w0 τ (W i) w ∧ B i = B q ∧ ∀ g x, D g → i ≤ g → g < J → ops[g]? = some x → isAlloc x.op = true → ∀ k b, lookB (W i).blks k = some b → τ.blk k ≠ τ.blk (W g).next
  | 0, hq, hi, hb => by
    have : q = 0 := by omega
    subst this
    exact ⟨h.to, rfl, fun g x hg hqg hgJ hx ha k b hk => by
      obtain ⟨_, _, _, _, _, _, _, _, _, _, _, hn, _⟩ := h.early g x hg hqg hgJ hx ha
      exact hn k b hk⟩
  | i + 1, hq, hi, hb => by
    by_cases e : q = i + 1
    · subst e
      exact ⟨h.to, rfl, fun g x hg hqg hgJ hx ha k b hk => by
        obtain ⟨_, _, _, _, _, _, _, _, _, _, _, hn, _⟩ := h.early g x hg hqg hgJ hx ha
        exact hn k b hk⟩
    · obtain ⟨y0, hx⟩ : ∃ y, ops[i]? = some y := ⟨_, Array.getElem?_eq_getElem (by have := c.hJ; omega)⟩
      obtain ⟨g1, g2, g3⟩ := adopt c h i (by omega) (by omega) fun j y hy h1 h2 => hb j y hy h1 (by omega)
      obtain ⟨hnr, hal⟩ := hb i _ hx (by omega) (by omega)
      by_cases ha : isAlloc y0.op = true
      · obtain ⟨t, z, ht, hz, hraw, hW, hB, _, _, _⟩ := alloc_fact c hx (by omega) ha
        have hDi := hal ha
        obtain ⟨t', z', o, e1, e2, e3, e4, e5, e6, e7, e8, e9, e10⟩ := h.early i _ hDi (by omega) (by omega) hx ha
        rw [ht] at e1; cases e1
        rw [hz] at e2; cases e2
        have hbr : BR τ (W i).next (newCells (cellsOf z)) o := by
          have := e7 τ (W i).next (τ.blk (W i).next)
          have hself : τ.put (W i).next (τ.blk (W i).next) 0 t (0, 0) = τ := by
            unfold Sg.put
            congr 1
            · funext j; split
              · rename_i hj; rw [hj]
              · rfl
            · funext j; split
              · rename_i hj; rw [hj, e3]
              · rfl
            · funext j; split
              · rename_i hj; rw [hj, e4]
              · rfl
            · funext j; split
              · rename_i hj; rw [hj, e5]
              · rfl
          rw [hself] at this; exact this
        have hnim := g3 i _ hDi (Nat.le_refl _) (by omega) hx ha
        refine ⟨?_, by rw [hB, g2], ?_⟩
        · rw [hW]; exact g1.adopt (e8 _) e6 hbr hnim e10
        · intro g x hg hig hgJ hxg hag k b hk
          rw [hW] at hk
          have hk' : lookB (((W i).next, newCells (cellsOf z)) :: (W i).blks) k = some b := hk
          rw [lookB_cons] at hk'
          split at hk'
          · rename_i he
            simp only at he
            rw [← he]
            intro heq
            have := h.sep i _ g x hDi (by omega) (by omega) hx ha hg (by omega) hgJ hxg hag heq
            omega
          · exact g3 g x hg (by omega) hgJ hxg hag k b hk'
      · have hne : isEff y0.op = false := by
          unfold realOp at hnr
          cases he : isEff y0.op with
          | false => rfl
          | true => rw [he] at hnr; simp [ha] at hnr
        have hWB : W (i + 1) = W i ∧ B (i + 1) = B i := by
          rcases (c.hTr i _ (by omega) hx).fact with ⟨_, h1, h2, _⟩ | ⟨_, v0, _, _, ⟨_, _, h1, h2, _⟩ | ⟨he, _⟩⟩
          · rw [hnr] at h2; exact ⟨h1, h2⟩
          · exact ⟨h1, h2⟩
          · rw [hne] at he; cases he
        rw [hWB.1, hWB.2]
        exact ⟨g1, g2, fun g x hg hig hgJ hxg hag => g3 g x hg (by omega) hgJ hxg hag⟩
end
end Go.Ev

/- Drawn regions: each operation. -/
set_option linter.unusedSimpArgs false
set_option linter.unusedVariables false
namespace Go.Ev
variable [Rho]

noncomputable def slots (ops : Array Oper) (x : Oper) : List Nat := tmpsOf x.op ++ (match x.guard with | some (g, _) => (dstsOf ops g).toList | none => [])

section
variable {E : Env} {call : FuncId → List AVal → AMode → AW → Orc → FR} {n : Nat} {ops : Array Oper} {J : Nat} {T : Nat → T AVal} {W B : Nat → AW} {V : Nat → AVal} {L : List AW}
variable {σ0 : Sg} {w0 : World} {a0 : Act} {D : Nat → Prop} {q : Nat} {τ : Sg} {a : Act} {w : World}

theorem slot_writer (hD : DrawOk ops) {i : Nat} {x : Oper} (hx : ops[i]? = some x) {t : Nat} (ht : t ∈ slots ops x) {j : Nat} {y : Oper} (hy : ops[j]? = some y) (hd : y.dst = some t) :
    (j < i ∧ Ahead ops j i ∧ (isEff x.op = true ∨ isAlloc y.op = false)) ∨ (isRead x.op = false ∧ i ≤ j ∧ (j = i ∨ Ahead ops i j)) := by
  rcases List.mem_append.1 ht with ht | ht
  · exact hD.reads hx hy hd ht
  · cases hg : x.guard with
    | none => rw [hg] at ht; cases ht
    | some p =>
      obtain ⟨g, gb⟩ := p
      rw [hg] at ht
      obtain ⟨h1, h2, _, z, hz, hza⟩ := hD.guard hx hg
      have ht' : dstsOf ops g = some t := by simpa using ht
      rw [dstsOf_eq, hz] at ht'
      have : j = g := (hD.once hz hy hd (by simpa using ht')).symm ▸ rfl
      subst this
      rw [hy] at hz; cases hz
      exact .inl ⟨h1, h2, .inr hza⟩
theorem closed_preds (h : Inv E n ops J W B V σ0 w0 a0 D q τ a w) {i : Nat} {x : Oper} (hx : ops[i]? = some x) (hpred : ∀ e ∈ x.after.toList, Region.binds .any e = true → D e.on) {j : Nat} (ha : Ahead ops j i) : D j :=
  closed_ahead h.closed i x j hx hpred ha
theorem yielded_same {a b : Array Value} {g d : Nat} (hs : a.size = b.size) (hd : dstsOf ops g = some d) (h : a.getD d undef = b.getD d undef) : yielded ops a g = yielded ops b g := by
  rw [dstsOf_eq] at hd
  have : a[d]? = b[d]? := by
    rcases Nat.lt_or_ge d a.size with hlt | hge
    · rw [Array.getD_eq_getD_getElem?, Array.getD_eq_getD_getElem?, Array.getElem?_eq_getElem hlt, Array.getElem?_eq_getElem (by omega)] at h
      rw [Array.getElem?_eq_getElem hlt, Array.getElem?_eq_getElem (by omega)]
      exact congrArg some h
    · rw [Array.getElem?_eq_none hge, Array.getElem?_eq_none (by omega)]
  simp only [yielded, hd, Option.bind_some, this]

/-- An operation seen through a stand-in. -/
theorem view (c : Cx E call n ops J T W B V L) (h : Inv E n ops J W B V σ0 w0 a0 D q τ a w) (h0 : TR σ0 n (W 0).next (T 0) a0.tmps) {i : Nat} {x : Oper} (hx : ops[i]? = some x) (hi : i ≤ J) (hnot : ¬ D i)
    (hpred : ∀ e ∈ x.after.toList, Region.binds .any e = true → D e.on) {nx : Nat} (hnx : (W q).next ≤ nx)
    (hal : ∀ j y t, t ∈ slots ops x → ops[j]? = some y → y.dst = some t → isAlloc y.op = true → j < i → (W (j + 1)).next ≤ nx) :
    ∃ (tm' : Go.Ev.T AVal) (a' : Act), TR τ n nx tm' a'.tmps ∧ (∀ t ∈ tmpsOf x.op, (T i).get t = tm'.get t) ∧ ((∀ cs b, x.op ≠ .select cs b) → execOp a.eval x = execOp a'.eval x) ∧ (∀ bb, Wants ops (T i) x bb → Region.wanted x (yielded ops a.tmps) = bb) := by
  have hslot : ∀ t ∈ slots ops x, ∀ v, (T i).get t = some v → a.tmps.getD t undef = conc τ v ∧ topOf v ≤ nx := by
    intro t ht v hv
    obtain ⟨g1, g2⟩ := slot_ok c h h0 (i := i) (t := t) hi (fun j y hy hd => by
      rcases slot_writer c.hD hx ht hy hd with ⟨k1, k2, _⟩ | ⟨_, k1, k2⟩
      · exact .inl ⟨closed_preds h hx hpred k2, k1⟩
      · refine .inr ⟨fun hDj => hnot ?_, k1⟩
        rcases k2 with rfl | k2
        · exact hDj
        · exact closed_ahead h.closed j y i hy (fun e he hb => h.closed j y hy hDj e he hb) k2) hv
    refine ⟨g1, ?_⟩
    rcases g2 with g2 | ⟨j, y, _, hji, hy, ha, hd, htop⟩
    · omega
    · rw [htop]; exact hal j y t ht hy hd ha hji
  have h0' : TR τ n nx (T 0) a0.tmps := by
    have := h0.agree (σ := σ0) (τ := τ) (nx' := nx) h.to.s.agree (Nat.le_trans h.to.s.next hnx)
    exact this
  obtain ⟨tm', at', s1, _, s3, s4⟩ := stand_in h0' h.size (T_shape c.hTr c.hJ i hi) (slots ops x) hslot
  refine ⟨tm', ⟨at', a0.defers⟩, s1, fun t ht => (s3 t (List.mem_append.2 (.inl ht))).symm, fun hsel => ?_, fun bb hw => ?_⟩
  · refine execOp_congr x hsel fun y hy => ?_
    cases y with
    | tmp t => exact (s4 t (List.mem_append.2 (.inl (by unfold tmpsOf; exact List.mem_filterMap.2 ⟨.tmp t, by simpa using hy, rfl⟩)))).symm
    | const c => rfl
    | global g => rfl
    | func f => rfl
  · unfold Wants at hw
    cases hg : x.guard with
    | none => rw [hg] at hw; simp only at hw; rw [hw]; simp [Region.wanted, hg]
    | some p =>
      obtain ⟨g, gb⟩ := p
      rw [hg] at hw
      obtain ⟨o, o1, hgd, ho⟩ := hw
      have hds : ∃ d, dstsOf ops g = some d := by
        unfold guardA at hgd
        split at hgd
        · rename_i d hd; exact ⟨d, hd⟩
        · cases hgd
      obtain ⟨d, hd⟩ := hds
      have hin : d ∈ slots ops x := by unfold slots; rw [hg]; exact List.mem_append.2 (.inr (by simp [hd]))
      have hgd' : guardA (dstsOf ops) tm' o (g, gb) = some (bb, o1) := by
        rw [← hgd]
        unfold guardA
        simp only [hd, s3 d hin]
      have := (guardA_ok (ops := ops) hg hgd').2 ho s1
      rw [← this]
      simp only [Region.wanted, hg]
      rw [yielded_same (h.size.trans s1.size.symm) hd (s4 d hin).symm]

theorem value_steps {P : Program} {b : Frame} {cs : List Frame} {rest : List Nat} {k : List Item} {i : Nat} {x : Oper} (hx : ops[i]? = some x) (hw : Region.wanted x (yielded ops a.tmps) = true) {u : Value} {w' : World}
    (hr : (execOp a.eval x).run P w = .ok (.value u) w') : Steps P (lone (b.at a (.inRegion ops (i :: rest) :: k)) cs w) (lone (b.at (a.put x.dst u) (.inRegion ops rest :: k)) cs w') := by
  have hg := stepG_op (P := P) (b := b) (k := k) (cs := cs) (w := w) (rest := rest) hx hw
  have hfin := fin_at (b := b) (a := a) (k := k) (rest := rest) hx
  refine .one (step_lone_go ?_)
  rw [hg, ← hfin]
  simp [stepG.apply, hr]

/-- What stands ahead of a chain's operation is done. -/
theorem chain_done (c : Cx E call n ops J T W B V L) (h : Inv E n ops J W B V σ0 w0 a0 D q τ a w) {i : Nat} {x : Oper} (hx : ops[i]? = some x) (hr : realOp x = true) (hnot : ¬ D i)
    (hpred : ∀ e ∈ x.after.toList, Region.binds .any e = true → D e.on) :
    q ≤ i ∧ (∀ j y, ops[j]? = some y → realOp y = true → j < i → j < q) ∧ (∀ j y, ops[j]? = some y → q ≤ j → j < i → realOp y = false ∧ (isAlloc y.op = true → D j)) := by
  have hx2 : isEff x.op = true ∧ isAlloc x.op = false := by
    unfold realOp at hr
    cases h1 : isEff x.op <;> cases h2 : isAlloc x.op <;> simp [h1, h2] at hr ⊢
  have hall : ∀ j y, ops[j]? = some y → isEff y.op = true → j < i → D j := fun j y hy he hlt => by
    rcases c.hD.chain hx hy hx2.1 he hlt with ha | ha
    · rw [hx2.2] at ha; cases ha
    · exact closed_preds h hx hpred ha
  have hqi : q ≤ i := by
    rcases Nat.lt_or_ge i q with hlt | hge
    · exact absurd (h.done i x hx hr hlt) hnot
    · exact hge
  have hre : ∀ j y, ops[j]? = some y → realOp y = true → j < i → j < q := fun j y hy hry hlt => by
    have he : isEff y.op = true := by unfold realOp at hry; cases h1 : isEff y.op <;> simp [h1] at hry ⊢
    exact h.todo j y hy hry (hall j y hy he hlt)
  refine ⟨hqi, hre, fun j y hy hqj hlt => ⟨?_, fun ha => hall j y hy (alloc_eff ha).1 hlt⟩⟩
  cases hry : realOp y with
  | false => rfl
  | true => have := hre j y hy hry hlt; omega
theorem alloc_after (c : Cx E call n ops J T W B V L) (h : Inv E n ops J W B V σ0 w0 a0 D q τ a w) {i : Nat} {x : Oper} (hx : ops[i]? = some x) (ha : isAlloc x.op = true) (hnot : ¬ D i) : q ≤ i := by
  rcases Nat.lt_or_ge i q with hlt | hge
  · rcases h.last with h0 | ⟨y, hy, hry⟩
    · omega
    · have hyD := h.done (q - 1) y hy hry (by omega)
      have hy2 : isEff y.op = true ∧ isAlloc y.op = false := by
        unfold realOp at hry
        cases h1 : isEff y.op <;> cases h2 : isAlloc y.op <;> simp [h1, h2] at hry ⊢
      have hne : i ≠ q - 1 := fun e => hnot (e ▸ hyD)
      rcases c.hD.chain hy hx hy2.1 (alloc_eff ha).1 (by omega) with hb | hb
      · rw [hy2.2] at hb; cases hb
      · exact absurd (closed_ahead h.closed (q - 1) y i hy (fun e he hbd => h.closed _ y hy hyD e he hbd) hb) hnot
  · exact hge

/-- The state behind one operation, and the steps to it. -/
def Moves (E : Env) (n : Nat) (ops : Array Oper) (J : Nat) (W B : Nat → AW) (V : Nat → AVal) (σ0 : Sg) (w0 : World) (a0 : Act) (D : Nat → Prop) (a : Act) (w : World) (i : Nat) (x : Oper) : Prop :=
  ∀ (b : Frame) (cs : List Frame) (rest : List Nat) (k : List Item), ∃ q' τ' u w', Inv E n ops J W B V σ0 w0 a0 (fun j => j = i ∨ D j) q' τ' (a.put x.dst u) w' ∧
    Steps E.P (lone (b.at a (.inRegion ops (i :: rest) :: k)) cs w) (lone (b.at (a.put x.dst u) (.inRegion ops rest :: k)) cs w')

theorem early_same {lo : Nat} {A A' Ag : AW} {x : Oper} (h : Early E lo τ A Ag x w) (hn : ∀ i b, lookB A'.blks i = some b → τ.blk i ≠ τ.blk Ag.next) : Early E lo τ A' Ag x w := by
  obtain ⟨t, z, o, h1, h2, h3, h4, h5, h6, h7, h8, _, h10⟩ := h
  exact ⟨t, z, o, h1, h2, h3, h4, h5, h6, h7, h8, hn, h10⟩
theorem early_push {lo : Nat} {A Ag : AW} {x : Oper} (h : Early E lo τ A Ag x w) (o' : Obj) : Early E lo τ A Ag x { w with heap := w.heap.push o' } ∧ τ.blk Ag.next < w.heap.size := by
  obtain ⟨t, z, o, h1, h2, h3, h4, h5, h6, h7, h8, h9, h10⟩ := h
  have hlt : τ.blk Ag.next < w.heap.size := by
    rcases Nat.lt_or_ge (τ.blk Ag.next) w.heap.size with h' | h'
    · exact h'
    · rw [Array.getElem?_eq_none h'] at h6; cases h6
  exact ⟨⟨t, z, o, h1, h2, h3, h4, h5, by rw [Array.getElem?_push_lt hlt]; simpa [Array.getElem?_eq_getElem hlt] using h6, h7, h8, h9, h10⟩, hlt⟩
theorem early_sg {lo : Nat} {τ' : Sg} {A Ag : AW} {x : Oper} (h : Early E lo τ A Ag x w) (hA : τ.Agree τ' A.next) (hlt : ∀ i b, lookB A.blks i = some b → i < A.next)
    (h1 : τ'.blk Ag.next = τ.blk Ag.next ∧ τ'.cap Ag.next = τ.cap Ag.next ∧ τ'.ty Ag.next = τ.ty Ag.next ∧ τ'.fr Ag.next = τ.fr Ag.next) : Early E lo τ' A Ag x w := by
  obtain ⟨t, z, o, e1, e2, e3, e4, e5, e6, e7, e8, e9, e10⟩ := h
  obtain ⟨b1, b2, b3, b4⟩ := h1
  exact ⟨t, z, o, e1, e2, by rw [b2, e3], by rw [b3, e4], by rw [b4, e5], by rw [b1]; exact e6, e7, e8, fun i b hb => by rw [b1, (hA i (hlt i b hb)).1]; exact e9 i b hb, by rw [b1]; exact e10⟩

/-- Not wanted. -/
theorem move_skip (c : Cx E call n ops J T W B V L) (h : Inv E n ops J W B V σ0 w0 a0 D q τ a w) (h0 : TR σ0 n (W 0).next (T 0) a0.tmps) {i : Nat} {x : Oper} (hx : ops[i]? = some x) (hi : i < J) (hnot : ¬ D i)
    (hpred : ∀ e ∈ x.after.toList, Region.binds .any e = true → D e.on) (hw : Wants ops (T i) x false) (hW : W (i + 1) = W i) (hB : B (i + 1) = (if realOp x then W i else B i)) (htop : topOf (V i) = 0) (hv : ∀ σ, conc σ (V i) = undef) :
    Moves E n ops J W B V σ0 w0 a0 D a w i x := by
  have hna : isAlloc x.op = false := by
    cases ha : isAlloc x.op with
    | false => rfl
    | true =>
      obtain ⟨_, _, _, _, _, _, _, _, _, hg⟩ := alloc_fact c hx hi ha
      unfold Wants at hw; rw [hg] at hw; cases hw
  have hwant : Region.wanted x (yielded ops a.tmps) = false := by
    obtain ⟨_, _, _, _, _, hwa⟩ := view c h h0 hx (by omega) hnot hpred (nx := max (W q).next (W J).next) (Nat.le_max_left _ _) fun j y t _ hy _ _ hji =>
      Nat.le_trans (W_mono c.hTr c.hJ J (by omega) (Nat.le_refl _)) (Nat.le_max_right _ _)
    exact hwa false hw
  have hst : ∀ (b : Frame) (cs : List Frame) (rest : List Nat) (k : List Item), Steps E.P (lone (b.at a (.inRegion ops (i :: rest) :: k)) cs w) (lone (b.at (a.put x.dst undef) (.inRegion ops rest :: k)) cs w) :=
    fun b cs rest k => skip_steps hx hwant
  cases hr : realOp x with
  | false =>
    exact fun b cs rest k => ⟨q, τ, undef, w, inv_next c h hx hnot hpred (Nat.le_refl _) h.qJ h.base (.inr ⟨hr, rfl⟩) h.to (Sg.Agree.refl _ _) (fun g y hg hqg hgJ hy ha => ⟨rfl, fun _ => h.early g y hg hqg hgJ hy ha⟩)
      (fun ha => by rw [hna] at ha; cases ha) (fun _ => (hv τ).symm) (fun _ _ => by rw [htop]; exact Nat.zero_le _), hst b cs rest k⟩
  | true =>
    obtain ⟨hqi, hre, hbt⟩ := chain_done c h hx hr hnot hpred
    obtain ⟨g1, g2, g3⟩ := adopt c h i hqi (by omega) hbt
    refine fun b cs rest k => ⟨i + 1, τ, undef, w, inv_next c h hx hnot hpred (by omega) (by omega) (by rw [hB, hr, hW]; rfl) (.inl ⟨hr, rfl, hqi, hre⟩) (by rw [hW]; exact g1) (Sg.Agree.refl _ _)
      (fun g y hg hqg hgJ hy ha => ⟨rfl, fun hge => early_same (h.early g y hg hqg hgJ hy ha) (by rw [hW]; exact g3 g y hg (by omega) hgJ hy ha)⟩)
      (fun ha => by rw [hna] at ha; cases ha) (fun _ => (hv τ).symm) (fun _ _ => by rw [htop]; exact Nat.zero_le _), hst b cs rest k⟩

/-- No effect. -/
theorem move_pure (c : Cx E call n ops J T W B V L) (h : Inv E n ops J W B V σ0 w0 a0 D q τ a w) (h0 : TR σ0 n (W 0).next (T 0) a0.tmps) {i : Nat} {x : Oper} (hx : ops[i]? = some x) (hi : i < J) (hnot : ¬ D i)
    (hpred : ∀ e ∈ x.after.toList, Region.binds .any e = true → D e.on) (hw : Wants ops (T i) x true) {v0 : AVal} (hc : ∀ σ, conc σ (V i) = conc σ v0) (htop : topOf (V i) = topOf v0) (heff : isEff x.op = false)
    (hgv : Gives (pureOp E (B i) (T i) x.op) v0) (hreads : isRead x.op = true → ∀ lo hi, loHi ops.toList (Region.before ops) i = (lo, hi) → lo ≠ hi → ReadFact E L (T J) (x.op, v0, lo, hi)) :
    Moves E n ops J W B V σ0 w0 a0 D a w i x := by
  have hna : isAlloc x.op = false := by
    cases ha : isAlloc x.op with
    | false => rfl
    | true => rw [(alloc_eff ha).1] at heff; cases heff
  have hnr : realOp x = false := by simp [realOp, heff]
  -- the same at the world that there is
  have hgq : Gives (pureOp E (W q) (T i) x.op) v0 := by
    cases hrd : isRead x.op with
    | false => rw [pureOp_world (W q) (B i) x.op hrd]; exact hgv
    | true =>
      cases hlh : loHi ops.toList (Region.before ops) i with
      | mk lo hi' =>
        have hqb := lohi_between (q := q) hlh (fun j y hy hr ha => h.todo j y hy hr (closed_preds h hx hpred ha))
          (fun j y hy hr hlt ha => hnot (closed_ahead h.closed j y i hy (fun e he hb => h.closed j y hy (h.done j y hy hr hlt) e he hb) ha))
        have hib := lohi_between (q := i) hlh (fun j y hy hr ha => ahead_lt c.hD i j x hx ha) (fun j y hy hr hlt ha => by have := ahead_lt c.hD j i y hy ha; omega)
        have hLq := c.hL q h.qJ
        have hLi := c.hL i (by omega)
        rw [h.base] at hLq
        by_cases hne : lo = hi'
        · have : cnt ops q = cnt ops i := by omega
          rw [this, hLi] at hLq
          have e : B i = W q := Option.some.inj hLq
          rw [← e]; exact hgv
        · have hrf := hreads hrd lo hi' hlh hne (cnt ops q) (W q) hLq hqb.1 hqb.2
          simp only at hrf
          rw [pureOp_congr (tm' := T i) x.op fun t ht => ?_] at hrf
          · exact hrf
          · refine T_same c.hTr c.hJ J (by omega) (Nat.le_refl _) fun k y hk1 hk2 hy hd => ?_
            rcases c.hD.reads hx hy hd ht with ⟨h', _⟩ | ⟨h', _⟩
            · omega
            · rw [hrd] at h'; cases h'
  obtain ⟨tm', a', v1, v2, v3, v4⟩ := view c h h0 hx (by omega) hnot hpred (nx := (W q).next) (Nat.le_refl _) fun j y t ht hy hd ha hji => by
    rcases slot_writer c.hD hx ht hy hd with ⟨_, _, h1 | h1⟩ | ⟨_, h1, _⟩
    · rw [heff] at h1; cases h1
    · rw [ha] at h1; cases h1
    · omega
  rw [pureOp_congr x.op v2] at hgq
  have hsel : ∀ cs b, x.op ≠ .select cs b := fun cs b e => by
    rw [e] at heff; cases heff
  have hp := pureOp_ok (w := w) (ac := a') c.hE h.to.r v1 x
  obtain ⟨r1, r2⟩ := hgq.ok hp
  rw [← v3 hsel] at r1
  exact fun b cs rest k => ⟨q, τ, conc τ v0, w, inv_next c h hx hnot hpred (Nat.le_refl _) h.qJ h.base (.inr ⟨hnr, rfl⟩) h.to (Sg.Agree.refl _ _) (fun g y hg hqg hgJ hy ha => ⟨rfl, fun _ => h.early g y hg hqg hgJ hy ha⟩)
    (fun ha => by rw [hna] at ha; cases ha) (fun _ => (hc τ).symm) (fun _ _ => by rw [htop]; exact r2), value_steps hx (v4 true hw) r1⟩

/-- An 'alloc'. -/
theorem move_alloc (c : Cx E call n ops J T W B V L) (h : Inv E n ops J W B V σ0 w0 a0 D q τ a w) {i : Nat} {x : Oper} (hx : ops[i]? = some x) (hnot : ¬ D i)
    (hpred : ∀ e ∈ x.after.toList, Region.binds .any e = true → D e.on) (ha : isAlloc x.op = true) {t : TypeId} {z : AVal} (ht : x.op = .alloc t) (hz : zeroT E t = some z) (hraw : notRaw z = true) (hg : x.guard = none) :
    Moves E n ops J W B V σ0 w0 a0 D a w i x := by
  obtain ⟨o, hrun, hbr, hsc⟩ := alloc_run c.hE hz hraw
  have hnr : realOp x = false := by simp [realOp, ha]
  have hwant : Region.wanted x (yielded ops a.tmps) = true := by simp [Region.wanted, hg]
  have hexec : (execOp a.eval x).run E.P w = .ok (.value (.pointer (some ⟨w.heap.size, 0, none⟩))) { w with heap := w.heap.push o } := by
    simp only [execOp, ht, Sem.run_bind, hrun w, Result.andThen_ok, Sem.run_pure]
  have hst : ∀ (b : Frame) (cs : List Frame) (rest : List Nat) (k : List Item), Steps E.P (lone (b.at a (.inRegion ops (i :: rest) :: k)) cs w) (lone (b.at (a.put x.dst (.pointer (some ⟨w.heap.size, 0, none⟩))) (.inRegion ops rest :: k)) cs { w with heap := w.heap.push o }) :=
    fun b cs rest k => value_steps hx hwant hexec
  have hqi := alloc_after c h hx ha hnot
  by_cases hi : i < J
  · have hmono : (W q).next ≤ (W i).next := W_mono c.hTr c.hJ i hqi (by omega)
    obtain ⟨_, _, _, _, _, hWi, _, hcv, htop, _⟩ := alloc_fact c hx hi ha
    have hag : τ.Agree (τ.put (W i).next w.heap.size 0 t (0, 0)) (W q).next := (τ.put_agree _ _ _ _ _).less hmono
    have hne : ∀ g y, D g → q ≤ g → g < J → ops[g]? = some y → isAlloc y.op = true → (W g).next ≠ (W i).next := by
      intro g y hg hqg hgJ hy hay he
      obtain ⟨_, _, _, _, _, hWg, _, _, _, _⟩ := alloc_fact c hy hgJ hay
      rcases Nat.lt_trichotomy g i with hlt | rfl | hlt
      · have : (W (g + 1)).next ≤ (W i).next := W_mono c.hTr c.hJ i (by omega) (by omega)
        rw [hWg] at this
        have h2 : (W g).next + 1 ≤ (W i).next := this
        omega
      · exact hnot hg
      · have : (W (i + 1)).next ≤ (W g).next := W_mono c.hTr c.hJ g (by omega) (by omega)
        rw [hWi] at this
        have h2 : (W i).next + 1 ≤ (W g).next := this
        omega
    have hto : To σ0 (W 0) w0 (τ.put (W i).next w.heap.size 0 t (0, 0)) (W q) { w with heap := w.heap.push o } := (h.to.junk o).tag hag
    refine fun b cs rest k => ⟨q, τ.put (W i).next w.heap.size 0 t (0, 0), .pointer (some ⟨w.heap.size, 0, none⟩), { w with heap := w.heap.push o },
      inv_next c h hx hnot hpred (Nat.le_refl _) h.qJ h.base (.inr ⟨hnr, rfl⟩) hto hag ?_ ?_ ?_ ?_, hst b cs rest k⟩
    · intro g y hg hqg hgJ hy hay
      have hn := hne g y hg hqg hgJ hy hay
      have hp : (τ.put (W i).next w.heap.size 0 t (0, 0)).blk (W g).next = τ.blk (W g).next ∧ (τ.put (W i).next w.heap.size 0 t (0, 0)).cap (W g).next = τ.cap (W g).next ∧
          (τ.put (W i).next w.heap.size 0 t (0, 0)).ty (W g).next = τ.ty (W g).next ∧ (τ.put (W i).next w.heap.size 0 t (0, 0)).fr (W g).next = τ.fr (W g).next := by simp [Sg.put, hn]
      refine ⟨hp.1, fun _ => ?_⟩
      exact early_sg (early_push (h.early g y hg hqg hgJ hy hay) o).1 hag (fun k b hb => h.to.r.lt k b hb) hp
    · intro _ _ _
      refine ⟨⟨t, z, o, ht, hz, by simp [Sg.put], by simp [Sg.put], by simp [Sg.put], by simp [Sg.put], hbr, hsc, fun k b hb => ?_, ?_⟩, fun g y hg hqg hgJ hy hay => ?_⟩
      · have hk := h.to.r.lt k b hb
        have hlt := h.to.r.lt_heap hb
        have h1 : k ≠ (W i).next := by omega
        simp only [Sg.put, h1, if_false, if_true]
        omega
      · have := h.to.s.size
        simp only [Sg.put, if_true]; exact this
      · have hlt := (early_push (h.early g y hg hqg hgJ hy hay) o).2
        simp only [Sg.put, if_true]
        omega
    · intro _; rw [hcv]; simp [Sg.put]
    · intro _ hlt
      have := hlt ha
      omega
  · refine fun b cs rest k => ⟨q, τ, .pointer (some ⟨w.heap.size, 0, none⟩), { w with heap := w.heap.push o },
      inv_next c h hx hnot hpred (Nat.le_refl _) h.qJ h.base (.inr ⟨hnr, rfl⟩) (h.to.junk o) (Sg.Agree.refl _ _) (fun g y hg hqg hgJ hy hay => ⟨rfl, fun _ => (early_push (h.early g y hg hqg hgJ hy hay) o).1⟩)
        (fun _ hiJ => absurd hiJ hi) (fun hiJ => absurd hiJ hi) (fun hiJ => absurd hiJ hi), hst b cs rest k⟩

/-- An effect seen through a stand-in. -/
theorem view_eff (c : Cx E call n ops J T W B V L) (h : Inv E n ops J W B V σ0 w0 a0 D q τ a w) (h0 : TR σ0 n (W 0).next (T 0) a0.tmps) {i : Nat} {x : Oper} (hx : ops[i]? = some x) (hi : i ≤ J) (hnot : ¬ D i)
    (hpred : ∀ e ∈ x.after.toList, Region.binds .any e = true → D e.on) (hr : realOp x = true) {o o1 : Orc} {r : OR} (he : effOp E call (T i) (W i) o x.op = r) (hr1 : r.orc o = some o1) (ho : Owed o1) :
    To σ0 (W 0) w0 τ (W i) w ∧ OROk E.P τ (W i) w (execOp a.eval x) r := by
  obtain ⟨hqi, hre, hbt⟩ := chain_done c h hx hr hnot hpred
  obtain ⟨g1, g2, g3⟩ := adopt c h i hqi hi hbt
  obtain ⟨tm', a', v1, v2, v3, v4⟩ := view c h h0 hx hi hnot hpred (nx := (W i).next) (W_mono c.hTr c.hJ i hqi hi) fun j y t ht hy hd ha hji => W_mono c.hTr c.hJ i (by omega) hi
  rw [effOp_congr o x.op v2] at he
  have hsel : ∀ cs b, x.op ≠ .select cs b := fun cs b e => by
    rw [e] at he
    have : r = .fail := he.symm
    subst this; cases hr1
  have := effOp_ok (w := w) (ac := a') c.hE g1.r v1 c.hC o x
  rw [he] at this
  rw [v3 hsel]
  exact ⟨g1, (this o1 hr1).2 ho⟩

/-- An effect. -/
theorem move_eff (c : Cx E call n ops J T W B V L) (h : Inv E n ops J W B V σ0 w0 a0 D q τ a w) (h0 : TR σ0 n (W 0).next (T 0) a0.tmps) {i : Nat} {x : Oper} (hx : ops[i]? = some x) (hi : i < J) (hnot : ¬ D i)
    (hpred : ∀ e ∈ x.after.toList, Region.binds .any e = true → D e.on) (hw : Wants ops (T i) x true) {v0 : AVal} (hc : ∀ σ, conc σ (V i) = conc σ v0) (htop : topOf (V i) = topOf v0) (hr : realOp x = true)
    {o o1 : Orc} (he : effOp E call (T i) (W i) o x.op = .val v0 (W (i + 1)) o1) (ho : Owed o1) (hB : B (i + 1) = W (i + 1)) :
    Moves E n ops J W B V σ0 w0 a0 D a w i x := by
  have hna : isAlloc x.op = false := by unfold realOp at hr; cases h2 : isAlloc x.op <;> simp [h2] at hr ⊢
  obtain ⟨hqi, hre, hbt⟩ := chain_done c h hx hr hnot hpred
  obtain ⟨_, _, g3⟩ := adopt c h i hqi (by omega) hbt
  obtain ⟨g1, hval⟩ := view_eff c h h0 hx (by omega) hnot hpred hr he rfl ho
  have hval : ValOk E.P τ (W i) w (execOp a.eval x) v0 (W (i + 1)) := hval
  have hwant : Region.wanted x (yielded ops a.tmps) = true := by
    obtain ⟨_, _, _, _, _, hwa⟩ := view c h h0 hx (by omega) hnot hpred (nx := max (W q).next (W J).next) (Nat.le_max_left _ _) fun j y t _ hy _ _ hji =>
      Nat.le_trans (W_mono c.hTr c.hJ J (by omega) (Nat.le_refl _)) (Nat.le_max_right _ _)
    exact hwa true hw
  intro b cs rest k
  obtain ⟨σ', w', t1, t2, hst⟩ := val_steps (b := b) (cs := cs) (rest := rest) (k := k) hx hwant hval
  -- the new reading below, the old one above
  let τ' : Sg := ⟨fun j => if j < (W (i + 1)).next then σ'.blk j else τ.blk j, fun j => if j < (W (i + 1)).next then σ'.cap j else τ.cap j,
    fun j => if j < (W (i + 1)).next then σ'.ty j else τ.ty j, fun j => if j < (W (i + 1)).next then σ'.fr j else τ.fr j⟩
  have hag1 : σ'.Agree τ' (W (i + 1)).next := fun j hj => by simp [τ', hj]
  have hab : ∀ j, (W (i + 1)).next ≤ j → τ'.blk j = τ.blk j ∧ τ'.cap j = τ.cap j ∧ τ'.ty j = τ.ty j ∧ τ'.fr j = τ.fr j := fun j hj => by
    have : ¬ j < (W (i + 1)).next := by omega
    simp [τ', this]
  have hag2 : τ.Agree τ' (W i).next := t1.s.agree.trans hag1 t1.s.next
  have hto : To σ0 (W 0) w0 τ' (W (i + 1)) w' := (g1.trans t1).tag hag1
  have hgn : ∀ g, i < g → g < J → (W (i + 1)).next ≤ (W g).next := fun g h1 h2 => W_mono c.hTr c.hJ g (by omega) (by omega)
  refine ⟨i + 1, τ', conc σ' v0, w', inv_next c h hx hnot hpred (by omega) (by omega) hB (.inl ⟨hr, rfl, hqi, hre⟩) hto (hag2.less (W_mono c.hTr c.hJ i hqi (by omega))) ?_ (fun ha => by rw [hna] at ha; cases ha)
    (fun _ => by rw [hc]; exact (conc_congr hag1 v0 t2).symm) (fun _ _ => by rw [htop]; exact t2), hst⟩
  intro g y hg hqg hgJ hy hay
  obtain ⟨_, _, _, _, _, hWg, _, _, _, _⟩ := alloc_fact c hy hgJ hay
  rcases Nat.lt_or_ge g i with hlt | hge
  · have h1 : (W (g + 1)).next ≤ (W i).next := W_mono c.hTr c.hJ i (by omega) (by omega)
    rw [hWg] at h1
    have h2 : (W g).next + 1 ≤ (W i).next := h1
    exact ⟨(hag2 _ (by omega)).1, fun h3 => by omega⟩
  · have hne : g ≠ i := fun e => by subst e; exact hnot hg
    have hge' := hgn g (by omega) hgJ
    have hfld := hab _ hge'
    refine ⟨hfld.1, fun _ => ?_⟩
    have he0 := h.early g y hg hqg hgJ hy hay
    have hclt := (early_push he0 (.cells #[] 0)).2
    have hnim := g3 g y hg (by omega) hgJ hy hay
    obtain ⟨t, z, o', e1, e2, e3, e4, e5, e6, e7, e8, e9, e10⟩ := he0
    obtain ⟨b1, b2, b3, b4⟩ := hfld
    refine ⟨t, z, o', e1, e2, by rw [b2, e3], by rw [b3, e4], by rw [b4, e5], ?_, e7, e8, fun j bb hb => ?_, by rw [b1]; exact e10⟩
    · rw [b1, t1.s.frame _ hclt hnim]; exact e6
    · have hj := t1.r.lt j bb hb
      rw [b1, (hag1 j hj).1]
      rcases t1.s.image j bb hb with ⟨j', bb', hj', he'⟩ | hge''
      · rw [← he']; exact hnim j' bb' hj'
      · omega
end
end Go.Ev

/- Drawn regions. -/
set_option linter.unusedSimpArgs false
set_option linter.unusedVariables false
namespace Go.Ev
variable [Rho]

section
variable {E : Env} {call : FuncId → List AVal → AMode → AW → Orc → FR} {n : Nat} {ops : Array Oper} {J : Nat} {T : Nat → T AVal} {W B : Nat → AW} {V : Nat → AVal} {L : List AW}
variable {σ0 : Sg} {w0 : World} {a0 : Act}

theorem real_pan {tm : Go.Ev.T AVal} {A A' : AW} {o o1 : Orc} {x : Oper} {ch : List APan} (he : isEff x.op = true) (h : effOp E call tm A o x.op = .pan ch A' o1) : realOp x = true := by
  cases ha : isAlloc x.op with
  | false => simp [realOp, he, ha]
  | true =>
    obtain ⟨_, t, ht⟩ := alloc_eff ha
    rw [ht] at h
    have h5 : eAlloc A o (zeroT E t) = .pan ch A' o1 := h
    cases hz : zeroT E t with
    | none => rw [hz] at h5; cases h5
    | some z =>
      rw [hz] at h5
      have h6 : (eB (notRaw z) .fail (.val (.ptr A.next 0) (A.new (newCells (cellsOf z))) o) : OR) = .pan ch A' o1 := h5
      cases hr : notRaw z with
      | false => rw [hr, eB_false] at h6; cases h6
      | true => rw [hr, eB_true] at h6; cases h6

variable {b : Frame} {cs0 cs : List Frame} {k : List Item} {ds : List ADef} {m : AMode} {e : AExit} {tm' : Go.Ev.T AVal} {A' : AW}
/-- All is done. -/
theorem draw_end (c : Cx E call n ops J T W B V L) (hend : DEnd E call ops (T 0) J T W e tm' A') (h0 : TR σ0 n (W 0).next (T 0) a0.tmps) (sp0 : Sp σ0 ds m (W 0) b cs0 a0 cs w0) {D : Nat → Prop} {q : Nat} {τ : Sg} {a : Act} {w : World}
    (h : Inv E n ops J W B V σ0 w0 a0 D q τ a w) (hall : ∀ i, i < ops.size → D i) : Led E.P ops n (T 0) b cs0 k σ0 (W 0) w0 a0 (lone (b.at a (.inRegion ops [] :: k)) cs w) e tm' ds m A' := by
  cases hend with
  | normal hJ =>
    obtain ⟨g1, _, _⟩ := adopt c h J h.qJ (Nat.le_refl _) fun j y hy h1 h2 => by
      have hDj := hall j (size_of hy)
      refine ⟨?_, fun _ => hDj⟩
      cases hr : realOp y with
      | false => rfl
      | true => have := h.todo j y hy hr hDj; omega
    have sp := sp0.move g1
    refine ⟨τ, a, cs, w, g1, fun t ht => h.old t fun i x _ hx => ht x (by rw [← Array.getElem?_toList] at hx; exact List.mem_of_getElem? hx), ⟨g1.r, ⟨h.size, fun t v hv => ?_, fun t v hv => ?_⟩, by rw [h.dfr]; exact sp.d, sp.i, sp.h⟩, .one step_region_end⟩
    · exact (slot_ok c h h0 (i := J) (t := t) (Nat.le_refl _) (fun j y hy _ => .inl ⟨hall j (size_of hy), by have := size_of hy; omega⟩) hv).1
    · rcases (slot_ok c h h0 (i := J) (t := t) (Nat.le_refl _) (fun j y hy _ => .inl ⟨hall j (size_of hy), by have := size_of hy; omega⟩) hv).2 with h1 | ⟨j, y, _, hj, _, _, _, h1⟩
      · exact Nat.le_trans h1 (W_mono c.hTr c.hJ J h.qJ (Nat.le_refl _))
      · rw [h1]; exact W_mono c.hTr c.hJ J (by omega) (Nat.le_refl _)
  | pan hx hw hp he hef =>
    obtain ⟨o, o1, hef, _⟩ := hef
    have := h.todo J _ hx (real_pan he hef) (hall J (size_of hx))
    have := h.qJ
    omega

def listedD (listed : Array Bool) : Nat → Prop := fun j => listed.getD j false = true
theorem listed_set {listed : Array Bool} {i : Nat} (hi : i < listed.size) : listedD (listed.setIfInBounds i true) = fun j => j = i ∨ listedD listed j := by
  funext j
  apply propext
  unfold listedD
  by_cases e : j = i
  · subst e; simp [hi]
  · rw [getD_set_ne false (fun e' => e e'.symm)]; simp [e]
def left (ops : Array Oper) (listed : Array Bool) : List Nat := (List.range ops.size).filter fun i => !listed.getD i true
theorem left_set {listed : Array Bool} {i : Nat} (hi : i < ops.size) (hs : listed.size = ops.size) (hn : listed.getD i true = false) : (left ops (listed.setIfInBounds i true)).length < (left ops listed).length := by
  have e : left ops (listed.setIfInBounds i true) = (left ops listed).filter fun j => decide (j ≠ i) := by
    unfold left
    rw [List.filter_filter]
    apply List.filter_congr
    intro j hj
    by_cases e : j = i
    · subst e; simp [hs, hi]
    · rw [getD_set_ne true (fun e' => e e'.symm)]; simp [e]
  rw [e]
  refine List.length_filter_lt_length_iff_exists.2 ⟨i, ?_, by simp⟩
  unfold left
  exact List.mem_filter.2 ⟨List.mem_range.2 hi, by simp only [hn]; rfl⟩

theorem draw_go (c : Cx E call n ops J T W B V L) (hend : DEnd E call ops (T 0) J T W e tm' A') (h0 : TR σ0 n (W 0).next (T 0) a0.tmps) (sp0 : Sp σ0 ds m (W 0) b cs0 a0 cs w0) : ∀ (fuel t : Nat) (listed : Array Bool) (q : Nat) (τ : Sg) (a : Act) (w : World),
    listed.size = ops.size → (left ops listed).length ≤ fuel → Inv E n ops J W B V σ0 w0 a0 (listedD listed) q τ a w →
    Led E.P ops n (T 0) b cs0 k σ0 (W 0) w0 a0 (lone (b.at a (.inRegion ops (Region.linearise.go .any ops fuel t listed []) :: k)) cs w) e tm' ds m A'
  | 0, t, listed, q, τ, a, w, hs, hl, h => by
    refine draw_end c hend h0 sp0 h fun i hi => ?_
    have h1 : left ops listed = [] := List.eq_nil_of_length_eq_zero (by omega)
    unfold listedD
    cases hx : listed.getD i false with
    | true => rfl
    | false =>
      have hlt : i < listed.size := by omega
      have : i ∈ left ops listed := by
        unfold left
        refine List.mem_filter.2 ⟨List.mem_range.2 hi, ?_⟩
        simp only [Array.getD_eq_getD_getElem?, Array.getElem?_eq_getElem hlt, Option.getD_some] at hx ⊢
        rw [hx]; rfl
      rw [h1] at this; cases this
  | fuel + 1, t, listed, q, τ, a, w, hs, hl, h => by
    have hgo : Region.linearise.go .any ops (fuel + 1) t listed [] = match (Region.ready .any ops listed)[t % (Region.ready .any ops listed).length]? with
        | some i => Region.linearise.go .any ops fuel (t / (Region.ready .any ops listed).length) (listed.setIfInBounds i true) [i]
        | none => [].reverse := rfl
    rw [hgo]
    cases hi : (Region.ready .any ops listed)[t % (Region.ready .any ops listed).length]? with
    | none =>
      have hnil : Region.ready .any ops listed = [] := by
        cases hr : Region.ready .any ops listed with
        | nil => rfl
        | cons x xs =>
          rw [hr] at hi
          have hlt : t % (x :: xs).length < (x :: xs).length := Nat.mod_lt _ (by simp)
          simp at hi
          simp at hlt
          omega
      refine draw_end c hend h0 sp0 h fun i hi => ?_
      induction i using Nat.strongRecOn with
      | _ i ih =>
        unfold listedD
        cases hx : listed.getD i false with
        | true => rfl
        | false =>
          have hlt : i < listed.size := by omega
          have : i ∈ Region.ready .any ops listed := by
            refine mem_ready.2 ⟨?_, ops[i], Array.getElem?_eq_getElem hi, fun e he hb => ?_⟩
            · simp only [Array.getD_eq_getD_getElem?, Array.getElem?_eq_getElem hlt, Option.getD_some] at hx ⊢
              exact hx
            · have hb' := c.hD.back (Array.getElem?_eq_getElem hi) (by simpa using he) hb
              exact ih e.on hb' (by omega)
          rw [hnil] at this; cases this
    | some i =>
      simp only []
      rw [linearise_go_acc, List.reverse_singleton, List.singleton_append]
      obtain ⟨hl0, x, hx, hpred⟩ := mem_ready.1 (List.mem_of_getElem? hi)
      have his := size_of hx
      have hlt : i < listed.size := by omega
      have hnot : ¬ listedD listed i := by
        unfold listedD
        simp only [Array.getD_eq_getD_getElem?, Array.getElem?_eq_getElem hlt, Option.getD_some] at hl0 ⊢
        rw [hl0]; simp
      have hpred' : ∀ e ∈ x.after.toList, Region.binds .any e = true → listedD listed e.on := fun e he hb => hpred e (by simpa using he) hb
      have hcount := left_set his hs hl0
      -- behind a move
      have go : Moves E n ops J W B V σ0 w0 a0 (listedD listed) a w i x →
          Led E.P ops n (T 0) b cs0 k σ0 (W 0) w0 a0 (lone (b.at a (.inRegion ops (i :: Region.linearise.go .any ops fuel (t / (Region.ready .any ops listed).length) (listed.setIfInBounds i true) []) :: k)) cs w) e tm' ds m A' := by
        intro hm
        obtain ⟨q', τ', u, w', hinv, hst⟩ := hm b cs (Region.linearise.go .any ops fuel (t / (Region.ready .any ops listed).length) (listed.setIfInBounds i true) []) k
        rw [← listed_set hlt] at hinv
        exact Led.more hst (To.refl sp0.r) (fun _ _ => rfl) (draw_go c hend h0 sp0 fuel _ _ q' τ' _ w' (by simpa using hs) (by omega) hinv)
      by_cases hiJ : i < J
      · rcases (c.hTr i x hiJ hx).fact with ⟨hw, h1, h2, h3, h4⟩ | ⟨hw, v0, h1, h2, ⟨h3, h4, h5, h6, h7⟩ | ⟨h3, ⟨⟨o, o1, h4, h5⟩, _⟩, h6⟩⟩
        · exact go (move_skip c h h0 hx hiJ hnot hpred' hw h1 h2 h3 h4)
        · exact go (move_pure c h h0 hx hiJ hnot hpred' hw h1 h2 h3 h4 h7)
        · cases ha : isAlloc x.op with
          | true =>
            obtain ⟨tt, z, ht, hz, hraw, _, _, _, _, hg⟩ := alloc_fact c hx hiJ ha
            exact go (move_alloc c h hx hnot hpred' ha ht hz hraw hg)
          | false =>
            rw [ha] at h6
            exact go (move_eff c h h0 hx hiJ hnot hpred' hw h1 h2 (by simp [realOp, h3, ha]) h4 h5 h6)
      · cases hend with
        | normal hJ => omega
        | pan hxJ hwJ hp he hef =>
          rename_i xJ ch
          obtain ⟨o, o1, hef, hoo⟩ := hef
          have hrJ := real_pan he hef
          have hnJ : ¬ listedD listed J := fun hd => by have := h.todo J _ hxJ hrJ hd; have := h.qJ; omega
          by_cases heq : i = J
          · subst heq
            rw [hx] at hxJ; cases hxJ
            obtain ⟨g1, hpan⟩ := view_eff c h h0 hx (Nat.le_refl _) hnot hpred' hrJ hef rfl hoo
            have hpan : PanOk E.P τ (W i) w (execOp a.eval x) ch A' := hpan
            have hwant : Region.wanted x (yielded ops a.tmps) = true := by
              obtain ⟨_, _, _, _, _, hwa⟩ := view c h h0 hx (Nat.le_refl _) hnot hpred' (nx := max (W q).next (W i).next) (Nat.le_max_left _ _) fun j y t _ hy _ _ hji =>
                Nat.le_trans (W_mono c.hTr c.hJ i (by omega) (Nat.le_refl _)) (Nat.le_max_right _ _)
              exact hwa true hwJ
            obtain ⟨σ', w', t1, t2, hst⟩ := pan_steps (b := b) (cs := cs) (rest := Region.linearise.go .any ops fuel (t / (Region.ready .any ops listed).length) (listed.setIfInBounds i true) []) (k := k) hx hwant g1.r hpan
            have sp := sp0.move (g1.trans t1)
            exact ⟨σ', a, cs, w', g1.trans t1, fun s hs' => h.old s fun j y _ hy => hs' y (by rw [← Array.getElem?_toList] at hy; exact List.mem_of_getElem? hy), rfl,
              ⟨sp.r, by rw [h.dfr]; exact sp.d, sp.i, sp.h⟩, t2, _, hst⟩
          · have := zip_all hp hx
            have hblt : Nat.blt J i = true := (blt_iff _ _).2 (by omega)
            simp only [hblt, Bool.not_true, Bool.false_or, Bool.or_eq_true] at this
            rcases this with hah | hal
            · exact absurd (closed_preds h hx hpred' hah) hnJ
            · cases hop : x.op <;> rw [hop] at hal <;> try cases hal
              rename_i tt
              have hal' : (match zeroT E tt with | some z => notRaw z | none => false) = true := hal
              cases hz : zeroT E tt with
              | none => rw [hz] at hal'; cases hal'
              | some z =>
                rw [hz] at hal'
                have ha : isAlloc x.op = true := by rw [hop]; rfl
                have hg : x.guard = none := by
                  cases hg : x.guard with
                  | none => rfl
                  | some p => obtain ⟨g, gb⟩ := p; have := (c.hD.guard hx hg).2.2.1; rw [ha] at this; cases this
                exact go (move_alloc c h hx hnot hpred' ha hop hz hal' hg)

theorem draw_ok (hE : E.Ok) (hC : CallOk E.P call) {olh : Option (List (Nat × Nat))} (hlhs : ∀ lh, olh = some lh → LhOk ops lh) {id : Nat} {tm : Go.Ev.T AVal} {ds : List ADef} {m : AMode} {A : AW} {o : Orc} {e : AExit} {tm' : Go.Ev.T AVal} {ds' : List ADef} {m' : AMode} {A' : AW} {o' : Orc}
    (h : region E call n ops true olh tm ds m A o = .out e tm' ds' m' A' o') : o.Le o' ∧ (Owed o' → ∀ ⦃σ a b cs0 cs w k⦄, St σ n tm ds m A b cs0 a cs w →
      Led E.P ops n tm b cs0 k σ A w a (lone (b.at a (.code (.region id ops true) :: k)) cs w) e tm' ds' m' A') := by
  cases holh : olh with
  | none => rw [holh] at h; cases h
  | some lh =>
    rw [holh] at h
    have h1 : runDraw E call n ops lh (dstsOf ops) tm ops.toList 0 [] [A] tm ds m A o = .out e tm' ds' m' A' o' := h
    obtain ⟨hd, hlh⟩ := hlhs lh holh
    have hD := drawOk_ok hd
    obtain ⟨k1, rfl, rfl, k4⟩ := runDraw_told hC hlh ops.toList 0 rfl (Nat.zero_le _) _ _ _ _ _ _ _ _ _ _ _ _ _ h1
    refine ⟨k1, fun ho σ a b cs0 cs w k hst => ?_⟩
    obtain ⟨J, T, W, B, V, L, _, e1, e2, e3, _, h6, h7, _, h9, h10⟩ := k4 ho A rfl (by simp [cnt])
    have c : Cx E call n ops J T W B V L := ⟨hE, hC, hD, h9, by rw [e2, e3], fun i hi => h6 i (Nat.zero_le _) hi, fun i x hi hx => h7 i x (Nat.zero_le _) hi hx⟩
    have hRd : R σ A { w with drawn := w.drawn + 1 } := hst.r.drawn _
    have hto : To σ A w σ A { w with drawn := w.drawn + 1 } := ⟨hRd, ⟨Nat.le_refl _, Sg.Agree.refl _ _, Nat.le_refl _, fun _ _ _ => rfl, fun i b h => .inl ⟨i, b, h, rfl⟩, rfl, rfl⟩⟩
    have hs := step_region_draw (P := E.P) (b := b) (a := a) (k := k) (cs := cs) (w := w) (ops := ops) (id := id)
    refine Led.more (.one hs) hto (fun _ _ => rfl) ?_
    have hsch : Region.schedule (E.P.follows .mixedOrders) ops (w.tape w.drawn (.order b.fn id)) = Region.linearise.go .any ops ops.size (w.tape w.drawn (.order b.fn id)) (Array.replicate ops.size false) [] := by
      simp only [Region.schedule, hE.mixed, Bool.true_or, if_true]; rfl
    rw [hsch]
    have hno : ∀ j, ¬ listedD (Array.replicate ops.size false) j := fun j hj => by
      unfold listedD at hj
      rw [Array.getD_eq_getD_getElem?, Array.getElem?_replicate] at hj
      split at hj <;> cases hj
    have hinv : Inv E n ops J W B V σ { w with drawn := w.drawn + 1 } a (listedD (Array.replicate ops.size false)) 0 σ a { w with drawn := w.drawn + 1 } := by
      refine ⟨fun j x _ hj => absurd hj (hno j), Nat.zero_le _, by rw [e2, e3], .inl rfl, fun i x _ _ hi => by omega, fun i x _ _ hi => absurd hi (hno i), by rw [e2]; exact To.refl hRd, fun g x hg => absurd hg (hno g),
        fun g x g' x' hg => absurd hg (hno g), hst.t.size, fun i x d hi => absurd hi (hno i), fun i x hi => absurd hi (hno i), fun t _ => rfl, rfl⟩
    have hTR : TR σ n (W 0).next (T 0) a.tmps := by rw [e1, e2]; exact hst.t
    have hsp : Sp σ ds' m' (W 0) b cs0 a cs { w with drawn := w.drawn + 1 } := by rw [e2]; exact (hst.move hto).sp
    have := draw_go (k := k) c (e := e) (tm' := tm') (A' := A') (by rw [e1]; exact h10) hTR hsp ops.size (w.tape w.drawn (.order b.fn id)) (Array.replicate ops.size false) 0 σ a { w with drawn := w.drawn + 1 } (by simp)
      (by unfold left; exact Nat.le_trans (List.length_filter_le _ _) (by simp)) hinv
    rw [e1, e2] at this
    exact this
end
end Go.Ev

/- Regions. -/
set_option linter.unusedSimpArgs false
set_option linter.unusedVariables false
namespace Go.Ev
variable [Rho]
section
variable {E : Env} {call : FuncId → List AVal → AMode → AW → Orc → FR} {n : Nat} {ops : Array Oper}
theorem text_ok (hE : E.Ok) (hC : CallOk E.P call) {olh : Option (List (Nat × Nat))} {id : Nat} {tm : T AVal} {ds : List ADef} {m : AMode} {A : AW} {o : Orc} {e : AExit} {tm' : T AVal} {ds' : List ADef} {m' : AMode} {A' : AW} {o' : Orc}
    (h : region E call n ops false olh tm ds m A o = .out e tm' ds' m' A' o') : o.Le o' ∧ (Owed o' → ∀ ⦃σ a b cs0 cs w k⦄, St σ n tm ds m A b cs0 a cs w →
      Led E.P ops n tm b cs0 k σ A w a (lone (b.at a (.code (.region id ops false) :: k)) cs w) e tm' ds' m' A') := by
  have h' : runOps E call n (dstsOf ops) tm ops.toList tm ds m A o = .out e tm' ds' m' A' o' := h
  obtain ⟨k1, k2⟩ := runOps_goes hE hC ops.toList 0 rfl h'
  refine ⟨k1, fun ho σ a b cs0 cs w k hst => ?_⟩
  refine Led.more (.one step_region) (To.refl hst.r) (fun _ _ => rfl) ?_
  have e0 : List.range ops.size = idxs ops 0 := by unfold idxs; rw [List.range_eq_range']; rfl
  rw [e0]
  exact k2 ho hst
end
end Go.Ev

/- Code. -/
set_option linter.unusedSimpArgs false
set_option linter.unusedVariables false
namespace Go.Ev
variable [Rho]

def exOf (σ : Sg) : AExit → Exit
  | .normal => .normal
  | .ret => .ret
  | .exit id => .exit id
  | .pan c => .panic (concP σ c)
/-- The results' slots are as they are said to be. -/
def Keep (σ : Sg) (A : AW) (rs : List Nat) (tm : T AVal) (a : Act) : Prop := ∀ i ∈ rs, ∀ v, tm.get i = some v → a.tmps.getD i undef = conc σ v ∧ topOf v ≤ A.next
def Stand (σ : Sg) (n : Nat) (rs : List Nat) (tm : T AVal) (ds : List ADef) (m : AMode) (A : AW) (b : Frame) (cs0 : List Frame) (a : Act) (cs : List Frame) (w : World) : AExit → Prop
  | .pan c => Sp σ ds m A b cs0 a cs w ∧ PIn c A.next ∧ (ds = [] ∨ Keep σ A rs tm a)
  | _ => St σ n tm ds m A b cs0 a cs w
def COk (P : Program) (n : Nat) (rs : List Nat) (b : Frame) (cs0 : List Frame) (k : List Item) (σ : Sg) (A : AW) (w : World) (mach : Machine) (e : AExit) (tm' : T AVal) (ds' : List ADef) (m' : AMode) (A' : AW) : Prop :=
  ∃ σ' a' cs' w', To σ A w σ' A' w' ∧ Stand σ' n rs tm' ds' m' A' b cs0 a' cs' w' e ∧ Arrives P mach b k cs' (exOf σ' e) a' w'

section
variable {P : Program} {n : Nat} {rs : List Nat} {b : Frame} {cs0 : List Frame} {k : List Item} {σ σ1 : Sg} {A A1 : AW} {w w1 : World} {mach mach1 : Machine} {e : AExit} {tm' : T AVal} {ds' : List ADef} {m' : AMode} {A' : AW}
theorem COk.more (hs : Steps P mach mach1) (hto : To σ A w σ1 A1 w1) (h : COk P n rs b cs0 k σ1 A1 w1 mach1 e tm' ds' m' A') : COk P n rs b cs0 k σ A w mach e tm' ds' m' A' := by
  obtain ⟨σ', a', cs', w', h1, h2, h3⟩ := h
  exact ⟨σ', a', cs', w', hto.trans h1, h2, h3.of_steps hs⟩
/-- Past an item that holds no exit. -/
theorem COk.pass {x : Item} (hx : x.plain = true) (he : e ≠ .normal) (h : COk P n rs b cs0 (x :: k) σ A w mach e tm' ds' m' A') : COk P n rs b cs0 k σ A w mach e tm' ds' m' A' := by
  obtain ⟨σ', a', cs', w', h1, h2, h3⟩ := h
  refine ⟨σ', a', cs', w', h1, h2, h3.pass hx fun _ _ => .inl ?_⟩
  cases e <;> first | exact absurd rfl he | simp [exOf]
end

def CGoes (E : Env) (n : Nat) (rs : List Nat) (c : Code) (K : Cont) : Prop :=
  ∀ ⦃tm ds m A o e tm' ds' m' A' o'⦄, K tm ds m A o = .out e tm' ds' m' A' o' → o.Le o' ∧ (Owed o' → ∀ ⦃σ a b cs0 cs w k⦄, St σ n tm ds m A b cs0 a cs w →
    COk E.P n rs b cs0 k σ A w (lone (b.at a (.code c :: k)) cs w) e tm' ds' m' A')

section
variable {E : Env} {call : FuncId → List AVal → AMode → AW → Orc → FR} {n lf : Nat} {rs : List Nat} {inf : List (Nat × List (Nat × Nat))}
theorem region_goes (hE : E.Ok) (hC : CallOk E.P call) {id : Nat} {ops : Array Oper} {draw : Bool} {olh : Option (List (Nat × Nat))} (hl : draw = true → ∀ lh, olh = some lh → LhOk ops lh) :
    CGoes E n rs (.region id ops draw) (fun tm ds m A o => cRegion rs ops (region E call n ops draw olh tm ds m A o)) := by
  intro tm ds m A o e tm' ds' m' A' o' h
  have hreg : ∀ ⦃e tm' ds' m' A' o'⦄, region E call n ops draw olh tm ds m A o = .out e tm' ds' m' A' o' → o.Le o' ∧ (Owed o' → ∀ ⦃σ a b cs0 cs w k⦄, St σ n tm ds m A b cs0 a cs w →
      Led E.P ops n tm b cs0 k σ A w a (lone (b.at a (.code (.region id ops draw) :: k)) cs w) e tm' ds' m' A') := by
    intro e tm' ds' m' A' o' h
    cases draw with
    | false => exact text_ok hE hC h
    | true => exact draw_ok hE hC (hl rfl) h
  have h' : cRegion rs ops (region E call n ops draw olh tm ds m A o) = .out e tm' ds' m' A' o' := h
  cases hr : region E call n ops draw olh tm ds m A o with
  | fail => rw [hr] at h'; cases h'
  | out e1 tm1 ds1 m1 A1 o1 =>
    rw [hr] at h'
    obtain ⟨k1, k2⟩ := hreg hr
    cases e1 with
    | normal =>
      cases h'
      refine ⟨k1, fun ho σ a b cs0 cs w k hst => ?_⟩
      obtain ⟨σ', a', cs', w', g1, _, g2, g3⟩ := k2 ho (k := k) hst
      exact ⟨σ', a', cs', w', g1, g2, g3⟩
    | ret =>
      cases h'
      refine ⟨k1, fun ho σ a b cs0 cs w k hst => ?_⟩
      obtain ⟨σ', a', cs', w', g1, _, g2⟩ := k2 ho (k := k) hst
      exact g2.elim
    | exit id' =>
      cases h'
      refine ⟨k1, fun ho σ a b cs0 cs w k hst => ?_⟩
      obtain ⟨σ', a', cs', w', g1, _, g2⟩ := k2 ho (k := k) hst
      exact g2.elim
    | pan c =>
      have hcase : (ds1 = [] ∨ keeps rs ops.toList = true) ∧ CR.out (.pan c) tm1 ds1 m1 A1 o1 = .out e tm' ds' m' A' o' := by
        cases ds1 with
        | nil => exact ⟨.inl rfl, h'⟩
        | cons d r =>
          have h'' : (match keeps rs ops.toList with | true => CR.out (.pan c) tm1 (d :: r) m1 A1 o1 | false => CR.fail) = .out e tm' ds' m' A' o' := h'
          cases hk : keeps rs ops.toList with
          | false => rw [hk] at h''; cases h''
          | true => rw [hk] at h''; exact ⟨.inr rfl, h''⟩
      obtain ⟨hk, h''⟩ := hcase
      cases h''
      refine ⟨k1, fun ho σ a b cs0 cs w k hst => ?_⟩
      obtain ⟨σ', a', cs', w', g1, g0, g2, g3, g4, todo, g5⟩ := k2 ho (k := k) hst
      refine ⟨σ', a', cs', w', g1, ⟨g3, g4, ?_⟩, todo, g5⟩
      rcases hk with hk | hk
      · exact .inl hk
      · refine .inr fun i hi v hv => ?_
        subst g2
        have hnot : ∀ x ∈ ops.toList, x.dst ≠ some i := by
          intro x hx hd
          have := List.all_eq_true.1 hk x hx
          rw [hd] at this
          simp [hi] at this
        have hsc := hst.t.sc i v hv
        rw [Array.getD_eq_getD_getElem?, g0 i hnot, ← Array.getD_eq_getD_getElem?, hst.t.rel i v hv, conc_congr g1.s.agree v hsc]
        exact ⟨rfl, Nat.le_trans hsc g1.s.next⟩
theorem iter_zero (f : Cont) (tm : T AVal) (ds : List ADef) (m : AMode) (A : AW) (o : Orc) : iter f 0 tm ds m A o = .fail := rfl
theorem iter_succ (f : Cont) (q : Nat) (tm : T AVal) (ds : List ADef) (m : AMode) (A : AW) (o : Orc) : iter f (q + 1) tm ds m A o = match f tm ds m A o with | .out .normal tm ds m A o => iter f q tm ds m A o | r => r := rfl
theorem loop_ok {c : Code} {K : Cont} (hK : CGoes E n rs c K) : ∀ (q : Nat) ⦃tm ds m A o e tm' ds' m' A' o'⦄, iter K q tm ds m A o = .out e tm' ds' m' A' o' → o.Le o' ∧ (Owed o' → ∀ ⦃σ a b cs0 cs w k⦄, St σ n tm ds m A b cs0 a cs w →
    COk E.P n rs b cs0 k σ A w (lone (b.at a (.code c :: .inLoop c :: k)) cs w) e tm' ds' m' A')
  | 0, tm, ds, m, A, o, e, tm', ds', m', A', o', h => by rw [iter_zero] at h; cases h
  | q + 1, tm, ds, m, A, o, e, tm', ds', m', A', o', h => by
    rw [iter_succ] at h
    cases hr : K tm ds m A o with
    | fail => rw [hr] at h; cases h
    | out e1 tm1 ds1 m1 A1 o1 =>
      rw [hr] at h
      obtain ⟨k1, k2⟩ := hK hr
      cases e1 with
      | normal =>
        obtain ⟨j1, j2⟩ := loop_ok hK q h
        refine ⟨k1.trans j1, fun ho σ a b cs0 cs w k hst => ?_⟩
        obtain ⟨σ', a', cs', w', g1, g2, g3⟩ := k2 (ho.less j1) (k := .inLoop c :: k) hst
        exact COk.more (Steps.trans g3 (.one step_inLoop)) g1 (j2 ho g2)
      | ret => cases h; exact ⟨k1, fun ho σ a b cs0 cs w k hst => COk.pass (x := .inLoop c) rfl (by simp) (k2 ho hst)⟩
      | exit id => cases h; exact ⟨k1, fun ho σ a b cs0 cs w k hst => COk.pass (x := .inLoop c) rfl (by simp) (k2 ho hst)⟩
      | pan ch => cases h; exact ⟨k1, fun ho σ a b cs0 cs w k hst => COk.pass (x := .inLoop c) rfl (by simp) (k2 ho hst)⟩
theorem evC_goes (hE : E.Ok) (hC : CallOk E.P call) : ∀ c : Code, InfOk inf c → CGoes E n rs c (evC E call inf n lf rs c)
  | .skip, hi => by
    intro tm ds m A o e tm' ds' m' A' o' h
    cases h
    exact ⟨Orc.Le.refl _, fun ho σ a b cs0 cs w k hst => ⟨σ, a, cs, w, To.refl hst.r, hst, .one step_skip⟩⟩
  | .region id ops draw, hi => region_goes hE hC hi
  | .seq x y, hi => by
    intro tm ds m A o e tm' ds' m' A' o' h
    have hx := evC_goes hE hC x hi.1
    have hy := evC_goes hE hC y hi.2
    have h' : cSeq (evC E call inf n lf rs x tm ds m A o) (evC E call inf n lf rs y) = .out e tm' ds' m' A' o' := h
    cases hr : evC E call inf n lf rs x tm ds m A o with
    | fail => rw [hr] at h'; cases h'
    | out e1 tm1 ds1 m1 A1 o1 =>
      rw [hr] at h'
      obtain ⟨k1, k2⟩ := hx hr
      cases e1 with
      | normal =>
        obtain ⟨j1, j2⟩ := hy h'
        refine ⟨k1.trans j1, fun ho σ a b cs0 cs w k hst => ?_⟩
        obtain ⟨σ', a', cs', w', g1, g2, g3⟩ := k2 (ho.less j1) (k := .code y :: k) hst
        exact COk.more (.head step_seq g3) g1 (j2 ho g2)
      | ret => cases h'; exact ⟨k1, fun ho σ a b cs0 cs w k hst => COk.more (.one step_seq) (To.refl hst.r) (COk.pass (x := .code y) rfl (by simp) (k2 ho hst))⟩
      | exit id => cases h'; exact ⟨k1, fun ho σ a b cs0 cs w k hst => COk.more (.one step_seq) (To.refl hst.r) (COk.pass (x := .code y) rfl (by simp) (k2 ho hst))⟩
      | pan ch => cases h'; exact ⟨k1, fun ho σ a b cs0 cs w k hst => COk.more (.one step_seq) (To.refl hst.r) (COk.pass (x := .code y) rfl (by simp) (k2 ho hst))⟩
  | .cond c x y, hi => by
    intro tm ds m A o e tm' ds' m' A' o' h
    have hx := evC_goes hE hC x hi.1
    have hy := evC_goes hE hC y hi.2
    have h' : cCond (opd tm c) (evC E call inf n lf rs x) (evC E call inf n lf rs y) tm ds m A o = .out e tm' ds' m' A' o' := h
    unfold cCond at h'
    split at h'
    · rename_i s t hv
      unfold cIf at h'
      split at h'
      · rename_i o1 hd
        obtain ⟨d1, d2⟩ := decide_ok hd
        obtain ⟨k1, k2⟩ := hx h'
        refine ⟨d1.trans k1, fun ho σ a b cs0 cs w k hst => ?_⟩
        obtain ⟨v1, _⟩ := opd_ok hst.t hv
        have ht : t = true := d2 (ho.less k1)
        exact COk.more (.one (step_cond (t := true) (by rw [v1, ht]; rfl))) (To.refl hst.r) (k2 ho hst)
      · rename_i o1 hd
        obtain ⟨d1, d2⟩ := decide_ok hd
        obtain ⟨k1, k2⟩ := hy h'
        refine ⟨d1.trans k1, fun ho σ a b cs0 cs w k hst => ?_⟩
        obtain ⟨v1, _⟩ := opd_ok hst.t hv
        have ht : t = false := d2 (ho.less k1)
        exact COk.more (.one (step_cond (t := false) (by rw [v1, ht]; rfl))) (To.refl hst.r) (k2 ho hst)
      · cases h'
    · rename_i e hv
      unfold cIf Orc.branch at h'
      split at h'
      · rename_i o1 hd
        split at hd <;> cases hd
        obtain ⟨k1, k2⟩ := hx h'
        refine ⟨(Orc.le_cons o _ _).trans k1, fun ho σ a b cs0 cs w k hst => ?_⟩
        obtain ⟨v1, _⟩ := opd_ok hst.t hv
        have ht : nz e.val = true := (ho.less k1) _ List.mem_cons_self
        exact COk.more (.one (step_cond (t := true) (by rw [v1]; simp only [conc, ht]))) (To.refl hst.r) (k2 ho hst)
      · rename_i o1 hd
        split at hd <;> cases hd
        obtain ⟨k1, k2⟩ := hy h'
        refine ⟨(Orc.le_cons o _ _).trans k1, fun ho σ a b cs0 cs w k hst => ?_⟩
        obtain ⟨v1, _⟩ := opd_ok hst.t hv
        have ht : nz e.val = false := (ho.less k1) _ List.mem_cons_self
        exact COk.more (.one (step_cond (t := false) (by rw [v1]; simp only [conc, ht]))) (To.refl hst.r) (k2 ho hst)
      · cases h'
    · cases h'
  | .block id c, hi => by
    intro tm ds m A o e tm' ds' m' A' o' h
    have hc := evC_goes hE hC c hi
    have h' : cBlock id (evC E call inf n lf rs c tm ds m A o) = .out e tm' ds' m' A' o' := h
    cases hr : evC E call inf n lf rs c tm ds m A o with
    | fail => rw [hr] at h'; cases h'
    | out e1 tm1 ds1 m1 A1 o1 =>
      rw [hr] at h'
      obtain ⟨k1, k2⟩ := hc hr
      cases e1 with
      | normal =>
        cases h'
        refine ⟨k1, fun ho σ a b cs0 cs w k hst => ?_⟩
        obtain ⟨σ', a', cs', w', g1, g2, g3⟩ := k2 ho (k := .inBlock id :: k) hst
        exact ⟨σ', a', cs', w', g1, g2, .head step_block (Steps.trans g3 (.one step_inBlock))⟩
      | ret =>
        cases h'
        refine ⟨k1, fun ho σ a b cs0 cs w k hst => ?_⟩
        obtain ⟨σ', a', cs', w', g1, g2, g3⟩ := k2 ho (k := .inBlock id :: k) hst
        exact ⟨σ', a', cs', w', g1, g2, Arrives.of_steps (e := .ret) (k := k) (.one step_block) g3⟩
      | pan ch =>
        cases h'
        refine ⟨k1, fun ho σ a b cs0 cs w k hst => ?_⟩
        obtain ⟨σ', a', cs', w', g1, g2, g3⟩ := k2 ho (k := .inBlock id :: k) hst
        exact ⟨σ', a', cs', w', g1, g2, Arrives.of_steps (e := .panic (concP σ' ch)) (k := k) (.one step_block) g3⟩
      | exit id' =>
        have h'' : (match Nat.beq id' id with | true => CR.out .normal tm1 ds1 m1 A1 o1 | false => CR.out (.exit id') tm1 ds1 m1 A1 o1) = .out e tm' ds' m' A' o' := h'
        cases hb : Nat.beq id' id with
        | true =>
          rw [hb] at h''
          rw [beq_iff] at hb
          cases h''
          refine ⟨k1, fun ho σ a b cs0 cs w k hst => ?_⟩
          obtain ⟨σ', a', cs', w', g1, g2, g3⟩ := k2 ho (k := .inBlock id :: k) hst
          exact ⟨σ', a', cs', w', g1, g2, .head step_block (g3 k (by simp [exitTo, hb]))⟩
        | false =>
          rw [hb] at h''
          rw [beq_false_iff] at hb
          cases h''
          refine ⟨k1, fun ho σ a b cs0 cs w k hst => ?_⟩
          obtain ⟨σ', a', cs', w', g1, g2, g3⟩ := k2 ho (k := .inBlock id :: k) hst
          refine ⟨σ', a', cs', w', g1, g2, fun k' hk => .head step_block (g3 k' ?_)⟩
          have : (id == id') = false := by simp; exact fun h => hb h.symm
          simp [exitTo, this, hk]
  | .loop c, hi => by
    intro tm ds m A o e tm' ds' m' A' o' h
    obtain ⟨k1, k2⟩ := loop_ok (evC_goes hE hC c hi) lf (show iter (evC E call inf n lf rs c) lf tm ds m A o = _ from h)
    exact ⟨k1, fun ho σ a b cs0 cs w k hst => COk.more (.one step_loop) (To.refl hst.r) (k2 ho hst)⟩
  | .rangeFunc .., hi => by intro tm ds m A o e tm' ds' m' A' o' h; cases h
  | .exit id, hi => by
    intro tm ds m A o e tm' ds' m' A' o' h
    cases h
    exact ⟨Orc.Le.refl _, fun ho σ a b cs0 cs w k hst => ⟨σ, a, cs, w, To.refl hst.r, hst, fun k' hk => .one (step_exit hk)⟩⟩
  | .scope .., hi => by intro tm ds m A o e tm' ds' m' A' o' h; cases h
  | .label l, hi => by
    intro tm ds m A o e tm' ds' m' A' o' h
    cases h
    exact ⟨Orc.Le.refl _, fun ho σ a b cs0 cs w k hst => ⟨σ, a, cs, w, To.refl hst.r, hst, .one step_label⟩⟩
  | .goto l, hi => by intro tm ds m A o e tm' ds' m' A' o' h; cases h
  | .ret, hi => by
    intro tm ds m A o e tm' ds' m' A' o' h
    cases h
    exact ⟨Orc.Le.refl _, fun ho σ a b cs0 cs w k hst => ⟨σ, a, cs, w, To.refl hst.r, hst, _, .one step_ret⟩⟩
  | .refuse .., hi => by intro tm ds m A o e tm' ds' m' A' o' h; cases h
end
end Go.Ev

/- A frame's end; a call. -/
set_option linter.unusedSimpArgs false
set_option linter.unusedVariables false
namespace Go.Ev
variable [Rho]

theorem settle_ok (σ : Sg) (u : AMode) : concM σ (settleA u) = settle (concM σ u) := by
  cases u with
  | run => rfl
  | returning => rfl
  | panicking c =>
    cases c with
    | nil => rfl
    | cons p c =>
      obtain ⟨v, r⟩ := p
      cases r with
      | false => rfl
      | true =>
        have : (concP σ c).dropWhile (fun x => !x.goexit) = [] := by
          unfold concP
          induction c with
          | nil => rfl
          | cons q c ih => simpa [List.dropWhile] using ih
        simp only [settleA, concM, concP, List.map_cons, settle]
        unfold concP at this
        rw [this]
theorem raised_ok (σ : Sg) (u : AMode) (c : List APan) : concM σ (raisedA u c) = raised (concM σ u) (concP σ c) := by
  cases u <;> simp [raisedA, concM, raised, concP]
theorem settle_in {u : AMode} {n : Nat} (h : u.In n) : (settleA u).In n := by
  unfold settleA; split
  · trivial
  · exact h
theorem raised_in {u : AMode} {c : List APan} {n : Nat} (h : u.In n) (hc : PIn c n) : (raisedA u c).In n := by
  cases u with
  | panicking old => intro p hp; rcases List.mem_append.1 hp with hp | hp; exact hc p hp; exact h p hp
  | run => exact hc
  | returning => exact hc
theorem settle_run {u : AMode} (h : u ≠ .run) : settleA u ≠ .run := by
  unfold settleA; split
  · simp
  · exact h
theorem raised_run {u : AMode} {c : List APan} : raisedA u c ≠ .run := by cases u <;> simp [raisedA]

section
variable {E : Env} {σ : Sg} {A : AW} {w : World} {a : Act} {tm : T AVal}
theorem resultsA_cons (tm : T AVal) (A : AW) (r : ResultVar) (rs : List ResultVar) : resultsA E tm A (r :: rs) = match r, resultsA E tm A rs with
    | .tmp i, some l => match tm.get i with | some v => some (v :: l) | none => none
    | .cell i t, some l => match tm.get i with
      | some a => match loadA E A t a with | some v => some (v :: l) | none => none
      | none => none
    | _, none => none := rfl
theorem resultsA_ok (hE : E.Ok) (hR : R σ A w) : ∀ {rs : List ResultVar} {l : List AVal}, resultsA E tm A rs = some l → (∀ i ∈ resSlots rs, ∀ v, tm.get i = some v → a.tmps.getD i undef = conc σ v ∧ topOf v ≤ A.next) →
    (rs.mapM (fun r => match r with | .tmp t => pure (a.tmps.getD t undef) | .cell x t => do loadVar t (← asAddr (a.tmps.getD x undef)) : ResultVar → Sem Value)).run E.P w = .ok (concL σ l) w ∧ LIn l A.next
  | [], l, h, _ => by cases h; exact ⟨rfl, by simp [LIn]⟩
  | r :: rs, l, h, hk => by
    rw [resultsA_cons] at h
    have hk' : ∀ i ∈ resSlots rs, ∀ v, tm.get i = some v → a.tmps.getD i undef = conc σ v ∧ topOf v ≤ A.next := fun i hi => hk i (List.mem_cons_of_mem _ hi)
    rw [List.mapM_cons]
    cases r with
    | tmp i =>
      cases hl : resultsA E tm A rs with
      | none => rw [hl] at h; cases h
      | some l' =>
        rw [hl] at h
        cases hv : tm.get i with
        | none => simp [hv] at h
        | some v =>
          simp [hv] at h; subst h
          obtain ⟨h1, h2⟩ := resultsA_ok hE hR hl hk'
          obtain ⟨h3, h4⟩ := hk i List.mem_cons_self v hv
          refine ⟨by simp only [Sem.run_bind, Sem.run_pure, Result.andThen_ok, h3, h1, concL], fun u hu => ?_⟩
          rcases List.mem_cons.1 hu with rfl | hu
          · exact h4
          · exact h2 u hu
    | cell i t =>
      cases hl : resultsA E tm A rs with
      | none => rw [hl] at h; cases h
      | some l' =>
        rw [hl] at h
        cases hv : tm.get i with
        | none => simp [hv] at h
        | some p =>
          simp only [hv] at h
          split at h <;> cases h
          rename_i v hld
          obtain ⟨h1, h2⟩ := resultsA_ok hE hR hl hk'
          obtain ⟨h3, h4⟩ := hk i List.mem_cons_self p hv
          obtain ⟨h5, h6⟩ := load_ok (w := w) hE hR hld
          have hp : ∃ b off, p = .ptr b off := by
            unfold loadA at hld
            split at hld
            · exact ⟨_, _, rfl⟩
            · cases hld
          obtain ⟨b, off, rfl⟩ := hp
          have h7 : (loadVar t ⟨σ.blk b, off, none⟩).run E.P w = .ok (conc σ v) w := by
            simpa [Instr.loadAt, Instr.sureAddr, conc] using h5
          have h3' : a.tmps.getD i undef = .pointer (some ⟨σ.blk b, off, none⟩) := h3
          have h8 : (asAddr (.pointer (some ⟨σ.blk b, off, none⟩))).run E.P w = .ok ⟨σ.blk b, off, none⟩ w := rfl
          refine ⟨by simp only [Sem.run_bind, Sem.run_pure, Result.andThen_ok, h3', h8, h7, h1, concL], fun u hu => ?_⟩
          rcases List.mem_cons.1 hu with rfl | hu
          · exact h6
          · exact h2 u hu
theorem results_ok (hE : E.Ok) (hR : R σ A w) {fn : Func} {l : List AVal} (h : resultsA E tm A fn.results.toList = some l) (hk : Keep σ A (resSlots fn.results.toList) tm a) :
    (results fn a.tmps).run E.P w = .ok (conc σ (resultOf l)) w ∧ topOf (resultOf l) ≤ A.next := by
  obtain ⟨h1, h2⟩ := resultsA_ok (a := a) hE hR h hk
  constructor
  · have e1 : fn.results.mapM (fun r => match r with | .tmp t => pure (a.tmps.getD t undef) | .cell x t => do loadVar t (← asAddr (a.tmps.getD x undef)) : ResultVar → Sem Value) =
        List.toArray <$> (fn.results.toList.mapM (fun r => match r with | .tmp t => pure (a.tmps.getD t undef) | .cell x t => do loadVar t (← asAddr (a.tmps.getD x undef)) : ResultVar → Sem Value)) := Array.mapM_eq_mapM_toList
    have e2 : (fn.results.mapM (fun r => match r with | .tmp t => pure (a.tmps.getD t undef) | .cell x t => do loadVar t (← asAddr (a.tmps.getD x undef)) : ResultVar → Sem Value)).run E.P w = .ok (concL σ l).toArray w := by
      rw [e1, map_eq_pure_bind]
      simp only [Sem.run_bind, h1, Result.andThen_ok, Sem.run_pure]
    simp only [results, Sem.run_bind]
    erw [e2]
    simp only [Result.andThen_ok, Sem.run_pure]
    congr 1
    match l with
    | [] => simp [resultOf, concL, conc]
    | [v] => simp [resultOf, concL]
    | v :: u :: r => simp [resultOf, concL, conc]
  · match l, h2 with
    | [], _ => simp [resultOf, topOf, topOf.topsOf]
    | [v], h2 => exact h2 v List.mem_cons_self
    | v :: u :: r, h2 => exact topOf_tuple_le.2 h2
theorem sweep_to (hR : R σ A w) (q : Nat) : To σ A w σ ⟨A.next, A.esc, cutB A.blks q⟩ w :=
  ⟨hR.less (hR.once.cutB q) fun i x h => lookB_cutB hR.once h, Step.less fun i x h => lookB_cutB hR.once h⟩
end

/-- Where a frame's end leads to. -/
def Left (P : Program) (σ : Sg) (A : AW) (w : World) (fr : Frame) (cs : List Frame) (m : AMode) : FR → Prop
  | .fail => True
  | .ret v m' A' _ => m' = m ∧ ∃ σ' fr' w', To σ A w σ' A' w' ∧ topOf v ≤ A'.next ∧ Steps P (lone fr cs w) (lone fr' cs w') ∧ fr'.fn = fr.fn ∧ fr'.kind = fr.kind ∧ fr'.going P w' (.returned (conc σ' v))
  | .pan c m' A' _ => m' = m ∧ ∃ σ' fr' w', To σ A w σ' A' w' ∧ PIn c A'.next ∧ Steps P (lone fr cs w) (lone fr' cs w') ∧ fr'.fn = fr.fn ∧ fr'.kind = fr.kind ∧ fr'.going P w' (.panicked (concP σ' c))
section
variable {P : Program} {σ σ1 : Sg} {A A1 : AW} {w w1 : World} {fr fr1 : Frame} {cs : List Frame} {m : AMode} {r : FR}
theorem Left.more (hs : Steps P (lone fr cs w) (lone fr1 cs w1)) (ht : To σ A w σ1 A1 w1) (hf : fr1.fn = fr.fn) (hk : fr1.kind = fr.kind) (h : Left P σ1 A1 w1 fr1 cs m r) : Left P σ A w fr cs m r := by
  cases r with
  | fail => trivial
  | ret v m' A' o => obtain ⟨h0, σ', fr', w', h1, h2, h3, h4, h5, h6⟩ := h; exact ⟨h0, σ', fr', w', ht.trans h1, h2, hs.trans h3, h4.trans hf, h5.trans hk, h6⟩
  | pan c m' A' o => obtain ⟨h0, σ', fr', w', h1, h2, h3, h4, h5, h6⟩ := h; exact ⟨h0, σ', fr', w', ht.trans h1, h2, hs.trans h3, h4.trans hf, h5.trans hk, h6⟩
end

section
variable {E : Env} {call : FuncId → List AVal → AMode → AW → Orc → FR}
theorem leaveA_nil (rs : List ResultVar) (base : Nat) (m : AMode) (tm : T AVal) (u : AMode) (A : AW) (o : Orc) : leaveA E call rs base m tm [] u A o = match u with
      | .returning => match resultsA E tm A rs with
        | some l => .ret (resultOf l) m (sweep base (resultOf l) A) o
        | none => .fail
      | .panicking c => .pan c m (sweepPan base c A) o
      | .run => .fail := rfl
theorem leaveA_cons (rs : List ResultVar) (base : Nat) (m : AMode) (tm : T AVal) (d : ADef) (ds : List ADef) (u : AMode) (A : AW) (o : Orc) : leaveA E call rs base m tm (d :: ds) u A o = match call d.fn d.args u A o with
      | .ret _ u' A' o' => leaveA E call rs base m tm ds (settleA u') A' o'
      | .pan c u' A' o' => leaveA E call rs base m tm ds (raisedA u' c) A' o'
      | .fail => .fail := rfl
theorem leave_ok (hE : E.Ok) (hC : CallOk E.P call) {fn : Func} {base : Nat} {m : AMode} {tm : T AVal} : ∀ (ds : List ADef) (u : AMode) (A : AW) (o o' : Orc),
    (leaveA E call fn.results.toList base m tm ds u A o).orc = some o' → o.Le o' ∧ (Owed o' → ∀ σ w fr cs, R σ A w → u.In A.next → u ≠ .run → fr.mode = concM σ u → DefsOk σ A.next ds fr.defers →
      ((ds = [] ∧ u ≠ .returning) ∨ Keep σ A (resSlots fn.results.toList) tm ⟨fr.tmps, fr.defers⟩) → E.P.funcs[fr.fn]? = some fn →
      Left E.P σ A w fr cs m (leaveA E call fn.results.toList base m tm ds u A o))
  | [], u, A, o, o', h => by
    rw [leaveA_nil] at h ⊢
    cases u with
    | run => cases h
    | returning =>
      simp only at h ⊢
      cases hr : resultsA E tm A fn.results.toList with
      | none => rw [hr] at h; cases h
      | some l =>
        rw [hr] at h
        cases h
        refine ⟨Orc.Le.refl _, fun ho σ w fr cs hR hu hrun hm hd hk hf => ?_⟩
        have hk' : Keep σ A (resSlots fn.results.toList) tm ⟨fr.tmps, fr.defers⟩ := hk.resolve_left fun h => h.2 rfl
        obtain ⟨h1, h2⟩ := results_ok hE hR hr hk'
        have hd0 : fr.defers = [] := by
          cases hd' : fr.defers with
          | nil => rfl
          | cons x y => rw [hd'] at hd; exact hd.elim
        exact ⟨rfl, σ, fr, w, sweep_to hR _, h2, Steps.refl _ _, rfl, rfl, hm, hd0, fn, hf, h1⟩
    | panicking c =>
      cases h
      refine ⟨Orc.Le.refl _, fun ho σ w fr cs hR hu hrun hm hd hk hf => ?_⟩
      have hd0 : fr.defers = [] := by
        cases hd' : fr.defers with
        | nil => rfl
        | cons x y => rw [hd'] at hd; exact hd.elim
      exact ⟨rfl, σ, fr, w, sweep_to hR _, hu, Steps.refl _ _, rfl, rfl, hm, hd0, fn, hf⟩
  | d :: ds, u, A, o, o', h => by
    rw [leaveA_cons] at h ⊢
    have hc := hC d.fn d.args u A o
    -- the deferred call
    have mono : ∀ {σ1 : Sg} {A1 : AW} {σ : Sg} {w w1 : World} {t : Act}, To σ A w σ1 A1 w1 → Keep σ A (resSlots fn.results.toList) tm t → Keep σ1 A1 (resSlots fn.results.toList) tm t := by
      intro σ1 A1 σ w w1 t ht hk i hi v hv
      obtain ⟨g1, g2⟩ := hk i hi v hv
      exact ⟨by rw [g1, conc_congr ht.s.agree v g2], Nat.le_trans g2 ht.s.next⟩
    cases hcall : call d.fn d.args u A o with
    | fail => rw [hcall] at h; cases h
    | ret v u' A1 o1 =>
      rw [hcall] at h hc
      obtain ⟨k1, k2⟩ := hc o1 rfl
      obtain ⟨j1, j2⟩ := leave_ok hE hC ds (settleA u') A1 o1 o' h
      refine ⟨k1.trans j1, fun ho σ w fr cs hR hu hrun hm hd hk hf => ?_⟩
      obtain ⟨k3, k4⟩ := k2 (ho.less j1)
      have hk' : Keep σ A (resSlots fn.results.toList) tm ⟨fr.tmps, fr.defers⟩ := hk.resolve_left fun h => by cases h.1
      cases hdef : fr.defers with
      | nil => rw [hdef] at hd; exact hd.elim
      | cons dd dds =>
        rw [hdef] at hd
        obtain ⟨hd1, hd2⟩ := hd
        have k5 := k4 σ w hR hd1.sc hu
        have k6 : CallsD E.P d.fn (concL σ d.args).toArray (concM σ u) w (Returned σ A w u v u' A1) := by
          cases u with
          | run => exact absurd rfl hrun
          | returning => exact k5
          | panicking c => exact k5
        obtain ⟨cap, t1, t2⟩ := hd1.to
        have hinv : (invoke dd.target dd.args).run E.P w = .ok (.enter d.fn (concL σ d.args).toArray) w := by
          rw [t1]; simp only [invoke]; rw [t2]; exact k3 _ w
        have hmr : fr.mode ≠ .run := by rw [hm]; exact fun h => hrun (concM_run.1 h)
        have s1 := step_defer (cs := cs) hmr hdef t1 hinv
        obtain ⟨e, uu, w1, fx, ⟨hr1, σ1, he, huu, hto, hv, hin⟩, hs, hkx, hgo⟩ := k6 { fr with defers := dds } cs hm
        subst he
        have s2 := step_going_returned (c := { { fr with defers := dds } with mode := uu }) (cs := cs) hkx hgo
        refine Left.more (fr1 := { { { fr with defers := dds } with mode := uu } with mode := settle uu }) (Steps.trans (.head s1 hs) (.one s2)) hto rfl rfl ?_
        refine j2 ho σ1 w1 _ cs hto.r (settle_in hin) (settle_run fun h => hrun (hr1.1 h)) (by rw [settle_ok, huu]) (hd2.agree hto.s.agree hto.s.next) (.inr (mono hto hk')) hf
    | pan c u' A1 o1 =>
      rw [hcall] at h hc
      obtain ⟨k1, k2⟩ := hc o1 rfl
      obtain ⟨j1, j2⟩ := leave_ok hE hC ds (raisedA u' c) A1 o1 o' h
      refine ⟨k1.trans j1, fun ho σ w fr cs hR hu hrun hm hd hk hf => ?_⟩
      obtain ⟨k3, k4⟩ := k2 (ho.less j1)
      have hk' : Keep σ A (resSlots fn.results.toList) tm ⟨fr.tmps, fr.defers⟩ := hk.resolve_left fun h => by cases h.1
      cases hdef : fr.defers with
      | nil => rw [hdef] at hd; exact hd.elim
      | cons dd dds =>
        rw [hdef] at hd
        obtain ⟨hd1, hd2⟩ := hd
        have k5 := k4 σ w hR hd1.sc hu
        have k6 : CallsD E.P d.fn (concL σ d.args).toArray (concM σ u) w (Panicked σ A w u c u' A1) := by
          cases u with
          | run => exact absurd rfl hrun
          | returning => exact k5
          | panicking c => exact k5
        obtain ⟨cap, t1, t2⟩ := hd1.to
        have hinv : (invoke dd.target dd.args).run E.P w = .ok (.enter d.fn (concL σ d.args).toArray) w := by
          rw [t1]; simp only [invoke]; rw [t2]; exact k3 _ w
        have hmr : fr.mode ≠ .run := by rw [hm]; exact fun h => hrun (concM_run.1 h)
        have s1 := step_defer (cs := cs) hmr hdef t1 hinv
        obtain ⟨e, uu, w1, fx, ⟨hr1, σ1, he, huu, hto, hv, hin⟩, hs, hkx, hgo⟩ := k6 { fr with defers := dds } cs hm
        subst he
        have s2 := step_going_panicked (c := { { fr with defers := dds } with mode := uu }) (cs := cs) hgo
        refine Left.more (fr1 := { { { fr with defers := dds } with mode := uu } with mode := raised uu (concP σ1 c) }) (Steps.trans (.head s1 hs) (.one s2)) hto rfl rfl ?_
        refine j2 ho σ1 w1 _ cs hto.r (raised_in hin hv) raised_run (by rw [raised_ok, huu]) (hd2.agree hto.s.agree hto.s.next) (.inr (mono hto hk')) hf
end
end Go.Ev

/- A call. -/
set_option linter.unusedSimpArgs false
set_option linter.unusedVariables false
namespace Go.Ev
variable [Rho]

theorem putArgs_cons (a : AVal) (l : List AVal) (i : Nat) (t : T AVal) : putArgs (a :: l) i t = putArgs l (i + 1) (t.upd i a) := rfl
theorem putArgs_get : ∀ (l : List AVal) (i : Nat) (t : T AVal) (j : Nat) (v : AVal), (putArgs l i t).get j = some v → (i ≤ j ∧ j < i + l.length ∧ l[j - i]? = some v) ∨ ((j < i ∨ i + l.length ≤ j) ∧ t.get j = some v)
  | [], i, t, j, v, h => .inr ⟨by simp; omega, h⟩
  | a :: l, i, t, j, v, h => by
    rw [putArgs_cons] at h
    rcases putArgs_get l (i + 1) _ j v h with ⟨h1, h2, h3⟩ | ⟨h1, h2⟩
    · refine .inl ⟨by omega, by simp only [List.length_cons]; omega, ?_⟩
      rw [show j - i = (j - (i + 1)) + 1 by omega, List.getElem?_cons_succ]; exact h3
    · rw [T.get_upd] at h2
      by_cases e : i = j
      · subst e
        rw [if_pos rfl] at h2
        cases hg : t.get i with
        | none => rw [hg] at h2; cases h2
        | some x => rw [hg] at h2; cases h2; exact .inl ⟨Nat.le_refl _, by simp, by simp⟩
      · rw [if_neg e] at h2
        exact .inr ⟨by simp only [List.length_cons]; omega, h2⟩

def SumsOk (P : Program) (sums : Sums) : Prop :=
  ∀ f s, sums f = some s → ∀ args m A o o', (s args m A o).orc = some o' → o.Le o' ∧ (Owed o' → (∀ l, Enters P f l) ∧
    ∀ σ w, R σ A w → LIn args A.next → m.In A.next → FROk P σ A w f args m (s args m A o))

section
variable {E : Env} {call : FuncId → List AVal → AMode → AW → Orc → FR}
/-- A function's body, then its frame's end. -/
noncomputable def bodyA (E : Env) (call : FuncId → List AVal → AMode → AW → Orc → FR) (inf : List (Nat × List (Nat × Nat))) (lf : Nat) (fn : Func) (c : Code) (args : List AVal) (m : AMode) (A : AW) (o : Orc) : FR :=
  match evC E call inf fn.ntmps lf (resSlots fn.results.toList) c (putArgs args 0 (T.deep .undef (Nat.log2 fn.ntmps + 1))) [] m A o with
  | .out .normal tm ds m A' o => leaveA E call fn.results.toList A.next m tm ds .returning A' o
  | .out .ret tm ds m A' o => leaveA E call fn.results.toList A.next m tm ds .returning A' o
  | .out (.pan c) tm ds m A' o => leaveA E call fn.results.toList A.next m tm ds (.panicking c) A' o
  | _ => .fail
theorem home_run {σ : Sg} {m : AMode} {b : Frame} {cs0 cs : List Frame} (h : Home σ m b cs0 cs) : m = .run ↔ b.kind = .normal := by
  cases m with
  | run => exact ⟨fun _ => h.1, fun _ => rfl⟩
  | returning => exact ⟨fun h => (by cases h), fun hk => by rw [h.1] at hk; cases hk⟩
  | panicking c => exact ⟨fun h => (by cases h), fun hk => by rw [h.1] at hk; cases hk⟩
/-- From a frame's first step to its end. -/
def Whole (P : Program) (σ : Sg) (A : AW) (w : World) (mach : Machine) (b : Frame) (cs0 : List Frame) : FR → Prop
  | .fail => True
  | .ret v m' A' _ => ∃ σ' cs' fr' w', To σ A w σ' A' w' ∧ topOf v ≤ A'.next ∧ m'.In A'.next ∧ Home σ' m' b cs0 cs' ∧ Steps P mach (lone fr' cs' w') ∧ fr'.fn = b.fn ∧ fr'.kind = b.kind ∧ fr'.going P w' (.returned (conc σ' v))
  | .pan c m' A' _ => ∃ σ' cs' fr' w', To σ A w σ' A' w' ∧ PIn c A'.next ∧ m'.In A'.next ∧ Home σ' m' b cs0 cs' ∧ Steps P mach (lone fr' cs' w') ∧ fr'.fn = b.fn ∧ fr'.kind = b.kind ∧ fr'.going P w' (.panicked (concP σ' c))
theorem whole_of_left {P : Program} {σ σ1 : Sg} {A A1 : AW} {w w1 : World} {mach : Machine} {b : Frame} {cs0 cs' : List Frame} {m1 : AMode} {fr : Frame} {r : FR}
    (hs : Steps P mach (lone fr cs' w1)) (ht : To σ A w σ1 A1 w1) (hh : Home σ1 m1 b cs0 cs') (hi : m1.In A1.next) (hf : fr.fn = b.fn) (hk : fr.kind = b.kind)
    (h : Left P σ1 A1 w1 fr cs' m1 r) : Whole P σ A w mach b cs0 r := by
  cases r with
  | fail => trivial
  | ret v m' A' o =>
    obtain ⟨rfl, σ', fr', w', h1, h2, h3, h4, h5, h6⟩ := h
    exact ⟨σ', cs', fr', w', ht.trans h1, h2, hi.mono h1.s.next, hh.congr (concM_congr h1.s.agree hi), hs.trans h3, h4.trans hf, h5.trans hk, h6⟩
  | pan c m' A' o =>
    obtain ⟨rfl, σ', fr', w', h1, h2, h3, h4, h5, h6⟩ := h
    exact ⟨σ', cs', fr', w', ht.trans h1, h2, hi.mono h1.s.next, hh.congr (concM_congr h1.s.agree hi), hs.trans h3, h4.trans hf, h5.trans hk, h6⟩
theorem body_ok (hE : E.Ok) (hC : CallOk E.P call) {inf : List (Nat × List (Nat × Nat))} {c : Code} (hinf : InfOk inf c) {lf : Nat} {fn : Func} {args : List AVal} {m : AMode} {A : AW} {o o' : Orc} (hlen : args.length ≤ fn.ntmps)
    (h : (bodyA E call inf lf fn c args m A o).orc = some o') : o.Le o' ∧ (Owed o' → ∀ σ w b cs0 cs, R σ A w → LIn args A.next → m.In A.next → E.P.funcs[b.fn]? = some fn → Home σ m b cs0 cs →
      Whole E.P σ A w (lone (b.at { tmps := (concL σ args).toArray ++ Array.replicate (fn.ntmps - args.length) undef, defers := [] } [.code c]) cs w) b cs0 (bodyA E call inf lf fn c args m A o)) := by
  have hstart : ∀ σ w b cs0 cs, R σ A w → LIn args A.next → m.In A.next → Home σ m b cs0 cs →
      St σ fn.ntmps (putArgs args 0 (T.deep .undef (Nat.log2 fn.ntmps + 1))) [] m A b cs0 { tmps := (concL σ args).toArray ++ Array.replicate (fn.ntmps - args.length) undef, defers := [] } cs w := by
    intro σ w b cs0 cs hR hl hm hh
    refine ⟨hR, ⟨by simp [concL_eq]; omega, fun i v hv => ?_, fun i v hv => ?_⟩, trivial, hm, hh⟩
    · rw [Array.getD_eq_getD_getElem?]
      rcases putArgs_get _ _ _ _ _ hv with ⟨_, h2, h3⟩ | ⟨h1, h2⟩
      · rw [Array.getElem?_append_left (by simp [concL_eq]; omega)]
        simp only [Nat.sub_zero] at h3
        simp [concL_eq, h3]
      · have hu := T.get_deep _ _ _ _ h2
        subst hu
        rw [conc_undef, Array.getElem?_append_right (by simp [concL_eq]; omega)]
        simp only [Array.getElem?_replicate]
        split <;> rfl
    · rcases putArgs_get _ _ _ _ _ hv with ⟨_, h2, h3⟩ | ⟨h1, h2⟩
      · exact hl v (List.mem_of_getElem? h3)
      · have hu := T.get_deep _ _ _ _ h2
        subst hu; exact Nat.zero_le _
  unfold bodyA at h ⊢
  cases hr : evC E call inf fn.ntmps lf (resSlots fn.results.toList) c (putArgs args 0 (T.deep .undef (Nat.log2 fn.ntmps + 1))) [] m A o with
  | fail => rw [hr] at h; cases h
  | out e tm1 ds1 m1 A1 o1 =>
    rw [hr] at h
    obtain ⟨k1, k2⟩ := evC_goes hE hC c hinf hr
    cases e with
    | exit id => cases h
    | normal =>
      simp only at h ⊢
      obtain ⟨j1, j2⟩ := leave_ok hE hC ds1 .returning A1 o1 o' h
      refine ⟨k1.trans j1, fun ho σ w b cs0 cs hR hl hm hf hh => ?_⟩
      obtain ⟨σ1, a1, cs1, w1, g1, g2, g3⟩ := k2 (ho.less j1) (k := []) (hstart σ w b cs0 cs hR hl hm hh)
      have hst : St σ1 fn.ntmps tm1 ds1 m1 A1 b cs0 a1 cs1 w1 := g2
      exact whole_of_left (fr := { b.at a1 [] with mode := .returning }) (Steps.trans g3 (.one step_end)) g1 hst.h hst.i rfl rfl
        (j2 ho σ1 w1 _ cs1 hst.r trivial (by simp) rfl hst.d (.inr fun i _ v hv => ⟨hst.t.rel i v hv, hst.t.sc i v hv⟩) hf)
    | ret =>
      simp only at h ⊢
      obtain ⟨j1, j2⟩ := leave_ok hE hC ds1 .returning A1 o1 o' h
      refine ⟨k1.trans j1, fun ho σ w b cs0 cs hR hl hm hf hh => ?_⟩
      obtain ⟨σ1, a1, cs1, w1, g1, g2, todo, g3⟩ := k2 (ho.less j1) (k := []) (hstart σ w b cs0 cs hR hl hm hh)
      have hst : St σ1 fn.ntmps tm1 ds1 m1 A1 b cs0 a1 cs1 w1 := g2
      exact whole_of_left (fr := { b.at a1 todo with mode := .returning }) g3 g1 hst.h hst.i rfl rfl
        (j2 ho σ1 w1 _ cs1 hst.r trivial (by simp) rfl hst.d (.inr fun i _ v hv => ⟨hst.t.rel i v hv, hst.t.sc i v hv⟩) hf)
    | pan ch =>
      simp only at h ⊢
      obtain ⟨j1, j2⟩ := leave_ok hE hC ds1 (.panicking ch) A1 o1 o' h
      refine ⟨k1.trans j1, fun ho σ w b cs0 cs hR hl hm hf hh => ?_⟩
      obtain ⟨σ1, a1, cs1, w1, g1, ⟨g2, g4, g5⟩, todo, g3⟩ := k2 (ho.less j1) (k := []) (hstart σ w b cs0 cs hR hl hm hh)
      exact whole_of_left (fr := { b.at a1 todo with mode := .panicking (concP σ1 ch) }) g3 g1 g2.h g2.i rfl rfl
        (j2 ho σ1 w1 _ cs1 g2.r g4 (by simp) rfl g2.d (g5.imp (fun h => ⟨h, by simp⟩) id) hf)
theorem enters_ok (hE : E.Ok) {f : FuncId} {fn : Func} {c : Code} (hf : E.fn.get f = some fn) (hc : fn.body = some c) (l : Array Value) : Enters E.P f l := by
  intro w
  have h1 := hE.fn f fn hf
  have h2 := hE.name f fn hf
  have h3 : ¬ fn.name = "runtime.NumGoroutine" := by simpa using h2
  simp [callFunc, h1, h3, hc]
theorem calls_ok (hE : E.Ok) {f : FuncId} {fn : Func} {c : Code} (hf : E.fn.get f = some fn) (hc : fn.body = some c) {args : List AVal} (hlen : args.length ≤ fn.ntmps) {m : AMode} {A : AW} {σ : Sg} {w : World} {r : FR}
    (hR : R σ A w) (hl : LIn args A.next) (hm : m.In A.next)
    (h : ∀ b cs0 cs, E.P.funcs[b.fn]? = some fn → Home σ m b cs0 cs → Whole E.P σ A w (lone (b.at { tmps := (concL σ args).toArray ++ Array.replicate (fn.ntmps - args.length) undef, defers := [] } [.code c]) cs w) b cs0 r) :
    FROk E.P σ A w f args m r := by
  have h1 := hE.fn f fn hf
  have hsz : (concL σ args).toArray.size = args.length := by simp [concL_eq]
  have henter : ∀ kind : CallKind, Frame.enter E.P f (concL σ args).toArray kind =
      ({ (default : Frame) with fn := f, kind := kind } : Frame).at { tmps := (concL σ args).toArray ++ Array.replicate (fn.ntmps - args.length) undef, defers := [] } [.code c] := by
    intro kind; simp [Frame.enter, Frame.at, h1, hc, concL_eq]
  cases m with
  | run =>
    cases r with
    | fail => trivial
    | ret v m' A' o' =>
      intro cs
      obtain ⟨σ', cs', fr', w', g1, g2, g3, g4, g5, g6, g7, g8⟩ := h { (default : Frame) with fn := f, kind := .normal } cs cs h1 ⟨rfl, rfl⟩
      have hm' : m' = .run := (home_run g4).2 rfl
      subst hm'
      obtain ⟨_, rfl⟩ := g4
      refine ⟨.returned (conc σ' v), w', fr', ⟨Iff.rfl, σ', rfl, rfl, g1, g2, trivial⟩, ?_, g6, ?_⟩
      · rw [henter]; exact g5
      · obtain ⟨q1, q2, q3⟩ := g8; exact ⟨q1, q2, g7, q3⟩
    | pan ch m' A' o' =>
      intro cs
      obtain ⟨σ', cs', fr', w', g1, g2, g3, g4, g5, g6, g7, g8⟩ := h { (default : Frame) with fn := f, kind := .normal } cs cs h1 ⟨rfl, rfl⟩
      have hm' : m' = .run := (home_run g4).2 rfl
      subst hm'
      obtain ⟨_, rfl⟩ := g4
      refine ⟨.panicked (concP σ' ch), w', fr', ⟨Iff.rfl, σ', rfl, rfl, g1, g2, trivial⟩, ?_, g6, ?_⟩
      · rw [henter]; exact g5
      · exact g8
  | returning =>
    cases r with
    | fail => trivial
    | ret v m' A' o' =>
      intro c0 cs hu
      have hc0 : c0 = { c0 with mode := concM σ .returning } := by cases c0; cases hu; rfl
      obtain ⟨σ', cs', fr', w', g1, g2, g3, g4, g5, g6, g7, g8⟩ := h { (default : Frame) with fn := f, kind := .deferred } (c0 :: cs) (c0 :: cs) h1 ⟨rfl, c0, cs, rfl, by rw [← hc0]⟩
      have hm' : m' ≠ .run := fun e => by have := (home_run g4).1 e; cases this
      have : ∃ r1, cs' = { c0 with mode := concM σ' m' } :: r1 ∧ r1 = cs := by
        cases m' with
        | run => exact absurd rfl hm'
        | returning => obtain ⟨_, c1, r1, e1, e2⟩ := g4; cases e1; exact ⟨_, e2, rfl⟩
        | panicking q => obtain ⟨_, c1, r1, e1, e2⟩ := g4; cases e1; exact ⟨_, e2, rfl⟩
      obtain ⟨r1, rfl, rfl⟩ := this
      refine ⟨.returned (conc σ' v), concM σ' m', w', fr', ⟨⟨fun e => absurd e hm', fun e => by cases e⟩, σ', rfl, rfl, g1, g2, g3⟩, ?_, g7, g8⟩
      rw [henter]; exact g5
    | pan ch m' A' o' =>
      intro c0 cs hu
      have hc0 : c0 = { c0 with mode := concM σ .returning } := by cases c0; cases hu; rfl
      obtain ⟨σ', cs', fr', w', g1, g2, g3, g4, g5, g6, g7, g8⟩ := h { (default : Frame) with fn := f, kind := .deferred } (c0 :: cs) (c0 :: cs) h1 ⟨rfl, c0, cs, rfl, by rw [← hc0]⟩
      have hm' : m' ≠ .run := fun e => by have := (home_run g4).1 e; cases this
      have : ∃ r1, cs' = { c0 with mode := concM σ' m' } :: r1 ∧ r1 = cs := by
        cases m' with
        | run => exact absurd rfl hm'
        | returning => obtain ⟨_, c1, r1, e1, e2⟩ := g4; cases e1; exact ⟨_, e2, rfl⟩
        | panicking q => obtain ⟨_, c1, r1, e1, e2⟩ := g4; cases e1; exact ⟨_, e2, rfl⟩
      obtain ⟨r1, rfl, rfl⟩ := this
      refine ⟨.panicked (concP σ' ch), concM σ' m', w', fr', ⟨⟨fun e => absurd e hm', fun e => by cases e⟩, σ', rfl, rfl, g1, g2, g3⟩, ?_, g7, g8⟩
      rw [henter]; exact g5
  | panicking pc =>
    cases r with
    | fail => trivial
    | ret v m' A' o' =>
      intro c0 cs hu
      have hc0 : c0 = { c0 with mode := concM σ (.panicking pc) } := by cases c0; cases hu; rfl
      obtain ⟨σ', cs', fr', w', g1, g2, g3, g4, g5, g6, g7, g8⟩ := h { (default : Frame) with fn := f, kind := .deferred } (c0 :: cs) (c0 :: cs) h1 ⟨rfl, c0, cs, rfl, by rw [← hc0]⟩
      have hm' : m' ≠ .run := fun e => by have := (home_run g4).1 e; cases this
      have : ∃ r1, cs' = { c0 with mode := concM σ' m' } :: r1 ∧ r1 = cs := by
        cases m' with
        | run => exact absurd rfl hm'
        | returning => obtain ⟨_, c1, r1, e1, e2⟩ := g4; cases e1; exact ⟨_, e2, rfl⟩
        | panicking q => obtain ⟨_, c1, r1, e1, e2⟩ := g4; cases e1; exact ⟨_, e2, rfl⟩
      obtain ⟨r1, rfl, rfl⟩ := this
      refine ⟨.returned (conc σ' v), concM σ' m', w', fr', ⟨⟨fun e => absurd e hm', fun e => by cases e⟩, σ', rfl, rfl, g1, g2, g3⟩, ?_, g7, g8⟩
      rw [henter]; exact g5
    | pan ch m' A' o' =>
      intro c0 cs hu
      have hc0 : c0 = { c0 with mode := concM σ (.panicking pc) } := by cases c0; cases hu; rfl
      obtain ⟨σ', cs', fr', w', g1, g2, g3, g4, g5, g6, g7, g8⟩ := h { (default : Frame) with fn := f, kind := .deferred } (c0 :: cs) (c0 :: cs) h1 ⟨rfl, c0, cs, rfl, by rw [← hc0]⟩
      have hm' : m' ≠ .run := fun e => by have := (home_run g4).1 e; cases this
      have : ∃ r1, cs' = { c0 with mode := concM σ' m' } :: r1 ∧ r1 = cs := by
        cases m' with
        | run => exact absurd rfl hm'
        | returning => obtain ⟨_, c1, r1, e1, e2⟩ := g4; cases e1; exact ⟨_, e2, rfl⟩
        | panicking q => obtain ⟨_, c1, r1, e1, e2⟩ := g4; cases e1; exact ⟨_, e2, rfl⟩
      obtain ⟨r1, rfl, rfl⟩ := this
      refine ⟨.panicked (concP σ' ch), concM σ' m', w', fr', ⟨⟨fun e => absurd e hm', fun e => by cases e⟩, σ', rfl, rfl, g1, g2, g3⟩, ?_, g7, g8⟩
      rw [henter]; exact g5

theorem evF_succ (sums : Sums) (lf q : Nat) (f : FuncId) (args : List AVal) (m : AMode) (A : AW) (o : Orc) :
    evF E sums lf (q + 1) f args m A o = (match (match sums f with | some s => s args m A o | none => .fail) with
      | .fail => match E.fn.get f with
        | some fn => match fn.body with
          | some c => match Nat.ble (lenN args) fn.ntmps with
            | true => bodyA E (evF E sums lf q) (Env.infOf (E.inf.get f)) lf fn c args m A o
            | false => .fail
          | none => .fail
        | none => .fail
      | r => r) := rfl
theorem evF_ok (hE : E.Ok) {sums : Sums} (hS : SumsOk E.P sums) (lf : Nat) : ∀ q, CallOk E.P (evF E sums lf q)
  | 0 => by intro f args m A o o' h; cases h
  | q + 1 => by
    intro f args m A o o' h
    rw [evF_succ] at h ⊢
    -- by the text
    have text : ∀ o', (match E.fn.get f with
        | some fn => match fn.body with
          | some c => match Nat.ble (lenN args) fn.ntmps with
            | true => bodyA E (evF E sums lf q) (Env.infOf (E.inf.get f)) lf fn c args m A o
            | false => .fail
          | none => .fail
        | none => .fail : FR).orc = some o' → o.Le o' ∧ (Owed o' → (∀ l, Enters E.P f l) ∧
          ∀ σ w, R σ A w → LIn args A.next → m.In A.next → FROk E.P σ A w f args m (match E.fn.get f with
        | some fn => match fn.body with
          | some c => match Nat.ble (lenN args) fn.ntmps with
            | true => bodyA E (evF E sums lf q) (Env.infOf (E.inf.get f)) lf fn c args m A o
            | false => .fail
          | none => .fail
        | none => .fail : FR)) := by
      intro o' h
      cases hfn : E.fn.get f with
      | none => rw [hfn] at h; cases h
      | some fn =>
        rw [hfn] at h
        simp only at h ⊢
        cases hb : fn.body with
        | none => rw [hb] at h; cases h
        | some c =>
          rw [hb] at h
          simp only at h ⊢
          cases hl : Nat.ble (lenN args) fn.ntmps with
          | false => rw [hl] at h; cases h
          | true =>
            rw [hl] at h
            simp only at h ⊢
            rw [ble_iff, lenN_eq] at hl
            obtain ⟨k1, k2⟩ := body_ok hE (evF_ok hE hS lf q) (hE.inf f fn c hfn hb) hl h
            exact ⟨k1, fun ho => ⟨enters_ok hE hfn hb, fun σ w hR hin hm => calls_ok hE hfn hb hl hR hin hm fun b cs0 cs hf hh => k2 ho σ w b cs0 cs hR hin hm hf hh⟩⟩
    cases hs : sums f with
    | none =>
      rw [hs] at h
      exact text o' h
    | some s =>
      rw [hs] at h
      simp only at h ⊢
      cases hr : s args m A o with
      | fail => rw [hr] at h; exact text o' h
      | ret v m' A' o1 => rw [hr] at h; have := hS f s hs args m A o o' (by rw [hr]; exact h); rw [hr] at this; exact this
      | pan ch m' A' o1 => rw [hr] at h; have := hS f s hs args m A o o' (by rw [hr]; exact h); rw [hr] at this; exact this
end
end Go.Ev

/- The tables are the program's: item by item. -/
set_option linter.unusedVariables false
namespace Go.Ev
namespace T
variable {α : Type}
def All (p : Nat → α → Prop) : T α → Nat → Nat → Prop
  | .nil, _, _ => True
  | .node l v r, a, b => All p l (2 * a) (a + b) ∧ p b v ∧ All p r (2 * a) (2 * a + b)
theorem get_all {p : Nat → α → Prop} : ∀ (t : T α) (a b : Nat), All p t a b → ∀ n v, t.get n = some v → p (a * n + b) v
  | .nil, a, b, _, n, v, h => by rw [get_nil] at h; cases h
  | .node l x r, a, b, ⟨h1, h2, h3⟩, n, v, h => by
    rw [get_node] at h
    by_cases e0 : n = 0
    · subst e0; simp at h; subst h; simpa using h2
    · by_cases e1 : n % 2 = 1
      · simp [e0, e1] at h
        have := get_all l _ _ h1 _ _ h
        have e : 2 * a * (n / 2) + (a + b) = a * n + b := by
          have hn : n = 2 * (n / 2) + 1 := by omega
          calc 2 * a * (n / 2) + (a + b) = a * (2 * (n / 2) + 1) + b := by rw [Nat.mul_add, Nat.mul_one, ← Nat.mul_assoc, Nat.mul_comm a 2]; omega
            _ = a * n + b := by rw [← hn]
        rw [← e]; exact this
      · simp [e0, e1] at h
        have := get_all r _ _ h3 _ _ h
        have e : 2 * a * (n / 2 - 1) + (2 * a + b) = a * n + b := by
          have hn : n = 2 * (n / 2 - 1) + 2 := by omega
          calc 2 * a * (n / 2 - 1) + (2 * a + b) = a * (2 * (n / 2 - 1) + 2) + b := by rw [Nat.mul_add, ← Nat.mul_assoc, Nat.mul_comm a 2]; omega
            _ = a * n + b := by rw [← hn]
        rw [← e]; exact this
noncomputable def allB (p : α → Bool) (t : T α) : Bool := T.rec (motive := fun _ => Bool) true (fun _ v _ a b => a && p v && b) t
theorem allB_ok {p : α → Bool} : ∀ (t : T α), allB p t = true → ∀ n v, t.get n = some v → p v = true
  | .nil, _, n, v, h => by rw [get_nil] at h; cases h
  | .node l x r, h, n, v, hv => by
    have h' : (allB p l && p x && allB p r) = true := h
    simp only [Bool.and_eq_true] at h'
    rw [get_node] at hv
    by_cases e0 : n = 0
    · subst e0; simp at hv; subst hv; exact h'.1.2
    · by_cases e1 : n % 2 = 1
      · simp [e0, e1] at hv; exact allB_ok l h'.1.1 _ _ hv
      · simp [e0, e1] at hv; exact allB_ok r h'.2 _ _ hv
end T
/-! Drawn regions looked at. -/
def lhB (ops : Array Oper) (lh : List (Nat × Nat)) : Bool :=
  let b := Region.before ops
  drawOk ops && lh.zipIdx.all fun (p, j) => let q := loHi ops.toList b j; Nat.beq q.1 p.1 && Nat.beq q.2 p.2
theorem lhB_ok {ops : Array Oper} {lh : List (Nat × Nat)} (h : lhB ops lh = true) : LhOk ops lh := by
  unfold lhB at h
  obtain ⟨h1, h2⟩ := and_true h
  refine ⟨h1, fun j p hp => ?_⟩
  rw [nth_eq] at hp
  have := List.all_eq_true.1 h2 (p, j) (List.mem_zipIdx_iff_getElem?.2 hp)
  obtain ⟨h3, h4⟩ := and_true this
  rw [beq_iff] at h3 h4
  exact Prod.ext h3 h4
noncomputable def infB (l : List (Nat × List (Nat × Nat))) (c : Code) : Bool :=
  Code.rec (motive := fun _ => Bool)
    (skip := true) (region := fun id ops draw => match draw with | false => true | true => match findInf l id with | some lh => lhB ops lh | none => true)
    (seq := fun _ _ a b => a && b) (cond := fun _ _ _ a b => a && b) (block := fun _ _ a => a) (loop := fun _ a => a) (rangeFunc := fun _ _ _ _ _ _ => true)
    (exit := fun _ => true) (scope := fun _ _ => true) (label := fun _ => true) (goto := fun _ => true) (ret := true) (refuse := fun _ => true) c
theorem infB_ok (l : List (Nat × List (Nat × Nat))) : ∀ c : Code, infB l c = true → InfOk l c
  | .skip, _ => trivial
  | .region id ops draw, h => by
    intro hd lh hlh
    subst hd
    have h' : (match findInf l id with | some lh => lhB ops lh | none => true) = true := h
    rw [hlh] at h'
    exact lhB_ok h'
  | .seq a b, h => by
    have h' : (infB l a && infB l b) = true := h
    obtain ⟨h1, h2⟩ := and_true h'
    exact ⟨infB_ok l a h1, infB_ok l b h2⟩
  | .cond c a b, h => by
    have h' : (infB l a && infB l b) = true := h
    obtain ⟨h1, h2⟩ := and_true h'
    exact ⟨infB_ok l a h1, infB_ok l b h2⟩
  | .block _ c, h => infB_ok l c h
  | .loop c, h => infB_ok l c h
  | .rangeFunc .., _ => trivial
  | .exit _, _ => trivial
  | .scope _, _ => trivial
  | .label _, _ => trivial
  | .goto _, _ => trivial
  | .ret, _ => trivial
  | .refuse _, _ => trivial
/-- One function's drawn regions. -/
noncomputable def funcB (E : Env) (f : Nat) : Bool := match E.fn.get f with | some x => (match x.body with | some c => infB (Env.infOf (E.inf.get f)) c | none => true) | none => true
theorem funcB_ok {E : Env} {f : Nat} (h : funcB E f = true) {x : Func} {c : Code} (hf : E.fn.get f = some x) (hc : x.body = some c) : InfOk (Env.infOf (E.inf.get f)) c := by
  unfold funcB at h
  rw [hf] at h
  simp only at h
  rw [hc] at h
  exact infB_ok _ c h
theorem infOk_nil : ∀ c : Code, InfOk [] c
  | .region id ops draw => fun _ lh h => by cases h
  | .seq a b => ⟨infOk_nil a, infOk_nil b⟩
  | .cond _ a b => ⟨infOk_nil a, infOk_nil b⟩
  | .block _ c => infOk_nil c
  | .loop c => infOk_nil c
  | .skip => trivial
  | .rangeFunc .. => trivial
  | .exit _ => trivial
  | .scope _ => trivial
  | .label _ => trivial
  | .goto _ => trivial
  | .ret => trivial
  | .refuse _ => trivial
theorem inf_of_list {E : Env} (l : List Nat) (hl : ∀ f, f ∉ l → Env.infOf (E.inf.get f) = []) (h : l.all (funcB E) = true) : ∀ f x c, E.fn.get f = some x → x.body = some c → InfOk (Env.infOf (E.inf.get f)) c := by
  intro f x c hf hc
  by_cases hm : f ∈ l
  · exact funcB_ok (List.all_eq_true.1 h f hm) hf hc
  · rw [hl f hm]; exact infOk_nil c
noncomputable def T.allI {α : Type} (p : Nat → α → Bool) (t : T α) : Nat → Nat → Bool := T.rec (motive := fun _ => Nat → Nat → Bool) (fun _ _ => true) (fun _ v _ l r a b => l (2 * a) (a + b) && p b v && r (2 * a) (2 * a + b)) t
theorem T.allI_ok {α : Type} {p : Nat → α → Bool} : ∀ (t : T α) (a b : Nat), T.allI p t a b = true → T.All (fun i v => p i v = true) t a b
  | .nil, _, _, _ => trivial
  | .node l v r, a, b, h => by
    have h' : (T.allI p l (2 * a) (a + b) && p b v && T.allI p r (2 * a) (2 * a + b)) = true := h
    simp only [Bool.and_eq_true] at h'
    exact ⟨T.allI_ok l _ _ h'.1.1, h'.1.2, T.allI_ok r _ _ h'.2⟩
theorem inf_out {E : Env} {l : List Nat} (h : T.allI (fun i x => l.elem i || (match x with | [] => true | _ => false)) E.inf 1 0 = true) : ∀ f, f ∉ l → Env.infOf (E.inf.get f) = [] := by
  intro f hf
  cases hx : E.inf.get f with
  | none => rfl
  | some x =>
    have := T.get_all _ _ _ (T.allI_ok _ _ _ h) f x hx
    simp only [Nat.one_mul, Nat.add_zero, Bool.or_eq_true] at this
    rcases this with h1 | h1
    · exact absurd (List.elem_iff.1 h1) hf
    · cases x with
      | nil => rfl
      | cons a r => cases h1
theorem Env.ok_of {E : Env} (h1 : T.All (fun i v => E.P.types[i]? = some v) E.ty 1 0) (h2 : T.All (fun i v => E.P.funcs[i]? = some v) E.fn 1 0) (h3 : E.P.follows .mixedOrders = true)
    (h4 : T.allB (fun f : Func => !(f.name == "runtime.NumGoroutine")) E.fn = true) (h5 : ∀ f x c, E.fn.get f = some x → x.body = some c → InfOk (Env.infOf (E.inf.get f)) c) : E.Ok where
  ty := fun t i h => by
    have := T.get_all _ _ _ h1 t i h
    rw [Nat.one_mul, Nat.add_zero] at this
    have hlt : t < E.P.types.size := by
      rcases Nat.lt_or_ge t E.P.types.size with h' | h'
      · exact h'
      · rw [Array.getElem?_eq_none h'] at this; cases this
    unfold Tables.info?
    rw [if_pos hlt]; exact this
  fn := fun f x h => by
    have := T.get_all _ _ _ h2 f x h
    simpa using this
  mixed := h3
  inf := h5
  name := fun f x h => by
    have := T.allB_ok _ h4 f x h
    simpa using this
end Go.Ev

/- Summaries of calls that name no blocks. -/
set_option linter.unusedVariables false
namespace Go.Ev
variable [Rho]

def A0 : AW := ⟨0, 0, []⟩
theorem A0_r (σ : Sg) (w : World) : R σ A0 w :=
  R.mk List.nodup_nil (fun i b h => by cases h) (fun i b h => by cases h) (fun i b h => by cases h) (fun i j b c h => by cases h)

/-- A plain summary: what a call without blocks gives. -/
def Plain := List AVal → Orc → Option (AVal × Orc)
def Plain.sum (g : Plain) : List AVal → AMode → AW → Orc → FR := fun args m A o =>
  match m with
  | .run => match g args o with
    | some (v, o') => .ret v .run A o'
    | none => .fail
  | _ => .fail
/-- The call comes to it, from no blocks at all. -/
def PlainOk (P : Program) (f : FuncId) (g : Plain) : Prop :=
  ∀ args o v o', g args o = some (v, o') → o.Le o' ∧ (Owed o' → (∀ l, Enters P f l) ∧ topOf v = 0 ∧ ∀ w, ∃ σ0 A', LIn args 0 ∧
    (∀ σ, concL σ args = concL σ0 args) ∧ CallsM P σ0 .run f (concL σ0 args).toArray w (Returned σ0 A0 w .run v .run A'))
theorem conc_top0 {σ τ : Sg} {v : AVal} (h : topOf v = 0) : conc τ v = conc σ v := conc_congr (n := 0) (fun i hi => by omega) v (by omega)
theorem plain_to {σ : Sg} {A : AW} {w : World} (hR : R σ A w) {σ0 : Sg} {v : AVal} (hv : topOf v = 0) {A' : AW} {e : Ending} {u : FrameMode} {w' : World}
    (h : Returned σ0 A0 w .run v .run A' e u w') : Returned σ A w .run v .run A e u w' := by
  obtain ⟨h1, σ', rfl, rfl, hto, _, _⟩ := h
  have hfr : ∀ c, c < w.heap.size → w'.heap[c]? = w.heap[c]? := fun c hc => hto.s.frame c hc fun i b hb => by cases hb
  have hsz : ∀ i b, lookB A.blks i = some b → σ.blk i < w.heap.size := fun i b hb => hR.lt_heap hb
  refine ⟨Iff.rfl, σ, ?_, rfl, ⟨⟨hR.once, hR.lt, hR.sc, fun i b hb => ?_, hR.inj⟩, ⟨Nat.le_refl _, Sg.Agree.refl _ _, hto.s.size, fun c hc _ => hfr c hc, fun i b hb => .inl ⟨i, b, hb, rfl⟩, hto.s.os, hto.s.output⟩⟩, by omega, trivial⟩
  · rw [conc_top0 (σ := σ') (τ := σ) hv]
  · obtain ⟨o, ho, hbr⟩ := hR.rel i b hb
    exact ⟨o, by rw [hfr _ (hsz i b hb)]; exact ho, hbr⟩
/-- A summary of many functions. -/
def SumOk1 (P : Program) (f : FuncId) (s : List AVal → AMode → AW → Orc → FR) : Prop :=
  ∀ args m A o o', (s args m A o).orc = some o' → o.Le o' ∧ (Owed o' → (∀ l, Enters P f l) ∧ ∀ σ w, R σ A w → LIn args A.next → m.In A.next → FROk P σ A w f args m (s args m A o))
theorem plain_ok {P : Program} {f : FuncId} {g : Plain} (h : PlainOk P f g) : SumOk1 P f g.sum := by
  intro args m A o o' ho
  unfold Plain.sum at ho ⊢
  cases m with
  | returning => cases ho
  | panicking c => cases ho
  | run =>
    simp only at ho ⊢
    cases hg : g args o with
    | none => rw [hg] at ho; cases ho
    | some p =>
      obtain ⟨v, o1⟩ := p
      rw [hg] at ho
      cases ho
      obtain ⟨h1, h2⟩ := h args o v _ hg
      refine ⟨h1, fun hO => ?_⟩
      obtain ⟨h3, h4, h5⟩ := h2 hO
      refine ⟨h3, fun σ w hR hin _ => ?_⟩
      obtain ⟨σ0, A', h6, h7, h8⟩ := h5 w
      show Calls P f (concL σ args).toArray w _
      rw [h7 σ]
      exact Calls.mono h8 fun e w' h9 => plain_to hR h4 h9
/-- By the evaluator: from no blocks. -/
theorem plain_of_ev {E : Env} (hE : E.Ok) {sums : Sums} (hS : SumsOk E.P sums) {f : FuncId} {g : Plain} (lf q : Nat)
    (h : ∀ args o v o', g args o = some (v, o') → LIn args 0 ∧ topOf v = 0 ∧ ∃ p A' p', o'.path = o'.path ∧ o.Le o' ∧ ∃ l, evF E sums lf q f args .run A0 ⟨p, []⟩ = .ret v .run A' ⟨p', l⟩ ∧ ∀ x ∈ l, x ∈ o'.obl) : PlainOk E.P f g := by
  intro args o v o' hg
  obtain ⟨h1, h2, p, A', p', _, h3, l, h4, h5⟩ := h args o v o' hg
  refine ⟨h3, fun hO => ?_⟩
  have hc := evF_ok hE hS lf q f args .run A0 ⟨p, []⟩ ⟨p', l⟩ (by rw [h4]; rfl)
  obtain ⟨_, hc2⟩ := hc
  obtain ⟨hc3, hc4⟩ := hc2 fun x hx => hO x (h5 x hx)
  refine ⟨hc3, h2, fun w => ?_⟩
  let σ0 : Sg := ⟨fun _ => 0, fun _ => 0, fun _ => 0, fun _ => (0, 0)⟩
  have := hc4 σ0 w (A0_r σ0 w) h1 trivial
  rw [h4] at this
  exact ⟨σ0, A', h1, fun σ => concL_congr (n := 0) (fun i hi => by omega) args h1, this⟩

/-- Summaries side by side. -/
def Sums.none : Sums := fun _ => Option.none
theorem Sums.none_ok (P : Program) : SumsOk P Sums.none := fun f s h => by cases h
noncomputable def Sums.add (f : FuncId) (s : List AVal → AMode → AW → Orc → FR) (r : Sums) : Sums := fun g => eB (Nat.beq g f) (r g) (some s)
theorem Sums.add_ok {P : Program} {f : FuncId} {s : List AVal → AMode → AW → Orc → FR} {r : Sums} (h : SumOk1 P f s) (hr : SumsOk P r) : SumsOk P (Sums.add f s r) := by
  intro g t hg
  unfold Sums.add at hg
  cases hb : Nat.beq g f with
  | false => rw [hb, eB_false] at hg; exact hr g t hg
  | true =>
    rw [hb, eB_true] at hg
    rw [beq_iff] at hb
    subst hb
    cases hg
    exact h
/-- A closed call. -/
def constP (v : AVal) : Plain := fun args o => match args with | [] => some (v, o) | _ => Option.none
theorem constP_ok {E : Env} (hE : E.Ok) {sums : Sums} (hS : SumsOk E.P sums) {f : FuncId} {v : AVal} (lf q : Nat) {A' : AW} (hv : topOf v = 0) (h : evF E sums lf q f [] .run A0 ⟨[], []⟩ = .ret v .run A' ⟨[], []⟩) : SumOk1 E.P f (constP v).sum := by
  refine plain_ok (plain_of_ev hE hS lf q fun args o u o' hg => ?_)
  unfold constP at hg
  split at hg <;> cases hg
  exact ⟨(by intro x hx; cases hx), hv, [], A', [], rfl, Orc.Le.refl _, [], h, by simp⟩
end Go.Ev

/- Tables of closed calls. -/
set_option linter.unusedVariables false
namespace Go.Ev
variable [Rho]

/-- A closed call's value. -/
def retV : FR → Option AVal
  | .ret v .run _ ⟨[], []⟩ => some v
  | _ => none
theorem retV_ok {r : FR} {v : AVal} (h : retV r = some v) : ∃ A', r = .ret v .run A' ⟨[], []⟩ := by
  unfold retV at h
  split at h <;> cases h
  exact ⟨_, rfl⟩

def eqVs : List AVal → List AVal → Bool
  | [], [] => true
  | a :: l, b :: r => eqV a b && eqVs l r
  | _, _ => false
theorem eqVs_eq : ∀ {a b : List AVal}, eqVs a b = true → a = b
  | [], [], _ => rfl
  | a :: l, b :: r, h => by
    simp only [eqVs] at h
    obtain ⟨h1, h2⟩ := and_true h
    rw [eqV_eq h1, eqVs_eq h2]
  | [], _ :: _, h => by cases h
  | _ :: _, [], h => by cases h

noncomputable def findT (tbl : List (List AVal × AVal)) (args : List AVal) : Option AVal :=
  List.rec (motive := fun _ => Option AVal) none (fun p _ ih => eB (eqVs p.1 args) ih (some p.2)) tbl
theorem findT_mem {tbl : List (List AVal × AVal)} {args : List AVal} {v : AVal} (h : findT tbl args = some v) : (args, v) ∈ tbl := by
  induction tbl with
  | nil => cases h
  | cons p r ih =>
    have h' : eB (eqVs p.1 args) (findT r args) (some p.2) = some v := h
    cases hb : eqVs p.1 args with
    | false => rw [hb, eB_false] at h'; exact List.mem_cons_of_mem _ (ih h')
    | true =>
      rw [hb, eB_true] at h'
      cases h'
      have := eqVs_eq hb
      obtain ⟨a, b⟩ := p
      simp only at this
      subst this
      exact List.mem_cons_self
noncomputable def tableP (tbl : List (List AVal × AVal)) : Plain := fun args o => match findT tbl args with | some v => some (v, o) | none => none
def topsOk (tbl : List (List AVal × AVal)) : Bool := tbl.all fun p => Nat.beq (topOf (.tuple p.1)) 0 && Nat.beq (topOf p.2) 0
def AllL {α : Type} (p : α → Prop) : List α → Prop
  | [] => True
  | x :: l => p x ∧ AllL p l
theorem AllL.mem {α : Type} {p : α → Prop} : ∀ {l : List α}, AllL p l → ∀ x ∈ l, p x
  | [], _, x, h => by cases h
  | y :: l, h, x, hx => by
    rcases List.mem_cons.1 hx with rfl | hx
    · exact h.1
    · exact AllL.mem h.2 x hx
theorem tableP_ok {E : Env} (hE : E.Ok) {sums : Sums} (hS : SumsOk E.P sums) {f : FuncId} {tbl : List (List AVal × AVal)} (lf q : Nat) (ht : topsOk tbl = true)
    (h : AllL (fun p : List AVal × AVal => retV (evF E sums lf q f p.1 .run A0 ⟨[], []⟩) = some p.2) tbl) : SumOk1 E.P f (tableP tbl).sum := by
  refine plain_ok (plain_of_ev hE hS lf q fun args o u o' hg => ?_)
  unfold tableP at hg
  split at hg <;> cases hg
  rename_i hf
  have hm := findT_mem hf
  have h1 := List.all_eq_true.1 ht _ hm
  obtain ⟨h2, h3⟩ := and_true h1
  rw [beq_iff] at h2 h3
  obtain ⟨A', h4⟩ := retV_ok (h.mem _ hm)
  exact ⟨topOf_tuple_le.1 (Nat.le_of_eq h2), h3, [], A', [], rfl, Orc.Le.refl _, [], h4, by simp⟩
end Go.Ev

/- Summaries by templates: symbolic calls without blocks, instantiated. -/
set_option linter.unusedVariables false
namespace Go.Ev

/-- What a call without blocks does to the program: it returns a value, and what lay there lies as it did. -/
def GoRet (P : Program) (f : FuncId) (args : Array Value) (v : Value) : Prop :=
  (∀ l, Enters P f l) ∧ ∀ w, Calls P f args w fun e w' => e = .returned v ∧ w.heap.size ≤ w'.heap.size ∧ (∀ c, c < w.heap.size → w'.heap[c]? = w.heap[c]?) ∧ w'.os = w.os ∧ w'.output = w.output

section
variable [Rho]
theorem goRet_of_ev {E : Env} (hE : E.Ok) {sums : Sums} (hS : SumsOk E.P sums) {f : FuncId} {lf q : Nat} {args : List AVal} {v : AVal}
    (h : retV (evF E sums lf q f args .run A0 ⟨[], []⟩) = some v) (ha : LIn args 0) (hv : topOf v = 0) (σ : Sg) : GoRet E.P f (concL σ args).toArray (conc σ v) := by
  obtain ⟨A', h1⟩ := retV_ok h
  have hc := evF_ok hE hS lf q f args .run A0 ⟨[], []⟩ ⟨[], []⟩ (by rw [h1]; rfl)
  obtain ⟨_, hc2⟩ := hc
  obtain ⟨hc3, hc4⟩ := hc2 (fun x hx => by cases hx)
  refine ⟨hc3, fun w => ?_⟩
  have := hc4 σ w (A0_r σ w) ha trivial
  rw [h1] at this
  refine Calls.mono this fun e w' h9 => ?_
  obtain ⟨_, σ', rfl, _, hto, _, _⟩ := h9
  exact ⟨by rw [conc_top0 hv], hto.s.size, fun c hc => hto.s.frame c hc (fun i b hb => by cases hb), hto.s.os, hto.s.output⟩
theorem sum_of_goRet {P : Program} {f : FuncId} {g : Plain}
    (h : ∀ args o v o', g args o = some (v, o') → o' = o ∧ topOf v = 0 ∧ ∀ σ, GoRet P f (concL σ args).toArray (conc σ v)) : SumOk1 P f g.sum := by
  intro args m A o o' ho
  unfold Plain.sum at ho ⊢
  cases m with
  | returning => cases ho
  | panicking c => cases ho
  | run =>
    simp only at ho ⊢
    cases hg : g args o with
    | none => rw [hg] at ho; cases ho
    | some p =>
      obtain ⟨v, o1⟩ := p
      rw [hg] at ho
      cases ho
      obtain ⟨rfl, h2, h3⟩ := h args o v _ hg
      refine ⟨Orc.Le.refl _, fun hO => ⟨(h3 ⟨fun _ => 0, fun _ => 0, fun _ => 0, fun _ => (0, 0)⟩).1, fun σ w hR hin _ => ?_⟩⟩
      show Calls P f (concL σ args).toArray w _
      refine Calls.mono ((h3 σ).2 w) fun e w' h9 => ?_
      obtain ⟨rfl, hsz, hfr, ho1, ho2⟩ := h9
      have hlt : ∀ i b, lookB A.blks i = some b → σ.blk i < w.heap.size := fun i b hb => hR.lt_heap hb
      refine ⟨Iff.rfl, σ, rfl, rfl, ⟨⟨hR.once, hR.lt, hR.sc, fun i b hb => ?_, hR.inj⟩, ⟨Nat.le_refl _, Sg.Agree.refl _ _, hsz, fun c hc _ => hfr c hc, fun i b hb => .inl ⟨i, b, hb, rfl⟩, ho1, ho2⟩⟩, by omega, trivial⟩
      obtain ⟨o, hob, hbr⟩ := hR.rel i b hb
      exact ⟨o, by rw [hfr _ (hlt i b hb)]; exact hob, hbr⟩
end

/-! Values with their symbols filled in. -/
section
variable [Rho]
def fill1 : AVal → AVal
  | .sym k e => .int false k (k.wrap e.val)
  | .symb e => .bool false (nz e.val)
  | v => v
def fill2 : AVal → AVal
  | .agg cs => .agg (cs.map fill1)
  | v => fill1 v
def fill3 : AVal → AVal
  | .tuple vs => .tuple (vs.map fill2)
  | v => fill2 v
theorem conc_fill1 (σ : Sg) (v : AVal) : conc σ (fill1 v) = conc σ v := by cases v <;> rfl
theorem conc_fill2 (σ : Sg) (v : AVal) : conc σ (fill2 v) = conc σ v := by
  unfold fill2
  split
  · simp only [conc, concL_eq, List.map_map]
    congr 2
    exact List.map_congr_left fun x _ => conc_fill1 σ x
  · exact conc_fill1 σ _
theorem conc_fill3 (σ : Sg) (v : AVal) : conc σ (fill3 v) = conc σ v := by
  unfold fill3
  split
  · simp only [conc, concL_eq, List.map_map]
    congr 2
    exact List.map_congr_left fun x _ => conc_fill2 σ x
  · exact conc_fill2 σ _
theorem concL_fill2 (σ : Sg) (l : List AVal) : concL σ (l.map fill2) = concL σ l := by
  simp only [concL_eq, List.map_map]
  exact List.map_congr_left fun x _ => conc_fill2 σ x
end
def clo1 : AVal → Bool
  | .bool _ _ | .int _ _ _ | .float _ _ | .str _ | .nilp | .nilsl | .nilmap | .nilfunc | .niliface => true
  | _ => false
def clo2 : AVal → Bool
  | .agg cs => cs.all clo1
  | v => clo1 v
def clo3 : AVal → Bool
  | .tuple vs => vs.all clo2
  | v => clo2 v
theorem clo1_ok {v : AVal} (h : clo1 v = true) (ρ ρ' : Rho) (σ : Sg) : @conc ρ σ v = @conc ρ' σ v ∧ topOf v = 0 := by
  cases v <;> first | exact ⟨rfl, rfl⟩ | cases h
theorem clo2_ok {v : AVal} (h : clo2 v = true) (ρ ρ' : Rho) (σ : Sg) : @conc ρ σ v = @conc ρ' σ v ∧ topOf v = 0 := by
  unfold clo2 at h
  split at h
  · rename_i cs
    have hh := List.all_eq_true.1 h
    refine ⟨?_, Nat.le_zero.1 (topOf_agg_le.2 fun v hv => Nat.le_of_eq (clo1_ok (hh v hv) ρ ρ' σ).2)⟩
    simp only [conc, concL_eq]
    congr 2
    exact List.map_congr_left fun x hx => (clo1_ok (hh x hx) ρ ρ' σ).1
  · exact clo1_ok h ρ ρ' σ
theorem clo3_ok {v : AVal} (h : clo3 v = true) (ρ ρ' : Rho) (σ : Sg) : @conc ρ σ v = @conc ρ' σ v ∧ topOf v = 0 := by
  unfold clo3 at h
  split at h
  · rename_i cs
    have hh := List.all_eq_true.1 h
    refine ⟨?_, Nat.le_zero.1 (topOf_tuple_le.2 fun v hv => Nat.le_of_eq (clo2_ok (hh v hv) ρ ρ' σ).2)⟩
    simp only [conc, concL_eq]
    congr 2
    exact List.map_congr_left fun x hx => (clo2_ok (hh x hx) ρ ρ' σ).1
  · exact clo2_ok h ρ ρ' σ
@[reducible] noncomputable def rhoOf (l : List Int) : Rho := ⟨fun i => match nth l i with | some n => n | none => 0, fun _ => false⟩
/-- A table of templates: which one, with which numbers? -/
noncomputable def tmplP (pick : List AVal → Option (Nat × List Int)) (tbl : T (List AVal × AVal)) : Plain := fun args o =>
  match pick args with
  | some (i, l) => match tbl.get i with
    | some p => (match eqVs (p.1.map (@fill2 (rhoOf l))) args && args.all clo2 && clo3 (@fill3 (rhoOf l) p.2) with | true => some (@fill3 (rhoOf l) p.2, o) | false => none)
    | none => none
  | none => none
theorem tmplP_ok [Rho] {E : Env} (hE : E.Ok) {sums : Sums} (hS : ∀ ρ : Rho, @SumsOk ρ E.P sums) {f : FuncId} {pick : List AVal → Option (Nat × List Int)} {tbl : T (List AVal × AVal)} (lf q : Nat)
    (h : T.All (fun _ p => topsOk [p] = true ∧ ∀ ρ : Rho, retV (@evF ρ E sums lf q f p.1 .run A0 ⟨[], []⟩) = some p.2) tbl 1 0) : SumOk1 E.P f (tmplP pick tbl).sum := by
  rename_i ρ0
  refine sum_of_goRet fun args o v o' hg => ?_
  unfold tmplP at hg
  split at hg <;> try cases hg
  rename_i i l hp
  split at hg <;> try cases hg
  rename_i p ht
  split at hg <;> cases hg
  rename_i hc
  obtain ⟨hc, hc3⟩ := and_true hc
  obtain ⟨hc1, hc2⟩ := and_true hc
  have he := eqVs_eq hc1
  obtain ⟨h1, h2⟩ := T.get_all _ _ _ h i p ht
  obtain ⟨h3, _⟩ := and_true h1
  obtain ⟨h4, h5⟩ := and_true h3
  rw [beq_iff] at h4 h5
  refine ⟨rfl, (clo3_ok hc3 ρ0 ρ0 ⟨fun _ => 0, fun _ => 0, fun _ => 0, fun _ => (0, 0)⟩).2, fun σ => ?_⟩
  have := @goRet_of_ev (rhoOf l) E hE sums (hS _) f lf q p.1 p.2 (h2 _) (topOf_tuple_le.1 (Nat.le_of_eq h4)) h5 σ
  rw [← @concL_fill2 (rhoOf l) σ p.1, he, ← @conc_fill3 (rhoOf l) σ p.2] at this
  have e1 : @concL (rhoOf l) σ args = @concL ρ0 σ args := by
    rw [@concL_eq (rhoOf l), @concL_eq ρ0]
    exact List.map_congr_left fun x hx => (clo2_ok (List.all_eq_true.1 hc2 x hx) _ _ σ).1
  rw [e1, (clo3_ok hc3 (rhoOf l) ρ0 σ).1] at this
  exact this

/-! Truths as numbers; numbers of few bits. -/
/-- A function of a truth that gives 0 or 1. -/
def truthP (k : IntKind) : Plain := fun args o =>
  match args with
  | [.symb e] => (match SX.isTruth e with | true => some (.sym k e, o) | false => some (.sym k (.no (.no e)), o))
  | [.bool false b] => some (.int false k (match b with | true => 1 | false => 0), o)
  | _ => none
theorem truthP_ok [Rho] {E : Env} (hE : E.Ok) {sums : Sums} (hS : SumsOk E.P sums) {f : FuncId} {k : IntKind} (lf q : Nat)
    (h1 : retV (evF E sums lf q f [.bool false true] .run A0 ⟨[], []⟩) = some (.int false k 1)) (h0 : retV (evF E sums lf q f [.bool false false] .run A0 ⟨[], []⟩) = some (.int false k 0)) :
    SumOk1 E.P f (truthP k).sum := by
  have nin : ∀ b, LIn [.bool false b] 0 := fun b v hv => by rcases List.mem_singleton.1 hv with rfl; exact Nat.le_refl _
  have key : ∀ (b : Bool) (σ : Sg), GoRet E.P f #[.bool b] (.int k (match b with | true => 1 | false => 0)) := by
    intro b σ
    cases b with
    | true => have := goRet_of_ev hE hS h1 (nin _) rfl σ; simpa [conc, concL] using this
    | false => have := goRet_of_ev hE hS h0 (nin _) rfl σ; simpa [conc, concL] using this
  have wt : ∀ e : SX, SX.isTruth e = true → k.wrap e.val = (match nz e.val with | true => 1 | false => 0) := by
    intro e he
    rcases SX.truth_val he with h | h <;> rw [h] <;> cases k <;> rfl
  refine sum_of_goRet fun args o v o' hg => ?_
  unfold truthP at hg
  split at hg
  · rename_i e
    split at hg <;> cases hg
    · rename_i he
      refine ⟨rfl, rfl, fun σ => ?_⟩
      have := key (nz e.val) σ
      rw [← wt e he] at this
      simpa [conc, concL] using this
    · refine ⟨rfl, rfl, fun σ => ?_⟩
      have := key (nz e.val) σ
      have e2 : nz (SX.no (.no e)).val = nz e.val := by simp only [SX.val, nz_eq]; by_cases h : e.val = 0 <;> simp [h]
      rw [← e2, ← wt (.no (.no e)) rfl] at this
      rw [e2] at this
      simpa [conc, concL] using this
  · cases hg
    rename_i b
    refine ⟨rfl, rfl, fun σ => ?_⟩
    have := key b σ
    simpa [conc, concL] using this
  · cases hg
/-- Is it a register? (of few bits: yes) -/
def regP : Plain := fun args o =>
  match args with
  | [.sym .i64 e, .bool false true] => (match SX.range e with
    | some (l, h) => (match ile 0 l && ile h 31 with | true => some (.bool false true, o) | false => none)
    | none => none)
  | _ => none
def isT : Option AVal → Bool
  | some (.bool false true) => true
  | _ => false
theorem regP_ok [Rho] {E : Env} (hE : E.Ok) {sums : Sums} (hS : SumsOk E.P sums) {f : FuncId} (lf q : Nat)
    (h : ((List.range 32).all fun n => isT (retV (evF E sums lf q f [.int false .i64 (.ofNat n), .bool false true] .run A0 ⟨[], []⟩))) = true) : SumOk1 E.P f regP.sum := by
  refine sum_of_goRet fun args o v o' hg => ?_
  unfold regP at hg
  split at hg <;> try cases hg
  rename_i e
  split at hg <;> try cases hg
  rename_i l hh hr
  split at hg <;> cases hg
  rename_i hc
  obtain ⟨h1, h2⟩ := and_true hc
  rw [ile_eq, decide_eq_true_eq] at h1 h2
  have hv := SX.range_ok hr
  refine ⟨rfl, rfl, fun σ => ?_⟩
  have hm := List.all_eq_true.1 h e.val.toNat (List.mem_range.2 (by omega))
  rw [show Int.ofNat e.val.toNat = e.val from Int.toNat_of_nonneg (by omega)] at hm
  have hm : retV (evF E sums lf q f [.int false .i64 e.val, .bool false true] .run A0 ⟨[], []⟩) = some (.bool false true) := by
    revert hm
    generalize retV _ = r
    intro hm
    unfold isT at hm
    split at hm
    · rfl
    · cases hm
  have := goRet_of_ev hE hS hm (fun v hv => by rcases List.mem_cons.1 hv with rfl | hv; exact Nat.le_refl _; rcases List.mem_singleton.1 hv with rfl; exact Nat.le_refl _) rfl σ
  have ew : IntKind.wrap .i64 e.val = e.val := by simp [IntKind.wrap, IntKind.bits, IntKind.signed]; omega
  simpa [conc, concL, ew] using this
end Go.Ev

/- A summary: a condition of flags (six truths; sixteen conditions). -/
set_option linter.unusedVariables false
namespace Go.Ev

def iteS (c a b : SX) : SX := match c with | .num n => (match nz n with | true => a | false => b) | c => .ite c a b
def noS (a : SX) : SX := match a with | .num n => (match nz n with | true => .num 0 | false => .num 1) | a => SX.notS a
def mkB (e : SX) : AVal := match e with | .num n => .bool false (nz n) | e => .symb e
/-- The eight, then turned round or not. -/
def condE (cf pf zf sf o : SX) : Nat → SX
  | 0 => o
  | 1 => cf
  | 2 => zf
  | 3 => iteS cf (.num 1) zf
  | 4 => sf
  | 5 => pf
  | 6 => iteS sf (noS o) o
  | _ => iteS zf (.num 1) (iteS sf (noS o) o)
def condB (cf pf zf sf o : Bool) : Nat → Bool
  | 0 => o
  | 1 => cf
  | 2 => zf
  | 3 => cf || zf
  | 4 => sf
  | 5 => pf
  | 6 => sf != o
  | _ => zf || sf != o
def condX (cf pf zf sf o : SX) (cc : Nat) : SX :=
  match Nat.beq (Nat.mod cc 2) 1 with
  | true => noS (condE cf pf zf sf o (Nat.div cc 2))
  | false => condE cf pf zf sf o (Nat.div cc 2)
def condF (cf pf zf sf o : Bool) (cc : Nat) : Bool :=
  match Nat.beq (Nat.mod cc 2) 1 with
  | true => !condB cf pf zf sf o (Nat.div cc 2)
  | false => condB cf pf zf sf o (Nat.div cc 2)
section
variable [Rho]
theorem nz_iteS (c a b : SX) : nz (iteS c a b).val = if nz c.val then nz a.val else nz b.val := by
  unfold iteS
  split
  · rename_i n
    cases h : nz n <;> simp [SX.val, h]
  · simp only [SX.val, nz_eq]
    by_cases h : c.val = 0 <;> simp [h]
theorem nz_noS (a : SX) : nz (noS a).val = !nz a.val := by
  unfold noS
  split
  · rename_i n
    cases h : nz n <;> simp [SX.val, h] <;> rfl
  · exact nz_notS a
theorem conc_mkB (σ : Sg) (e : SX) : conc σ (mkB e) = .bool (nz e.val) ∧ topOf (mkB e) = 0 := by
  unfold mkB
  split
  · exact ⟨rfl, rfl⟩
  · exact ⟨rfl, rfl⟩
theorem nz_condE (cf pf zf sf o : SX) (q : Nat) : nz (condE cf pf zf sf o q).val = condB (nz cf.val) (nz pf.val) (nz zf.val) (nz sf.val) (nz o.val) q := by
  have one : nz (SX.num 1).val = true := rfl
  have e6 : ∀ a b : Bool, (if a = true then !b else b) = (a != b) := by decide
  have e3 : ∀ a b : Bool, (if a = true then true else b) = (a || b) := by decide
  match q with
  | 0 => rfl
  | 1 => rfl
  | 2 => rfl
  | 3 => simp only [condE, condB, nz_iteS, one, e3]
  | 4 => rfl
  | 5 => rfl
  | 6 => simp only [condE, condB, nz_iteS, nz_noS, e6]
  | _ + 7 => simp only [condE, condB, nz_iteS, nz_noS, one, e6, e3]
theorem nz_condX (cf pf zf sf o : SX) (cc : Nat) : nz (condX cf pf zf sf o cc).val = condF (nz cf.val) (nz pf.val) (nz zf.val) (nz sf.val) (nz o.val) cc := by
  unfold condX condF
  cases Nat.beq (Nat.mod cc 2) 1 with
  | false => exact nz_condE _ _ _ _ _ _
  | true => simp only [nz_noS, nz_condE]
def condP : Plain := fun args o =>
  match args with
  | [.agg [a0, a1, a2, a3, a4, a5], .int false .i64 (.ofNat cc)] => (match toB a0, toB a1, toB a2, toB a3, toB a4, toB a5, Nat.blt cc 16 with
    | some cf, some pf, some af, some zf, some sf, some ov, true => some (mkB (condX cf pf zf sf ov cc), o)
    | _, _, _, _, _, _, _ => none)
  | _ => none
end
def bools : List Bool := [false, true]
noncomputable def condAll [Rho] (E : Env) (sums : Sums) (lf q : Nat) (f : FuncId) : Bool :=
  bools.all fun a => bools.all fun b => bools.all fun c => bools.all fun d => bools.all fun e => bools.all fun g => (List.range 16).all fun cc =>
    match retV (evF E sums lf q f [.agg [.bool false a, .bool false b, .bool false c, .bool false d, .bool false e, .bool false g], .int false .i64 (.ofNat cc)] .run A0 ⟨[], []⟩) with
    | some (.bool false r) => (r == condF a b d e g cc)
    | _ => false
theorem bools_all {p : Bool → Bool} (h : bools.all p = true) (b : Bool) : p b = true := List.all_eq_true.1 h b (by cases b <;> decide)
theorem condP_ok [Rho] {E : Env} (hE : E.Ok) {sums : Sums} (hS : SumsOk E.P sums) {f : FuncId} (lf q : Nat) (h : condAll E sums lf q f = true) : SumOk1 E.P f condP.sum := by
  have key : ∀ (a b c d e g : Bool) (cc : Nat), cc < 16 → ∀ σ : Sg, GoRet E.P f #[.agg #[.bool a, .bool b, .bool c, .bool d, .bool e, .bool g], .int .i64 (.ofNat cc)] (.bool (condF a b d e g cc)) := by
    intro a b c d e g cc hcc σ
    have h1 := bools_all (bools_all (bools_all (bools_all (bools_all (bools_all h a) b) c) d) e) g
    have h2 := List.all_eq_true.1 h1 cc (List.mem_range.2 hcc)
    split at h2
    · rename_i r hr
      have h3 : r = condF a b d e g cc := by simpa using h2
      subst h3
      have := goRet_of_ev hE hS hr (fun v hv => by
        rcases List.mem_cons.1 hv with rfl | hv
        · exact Nat.le_refl _
        · rcases List.mem_singleton.1 hv with rfl; exact Nat.le_refl _) rfl σ
      simpa [conc, concL] using this
    · cases h2
  refine sum_of_goRet fun args o v o' hg => ?_
  unfold condP at hg
  split at hg <;> try cases hg
  rename_i a0 a1 a2 a3 a4 a5 cc
  split at hg <;> cases hg
  rename_i cf pf af zf sf ov h0 h1 h2 h3 h4 h5 hcc
  have hcc := (blt_iff _ _).1 hcc
  refine ⟨rfl, (conc_mkB ⟨fun _ => 0, fun _ => 0, fun _ => 0, fun _ => (0, 0)⟩ _).2, fun σ => ?_⟩
  rw [(conc_mkB σ _).1, nz_condX]
  have := key (nz cf.val) (nz pf.val) (nz af.val) (nz zf.val) (nz sf.val) (nz ov.val) cc hcc σ
  have e : (concL σ [.agg [a0, a1, a2, a3, a4, a5], .int false .i64 (.ofNat cc)]).toArray = #[.agg #[.bool (nz cf.val), .bool (nz pf.val), .bool (nz af.val), .bool (nz zf.val), .bool (nz sf.val), .bool (nz ov.val)], .int .i64 (.ofNat cc)] := by
    simp only [concL, conc, (toB_ok h0 σ).1, (toB_ok h1 σ).1, (toB_ok h2 σ).1, (toB_ok h3 σ).1, (toB_ok h4 σ).1, (toB_ok h5 σ).1]
  rw [e]
  exact this
end Go.Ev

/- From the evaluator to a row: plain arguments are read alike in every world; a law that answers true. -/
set_option linter.unusedVariables false
namespace Go.Ev
open Go.ChangeShapes Go.WideShapes Go.ChangeAt Go.RowKit

theorem mapM_same {α β : Type} {f g : α → Option β} : ∀ {l : List α}, (∀ x ∈ l, f x = g x) → l.mapM f = l.mapM g
  | [], _ => rfl
  | a :: l, h => by
    rw [List.mapM_cons, List.mapM_cons, h a List.mem_cons_self, mapM_same fun x hx => h x (List.mem_cons_of_mem _ hx)]
theorem mapM_mem {α β : Type} {f : α → Option β} : ∀ {l : List α} {ys : List β}, l.mapM f = some ys → ∀ y ∈ ys, ∃ x ∈ l, f x = some y
  | [], ys, h, y, hy => by rw [List.mapM_nil] at h; cases h; cases hy
  | a :: l, ys, h, y, hy => by
    rw [List.mapM_cons] at h
    cases ha : f a with
    | none => rw [ha] at h; cases h
    | some b =>
      cases hl : l.mapM f with
      | none => rw [ha, hl] at h; cases h
      | some bs =>
        rw [ha, hl] at h
        cases h
        rcases List.mem_cons.1 hy with rfl | hy
        · exact ⟨a, List.mem_cons_self, ha⟩
        · obtain ⟨x, hx, hfx⟩ := mapM_mem hl y hy
          exact ⟨x, List.mem_cons_of_mem _ hx, hfx⟩
/-- Types of numbers and truths, rows and structs of them. -/
def plainT (P : Program) : Nat → TypeId → Bool
  | 0, _ => false
  | n + 1, t => match P.underlying t with
    | some .bool => true
    | some (.int _) => true
    | some (.struct fs) => fs.toList.all fun f => plainT P n f.type
    | some (.array _ e) => plainT P n e
    | _ => false
theorem trod_plain {H : Type} {enc : TypeId × Value → H} {P : Program} {w w' : World} {b b' : Nat} {sp sp' : Nat → Bool} {hd hd' : Bool} : ∀ (n : Nat) {t : TypeId}, plainT P n t = true → ∀ (fuel : Nat) (cs : List Value),
    DataW.trod enc P w b sp hd fuel t cs = DataW.trod enc P w' b' sp' hd' fuel t cs ∧ ∀ x, DataW.trod enc P w b sp hd fuel t cs = some x → x.2 = []
  | 0, t, h, fuel, cs => by cases h
  | n + 1, t, h, 0, cs => ⟨rfl, fun x hx => by cases hx⟩
  | n + 1, t, h, fuel + 1, cs => by
    unfold plainT at h
    split at h
    · rename_i hu
      simp only [DataW.trod, hu]
      match cs with
      | [] => exact ⟨rfl, fun x hx => by cases hx⟩
      | [v] => cases v <;> exact ⟨rfl, fun x hx => by cases hx <;> rfl⟩
      | v :: u :: r => exact ⟨by cases v <;> rfl, fun x hx => by cases v <;> cases hx⟩
    · rename_i k hu
      simp only [DataW.trod, hu]
      match cs with
      | [] => exact ⟨rfl, fun x hx => by cases hx⟩
      | [v] =>
        cases v <;> first
          | exact ⟨rfl, fun x hx => by cases hx⟩
          | (refine ⟨rfl, fun x hx => ?_⟩
             simp only at hx
             split at hx <;> cases hx
             rfl)
      | v :: u :: r => exact ⟨by cases v <;> rfl, fun x hx => by cases v <;> cases hx⟩
    · rename_i fs hu
      have ih : ∀ f ∈ fs.toList, ∀ cs, _ := fun f hf cs => trod_plain (H := H) (enc := enc) (P := P) (w := w) (w' := w') (b := b) (b' := b') (sp := sp) (sp' := sp') (hd := hd) (hd' := hd') n (List.all_eq_true.1 h f hf) fuel cs
      simp only [DataW.trod, hu]
      split
      · constructor
        · rw [mapM_same fun f hf => (ih f hf _).1]
        · intro x hx
          simp only [Option.map_eq_some_iff] at hx
          obtain ⟨xs, hxs, rfl⟩ := hx
          apply List.flatMap_eq_nil_iff.2
          intro y hy
          obtain ⟨f, hf, hfy⟩ := mapM_mem hxs y hy
          exact (ih f hf _).2 y hfy
      · exact ⟨rfl, fun x hx => by cases hx⟩
    · rename_i m e hu
      have ih : ∀ cs, _ := fun cs => trod_plain (H := H) (enc := enc) (P := P) (w := w) (w' := w') (b := b) (b' := b') (sp := sp) (sp' := sp') (hd := hd) (hd' := hd') n h fuel cs
      simp only [DataW.trod, hu]
      split
      · constructor
        · rw [mapM_same fun i _ => (ih _).1]
        · intro x hx
          simp only [Option.map_eq_some_iff] at hx
          obtain ⟨xs, hxs, rfl⟩ := hx
          apply List.flatMap_eq_nil_iff.2
          intro y hy
          obtain ⟨i, _, hiy⟩ := mapM_mem hxs y hy
          exact (ih _).2 y hiy
      · exact ⟨rfl, fun x hx => by cases hx⟩
    · cases h
theorem trodAll_plain {H : Type} {enc : TypeId × Value → H} {P : Program} {w w' : World} {b b' : Nat} {sp sp' : Nat → Bool} {hd hd' : Bool} (n : Nat) : ∀ {ts : List TypeId} {vs : List Value} {ds : List (DataW H)} {ps : List MemPlace}, ts.all (plainT P n) = true →
    DataW.TrodAll enc P w b sp hd ts vs ds ps → ps = [] ∧ DataW.TrodAll enc P w' b' sp' hd' ts vs ds []
  | [], vs, ds, ps, _, h => by
    obtain ⟨rfl, rfl, rfl⟩ := trodAll_nil h
    exact ⟨rfl, rfl⟩
  | t :: ts, vs, ds, ps, ht, h => by
    obtain ⟨v, vs', d, ds', p, q, rfl, rfl, rfl, ⟨fuel, h1⟩, h2⟩ := trodAll_cons h
    rw [List.all_cons] at ht
    obtain ⟨ht1, ht2⟩ := and_true ht
    obtain ⟨e1, e2⟩ := trod_plain (w := w) (w' := w') (b := b) (b' := b') (sp := sp) (sp' := sp') (hd := hd) (hd' := hd') (enc := enc) n ht1 fuel v.cells.toList
    obtain ⟨rfl, r2⟩ := trodAll_plain n (w' := w') (b' := b') (sp' := sp') (hd' := hd') ht2 h2
    have hp : p = [] := e2 _ h1
    subst hp
    rw [e1] at h1
    exact ⟨rfl, [], [], ⟨fuel, h1⟩, r2, rfl⟩
/-- Behind a call that leaves what lay there as it lay: the row's word, where the arguments hold no memory. -/
theorem post_plain {H : Type} {enc : TypeId × Value → H} {P : Program} {f : Func} {s : ChangeSpec} {apart fresh handsOn again : Bool} {W W' : World} {args : Array Value} {v : Value} {ds gs : List (DataW H)} {before : List MemPlace} (n : Nat)
    (hW : DataW.Whole enc P f.params.toList s.vars apart W args.toList ds gs before) (hvars : s.vars = []) (hpl : f.params.toList.all (plainT P n) = true)
    (hres : ∀ (b : Nat) (sp : Nat → Bool) (hd : Bool), DataW.TrodAll enc P W' b sp hd f.resultTypes.toList (v.resultList f.resultTypes.size) (s.fn H (ds ++ gs)).results [])
    (hargs : (s.fn H (ds ++ gs)).args = ds) (hgs : (s.fn H (ds ++ gs)).vars = [])
    (hfr : ∀ c, c < W.heap.size → W'.heap[c]? = W.heap[c]?) (hos : W'.os = W.os) (hout : W'.output = W.output)
    (hok : ∀ (j : Nat) (t : TypeId) (r : Value), f.resultTypes[j]? = some t → (v.resultList f.resultTypes.size)[j]? = some r → Value.okWide P W' .any 0 t r) :
    s.post enc P f apart fresh handsOn again W args v W' := by
  have hW' := hW
  obtain ⟨p, q, hA, hV, rfl, hz, hn⟩ := hW
  rw [hvars] at hV
  obtain ⟨rfl, rfl⟩ := trodVars_none hV
  obtain ⟨rfl, _⟩ := trodAll_plain (w' := W') (b' := 0) (sp' := fun _ => true) (hd' := true) n hpl hA
  have hA' : ∀ sp' : Nat → Bool, DataW.TrodAll enc P W' 0 sp' true f.params.toList args.toList ds [] := fun sp' => (trodAll_plain (w' := W') (b' := 0) (sp' := sp') (hd' := true) n hpl hA).2
  have hk : W.keptBut W' (fun _ => False) := by
    refine ⟨hos, hout, fun i hi => ?_⟩
    rw [hfr i hi]
    cases hx : W.heap[i]? with
    | none => rfl
    | some o =>
      cases o with
      | cells c t fr => exact ⟨rfl, rfl, rfl, fun j _ => rfl⟩
      | map es cl => exact .inr ⟨rfl, rfl⟩
      | _ => rfl
  have hA2 : ∀ sp' : Nat → Bool, DataW.TrodAll enc P W' 0 sp' true f.params.toList args.toList (s.fn H (ds ++ [])).args [] := fun sp' => by rw [hargs]; exact hA' sp'
  have hV2 : ∀ sp' : Nat → Bool, DataW.TrodVars enc P W' sp' s.vars (s.fn H (ds ++ [])).vars [] := fun sp' => by rw [hgs, hvars]; exact rfl
  refine ⟨ds, [], [], [], [], [], hW', hres _ _ _, hA2 _, hV2 _, World.keptBut_mono (fun p hp => hp.elim) hk, fun _ => ?_⟩
  refine ⟨hok, _, _, ([] ++ []) ++ [], ⟨[] ++ [], [], trodAll_append (hA2 _) (hres _ _ _), hV2 _, rfl, ?_, ?_⟩, ?_⟩
  · intro b off hp; cases hp
  · intro ha; exact List.nodup_nil
  · intro p hp _; cases hp

/-! Cells of arguments. -/
theorem cell_int {P : Program} {w : World} {r : Reach} {b : Nat} {t : TypeId} {k : IntKind} {v : Value} (ht : P.underlying t = some (.int k)) (h : Cell.okWide P w r b t v) : ∃ n, v = .int k n ∧ k.wrap n = n := by
  simp only [Cell.okWide, ht] at h
  cases v <;> simp [Cell.ok, ht] at h
  rename_i k' n
  obtain ⟨rfl, h1, h2⟩ := h
  refine ⟨n, rfl, ?_⟩
  cases k' <;> simp [IntKind.min, IntKind.max, IntKind.signed, IntKind.bits, IntKind.wrap] at h1 h2 ⊢ <;> (try split) <;> omega
theorem cell_bool {P : Program} {w : World} {r : Reach} {b : Nat} {t : TypeId} {v : Value} (ht : P.underlying t = some .bool) (h : Cell.okWide P w r b t v) : ∃ c, v = .bool c := by
  simp only [Cell.okWide, ht] at h
  cases v <;> simp [Cell.ok, ht] at h
  exact ⟨_, rfl⟩
theorem okWide_cell_int {P : Program} {w : World} {r : Reach} {b : Nat} {t : TypeId} {k : IntKind} {v : Value} (ht : P.underlying t = some (.int k)) (h : Value.okWide P w r b t v) : ∃ n, v = .int k n ∧ k.wrap n = n := by
  simp only [Value.okWide, ht] at h
  exact cell_int ht h
end Go.Ev

/- A law's way: its path, what is owed, its value. -/
set_option linter.unusedVariables false
namespace Go.Ev

def outcome : FR → Option (AVal × List Prop)
  | .ret v .run _ ⟨[], l⟩ => some (v, l)
  | _ => none
theorem outcome_ok {r : FR} {v : AVal} {l : List Prop} (h : outcome r = some (v, l)) : ∃ A', r = .ret v .run A' ⟨[], l⟩ := by
  unfold outcome at h
  split at h <;> cases h
  exact ⟨_, rfl⟩
theorem goRet_of_outcome [Rho] {E : Env} (hE : E.Ok) {sums : Sums} (hS : SumsOk E.P sums) {f : FuncId} {lf q : Nat} {args : List AVal} {path : List Dec} {v : AVal} {l : List Prop}
    (h : outcome (evF E sums lf q f args .run A0 ⟨path, []⟩) = some (v, l)) (ho : AllL id l) (ha : LIn args 0) (hv : topOf v = 0) (σ : Sg) : GoRet E.P f (concL σ args).toArray (conc σ v) := by
  obtain ⟨A', h1⟩ := outcome_ok h
  have hc := evF_ok hE hS lf q f args .run A0 ⟨path, []⟩ ⟨[], l⟩ (by rw [h1]; rfl)
  obtain ⟨_, hc2⟩ := hc
  obtain ⟨hc3, hc4⟩ := hc2 (fun x hx => ho.mem x hx)
  refine ⟨hc3, fun w => ?_⟩
  have := hc4 σ w (A0_r σ w) ha trivial
  rw [h1] at this
  refine Calls.mono this fun e w' h9 => ?_
  obtain ⟨_, σ', rfl, _, hto, _, _⟩ := h9
  exact ⟨by rw [conc_top0 hv], hto.s.size, fun c hc => hto.s.frame c hc (fun i b hb => by cases hb), hto.s.os, hto.s.output⟩

/-! A state of a guest: its cells. -/
def stS : AVal := .agg [.sym .u32 (.vr 0), .sym .u32 (.vr 1), .sym .u32 (.vr 2), .sym .u32 (.vr 3), .sym .u32 (.vr 4), .sym .u32 (.vr 5), .sym .u32 (.vr 6), .sym .u32 (.vr 7), .sym .u32 (.vr 8),
  .symb (.bv 0), .symb (.bv 1), .symb (.bv 2), .symb (.bv 3), .symb (.bv 4), .symb (.bv 5), .symb (.bv 6), .sym .u64 (.vr 9)]
/-- Numbers and truths of a state, and one more number. -/
@[reducible] def rhoS (n : Nat → Int) (b : Nat → Bool) : Rho := ⟨n, b⟩
def stV (n : Nat → Int) (b : Nat → Bool) : Value := .agg #[.int .u32 (n 0), .int .u32 (n 1), .int .u32 (n 2), .int .u32 (n 3), .int .u32 (n 4), .int .u32 (n 5), .int .u32 (n 6), .int .u32 (n 7), .int .u32 (n 8),
  .bool (b 0), .bool (b 1), .bool (b 2), .bool (b 3), .bool (b 4), .bool (b 5), .bool (b 6), .int .u64 (n 9)]
def stOk (n : Nat → Int) : Prop := (∀ i, i < 9 → IntKind.wrap .u32 (n i) = n i) ∧ IntKind.wrap .u64 (n 9) = n 9
theorem nz_bv [Rho] (i : Nat) : nz (SX.bv i).val = Rho.b i := by simp only [SX.val]; cases Rho.b i <;> rfl
theorem conc_stS (n : Nat → Int) (b : Nat → Bool) (h : stOk n) (σ : Sg) : @conc (rhoS n b) σ stS = stV n b := by
  obtain ⟨h1, h2⟩ := h
  have e : ∀ i, i < 9 → IntKind.wrap .u32 (@SX.val (rhoS n b) (.vr i)) = n i := fun i hi => h1 i hi
  have e2 : IntKind.wrap .u64 (@SX.val (rhoS n b) (.vr 9)) = n 9 := h2
  have e3 : ∀ i, nz (@SX.val (rhoS n b) (.bv i)) = b i := fun i => @nz_bv (rhoS n b) i
  simp only [stS, stV, conc, concL, e 0 (by omega), e 1 (by omega), e 2 (by omega), e 3 (by omega), e 4 (by omega), e 5 (by omega), e 6 (by omega), e 7 (by omega), e 8 (by omega), e2, e3]
theorem stS_in : topOf stS = 0 := rfl

/-! Halves of a word: what the decisions on them say. -/
theorem nz_cmp_eq [Rho] (a b : SX) : nz (SX.cmp .eql a b).val = decide (a.val = b.val) := by
  simp only [SX.val, cmpI, ieq_eq, nz_eq]
  by_cases h : a.val = b.val <;> simp [h]
theorem nz_no [Rho] (a : SX) : nz (SX.no a).val = !nz a.val := by
  simp only [SX.val, nz_eq]
  by_cases h : a.val = 0 <;> simp [h]
/-- The upper half is nought. -/
theorem hi_nz [Rho] (e : SX) : nz (SX.cmp .eql (.sx 32 (.cs 12 0 (.sl 20 12 e .nil))) (.num 0)).val = decide (e.val / 4096 % 1048576 = 0) := by
  rw [nz_cmp_eq]
  apply decide_eq_decide.2
  simp only [SX.val, sxI]
  simp
  split <;> omega
theorem lo_nz [Rho] (e : SX) : nz (SX.no (.cmp .eql (.sx 12 (.sl 12 0 e .nil)) (.num 0))).val = !decide (e.val % 4096 = 0) := by
  rw [nz_no, nz_cmp_eq]
  congr 1
  apply decide_eq_decide.2
  simp only [SX.val, sxI]
  simp
  split <;> omega
/-- If the upper half is nought, the lower one is all. -/
theorem low_all [Rho] (e : SX) {x : Int} (h : (x + 2048) / 4096 % 1048576 = 0) (he : e.val = x) : IntKind.wrap .u32 (SX.sx 12 (.sl 12 0 e .nil)).val = IntKind.wrap .u32 x := by
  simp only [SX.val, sxI, he, IntKind.wrap, IntKind.bits, IntKind.signed]
  simp
  split <;> omega
theorem high_all [Rho] (e : SX) {x : Int} (h : x % 4096 = 0) (he : e.val = x + 2048) : IntKind.wrap .u32 (SX.cs 12 0 (.sl 20 12 e .nil)).val = IntKind.wrap .u32 x := by
  simp only [SX.val, he, IntKind.wrap, IntKind.bits, IntKind.signed]
  simp
  omega
end Go.Ev
