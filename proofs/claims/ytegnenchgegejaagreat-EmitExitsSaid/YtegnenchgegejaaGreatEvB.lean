import Derived.Test.YtegnenchgegejaaGreatEvA
import Derived.ChangeKeysEq
import Derived.Laws.StructEq
import Derived.MapKept
import Derived.Laws.MakeOwn
import Derived.Laws.Append
import Derived.Laws.AppendOwn
import Derived.Recover

set_option linter.unusedSectionVars false
set_option linter.unusedSimpArgs false
set_option linter.unusedVariables false
/- Operations without effect do what the evaluator says: numbers, comparisons, parts, literals. -/
set_option linter.unusedSimpArgs false
set_option linter.unusedVariables false
namespace Go.Ev
variable [Rho]

section
variable {P : Program} {σ : Sg} {nx : Nat} {w : World}
theorem binInt_ok {op : BinOp} {s s' : Bool} {k : IntKind} {a b : Int} {v : AVal} {l : List Prop} {t : TypeId}
    (h : binInt op s s' k a b = some (v, l)) (hl : ∀ p ∈ l, p) : VOk P σ nx w (binOp op t (.int k a) (.int k b)) v := by
  cases op <;> simp [binInt] at h
  case quo =>
    cases s' <;> simp at h
    · cases hz : isZero b <;> simp [hz] at h
      obtain ⟨rfl, rfl⟩ := h
      have hb : b ≠ 0 := by intro e; subst e; exact Bool.noConfusion hz
      refine ⟨?_, Nat.zero_le _⟩
      simp [binOp, Op.intDiv, hb, conc, iquo_eq, fwrap_eq]
    · obtain ⟨rfl, rfl⟩ := h
      have hb : b ≠ 0 := hl _ (by simp)
      refine ⟨?_, Nat.zero_le _⟩
      simp [binOp, Op.intDiv, hb, conc, iquo_eq, fwrap_eq]
  case rem =>
    cases s' <;> simp at h
    · cases hz : isZero b <;> simp [hz] at h
      obtain ⟨rfl, rfl⟩ := h
      have hb : b ≠ 0 := by intro e; subst e; exact Bool.noConfusion hz
      refine ⟨?_, Nat.zero_le _⟩
      simp [binOp, Op.intDiv, hb, conc, irem_eq, fwrap_eq]
    · obtain ⟨rfl, rfl⟩ := h
      have hb : b ≠ 0 := hl _ (by simp)
      refine ⟨?_, Nat.zero_le _⟩
      simp [binOp, Op.intDiv, hb, conc, irem_eq, fwrap_eq]
  all_goals
    obtain ⟨rfl, rfl⟩ := h
    refine ⟨?_, Nat.zero_le _⟩
    simp [binOp, Op.intArith, Op.intBits, Op.intCmp, conc, fwrap_eq, iand_eq, ior_eq, ixor_eq, iandNot, ieq_eq, ilt_eq, ile_eq]
  all_goals first | rfl | (simp only [GT.gt, GE.ge])
theorem shDo_ok {op : BinOp} {s : Bool} {k k' : IntKind} {a b : Int} {v : AVal} {l owed : List Prop} {t : TypeId}
    (h : shDo op s k a b owed = some (v, l)) (hb : ¬ b < 0) : VOk P σ nx w (binOp op t (.int k a) (.int k' b)) v := by
  cases op <;> simp [shDo] at h
  · obtain ⟨rfl, rfl⟩ := h; refine ⟨?_, Nat.zero_le _⟩; simp [binOp, Op.shift, hb, conc, ishl_eq]
  · obtain ⟨rfl, rfl⟩ := h; refine ⟨?_, Nat.zero_le _⟩; simp [binOp, Op.shift, hb, conc, ishr_eq]
theorem shDo_owed {op : BinOp} {s : Bool} {k : IntKind} {a b : Int} {v : AVal} {l owed : List Prop} (h : shDo op s k a b owed = some (v, l)) : l = owed := by
  cases op <;> simp [shDo] at h <;> exact h.2.symm
theorem shInt_ok {op : BinOp} {s s' : Bool} {k k' : IntKind} {a b : Int} {v : AVal} {l : List Prop} {t : TypeId}
    (h : shInt op s s' k a b = some (v, l)) (hl : ∀ p ∈ l, p) : VOk P σ nx w (binOp op t (.int k a) (.int k' b)) v := by
  cases s' with
  | true =>
    have h' : shDo op true k a b [0 ≤ b] = some (v, l) := h
    have := shDo_owed h'; subst this
    exact shDo_ok h' (by have := hl _ (List.mem_cons_self); omega)
  | false =>
    simp only [shInt] at h
    split at h
    · cases h
    · rename_i hb
      rw [ilt_eq] at hb
      exact shDo_ok h (by simpa using hb)
theorem binStr_ok {op : BinOp} {a b : ByteArray} {v : AVal} {l : List Prop} {t : TypeId} (h : binStr op a b = some (v, l)) :
    VOk P σ nx w (binOp op t (.string a) (.string b)) v := by
  cases op <;> simp [binStr] at h
  case add =>
    cases hc : Nat.blt (a.size + b.size) 9223372036854775807 <;> rw [hc] at h <;> simp at h
    obtain ⟨rfl, rfl⟩ := h
    refine ⟨?_, Nat.zero_le _⟩
    rw [blt_iff] at hc
    have : ¬ (((a.size + b.size : Nat) : Int) > IntKind.i64.max) := by
      simp only [IntKind.max, IntKind.signed, IntKind.bits]; simp; omega
    simp only [binOp, Op.stringOp, this, if_false]; rfl
  all_goals
    obtain ⟨rfl, rfl⟩ := h
    refine ⟨?_, Nat.zero_le _⟩
    simp [binOp, Op.stringOp, conc]
end

section
variable {E : Env} {σ : Sg} {A : AW} {w : World} {n nx : Nat} {tm : T AVal} {ac : Act}
theorem partA_ok (hE : E.Ok) {t : TypeId} {cs : List AVal} {off : Nat} {v : AVal} (h : partA E t cs off = some v) (hcs : ∀ u ∈ cs, topOf u ≤ nx) :
    VOk E.P σ nx w (part t (concL σ cs).toArray off) v := by
  unfold partA at h
  split at h <;> try cases h
  · rename_i k hag hsz
    refine ⟨?_, topOf_agg_le.2 fun u hu => hcs u ?_⟩
    · simp only [part, Sem.run_bind, isAgg_ok hE hag, Result.andThen_ok, run_sizeT hE hsz, if_true, Sem.run_pure, conc]
      congr 3
      apply Array.ext'
      simp only [concL_eq, takeN_eq, dropN_eq, List.map_take, List.map_drop]
      simp [List.drop_take]
    · rw [takeN_eq, dropN_eq] at hu
      exact List.mem_of_mem_drop (List.mem_of_mem_take hu)
  · rename_i hag
    rw [nth_eq] at h
    refine ⟨?_, hcs v (List.mem_of_getElem? h)⟩
    have : (concL σ cs).toArray[off]? = some (conc σ v) := by simp [concL_eq, h]
    simp only [part, Sem.run_bind, isAgg_ok hE hag, Result.andThen_ok, Bool.false_eq_true, if_false, this, Sem.run_pure]

theorem eqFieldsA_cons (eq : TypeId → AVal → AVal → Option (Bool × Bool)) (xs ys : List AVal) (f : Field) (fs : List Field) :
    eqFieldsA E eq xs ys (f :: fs) = match partA E f.type xs f.offset, partA E f.type ys f.offset with
      | some x, some y => match eq f.type x y, eqFieldsA E eq xs ys fs with
        | some (s, b), some (s', b') => match f.name == "_" with
          | true => none
          | false => some (s || s', b && b')
        | _, _ => none
      | _, _ => none := rfl
theorem eqFields_ok (hE : E.Ok) {d : Nat} {eq : TypeId → AVal → AVal → Option (Bool × Bool)}
    (heq : ∀ t x y s b, eq t x y = some (s, b) → (Op.equalIn d t (conc σ x) (conc σ y)).run E.P w = .ok b w) {xs ys : List AVal} :
    ∀ {fs : List Field} {s b : Bool}, eqFieldsA E eq xs ys fs = some (s, b) → (Op.eqFields d (concL σ xs).toArray (concL σ ys).toArray fs).run E.P w = .ok b w
  | [], s, b, h => by cases h; simp [Op.eqFields]
  | f :: fs, s, b, h => by
    rw [eqFieldsA_cons] at h
    split at h <;> try cases h
    rename_i x y hx hy
    split at h <;> try cases h
    rename_i s1 b1 s2 b2 h1 h2
    split at h <;> cases h
    rename_i hn
    have hn' : f.name ≠ "_" := by simpa using hn
    obtain ⟨r1, _⟩ := partA_ok (nx := topOf.topsOf xs 0) (σ := σ) (w := w) hE hx (fun u hu => topsOf_mem hu 0)
    obtain ⟨r2, _⟩ := partA_ok (nx := topOf.topsOf ys 0) (σ := σ) (w := w) hE hy (fun u hu => topsOf_mem hu 0)
    simp only [Op.eqFields, hn', ne_eq, not_false_eq_true, if_true, Sem.run_bind, r1, r2, heq _ _ _ _ _ h1, Result.andThen_ok]
    cases b1 with
    | false => simp
    | true => simpa using eqFields_ok hE heq h2
theorem eqItemsA_cons (eq : TypeId → AVal → AVal → Option (Bool × Bool)) (e : TypeId) (c : Nat) (xs ys : List AVal) (i : Nat) (is : List Nat) :
    eqItemsA E eq e c xs ys (i :: is) = match partA E e xs (i * c), partA E e ys (i * c) with
      | some x, some y => match eq e x y, eqItemsA E eq e c xs ys is with
        | some (s, b), some (s', b') => some (s || s', b && b')
        | _, _ => none
      | _, _ => none := rfl
theorem eqItems_ok (hE : E.Ok) {d : Nat} {eq : TypeId → AVal → AVal → Option (Bool × Bool)}
    (heq : ∀ t x y s b, eq t x y = some (s, b) → (Op.equalIn d t (conc σ x) (conc σ y)).run E.P w = .ok b w) {xs ys : List AVal} {e : TypeId} {c : Nat} :
    ∀ {is : List Nat} {s b : Bool}, eqItemsA E eq e c xs ys is = some (s, b) → (Op.eqItems d e c (concL σ xs).toArray (concL σ ys).toArray is).run E.P w = .ok b w
  | [], s, b, h => by cases h; simp [Op.eqItems]
  | i :: is, s, b, h => by
    rw [eqItemsA_cons] at h
    split at h <;> try cases h
    rename_i x y hx hy
    split at h <;> try cases h
    rename_i s1 b1 s2 b2 h1 h2
    obtain ⟨r1, _⟩ := partA_ok (nx := topOf.topsOf xs 0) (σ := σ) (w := w) hE hx (fun u hu => topsOf_mem hu 0)
    obtain ⟨r2, _⟩ := partA_ok (nx := topOf.topsOf ys 0) (σ := σ) (w := w) hE hy (fun u hu => topsOf_mem hu 0)
    simp only [Op.eqItems, Sem.run_bind, r1, r2, heq _ _ _ _ _ h1, Result.andThen_ok]
    cases b1 with
    | false => simp
    | true => simpa using eqItems_ok hE heq h2
theorem beq_dec (x y : Int) : (x == y) = decide (x = y) := by by_cases h : x = y <;> simp [h]
set_option maxHeartbeats 1600000 in
theorem eqA_ok (hE : E.Ok) : ∀ {d d' : Nat} {t : TypeId} {x y : AVal} {s b : Bool}, eqA E d t x y = some (s, b) → d ≤ d' →
    (Op.equalIn d' t (conc σ x) (conc σ y)).run E.P w = .ok b w
  | 0, d', t, x, y, s, b, h, _ => by simp [eqA] at h
  | d + 1, 0, t, x, y, s, b, h, hd => by omega
  | d + 1, d' + 1, t, x, y, s, b, h, hd => by
    unfold eqA at h
    split at h
    case h_19 =>
      rename_i fs xs ys hu
      split at h
      · cases h
      · rename_i hs
        have hfs : E.P.fieldsOf t = fs := by simp only [Program.fieldsOf, und_ok hE hu]
        simp only [conc]
        rw [run_equalIn_struct w d' t _ _ (by rw [hfs]; exact und_ok hE hu) hs, hfs]
        exact eqFields_ok hE (fun t x y s b h => eqA_ok hE h (by omega)) h
    case h_18 =>
      rename_i hu
      split at h
      · rename_i hne
        cases h
        have := (beq_false_iff _ _).1 hne
        simp [Op.equalIn, run_underlying (und_ok hE hu), conc, this]
      · rename_i he
        have he' := (beq_iff _ _).1 he; subst he'
        split at h
        · rename_i hc
          cases hi : E.ty.get _ with
          | none => rw [hi] at hc; cases hc
          | some i =>
            rw [hi] at hc
            have hcmp : i.comparable = true := by simpa using hc
            have := eqA_ok hE h (show d ≤ d' by omega)
            simp [Op.equalIn, run_underlying (und_ok hE hu), conc, typeInfo, info_ok hE hi, hcmp, this]
        · cases h
    case h_2 =>
      rename_i hu
      split at h
      · rename_i hk
        cases h
        rw [kindEq_eq] at hk; subst hk
        simp [Op.equalIn, run_underlying (und_ok hE hu), conc, ieq_eq]
      · cases h
    case h_20 =>
      rename_i n e xs ys hu
      split at h
      · rename_i c hc
        obtain ⟨i, hi, hsz⟩ := szT_ok hE hc
        have hcell : E.P.cellsOf e = c := by simp [Program.cellsOf, hi, hsz]
        simp only [conc]
        rw [run_equalIn_array w d' _ _ (und_ok hE hu) hi, hcell]
        exact eqItems_ok hE (fun t x y s b h => eqA_ok hE h (by omega)) h
      · cases h
    case h_21 =>
      rename_i k' k a y hu
      obtain ⟨m, h1, h2⟩ := eqXA_ok σ h
      simp only [conc, h1]
      simp [Op.equalIn, run_underlying (und_ok hE hu), h2]
      exact beq_dec _ _
    case h_22 =>
      rename_i hu
      split at h <;> try cases h
      rename_i hx
      obtain ⟨h0, _⟩ := toX_ok hx σ
      obtain ⟨m, h1, h2⟩ := eqXA_ok σ h
      rw [h0]
      simp only [h1]
      simp [Op.equalIn, run_underlying (und_ok hE hu), h2]
      exact beq_dec _ _
    case h_23 =>
      rename_i hu
      obtain ⟨m, h1, h2⟩ := eqBA_ok σ h
      simp only [conc, h1]
      simp [Op.equalIn, run_underlying (und_ok hE hu), h2]
    case h_24 =>
      rename_i hu
      split at h <;> try cases h
      rename_i hx
      obtain ⟨h0, _⟩ := toB_ok hx σ
      obtain ⟨m, h1, h2⟩ := eqBA_ok σ h
      rw [h0]
      simp only [h1]
      simp [Op.equalIn, run_underlying (und_ok hE hu), h2]
    case h_25 => cases h
    all_goals
      rename_i hu
      cases h
      simp [Op.equalIn, run_underlying (und_ok hE hu), conc]
end

end Go.Ev

/- Operations without effect do what the evaluator says: the rest. -/
set_option linter.unusedSimpArgs false
set_option linter.unusedVariables false
namespace Go.Ev
variable [Rho]

section
variable {E : Env} {σ : Sg} {A : AW} {w : World} {n nx : Nat} {tm : T AVal} {ac : Act}

theorem eqGuard_int (op : BinOp) (t : TypeId) (x y : Operand) (k : IntKind) (a : Int) (v : Value) (P : Program) : (eqGuard op t x y (.int k a) v).run P w = .ok () w := by
  unfold eqGuard; cases op <;> rfl
theorem eqGuard_str (op : BinOp) (t : TypeId) (x y : Operand) (s : ByteArray) (v : Value) (P : Program) : (eqGuard op t x y (.string s) v).run P w = .ok () w := by
  unfold eqGuard; cases op <;> rfl
theorem eqA_raw_l (d : Nat) (t : TypeId) (u : Value) (y : AVal) : eqA E d t (.raw u) y = none := by
  cases d with
  | zero => rfl
  | succ d => unfold eqA; split <;> first | rfl | contradiction
theorem eqA_raw_r (d : Nat) (t : TypeId) (x : AVal) (u : Value) : eqA E d t x (.raw u) = none := by
  cases d with
  | zero => rfl
  | succ d => unfold eqA; split <;> first | rfl | contradiction
theorem eqGuard_eql (hE : E.Ok) {neg : Bool} {t : TypeId} {xo yo : Operand} {x y : AVal} {v : AVal} {l : List Prop} (h : binEql E neg t xo yo x y = some (v, l)) :
    (eqGuard (if neg then .neq else .eql) t xo yo (conc σ x) (conc σ y)).run E.P w = .ok () w := by
  have hb : (!(match (if neg then BinOp.neq else .eql) with | .eql | .neq => true | _ => false)) = false := by cases neg <;> rfl
  unfold binEql at h
  cases hn : isNilIface x && isNilIface y with
  | true =>
    rw [hn] at h
    simp only [Bool.and_eq_true] at hn
    obtain ⟨hx, hy⟩ := hn
    have ex : x = .niliface := by cases x <;> first | rfl | cases hx
    have ey : y = .niliface := by cases y <;> first | rfl | cases hy
    subst ex; subst ey
    simp only at h
    split at h
    · rename_i hc _
      clear h hb
      cases neg <;> cases xo <;> cases yo <;> first
        | (exfalso; exact Bool.noConfusion hc)
        | (unfold eqGuard; simp [conc])
    · cases h
  | false =>
    rw [hn] at h
    simp only at h
    cases hg : (isAggV x && isAggV y) && E.P.eqGuardType E.P.depth t with
    | true => rw [hg] at h; cases h
    | false =>
      rw [hg] at h
      simp only at h
      cases he : eqA E 64 t x y with
      | none => rw [he] at h; cases h
      | some r =>
        have hraw : (∀ u, x ≠ .raw u) ∧ (∀ u, y ≠ .raw u) := by
          constructor <;> (intro u e; subst e; simp [eqA_raw_l, eqA_raw_r] at he)
        have key : ∀ op : BinOp, (op = .eql ∨ op = .neq) → (eqGuard op t xo yo (conc σ x) (conc σ y)).run E.P w = .ok () w := by
          intro op hop
          cases x <;> cases y <;> first
            | (exfalso; exact hraw.1 _ rfl)
            | (exfalso; exact hraw.2 _ rfl)
            | (rcases hop with rfl | rfl <;> (unfold eqGuard; simp only [conc]; rfl))
            | (exfalso; exact Bool.noConfusion hn)
            | (simp only [isAggV, Bool.and_self, Bool.true_and] at hg
               rcases hop with rfl | rfl <;> (unfold eqGuard; simp [conc, hg]))
        cases neg
        · exact key _ (.inl rfl)
        · exact key _ (.inr rfl)
theorem binOp_eql (t : TypeId) (x y : Value) (h : match x with | .int .. | .float .. | .complex .. | .string _ => False | _ => True) (P : Program) :
    (binOp .eql t x y).run P w = ((Op.equalIn 10000 t x y).run P w).andThen fun b w' => .ok (.bool b) w' := by
  cases x <;> first | exact h.elim | (simp only [binOp]; simp [Op.equal, Op.maxDepth])
theorem binOp_neq (t : TypeId) (x y : Value) (h : match x with | .int .. | .float .. | .complex .. | .string _ => False | _ => True) (P : Program) :
    (binOp .neq t x y).run P w = ((Op.equalIn 10000 t x y).run P w).andThen fun b w' => .ok (.bool (!b)) w' := by
  cases x <;> first | exact h.elim | (simp only [binOp]; simp [Op.equal, Op.maxDepth])
theorem equalIn_nil (hE : E.Ok) (d : Nat) {t : TypeId} {ms : Array (String × TypeId)} (hu : E.und t = some (.interface ms)) : (Op.equalIn (d + 1) t .nilIface .nilIface).run E.P w = .ok true w := by
  simp [Op.equalIn, run_underlying (und_ok hE hu)]
theorem binEql_ok (hE : E.Ok) {neg : Bool} {t : TypeId} {xo yo : Operand} {x y : AVal} {v : AVal} {l : List Prop} (h : binEql E neg t xo yo x y = some (v, l))
    (hx : match conc σ x with | .int .. | .float .. | .complex .. | .string _ => False | _ => True) :
    VOk E.P σ nx w (binOp (if neg then .neq else .eql) t (conc σ x) (conc σ y)) v ∧ l = [] := by
  unfold binEql at h
  split at h
  · rename_i hn
    simp only [Bool.and_eq_true] at hn
    obtain ⟨h1, h2⟩ := hn
    have ex : x = .niliface := by cases x <;> first | rfl | cases h1
    have ey : y = .niliface := by cases y <;> first | rfl | cases h2
    subst ex; subst ey
    split at h <;> try cases h
    rename_i hu
    refine ⟨⟨?_, Nat.zero_le _⟩, rfl⟩
    have hq' : (Op.equalIn 10000 t .nilIface .nilIface).run E.P w = .ok true w := equalIn_nil hE 9999 hu
    cases neg
    · simp only [Bool.false_eq_true, if_false, conc, binOp_eql t .nilIface .nilIface trivial, hq', Result.andThen_ok, Bool.not_false]
    · simp only [if_true, conc, binOp_neq t .nilIface .nilIface trivial, hq', Result.andThen_ok, Bool.not_true]
  · split at h
    · cases h
    · split at h <;> try cases h
      rename_i s b he
      have hq := eqA_ok (σ := σ) (w := w) hE he (show 64 ≤ 10000 by omega)
      refine ⟨⟨?_, Nat.zero_le _⟩, rfl⟩
      cases neg
      · simp only [Bool.false_eq_true, if_false, binOp_eql t _ _ hx, hq, Result.andThen_ok, conc]
      · simp only [if_true, binOp_neq t _ _ hx, hq, Result.andThen_ok, conc]
theorem binA_ok (hE : E.Ok) {op : BinOp} {t : TypeId} {xo yo : Operand} {x y : AVal} {v : AVal} {l : List Prop} (h : binA E op t xo yo x y = some (v, l)) (hl : ∀ p ∈ l, p) :
    VOk E.P σ nx w (do eqGuard op t xo yo (conc σ x) (conc σ y); binOp op t (conc σ x) (conc σ y)) v := by
  unfold binA at h
  split at h
  · rename_i s k a
    split at h
    · rename_i s' k' b
      have hg := eqGuard_int (w := w) op t xo yo k a (.int k' b) E.P
      split at h
      · obtain ⟨h1, h2⟩ := shInt_ok (P := E.P) (σ := σ) (nx := nx) (w := w) (k' := k') (t := t) h hl
        exact ⟨by simp only [conc, Sem.run_bind, hg, Result.andThen_ok]; exact h1, h2⟩
      · split at h <;> try cases h
        rename_i hk
        rw [kindEq_eq] at hk; subst hk
        obtain ⟨h1, h2⟩ := binInt_ok (P := E.P) (σ := σ) (nx := nx) (w := w) (t := t) h hl
        exact ⟨by simp only [conc, Sem.run_bind, hg, Result.andThen_ok]; exact h1, h2⟩
    · rename_i k2 e2
      obtain ⟨k, m, h1, h2, h3⟩ := symA_ok (P := E.P) (w := w) (nx := nx) (t := t) σ h
      refine ⟨?_, h3⟩
      have hg := eqGuard_int (w := w) op t xo yo k m (conc σ (.sym k2 e2)) E.P
      rw [← h1] at hg
      simp only [Sem.run_bind]; rw [hg, Result.andThen_ok]; exact h2
    · cases h
  · obtain ⟨k, m, h1, h2, h3⟩ := symA_ok (P := E.P) (w := w) (nx := nx) (t := t) σ h
    refine ⟨?_, h3⟩
    have hg := eqGuard_int (w := w) op t xo yo k m (conc σ y) E.P
    rw [← h1] at hg
    simp only [Sem.run_bind]; rw [hg, Result.andThen_ok]; exact h2
  · rename_i a
    split at h <;> try cases h
    rename_i b
    have hg := eqGuard_str (w := w) op t xo yo a (.string b) E.P
    obtain ⟨h1, h2⟩ := binStr_ok (P := E.P) (σ := σ) (nx := nx) (w := w) (t := t) h
    exact ⟨by simp only [conc, Sem.run_bind, hg, Result.andThen_ok]; exact h1, h2⟩
  · rename_i hni hnx hns
    split at h <;> try cases h
    · by_cases hx : match conc σ x with | .int .. | .float .. | .complex .. | .string _ => False | _ => True
      · have hg := eqGuard_eql (σ := σ) (w := w) hE h
        obtain ⟨⟨h1, h2⟩, _⟩ := binEql_ok (σ := σ) (nx := nx) (w := w) hE h hx
        exact ⟨by simp only [Sem.run_bind]; rw [show (BinOp.eql) = (if false = true then BinOp.neq else .eql) from rfl, hg, Result.andThen_ok]; exact h1, h2⟩
      · exfalso
        unfold binEql at h
        cases x <;> first | exact hni _ _ _ rfl | exact hns _ rfl | exact hnx _ _ rfl | (apply hx; simp [conc]; done) | skip
        all_goals (simp [isNilIface, isAggV, eqA] at h)
    · by_cases hx : match conc σ x with | .int .. | .float .. | .complex .. | .string _ => False | _ => True
      · have hg := eqGuard_eql (σ := σ) (w := w) hE h
        obtain ⟨⟨h1, h2⟩, _⟩ := binEql_ok (σ := σ) (nx := nx) (w := w) hE h hx
        exact ⟨by simp only [Sem.run_bind]; rw [show (BinOp.neq) = (if true = true then BinOp.neq else .eql) from rfl, hg, Result.andThen_ok]; exact h1, h2⟩
      · exfalso
        unfold binEql at h
        cases x <;> first | exact hni _ _ _ rfl | exact hns _ rfl | exact hnx _ _ rfl | (apply hx; simp [conc]; done) | skip
        all_goals (simp [isNilIface, isAggV, eqA] at h)
end
end Go.Ev

/- Operations without effect do what the evaluator says: the last part, and all together. -/
set_option linter.unusedSimpArgs false
set_option linter.unusedVariables false
namespace Go.Ev
variable [Rho]

section
variable {E : Env} {σ : Sg} {A : AW} {w : World} {n nx : Nat} {tm : T AVal} {ac : Act}

theorem unA_ok {op : UnOp} {x v : AVal} (h : unA op x = some v) : VOk E.P σ nx w (Op.unary op (conc σ x)) v := by
  unfold unA at h
  split at h <;> cases h
  · exact ⟨rfl, Nat.zero_le _⟩
  · refine ⟨?_, Nat.zero_le _⟩; simp [Op.unary, conc, Op.intArith, fwrap_eq]
  · refine ⟨?_, Nat.zero_le _⟩; simp [Op.unary, conc, nz_notS]
  · rename_i k e
    obtain ⟨h1, h2⟩ := conc_mkSym σ k (SX.scaleL (-1) (SX.toL e))
    refine ⟨?_, by omega⟩
    rw [h1, SX.val_scaleL, SX.val_toL]
    simp only [Op.unary, conc, Op.intArith]
    rw [SX.wrap_congr k (show (0 - k.wrap e.val) % 2 ^ k.bits = (-1 * e.val) % 2 ^ k.bits by rw [mod_cong_sub k.bits 0 (k.wrap e.val) 0 e.val rfl (SX.wrap_mod k _)]; congr 1; omega)]
    rfl
  · refine ⟨?_, Nat.zero_le _⟩; simp only [Op.unary, conc, Op.intBits]; rfl

theorem bytesL_ok (σ : Sg) : ∀ {l : List AVal} {bs : List UInt8}, bytesL l = some bs → ∃ ns : List Nat, concL σ l = ns.map (fun (m : Nat) => Value.int .u8 (Int.ofNat m)) ∧ bs = ns.map UInt8.ofNat
  | [], bs, h => by cases h; exact ⟨[], rfl, rfl⟩
  | v :: l, bs, h => by
    unfold bytesL at h
    split at h
    · rename_i e; cases e
    · rename_i m r e
      cases e
      cases hr : bytesL l with
      | none => simp [hr] at h
      | some b =>
        simp [hr] at h; subst h
        obtain ⟨ns, h1, h2⟩ := bytesL_ok σ hr
        exact ⟨m :: ns, by simp [concL, conc, h1], by simp [h2]⟩
    · cases h

theorem forIn_bytes (P : Program) : ∀ (ns : List Nat) (s : ByteArray), (forIn (m := Sem) (ns.map (fun (m : Nat) => Value.int .u8 (Int.ofNat m))) s (fun c r => do
      let .int .u8 k := c | stuck "bytesToString: byte expected"
      pure (ForInStep.yield (r.push (UInt8.ofNat k.toNat))))).run P w = .ok (ns.foldl (fun b m => b.push (UInt8.ofNat m)) s) w
  | [], s => rfl
  | m :: ns, s => by
    simp only [List.map_cons, List.forIn_cons, Sem.run_bind, Sem.run_pure, Result.andThen_ok, List.foldl_cons]
    exact forIn_bytes P ns _
theorem foldl_push (l : List Nat) : ∀ s : ByteArray, l.foldl (fun b m => b.push (UInt8.ofNat m)) s = ⟨s.data ++ (l.map UInt8.ofNat).toArray⟩ := by
  induction l with
  | nil => intro s; simp
  | cons m l ih => intro s; rw [List.foldl_cons, ih]; simp [ByteArray.push]

theorem bytes_ok (hE : E.Ok) (hR : R σ A w) {b off len : Nat} {cap : Nat} {blk : ABlk} {l : List AVal} {s : ByteArray} (hb : lookB A.blks b = some blk) (hl : lookCells blk off len = some l) (hs : bytesOf l = some s) :
    (Conv.bytesToString (.slice (some ⟨σ.blk b, off, none⟩) len cap)).run E.P w = .ok (.string s) w := by
  obtain ⟨h1, _⟩ := loadCells_ok hR hb hl E.P
  unfold bytesOf at hs
  cases hbs : bytesL l with
  | none => simp [hbs] at hs
  | some bs =>
    simp [hbs] at hs; subst hs
    obtain ⟨ns, h2, h3⟩ := bytesL_ok σ hbs
    rw [h2] at h1
    have := forIn_bytes (w := w) E.P ns ByteArray.empty
    rw [foldl_push] at this
    simp only [Conv.bytesToString, Sem.run_bind, h1, Result.andThen_ok]
    rw [← Array.forIn_toList]
    simp only [this, Result.andThen_ok, Sem.run_pure, h3]
    simp [foldl_push]

theorem pConv_ok (hE : E.Ok) (hR : R σ A w) (hT : TR σ n A.next tm ac.tmps) {s d : TypeId} {x : Operand} :
    PROk E.P σ A.next w (do pure (.value (← convert s d (ac.eval x)))) (pConv E A (E.und s) (E.und d) (opd tm x)) := by
  unfold pConv
  split
  · rename_i t k m hx
    rw [(opd_ok hT hx).1]
    split
    · rename_i k' hs hd
      rename_i k2
      refine PROk.of_v ⟨?_, Nat.zero_le _⟩
      simp [convert, run_underlying (und_ok hE hs), run_underlying (und_ok hE hd), conc, Conv.intToInt, fwrap_eq]
    · trivial
  · rename_i j e hx
    rw [(opd_ok hT hx).1]
    split
    · rename_i k1 k' hs hd
      obtain ⟨h1, h2⟩ := conc_convX σ j k' e
      refine PROk.of_v ⟨?_, by omega⟩
      rw [h1]
      simp [convert, run_underlying (und_ok hE hs), run_underlying (und_ok hE hd), conc, Conv.intToInt]
    · trivial
  · rename_i x' hx
    rw [(opd_ok hT hx).1]
    split
    · rename_i hs hd
      refine PROk.of_v ⟨?_, Nat.zero_le _⟩
      simp [convert, run_underlying (und_ok hE hs), run_underlying (und_ok hE hd), conc]
    · trivial
  · rename_i b off len cap hx
    rw [(opd_ok hT hx).1]
    split
    · rename_i e hs hd
      unfold pBytes
      split
      · rename_i blk he hb
        split
        · rename_i l hl
          split
          · rename_i s' hs'
            refine PROk.of_v ⟨?_, Nat.zero_le _⟩
            have := bytes_ok hE hR hb hl hs' (cap := cap.val σ b)
            simp [convert, run_underlying (und_ok hE hs), run_underlying (und_ok hE hd), run_underlying (und_ok hE he), conc, this]
          · trivial
        · trivial
      · trivial
    · trivial
  · rename_i hx
    rw [(opd_ok hT hx).1]
    split
    · rename_i e hs hd
      split
      · rename_i he
        refine PROk.of_v ⟨?_, Nat.zero_le _⟩
        simp [convert, run_underlying (und_ok hE hs), run_underlying (und_ok hE hd), run_underlying (und_ok hE he), conc, Conv.bytesToString]
      · trivial
    · trivial
  · trivial

theorem fields_ok (hE : E.Ok) {s : TypeId} {fs : Array Field} (h : tyFields E s = some fs) : E.P.underlying s = some (.struct fs) := by
  unfold tyFields at h
  split at h
  · rename_i hu; cases h; exact und_ok hE hu
  · cases h
theorem pFieldAddr_ok (hE : E.Ok) (hT : TR σ n A.next tm ac.tmps) {s : TypeId} {x : Operand} {f : Nat} :
    PROk E.P σ A.next w (do pure (.value (← Instr.fieldAt s (ac.eval x) f))) (pFieldAddr (fieldOff E s f) (opd tm x)) := by
  unfold pFieldAddr
  split
  · rename_i b o d hx hd
    obtain ⟨h1, h2⟩ := opd_ok hT hx
    rw [h1]
    unfold fieldOff at hd
    split at hd <;> try cases hd
    rename_i fs hfs
    split at hd <;> try cases hd
    rename_i fd hfd
    split at hd <;> try cases hd
    rename_i m hsz
    refine PROk.of_v ⟨?_, h2⟩
    simp only [Instr.fieldAt, Sem.run_bind, run_underlying (fields_ok hE hfs), Result.andThen_ok, hfd, Instr.sureAddr, conc, Sem.run_pure, fieldPlace, run_sizeT hE hsz]
    simp [add_none]
  · trivial
theorem pField_ok (hE : E.Ok) (hT : TR σ n A.next tm ac.tmps) {s : TypeId} {x : Operand} {f : Nat} :
    PROk E.P σ A.next w (do pure (.value (← Instr.field s (ac.eval x) f))) (pField E s f (opd tm x)) := by
  unfold pField
  split
  · rename_i cs fs hx hfs
    obtain ⟨h1, h2⟩ := opd_ok hT hx
    rw [h1]
    split
    · rename_i fd hfd
      refine PROk.of_pV fun v hv => ?_
      obtain ⟨h3, h4⟩ := partA_ok (nx := A.next) (σ := σ) (w := w) hE hv (topOf_agg_le.1 h2)
      refine ⟨?_, h4⟩
      simp only [Instr.field, Sem.run_bind, run_underlying (fields_ok hE hfs), Result.andThen_ok, hfd, asAgg, conc, Sem.run_pure, h3]
    · trivial
  · trivial
theorem pIndexAddr_ok (hE : E.Ok) (hT : TR σ n A.next tm ac.tmps) {t : TypeId} {x i : Operand} :
    PROk E.P σ A.next w (do pure (.value (← Instr.indexAt t (ac.eval x) (ac.eval i)))) (pIndexAddr E (E.und t) (opd tm x) (opd tm i)) := by
  unfold pIndexAddr
  split
  · rename_i b off len cap k i' hx hi
    obtain ⟨h1, h2⟩ := opd_ok hT hx
    obtain ⟨h3, _⟩ := opd_ok hT hi
    rw [h1, h3]
    split
    · rename_i e hu
      split
      · rename_i k' hlt hsz
        rw [blt_iff] at hlt
        refine PROk.of_v ⟨?_, h2⟩
        have hlt' : (0 : Int) ≤ Int.ofNat i' ∧ Int.ofNat i' < (len : Int) := ⟨Int.natCast_nonneg _, by simpa using hlt⟩
        simp only [Instr.indexAt, asIntOf, conc, Sem.run_bind, Sem.run_pure, Result.andThen_ok, run_underlying (und_ok hE hu), Sem.run_ite, hlt', and_self, if_true, run_sizeT hE hsz]
        rw [add_none _ rfl]; rfl
      · trivial
    · trivial
  · rename_i b off k i' hx hi
    obtain ⟨h1, h2⟩ := opd_ok hT hx
    obtain ⟨h3, _⟩ := opd_ok hT hi
    rw [h1, h3]
    split
    · rename_i len e hu
      split
      · rename_i k' hlt hsz
        rw [blt_iff] at hlt
        refine PROk.of_v ⟨?_, h2⟩
        have hlt' : (0 : Int) ≤ Int.ofNat i' ∧ Int.ofNat i' < (len : Int) := ⟨Int.natCast_nonneg _, by simpa using hlt⟩
        simp only [Instr.indexAt, asIntOf, conc, Instr.sureAddr, Sem.run_bind, Sem.run_pure, Result.andThen_ok, run_underlying (und_ok hE hu), Sem.run_ite, hlt', and_self, if_true, run_sizeT hE hsz]
        rw [add_none _ rfl]; rfl
      · trivial
    · trivial
  · trivial
theorem pIndex_ok (hE : E.Ok) (hT : TR σ n A.next tm ac.tmps) {t : TypeId} {x i : Operand} :
    PROk E.P σ A.next w (do pure (.value (← Instr.index t (ac.eval x) (ac.eval i)))) (pIndex E (E.und t) (opd tm x) (opd tm i)) := by
  unfold pIndex
  split
  · rename_i cs k i' hx hi
    obtain ⟨h1, h2⟩ := opd_ok hT hx
    obtain ⟨h3, _⟩ := opd_ok hT hi
    rw [h1, h3]
    split
    · rename_i len e hu
      split
      · rename_i k' hlt hsz
        rw [blt_iff] at hlt
        refine PROk.of_pV fun v hv => ?_
        obtain ⟨h4, h5⟩ := partA_ok (nx := A.next) (σ := σ) (w := w) hE hv (topOf_agg_le.1 h2)
        refine ⟨?_, h5⟩
        have hlt' : (0 : Int) ≤ Int.ofNat i' ∧ Int.ofNat i' < (len : Int) := ⟨Int.natCast_nonneg _, by simpa using hlt⟩
        simp only [Instr.index, asIntOf, conc, Sem.run_bind, Sem.run_pure, Result.andThen_ok, run_underlying (und_ok hE hu), Sem.run_ite, hlt', and_self, if_true, run_sizeT hE hsz]
        exact h4
      · trivial
    · trivial
  · rename_i s k i' hx hi
    obtain ⟨h1, h2⟩ := opd_ok hT hx
    obtain ⟨h3, _⟩ := opd_ok hT hi
    rw [h1, h3]
    split
    · rename_i hu
      split
      · rename_i c hc
        refine PROk.of_v ⟨?_, Nat.zero_le _⟩
        have h0 : (0 : Int) ≤ Int.ofNat i' := Int.natCast_nonneg _
        simp only [Instr.index, asIntOf, conc, Sem.run_bind, Sem.run_pure, Result.andThen_ok, run_underlying (und_ok hE hu), h0, if_true]
        rw [show (Int.ofNat i').toNat = i' from rfl, hc]; rfl
      · trivial
    · trivial
  · trivial
theorem pIface_ok (hE : E.Ok) (hT : TR σ n A.next tm ac.tmps) {t : TypeId} {x : Operand} :
    PROk E.P σ A.next w (do pure (.value (← Instr.makeInterface t (ac.eval x)))) (pIface t (E.und t) (opd tm x)) := by
  unfold pIface
  split
  · trivial
  · rename_i d v hn hu hx
    obtain ⟨h1, h2⟩ := opd_ok hT hx
    rw [h1]
    refine PROk.of_v ⟨?_, h2⟩
    simp only [Instr.makeInterface, Sem.run_bind, run_underlying (und_ok hE hu), Result.andThen_ok]
    rfl
  · trivial
theorem pExtract_ok (hT : TR σ n A.next tm ac.tmps) {x : Operand} {i : Nat} :
    PROk E.P σ A.next w (do pure (.value (← Instr.extract (ac.eval x) i))) (pExtract (opd tm x) i) := by
  unfold pExtract
  split
  · rename_i vs hx
    obtain ⟨h1, h2⟩ := opd_ok hT hx
    rw [h1]
    refine PROk.of_pV fun v hv => ?_
    rw [nth_eq] at hv
    refine ⟨?_, topOf_tuple_le.1 h2 v (List.mem_of_getElem? hv)⟩
    have : (concL σ vs).toArray[i]? = some (conc σ v) := by simp [concL_eq, hv]
    simp only [Instr.extract, conc, this]; rfl
  · trivial
theorem zeroT_ok (hE : E.Ok) {t : TypeId} {z : AVal} (h : zeroT E t = some z) : (zeroValue t).run E.P w = .ok (conc σ z) w ∧ topOf z = 0 ∧ ∃ i v, E.P.info? t = some i ∧ i.zero = some v ∧ conc σ z = v := by
  unfold zeroT at h
  split at h <;> try cases h
  rename_i i hi
  split at h <;> try cases h
  rename_i v hv
  obtain ⟨h1, h2⟩ := conc_ofConst σ h
  exact ⟨by simp [zeroValue, typeInfo, info_ok hE hi, hv, h1], h2, i, v, info_ok hE hi, hv, h1⟩
theorem pAssert_ok (hE : E.Ok) (hT : TR σ n A.next tm ac.tmps) {t xt : TypeId} {x : Operand} {c : Bool} :
    PROk E.P σ A.next w (do pure (.value (← Instr.typeAssert (ac.eval x) xt t c))) (pAssert E t c (opd tm x)) := by
  unfold pAssert
  split
  · trivial
  · rename_i d t' v hn hu hx
    obtain ⟨h1, h2⟩ := opd_ok hT hx
    rw [h1]
    have hu' := und_ok hE hu
    split
    · rename_i hd
      have := (beq_iff _ _).1 hd; subst this
      refine PROk.of_v ⟨?_, topOf_tuple_le.2 fun u hu => ?_⟩
      · simp only [Instr.typeAssert, Sem.run_bind, run_underlying hu', Result.andThen_ok, conc]
        cases d <;> first | exact absurd rfl (hn _) | simp [conc, concL]
      · rcases List.mem_cons.1 hu with rfl | hu
        · exact h2
        · rcases List.mem_cons.1 hu with rfl | hu
          · exact Nat.zero_le _
          · cases hu
    · rename_i hd
      have := (beq_iff _ _).1 hd; subst this
      refine PROk.of_v ⟨?_, h2⟩
      simp only [Instr.typeAssert, Sem.run_bind, run_underlying hu', Result.andThen_ok, conc]
      cases d <;> first | exact absurd rfl (hn _) | simp [conc, concL]
    · rename_i hd
      have hne := (beq_false_iff _ _).1 hd
      split
      · rename_i z hz
        obtain ⟨h3, h4, _⟩ := zeroT_ok (σ := σ) (w := w) hE hz
        refine PROk.of_v ⟨?_, topOf_tuple_le.2 fun u hu => ?_⟩
        · simp only [Instr.typeAssert, Sem.run_bind, run_underlying hu', Result.andThen_ok, conc]
          cases d <;> first | exact absurd rfl (hn _) | simp [conc, concL, hne, h3]
        · rcases List.mem_cons.1 hu with rfl | hu
          · omega
          · rcases List.mem_cons.1 hu with rfl | hu
            · exact Nat.zero_le _
            · cases hu
      · trivial
    · trivial
  · rename_i d hn hu hx
    obtain ⟨h1, h2⟩ := opd_ok hT hx
    rw [h1]
    have hu' := und_ok hE hu
    split
    · rename_i z hz
      obtain ⟨h3, h4, _⟩ := zeroT_ok (σ := σ) (w := w) hE hz
      refine PROk.of_v ⟨?_, topOf_tuple_le.2 fun u hu => ?_⟩
      · simp only [Instr.typeAssert, Sem.run_bind, run_underlying hu', Result.andThen_ok, conc]
        cases d <;> first | exact absurd rfl (hn _) | simp [conc, concL, h3]
      · rcases List.mem_cons.1 hu with rfl | hu
        · omega
        · rcases List.mem_cons.1 hu with rfl | hu
          · exact Nat.zero_le _
          · cases hu
    · trivial
  · trivial
end
end Go.Ev

/- Operations without effect: slices, maps, lengths, choices, literals; all together. -/
set_option linter.unusedSimpArgs false
set_option linter.unusedVariables false
namespace Go.Ev
variable [Rho]

section
variable {E : Env} {σ : Sg} {A : AW} {w : World} {n nx : Nat} {tm : T AVal} {ac : Act}

theorem boundN_ok (σ : Sg) {x : Option AVal} {d m : Nat} (h : boundN x d = some m) : (x = none ∧ m = d) ∨ ∃ k, x.map (conc σ) = some (.int k (Int.ofNat m)) := by
  unfold boundN at h
  split at h <;> cases h
  · exact .inl ⟨rfl, rfl⟩
  · exact .inr ⟨_, rfl⟩
theorem run_sliceBound' {P : Program} (k : IntKind) (i y : Nat) (code : BoundsCode) (h : i ≤ y) : (Instr.sliceBound (.int k (Int.ofNat i)) y code).run P w = .ok i w := by
  have : (0 : Int) ≤ Int.ofNat i ∧ Int.ofNat i ≤ (y : Int) := ⟨Int.natCast_nonneg _, by simpa using h⟩
  simp only [Instr.sliceBound, asIntOf, Sem.run_bind, Sem.run_pure, Result.andThen_ok, Sem.run_ite, this, and_self, if_true]
  rfl
theorem run_sliceBounds' {P : Program} (isS : Bool) (len cap l h : Nat) {lo hi : Option AVal} (hl : boundN lo 0 = some l) (hh : boundN hi len = some h) (h1 : l ≤ h) (h2 : h ≤ cap) :
    (Instr.sliceBounds isS len cap (lo.map (conc σ)) (hi.map (conc σ)) none).run P w = .ok (l, h, cap) w := by
  have e2 : ∀ (code : BoundsCode), (match (hi.map (conc σ)) with
    | some v => Instr.sliceBound v cap code
    | none => pure len).run P w = .ok h w := by
    intro code
    rcases boundN_ok σ hh with ⟨rfl, rfl⟩ | ⟨k, e⟩
    · rfl
    · rw [e]; exact run_sliceBound' k h cap code h2
  have e1 : (match (lo.map (conc σ)) with
    | some v => Instr.sliceBound v h .sliceB
    | none => pure 0).run P w = .ok l w := by
    rcases boundN_ok σ hl with ⟨rfl, rfl⟩ | ⟨k, e⟩
    · rfl
    · rw [e]; exact run_sliceBound' k l h _ h1
  have e2' := e2 (if isS then .sliceAcap else .sliceAlen)
  unfold Instr.sliceBounds
  simp only [Sem.run_bind, Sem.run_pure, Result.andThen_ok, Option.isSome_none, Bool.false_eq_true, if_false]
  cases hhi : hi.map (conc σ) with
  | none =>
    rw [hhi] at e2'
    simp only at e2' ⊢
    rw [Sem.run_bind, e2', Result.andThen_ok]
    cases hlo : lo.map (conc σ) with
    | none => rw [hlo] at e1; simp only at e1 ⊢; rw [Sem.run_bind, e1]; rfl
    | some v => rw [hlo] at e1; simp only at e1 ⊢; rw [Sem.run_bind, e1]; rfl
  | some u =>
    rw [hhi] at e2'
    simp only at e2' ⊢
    rw [Sem.run_bind, e2', Result.andThen_ok]
    cases hlo : lo.map (conc σ) with
    | none => rw [hlo] at e1; simp only at e1 ⊢; rw [Sem.run_bind, e1]; rfl
    | some v => rw [hlo] at e1; simp only at e1 ⊢; rw [Sem.run_bind, e1]; rfl
theorem sliceA_ok (hE : E.Ok) (hR : R σ A w) {t : TypeId} {x v : AVal} {lo hi : Option AVal} (hx : topOf x ≤ A.next) (h : sliceA E A t x lo hi = some v) :
    VOk E.P σ A.next w (Instr.sliceAt t (conc σ x) (lo.map (conc σ)) (hi.map (conc σ)) none) v := by
  unfold sliceA at h
  split at h <;> try cases h
  · rename_i s hu
    split at h <;> try cases h
    rename_i l h' hl hh
    split at h <;> cases h
    rename_i hc
    obtain ⟨hc1, hc2⟩ := and_true hc
    rw [ble_iff] at hc1 hc2
    refine ⟨?_, Nat.zero_le _⟩
    have := run_sliceBounds' (P := E.P) (w := w) (σ := σ) false s.size s.size l h' hl hh hc1 hc2
    simp only [Instr.sliceAt, Sem.run_bind, run_underlying (und_ok hE hu), Result.andThen_ok, Instr.slice, conc, Option.isSome_none, Bool.false_eq_true, if_false, this, Sem.run_pure]
  · rename_i e b off len cap hu
    split at h <;> try cases h
    rename_i l h' sz hl hh hsz
    split at h <;> try cases h
    rename_i hc
    obtain ⟨hc1, hc2⟩ := and_true hc
    rw [ble_iff] at hc1 hc2
    cases cap with
    | exact c =>
      simp only at h
      split at h <;> try cases h
      rename_i hlc
      rw [ble_iff] at hlc
      have hb := run_sliceBounds' (P := E.P) (w := w) (σ := σ) true len c l h' hl hh hc1 (by omega)
      split at h <;> cases h
      · rename_i he
        rw [beq_iff] at he
        refine ⟨?_, hx⟩
        simp only [Instr.sliceAt, Sem.run_bind, run_underlying (und_ok hE hu), Result.andThen_ok, Instr.slice, conc, ACap.val, hb, run_sizeT hE hsz, Sem.run_pure, he, if_true]
      · rename_i he
        rw [beq_false_iff] at he
        refine ⟨?_, hx⟩
        have : ¬ c = l := fun e => he e.symm
        simp only [Instr.sliceAt, Sem.run_bind, run_underlying (und_ok hE hu), Result.andThen_ok, Instr.slice, conc, ACap.val, hb, run_sizeT hE hsz, Sem.run_pure, this, if_false, Option.map_some]
        rw [add_none _ rfl]
    | ext s =>
      simp only at h
      split at h <;> try cases h
      rename_i st cs hlook
      split at h <;> try cases h
      rename_i hk
      obtain ⟨hk, hk4⟩ := and_true hk
      obtain ⟨hk, hk3⟩ := and_true hk
      obtain ⟨hk1, hk2⟩ := and_true hk
      rw [beq_iff] at hk1 hk3; rw [ble_iff, lenN_eq] at hk2; rw [blt_iff] at hk4
      obtain ⟨arr, _, hrow⟩ := row_of hR hlook rfl
      have hsz1 := hrow.size
      have hsz2 := hrow.ext st rfl
      simp only [sizeB, lenN_eq] at hsz1
      have hcap : s + len ≤ σ.cap b := by
        have : (s + len) * st ≤ σ.cap b * st := by rw [Nat.add_mul]; omega
        exact Nat.le_of_mul_le_mul_right this hk4
      have hb := run_sliceBounds' (P := E.P) (w := w) (σ := σ) true len (σ.cap b - s) l h' hl hh hc1 (by omega)
      split at h
      · rename_i h0; cases h
        rw [beq_iff] at h0; subst h0
        refine ⟨?_, hx⟩
        simp only [Instr.sliceAt, Sem.run_bind, run_underlying (und_ok hE hu), Result.andThen_ok, Instr.slice, conc, ACap.val, hb, run_sizeT hE hsz, Sem.run_pure, Option.map_some, Nat.zero_mul, Nat.sub_zero]
        rw [add_none _ rfl]
        simp
      · split at h <;> cases h
        rename_i hlt
        rw [blt_iff] at hlt
        refine ⟨?_, hx⟩
        have : ¬ σ.cap b - s = l := by omega
        simp only [Instr.sliceAt, Sem.run_bind, run_underlying (und_ok hE hu), Result.andThen_ok, Instr.slice, conc, ACap.val, hb, run_sizeT hE hsz, Sem.run_pure, this, if_false, Option.map_some]
        rw [add_none _ rfl, Nat.sub_sub]
  · rename_i e hu
    split at h <;> cases h
    rename_i hl hh hsz
    refine ⟨?_, Nat.zero_le _⟩
    have hb := run_sliceBounds' (P := E.P) (w := w) (σ := σ) true 0 0 0 0 hl hh (Nat.le_refl _) (Nat.le_refl _)
    simp only [Instr.sliceAt, Sem.run_bind, run_underlying (und_ok hE hu), Result.andThen_ok, Instr.slice, conc, hb, run_sizeT hE hsz, Sem.run_pure, if_true]
  · rename_i k e b off hu
    split at h <;> try cases h
    rename_i l h' sz hl hh hsz
    split at h <;> try cases h
    rename_i hc
    obtain ⟨hc1, hc2⟩ := and_true hc
    rw [ble_iff] at hc1 hc2
    have hb := run_sliceBounds' (P := E.P) (w := w) (σ := σ) false k k l h' hl hh hc1 hc2
    split at h <;> cases h
    · rename_i he
      rw [beq_iff] at he
      refine ⟨?_, hx⟩
      simp only [Instr.sliceAt, Instr.sureAddr, Sem.run_bind, run_underlying (und_ok hE hu), Result.andThen_ok, conc, ACap.val, hb, run_sizeT hE hsz, Sem.run_pure, he, if_true]
    · rename_i he
      rw [beq_false_iff] at he
      have : ¬ k = l := fun e => he e.symm
      refine ⟨?_, hx⟩
      simp only [Instr.sliceAt, Instr.sureAddr, Sem.run_bind, run_underlying (und_ok hE hu), Result.andThen_ok, conc, ACap.val, hb, run_sizeT hE hsz, Sem.run_pure, this, if_false]
      rw [add_none _ rfl]
end
end Go.Ev

/- Operations without effect: maps, lengths, choices, literals; all together. -/
set_option linter.unusedSimpArgs false
set_option linter.unusedVariables false
namespace Go.Ev
variable [Rho]

section
variable {E : Env} {σ : Sg} {A : AW} {w : World} {n nx : Nat} {tm : T AVal} {ac : Act}

/-! Keys. -/
theorem checkFields_ok (hE : E.Ok) (d : Nat) (c : Bool) (m : Nat) {eq : TypeId → AVal → AVal → Option (Bool × Bool)}
    (ih : ∀ t v r, plainKey E d t = true → eq t v v = some r → (Instr.checkKey c m t (conc σ v)).run E.P w = .ok () w) {xs : List AVal} :
    ∀ {fs : List Field} {r : Bool × Bool}, fs.all (fun f => f.name != "_" && plainKey E d f.type) = true → eqFieldsA E eq xs xs fs = some r →
    (forIn (m := Sem) fs PUnit.unit fun f _ => do
      if f.name ≠ "_" then
        Instr.checkKey c m f.type (← part f.type (concL σ xs).toArray f.offset)
        pure (ForInStep.yield PUnit.unit)
      else pure (ForInStep.yield PUnit.unit)).run E.P w = .ok PUnit.unit w
  | [], r, _, _ => rfl
  | f :: fs, r, ha, h => by
    rw [List.all_cons] at ha
    obtain ⟨ha1, ha2⟩ := and_true ha
    obtain ⟨hn, hp⟩ := and_true ha1
    rw [eqFieldsA_cons] at h
    split at h <;> try cases h
    rename_i x y hx hy
    have : y = x := by rw [hx] at hy; exact (Option.some.inj hy).symm
    subst this
    split at h <;> try cases h
    rename_i s1 b1 s2 b2 h1 h2
    have hn' : f.name ≠ "_" := by simpa using hn
    obtain ⟨r1, _⟩ := partA_ok (nx := topOf.topsOf xs 0) (σ := σ) (w := w) hE hx (fun u hu => topsOf_mem hu 0)
    rw [List.forIn_cons]
    simp only [hn', ne_eq, not_false_eq_true, if_true, Sem.run_bind, r1, Result.andThen_ok, ih _ _ _ hp h1, Sem.run_pure]
    exact checkFields_ok hE d c m ih ha2 h2
theorem plainKey_succ (d : Nat) (t : TypeId) : plainKey E (d + 1) t = match E.und t with
    | some .bool | some (.int _) | some .string => true
    | some (.struct fs) => fs.toList.all fun f => f.name != "_" && plainKey E d f.type
    | _ => false := rfl
theorem checkKey_ok (hE : E.Ok) (c : Bool) : ∀ {d d' m : Nat} {t : TypeId} {v : AVal} {r : Bool × Bool}, plainKey E d t = true → eqA E d' t v v = some r → d ≤ m →
    (Instr.checkKey c m t (conc σ v)).run E.P w = .ok () w
  | 0, _, _, _, _, _, h, _, _ => by cases h
  | d + 1, 0, _, _, _, _, _, h, _ => by cases h
  | d + 1, d' + 1, 0, _, _, _, _, _, h => by omega
  | d + 1, d' + 1, m + 1, t, v, r, hp, he, hm => by
    rw [plainKey_succ] at hp
    unfold eqA at he
    split at hp
    · rename_i hu
      rw [hu] at he
      cases v <;> try (simp at he; done)
      all_goals simp [Instr.checkKey, run_underlying (und_ok hE hu), conc]
    · rename_i k hu
      rw [hu] at he
      cases v <;> try (simp at he; done)
      all_goals simp [Instr.checkKey, run_underlying (und_ok hE hu), conc]
    · rename_i hu
      rw [hu] at he
      cases v <;> try (simp at he; done)
      all_goals simp [Instr.checkKey, run_underlying (und_ok hE hu), conc]
    · rename_i fs hu
      rw [hu] at he
      cases v <;> try (simp at he; done)
      rename_i cs
      simp only at he
      split at he
      · cases he
      · have := checkFields_ok (σ := σ) (w := w) hE d c m (fun t v r h1 h2 => checkKey_ok hE c h1 h2 (by omega)) hp he
        simp only [Instr.checkKey, Sem.run_bind, run_underlying (und_ok hE hu), Result.andThen_ok, conc]
        rw [← Array.forIn_toList]
        simp only [this, Result.andThen_ok]
        rfl
    · cases hp
/-- The search from a number on. -/
noncomputable def findFrom (E : Env) (t : TypeId) (k : AVal) (es : List (AVal × AVal × Nat)) : Nat → Option (Option (Nat × AVal)) :=
  List.rec (motive := fun _ => Nat → Option (Option (Nat × AVal))) (fun _ => some none) (fun e _ ih i => match sameKey E t k e.1 with
    | some true => some (some (i, e.2.1))
    | some false => ih (i + 1)
    | none => none) es
theorem findFrom_cons (t : TypeId) (k : AVal) (e : AVal × AVal × Nat) (es : List (AVal × AVal × Nat)) (i : Nat) :
    findFrom E t k (e :: es) i = match sameKey E t k e.1 with
    | some true => some (some (i, e.2.1))
    | some false => findFrom E t k es (i + 1)
    | none => none := rfl
theorem sameKey_ok (hE : E.Ok) {t : TypeId} {a b : AVal} {r : Bool} (h : sameKey E t a b = some r) : (Op.equal t (conc σ a) (conc σ b)).run E.P w = .ok r w ∧ ∃ s, eqA E 64 t a b = some (s, r) := by
  unfold sameKey at h
  split at h <;> cases h
  rename_i he
  exact ⟨eqA_ok hE he (show 64 ≤ 10000 by omega), _, he⟩
theorem findAsking_ok (hE : E.Ok) {t : TypeId} {k : AVal} : ∀ {es : List (AVal × AVal × Nat)} {i : Nat} {r : Option (Nat × AVal)}, findFrom E t k es i = some r →
    (Instr.findAsking t (conc σ k) (es.map (concE σ)) i).run E.P w = .ok (r.map fun p => (p.1, conc σ p.2)) w
  | [], i, r, h => by cases h; rfl
  | e :: es, i, r, h => by
    rw [findFrom_cons] at h
    split at h
    · rename_i hs
      cases h
      obtain ⟨h1, _⟩ := sameKey_ok (σ := σ) (w := w) hE hs
      simp only [List.map_cons, Instr.findAsking, Sem.run_bind, concE, h1, Result.andThen_ok, if_true, Sem.run_pure]; rfl
    · rename_i hs
      obtain ⟨h1, _⟩ := sameKey_ok (σ := σ) (w := w) hE hs
      simp only [List.map_cons, Instr.findAsking, Sem.run_bind, concE, h1, Result.andThen_ok, Bool.false_eq_true, if_false]
      exact findAsking_ok hE h
    · cases h
theorem equalIn_now (hE : E.Ok) {t : TypeId} {d : TypeDesc} {u v : Value} {c : Bool} (hu : E.und t = some d) (hc : Instr.sameNow d u v = some c) (n : Nat) : (Op.equalIn (n + 1) t u v).run E.P w = .ok c w := by
  unfold Instr.sameNow at hc
  split at hc
  · split at hc <;> cases hc
    rename_i hk
    subst hk
    simp [Op.equalIn, run_underlying (und_ok hE hu)]
  · cases hc
    simp [Op.equalIn, run_underlying (und_ok hE hu)]
  · cases hc
    simp [Op.equalIn, run_underlying (und_ok hE hu)]
  · cases hc
theorem findNow_ok (hE : E.Ok) {t : TypeId} {d : TypeDesc} (hu : E.und t = some d) {k : AVal} : ∀ {es : List (AVal × AVal × Nat)} {i : Nat} {r : Option (Nat × AVal)} {q : Option (Nat × Value)}, findFrom E t k es i = some r →
    Instr.findNow d (conc σ k) (es.map (concE σ)) i = some q → q = r.map fun p => (p.1, conc σ p.2)
  | [], i, r, q, h, h' => by cases h; cases h'; rfl
  | e :: es, i, r, q, h, h' => by
    rw [findFrom_cons] at h
    have key : ∀ b, sameKey E t k e.1 = some b → ∀ c, Instr.sameNow d (conc σ k) (conc σ e.1) = some c → c = b := by
      intro b hb c hc
      obtain ⟨s, he⟩ := (sameKey_ok (σ := σ) (w := default) hE hb).2
      have e1 := eqA_ok (σ := σ) (w := default) hE he (Nat.le_refl 64)
      have e2 := e1.symm.trans (equalIn_now (w := default) hE hu hc 63)
      injection e2 with e3 _
      exact e3.symm
    simp only [List.map_cons, Instr.findNow] at h'
    cases hs : Instr.sameNow d (conc σ k) (concE σ e).key with
    | none => rw [hs] at h'; cases h'
    | some c =>
      rw [hs] at h'
      split at h
      · rename_i hb
        have := key true hb c hs; subst this
        cases h; cases h'; rfl
      · rename_i hb
        have := key false hb c hs; subst this
        exact findNow_ok hE hu h h'
      · cases h
theorem findKey_ok (hE : E.Ok) {t : TypeId} {k : AVal} {es : List (AVal × AVal × Nat)} {r : Option (Nat × AVal)} {d : TypeDesc} (hu : E.und t = some d) (h : findA E t k es = some r) :
    (Instr.findKey t (conc σ k) (es.map (concE σ))).run E.P w = .ok (r.map fun p => (p.1, conc σ p.2)) w := by
  have h' : findFrom E t k es 0 = some r := h
  simp only [Instr.findKey, Sem.run_bind, run_underlying (und_ok hE hu), Result.andThen_ok]
  cases hn : Instr.findNow d (conc σ k) (es.map (concE σ)) 0 with
  | some q => have := findNow_ok hE hu h' hn; subst this; rfl
  | none => exact findAsking_ok hE h'
theorem plainKey_und {d : Nat} {t : TypeId} (h : plainKey E d t = true) : ∃ u, E.und t = some u := by
  cases d with
  | zero => cases h
  | succ d =>
    rw [plainKey_succ] at h
    cases hu : E.und t with
    | none => rw [hu] at h; cases h
    | some u => exact ⟨u, rfl⟩
theorem findA_top (t : TypeId) (k : AVal) : ∀ {es : List (AVal × AVal × Nat)} {i : Nat} {j : Nat} {v : AVal}, findFrom E t k es i = some (some (j, v)) →
    ∃ e ∈ es, e.2.1 = v
  | [], i, j, v, h => by cases h
  | e :: es, i, j, v, h => by
    rw [findFrom_cons] at h
    split at h
    · cases h; exact ⟨e, List.mem_cons_self, rfl⟩
    · obtain ⟨e', he, hv⟩ := findA_top t k h; exact ⟨e', List.mem_cons_of_mem _ he, hv⟩
    · cases h
theorem map_of (hR : R σ A w) {b : Nat} {es : List (AVal × AVal × Nat)} {c : Nat} (hb : lookB A.blks b = some (.map es c)) :
    w.heap[σ.blk b]? = some (.map (es.map (concE σ)).toArray c) := by
  obtain ⟨o, ho, hbr⟩ := hR.rel b _ hb
  have : o = .map (es.map (concE σ)).toArray c := hbr
  rw [ho, this]
theorem run_getObj_map (P : Program) {r : Nat} {es : Array MapEntry} {c : Nat} (h : w.heap[r]? = some (.map es c)) : (getObj r).run P w = .ok (.map es c) w := by
  simp [getObj, Sem.run, h]
theorem pLookup_ok (hE : E.Ok) (hR : R σ A w) (hT : TR σ n A.next tm ac.tmps) {t : TypeId} {x i : Operand} {c : Bool} :
    PROk E.P σ A.next w (do pure (.value (← Instr.lookup t (ac.eval x) (ac.eval i) c))) (pLookup E A t (opd tm x) (opd tm i) c) := by
  unfold pLookup
  split
  · rename_i kt et b k hu hx hi
    obtain ⟨h1, h2⟩ := opd_ok hT hx
    obtain ⟨h3, h4⟩ := opd_ok hT hi
    rw [h1, h3]
    split
    · rename_i es cl hk hb
      obtain ⟨hk1, hk2⟩ := and_true hk
      obtain ⟨r, hr⟩ := Option.isSome_iff_exists.1 hk2
      have hmap := map_of hR hb
      obtain ⟨u, hku⟩ := plainKey_und hk1
      have hck := fun c => checkKey_ok (σ := σ) (w := w) hE c hk1 hr (show 64 ≤ 10000 by omega)
      have hrun : ∀ (f : Option (Nat × AVal)), findA E kt k es = some f → (Instr.findKey kt (conc σ k) (es.map (concE σ))).run E.P w = .ok (f.map fun p => (p.1, conc σ p.2)) w :=
        fun f hf => findKey_ok hE hku hf
      split
      · rename_i j v hf
        obtain ⟨e, he, hev⟩ := findA_top kt k (show findFrom E kt k es 0 = _ from hf)
        have hv : topOf v ≤ A.next := by have := (hR.sc b _ hb) e he; rw [← hev]; exact this.2
        refine PROk.of_v ?_
        have hrun' := hrun _ hf
        cases c with
        | true =>
          refine ⟨?_, topOf_tuple_le.2 fun u hu => ?_⟩
          · simp only [Instr.lookup, Sem.run_bind, run_underlying (und_ok hE hu), Result.andThen_ok, conc, run_getObj_map E.P hmap, Sem.run_pure, hck, hrun', Option.map_some, concL]; simp
          · rcases List.mem_cons.1 hu with rfl | hu
            · exact hv
            · rcases List.mem_cons.1 hu with rfl | hu
              · exact Nat.zero_le _
              · cases hu
        | false =>
          refine ⟨?_, hv⟩
          simp only [Instr.lookup, Sem.run_bind, run_underlying (und_ok hE hu), Result.andThen_ok, conc, run_getObj_map E.P hmap, Sem.run_pure, hck, hrun', Option.map_some]; simp
      · rename_i hf
        split
        · rename_i z hz
          obtain ⟨h5, h6, _⟩ := zeroT_ok (σ := σ) (w := w) hE hz
          have hrun' := hrun _ hf
          refine PROk.of_v ?_
          cases c with
          | true =>
            refine ⟨?_, topOf_tuple_le.2 fun u hu => ?_⟩
            · simp only [Instr.lookup, Sem.run_bind, run_underlying (und_ok hE hu), Result.andThen_ok, conc, run_getObj_map E.P hmap, Sem.run_pure, hck, hrun', Option.map_none, concL, h5]; simp
            · rcases List.mem_cons.1 hu with rfl | hu
              · omega
              · rcases List.mem_cons.1 hu with rfl | hu
                · exact Nat.zero_le _
                · cases hu
          | false =>
            refine ⟨?_, by rw [h6]; exact Nat.zero_le _⟩
            simp only [Instr.lookup, Sem.run_bind, run_underlying (und_ok hE hu), Result.andThen_ok, conc, run_getObj_map E.P hmap, Sem.run_pure, hck, hrun', Option.map_none, h5]; simp
        · trivial
      · trivial
    · trivial
  · trivial
end
end Go.Ev

/- Operations without effect: lengths, choices, literals; all together. -/
set_option linter.unusedSimpArgs false
set_option linter.unusedVariables false
namespace Go.Ev
variable [Rho]

theorem cells_conc (σ : Sg) {v : AVal} (h : notRaw v = true) : (conc σ v).cells = (concL σ (cellsOf v)).toArray := by
  cases v <;> first | rfl | cases h
theorem foldl_lay {α : Type} (off : Nat) : ∀ (vs : List α) (k : Nat) (arr : Array α) (i : Nat), off + k + vs.length ≤ arr.size →
    ((vs.zipIdx k).foldl (fun (cs : Array α) (p : α × Nat) => cs.setIfInBounds (off + p.2) p.1) arr)[i]? =
      if off + k ≤ i ∧ i < off + k + vs.length then vs[i - (off + k)]? else arr[i]?
  | [], k, arr, i, _ => by simp; intro h1 h2; omega
  | v :: vs, k, arr, i, h => by
    simp only [List.zipIdx_cons, List.foldl_cons]
    rw [foldl_lay off vs (k + 1) _ i (by simp at h ⊢; omega)]
    simp only [List.length_cons] at h ⊢
    by_cases h1 : i = off + k
    · subst h1
      rw [if_neg (by omega), if_pos (by omega)]
      simp [Array.getElem?_setIfInBounds, show off + k < arr.size by omega]
    · by_cases h2 : off + k ≤ i ∧ i < off + k + (vs.length + 1)
      · rw [if_pos (by omega), if_pos h2]
        rw [show i - (off + k) = (i - (off + (k + 1))) + 1 by omega, List.getElem?_cons_succ]
      · rw [if_neg (by omega), if_neg h2, Array.getElem?_setIfInBounds, if_neg (by omega)]
theorem over_conc (σ : Sg) {cs vs : List AVal} {off : Nat} (h : off + vs.length ≤ cs.length) :
    ((concL σ vs).toArray.zipIdx.foldl (fun (cs : Array Value) (p : Value × Nat) => cs.setIfInBounds (off + p.2) p.1) (concL σ cs).toArray) = (concL σ (over cs off vs)).toArray := by
  apply Array.ext_getElem?
  intro i
  have e : (concL σ vs).toArray.zipIdx = ((concL σ vs).zipIdx 0).toArray := by simp
  rw [e, List.foldl_toArray', ]
  · rw [foldl_lay off (concL σ vs) 0 _ i (by simp [concL_eq]; omega)]
    simp only [concL_eq, List.getElem?_toArray, List.getElem?_map, over_get cs off vs i h, List.length_map, Nat.add_zero]
    by_cases h1 : i < off
    · rw [if_neg (by omega), if_pos h1]
    · by_cases h2 : i < off + vs.length
      · rw [if_pos (by omega), if_neg h1, if_pos h2]
      · rw [if_neg (by omega), if_neg h1, if_neg h2]
  · simp

theorem fillA_cons (place : Nat → Option (Nat × Nat)) (cs : List AVal) (p : Nat × AVal) (ps : List (Nat × AVal)) :
    fillA place cs (p :: ps) = match place p.1 with
      | some (off, size) => match notRaw p.2 && Nat.beq (lenN (cellsOf p.2)) size && Nat.ble (off + size) (lenN cs) with
        | true => fillA place (over cs off (cellsOf p.2)) ps
        | false => none
      | none => none := rfl
theorem topOf_cells {v : AVal} {m : Nat} (h : topOf v ≤ m) : ∀ u ∈ cellsOf v, topOf u ≤ m := by
  cases v <;> first | exact topOf_agg_le.1 h | (intro u hu; simp [cellsOf] at hu; subst hu; exact h)
theorem over_mem {α : Type} {l : List α} : ∀ {n : Nat} {vs : List α} {u : α}, u ∈ over l n vs → u ∈ l ∨ u ∈ vs := by
  induction l with
  | nil => intro n vs u h; cases h
  | cons a r ih =>
    intro n vs u h
    cases n with
    | zero => cases vs with
      | nil => exact .inl h
      | cons v vs =>
        rw [over_zero] at h
        rcases List.mem_cons.1 h with rfl | h
        · exact .inr List.mem_cons_self
        · rcases ih h with h | h
          · exact .inl (List.mem_cons_of_mem _ h)
          · exact .inr (List.mem_cons_of_mem _ h)
    | succ n =>
      have h' : u ∈ a :: over r n vs := h
      rcases List.mem_cons.1 h' with rfl | h'
      · exact .inl List.mem_cons_self
      · rcases ih h' with h | h
        · exact .inl (List.mem_cons_of_mem _ h)
        · exact .inr h
theorem fillA_ok (σ : Sg) {pa pc : Nat → Option (Nat × Nat)} (hp : ∀ i x, pa i = some x → pc i = some x) {m : Nat} :
    ∀ {ps : List (Nat × AVal)} {cs cs' : List AVal}, fillA pa cs ps = some cs' → (∀ u ∈ cs, topOf u ≤ m) → (∀ p ∈ ps, topOf p.2 ≤ m) →
      Instr.fill pc (concL σ cs).toArray (ps.map fun p => (p.1, conc σ p.2)) = some (concL σ cs').toArray ∧ (∀ u ∈ cs', topOf u ≤ m) ∧ cs'.length = cs.length
  | [], cs, cs', h, hc, _ => by cases h; exact ⟨rfl, hc, rfl⟩
  | p :: ps, cs, cs', h, hc, hps => by
    rw [fillA_cons] at h
    split at h <;> try cases h
    rename_i off size hpl
    split at h <;> try cases h
    rename_i hk
    obtain ⟨hk, hk3⟩ := and_true hk
    obtain ⟨hk1, hk2⟩ := and_true hk
    rw [beq_iff, lenN_eq] at hk2
    rw [ble_iff, lenN_eq] at hk3
    obtain ⟨h1, h2, h3⟩ := fillA_ok σ hp h (fun u hu => by
      rcases over_mem hu with hu | hu
      · exact hc u hu
      · exact topOf_cells (hps p List.mem_cons_self) u hu) (fun q hq => hps q (List.mem_cons_of_mem _ hq))
    refine ⟨?_, h2, by rw [h3, over_length]⟩
    simp only [List.map_cons, Instr.fill, hp _ _ hpl, cells_conc σ hk1]
    have hsz : (concL σ (cellsOf p.2)).toArray.size = size := by simp [concL_eq, hk2]
    rw [if_neg (by
      simp only [hsz, ne_eq, not_true_eq_false, decide_false, Bool.false_or, decide_eq_true_eq]
      simp [concL_eq]; omega)]
    rw [← h1, ← over_conc σ (by omega)]

section
variable {E : Env} {σ : Sg} {A : AW} {w : World} {n nx : Nat} {tm : T AVal} {ac : Act}
theorem places_ok (hE : E.Ok) : ∀ {fs : List Field}, fs.all (fun f => (szT E f.type).isSome) = true →
    ∃ pl, fs.mapM (fun f => (E.P.info? f.type).map fun i => (f.offset, i.size)) = some pl ∧ ∀ (i : Nat) (f : Field) (k : Nat), fs[i]? = some f → szT E f.type = some k → pl[i]? = some (f.offset, k)
  | [], _ => ⟨[], rfl, by simp⟩
  | f :: fs, h => by
    rw [List.all_cons] at h
    obtain ⟨h1, h2⟩ := and_true h
    obtain ⟨k, hk⟩ := Option.isSome_iff_exists.1 h1
    obtain ⟨i, hi, hs⟩ := szT_ok hE hk
    obtain ⟨pl, hpl, hpl'⟩ := places_ok hE h2
    refine ⟨(f.offset, k) :: pl, by simp [hi, hs, hpl], fun j g k' hj hk' => ?_⟩
    cases j with
    | zero => simp at hj; subst hj; rw [hk] at hk'; cases hk'; rfl
    | succ j => simpa using hpl' j g k' (by simpa using hj) hk'
theorem buildA_ok (hE : E.Ok) {t : TypeId} {ps : List (Nat × AVal)} {v : AVal} (h : buildA E t ps = some v) (hps : ∀ p ∈ ps, topOf p.2 ≤ nx) (parts : Array (Nat × Value))
    (hparts : parts.toList = ps.map fun p => (p.1, conc σ p.2)) : VOk E.P σ nx w (Instr.build t parts) v := by
  unfold buildA at h
  split at h <;> try cases h
  · rename_i fs z hu hz
    split at h <;> cases h
    rename_i cs hall hf
    obtain ⟨pl, hpl, hpl'⟩ := places_ok hE hall
    obtain ⟨_, hz2, i, zv, hi, hzv, hzc⟩ := zeroT_ok (σ := σ) (w := w) hE hz
    have hzr : notRaw z = true := by
      unfold zeroT at hz
      split at hz <;> try cases hz
      split at hz <;> try cases hz
      rename_i v hv
      unfold ofConst at hz
      split at hz
      · cases hl : ofCells _ with
        | none => rw [hl] at hz; cases hz
        | some r => rw [hl] at hz; cases hz; rfl
      · cases hl : ofCells _ with
        | none => rw [hl] at hz; cases hz
        | some r => rw [hl] at hz; cases hz; rfl
      · unfold ofCell at hz; split at hz <;> cases hz <;> rfl
    obtain ⟨h1, h2, _⟩ := fillA_ok (m := nx) σ (pc := fun i => pl.toArray[i]?) (fun i x hx => by
      unfold fieldPlaceA at hx
      split at hx <;> try cases hx
      rename_i f hf'
      split at hx <;> cases hx
      rename_i k hk
      simpa using hpl' i f k (by simpa using hf') hk) hf (fun u hu => by have := topOf_cells (m := nx) (by omega) u hu; exact this) hps
    refine ⟨?_, topOf_agg_le.2 h2⟩
    refine run_build w t parts _ ?_
    unfold Program.built
    simp only [hi, und_ok hE hu, hzv, hpl, hparts]
    rw [← hzc, cells_conc σ hzr]
    exact h1
  · rename_i len e z hu hz
    split at h <;> try cases h
    rename_i k hk
    split at h <;> cases h
    rename_i cs hf
    obtain ⟨ie, hie, hies⟩ := szT_ok hE hk
    obtain ⟨_, hz2, i, zv, hi, hzv, hzc⟩ := zeroT_ok (σ := σ) (w := w) hE hz
    have hzr : notRaw z = true := by
      unfold zeroT at hz
      split at hz <;> try cases hz
      split at hz <;> try cases hz
      rename_i v hv
      unfold ofConst at hz
      split at hz
      · cases hl : ofCells _ with
        | none => rw [hl] at hz; cases hz
        | some r => rw [hl] at hz; cases hz; rfl
      · cases hl : ofCells _ with
        | none => rw [hl] at hz; cases hz
        | some r => rw [hl] at hz; cases hz; rfl
      · unfold ofCell at hz; split at hz <;> cases hz <;> rfl
    obtain ⟨h1, h2, _⟩ := fillA_ok (m := nx) σ (pc := fun i => some (i * ie.size, ie.size)) (fun i x hx => by rw [hies]; exact hx) hf
      (fun u hu => by have := topOf_cells (m := nx) (by omega) u hu; exact this) hps
    refine ⟨?_, topOf_agg_le.2 h2⟩
    refine run_build w t parts _ ?_
    unfold Program.built
    simp only [hi, und_ok hE hu, hzv, hie, hparts]
    rw [← hzc, cells_conc σ hzr]
    exact h1
theorem lenA_ok (hE : E.Ok) (hR : R σ A w) {t : TypeId} {x v : AVal} (h : lenA E A t x = some v) {tys : Array TypeId} (ht : tys[0]? = some t) {ty : TypeId} :
    VOk E.P σ nx w (Builtin.len_ tys ty #[conc σ x]) v := by
  unfold lenA at h
  split at h <;> try cases h
  all_goals rename_i hu
  all_goals first
    | (refine ⟨?_, Nat.zero_le _⟩; simp [Builtin.len_, ht, run_underlying (und_ok hE hu), conc, goInt]; done)
    | skip
  split at h <;> cases h
  rename_i b _ es c hb
  refine ⟨?_, Nat.zero_le _⟩
  simp [Builtin.len_, ht, run_underlying (und_ok hE hu), conc, goInt, run_getObj_map E.P (map_of hR hb), lenN_eq]
theorem minMaxA_cons (c : Bool) (x y : AVal) (l : List AVal) : minMaxA c x (y :: l) = match x, y with
    | .int s k a, .int s' _ b => minMaxA c (.int (s || s') k (mm c a b)) l
    | _, _ => none := rfl
theorem minMax_ok (c : Bool) : ∀ {l : List AVal} {x v : AVal}, minMaxA c x l = some v →
    ((List.foldlM (if c then Builtin.max2 else Builtin.min2) (conc σ x) (concL σ l)).run E.P w = .ok (conc σ v) w) ∧ (topOf x ≤ nx → topOf v ≤ nx)
  | [], x, v, h => by cases h; exact ⟨rfl, id⟩
  | y :: l, x, v, h => by
    rw [minMaxA_cons] at h
    split at h <;> try cases h
    rename_i s k a s' k' b
    have step : ((if c then Builtin.max2 else Builtin.min2) (conc σ (.int s k a)) (conc σ (.int s' k' b))).run E.P w =
        .ok (conc σ (.int (s || s') k (mm c a b))) w := by
      cases c
      · simp only [Bool.false_eq_true, if_false, Builtin.min2, conc, Sem.run_pure, mm, ilt_eq]
        by_cases hba : b < a <;> simp [hba]
      · simp only [if_true, Builtin.max2, conc, Sem.run_pure, mm, ilt_eq]
        by_cases hba : a < b <;> simp [hba]
    obtain ⟨h1, h2⟩ := minMax_ok c h
    refine ⟨?_, fun _ => h2 (Nat.zero_le _)⟩
    simp only [concL, List.foldlM_cons, Sem.run_bind, step, Result.andThen_ok]
    exact h1
theorem pBuiltin_ok (hE : E.Ok) (hR : R σ A w) (hT : TR σ n A.next tm ac.tmps) {b : Builtin} {args : Array Operand} {tys : Array TypeId} {ty : TypeId} {cs : Array Bool} :
    PROk E.P σ A.next w (builtin b tys ty cs (args.map ac.eval)) (pBuiltin E A b (opds tm args.toList) tys.toList.head?) := by
  unfold pBuiltin
  split
  · split
    · rename_i x t hargs ht
      have e := opds_toArray hT hargs
      have hx := (opds_ok hT hargs).2
      rw [e]
      refine PROk.of_pV (s := Builtin.len_ tys ty _) fun v hv => ?_
      have ht' : tys[0]? = some t := by
        cases hl : tys.toList with
        | nil => rw [hl] at ht; cases ht
        | cons a r => rw [hl] at ht; cases ht; rw [← Array.getElem?_toList, hl]; rfl
      exact lenA_ok hE hR hv ht'
    · trivial
  · split
    · rename_i x l hargs
      have e := opds_toArray hT hargs
      have hx := (opds_ok hT hargs).2
      rw [e]
      refine PROk.of_pV (s := Builtin.min_ tys ty _) fun v hv => ?_
      obtain ⟨h1, h2⟩ := minMax_ok (E := E) (σ := σ) (w := w) (nx := A.next) false hv
      exact ⟨by simpa [Builtin.min_, concL] using h1, h2 (hx x List.mem_cons_self)⟩
    · trivial
  · split
    · rename_i x l hargs
      have e := opds_toArray hT hargs
      have hx := (opds_ok hT hargs).2
      rw [e]
      refine PROk.of_pV (s := Builtin.max_ tys ty _) fun v hv => ?_
      obtain ⟨h1, h2⟩ := minMax_ok (E := E) (σ := σ) (w := w) (nx := A.next) true hv
      exact ⟨by simpa [Builtin.max_, concL] using h1, h2 (hx x List.mem_cons_self)⟩
    · trivial
  · trivial
theorem pick_ok {s c : Bool} {a b v : AVal} (h : pickA s c a b = some v) (ha : topOf a ≤ nx) (hb : topOf b ≤ nx) : conc σ v = (if c then conc σ a else conc σ b) ∧ topOf v ≤ nx := by
  unfold pickA at h
  split at h
  · cases h; cases c <;> exact ⟨rfl, by assumption⟩
  · split at h <;> try cases h
    · cases c <;> exact ⟨rfl, Nat.zero_le _⟩
    · split at h <;> cases h
      rename_i hk
      rw [kindEq_eq] at hk; subst hk
      cases c <;> exact ⟨rfl, Nat.zero_le _⟩
theorem pPick_ok (hT : TR σ n A.next tm ac.tmps) {c a b : Operand} :
    PROk E.P σ A.next w (do pure (.value (if ← asBool (ac.eval c) then ac.eval a else ac.eval b))) (pPick tm (opd tm c) a b) := by
  unfold pPick
  split
  · rename_i s c' hc
    have h1 := (opd_ok hT hc).1
    rw [h1]
    have run : ∀ v, (if c' then ac.eval a else ac.eval b) = conc σ v → topOf v ≤ A.next →
        PROk E.P σ A.next w (do pure (.value (if ← asBool (conc σ (.bool s c')) then ac.eval a else ac.eval b))) (.v v) := by
      intro v hv ht
      refine ⟨?_, ht⟩
      simp [conc, asBool, hv]
    cases s with
    | false =>
      cases c' with
      | true =>
        show PROk _ _ _ _ _ (pV (opd tm a))
        cases ha : opd tm a with
        | none => trivial
        | some v => exact run v (opd_ok hT ha).1 (opd_ok hT ha).2
      | false =>
        show PROk _ _ _ _ _ (pV (opd tm b))
        cases hb : opd tm b with
        | none => trivial
        | some v => exact run v (opd_ok hT hb).1 (opd_ok hT hb).2
    | true =>
      show PROk _ _ _ _ _ (pPickS c' (opd tm a) (opd tm b))
      unfold pPickS
      split
      · rename_i va vb ha hb
        cases hv : pickA true c' va vb with
        | none => trivial
        | some v =>
          obtain ⟨h2, h3⟩ := pick_ok (σ := σ) hv (opd_ok hT ha).2 (opd_ok hT hb).2
          exact run v (by rw [h2, (opd_ok hT ha).1, (opd_ok hT hb).1]) h3
      · trivial
  · rename_i c' hc
    have h1 := (opd_ok hT hc).1
    rw [h1]
    unfold pPickX
    split
    · rename_i va vb ha hb
      cases hv : pickX c' va vb with
      | none => trivial
      | some v =>
        obtain ⟨h2, h3⟩ := pickX_ok σ hv
        refine ⟨?_, by omega⟩
        rw [h2, (opd_ok hT ha).1, (opd_ok hT hb).1]
        simp only [conc, asBool, Sem.run_bind, Sem.run_pure, Result.andThen_ok]
    · trivial
  · trivial
theorem pNil_ok (hT : TR σ n A.next tm ac.tmps) {x : Operand} {o : Oper} (ho : o.op = .nilCheck x) : PROk E.P σ A.next w (execOp ac.eval o) (pNil (opd tm x)) := by
  unfold pNil
  split
  · rename_i b p hx
    obtain ⟨h1, h2⟩ := opd_ok hT hx
    refine ⟨?_, h2⟩
    simp only [execOp, ho, h1, conc]; rfl
  · rename_i f a c hx
    obtain ⟨h1, h2⟩ := opd_ok hT hx
    refine ⟨?_, h2⟩
    simp only [execOp, ho, h1, conc]; rfl
  · trivial

/-- ALL OPERATIONS WITHOUT EFFECT. -/
theorem pureOp_ok (hE : E.Ok) (hR : R σ A w) (hT : TR σ n A.next tm ac.tmps) (o : Oper) : PROk E.P σ A.next w (execOp ac.eval o) (pureOp E A tm o.op) := by
  have hopd : ∀ x, PROk E.P σ A.next w (pure (Next.value (ac.eval x))) (pV (opd tm x)) := by
    intro x
    cases hx : opd tm x with
    | none => trivial
    | some v => obtain ⟨h1, h2⟩ := opd_ok hT hx; exact ⟨by rw [h1]; rfl, h2⟩
  cases hop : o.op with
  | move x => simp only [execOp, hop]; exact hopd x
  | assign x => simp only [execOp, hop]; exact hopd x
  | pick c a b => simp only [execOp, hop]; exact pPick_ok hT
  | load t a =>
    simp only [execOp, hop]
    show PROk _ _ _ _ _ (pLoad E A t (opd tm a))
    unfold pLoad
    split
    · rename_i v ha
      rw [(opd_ok hT ha).1]
      exact PROk.of_pV fun u hu => load_ok hE hR hu
    · trivial
  | binOp op t x y yt =>
    simp only [execOp, hop]
    show PROk _ _ _ _ _ (pBin E op t x y (opd tm x) (opd tm y))
    unfold pBin
    cases hx : opd tm x with
    | none => trivial
    | some a =>
      cases hy : opd tm y with
      | none => trivial
      | some b =>
        rw [(opd_ok hT hx).1, (opd_ok hT hy).1]
        exact PROk.of_pVO fun v l h hl => binA_ok hE h hl
  | unOp op t x =>
    simp only [execOp, hop]
    show PROk _ _ _ _ _ (pUn op (opd tm x))
    unfold pUn
    cases hx : opd tm x with
    | none => trivial
    | some a =>
      rw [(opd_ok hT hx).1]
      exact PROk.of_pV fun v h => unA_ok h
  | convert s d x => simp only [execOp, hop]; exact pConv_ok hE hR hT
  | nilCheck x => exact pNil_ok hT hop
  | fieldAddr s x f => simp only [execOp, hop]; exact pFieldAddr_ok hE hT
  | field s x f => simp only [execOp, hop]; exact pField_ok hE hT
  | indexAddr t x i => simp only [execOp, hop]; exact pIndexAddr_ok hE hT
  | index t x i => simp only [execOp, hop]; exact pIndex_ok hE hT
  | build t ps =>
    simp only [execOp, hop]
    show PROk _ _ _ _ _ (pBuild E t (opdParts tm ps.toList))
    unfold pBuild
    split
    · rename_i l hl
      obtain ⟨h1, h2⟩ := opdParts_ok hT hl
      exact PROk.of_pV fun v hv => buildA_ok hE hv h2 _ (by simpa using h1)
    · trivial
  | makeFunc fn fi ca =>
    simp only [execOp, hop]
    show PROk _ _ _ _ _ (pFunc fn (opds tm fi.toList) (opds tm ca.toList))
    unfold pFunc
    split
    · rename_i a b ha hb
      refine PROk.of_v ⟨?_, topOf_func_le.2 ⟨(opds_ok hT ha).2, (opds_ok hT hb).2⟩⟩
      simp only [Instr.makeFunc, opds_toArray hT ha, opds_toArray hT hb]; rfl
    · trivial
  | makeInterface t x => simp only [execOp, hop]; exact pIface_ok hE hT
  | extract x i => simp only [execOp, hop]; exact pExtract_ok hT
  | slice t x lo hi mx =>
    cases mx with
    | some _ => trivial
    | none =>
      simp only [execOp, hop]
      show PROk _ _ _ _ _ (pSlice E A t (opd tm x) (opdO tm lo) (opdO tm hi))
      unfold pSlice
      split
      · rename_i v l h hx hl hh
        have ho : ∀ {y : Option Operand} {r : Option AVal}, opdO tm y = some r → y.map ac.eval = r.map (conc σ) := by
          intro y r hy
          cases y with
          | none => cases hy; rfl
          | some y =>
            simp only [opdO] at hy
            cases hv : opd tm y with
            | none => rw [hv] at hy; cases hy
            | some u => rw [hv] at hy; cases hy; simp [(opd_ok hT hv).1]
        rw [(opd_ok hT hx).1, ho hl, ho hh]
        exact PROk.of_pV fun u hu => sliceA_ok hE hR (opd_ok hT hx).2 hu
      · trivial
  | typeAssert x xt t c => simp only [execOp, hop]; exact pAssert_ok hE hT
  | lookup t x i c => simp only [execOp, hop]; exact pLookup_ok hE hR hT
  | call c =>
    show PROk _ _ _ _ _ (pCall E A tm c)
    unfold pCall
    split
    · rename_i b hb
      have := pBuiltin_ok hE hR hT (b := b) (args := c.args) (tys := c.argTypes) (ty := o.type) (cs := c.args.map fun | .const _ => true | _ => false)
      simp only [execOp, hop, resolve, hb]
      exact this
    · trivial
  | _ => trivial
end
end Go.Ev

/- Effects: new blocks, cells written. -/
set_option linter.unusedSimpArgs false
set_option linter.unusedVariables false
namespace Go.Ev
variable [Rho]

/-- A reading with one more block. -/
def Sg.put (σ : Sg) (i b c : Nat) (t : TypeId) (f : Nat × Nat) : Sg where
  blk := fun j => if j = i then b else σ.blk j
  cap := fun j => if j = i then c else σ.cap j
  ty := fun j => if j = i then t else σ.ty j
  fr := fun j => if j = i then f else σ.fr j
theorem Sg.put_agree (σ : Sg) (i b c : Nat) (t : TypeId) (f : Nat × Nat) : σ.Agree (σ.put i b c t f) i := fun j hj => by
  have : j ≠ i := by omega
  simp [Sg.put, this]

theorem scoped_mono {b : ABlk} {n m : Nat} (h : b.Scoped n) (hm : n ≤ m) : b.Scoped m := by
  cases b with
  | map es c => exact fun e he => ⟨Nat.le_trans (h e he).1 hm, Nat.le_trans (h e he).2 hm⟩
  | cells e cs => exact fun j v hv => Nat.le_trans (h j v hv) hm
  | tree k pat t => exact fun j v hv => Nat.le_trans (h j v hv) hm
theorem concE_congr {σ τ : Sg} {n : Nat} (h : σ.Agree τ n) {e : AVal × AVal × Nat} (he : topOf e.1 ≤ n ∧ topOf e.2.1 ≤ n) : concE τ e = concE σ e := by
  simp [concE, conc_congr h e.1 he.1, conc_congr h e.2.1 he.2]
theorem BR_congr {σ τ : Sg} {n i : Nat} (h : σ.Agree τ n) {b : ABlk} {o : Obj} (hs : b.Scoped n) (hi : i < n) (hb : BR σ i b o) : BR τ i b o := by
  obtain ⟨h1, h2, h3, h4⟩ := h i hi
  have row : ∀ arr, isRow b = true → (∀ j v, lookCell b j = some v → topOf v ≤ n) → Row σ i b arr → Row τ i b arr := fun arr _ hsc r =>
    ⟨r.size, r.known, fun st hst => by rw [h2]; exact r.ext st hst, fun j v hv => by rw [conc_congr h v (hsc j v hv)]; exact r.cell j v hv, by rw [h4]; exact r.warm⟩
  cases b with
  | map es c =>
    have e : o = .map (es.map (concE σ)).toArray c := hb
    show o = .map (es.map (concE τ)).toArray c
    rw [e]; congr 2
    exact List.map_congr_left fun x hx => (concE_congr h (hs x hx)).symm
  | cells e cs => obtain ⟨arr, ho, r⟩ := hb; exact ⟨arr, by rw [h3, h4]; exact ho, row arr rfl hs r⟩
  | tree k pat t => obtain ⟨arr, ho, r⟩ := hb; exact ⟨arr, by rw [h3, h4]; exact ho, row arr rfl hs r⟩

section
variable {σ : Sg} {A : AW} {w : World}
/-- A new block behind the heap. -/
theorem new_ok (hR : R σ A w) {blk : ABlk} {o : Obj} {c : Nat} {t : TypeId} {f : Nat × Nat} (hs : blk.Scoped (A.next + 1))
    (hb : BR (σ.put A.next w.heap.size c t f) A.next blk o) :
    R (σ.put A.next w.heap.size c t f) (A.new blk) { w with heap := w.heap.push o } ∧
      Step σ A w (σ.put A.next w.heap.size c t f) (A.new blk) { w with heap := w.heap.push o } := by
  have hag := σ.put_agree A.next w.heap.size c t f
  have hlook : ∀ i b, lookB (A.new blk).blks i = some b → (i = A.next ∧ b = blk) ∨ (i < A.next ∧ lookB A.blks i = some b) := by
    intro i b h
    have h' : lookB ((A.next, blk) :: A.blks) i = some b := h
    rw [lookB_cons] at h'
    split at h'
    · rename_i e; exact .inl ⟨e.symm, (Option.some.inj h').symm⟩
    · exact .inr ⟨hR.lt i b h', h'⟩
  have hold : ∀ i b, lookB A.blks i = some b → σ.blk i < w.heap.size := by
    intro i b h
    obtain ⟨o', ho, _⟩ := hR.rel i b h
    rcases Nat.lt_or_ge (σ.blk i) w.heap.size with h' | h'
    · exact h'
    · rw [Array.getElem?_eq_none h'] at ho; cases ho
  have hnew : (σ.put A.next w.heap.size c t f).blk A.next = w.heap.size := by simp [Sg.put]
  constructor
  · refine ⟨?_, ?_, ?_, ?_, ?_⟩
    · show Once ((A.next, blk) :: A.blks)
      refine List.nodup_cons.2 ⟨fun h => ?_, hR.once⟩
      obtain ⟨p, hp, he⟩ := List.mem_map.1 h
      have := hR.lt p.1 p.2 (lookB_of_mem hR.once hp)
      simp only at he; omega
    · intro i b h
      rcases hlook i b h with ⟨rfl, _⟩ | ⟨hi, _⟩
      · exact Nat.lt_succ_self _
      · exact Nat.lt_succ_of_lt hi
    · intro i b h
      rcases hlook i b h with ⟨rfl, rfl⟩ | ⟨_, h'⟩
      · exact hs
      · exact scoped_mono (hR.sc i b h') (Nat.le_succ _)
    · intro i b h
      rcases hlook i b h with ⟨rfl, rfl⟩ | ⟨hi, h'⟩
      · exact ⟨o, by rw [hnew]; simp, hb⟩
      · obtain ⟨o', ho, hbr⟩ := hR.rel i b h'
        refine ⟨o', ?_, BR_congr hag (hR.sc i b h') hi hbr⟩
        rw [(hag i hi).1, Array.getElem?_push_lt (hold i b h')]
        simpa [Array.getElem?_eq_getElem (hold i b h')] using ho
    · intro i j b b' h h' e
      rcases hlook i b h with ⟨rfl, _⟩ | ⟨hi, h1⟩
      · rcases hlook j b' h' with ⟨rfl, _⟩ | ⟨hj, h2⟩
        · rfl
        · rw [hnew, (hag j hj).1] at e
          have := hold j b' h2; omega
      · rcases hlook j b' h' with ⟨rfl, _⟩ | ⟨hj, h2⟩
        · rw [hnew, (hag i hi).1] at e
          have := hold i b h1; omega
        · rw [(hag i hi).1, (hag j hj).1] at e
          exact hR.inj i j b b' h1 h2 e
  · refine ⟨Nat.le_succ _, hag, by simp, ?_, ?_, rfl, rfl⟩
    · intro c' hc' _
      rw [Array.getElem?_push_lt hc']; simp [Array.getElem?_eq_getElem hc']
    · intro i b h
      rcases hlook i b h with ⟨rfl, _⟩ | ⟨hi, h'⟩
      · exact .inr (by rw [hnew]; exact Nat.le_refl _)
      · exact .inl ⟨i, b, h', ((hag i hi).1).symm⟩
/-- A block turned. -/
theorem set_ok (hR : R σ A w) {b : Nat} {blk blk' : ABlk} (hb : lookB A.blks b = some blk) {o : Obj} {w' : World} (esc : Nat) (hs : blk'.Scoped A.next)
    (hbr : BR σ b blk' o) (ho : w'.heap[σ.blk b]? = some o) (hoth : ∀ c, c ≠ σ.blk b → w'.heap[c]? = w.heap[c]?) (hsz : w'.heap.size = w.heap.size) (hos : w'.os = w.os) (hout : w'.output = w.output) :
    R σ ⟨A.next, esc, setB A.blks b blk'⟩ w' ∧ Step σ A w σ ⟨A.next, esc, setB A.blks b blk'⟩ w' := by
  have hlook : ∀ i x, lookB (setB A.blks b blk') i = some x → (i = b ∧ x = blk') ∨ (i ≠ b ∧ lookB A.blks i = some x) := by
    intro i x h
    rw [lookB_setB] at h
    split at h
    · rename_i e; subst e; rw [hb] at h; exact .inl ⟨rfl, (Option.some.inj h).symm⟩
    · rename_i e; exact .inr ⟨fun e' => e e'.symm, h⟩
  have hex : ∀ i x, lookB (setB A.blks b blk') i = some x → ∃ y, lookB A.blks i = some y := by
    intro i x h
    rcases hlook i x h with ⟨rfl, _⟩ | ⟨_, h'⟩
    · exact ⟨_, hb⟩
    · exact ⟨_, h'⟩
  constructor
  · refine ⟨hR.once.setB _ _, ?_, ?_, ?_, ?_⟩
    · intro i x h; obtain ⟨y, hy⟩ := hex i x h; exact hR.lt i y hy
    · intro i x h
      rcases hlook i x h with ⟨rfl, rfl⟩ | ⟨_, h'⟩
      · exact hs
      · exact hR.sc i x h'
    · intro i x h
      rcases hlook i x h with ⟨rfl, rfl⟩ | ⟨hne, h'⟩
      · exact ⟨o, ho, hbr⟩
      · obtain ⟨o', ho', hbr'⟩ := hR.rel i x h'
        exact ⟨o', by rw [hoth _ (fun e => hne (hR.inj i b x blk h' hb e))]; exact ho', hbr'⟩
    · intro i j x y h h' e
      obtain ⟨x', hx⟩ := hex i x h
      obtain ⟨y', hy⟩ := hex j y h'
      exact hR.inj i j x' y' hx hy e
  · refine ⟨Nat.le_refl _, Sg.Agree.refl _ _, by omega, ?_, ?_, hos, hout⟩
    · intro c _ hc
      exact hoth c fun e => hc b blk hb e.symm
    · intro i x h
      obtain ⟨y, hy⟩ := hex i x h
      exact .inl ⟨i, y, hy, rfl⟩
end

/-! Cells written. -/
theorem isCell_one (σ : Sg) {v : AVal} (h : isCell v = true) : (conc σ v).oneCell' = true := by cases v <;> first | rfl | cases h
theorem isCell_raw {v : AVal} (h : isCell v = true) : notRaw v = true := by cases v <;> first | rfl | cases h

theorem run_storeCells (P : Program) (b off : Nat) (e : TypeId) (fr : Nat × Nat) : ∀ (vs : List Value) (i : Nat) (arr : Array Value) (w : World), w.heap[b]? = some (.cells arr e fr) →
    (∀ v ∈ vs, v.oneCell' = true) → off + i + vs.length ≤ arr.size → (∀ j, j < arr.size → ¬ (fr.1 ≤ j ∧ j < fr.2)) →
    ∃ (w' : World) (arr' : Array Value), (storeCells ⟨b, off, none⟩ vs i).run P w = .ok () w' ∧ w'.heap[b]? = some (.cells arr' e fr) ∧ arr'.size = arr.size ∧
      (∀ j, arr'[j]? = if off + i ≤ j ∧ j < off + i + vs.length then vs[j - (off + i)]? else arr[j]?) ∧
      (∀ c, c ≠ b → w'.heap[c]? = w.heap[c]?) ∧ w'.heap.size = w.heap.size ∧ w'.os = w.os ∧ w'.output = w.output
  | [], i, arr, w, h, _, _, _ => ⟨w, arr, rfl, h, rfl, fun j => by simp; intro h1 h2; omega, fun _ _ => rfl, rfl, rfl, rfl⟩
  | v :: vs, i, arr, w, h, hone, hsz, hw => by
    simp only [List.length_cons] at hsz
    have hlt : off + i < arr.size := by omega
    have hcell : w.cell? ⟨b, off + i, none⟩ = some arr[off + i] := by simp [World.cell?, h, hlt]
    have hfr : w.frozen? ⟨b, off + i, none⟩ = false := by
      simp only [World.frozen?, h]
      have := hw (off + i) hlt
      simp; intro h1; omega
    have hb : b < w.heap.size := by
      rcases Nat.lt_or_ge b w.heap.size with h' | h'
      · exact h'
      · rw [Array.getElem?_eq_none h'] at h; cases h
    have hset : (w.setCell ⟨b, off + i, none⟩ v).heap[b]? = some (.cells (arr.setIfInBounds (off + i) v) e fr) := by
      simp [World.setCell, Array.getElem?_modify, h]
    obtain ⟨w', arr', h1, h2, h3, h4, h5, h6, h7, h8⟩ := run_storeCells P b off e fr vs (i + 1) (arr.setIfInBounds (off + i) v) (w.setCell ⟨b, off + i, none⟩ v) hset
      (fun u hu => hone u (List.mem_cons_of_mem _ hu)) (by simp; omega) (by simpa using hw)
    refine ⟨w', arr', ?_, h2, by simpa using h3, fun j => ?_, fun c hc => ?_, ?_, h7, h8⟩
    · simp only [storeCells, Sem.run_bind]
      rw [add_none _ rfl, run_store P w _ v _ (hone v List.mem_cons_self)]
      simp only [hcell, hfr, Bool.false_eq_true, if_false, Result.andThen_ok]
      exact h1
    · rw [h4 j]
      simp only [List.length_cons]
      by_cases e1 : j = off + i
      · subst e1
        rw [if_neg (by omega), if_pos (by omega)]
        simp [hlt]
      · by_cases e2 : off + i ≤ j ∧ j < off + i + (vs.length + 1)
        · rw [if_pos (by omega), if_pos e2]
          rw [show j - (off + i) = (j - (off + (i + 1))) + 1 by omega, List.getElem?_cons_succ]
        · rw [if_neg (by omega), if_neg e2, Array.getElem?_setIfInBounds, if_neg (by omega)]
    · rw [h5 c hc]
      simp [World.setCell, Array.getElem?_modify]
      intro e'; exact absurd e'.symm hc
    · rw [h6]; simp [World.setCell]

theorem putT_cons (t : T (Option AVal)) (off : Nat) (v : AVal) (vs : List AVal) : putT t off (v :: vs) = eO (t.get off) none fun _ => putT (t.upd off (some v)) (off + 1) vs := rfl
theorem putT_get : ∀ {vs : List AVal} {off : Nat} {t t' : T (Option AVal)}, putT t off vs = some t' → ∀ j, t'.get j = if off ≤ j ∧ j < off + vs.length then (vs[j - off]?).map some else t.get j
  | [], off, t, t', h, j => by cases h; simp; intro h1 h2; omega
  | v :: vs, off, t, t', h, j => by
    rw [putT_cons] at h
    cases hg : t.get off with
    | none => rw [hg] at h; cases h
    | some x =>
      rw [hg, eO_some] at h
      have := putT_get h j
      rw [this]
      simp only [List.length_cons]
      by_cases e1 : j = off
      · subst e1
        rw [if_neg (by omega), if_pos (by omega), T.get_upd, if_pos rfl, hg]
        simp
      · by_cases e2 : off ≤ j ∧ j < off + (vs.length + 1)
        · rw [if_pos (by omega), if_pos e2]
          rw [show j - off = (j - (off + 1)) + 1 by omega, List.getElem?_cons_succ]
        · rw [if_neg (by omega), if_neg e2, T.get_upd, if_neg (fun e => e1 e.symm)]
theorem writeB_ok {b b' : ABlk} {off : Nat} {vs : List AVal} (h : writeB b off vs = some b') :
    isRow b = true ∧ isRow b' = true ∧ extOf b' = extOf b ∧ sizeB b' = sizeB b ∧ off + vs.length ≤ sizeB b ∧
      ∀ j, lookCell b' j = if off ≤ j ∧ j < off + vs.length then vs[j - off]? else lookCell b j := by
  unfold writeB at h
  split at h
  · rename_i e cs
    split at h <;> cases h
    rename_i hk
    rw [ble_iff, lenN_eq, lenN_eq] at hk
    refine ⟨rfl, rfl, rfl, by simp [sizeB, lenN_eq, over_length], by simpa [sizeB, lenN_eq] using hk, fun j => ?_⟩
    simp only [lookCell, nth_eq, over_get cs off vs j hk]
    by_cases h1 : j < off
    · rw [if_pos h1, if_neg (by omega)]
    · rw [if_neg h1]
      by_cases h2 : j < off + vs.length
      · rw [if_pos h2, if_pos (by omega)]
      · rw [if_neg h2, if_neg (by omega)]
  · rename_i n pat t
    split at h <;> try cases h
    rename_i hk
    rw [ble_iff, lenN_eq] at hk
    cases hp : putT t off vs with
    | none => rw [hp] at h; cases h
    | some t' =>
      rw [hp, eO_some] at h
      cases h
      refine ⟨rfl, rfl, rfl, rfl, hk, fun j => ?_⟩
      simp only [lookCell, putT_get hp j]
      by_cases h2 : off ≤ j ∧ j < off + vs.length
      · rw [if_pos h2, if_pos h2]
        have : Nat.blt j n = true := (blt_iff _ _).2 (by omega)
        rw [this]
        have hlt : j - off < vs.length := by omega
        simp [List.getElem?_eq_getElem hlt]
      · rw [if_neg h2, if_neg h2]
  · cases h

section
variable {E : Env} {σ : Sg} {A : AW} {w : World}
theorem storeCellsA_ok (hR : R σ A w) {b off : Nat} {vs : List AVal} {A' : AW} (h : storeCellsA A b off vs = some A') (hv : ∀ v ∈ vs, topOf v ≤ A.next) (P : Program) :
    ∃ w', (storeCells ⟨σ.blk b, off, none⟩ (concL σ vs)).run P w = .ok () w' ∧ R σ A' w' ∧ Step σ A w σ A' w' ∧ A'.next = A.next := by
  unfold storeCellsA at h
  split at h <;> try cases h
  rename_i blk hb hc
  rw [allL_eq] at hc
  split at h <;> cases h
  rename_i blk' hwr
  obtain ⟨h1, h2, h3, h4, h5, h6⟩ := writeB_ok hwr
  obtain ⟨arr, ho, hrow⟩ := row_of hR hb h1
  have hone : ∀ v ∈ concL σ vs, v.oneCell' = true := by
    intro v hv
    rw [concL_eq] at hv
    obtain ⟨u, hu, rfl⟩ := List.mem_map.1 hv
    exact isCell_one σ (List.all_eq_true.1 hc u hu)
  have hlen : (concL σ vs).length = vs.length := by simp [concL_eq]
  obtain ⟨w', arr', g1, g2, g3, g4, g5, g6, g7, g8⟩ := run_storeCells P (σ.blk b) off (σ.ty b) (σ.fr b) (concL σ vs) 0 arr w ho hone
    (by have := hrow.size; omega) hrow.warm
  have hsc : blk'.Scoped A.next := by
    have hold := hR.sc b blk hb
    have hcell : ∀ j v, lookCell blk' j = some v → topOf v ≤ A.next := by
      intro j v hj
      rw [h6 j] at hj
      split at hj
      · exact hv v (List.mem_of_getElem? hj)
      · cases blk with
        | map es c => cases h1
        | cells e cs => exact hold j v hj
        | tree k pat t => exact hold j v hj
    cases blk' with
    | map es c => cases h2
    | cells e cs => exact hcell
    | tree k pat t => exact hcell
  have hrow' : Row σ b blk' arr' := by
    refine ⟨by rw [h4, g3]; exact hrow.size, fun hx => by rw [g3, h4]; exact hrow.known (h3 ▸ hx), fun st hst => by rw [g3]; exact hrow.ext st (h3 ▸ hst), fun j v hj => ?_, fun j hj => hrow.warm j (by omega)⟩
    rw [g4 j, hlen]
    rw [h6 j] at hj
    simp only [Nat.add_zero]
    split at hj
    · rename_i hc; rw [if_pos hc, concL_eq, List.getElem?_map, hj]; rfl
    · rename_i hc; rw [if_neg hc]; exact hrow.cell j v hj
  have hbr : BR σ b blk' (.cells arr' (σ.ty b) (σ.fr b)) := by
    cases blk' with
    | map es c => cases h2
    | cells e cs => exact ⟨arr', rfl, hrow'⟩
    | tree k pat t => exact ⟨arr', rfl, hrow'⟩
  obtain ⟨r1, r2⟩ := set_ok hR hb _ hsc hbr g2 (fun c hc => g5 c hc) g6 g7 g8
  exact ⟨w', g1, r1, r2, rfl⟩
theorem storeA_ok (hE : E.Ok) (hR : R σ A w) {t : TypeId} {a v : AVal} {A' : AW} (h : storeA E A t a v = some A') (hv : topOf v ≤ A.next) :
    ∃ w', (Instr.storeAt t (conc σ a) (conc σ v)).run E.P w = .ok () w' ∧ R σ A' w' ∧ Step σ A w σ A' w' ∧ A'.next = A.next := by
  unfold storeA at h
  split at h <;> try cases h
  rename_i b off k hk
  split at h <;> try cases h
  rename_i hn
  rw [beq_iff, lenN_eq] at hn
  obtain ⟨w', h1, h2, h3, h4⟩ := storeCellsA_ok hR h (fun u hu => topOf_cells hv u hu) E.P
  refine ⟨w', ?_, h2, h3, h4⟩
  have hraw : notRaw v = true := by
    cases v <;> first | rfl | skip
    rename_i u
    unfold storeCellsA at h
    split at h
    · rename_i hc; cases hc
    · cases h
  have hcells := cells_conc σ hraw
  have hsz : (conc σ v).cells.size = k := by rw [hcells]; simp [concL_eq, hn]
  simp only [Instr.storeAt, Instr.sureAddr, conc, storeVar, Sem.run_bind, Sem.run_pure, Result.andThen_ok, run_sizeT hE hk, hsz, ne_eq, not_true_eq_false, if_false]
  rw [hcells]
  exact h1
end
end Go.Ev

/- Effects: new rows, slices, maps, append, copy. -/
set_option linter.unusedSimpArgs false
set_option linter.unusedVariables false
namespace Go.Ev
variable [Rho]

/-- A result that turns the world as the evaluator says. -/
def VE (P : Program) (σ : Sg) (A : AW) (w : World) (s : Sem Value) (v : AVal) (A' : AW) : Prop :=
  ∃ σ' w', s.run P w = .ok (conc σ' v) w' ∧ R σ' A' w' ∧ Step σ A w σ' A' w' ∧ topOf v ≤ A'.next

theorem newCells_ok {cs : List AVal} : isRow (newCells cs) = true ∧ extOf (newCells cs) = none ∧ sizeB (newCells cs) = cs.length ∧ ∀ j v, lookCell (newCells cs) j = some v → cs[j]? = some v := by
  unfold newCells
  split
  · exact ⟨rfl, rfl, by simp [sizeB, lenN_eq], fun j v h => by simpa [lookCell, nth_eq] using h⟩
  · refine ⟨rfl, rfl, by simp [sizeB, lenN_eq], fun j v h => ?_⟩
    simp only [lookCell] at h
    split at h <;> try cases h
    rename_i hlt
    rw [blt_iff, lenN_eq] at hlt
    split at h
    · rename_i u hu
      have := T.get_deep _ _ _ _ hu
      cases this
    · rw [nth_eq, lenN_eq] at h
      have : Nat.mod j cs.length = j := Nat.mod_eq_of_lt hlt
      rwa [this] at h
theorem rowL_zero (pat : List AVal) (i : Nat) : rowL pat 0 i = [] := rfl
theorem rowL_succ (pat : List AVal) (n i : Nat) : rowL pat (n + 1) i = eO (nth pat (Nat.mod i (lenN pat))) [] fun v => v :: rowL pat n (i + 1) := rfl
theorem rowL_ok {pat : List AVal} (hp : 0 < pat.length) : ∀ (n i : Nat), (rowL pat n i).length = n ∧ ∀ j v, (rowL pat n i)[j]? = some v → pat[(i + j) % pat.length]? = some v
  | 0, i => ⟨rfl, fun j v h => by rw [rowL_zero] at h; cases h⟩
  | n + 1, i => by
    have hlt : Nat.mod i pat.length < pat.length := Nat.mod_lt _ hp
    obtain ⟨h1, h2⟩ := rowL_ok hp n (i + 1)
    rw [rowL_succ, nth_eq, lenN_eq, List.getElem?_eq_getElem hlt, eO_some]
    refine ⟨by simp [h1], fun j v h => ?_⟩
    cases j with
    | zero => simp at h; subst h; exact List.getElem?_eq_getElem hlt
    | succ j => have := h2 j v (by simpa using h); rwa [show i + (j + 1) = i + 1 + j by omega]
theorem rowB_ok {pat : List AVal} {n : Nat} (hp : 0 < pat.length ∨ n = 0) : isRow (rowB pat n) = true ∧ extOf (rowB pat n) = none ∧ sizeB (rowB pat n) = n ∧
    ∀ j v, lookCell (rowB pat n) j = some v → j < n ∧ pat[j % pat.length]? = some v := by
  unfold rowB
  split
  · have hlen : (rowL pat n 0).length = n := by
      rcases hp with hp | rfl
      · exact (rowL_ok hp n 0).1
      · rfl
    refine ⟨rfl, rfl, by simp [sizeB, lenN_eq, hlen], fun j v h => ?_⟩
    simp only [lookCell, nth_eq] at h
    have hj : j < n := by
      rcases Nat.lt_or_ge j (rowL pat n 0).length with h' | h'
      · omega
      · rw [List.getElem?_eq_none h'] at h; cases h
    rcases hp with hp | rfl
    · have := (rowL_ok hp n 0).2 j v h
      exact ⟨hj, by simpa using this⟩
    · omega
  · refine ⟨rfl, rfl, rfl, fun j v h => ?_⟩
    simp only [lookCell] at h
    split at h <;> try cases h
    rename_i hlt
    rw [blt_iff] at hlt
    refine ⟨hlt, ?_⟩
    split at h
    · rename_i u hu
      have := T.get_deep _ _ _ _ hu
      cases this
    · rw [nth_eq, lenN_eq] at h; exact h

theorem scoped_row {b : ABlk} {n : Nat} (hr : isRow b = true) (h : ∀ j v, lookCell b j = some v → topOf v ≤ n) : b.Scoped n := by
  cases b with
  | map es c => cases hr
  | cells e cs => exact h
  | tree k pat t => exact h
theorem BR_row {σ : Sg} {i : Nat} {b : ABlk} {arr : Array Value} (hr : isRow b = true) (h : Row σ i b arr) : BR σ i b (.cells arr (σ.ty i) (σ.fr i)) := by
  cases b with
  | map es c => cases hr
  | cells e cs => exact ⟨arr, rfl, h⟩
  | tree k pat t => exact ⟨arr, rfl, h⟩

section
variable {E : Env} {σ : Sg} {A : AW} {w : World}
/-- A new row. -/
theorem newRow_ok (hR : R σ A w) {blk : ABlk} (hr : isRow blk = true) {arr : Array Value} {t : TypeId} {cap : Nat} (hsz : sizeB blk ≤ arr.size) (hk : extOf blk = none → arr.size = sizeB blk)
    (he : ∀ st, extOf blk = some st → arr.size = cap * st) (hc : ∀ j v, lookCell blk j = some v → topOf v ≤ A.next ∧ arr[j]? = some (conc σ v)) :
    R (σ.put A.next w.heap.size cap t (0, 0)) (A.new blk) { w with heap := w.heap.push (.cells arr t) } ∧
      Step σ A w (σ.put A.next w.heap.size cap t (0, 0)) (A.new blk) { w with heap := w.heap.push (.cells arr t) } := by
  have hag := σ.put_agree A.next w.heap.size cap t (0, 0)
  have h1 : (σ.put A.next w.heap.size cap t (0, 0)).ty A.next = t := by simp [Sg.put]
  have h2 : (σ.put A.next w.heap.size cap t (0, 0)).fr A.next = (0, 0) := by simp [Sg.put]
  have h3 : (σ.put A.next w.heap.size cap t (0, 0)).cap A.next = cap := by simp [Sg.put]
  refine new_ok hR (scoped_row hr fun j v hj => Nat.le_succ_of_le (hc j v hj).1) ?_
  have := BR_row (σ := σ.put A.next w.heap.size cap t (0, 0)) (i := A.next) (b := blk) (arr := arr) hr
    ⟨hsz, hk, fun st hst => by rw [h3]; exact he st hst, fun j v hj => by rw [conc_congr hag v (hc j v hj).1]; exact (hc j v hj).2, fun j hj => by rw [h2]; omega⟩
  rw [h1, h2] at this
  exact this
theorem newVar_ok (hR : R σ A w) {v : AVal} (hraw : notRaw v = true) (ht : topOf v ≤ A.next) (t : TypeId) (P : Program) :
    VE P σ A w (do pure (.pointer (some (← newVar t (conc σ v))))) (.ptr A.next 0) (A.new (newCells (cellsOf v))) := by
  obtain ⟨h1, h2, h3, h4⟩ := newCells_ok (cs := cellsOf v)
  have hcells := cells_conc σ hraw
  obtain ⟨r1, r2⟩ := newRow_ok hR (blk := newCells (cellsOf v)) h1 (arr := (concL σ (cellsOf v)).toArray) (t := t) (cap := 0) (by rw [h3]; simp [concL_eq]) (fun _ => by rw [h3]; simp [concL_eq])
    (fun st hst => by rw [h2] at hst; cases hst) (fun j u hj => by
      have := h4 j u hj
      exact ⟨topOf_cells ht u (List.mem_of_getElem? this), by simp [concL_eq, this]⟩)
  refine ⟨_, _, ?_, r1, r2, Nat.le_refl _⟩
  simp only [newVar, newRow, Sem.run_bind, run_newObj, Result.andThen_ok, Sem.run_pure, hcells, conc]
  simp [Sg.put]
theorem zero_raw {t : TypeId} {z : AVal} (hz : zeroT E t = some z) : notRaw z = true := by
  unfold zeroT at hz
  split at hz <;> try cases hz
  split at hz <;> try cases hz
  rename_i v hv
  unfold ofConst at hz
  split at hz
  · cases hl : ofCells _ with
    | none => rw [hl] at hz; cases hz
    | some r => rw [hl] at hz; cases hz; rfl
  · cases hl : ofCells _ with
    | none => rw [hl] at hz; cases hz
    | some r => rw [hl] at hz; cases hz; rfl
  · unfold ofCell at hz; split at hz <;> cases hz <;> rfl

theorem makeSliceA_ok (hE : E.Ok) (hR : R σ A w) {t : TypeId} {l c v : AVal} {A' : AW} (h : makeSliceA E A t l c = some (v, A')) :
    VE E.P σ A w (Instr.makeSlice t (conc σ l) (conc σ c)) v A' := by
  unfold makeSliceA at h
  split at h <;> try cases h
  rename_i e kl l' kc c' hu
  split at h <;> try cases h
  rename_i ie z hi hz
  split at h <;> cases h
  rename_i hk
  obtain ⟨hk, hk4⟩ := and_true hk
  obtain ⟨hk, hk3⟩ := and_true hk
  obtain ⟨hk1, hk2⟩ := and_true hk
  rw [ble_iff] at hk1 hk2 hk3
  rw [beq_iff, lenN_eq] at hk4
  obtain ⟨_, hz2, i, zv, hi', hzv, hzc⟩ := zeroT_ok (σ := σ) (w := w) hE hz
  have : i = ie := by have := info_ok hE hi; rw [this] at hi'; exact (Option.some.inj hi').symm
  subst this
  have hraw := zero_raw hz
  have hcells := cells_conc σ hraw
  rw [hzc] at hcells
  have hrun := run_make (P := E.P) w t e i zv (und_ok hE hu) hi' hzv kl kc (Int.ofNat l') (Int.ofNat c') (Int.natCast_nonneg _) (by simpa using hk1)
    (by simp only [Int.ofNat_eq_natCast]; rw [← Int.natCast_mul, Nat.mul_comm]; omega) (by simp only [Int.ofNat_eq_natCast]; omega)
  have hp : 0 < (cellsOf z).length ∨ c' * i.size = 0 := by
    rcases Nat.eq_zero_or_pos (cellsOf z).length with h0 | h0
    · right; rw [← hk4, h0, Nat.mul_zero]
    · exact .inl h0
  obtain ⟨g1, g2, g3, g4⟩ := rowB_ok (pat := cellsOf z) (n := c' * i.size) hp
  have harr : (madeCells zv.cells ((Int.ofNat c').toNat * i.size)).size = c' * i.size := by rw [size_madeCells]; rfl
  obtain ⟨r1, r2⟩ := newRow_ok hR (blk := rowB (cellsOf z) (c' * i.size)) g1 (arr := madeCells zv.cells ((Int.ofNat c').toNat * i.size)) (t := e) (cap := 0)
    (by rw [g3, harr]; exact Nat.le_refl _) (fun _ => by rw [g3, harr]) (fun st hst => by rw [g2] at hst; cases hst) (fun j u hj => by
      obtain ⟨hj1, hj2⟩ := g4 j u hj
      refine ⟨topOf_cells (m := A.next) (by omega) u (List.mem_of_getElem? hj2), ?_⟩
      have hz1 : zv.cells[j % zv.cells.size]? = some (conc σ u) := by
        rw [hcells]; simp [concL_eq, hj2]
      have hz3 : zv.cells[j % zv.cells.size]! = conc σ u := by
        rw [getElem!_def, hz1]
      have : (Int.ofNat c').toNat * i.size = c' * i.size := rfl
      simp [madeCells, this, hj1, hz3])
  refine ⟨_, _, ?_, r1, r2, Nat.le_refl _⟩
  rw [show conc σ (.int false kl (Int.ofNat l')) = .int kl (Int.ofNat l') from rfl, show conc σ (.int false kc (Int.ofNat c')) = .int kc (Int.ofNat c') from rfl, hrun]
  simp [conc, ACap.val, Sg.put]
theorem buildSliceA_ok (hE : E.Ok) (hR : R σ A w) {t : TypeId} {len : Nat} {ps : List (Nat × AVal)} {v : AVal} {A' : AW} (h : buildSliceA E A t len ps = some (v, A')) (hps : ∀ p ∈ ps, topOf p.2 ≤ A.next)
    (parts : Array (Nat × Value)) (hparts : parts.toList = ps.map fun p => (p.1, conc σ p.2)) : VE E.P σ A w (Instr.buildSlice t len parts) v A' := by
  unfold buildSliceA at h
  split at h <;> try cases h
  rename_i e hu
  split at h <;> try cases h
  rename_i k z hk hz
  split at h <;> try cases h
  rename_i hle
  rw [ble_iff] at hle
  split at h <;> try cases h
  rename_i cs hf
  split at h <;> cases h
  rename_i hc
  obtain ⟨hc1, hc2⟩ := and_true hc
  rw [beq_iff, lenN_eq] at hc1 hc2
  obtain ⟨ie, hie, hies⟩ := szT_ok hE hk
  obtain ⟨hz1, hz2, i, zv, hi', hzv, hzc⟩ := zeroT_ok (σ := σ) (w := w) hE hz
  have hraw := zero_raw hz
  have hcells := cells_conc σ hraw
  rw [hzc] at hcells hz1
  have hcs0 : ∀ u ∈ rowL (cellsOf z) (len * k) 0, topOf u ≤ A.next := by
    intro u hu'
    obtain ⟨j, hj⟩ := List.getElem?_of_mem hu'
    rcases Nat.eq_zero_or_pos (cellsOf z).length with h0 | h0
    · have : len * k = 0 := by rw [← hc2, h0, Nat.mul_zero]
      rw [this, rowL_zero] at hj; cases hj
    · have := (rowL_ok h0 _ 0).2 j u hj
      exact topOf_cells (m := A.next) (by omega) u (List.mem_of_getElem? this)
  obtain ⟨f1, f2, f3⟩ := fillA_ok (m := A.next) σ (pc := fun i => some (i * k, k)) (fun i x hx => hx) hf hcs0 hps
  have hzeros : ∀ zc : Array Value, (zc = #[] ∧ len * k = 0 ∨ zc = zv.cells ∧ len * k ≠ 0) → (Array.range (len * k)).map (fun x => zc[x % zc.size]!) = (concL σ (rowL (cellsOf z) (len * k) 0)).toArray := by
    intro zc hzc'
    rcases hzc' with ⟨_, h0⟩ | ⟨rfl, h0⟩
    · rw [h0, rowL_zero]; simp [concL]
    · have hp : 0 < (cellsOf z).length := by
        rcases Nat.eq_zero_or_pos (cellsOf z).length with h1 | h1
        · exfalso; apply h0; rw [← hc2, h1, Nat.mul_zero]
        · exact h1
      obtain ⟨g1, g2⟩ := rowL_ok hp (len * k) 0
      apply Array.ext_getElem?
      intro j
      by_cases hj : j < len * k
      · have hj' : j < (rowL (cellsOf z) (len * k) 0).length := by omega
        have := g2 j _ (List.getElem?_eq_getElem hj')
        simp only [Nat.zero_add] at this
        have hz3 : zv.cells[j % zv.cells.size]! = conc σ (rowL (cellsOf z) (len * k) 0)[j] := by
          have : zv.cells[j % zv.cells.size]? = some (conc σ (rowL (cellsOf z) (len * k) 0)[j]) := by rw [hcells]; simp [concL_eq, this]
          rw [getElem!_def, this]
        simp [hj, hz3, concL_eq, List.getElem?_eq_getElem hj']
      · have e1 : ((Array.range (len * k)).map (fun x => zv.cells[x % zv.cells.size]!))[j]? = none := by apply Array.getElem?_eq_none; simp; omega
        have e2 : (concL σ (rowL (cellsOf z) (len * k) 0)).toArray[j]? = none := by apply Array.getElem?_eq_none; simp [concL_eq, g1]; omega
        rw [e1, e2]
  obtain ⟨h1, h2, h3, h4⟩ := newCells_ok (cs := cs)
  obtain ⟨r1, r2⟩ := newRow_ok hR (blk := newCells cs) h1 (arr := (concL σ cs).toArray) (t := e) (cap := 0) (by rw [h3]; simp [concL_eq]) (fun _ => by rw [h3]; simp [concL_eq])
    (fun st hst => by rw [h2] at hst; cases hst) (fun j u hj => by
      have := h4 j u hj
      exact ⟨f2 u (List.mem_of_getElem? this), by simp [concL_eq, this]⟩)
  refine ⟨_, _, ?_, r1, r2, Nat.le_refl _⟩
  have hbig : ¬ (len * k > 2 ^ 24) := by omega
  have hfill : ∀ zc : Array Value, (zc = #[] ∧ len * k = 0 ∨ zc = zv.cells ∧ len * k ≠ 0) →
      Instr.fill (fun i => some (i * k, k)) ((Array.range (len * k)).map (fun x => zc[x % zc.size]!)) parts.toList = some (concL σ cs).toArray := by
    intro zc hzc'; rw [hzeros zc hzc', hparts]; exact f1
  simp only [Instr.buildSlice, Sem.run_bind, run_underlying (und_ok hE hu), Result.andThen_ok, run_sizeT hE hk, Sem.run_ite, hbig, if_false, Sem.run_pure]
  by_cases h0 : len * k = 0
  · have := hfill #[] (.inl ⟨rfl, h0⟩)
    simp only [h0, if_true, Result.andThen_ok]
    rw [h0] at this
    simp only [this, newRow, Sem.run_bind, run_newObj, Result.andThen_ok, Sem.run_pure, conc, ACap.val]
    simp [Sg.put]
  · have := hfill zv.cells (.inr ⟨rfl, h0⟩)
    simp only [h0, if_false, hz1, Result.andThen_ok]
    simp only [this, newRow, Sem.run_bind, run_newObj, Result.andThen_ok, Sem.run_pure, conc, ACap.val]
    simp [Sg.put]
end
end Go.Ev

/- Effects: maps, append, copy. -/
set_option linter.unusedSimpArgs false
set_option linter.unusedVariables false
namespace Go.Ev
variable [Rho]

theorem samePlain_ok (σ : Sg) {a b : AVal} (h : samePlain a b = true) (n : Nat) : Instr.sameBits n (conc σ a) (conc σ b) = true := by
  unfold samePlain at h
  split at h
  · cases n <;> simpa [Instr.sameBits, conc] using h
  · obtain ⟨h1, h2⟩ := and_true h
    rw [kindEq_eq] at h1; subst h1
    rw [ieq_eq] at h2
    cases n <;> simpa [Instr.sameBits, conc] using h2
  · cases n <;> simpa [Instr.sameBits, conc] using h
  · cases h
theorem samePlains_ok (σ : Sg) : ∀ {a b : List AVal}, samePlains a b = true → (concL σ a).length = (concL σ b).length ∧ ∀ n, ((concL σ a).zip (concL σ b)).all (fun (x, y) => Instr.sameBits n x y) = true
  | [], [], _ => ⟨rfl, fun _ => rfl⟩
  | a :: l, b :: r, h => by
    simp only [samePlains] at h
    obtain ⟨h1, h2⟩ := and_true h
    obtain ⟨h3, h4⟩ := samePlains_ok σ h2
    refine ⟨by simp [concL, h3], fun n => ?_⟩
    have e := samePlain_ok σ h1 n
    simp only [concL, List.zip_cons_cons, List.all_cons, h4 n, Bool.and_true]
    exact e
  | [], _ :: _, h => by cases h
  | _ :: _, [], h => by cases h
theorem sameA_ok (σ : Sg) {a b : AVal} (h : sameA a b = true) : Instr.sameBits 10000 (conc σ a) (conc σ b) = true := by
  unfold sameA at h
  split at h
  · rename_i x y
    obtain ⟨h1, h2⟩ := samePlains_ok σ h
    have h3 := h2 9999
    show Instr.sameBits (9999 + 1) (.agg (concL σ x).toArray) (.agg (concL σ y).toArray) = true
    unfold Instr.sameBits
    simp only [List.size_toArray, h1, beq_self_eq_true, Bool.true_and]
    exact h3
  · exact samePlain_ok σ h _

section
variable {E : Env} {σ : Sg} {A : AW} {w : World}
theorem setEnt_cons (e : AVal × AVal × Nat) (es : List (AVal × AVal × Nat)) (i : Nat) (k v : AVal) : setEnt (e :: es) i k v = match i with | 0 => (k, v, e.2.2) :: es | m + 1 => e :: setEnt es m k v := by
  cases i <;> rfl
theorem setEnt_map : ∀ (es : List (AVal × AVal × Nat)) (i : Nat) (k v : AVal), (setEnt es i k v).map (concE σ) = (es.map (concE σ)).modify i (fun e => { e with key := conc σ k, val := conc σ v })
  | [], i, k, v => by cases i <;> simp [setEnt]
  | e :: es, i, k, v => by
    rw [setEnt_cons]
    cases i with
    | zero => simp [concE]
    | succ i => simp [setEnt_map es i k v]
theorem setEnt_mem : ∀ {es : List (AVal × AVal × Nat)} {i : Nat} {k v : AVal} {x : AVal × AVal × Nat}, x ∈ setEnt es i k v → x ∈ es ∨ (x.1 = k ∧ x.2.1 = v)
  | [], i, k, v, x, h => by simp [setEnt] at h
  | e :: es, i, k, v, x, h => by
    rw [setEnt_cons] at h
    cases i with
    | zero =>
      rcases List.mem_cons.1 h with rfl | h
      · exact .inr ⟨rfl, rfl⟩
      · exact .inl (List.mem_cons_of_mem _ h)
    | succ i =>
      rcases List.mem_cons.1 h with rfl | h
      · exact .inl List.mem_cons_self
      · rcases setEnt_mem h with h | h
        · exact .inl (List.mem_cons_of_mem _ h)
        · exact .inr h
theorem delEnt_cons (e : AVal × AVal × Nat) (es : List (AVal × AVal × Nat)) (i : Nat) : delEnt (e :: es) i = match i with | 0 => es | m + 1 => e :: delEnt es m := by
  cases i <;> rfl
theorem delEnt_map : ∀ (es : List (AVal × AVal × Nat)) (i : Nat), (delEnt es i).map (concE σ) = (es.map (concE σ)).eraseIdx i
  | [], i => by simp [delEnt]
  | e :: es, i => by
    rw [delEnt_cons]
    cases i with
    | zero => simp
    | succ i => simp [delEnt_map es i]
theorem delEnt_mem : ∀ {es : List (AVal × AVal × Nat)} {i : Nat} {x : AVal × AVal × Nat}, x ∈ delEnt es i → x ∈ es
  | [], i, x, h => by simp [delEnt] at h
  | e :: es, i, x, h => by
    rw [delEnt_cons] at h
    cases i with
    | zero => exact List.mem_cons_of_mem _ h
    | succ i =>
      rcases List.mem_cons.1 h with rfl | h
      · exact List.mem_cons_self
      · exact List.mem_cons_of_mem _ (delEnt_mem h)
theorem run_setObj_map (P : Program) {r : Nat} {es : Array MapEntry} {c : Nat} (o : Obj) (h : w.heap[r]? = some (.map es c)) : (setObj r o).run P w = .ok () { w with heap := w.heap.setIfInBounds r o } := by
  simp [setObj, Sem.run, h]
theorem setMap_ok (hR : R σ A w) {b : Nat} {es es' : List (AVal × AVal × Nat)} {c c' esc : Nat} (hb : lookB A.blks b = some (.map es c)) (hs : ∀ e ∈ es', topOf e.1 ≤ A.next ∧ topOf e.2.1 ≤ A.next) :
    R σ ⟨A.next, esc, setB A.blks b (.map es' c')⟩ { w with heap := w.heap.setIfInBounds (σ.blk b) (.map (es'.map (concE σ)).toArray c') } ∧
      Step σ A w σ ⟨A.next, esc, setB A.blks b (.map es' c')⟩ { w with heap := w.heap.setIfInBounds (σ.blk b) (.map (es'.map (concE σ)).toArray c') } := by
  have hlt : σ.blk b < w.heap.size := by
    rcases Nat.lt_or_ge (σ.blk b) w.heap.size with h' | h'
    · exact h'
    · have := map_of hR hb; rw [Array.getElem?_eq_none h'] at this; cases this
  refine set_ok hR hb esc hs rfl (by simp [hlt]) (fun c hc => ?_) (by simp) rfl rfl
  simp [Array.getElem?_setIfInBounds, fun e => hc (Eq.symm e)]
  intro e; exact absurd e.symm hc
theorem mapSetA_ok (hE : E.Ok) (hR : R σ A w) {t : TypeId} {m k v : AVal} {A' : AW} (h : mapSetA E A t m k v = some A') (hk : topOf k ≤ A.next) (hv : topOf v ≤ A.next) :
    ∃ w', (Instr.mapUpdate t (conc σ m) (conc σ k) (conc σ v)).run E.P w = .ok () w' ∧ R σ A' w' ∧ Step σ A w σ A' w' ∧ A'.next = A.next := by
  unfold mapSetA at h
  split at h <;> try cases h
  rename_i kt et b hu
  split at h <;> try cases h
  rename_i es c hck hb
  obtain ⟨hk1, hk2⟩ := and_true hck
  obtain ⟨r, hr⟩ := Option.isSome_iff_exists.1 hk2
  have hmap := map_of hR hb
  obtain ⟨u, hku⟩ := plainKey_und hk1
  have hcheck := checkKey_ok (σ := σ) (w := w) hE false hk1 hr (show 64 ≤ 10000 by omega)
  have hold : ∀ e ∈ es, topOf e.1 ≤ A.next ∧ topOf e.2.1 ≤ A.next := hR.sc b _ hb
  split at h <;> try cases h
  · rename_i i old hf
    split at h <;> try cases h
    rename_i e he
    split at h <;> cases h
    rename_i hsame
    rw [nth_eq] at he
    have hrun := findKey_ok (σ := σ) (w := w) hE hku hf
    obtain ⟨g1, g2⟩ := setMap_ok hR (es' := setEnt es i k v) (c' := c) (esc := A.escape (topOf v) b) hb (fun x hx => by
      rcases setEnt_mem hx with hx | ⟨h1, h2⟩
      · exact hold x hx
      · rw [h1, h2]; exact ⟨hk, hv⟩)
    refine ⟨_, ?_, g1, g2, rfl⟩
    have hkey : ((((es.map (concE σ)).toArray[i]?).map (·.key)).getD (conc σ k)) = conc σ e.1 := by simp [he, concE]
    have hstay : (Instr.keyThatStays (conc σ e.1) (conc σ k)).run E.P w = .ok (conc σ k) w := by
      simp [Instr.keyThatStays, sameA_ok σ hsame]
    simp only [Instr.mapUpdate, Sem.run_bind, run_underlying (und_ok hE hu), Result.andThen_ok, conc, run_getObj_map E.P hmap, hcheck, hrun, Option.map_some, hkey, hstay]
    rw [run_setObj_map E.P _ hmap]
    have : (List.map (concE σ) es).toArray.modify i (fun e => { e with key := conc σ k, val := conc σ v }) = ((setEnt es i k v).map (concE σ)).toArray := by
      rw [setEnt_map]; simp
    rw [this]
  · rename_i hf
    have hrun := findKey_ok (σ := σ) (w := w) hE hku hf
    obtain ⟨g1, g2⟩ := setMap_ok hR (es' := es ++ [(k, v, c)]) (c' := c + 1) (esc := A.escape (topOf v) b) hb (fun x hx => by
      rcases List.mem_append.1 hx with hx | hx
      · exact hold x hx
      · simp at hx; subst hx; exact ⟨hk, hv⟩)
    refine ⟨_, ?_, g1, g2, rfl⟩
    simp only [Instr.mapUpdate, Sem.run_bind, run_underlying (und_ok hE hu), Result.andThen_ok, conc, run_getObj_map E.P hmap, hcheck, hrun, Option.map_none]
    rw [run_setObj_map E.P _ hmap]
    have : (List.map (concE σ) es).toArray.push { key := conc σ k, val := conc σ v, born := c } = ((es ++ [(k, v, c)]).map (concE σ)).toArray := by
      simp [concE]
    rw [this]
theorem mapDelA_ok (hE : E.Ok) (hR : R σ A w) {t : TypeId} {m k : AVal} {A' : AW} (h : mapDelA E A t m k = some A') {tys : Array TypeId} (ht : tys[0]? = some t) {ty : TypeId} :
    ∃ w', (Builtin.delete_ tys ty #[conc σ m, conc σ k]).run E.P w = .ok undef w' ∧ R σ A' w' ∧ Step σ A w σ A' w' ∧ A'.next = A.next := by
  unfold mapDelA at h
  split at h <;> try cases h
  rename_i kt et b hu
  split at h <;> try cases h
  rename_i es c hck hb
  obtain ⟨hk1, hk2⟩ := and_true hck
  obtain ⟨r, hr⟩ := Option.isSome_iff_exists.1 hk2
  have hmap := map_of hR hb
  obtain ⟨u, hku⟩ := plainKey_und hk1
  have hcheck := fun c => checkKey_ok (σ := σ) (w := w) hE c hk1 hr (show 64 ≤ 10000 by omega)
  have hold : ∀ e ∈ es, topOf e.1 ≤ A.next ∧ topOf e.2.1 ≤ A.next := hR.sc b _ hb
  split at h <;> cases h
  · rename_i i old hf
    have hrun := findKey_ok (σ := σ) (w := w) hE hku hf
    obtain ⟨g1, g2⟩ := setMap_ok hR (es' := delEnt es i) (c' := c) (esc := A.esc) hb (fun x hx => hold x (delEnt_mem hx))
    refine ⟨_, ?_, g1, g2, rfl⟩
    simp only [Builtin.delete_, ht, List.getElem?_toArray, List.getElem?_cons_zero, List.getElem?_cons_succ, Sem.run_bind, run_underlying (und_ok hE hu), Result.andThen_ok, conc, run_getObj_map E.P hmap, hcheck, hrun, Option.map_some]
    rw [run_setObj_map E.P _ hmap]
    have : (List.map (concE σ) es).toArray.eraseIdxIfInBounds i = ((delEnt es i).map (concE σ)).toArray := by
      rw [delEnt_map]; simp
    rw [this]; rfl
  · rename_i hf
    have hrun := findKey_ok (σ := σ) (w := w) hE hku hf
    refine ⟨w, ?_, hR, Step.refl _ _ _, rfl⟩
    simp only [Builtin.delete_, ht, List.getElem?_toArray, List.getElem?_cons_zero, List.getElem?_cons_succ, Sem.run_bind, run_underlying (und_ok hE hu), Result.andThen_ok, conc, run_getObj_map E.P hmap, hcheck, hrun, Option.map_none]
    rw [run_setObj_map E.P _ hmap]
    have : w.heap.setIfInBounds (σ.blk b) (.map (es.map (concE σ)).toArray c) = w.heap := by
      apply Array.ext_getElem?
      intro j
      rw [Array.getElem?_setIfInBounds]
      split
      · rename_i e; subst e
        split
        · exact hmap.symm
        · rename_i h'; rw [Array.getElem?_eq_none (by omega)]
      · rfl
    rw [this]; rfl
theorem makeMap_ok (hE : E.Ok) (hR : R σ A w) {t : TypeId} : VE E.P σ A w (Instr.makeMap t none) (.map A.next) (A.new (.map [] 0)) := by
  obtain ⟨r1, r2⟩ := new_ok (c := 0) (t := 0) (f := (0, 0)) hR (blk := .map [] 0) (o := .map #[] 0) (fun e he => by cases he) rfl
  refine ⟨_, _, ?_, r1, r2, Nat.le_refl _⟩
  simp only [Instr.makeMap, Sem.run_bind, Sem.run_pure, Result.andThen_ok, run_newObj, conc]
  simp [Sg.put]

/-! Sources of cells. -/
theorem str_cells (σ : Sg) (s : ByteArray) (m : Nat) : (s.extract 0 m).data.map (fun b => Value.int .u8 (b.toNat : Int)) = (concL σ ((s.data.toList.map fun c => AVal.int false .u8 (c.toNat : Int)).take m)).toArray := by
  apply Array.ext'
  rw [ByteArray.data_extract]
  simp [concL_eq, List.map_take, conc, Function.comp_def]
theorem srcCells_ok (hE : E.Ok) (hR : R σ A w) {st : Nat} {x : AVal} {n : Nat} {l : List AVal} (h : srcCells A st x = some (n, l)) (P : Program) :
    (Builtin.lenOf (conc σ x)).run P w = .ok n w ∧ (∀ m, m ≤ n → (Builtin.firstCells st m (conc σ x)).run P w = .ok (concL σ (l.take (m * st))).toArray w) ∧ (∀ v ∈ l, topOf v ≤ A.next) ∧ l.length = n * st := by
  unfold srcCells at h
  split at h <;> try cases h
  · refine ⟨rfl, fun m hm => ?_, by simp, by simp⟩
    simp [Builtin.firstCells, conc, concL]
  · rename_i b off len cap
    split at h <;> try cases h
    rename_i blk hb
    split at h <;> cases h
    rename_i hl
    obtain ⟨h1, h2⟩ := lookCells_ok hl
    obtain ⟨_, h4⟩ := loadCells_ok hR hb hl P
    refine ⟨rfl, fun m hm => ?_, h4, h1⟩
    have := run_loadCells_list (P := P) w ⟨σ.blk b, off, none⟩ (concL σ (l.take (m * st))) (fun j v hv => by
      rw [concL_eq, List.getElem?_map] at hv
      cases hj : (l.take (m * st))[j]? with
      | none => simp [hj] at hv
      | some u =>
        simp [hj] at hv; subst hv
        rw [add_none _ rfl]
        have hj' : l[j]? = some u := by
          rw [List.getElem?_take] at hj
          split at hj
          · exact hj
          · cases hj
        exact (cell_ok hR hb (h2 j u hj')).1)
    have hlen : (concL σ (l.take (m * st))).length = m * st := by
      simp only [concL_eq, List.length_map, List.length_take, h1]
      exact Nat.min_eq_left (Nat.mul_le_mul_right _ hm)
    rw [hlen] at this
    simp only [Builtin.firstCells, conc]
    exact this
  · rename_i s
    split at h <;> cases h
    rename_i hst
    rw [beq_iff] at hst; subst hst
    refine ⟨rfl, fun m hm => ?_, fun v hv => ?_, by rw [List.length_map, Nat.mul_one]; rfl⟩
    · simp only [Builtin.firstCells, conc, Sem.run_pure, Nat.mul_one]
      rw [str_cells σ]
    · obtain ⟨c, _, rfl⟩ := List.mem_map.1 hv
      exact Nat.zero_le _

theorem copyA_ok (hE : E.Ok) (hR : R σ A w) {t : TypeId} {d s v : AVal} {A' : AW} (h : copyA E A t d s = some (v, A')) {tys : Array TypeId} (ht : tys[0]? = some t) {ty : TypeId} :
    VE E.P σ A w (Builtin.copy_ tys ty #[conc σ d, conc σ s]) v A' := by
  unfold copyA at h
  split at h <;> try cases h
  rename_i e hu
  split at h <;> try cases h
  rename_i st hst
  split at h <;> try cases h
  rename_i n cs hs
  obtain ⟨h1, h2, h3, h4⟩ := srcCells_ok hE hR hs E.P
  split at h <;> try cases h
  · refine ⟨σ, w, ?_, hR, Step.refl _ _ _, Nat.zero_le _⟩
    have h0 := h2 0 (Nat.zero_le _)
    simp only [Nat.zero_mul, List.take_zero, concL] at h0
    have e1 : Nat.min n 0 = 0 := Nat.min_zero _
    simp only [Builtin.copy_, ht, List.getElem?_toArray, List.getElem?_cons_zero, List.getElem?_cons_succ, Sem.run_bind, run_underlying (und_ok hE hu), Result.andThen_ok, h1, run_sizeT hE hst, conc, e1, h0, Sem.run_pure, goInt]
    rfl
  · rename_i b off len cap
    split at h <;> cases h
    rename_i hA
    have hmin : Nat.min n len ≤ n := Nat.min_le_left _ _
    obtain ⟨w', g1, g2, g3, g4⟩ := storeCellsA_ok hR hA (fun u hu => by rw [takeN_eq] at hu; exact h3 u (List.mem_of_mem_take hu)) E.P
    refine ⟨σ, w', ?_, g2, g3, Nat.zero_le _⟩
    rw [takeN_eq] at g1
    simp only [Builtin.copy_, ht, List.getElem?_toArray, List.getElem?_cons_zero, List.getElem?_cons_succ, Sem.run_bind, run_underlying (und_ok hE hu), Result.andThen_ok, run_sizeT hE hst, conc, h1, h2 _ hmin, g1, Sem.run_pure, goInt]
end
end Go.Ev

/- Effects: append. -/
set_option linter.unusedSimpArgs false
set_option linter.unusedVariables false
namespace Go.Ev
variable [Rho]

section
variable {P : Program} {w : World}
theorem run_append_room' {t tx ty e : TypeId} {i : TypeInfo} {ux : TypeDesc} (ht : P.underlying t = some (.slice e)) (hi : P.info? e = some i) (htx : P.underlying tx = some ux) (hux : ∀ k, ux ≠ .int k)
    (base : Option Addr) (sLen sCap n : Nat) (x : Value) (new : Array Value) (hlen : (Builtin.lenOf x).run P w = .ok n w) (hf : (Builtin.firstCells i.size n x).run P w = .ok new w) (hroom : sLen + n ≤ sCap) :
    (Builtin.append_ #[t, tx] ty #[.slice base sLen sCap, x]).run P w =
      ((match base with | some a => storeCells (a.add (sLen * i.size)) new.toList | none => pure () : Sem Unit).run P w).andThen fun _ w' => .ok (.slice base (sLen + n) sCap) w' := by
  have hm : (match ux with | .int _ => true | _ => false) = false := by
    cases ux <;> first | rfl | exact absurd rfl (hux _)
  cases base <;> simp [Builtin.append_, run_underlying ht, run_underlying htx, sizeOf, typeInfo, hi, hlen, hm, hroom, hf]
theorem run_append_grow' {t tx ty e : TypeId} {i : TypeInfo} {z : Value} {ux : TypeDesc} (ht : P.underlying t = some (.slice e)) (hi : P.info? e = some i) (hz : i.zero = some z) (htx : P.underlying tx = some ux) (hux : ∀ k, ux ≠ .int k)
    (base : Option Addr) (sLen sCap n : Nat) (x : Value) (old new : Array Value) (hlen : (Builtin.lenOf x).run P w = .ok n w) (hf : (Builtin.firstCells i.size n x).run P w.drew = .ok new w.drew)
    (ho : (Builtin.firstCells i.size sLen (.slice base sLen sCap)).run P w.drew = .ok old w.drew)
    (hg : sCap < sLen + n) (h63 : ((sLen + n : Nat) : Int) ≤ 9223372036854775807) (hfit : Builtin.nextslicecap (sLen + n) sCap * i.bytes ≤ 281474976710656) :
    (Builtin.append_ #[t, tx] ty #[.slice base sLen sCap, x]).run P w =
      .ok (.slice (some ⟨w.heap.size, 0, none⟩) (sLen + n) (grownCap w (sLen + n) sCap e))
        (w.drew.alloc (.cells (old ++ new ++ Builtin.zeroCells z.cells (grownCap w (sLen + n) sCap e - (sLen + n))) e)) := by
  have hm : (match ux with | .int _ => true | _ => false) = false := by
    cases ux <;> first | rfl | exact absurd rfl (hux _)
  have hn : ¬ (sLen + n ≤ sCap) := by omega
  have h63' : ¬ (9223372036854775807 < ((sLen : Int) + (n : Int))) := by omega
  have h48' : ¬ (281474976710656 < Builtin.nextslicecap (sLen + n) sCap * i.bytes) := by omega
  simp [Builtin.append_, run_underlying ht, run_underlying htx, sizeOf, typeInfo, zeroValue, hi, hz, hlen, hm, hn, h63', h48', Question.forced, hf, ho, newRow, grownCap]
end

section
variable {E : Env} {σ : Sg} {A : AW} {w : World}
/-- Blocks forgotten. -/
theorem R.less (hR : R σ A w) {l : List (Nat × ABlk)} {esc : Nat} (ho : Once l) (hl : ∀ i x, lookB l i = some x → lookB A.blks i = some x) : R σ ⟨A.next, esc, l⟩ w :=
  ⟨ho, fun i x h => hR.lt i x (hl i x h), fun i x h => hR.sc i x (hl i x h), fun i x h => hR.rel i x (hl i x h), fun i j x y h h' => hR.inj i j x y (hl i x h) (hl j y h')⟩
theorem Step.less {l : List (Nat × ABlk)} {esc : Nat} (hl : ∀ i x, lookB l i = some x → lookB A.blks i = some x) : Step σ A w σ ⟨A.next, esc, l⟩ w :=
  ⟨Nat.le_refl _, Sg.Agree.refl _ _, Nat.le_refl _, fun _ _ _ => rfl, fun i x h => .inl ⟨i, x, hl i x h, rfl⟩, rfl, rfl⟩
theorem look_drop (hR : R σ A w) (b : Nat) : ∀ i x, lookB (dropB A.blks b) i = some x → lookB A.blks i = some x := fun i x h => by
  rw [lookB_dropB hR.once] at h
  split at h
  · cases h
  · exact h
/-- A block turned, under a new number. -/
theorem move_ok (hR : R σ A w) {b : Nat} {blk blk' : ABlk} (hb : lookB A.blks b = some blk) {o : Obj} {w' : World} (esc : Nat) (hs : blk'.Scoped (A.next + 1))
    (hbr : BR (σ.put A.next (σ.blk b) (σ.cap b) (σ.ty b) (σ.fr b)) A.next blk' o) (ho : w'.heap[σ.blk b]? = some o) (hoth : ∀ c, c ≠ σ.blk b → w'.heap[c]? = w.heap[c]?) (hsz : w'.heap.size = w.heap.size) (hos : w'.os = w.os) (hout : w'.output = w.output) :
    R (σ.put A.next (σ.blk b) (σ.cap b) (σ.ty b) (σ.fr b)) (AW.new ⟨A.next, esc, dropB A.blks b⟩ blk') w' ∧
      Step σ A w (σ.put A.next (σ.blk b) (σ.cap b) (σ.ty b) (σ.fr b)) (AW.new ⟨A.next, esc, dropB A.blks b⟩ blk') w' := by
  have hag := σ.put_agree A.next (σ.blk b) (σ.cap b) (σ.ty b) (σ.fr b)
  have hnew : (σ.put A.next (σ.blk b) (σ.cap b) (σ.ty b) (σ.fr b)).blk A.next = σ.blk b := by simp [Sg.put]
  have hlook : ∀ i x, lookB ((A.next, blk') :: dropB A.blks b) i = some x → (i = A.next ∧ x = blk') ∨ (i < A.next ∧ i ≠ b ∧ lookB A.blks i = some x) := by
    intro i x h
    rw [lookB_cons] at h
    split at h
    · rename_i e; exact .inl ⟨e.symm, (Option.some.inj h).symm⟩
    · rw [lookB_dropB hR.once] at h
      split at h
      · cases h
      · rename_i e; exact .inr ⟨hR.lt i x h, fun e' => e e'.symm, h⟩
  constructor
  · refine ⟨?_, ?_, ?_, ?_, ?_⟩
    · show Once ((A.next, blk') :: dropB A.blks b)
      refine List.nodup_cons.2 ⟨fun h => ?_, hR.once.dropB b⟩
      obtain ⟨p, hp, he⟩ := List.mem_map.1 h
      have := hR.lt p.1 p.2 (lookB_of_mem hR.once ((dropB_sub _ _).subset hp))
      simp only at he; omega
    · intro i x h
      rcases hlook i x h with ⟨rfl, _⟩ | ⟨hi, _⟩
      · exact Nat.lt_succ_self _
      · exact Nat.lt_succ_of_lt hi
    · intro i x h
      rcases hlook i x h with ⟨rfl, rfl⟩ | ⟨_, _, h'⟩
      · exact hs
      · exact scoped_mono (hR.sc i x h') (Nat.le_succ _)
    · intro i x h
      rcases hlook i x h with ⟨rfl, rfl⟩ | ⟨hi, hne, h'⟩
      · exact ⟨o, by rw [hnew]; exact ho, hbr⟩
      · obtain ⟨o', ho', hbr'⟩ := hR.rel i x h'
        refine ⟨o', ?_, BR_congr hag (hR.sc i x h') hi hbr'⟩
        rw [(hag i hi).1, hoth _ (fun e => hne (hR.inj i b x blk h' hb e))]; exact ho'
    · intro i j x y h h' e
      rcases hlook i x h with ⟨rfl, _⟩ | ⟨hi, hni, h1⟩
      · rcases hlook j y h' with ⟨rfl, _⟩ | ⟨hj, hnj, h2⟩
        · rfl
        · rw [hnew, (hag j hj).1] at e
          exact absurd (hR.inj b j blk y hb h2 e).symm hnj
      · rcases hlook j y h' with ⟨rfl, _⟩ | ⟨hj, hnj, h2⟩
        · rw [hnew, (hag i hi).1] at e
          exact absurd (hR.inj i b x blk h1 hb e) hni
        · rw [(hag i hi).1, (hag j hj).1] at e
          exact hR.inj i j x y h1 h2 e
  · refine ⟨Nat.le_succ _, hag, by omega, ?_, ?_, hos, hout⟩
    · intro c _ hc
      exact hoth c fun e => hc b blk hb e.symm
    · intro i x h
      rcases hlook i x h with ⟨rfl, _⟩ | ⟨hi, _, h'⟩
      · exact .inl ⟨b, blk, hb, hnew.symm⟩
      · exact .inl ⟨i, x, h', ((hag i hi).1).symm⟩

/-- A row grown behind the heap. -/
theorem growRow_ok (hR : R σ A w) {cs : List AVal} (hcs : ∀ v ∈ cs, topOf v ≤ A.next) {size need cap : Nat} (e : TypeId) {z : Value} (hz : z.cells.size = size) (hl : cs.length = need * size) (hc : need ≤ cap)
    {arr : Array Value} (ha : arr = (concL σ cs).toArray ++ Builtin.zeroCells z.cells (cap - need)) :
    R (σ.put A.next w.heap.size cap e (0, 0)) (A.new (.cells (some size) cs)) { w with heap := w.heap.push (.cells arr e) } ∧
      Step σ A w (σ.put A.next w.heap.size cap e (0, 0)) (A.new (.cells (some size) cs)) { w with heap := w.heap.push (.cells arr e) } := by
  subst ha
  refine newRow_ok hR (blk := .cells (some size) cs) rfl (cap := cap) ?_ (fun h => by cases h) (fun st hst => ?_) (fun j v hj => ?_)
  · simp [sizeB, lenN_eq, concL_eq]
  · cases hst
    simp only [Array.size_append, List.size_toArray, concL_eq, List.length_map, size_zeroCells, hz, hl, ← Nat.add_mul]
    congr 1; omega
  · simp only [lookCell, nth_eq] at hj
    refine ⟨hcs v (List.mem_of_getElem? hj), ?_⟩
    have hlt : j < cs.length := by
      rcases Nat.lt_or_ge j cs.length with h' | h'
      · exact h'
      · rw [List.getElem?_eq_none h'] at hj; cases hj
    rw [Array.getElem?_append_left (by simpa [concL_eq] using hlt)]
    simp [concL_eq, hj]

theorem growOk_ok {k bytes : Nat} {new old : List AVal} (h : growOk k bytes new old = true) : k * bytes ≤ 1099511627776 ∧ k ≤ 1099511627776 ∧ (∀ v ∈ new, isCell v = true) ∧ ∀ v ∈ old, isCell v = true := by
  unfold growOk at h
  obtain ⟨h, h4⟩ := and_true h
  obtain ⟨h, h3⟩ := and_true h
  obtain ⟨h1, h2⟩ := and_true h
  rw [ble_iff] at h1 h2
  rw [allL_eq] at h3 h4
  exact ⟨h1, h2, List.all_eq_true.1 h3, List.all_eq_true.1 h4⟩

theorem drewR (hR : R σ A w) : R σ A w.drew := hR.drawn _

theorem appendA_ok (hE : E.Ok) (hR : R σ A w) {t tx : TypeId} {s x v : AVal} {A' : AW} (h : appendA E A t tx s x = some (v, A')) (hs : topOf s ≤ A.next) {ty : TypeId} :
    VE E.P σ A w (Builtin.append_ #[t, tx] ty #[conc σ s, conc σ x]) v A' := by
  unfold appendA at h
  split at h <;> try cases h
  rename_i e ux hu hux
  have hux' : ∀ k, ux ≠ .int k := by intro k e'; subst e'; simp at h
  split at h <;> try cases h
  rename_i ie _ hie
  split at h <;> try cases h
  rename_i n new hsrc hz0
  unfold zeroFits at hz0
  split at hz0 <;> try cases hz0
  rename_i z hz
  obtain ⟨_, _, i, zv, hi', hzv, hzc⟩ := zeroT_ok (σ := σ) (w := w) hE hz
  have hi := info_ok hE hie
  have : i = ie := by rw [hi] at hi'; exact (Option.some.inj hi').symm
  subst this
  obtain ⟨s1, s2, s3, s4⟩ := srcCells_ok hE hR hsrc E.P
  obtain ⟨_, d2, _, _⟩ := srcCells_ok hE (drewR hR) hsrc E.P
  have f1 := s2 n (Nat.le_refl _)
  have f2 := d2 n (Nat.le_refl _)
  rw [← s4, List.take_length] at f1 f2
  have hraw := zero_raw hz
  have ht := und_ok hE hu
  have htx := und_ok hE hux
  have hzs : zv.cells.size = i.size := by
    rw [beq_iff, lenN_eq] at hz0
    rw [← hzc, cells_conc σ hraw]; simpa [concL_eq] using hz0
  -- a new row
  have grow : ∀ (base : Option Addr) (sLen sCap : Nat) (old : List AVal) (B : AW), B.next = A.next → R σ B w → Step σ A w σ B w →
      (Builtin.firstCells i.size sLen (.slice base sLen sCap)).run E.P w.drew = .ok (concL σ old).toArray w.drew → sCap < sLen + n → old.length = sLen * i.size →
      (∀ u ∈ old, topOf u ≤ A.next) → (sLen + n) * i.bytes ≤ 1099511627776 → sLen + n ≤ 1099511627776 →
      VE E.P σ A w (Builtin.append_ #[t, tx] ty #[.slice base sLen sCap, conc σ x]) (.slice A.next 0 (sLen + n) (.ext 0)) (B.new (.cells (some i.size) (old ++ new))) := by
    intro base sLen sCap old B hBn hRB hst ho hg hlo hto hb hk
    have hr := run_append_grow' (P := E.P) (w := w) (ty := ty) ht hi hzv htx hux' base sLen sCap n (conc σ x) _ _ s1 f2 ho hg (by omega) (growslice_fits hg (by omega))
    obtain ⟨g1, g2⟩ := growRow_ok (w := w.drew) (hRB.drawn _) (cs := old ++ new) (fun u hu => by
      rw [hBn]
      rcases List.mem_append.1 hu with hu | hu
      · exact hto u hu
      · exact s3 u hu) (need := sLen + n) (cap := grownCap w (sLen + n) sCap e) e hzs (by rw [List.length_append, hlo, s4, Nat.add_mul]) (grownCap_ge w _ _ _)
      (arr := (concL σ old).toArray ++ (concL σ new).toArray ++ Builtin.zeroCells zv.cells (grownCap w (sLen + n) sCap e - (sLen + n))) (by simp [concL_eq])
    refine ⟨_, _, ?_, g1, hst.trans g2.drawn, ?_⟩
    · rw [hr]; simp [conc, ACap.val, Sg.put, hBn, World.alloc]
    · show A.next + 1 ≤ B.next + 1
      omega
  unfold appTo at h
  split at h <;> try cases h
  · -- nil
    split at h
    · rename_i hn
      rw [beq_iff] at hn; subst hn
      cases h
      refine ⟨σ, w, ?_, hR, Step.refl _ _ _, Nat.zero_le _⟩
      have := run_append_room' (P := E.P) (w := w) (ty := ty) ht hi htx hux' none 0 0 0 (conc σ x) _ s1 f1 (Nat.le_refl _)
      simpa [conc] using this
    · rename_i hn
      rw [beq_false_iff] at hn
      split at h <;> cases h
      rename_i hgr
      obtain ⟨k1, k2, _, _⟩ := growOk_ok hgr
      have := grow none 0 0 [] A rfl hR (Step.refl _ _ _) (by simp [Builtin.firstCells, concL]) (by omega) (by simp) (by simp) (by rw [Nat.zero_add]; exact k1) (by omega)
      simpa [conc] using this
  · rename_i b off len cap
    split at h <;> try cases h
    rename_i blk hb
    split at h <;> try cases h
    rename_i old hold
    obtain ⟨o1, o2⟩ := lookCells_ok hold
    obtain ⟨o3, o4⟩ := loadCells_ok (drewR hR) hb hold E.P
    split at h
    · rename_i c
      unfold appExact at h
      split at h
      · rename_i hroom
        rw [ble_iff] at hroom
        split at h <;> cases h
        rename_i hst
        obtain ⟨w', g1, g2, g3, g4⟩ := storeCellsA_ok hR hst s3 E.P
        refine ⟨σ, w', ?_, g2, g3, by rw [g4]; exact hs⟩
        have := run_append_room' (P := E.P) (w := w) (ty := ty) ht hi htx hux' (some ⟨σ.blk b, off, none⟩) len c n (conc σ x) _ s1 f1 hroom
        simp only [] at this
        rw [add_none ⟨σ.blk b, off, none⟩ rfl] at this
        rw [g1] at this
        simpa [conc, ACap.val] using this
      · rename_i hroom
        have hroom : c < len + n := by
          rcases Nat.lt_or_ge c (len + n) with h' | h'
          · exact h'
          · exfalso; have := (ble_iff (len + n) c).2 h'; rw [this] at hroom; cases hroom
        split at h <;> cases h
        rename_i hgr
        obtain ⟨k1, k2, _, _⟩ := growOk_ok hgr
        exact grow (some ⟨σ.blk b, off, none⟩) len c old A rfl hR (Step.refl _ _ _) (by simpa [Builtin.firstCells] using o3) hroom o1 o4 k1 k2
    · rename_i sub
      unfold appExt at h
      split at h <;> try cases h
      rename_i st cs
      obtain ⟨arr, ho, hrow⟩ := row_of hR hb rfl
      have hcap := hrow.ext st rfl
      have hlen : cs.length ≤ arr.size := by have := hrow.size; simpa [sizeB, lenN_eq] using this
      split at h
      · rename_i hn
        rw [beq_iff] at hn; subst hn
        split at h <;> cases h
        rename_i hc
        obtain ⟨hc, hc4⟩ := and_true hc
        obtain ⟨hc, hc3⟩ := and_true hc
        obtain ⟨hc1, hc2⟩ := and_true hc
        rw [beq_iff] at hc1 hc2
        rw [ble_iff, lenN_eq] at hc3
        rw [blt_iff] at hc4
        refine ⟨σ, w, ?_, hR, Step.refl _ _ _, hs⟩
        have hle : (sub + len) * st ≤ σ.cap b * st := by rw [Nat.add_mul, ← hc2, ← hcap]; omega
        have hle' := Nat.le_of_mul_le_mul_right hle hc4
        have := run_append_room' (P := E.P) (w := w) (ty := ty) ht hi htx hux' (some ⟨σ.blk b, off, none⟩) len (σ.cap b - sub) 0 (conc σ x) _ s1 f1 (by omega)
        have hnew : new = [] := List.eq_nil_of_length_eq_zero (by simpa using s4)
        subst hnew
        simpa [conc, ACap.val, concL, storeCells] using this
      · split at h <;> cases h
        rename_i hc
        obtain ⟨hc, hc5⟩ := and_true hc
        obtain ⟨hc, hc4⟩ := and_true hc
        obtain ⟨hc, hc3⟩ := and_true hc
        obtain ⟨hgr, hc2⟩ := and_true hc
        obtain ⟨k1, k2, k3, k4⟩ := growOk_ok hgr
        rw [beq_iff] at hc2 hc4 hc5
        rw [beq_iff, lenN_eq] at hc3
        subst hc2; subst hc4; subst hc5
        have hold' : old = cs := by
          apply List.ext_getElem?
          intro j
          rcases Nat.lt_or_ge j old.length with hj | hj
          · have := o2 j _ (List.getElem?_eq_getElem hj)
            rw [List.getElem?_eq_getElem hj]
            simp only [lookCell, nth_eq, Nat.zero_add] at this
            exact this.symm
          · rw [List.getElem?_eq_none hj, List.getElem?_eq_none (by omega)]
        subst hold'
        by_cases hroom : len + n ≤ σ.cap b
        · have hfit : len * i.size + new.length ≤ arr.size := by rw [s4, hcap, ← Nat.add_mul]; exact Nat.mul_le_mul_right _ hroom
          obtain ⟨w', arr', g1, g2, g3, g4, g5, g6, g7, g8⟩ := run_storeCells E.P (σ.blk b) (len * i.size) (σ.ty b) (σ.fr b) (concL σ new) 0 arr w ho
            (fun u hu => by rw [concL_eq] at hu; obtain ⟨y, hy, rfl⟩ := List.mem_map.1 hu; exact isCell_one σ (k3 y hy)) (by simpa [concL_eq] using hfit) hrow.warm
          have hag := σ.put_agree A.next (σ.blk b) (σ.cap b) (σ.ty b) (σ.fr b)
          have htop : ∀ u ∈ old ++ new, topOf u ≤ A.next := fun u hu => by
            rcases List.mem_append.1 hu with hu | hu
            · exact o4 u hu
            · exact s3 u hu
          have hrow' : Row (σ.put A.next (σ.blk b) (σ.cap b) (σ.ty b) (σ.fr b)) A.next (.cells (some i.size) (old ++ new)) arr' := by
            refine Row.mk ?_ (fun hx => by simp [extOf] at hx) (fun st hst => ?_) (fun j u hj => ?_) (fun j hj => ?_)
            · simp only [sizeB, lenN_eq, List.length_append, g3, o1]; exact hfit
            · cases hst; rw [g3, hcap]; simp [Sg.put]
            · simp only [lookCell, nth_eq] at hj
              rw [conc_congr hag u (htop u (List.mem_of_getElem? hj)), g4 j]
              simp only [Nat.add_zero, concL_eq, List.length_map]
              rcases Nat.lt_or_ge j old.length with hj' | hj'
              · rw [if_neg (by omega)]
                rw [List.getElem?_append_left hj'] at hj
                exact hrow.cell j u (by simpa [lookCell, nth_eq] using hj)
              · rw [List.getElem?_append_right hj'] at hj
                have hlt : j - old.length < new.length := by
                  rcases Nat.lt_or_ge (j - old.length) new.length with h' | h'
                  · exact h'
                  · rw [List.getElem?_eq_none h'] at hj; cases hj
                rw [if_pos (by omega), ← o1, List.getElem?_map, hj]; rfl
            · have : (σ.put A.next (σ.blk b) (σ.cap b) (σ.ty b) (σ.fr b)).fr A.next = σ.fr b := by simp [Sg.put]
              rw [this]; exact hrow.warm j (by omega)
          have hbr : BR (σ.put A.next (σ.blk b) (σ.cap b) (σ.ty b) (σ.fr b)) A.next (.cells (some i.size) (old ++ new)) (.cells arr' (σ.ty b) (σ.fr b)) := by
            refine ⟨arr', ?_, hrow'⟩
            simp [Sg.put]
          obtain ⟨r1, r2⟩ := move_ok (w' := w') hR hb A.esc (blk' := .cells (some i.size) (old ++ new)) (fun j u hj => by
            simp only [lookCell, nth_eq] at hj
            exact Nat.le_succ_of_le (htop u (List.mem_of_getElem? hj))) hbr g2 g5 g6 g7 g8
          refine ⟨_, w', ?_, r1, r2, Nat.le_refl _⟩
          have := run_append_room' (P := E.P) (w := w) (ty := ty) ht hi htx hux' (some ⟨σ.blk b, 0, none⟩) len (σ.cap b) n (conc σ x) _ s1 f1 hroom
          simp only [] at this
          rw [add_none ⟨σ.blk b, 0, none⟩ rfl] at this
          simp only [Nat.zero_add] at this
          rw [g1] at this
          simp only [conc, ACap.val, Nat.sub_zero]
          rw [this]
          simp [Sg.put]
        · have := grow (some ⟨σ.blk b, 0, none⟩) len (σ.cap b) old ⟨A.next, A.esc, dropB A.blks b⟩ rfl (hR.less (hR.once.dropB b) (look_drop hR b)) (Step.less (look_drop hR b))
            (by simpa [Builtin.firstCells] using o3) (by omega) o1 o4 k1 k2
          simpa [conc, ACap.val] using this
end
end Go.Ev

/- Operations with an effect; calls by hypothesis. -/
set_option linter.unusedSimpArgs false
set_option linter.unusedVariables false
namespace Go.Ev
variable [Rho]

/-! Obligations. -/
def Owed (o : Orc) : Prop := ∀ p ∈ o.obl, p
def Orc.Le (o o' : Orc) : Prop := ∀ p ∈ o.obl, p ∈ o'.obl
theorem Orc.Le.refl (o : Orc) : o.Le o := fun _ h => h
theorem Orc.Le.trans {a b c : Orc} (h : a.Le b) (h' : b.Le c) : a.Le c := fun p hp => h' p (h p hp)
theorem Owed.less {o o' : Orc} (h : o.Le o') (h' : Owed o') : Owed o := fun p hp => h' p (h p hp)
theorem Orc.le_add (o : Orc) (q : List Dec) (l : List Prop) : o.Le ⟨q, l ++ o.obl⟩ := fun p hp => List.mem_append.2 (.inr hp)
theorem Orc.le_cons (o : Orc) (q : List Dec) (x : Prop) : o.Le ⟨q, x :: o.obl⟩ := fun p hp => List.mem_cons_of_mem _ hp

/-! Panics, deferred calls, modes. -/
def concP (σ : Sg) (c : List APan) : List PanicEntry := c.map fun p => { v := conc σ p.v, recovered := p.recovered, goexit := false }
def concM (σ : Sg) : AMode → FrameMode
  | .run => .run
  | .returning => .returning
  | .panicking c => .panicking (concP σ c)
def PIn (c : List APan) (n : Nat) : Prop := ∀ p ∈ c, topOf p.v ≤ n
def AMode.In (m : AMode) (n : Nat) : Prop := match m with | .panicking c => PIn c n | _ => True
theorem PIn.mono {c : List APan} {n k : Nat} (h : PIn c n) (hn : n ≤ k) : PIn c k := fun p hp => Nat.le_trans (h p hp) hn
theorem AMode.In.mono {m : AMode} {n k : Nat} (h : m.In n) (hn : n ≤ k) : m.In k := by
  cases m with
  | panicking c => exact PIn.mono h hn
  | _ => trivial
theorem concP_congr {σ τ : Sg} {n : Nat} (h : σ.Agree τ n) {c : List APan} (hc : PIn c n) : concP τ c = concP σ c := by
  unfold concP
  apply List.map_congr_left
  intro p hp
  rw [conc_congr h p.v (hc p hp)]
theorem concM_congr {σ τ : Sg} {n : Nat} (h : σ.Agree τ n) {m : AMode} (hm : m.In n) : concM τ m = concM σ m := by
  cases m with
  | panicking c => simp only [concM, concP_congr h hm]
  | _ => rfl
theorem concM_run {σ : Sg} {m : AMode} : concM σ m = .run ↔ m = .run := by cases m <;> simp [concM]

def LIn (l : List AVal) (n : Nat) : Prop := ∀ v ∈ l, topOf v ≤ n
theorem LIn.mono {l : List AVal} {n k : Nat} (h : LIn l n) (hn : n ≤ k) : LIn l k := fun p hp => Nat.le_trans (h p hp) hn
structure DefOk (σ : Sg) (n : Nat) (x : ADef) (d : Deferred) : Prop where
  to : ∃ cap, d.target = .fn (.func x.fn) cap ∧ d.args ++ cap = (concL σ x.args).toArray
  sc : LIn x.args n
theorem DefOk.agree {σ τ : Sg} {n k : Nat} {x : ADef} {d : Deferred} (h : DefOk σ n x d) (ha : σ.Agree τ n) (hn : n ≤ k) : DefOk τ k x d :=
  ⟨by obtain ⟨cap, h1, h2⟩ := h.to; exact ⟨cap, h1, by rw [h2, concL_congr ha _ h.sc]⟩, h.sc.mono hn⟩

/-! Calls. -/
/-- What a state becomes. -/
structure To (σ : Sg) (A : AW) (w : World) (σ' : Sg) (A' : AW) (w' : World) : Prop where
  r : R σ' A' w'
  s : Step σ A w σ' A' w'
theorem To.trans {σ σ' σ'' : Sg} {A A' A'' : AW} {w w' w'' : World} (h : To σ A w σ' A' w') (h' : To σ' A' w' σ'' A'' w'') : To σ A w σ'' A'' w'' := ⟨h'.r, h.s.trans h'.s⟩
theorem To.refl {σ : Sg} {A : AW} {w : World} (h : R σ A w) : To σ A w σ A w := ⟨h, Step.refl _ _ _⟩
/-- A call, by the caller's mode: 'run' stands for a plain call. -/
def CallsM (P : Program) (σ : Sg) (m : AMode) (f : FuncId) (args : Array Value) (w : World) (Q : Ending → FrameMode → World → Prop) : Prop :=
  match m with
  | .run => Calls P f args w fun e w' => Q e .run w'
  | m => CallsD P f args (concM σ m) w Q
def Enters (P : Program) (f : FuncId) (args : Array Value) : Prop := ∀ w, (callFunc f args).run P w = .ok (.enter f args) w
def Returned (σ : Sg) (A : AW) (w : World) (m : AMode) (v : AVal) (m' : AMode) (A' : AW) (e : Ending) (u : FrameMode) (w' : World) : Prop :=
  (m' = .run ↔ m = .run) ∧ ∃ σ', e = .returned (conc σ' v) ∧ u = concM σ' m' ∧ To σ A w σ' A' w' ∧ topOf v ≤ A'.next ∧ m'.In A'.next
def Panicked (σ : Sg) (A : AW) (w : World) (m : AMode) (c : List APan) (m' : AMode) (A' : AW) (e : Ending) (u : FrameMode) (w' : World) : Prop :=
  (m' = .run ↔ m = .run) ∧ ∃ σ', e = .panicked (concP σ' c) ∧ u = concM σ' m' ∧ To σ A w σ' A' w' ∧ PIn c A'.next ∧ m'.In A'.next
/-- Is a call's result what the program comes to? -/
def FROk (P : Program) (σ : Sg) (A : AW) (w : World) (f : FuncId) (args : List AVal) (m : AMode) : FR → Prop
  | .fail => True
  | .ret v m' A' o' => CallsM P σ m f (concL σ args).toArray w (Returned σ A w m v m' A')
  | .pan c m' A' o' => CallsM P σ m f (concL σ args).toArray w (Panicked σ A w m c m' A')
def FR.orc : FR → Option Orc
  | .fail => none
  | .ret _ _ _ o | .pan _ _ _ o => some o
def CallOk (P : Program) (call : FuncId → List AVal → AMode → AW → Orc → FR) : Prop :=
  ∀ f args m A o o', (call f args m A o).orc = some o' → o.Le o' ∧ (Owed o' → (∀ l, Enters P f l) ∧
    ∀ σ w, R σ A w → LIn args A.next → m.In A.next → FROk P σ A w f args m (call f args m A o))

/-! Results of operations. -/
def OR.orc (o : Orc) : OR → Option Orc
  | .fail => none
  | .val _ _ o' | .pan _ _ o' | .dfr _ _ o' => some o'
  | .rcv => some o
def ValOk (P : Program) (σ : Sg) (A : AW) (w : World) (s : Sem Next) (v : AVal) (A' : AW) : Prop :=
  (∃ σ' w' N, s.run P w = .ok N w' ∧ (N = .value (conc σ' v) ∨ (N = .skip ∧ v = .undef)) ∧ To σ A w σ' A' w' ∧ topOf v ≤ A'.next) ∨
  (∃ f args, s.run P w = .ok (.enter f args) w ∧ Calls P f args w fun e w' => ∃ σ', e = .returned (conc σ' v) ∧ To σ A w σ' A' w' ∧ topOf v ≤ A'.next)
def PanOk (P : Program) (σ : Sg) (A : AW) (w : World) (s : Sem Next) (c : List APan) (A' : AW) : Prop :=
  (∃ v, s.run P w = .halt (.panic (conc σ v)) w ∧ c = [⟨v, false⟩] ∧ A' = A ∧ topOf v ≤ A.next) ∨
  (∃ f args, s.run P w = .ok (.enter f args) w ∧ Calls P f args w fun e w' => ∃ σ', e = .panicked (concP σ' c) ∧ To σ A w σ' A' w' ∧ PIn c A'.next)
def OROk (P : Program) (σ : Sg) (A : AW) (w : World) (s : Sem Next) : OR → Prop
  | .fail => True
  | .val v A' _ => ValOk P σ A w s v A'
  | .pan c A' _ => PanOk P σ A w s c A'
  | .dfr x A' _ => A' = A ∧ ∃ d, s.run P w = .ok (.defer d) w ∧ DefOk σ A.next x d
  | .rcv => s.run P w = .ok .recover w

section
variable {E : Env} {σ : Sg} {A : AW} {w : World} {n : Nat} {tm : T AVal} {ac : Act} {call : FuncId → List AVal → AMode → AW → Orc → FR}

theorem VE.val {P : Program} {s : Sem Value} {v : AVal} {A' : AW} (h : VE P σ A w s v A') : ValOk P σ A w (do pure (.value (← s))) v A' := by
  obtain ⟨σ', w', h1, h2, h3, h4⟩ := h
  exact .inl ⟨σ', w', _, by simp [h1], .inl rfl, ⟨h2, h3⟩, h4⟩
theorem unit_ok {P : Program} {s : Sem Unit} {A' : AW} {w' : World} (h : s.run P w = .ok () w') (hR : R σ A' w') (hS : Step σ A w σ A' w') : ValOk P σ A w (do s; pure .skip) .undef A' := by
  exact .inl ⟨σ, w', .skip, by simp [h], .inr ⟨rfl, rfl⟩, ⟨hR, hS⟩, Nat.zero_le _⟩

/-- An operation with an effect: its obligations, and what it comes to. -/
def EffOk (P : Program) (σ : Sg) (A : AW) (w : World) (s : Sem Next) (o : Orc) (r : OR) : Prop :=
  ∀ o', r.orc o = some o' → o.Le o' ∧ (Owed o' → OROk P σ A w s r)

theorem EffOk.fail {P : Program} {s : Sem Next} {o : Orc} : EffOk P σ A w s o .fail := fun o' h => by cases h
theorem EffOk.val {P : Program} {s : Sem Next} {o : Orc} {v : AVal} {A' : AW} (h : ValOk P σ A w s v A') : EffOk P σ A w s o (.val v A' o) := fun o' h' => by
  cases h'; exact ⟨Orc.Le.refl _, fun _ => h⟩
theorem eVA_ok {P : Program} {s : Sem Value} {o : Orc} {r : Option (AVal × AW)} (h : ∀ v A', r = some (v, A') → VE P σ A w s v A') : EffOk P σ A w (do pure (.value (← s))) o (eVA o r) := by
  cases r with
  | none => exact EffOk.fail
  | some p => obtain ⟨v, A'⟩ := p; exact EffOk.val (h v A' rfl).val
theorem eA_ok {P : Program} {s : Sem Next} {o : Orc} {r : Option AW} (h : ∀ A', r = some A' → ValOk P σ A w s .undef A') : EffOk P σ A w s o (eA o r) := by
  cases r with
  | none => exact EffOk.fail
  | some A' => exact EffOk.val (h A' rfl)
theorem eAlloc_ok {P : Program} {o : Orc} {z : Option AVal} {s : Sem Value} {t : TypeId} (h : ∀ v, z = some v → s.run P w = (do pure (.pointer (some (← newVar t (conc σ v)))) : Sem Value).run P w ∧ topOf v ≤ A.next) (hR : R σ A w) :
    EffOk P σ A w (do pure (.value (← s))) o (eAlloc A o z) := by
  cases z with
  | none => exact EffOk.fail
  | some v =>
    obtain ⟨h1, h2⟩ := h v rfl
    show EffOk P σ A w _ o (eB (notRaw v) .fail (.val (.ptr A.next 0) (A.new (newCells (cellsOf v))) o))
    cases hr : notRaw v with
    | false => exact EffOk.fail
    | true =>
      rw [eB_true]
      refine EffOk.val (VE.val ?_)
      obtain ⟨σ', w', g1, g2⟩ := newVar_ok hR hr h2 t P
      exact ⟨σ', w', by rw [h1]; exact g1, g2⟩
theorem eMapSet_ok (hE : E.Ok) (hR : R σ A w) (hT : TR σ n A.next tm ac.tmps) {o : Orc} {t : TypeId} {m k x : Operand} :
    EffOk E.P σ A w (do Instr.mapUpdate t (ac.eval m) (ac.eval k) (ac.eval x); pure .skip) o (eMapSet E A o t (opd tm m) (opd tm k) (opd tm x)) := by
  unfold eMapSet
  split
  · rename_i m' k' x' hm hk hx
    obtain ⟨m1, m2⟩ := opd_ok hT hm
    obtain ⟨k1, k2⟩ := opd_ok hT hk
    obtain ⟨x1, x2⟩ := opd_ok hT hx
    refine eA_ok fun A' h => ?_
    obtain ⟨w', g1, g2, g3, _⟩ := mapSetA_ok hE hR h k2 x2
    rw [m1, k1, x1]
    exact unit_ok g1 g2 g3
  · exact EffOk.fail
theorem eStore_ok (hE : E.Ok) (hR : R σ A w) (hT : TR σ n A.next tm ac.tmps) {o : Orc} {t : TypeId} {a x : Operand} :
    EffOk E.P σ A w (do Instr.storeAt t (ac.eval a) (ac.eval x); pure .skip) o (eStore E A o t (opd tm a) (opd tm x)) := by
  unfold eStore
  split
  · rename_i a' x' ha hx
    obtain ⟨a1, a2⟩ := opd_ok hT ha
    obtain ⟨x1, x2⟩ := opd_ok hT hx
    refine eA_ok fun A' h => ?_
    obtain ⟨w', g1, g2, g3, _⟩ := storeA_ok hE hR h x2
    rw [a1, x1]
    exact unit_ok g1 g2 g3
  · exact EffOk.fail
theorem eBuildSlice_ok (hE : E.Ok) (hR : R σ A w) (hT : TR σ n A.next tm ac.tmps) {o : Orc} {t : TypeId} {k : Nat} {ps : Array (Nat × Operand)} :
    EffOk E.P σ A w (do pure (.value (← Instr.buildSlice t k (ps.map fun (i, x) => (i, ac.eval x))))) o (eBuildSlice E A o t k (opdParts tm ps.toList)) := by
  unfold eBuildSlice
  split
  · rename_i l hl
    obtain ⟨h1, h2⟩ := opdParts_ok hT hl
    exact eVA_ok fun v A' h => buildSliceA_ok hE hR h h2 _ (by rw [Array.toList_map]; exact h1)
  · exact EffOk.fail
theorem eMakeSlice_ok (hE : E.Ok) (hR : R σ A w) (hT : TR σ n A.next tm ac.tmps) {o : Orc} {t : TypeId} {l c : Operand} :
    EffOk E.P σ A w (do pure (.value (← Instr.makeSlice t (ac.eval l) (ac.eval c)))) o (eMakeSlice E A o t (opd tm l) (opd tm c)) := by
  unfold eMakeSlice
  split
  · rename_i l' c' hl hc
    obtain ⟨l1, _⟩ := opd_ok hT hl
    obtain ⟨c1, _⟩ := opd_ok hT hc
    rw [l1, c1]
    exact eVA_ok fun v A' h => makeSliceA_ok hE hR h
  · exact EffOk.fail
theorem eMakeMap_ok (hE : E.Ok) (hR : R σ A w) {o : Orc} {t : TypeId} {r : Option Operand} :
    EffOk E.P σ A w (do pure (.value (← Instr.makeMap t (r.map ac.eval)))) o (eMakeMap E A o t r) := by
  unfold eMakeMap
  split
  · exact EffOk.val (makeMap_ok hE hR).val
  · exact EffOk.fail
theorem ePanic_ok (hT : TR σ n A.next tm ac.tmps) {P : Program} {o : Orc} {x : Operand} :
    EffOk P σ A w (do pure (.value (← Instr.panic (ac.eval x)))) o (ePanic A o (opd tm x)) := by
  unfold ePanic
  split
  · rename_i t v hx
    obtain ⟨x1, x2⟩ := opd_ok hT hx
    intro o' h'
    cases h'
    refine ⟨Orc.Le.refl _, fun _ => .inl ⟨.iface t v, ?_, rfl, rfl, x2⟩⟩
    rw [x1]
    simp [Instr.panic, conc]
  · exact EffOk.fail
theorem args_map (hT : TR σ n A.next tm ac.tmps) {xs : Array Operand} {vs : List AVal} (h : opds tm xs.toList = some vs) : xs.map ac.eval = (concL σ vs).toArray ∧ LIn vs A.next := by
  obtain ⟨h1, h2⟩ := opds_ok hT h
  exact ⟨by apply Array.ext'; rw [Array.toList_map, h1], h2⟩
theorem concL_append (a b : List AVal) : concL σ (a ++ b) = concL σ a ++ concL σ b := by simp [concL_eq]
theorem eDeferC_ok (hT : TR σ n A.next tm ac.tmps) {P : Program} {o : Orc} {c : Call} {ty : TypeId} :
    EffOk P σ A w (do pure (.defer (← resolve ac.eval c ty))) o (eDeferC tm A o c) := by
  unfold eDeferC
  split
  · rename_i f hf
    unfold eDefer
    split
    · rename_i g fi ca l hx hl
      obtain ⟨x1, x2⟩ := opd_ok hT hx
      obtain ⟨l1, l2⟩ := args_map hT hl
      intro o' h'
      cases h'
      refine ⟨Orc.Le.refl _, fun _ => ⟨rfl, ⟨.fn (.func g) (concL σ ca).toArray, (concL σ fi).toArray ++ (concL σ l).toArray⟩, ?_, ⟨_, rfl, by simp [concL_append]⟩, ?_⟩⟩
      · simp [resolve, hf, x1, l1, conc, Deferred.ofValue]
      · rw [topOf_func_le] at x2
        intro v hv
        rcases List.mem_append.1 hv with hv | hv
        · rcases List.mem_append.1 hv with hv | hv
          · exact x2.1 v hv
          · exact l2 v hv
        · exact x2.2 v hv
    · exact EffOk.fail
  · exact EffOk.fail
theorem eCallV_ok (hR : R σ A w) (hT : TR σ n A.next tm ac.tmps) {P : Program} (hC : CallOk P call) {o : Orc} {c : Call} {f : Operand} (hf : c.callee = .value f) {ty : TypeId} :
    EffOk P σ A w (do let d ← resolve ac.eval c ty; invoke d.target d.args) o (eCallV call A o (opd tm f) (opds tm c.args.toList)) := by
  unfold eCallV
  split
  · rename_i g fi ca l hx hl
    obtain ⟨x1, x2⟩ := opd_ok hT hx
    obtain ⟨l1, l2⟩ := args_map hT hl
    rw [topOf_func_le] at x2
    have happ : appArgs fi l ca = fi ++ l ++ ca := by unfold appArgs; split <;> simp
    have hin : LIn (fi ++ l ++ ca) A.next := fun v hv => by
      rcases List.mem_append.1 hv with hv | hv
      · rcases List.mem_append.1 hv with hv | hv
        · exact x2.1 v hv
        · exact l2 v hv
      · exact x2.2 v hv
    rw [happ]
    have hc := hC g (fi ++ l ++ ca) .run A o
    have hrun : ∀ args, (∀ l, Enters P g l) → args = (concL σ (fi ++ l ++ ca)).toArray → (do let d ← resolve ac.eval c ty; invoke d.target d.args : Sem Next).run P w = .ok (.enter g args) w := by
      intro args hen ha
      subst ha
      have e1 : (resolve ac.eval c ty).run P w = .ok ⟨.fn (.func g) (concL σ ca).toArray, (concL σ fi).toArray ++ (concL σ l).toArray⟩ w := by
        simp [resolve, hf, x1, l1, conc, Deferred.ofValue]
      have e2 := hen (concL σ (fi ++ l ++ ca)).toArray w
      simp only [Sem.run_bind, e1, Result.andThen_ok, invoke]
      have e3 : (concL σ fi).toArray ++ (concL σ l).toArray ++ (concL σ ca).toArray = (concL σ (fi ++ l ++ ca)).toArray := by simp [concL_append]
      rw [e3]; exact e2
    intro o' h'
    cases hcall : call g (fi ++ l ++ ca) .run A o with
    | fail => rw [hcall] at h'; cases h'
    | ret v m' A' o2 =>
      rw [hcall] at h' hc
      cases h'
      obtain ⟨k1, k2⟩ := hc _ rfl
      refine ⟨k1, fun ho => ?_⟩
      obtain ⟨k3, k4⟩ := k2 ho
      have k5 := k4 σ w hR hin trivial
      refine .inr ⟨g, _, hrun _ k3 rfl, ?_⟩
      exact Calls.mono k5 fun e w' ⟨_, σ', q1, _, q2, q3, _⟩ => ⟨σ', q1, q2, q3⟩
    | pan ch m' A' o2 =>
      rw [hcall] at h' hc
      cases h'
      obtain ⟨k1, k2⟩ := hc _ rfl
      refine ⟨k1, fun ho => ?_⟩
      obtain ⟨k3, k4⟩ := k2 ho
      have k5 := k4 σ w hR hin trivial
      refine .inr ⟨g, _, hrun _ k3 rfl, ?_⟩
      exact Calls.mono k5 fun e w' ⟨_, σ', q1, _, q2, q3, _⟩ => ⟨σ', q1, q2, q3⟩
  · exact EffOk.fail
theorem eBuiltin_ok (hE : E.Ok) (hR : R σ A w) (hT : TR σ n A.next tm ac.tmps) {o : Orc} {c : Call} {b : Builtin} (hb : c.callee = .builtin b) {ty : TypeId} :
    EffOk E.P σ A w (do let d ← resolve ac.eval c ty; invoke d.target d.args) o (eBuiltin E A o b (opds tm c.args.toList) c.argTypes.toList) := by
  have hrun : ∀ (vs : List AVal), opds tm c.args.toList = some vs → ∃ k, (do let d ← resolve ac.eval c ty; invoke d.target d.args : Sem Next).run E.P w = (builtin b c.argTypes ty k (concL σ vs).toArray).run E.P w := by
    intro vs hvs
    obtain ⟨l1, _⟩ := args_map hT hvs
    exact ⟨_, by simp only [resolve, hb, Sem.run_bind, Sem.run_pure, Result.andThen_ok, invoke, l1]; rfl⟩
  have conv : ∀ {s s' : Sem Next} {v : AVal} {A' : AW}, s.run E.P w = s'.run E.P w → ValOk E.P σ A w s' v A' → ValOk E.P σ A w s v A' := by
    intro s s' v A' h h'
    unfold ValOk; rw [h]; exact h'
  unfold eBuiltin
  split
  · split
    · rename_i s x t tx hargs htys
      obtain ⟨k, hk⟩ := hrun _ hargs
      obtain ⟨_, l2⟩ := args_map hT hargs
      have hty : c.argTypes = #[t, tx] := Array.ext' htys
      cases hr : appendA E A t tx s x with
      | none => exact EffOk.fail
      | some p =>
        obtain ⟨v, A'⟩ := p
        refine EffOk.val (conv hk ?_)
        have := (appendA_ok (σ := σ) (w := w) (ty := ty) hE hR hr (l2 s (by simp))).val
        rw [hty]; exact this
    · exact EffOk.fail
  · split
    · rename_i d s t ts hargs htys
      obtain ⟨k, hk⟩ := hrun _ hargs
      have hty : c.argTypes[0]? = some t := by rw [← Array.getElem?_toList, htys]; rfl
      cases hr : copyA E A t d s with
      | none => exact EffOk.fail
      | some p =>
        obtain ⟨v, A'⟩ := p
        exact EffOk.val (conv hk (copyA_ok (σ := σ) (w := w) (ty := ty) hE hR hr hty).val)
    · exact EffOk.fail
  · split
    · rename_i m k' t ts hargs htys
      obtain ⟨k, hk⟩ := hrun _ hargs
      have hty : c.argTypes[0]? = some t := by rw [← Array.getElem?_toList, htys]; rfl
      refine eA_ok fun A' hr => conv hk ?_
      obtain ⟨w', g1, g2, g3, _⟩ := mapDelA_ok (σ := σ) (w := w) (ty := ty) hE hR hr hty
      exact .inl ⟨σ, w', .value undef, by simp [builtin, concL, g1], .inl (by rw [conc_undef]), ⟨g2, g3⟩, Nat.zero_le _⟩
    · exact EffOk.fail
  · intro o' h'
    cases h'
    refine ⟨Orc.Le.refl _, fun _ => ?_⟩
    show Sem.run E.P _ w = _
    simp [resolve, hb, invoke, builtin]
  · exact EffOk.fail
theorem effOp_ok (hE : E.Ok) (hR : R σ A w) (hT : TR σ n A.next tm ac.tmps) (hC : CallOk E.P call) (o : Orc) (x : Oper) :
    EffOk E.P σ A w (execOp ac.eval x) o (effOp E call tm A o x.op) := by
  cases hop : x.op with
  | alloc t =>
    simp only [execOp, hop]
    refine eAlloc_ok (t := t) (fun v hv => ?_) hR
    obtain ⟨h1, h2, _⟩ := zeroT_ok (σ := σ) (w := w) hE hv
    exact ⟨by simp [Instr.alloc, h1], by omega⟩
  | box t y =>
    simp only [execOp, hop]
    refine eAlloc_ok (t := t) (fun v hv => ?_) hR
    obtain ⟨h1, h2⟩ := opd_ok hT hv
    exact ⟨by simp [Instr.box, h1], h2⟩
  | buildSlice t k ps => simp only [execOp, hop]; exact eBuildSlice_ok hE hR hT
  | insert t m k y => simp only [execOp, hop]; exact eMapSet_ok hE hR hT
  | store t a y => simp only [execOp, hop]; exact eStore_ok hE hR hT
  | makeMap t r => simp only [execOp, hop]; exact eMakeMap_ok hE hR
  | makeSlice t l c => simp only [execOp, hop]; exact eMakeSlice_ok hE hR hT
  | mapUpdate t m k y => simp only [execOp, hop]; exact eMapSet_ok hE hR hT
  | call c =>
    simp only [execOp, hop]
    show EffOk _ _ _ _ _ _ (eCall E call tm A o c)
    unfold eCall
    split
    · rename_i f hf; exact eCallV_ok hR hT hC hf
    · rename_i b hb; exact eBuiltin_ok hE hR hT hb
    · exact EffOk.fail
  | defer c => simp only [execOp, hop]; exact eDeferC_ok hT
  | panic y => simp only [execOp, hop]; exact ePanic_ok hT
  | _ => exact EffOk.fail
end
end Go.Ev

/- States of a frame; one operation's step. -/
set_option linter.unusedSimpArgs false
set_option linter.unusedVariables false
namespace Go.Ev
variable [Rho]

def DefsOk (σ : Sg) (n : Nat) : List ADef → List Deferred → Prop
  | [], [] => True
  | x :: xs, d :: ds => DefOk σ n x d ∧ DefsOk σ n xs ds
  | _, _ => False
theorem DefsOk.agree {σ τ : Sg} {n k : Nat} (ha : σ.Agree τ n) (hn : n ≤ k) : ∀ {xs : List ADef} {ds : List Deferred}, DefsOk σ n xs ds → DefsOk τ k xs ds
  | [], [], _ => trivial
  | x :: xs, d :: ds, h => ⟨h.1.agree ha hn, DefsOk.agree ha hn h.2⟩
  | [], _ :: _, h => h.elim
  | _ :: _, [], h => h.elim

/-- Where a frame stands: what called it. -/
def Home (σ : Sg) (m : AMode) (b : Frame) (cs0 cs : List Frame) : Prop :=
  match m with
  | .run => b.kind = .normal ∧ cs = cs0
  | m => b.kind = .deferred ∧ ∃ c r, cs0 = c :: r ∧ cs = { c with mode := concM σ m } :: r
theorem Home.congr {σ τ : Sg} {m : AMode} (he : concM τ m = concM σ m) {b : Frame} {cs0 cs : List Frame} (h : Home σ m b cs0 cs) : Home τ m b cs0 cs := by
  cases m with
  | run => exact h
  | returning => exact h
  | panicking c => obtain ⟨h1, x, r, h2, h3⟩ := h; exact ⟨h1, x, r, h2, by rw [he]; exact h3⟩

structure St (σ : Sg) (n : Nat) (tm : T AVal) (ds : List ADef) (m : AMode) (A : AW) (b : Frame) (cs0 : List Frame) (a : Act) (cs : List Frame) (w : World) : Prop where
  r : R σ A w
  t : TR σ n A.next tm a.tmps
  d : DefsOk σ A.next ds a.defers
  i : m.In A.next
  h : Home σ m b cs0 cs
/-- The same, but for the temporaries. -/
structure Sp (σ : Sg) (ds : List ADef) (m : AMode) (A : AW) (b : Frame) (cs0 : List Frame) (a : Act) (cs : List Frame) (w : World) : Prop where
  r : R σ A w
  d : DefsOk σ A.next ds a.defers
  i : m.In A.next
  h : Home σ m b cs0 cs
noncomputable def putO (tm : T AVal) (dst : Option Nat) (v : AVal) : T AVal := match dst with | none => tm | some d => tm.upd d v

section
variable {P : Program} {σ σ' : Sg} {n : Nat} {tm : T AVal} {ds : List ADef} {m : AMode} {A A' : AW} {b : Frame} {cs0 cs : List Frame} {a : Act} {w w' : World}
theorem St.sp (h : St σ n tm ds m A b cs0 a cs w) : Sp σ ds m A b cs0 a cs w := ⟨h.r, h.d, h.i, h.h⟩
theorem St.move (h : St σ n tm ds m A b cs0 a cs w) (h' : To σ A w σ' A' w') : St σ' n tm ds m A' b cs0 a cs w' :=
  ⟨h'.r, h.t.agree h'.s.agree h'.s.next, h.d.agree h'.s.agree h'.s.next, h.i.mono h'.s.next, h.h.congr (concM_congr h'.s.agree h.i)⟩
theorem Sp.move (h : Sp σ ds m A b cs0 a cs w) (h' : To σ A w σ' A' w') : Sp σ' ds m A' b cs0 a cs w' :=
  ⟨h'.r, h.d.agree h'.s.agree h'.s.next, h.i.mono h'.s.next, h.h.congr (concM_congr h'.s.agree h.i)⟩
theorem St.put (h : St σ n tm ds m A b cs0 a cs w) {dst : Option Nat} (hd : ∀ d, dst = some d → d < n) {v : AVal} (hv : topOf v ≤ A.next) :
    St σ n (putO tm dst v) ds m A b cs0 (a.put dst (conc σ v)) cs w := by
  cases dst with
  | none => exact h
  | some d => exact ⟨h.r, h.t.put (hd d rfl) hv, h.d, h.i, h.h⟩

/-! One operation. -/
variable {ops : Array Oper} {i : Nat} {rest : List Nat} {x : Oper} {k : List Item}
theorem fin_at (hx : ops[i]? = some x) (v : Value) : (b.at a (.inRegion ops (i :: rest) :: k)).finish v = b.at (a.put x.dst v) (.inRegion ops rest :: k) := by
  rw [Frame.finish_at, hx]; rfl
theorem val_steps (hx : ops[i]? = some x) (hw : Region.wanted x (yielded ops a.tmps) = true) {v : AVal} (h : ValOk P σ A w (execOp a.eval x) v A') :
    ∃ σ' w', To σ A w σ' A' w' ∧ topOf v ≤ A'.next ∧ Steps P (lone (b.at a (.inRegion ops (i :: rest) :: k)) cs w) (lone (b.at (a.put x.dst (conc σ' v)) (.inRegion ops rest :: k)) cs w') := by
  have hg := stepG_op (P := P) (b := b) (k := k) (cs := cs) (w := w) (rest := rest) hx hw
  have hfin := fin_at (b := b) (a := a) (k := k) (rest := rest) hx
  rcases h with ⟨σ', w', N, hr, hN, h1, h2⟩ | ⟨f, args, hr, hcall⟩
  · refine ⟨σ', w', h1, h2, .one (step_lone_go ?_)⟩
    rw [hg, ← hfin]
    rcases hN with rfl | ⟨rfl, rfl⟩
    · simp [stepG.apply, hr]
    · rw [conc_undef]; simp [stepG.apply, hr]
  · have henter : step P (lone (b.at a (.inRegion ops (i :: rest) :: k)) cs w) =
        .next (lone (Frame.enter P f args .normal) (b.at a (.inRegion ops (i :: rest) :: k) :: cs) w) :=
      step_lone_go (by rw [hg]; simp [stepG.apply, hr, Frame.at])
    obtain ⟨e, w'', fr, ⟨σ', he, h1, h2⟩, hsteps, _, hleave⟩ := hcall (b.at a (.inRegion ops (i :: rest) :: k) :: cs)
    subst he
    refine ⟨σ', w'', h1, h2, .head henter (Steps.trans hsteps (.one ?_))⟩
    rw [← hfin]; exact step_leave_returned hleave
theorem pan_steps (hx : ops[i]? = some x) (hw : Region.wanted x (yielded ops a.tmps) = true) (hR : R σ A w) {c : List APan} (h : PanOk P σ A w (execOp a.eval x) c A') :
    ∃ σ' w', To σ A w σ' A' w' ∧ PIn c A'.next ∧ Steps P (lone (b.at a (.inRegion ops (i :: rest) :: k)) cs w) (lone { b.at a (.inRegion ops (i :: rest) :: k) with mode := .panicking (concP σ' c) } cs w') := by
  have hg := stepG_op (P := P) (b := b) (k := k) (cs := cs) (w := w) (rest := rest) hx hw
  rcases h with ⟨v, hr, rfl, rfl, hv⟩ | ⟨f, args, hr, hcall⟩
  · refine ⟨σ, w, To.refl hR, ?_, .one (step_lone_go ?_)⟩
    · intro p hp; simp at hp; subst hp; exact hv
    · rw [hg, ← Frame.raise_at]; simp [stepG.apply, hr, concP]
  · have henter : step P (lone (b.at a (.inRegion ops (i :: rest) :: k)) cs w) =
        .next (lone (Frame.enter P f args .normal) (b.at a (.inRegion ops (i :: rest) :: k) :: cs) w) :=
      step_lone_go (by rw [hg]; simp [stepG.apply, hr, Frame.at])
    obtain ⟨e, w'', fr, ⟨σ', he, h1, h2⟩, hsteps, _, hleave⟩ := hcall (b.at a (.inRegion ops (i :: rest) :: k) :: cs)
    subst he
    refine ⟨σ', w'', h1, h2, .head henter (Steps.trans hsteps (.one ?_))⟩
    rw [← Frame.raise_at]; exact step_leave_panicked hleave
theorem dfr_steps (hx : ops[i]? = some x) (hw : Region.wanted x (yielded ops a.tmps) = true) {d : Deferred} (hr : (execOp a.eval x).run P w = .ok (.defer d) w) :
    Steps P (lone (b.at a (.inRegion ops (i :: rest) :: k)) cs w) (lone (b.at (({ a with defers := d :: a.defers } : Act).put x.dst undef) (.inRegion ops rest :: k)) cs w) := by
  have hg := stepG_op (P := P) (b := b) (k := k) (cs := cs) (w := w) (rest := rest) hx hw
  refine .one (step_lone_go ?_)
  have : ({ b.at a (.inRegion ops (i :: rest) :: k) with defers := d :: a.defers } : Frame).finish undef =
      b.at ({ a with defers := d :: a.defers }.put x.dst undef) (.inRegion ops rest :: k) := by
    have := Frame.finish_at b { a with defers := d :: a.defers } ops i rest k undef
    rw [hx] at this; exact this
  rw [hg]; simp only [stepG.apply, Sem.runT_eq, hr, GStep.bare_after]
  exact congrArg (fun fr => GStep.go { frame := fr, callers := cs, status := .running, dying := none } w) this
theorem rcv_steps (hx : ops[i]? = some x) (hw : Region.wanted x (yielded ops a.tmps) = true) (hr : (execOp a.eval x).run P w = .ok .recover w) (hh : Home σ m b cs0 cs) :
    ∃ cs', Home σ (recoverA m).2 b cs0 cs' ∧ Steps P (lone (b.at a (.inRegion ops (i :: rest) :: k)) cs w) (lone (b.at (a.put x.dst (conc σ (recoverA m).1)) (.inRegion ops rest :: k)) cs' w) := by
  have hg := stepG_op (P := P) (b := b) (k := k) (cs := cs) (w := w) (rest := rest) hx hw
  have hfin := fin_at (b := b) (a := a) (k := k) (rest := rest) hx
  -- nothing to recover
  have none_ : tryRecover (b.at a (.inRegion ops (i :: rest) :: k)) cs = none →
      Steps P (lone (b.at a (.inRegion ops (i :: rest) :: k)) cs w) (lone (b.at (a.put x.dst .nilIface) (.inRegion ops rest :: k)) cs w) := by
    intro htr
    refine .one (step_lone_go ?_)
    rw [hg, ← hfin]
    simp only [Frame.at] at htr ⊢
    simp [stepG.apply, hr, htr]
  have some_ : ∀ v cs', tryRecover (b.at a (.inRegion ops (i :: rest) :: k)) cs = some (v, cs') →
      Steps P (lone (b.at a (.inRegion ops (i :: rest) :: k)) cs w) (lone (b.at (a.put x.dst v) (.inRegion ops rest :: k)) cs' w) := by
    intro v cs' htr
    refine .one (step_lone_go ?_)
    rw [hg, ← hfin]
    simp only [Frame.at] at htr ⊢
    simp [stepG.apply, hr, htr]
  cases m with
  | run =>
    obtain ⟨hk, rfl⟩ := hh
    refine ⟨cs, ⟨hk, rfl⟩, ?_⟩
    exact none_ (by cases cs <;> simp [tryRecover, Frame.at, hk])
  | returning =>
    obtain ⟨hk, c, r, h1, h2⟩ := hh
    refine ⟨cs, ⟨hk, c, r, h1, h2⟩, ?_⟩
    have hk' : (b.at a (.inRegion ops (i :: rest) :: k)).kind = .deferred := hk
    exact none_ (by rw [tryRecover_deferred hk', h2]; rfl)
  | panicking ch =>
    obtain ⟨hk, c, r, h1, h2⟩ := hh
    have hk' : (b.at a (.inRegion ops (i :: rest) :: k)).kind = .deferred := hk
    cases ch with
    | nil => exact ⟨cs, ⟨hk, c, r, h1, h2⟩, none_ (by rw [tryRecover_deferred hk', h2]; rfl)⟩
    | cons p ch =>
      obtain ⟨v, rec⟩ := p
      cases rec with
      | true => exact ⟨cs, ⟨hk, c, r, h1, h2⟩, none_ (by rw [tryRecover_deferred hk', h2]; rfl)⟩
      | false =>
        refine ⟨{ c with mode := concM σ (.panicking (⟨v, true⟩ :: ch)) } :: r, ⟨hk, c, r, h1, rfl⟩, some_ (conc σ v) _ ?_⟩
        rw [tryRecover_deferred hk', h2]; rfl
theorem skip_steps (hx : ops[i]? = some x) (hw : Region.wanted x (yielded ops a.tmps) = false) :
    Steps P (lone (b.at a (.inRegion ops (i :: rest) :: k)) cs w) (lone (b.at (a.put x.dst undef) (.inRegion ops rest :: k)) cs w) := by
  have hs := step_op_skip (P := P) (b := b) (a := a) (k := k) (cs := cs) (w := w) (ops := ops) (i := i) (rest := rest) (by simp [hx, hw])
  simp only [hx, Option.bind_some] at hs
  exact .one hs
end

/-! A value written down. -/
theorem forceN_eq {β : Type} (n : Nat) (f : Nat → β) : forceN n f = f n := by cases n <;> rfl
theorem forceI_eq (k : IntKind) (n : Int) (f : AVal → CR) : forceI k n f = f (.int false k n) := by
  cases n <;> simp only [forceI, forceN_eq]
theorem forceW_eq {β : Type} (A : AW) (f : AW → β) : forceW A f = f A := by
  cases A; show forceN _ (fun nx => forceN _ fun es => f ⟨nx, es, _⟩) = _; simp only [forceN_eq]
theorem forceX_eq {β : Type} (e : SX) : ∀ f : SX → β, forceX e f = f e := by
  induction e with
  | nil => intro f; rfl
  | cs w n r ih => intro f; show forceN w (fun w => forceN n fun n => forceX r fun r => f (.cs w n r)) = _; simp only [forceN_eq, ih]
  | sl w lo e r ihe ihr => intro f; show forceN w (fun w => forceN lo fun lo => forceX e fun e => forceX r fun r => f (.sl w lo e r)) = _; simp only [forceN_eq, ihe, ihr]
  | vr i => intro f; show forceN i (fun i => f (.vr i)) = _; rw [forceN_eq]
  | bv i => intro f; show forceN i (fun i => f (.bv i)) = _; rw [forceN_eq]
  | num n => intro f; cases n with
    | ofNat m => show forceN m (fun m => f (.num (.ofNat m))) = _; rw [forceN_eq]
    | negSucc m => show forceN m (fun m => f (.num (.negSucc m))) = _; rw [forceN_eq]
  | tm c a r iha ihr => intro f; cases c with
    | ofNat m => show forceN m (fun m => forceX a fun a => forceX r fun r => f (.tm (.ofNat m) a r)) = _; simp only [forceN_eq, iha, ihr]
    | negSucc m => show forceN m (fun m => forceX a fun a => forceX r fun r => f (.tm (.negSucc m) a r)) = _; simp only [forceN_eq, iha, ihr]
  | sx w e ih => intro f; show forceN w (fun w => forceX e fun e => f (.sx w e)) = _; simp only [forceN_eq, ih]
  | op o k a b iha ihb => intro f; show forceX a (fun a => forceX b fun b => f (.op o k a b)) = _; simp only [iha, ihb]
  | cmp o a b iha ihb => intro f; show forceX a (fun a => forceX b fun b => f (.cmp o a b)) = _; simp only [iha, ihb]
  | no a ih => intro f; show forceX a (fun a => f (.no a)) = _; simp only [ih]
  | ite c a b ihc iha ihb => intro f; show forceX c (fun c => forceX a fun a => forceX b fun b => f (.ite c a b)) = _; simp only [ihc, iha, ihb]
theorem fixB_ok {o : Orc} {d : Nat} {v : AVal} {b : Bool} {f : Orc → AVal → CR} {r : CR} (h : fixB o d v b f = r) (hv : ∀ σ, conc σ v = .bool b) (ht : topOf v = 0) :
    ∃ o' v', f o' v' = r ∧ o.Le o' ∧ (Owed o' → ∀ σ, conc σ v' = conc σ v) ∧ topOf v' = topOf v := by
  unfold fixB at h
  split at h
  · rename_i t m' rr hp
    cases hb : Nat.beq t d with
    | false => rw [hb, eB_false] at h; exact ⟨o, _, h, Orc.Le.refl _, fun _ _ => rfl, rfl⟩
    | true =>
      rw [hb, eB_true] at h
      exact ⟨_, _, h, Orc.le_cons o _ _, fun ho σ => by
        have : b = nz m' := ho _ List.mem_cons_self
        rw [hv σ, this]; rfl, by rw [ht]; rfl⟩
  · exact ⟨o, _, h, Orc.Le.refl _, fun _ _ => rfl, rfl⟩
theorem forceV_ok {o : Orc} {d : Nat} {v : AVal} {f : Orc → AVal → CR} {r : CR} (h : forceV o d v f = r) :
    ∃ o' v', f o' v' = r ∧ o.Le o' ∧ (Owed o' → ∀ σ, conc σ v' = conc σ v) ∧ topOf v' = topOf v := by
  unfold forceV at h
  split at h
  · rename_i s k m
    cases s with
    | false => rw [eB_false, forceI_eq] at h; exact ⟨o, _, h, Orc.Le.refl _, fun _ _ => rfl, rfl⟩
    | true =>
      rw [eB_true] at h
      unfold fixI at h
      split at h
      · rename_i t m' rr hp
        cases hb : Nat.beq t d with
        | false => rw [hb, eB_false] at h; exact ⟨o, _, h, Orc.Le.refl _, fun _ _ => rfl, rfl⟩
        | true =>
          rw [hb, eB_true] at h
          exact ⟨_, _, h, Orc.le_cons o _ _, fun ho σ => by
            have : m = m' := ho _ List.mem_cons_self
            simp [conc, this], rfl⟩
      · exact ⟨o, _, h, Orc.Le.refl _, fun _ _ => rfl, rfl⟩
  · rename_i s t
    cases s with
    | true => rw [eB_true] at h; exact fixB_ok h (fun σ => rfl) rfl
    | false =>
      rw [eB_false] at h
      cases t with
      | true => rw [eB_true] at h; exact ⟨o, _, h, Orc.Le.refl _, fun _ _ => rfl, rfl⟩
      | false => rw [eB_false] at h; exact ⟨o, _, h, Orc.Le.refl _, fun _ _ => rfl, rfl⟩
  · simp only [forceN_eq] at h; exact ⟨o, _, h, Orc.Le.refl _, fun _ _ => rfl, rfl⟩
  · simp only [forceN_eq] at h; exact ⟨o, _, h, Orc.Le.refl _, fun _ _ => rfl, rfl⟩
  · rename_i k e
    rw [forceX_eq] at h
    unfold fixX at h
    split at h
    · rename_i t m' rr hp
      cases hb : Nat.beq t d with
      | false => rw [hb, eB_false] at h; exact ⟨o, _, h, Orc.Le.refl _, fun _ _ => rfl, rfl⟩
      | true =>
        rw [hb, eB_true] at h
        exact ⟨_, _, h, Orc.le_cons o _ _, fun ho σ => by
          have : k.wrap e.val = m' := ho _ List.mem_cons_self
          simp [conc, this], rfl⟩
    · exact ⟨o, _, h, Orc.Le.refl _, fun _ _ => rfl, rfl⟩
  · rw [forceX_eq] at h; exact fixB_ok h (fun σ => rfl) rfl
  · exact ⟨o, _, h, Orc.Le.refl _, fun _ _ => rfl, rfl⟩
theorem goOn_ok {n : Nat} {ih : Cont} {tm : T AVal} {ds : List ADef} {m : AMode} {A : AW} {o : Orc} {dst : Option Nat} {v : AVal} {e : AExit} {tm' : T AVal} {ds' : List ADef} {m' : AMode} {A' : AW} {o' : Orc}
    (h : goOn n ih tm ds m A o dst v = .out e tm' ds' m' A' o') :
    ∃ o1 v1, ih (putO tm dst v1) ds m A o1 = .out e tm' ds' m' A' o' ∧ o.Le o1 ∧ (Owed o1 → ∀ σ, conc σ v1 = conc σ v) ∧ topOf v1 = topOf v ∧ ∀ d, dst = some d → d < n := by
  cases dst with
  | none => exact ⟨o, v, h, Orc.Le.refl _, fun _ _ => rfl, rfl, fun d hd => by cases hd⟩
  | some d =>
    have h' : eB (Nat.blt d n) .fail (forceV o d v fun o v => ih (tm.upd d v) ds m A o) = .out e tm' ds' m' A' o' := h
    cases hb : Nat.blt d n with
    | false => rw [hb, eB_false] at h'; cases h'
    | true =>
      rw [hb, eB_true] at h'
      obtain ⟨o1, v1, h1, h2, h3, h4⟩ := forceV_ok h'
      exact ⟨o1, v1, h1, h2, h3, h4, fun d' hd => by cases hd; exact (blt_iff _ _).1 hb⟩
end Go.Ev
