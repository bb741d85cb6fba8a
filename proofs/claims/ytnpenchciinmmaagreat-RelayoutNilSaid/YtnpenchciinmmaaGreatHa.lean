/-
  The machine's walker: a function's code is walked once, branches are parted where they come; each step is a lemma whose last argument is a tactic.
-/
import Derived.Test.YtnpenchciinmmaaGreatG4
import Derived.Test.YtnpenchciinmmaaGreatAz
namespace Go.Proofs.YtnpenchciinmmaaGreat
open Go.RowKit
set_option linter.unusedSimpArgs false
set_option linter.unusedVariables false
set_option maxRecDepth 100000

/-! plain regions: from one guard, or call, to the next -/
def runH (P : Program) (ds : List (Option Nat)) : Nat → Bool → List Oper → St → Option (List Oper × St)
  | _, true, [], _ => none
  | _, false, [], s => some ([], s)
  | 0, _, l, s => some (l, s)
  | n + 1, true, o :: r, s => match gateS ds s.t o.guard with
    | some true => match isCall o.op with
      | false => match stepF P o s with
        | some s' => runH P ds n false r s'
        | none => none
      | true => none
    | some false => runH P ds n false r (s.put o.dst (.tup []))
    | none => none
  | n + 1, false, o :: r, s => match o.guard with
    | some _ => some (o :: r, s)
    | none => match isCall o.op with
      | false => match stepF P o s with
        | some s' => runH P ds n false r s'
        | none => none
      | true => some (o :: r, s)
section
variable {P : Program} {K : St → Prop} {ops : List Oper}
theorem aops_h {ds : List (Option Nat)} (hd : ops.map (·.dst) = ds) : ∀ (n : Nat) (b : Bool) {l l' : List Oper} {s s' : St}, runH P ds n b l s = some (l', s') → aops P ops K l' s' → aops P ops K l s
  | n, true, [], l', s, s', h, hK => by simp [runH] at h
  | n, false, [], l', s, s', h, hK => by simp only [runH, Option.some.injEq, Prod.mk.injEq] at h; obtain ⟨rfl, rfl⟩ := h; exact hK
  | 0, b, o :: r, l', s, s', h, hK => by simp only [runH, Option.some.injEq, Prod.mk.injEq] at h; obtain ⟨rfl, rfl⟩ := h; exact hK
  | n + 1, true, o :: r, l', s, s', h, hK => by
    subst hd
    unfold runH at h
    rw [gateS_eq] at h
    split at h
    · rename_i hg
      split at h
      · rename_i hc
        split at h
        · rename_i s1 hs
          have ih := aops_h rfl n _ h hK
          unfold stepF at hs
          split at hs
          · rename_i v t hap
            cases hs
            unfold aops
            refine awant_true hg ?_
            unfold aoper
            rw [callOf_none hc]
            simp only
            rw [hap]
            exact ih
          · cases hs
        · cases h
      · cases h
    · rename_i hg
      unfold aops
      exact awant_false hg (aops_h rfl n _ h hK)
    · cases h
  | n + 1, false, o :: r, l', s, s', h, hK => by
    subst hd
    unfold runH at h
    split at h
    · simp only [Option.some.injEq, Prod.mk.injEq] at h; obtain ⟨rfl, rfl⟩ := h; exact hK
    · rename_i hgn
      have hg : gate ops s.t o.guard = some true := by rw [hgn]; rfl
      split at h
      · rename_i hc
        split at h
        · rename_i s1 hs
          have ih := aops_h rfl n _ h hK
          unfold stepF at hs
          split at hs
          · rename_i v t hap
            cases hs
            unfold aops
            refine awant_true hg ?_
            unfold aoper
            rw [callOf_none hc]
            simp only
            rw [hap]
            exact ih
          · cases hs
        · cases h
      · simp only [Option.some.injEq, Prod.mk.injEq] at h; obtain ⟨rfl, rfl⟩ := h; exact hK
end
/-! regions that draw -/
def runDH (P : Program) (ds : List (Option Nat)) : Nat → Bool → List Oper → List (Option Nat × Option Nat) → St → Option (List Oper × List (Option Nat × Option Nat) × St)
  | _, true, [], _, _ => none
  | _, false, [], ks, s => some ([], ks, s)
  | 0, _, l, ks, s => some (l, ks, s)
  | n + 1, true, o :: r, ks, s => match gateS ds s.t o.guard with
    | some true => match isCall o.op with
      | false => match stepD P o s with
        | some (e, s') => runDH P ds n false r (ks ++ [e.ks]) s'
        | none => none
      | true => none
    | some false => runDH P ds n false r (ks ++ [(none, none)]) (s.put o.dst (.tup []))
    | none => none
  | n + 1, false, o :: r, ks, s => match o.guard with
    | some _ => some (o :: r, ks, s)
    | none => match isCall o.op with
      | false => match stepD P o s with
        | some (e, s') => runDH P ds n false r (ks ++ [e.ks]) s'
        | none => none
      | true => some (o :: r, ks, s)
section
variable {P : Program} {K : St → Prop} {ops : List Oper}
theorem ak_step {o : Oper} {r : List Oper} {ks : List (Option Nat × Option Nat)} {s s1 : St} {e : Ef} (hg : gate ops s.t o.guard = some true) (hc : isCall o.op = false) (hs : stepD P o s = some (e, s1)) (ih : AK P ops K r (ks ++ [e.ks]) s1) : AK P ops K (o :: r) ks s := fun acc hacc => by
  unfold stepD at hs
  split at hs
  · rename_i v t hap
    simp only [Option.some.injEq, Prod.mk.injEq] at hs
    obtain ⟨rfl, rfl⟩ := hs
    unfold adraw
    refine awant_true hg ?_
    unfold aoperE
    rw [callOf_none hc]
    simp only
    rw [hap]
    exact ih _ (by rw [List.map_append, hacc]; rfl)
  · cases hs
theorem ak_off {o : Oper} {r : List Oper} {ks : List (Option Nat × Option Nat)} {s : St} (hg : gate ops s.t o.guard = some false) (ih : AK P ops K r (ks ++ [(none, none)]) (s.put o.dst (.tup []))) : AK P ops K (o :: r) ks s := fun acc hacc => by
  unfold adraw
  exact awant_false hg (ih _ (by rw [List.map_append, hacc]; rfl))
theorem ak_h {ds : List (Option Nat)} (hd : ops.map (·.dst) = ds) : ∀ (n : Nat) (b : Bool) {l l' : List Oper} {ks ks' : List (Option Nat × Option Nat)} {s s' : St}, runDH P ds n b l ks s = some (l', ks', s') → AK P ops K l' ks' s' → AK P ops K l ks s
  | n, true, [], l', ks, ks', s, s', h, hK => by simp [runDH] at h
  | n, false, [], l', ks, ks', s, s', h, hK => by simp only [runDH, Option.some.injEq, Prod.mk.injEq] at h; obtain ⟨rfl, rfl, rfl⟩ := h; exact hK
  | 0, b, o :: r, l', ks, ks', s, s', h, hK => by simp only [runDH, Option.some.injEq, Prod.mk.injEq] at h; obtain ⟨rfl, rfl, rfl⟩ := h; exact hK
  | n + 1, true, o :: r, l', ks, ks', s, s', h, hK => by
    subst hd
    unfold runDH at h
    rw [gateS_eq] at h
    split at h
    · rename_i hg
      split at h
      · rename_i hc
        split at h
        · rename_i e s1 hs
          exact ak_step hg hc hs (ak_h rfl n _ h hK)
        · cases h
      · cases h
    · rename_i hg
      exact ak_off hg (ak_h rfl n _ h hK)
    · cases h
  | n + 1, false, o :: r, l', ks, ks', s, s', h, hK => by
    subst hd
    unfold runDH at h
    split at h
    · simp only [Option.some.injEq, Prod.mk.injEq] at h; obtain ⟨rfl, rfl, rfl⟩ := h; exact hK
    · rename_i hgn
      have hg : gate ops s.t o.guard = some true := by rw [hgn]; rfl
      split at h
      · rename_i hc
        split at h
        · rename_i e s1 hs
          exact ak_step hg hc hs (ak_h rfl n _ h hK)
        · cases h
      · simp only [Option.some.injEq, Prod.mk.injEq] at h; obtain ⟨rfl, rfl, rfl⟩ := h; exact hK
/-! calls -/
def callOk (P : Program) (f : FuncId) : Bool := match P.funcs[f]? with
  | some fn => fn.body.isSome && !(fn.name == "runtime.NumGoroutine")
  | none => false
theorem callOk_ok {f : FuncId} (h : callOk P f = true) : ∃ fn, P.funcs[f]? = some fn ∧ fn.body.isSome = true ∧ (fn.name == "runtime.NumGoroutine") = false := by
  unfold callOk at h
  split at h
  · rename_i fn hf
    simp only [Bool.and_eq_true, Bool.not_eq_true'] at h
    exact ⟨fn, hf, h.1, h.2⟩
  · cases h
theorem aops_c2 {o : Oper} {r : List Oper} {s : St} {f : FuncId} {args' : List V} {res : V} (hac : AC P f args' res) (hok : callOk P f = true) (hg : gate ops s.t o.guard = some true) (hc : pubCall (ev s.t) o.op = some (f, args'))
    (h : aops P ops K r (s.step o.dst res none)) : aops P ops K (o :: r) s :=
  let ⟨_, h1, h2, h3⟩ := callOk_ok hok
  aops_c hac h1 h2 h3 hg hc h
theorem ak_c2 {o : Oper} {r : List Oper} {ks : List (Option Nat × Option Nat)} {s : St} {f : FuncId} {args' : List V} {res : V} (hac : AC P f args' res) (hok : callOk P f = true) (hg : gate ops s.t o.guard = some true) (hc : pubCall (ev s.t) o.op = some (f, args'))
    (h : AK P ops K r (ks ++ [(none, none)]) (s.step o.dst res none)) : AK P ops K (o :: r) ks s :=
  let ⟨_, h1, h2, h3⟩ := callOk_ok hok
  ak_c hac h1 h2 h3 hg hc h
/-! a guard that is not decided -/
theorem set_self {α : Type} {l : List α} {d : Nat} {v dflt : α} (h : l.getD d dflt = v) (hd : d < l.length) : l.set d v = l := by
  have e : l[d] = v := by
    rw [List.getD_eq_getElem?_getD, List.getElem?_eq_getElem hd] at h
    simpa using h
  rw [← e]
  exact List.set_getElem_self hd
theorem split_st {s : St} {d : Nat} {b b' : Bool} (hv : s.t.getD d .any = .c (.bool b)) (e : b = b') : (⟨s.t.set d (.c (.bool b')), s.h⟩ : St) = s := by
  subst e
  have hd : d < s.t.length := Classical.byContradiction fun h => by
    rw [List.getD_eq_getElem?_getD, List.getElem?_eq_none (by omega)] at hv
    cases hv
  rw [set_self hv hd]
end
/-! what an operation waits for, each once -/
def predsU (l : List Oper) : List (List Nat) := l.foldl (fun acc o => acc ++ [((edgesOf o).flatMap fun j => j :: acc.getD j []).eraseDups]) []
theorem getD_snoc {α : Type} (l : List α) (x d : α) (i : Nat) : (l ++ [x]).getD i d = if i = l.length then x else l.getD i d := by
  simp only [List.getD_eq_getElem?_getD]
  rcases Nat.lt_trichotomy i l.length with h | h | h
  · rw [List.getElem?_append_left h, if_neg (by omega)]
  · subst h; simp
  · rw [List.getElem?_eq_none (by simp; omega), List.getElem?_eq_none (by omega), if_neg (by omega)]
theorem preds_mem : ∀ (l : List Oper) (A B : List (List Nat)), A.length = B.length → (∀ i j, j ∈ A.getD i [] ↔ j ∈ B.getD i []) → ∀ i j, j ∈ (l.foldl (fun acc o => acc ++ [(edgesOf o).flatMap fun j => j :: acc.getD j []]) A).getD i [] ↔ j ∈ (l.foldl (fun acc o => acc ++ [((edgesOf o).flatMap fun j => j :: acc.getD j []).eraseDups]) B).getD i []
  | [], _, _, _, h => h
  | o :: l, A, B, hl, h => by
    simp only [List.foldl_cons]
    refine preds_mem l _ _ (by simp [hl]) fun i j => ?_
    rw [getD_snoc, getD_snoc, hl]
    split
    · simp only [List.mem_eraseDups, List.mem_flatMap, List.mem_cons, h]
    · exact h i j
theorem commRow_congr {l : List Oper} {ks : Ks} {T U : List (List Nat)} (h : ∀ i j, j ∈ T.getD i [] ↔ j ∈ U.getD i []) (i : Nat) : commRow l ks T i = commRow l ks U i := by
  have e1 : (T.getD i []).all (fun j => decide (j < i)) = (U.getD i []).all (fun j => decide (j < i)) := by
    rw [Bool.eq_iff_iff, List.all_eq_true, List.all_eq_true]
    exact ⟨fun k j hj => k j ((h i j).2 hj), fun k j hj => k j ((h i j).1 hj)⟩
  have e2 : ∀ j, (T.getD i []).contains j = (U.getD i []).contains j := fun j => by
    rw [Bool.eq_iff_iff, List.contains_iff_mem, List.contains_iff_mem]; exact h i j
  unfold commRow
  simp only [e1, e2]
def commU (l : List Oper) (ks : Ks) : Bool := (List.range l.length).all (commRow l ks (predsU l))
theorem commU_ok {l : List Oper} {ks : Ks} (h : commU l ks = true) : commB l ks = true := by
  unfold commU at h
  unfold commB
  have e : commRow l ks (predsT l) = commRow l ks (predsU l) := funext fun i => commRow_congr (preds_mem l [] [] rfl fun _ _ => Iff.rfl) i
  rw [e]; exact h
theorem ak_doneU {P : Program} {ops : List Oper} {K : St → Prop} {ks : List (Option Nat × Option Nat)} {s : St} (hc : commU ops ks = true) (h : K s) : AK P ops K [] ks s := ak_done (commU_ok hc) h
/-! the steps -/
/-- what is left of a plain region, of one that draws (goals that no unfolding of types runs) -/
structure AH (P : Program) (ops : List Oper) (K : St → Prop) (l : List Oper) (s : St) : Prop where
  out : aops P ops K l s
structure AJ (P : Program) (ops : List Oper) (K : St → Prop) (l : List Oper) (ks : List (Option Nat × Option Nat)) (s : St) : Prop where
  out : AK P ops K l ks s
section
variable {P : Program} {ops : List Oper}
theorem AH.reg {m : Mo} {id : Nat} {K : Exit → St → Prop} {s : St} (h : AH P ops (K .normal) ops s) : AW m P (.region id ops.toArray false) K s := AW.region h.out
theorem AH.done {K : St → Prop} {s : St} (h : K s) : AH P ops K [] s := ⟨h⟩
theorem AH.h {K : St → Prop} {ds : List (Option Nat)} (hd : ops.map (·.dst) = ds) (n : Nat) (b : Bool) {l l' : List Oper} {s s' : St} (hr : runH P ds n b l s = some (l', s')) (h : AH P ops K l' s') : AH P ops K l s := ⟨aops_h hd n b hr h.out⟩
theorem AH.c2 {K : St → Prop} {o : Oper} {r : List Oper} {s : St} {f : FuncId} {args' : List V} {res : V} (hac : AC P f args' res) (hok : callOk P f = true) (hg : gate ops s.t o.guard = some true) (hc : pubCall (ev s.t) o.op = some (f, args'))
    (h : AH P ops K r (s.step o.dst res none)) : AH P ops K (o :: r) s := ⟨aops_c2 hac hok hg hc h.out⟩
theorem AJ.reg {m : Mo} {id : Nat} {K : Exit → St → Prop} {s : St} (hm : P.follows .mixedOrders = true) (hd : m.rd = none ∨ noDefer ops = true) (h : AJ P ops (K .normal) ops [] s) : AW m P (.region id ops.toArray true) K s := AW.drawK hm hd h.out
theorem AJ.done {K : St → Prop} {ks : List (Option Nat × Option Nat)} {s : St} (hc : commU ops ks = true) (h : K s) : AJ P ops K [] ks s := ⟨ak_doneU hc h⟩
theorem AJ.h {K : St → Prop} {ds : List (Option Nat)} (hd : ops.map (·.dst) = ds) (n : Nat) (b : Bool) {l l' : List Oper} {ks ks' : List (Option Nat × Option Nat)} {s s' : St} (hr : runDH P ds n b l ks s = some (l', ks', s')) (h : AJ P ops K l' ks' s') : AJ P ops K l ks s := ⟨ak_h hd n b hr h.out⟩
theorem AJ.c2 {K : St → Prop} {o : Oper} {r : List Oper} {ks : List (Option Nat × Option Nat)} {s : St} {f : FuncId} {args' : List V} {res : V} (hac : AC P f args' res) (hok : callOk P f = true) (hg : gate ops s.t o.guard = some true) (hc : pubCall (ev s.t) o.op = some (f, args'))
    (h : AJ P ops K r (ks ++ [(none, none)]) (s.step o.dst res none)) : AJ P ops K (o :: r) ks s := ⟨ak_c2 hac hok hg hc h.out⟩
end
/-- the flow of control -/
theorem stW {p q : Prop} (h : q) (k : q → p := by
  intro h
  (with_reducible first | refine AW.seq ?_ | refine AW.block ?_ | refine aThen_n ?_ | refine aBlk_n ?_ | refine AW.ret ?_ | refine aThen_r ?_ | refine aBlk_r ?_ | refine AH.done ?_ | refine AW.skip ?_ | refine AW.exit ?_ | refine aThen_e ?_ | refine aBlk_hit ?_ | refine AW.label ?_ | refine AW.scope ?_ | refine aNg_n ?_ | refine aNg_r ?_ | refine aNg_e ?_ | refine AH.reg ?_ | refine AJ.reg mixedP (.inl rfl) ?_ | refine AJ.reg mixedP (.inr (by decide)) ?_ | refine AJ.done (by kernel_rfl) ?_ | refine aBlk_miss (by decide) ?_)
  repeat (with_reducible first | refine AW.seq ?_ | refine AW.block ?_ | refine aThen_n ?_ | refine aBlk_n ?_ | refine AW.ret ?_ | refine aThen_r ?_ | refine aBlk_r ?_ | refine AH.done ?_ | refine AW.skip ?_ | refine AW.exit ?_ | refine aThen_e ?_ | refine aBlk_hit ?_ | refine AW.label ?_ | refine AW.scope ?_ | refine aNg_n ?_ | refine aNg_r ?_ | refine aNg_e ?_ | refine AH.reg ?_ | refine AJ.reg mixedP (.inl rfl) ?_ | refine AJ.reg mixedP (.inr (by decide)) ?_ | refine AJ.done (by kernel_rfl) ?_ | refine aBlk_miss (by decide) ?_)
  with_reducible exact h) : p := k h
def RegN (_ : Nat) : Prop := True
theorem RegN.mk (n : Nat) : RegN n := trivial
theorem AH.regN {m : Mo} {P : Program} {id : Nat} {ops : List Oper} {K : Exit → St → Prop} {s : St} {n : Nat} (_ : RegN n) (_ : Nat.beq id n = false) (h : AH P ops (K .normal) ops s) : AW m P (.region id ops.toArray false) K s := AH.reg h
theorem AJ.regN {m : Mo} {P : Program} {id : Nat} {ops : List Oper} {K : Exit → St → Prop} {s : St} {n : Nat} (_ : RegN n) (_ : Nat.beq id n = false) (hm : P.follows .mixedOrders = true) (hd : m.rd = none ∨ noDefer ops = true) (h : AJ P ops (K .normal) ops [] s) : AW m P (.region id ops.toArray true) K s := AJ.reg hm hd h
/-- the flow of control, but region n is not opened -/
theorem stN {p q : Prop} {n : Nat} (m : RegN n) (h : q) (k : RegN n → q → p := by
  intro m h
  (with_reducible first | refine AW.seq ?_ | refine AW.block ?_ | refine aThen_n ?_ | refine aBlk_n ?_ | refine AW.ret ?_ | refine aThen_r ?_ | refine aBlk_r ?_ | refine AH.done ?_ | refine AW.skip ?_ | refine AW.exit ?_ | refine aThen_e ?_ | refine aBlk_hit ?_ | refine AW.label ?_ | refine AW.scope ?_ | refine aNg_n ?_ | refine aNg_r ?_ | refine aNg_e ?_ | refine AH.regN m rfl ?_ | refine AJ.regN m rfl mixedP (.inl rfl) ?_ | refine AJ.regN m rfl mixedP (.inr (by decide)) ?_ | refine AJ.done (by kernel_rfl) ?_ | refine aBlk_miss (by decide) ?_)
  repeat (with_reducible first | refine AW.seq ?_ | refine AW.block ?_ | refine aThen_n ?_ | refine aBlk_n ?_ | refine AW.ret ?_ | refine aThen_r ?_ | refine aBlk_r ?_ | refine AH.done ?_ | refine AW.skip ?_ | refine AW.exit ?_ | refine aThen_e ?_ | refine aBlk_hit ?_ | refine AW.label ?_ | refine AW.scope ?_ | refine aNg_n ?_ | refine aNg_r ?_ | refine aNg_e ?_ | refine AH.regN m rfl ?_ | refine AJ.regN m rfl mixedP (.inl rfl) ?_ | refine AJ.regN m rfl mixedP (.inr (by decide)) ?_ | refine AJ.done (by kernel_rfl) ?_ | refine aBlk_miss (by decide) ?_)
  with_reducible exact h) : p := k m h
/-- operations, till the next guard or call -/
theorem ruW {F p q : Prop} (f : F) (h : q) (k : F → q → p := by
  intro f h
  first
  | (with_reducible refine AH.h (by simp only [List.append_eq, List.cons_append, List.nil_append, List.map_cons, List.map_nil]; exact rfl) 4 true (by as_aux_lemma => (simp (disch := first | assumption | (simp <;> fail) | omega) [runH, gateS, wrap_i64, if_pos, if_neg, List.replicate_succ, f]; first | exact rfl | exact ⟨rfl, rfl⟩)) ?_)
  | (with_reducible refine AJ.h (by simp only [List.append_eq, List.cons_append, List.nil_append, List.map_cons, List.map_nil]; exact rfl) 4 true (by as_aux_lemma => (simp (disch := first | assumption | (simp <;> fail) | omega) [runDH, gateS, Ef.ks, wrap_i64, if_pos, if_neg, List.replicate_succ, f]; first | exact rfl | exact ⟨rfl, rfl, rfl⟩)) ?_)
  with_reducible exact h) : p := k f h
/-- a call -/
theorem caW {F p q : Prop} {P : Program} {g : FuncId} {args : List V} {res : V} (f : F) (hac : AC P g args res) (h : q) (k : F → AC P g args res → q → p := by
  intro f c h
  (with_reducible first | refine AH.c2 c (by first | (simp only [f]; done) | kernel_rfl) ?_ ?_ ?_ | refine AJ.c2 c (by first | (simp only [f]; done) | kernel_rfl) ?_ ?_ ?_)
  focus (simp [gate, f] <;> fail)
  focus (simp (disch := first | assumption | (simp <;> fail) | omega) [pubCall, wrap_i64, f] <;> fail)
  (simp only [St.step, St.put, updH]; with_reducible exact h)) : p := k f hac h
/-- a leaf -/
theorem lfW {F p : Prop} (f : F) (k : F → p := by
  intro f
  with_reducible show aRet _ _ _ _ _
  simp (disch := first | assumption | (simp <;> fail) | omega) [aRet, ares, aresL, ares1, V.pub, V.pubs, ldV, wrap_i64, *] <;> fail) : p := k f
/-- a branch that is decided -/
theorem cdW {F p q : Prop} (f : F) (h : q) (k : F → q → p := by
  intro f h
  first
  | ((with_reducible refine cond_t ?_ ?_); focus (simp [ev, f]; done))
  | ((with_reducible refine cond_f ?_ ?_); focus (simp [ev, f]; done))
  with_reducible exact h) : p := k f h
/-- (a mark: no literal) -/
def NotLit (_ : Bool) : Prop := True
theorem NotLit.t : NotLit true := trivial
theorem NotLit.f : NotLit false := trivial
theorem NotLit.mk (b : Bool) : NotLit b := trivial
/-- a branch that is not decided -/
theorem cond_v {m : Mo} {P : Program} {K : Exit → St → Prop} {s : St} {c : Operand} {d d' : Code} {b : Bool} {v : V} (hv : ev s.t c = v) (hb : v = .c (.bool b)) (hl : NotLit b) (h : b = true → AW m P d K s) (h' : b = false → AW m P d' K s) : AW m P (.cond c d d') K s := AW.cond (by rw [hv, hb]; exact ⟨h, h'⟩)
def gval (ops : List Oper) (t : List V) : Option (Nat × Bool) → V
  | none => .any
  | some (j, _) => match (ops[j]?).bind (·.dst) with
    | some d => t.getD d .any
    | none => .any
def setG (ops : List Oper) (t : List V) (b : Bool) : Option (Nat × Bool) → List V
  | none => t
  | some (j, _) => match (ops[j]?).bind (·.dst) with
    | some d => t.set d (.c (.bool b))
    | none => t
theorem setG_eq {ops : List Oper} {s : St} {g : Option (Nat × Bool)} {b b' : Bool} {v : V} (hv : gval ops s.t g = v) (hb : v = .c (.bool b)) (e : b = b') : (⟨setG ops s.t b' g, s.h⟩ : St) = s := by
  subst hb
  unfold gval at hv
  unfold setG
  cases g with
  | none => rfl
  | some p =>
    obtain ⟨j, w⟩ := p
    simp only at hv ⊢
    cases hd : (ops[j]?).bind (·.dst) with
    | none => rfl
    | some d => rw [hd] at hv; exact split_st hv e
theorem aops_split2 {P : Program} {K : St → Prop} {ops : List Oper} {o : Oper} {r : List Oper} {s : St} {b : Bool} {v : V} {t1 t2 : List V} (hv : gval ops s.t o.guard = v) (hb : v = .c (.bool b)) (hl : NotLit b) (e1 : setG ops s.t true o.guard = t1) (e2 : setG ops s.t false o.guard = t2)
    (h1 : b = true → aops P ops K (o :: r) ⟨t1, s.h⟩) (h2 : b = false → aops P ops K (o :: r) ⟨t2, s.h⟩) : aops P ops K (o :: r) s := by
  subst e1 e2
  cases e : b with
  | true => have := h1 e; rwa [setG_eq hv hb e] at this
  | false => have := h2 e; rwa [setG_eq hv hb e] at this
theorem AH.split2 {P : Program} {K : St → Prop} {ops : List Oper} {o : Oper} {r : List Oper} {s : St} {b : Bool} {v : V} {t1 t2 : List V} (hv : gval ops s.t o.guard = v) (hb : v = .c (.bool b)) (hl : NotLit b) (e1 : setG ops s.t true o.guard = t1) (e2 : setG ops s.t false o.guard = t2)
    (h1 : b = true → AH P ops K (o :: r) ⟨t1, s.h⟩) (h2 : b = false → AH P ops K (o :: r) ⟨t2, s.h⟩) : AH P ops K (o :: r) s := ⟨aops_split2 hv hb hl e1 e2 (fun e => (h1 e).out) (fun e => (h2 e).out)⟩
theorem ak_split2 {P : Program} {K : St → Prop} {ops : List Oper} {o : Oper} {r : List Oper} {ks : List (Option Nat × Option Nat)} {s : St} {b : Bool} {v : V} {t1 t2 : List V} (hv : gval ops s.t o.guard = v) (hb : v = .c (.bool b)) (hl : NotLit b) (e1 : setG ops s.t true o.guard = t1) (e2 : setG ops s.t false o.guard = t2)
    (h1 : b = true → AK P ops K (o :: r) ks ⟨t1, s.h⟩) (h2 : b = false → AK P ops K (o :: r) ks ⟨t2, s.h⟩) : AK P ops K (o :: r) ks s := by
  subst e1 e2
  cases e : b with
  | true => have := h1 e; rwa [setG_eq hv hb e] at this
  | false => have := h2 e; rwa [setG_eq hv hb e] at this
theorem AJ.split2 {P : Program} {K : St → Prop} {ops : List Oper} {o : Oper} {r : List Oper} {ks : List (Option Nat × Option Nat)} {s : St} {b : Bool} {v : V} {t1 t2 : List V} (hv : gval ops s.t o.guard = v) (hb : v = .c (.bool b)) (hl : NotLit b) (e1 : setG ops s.t true o.guard = t1) (e2 : setG ops s.t false o.guard = t2)
    (h1 : b = true → AJ P ops K (o :: r) ks ⟨t1, s.h⟩) (h2 : b = false → AJ P ops K (o :: r) ks ⟨t2, s.h⟩) : AJ P ops K (o :: r) ks s := ⟨ak_split2 hv hb hl e1 e2 (fun e => (h1 e).out) (fun e => (h2 e).out)⟩
theorem brW {F p q q' : Prop} {b : Bool} (f : F) (h1 : b = true → q) (h2 : b = false → q') (k : F → (b = true → q) → (b = false → q') → p := by
  intro f h1 h2
  first
  | (with_reducible refine cond_v (by simp [ev, f]; exact rfl) (by with_reducible exact rfl) (by (fail_if_success with_reducible exact NotLit.t); (fail_if_success with_reducible exact NotLit.f); exact NotLit.mk _) h1 h2)
  | (with_reducible refine AH.split2 (by simp [gval, f]; exact rfl) (by with_reducible exact rfl) (by (fail_if_success with_reducible exact NotLit.t); (fail_if_success with_reducible exact NotLit.f); exact NotLit.mk _) (by simp [setG]; exact rfl) (by simp [setG]; exact rfl) h1 h2)
  | (with_reducible refine AJ.split2 (by simp [gval, f]; exact rfl) (by with_reducible exact rfl) (by (fail_if_success with_reducible exact NotLit.t); (fail_if_success with_reducible exact NotLit.f); exact NotLit.mk _) (by simp [setG]; exact rfl) (by simp [setG]; exact rfl) h1 h2)) : p := k f h1 h2
theorem bdW {F p q q' c : Prop} [Decidable c] (f : F) (h1 : c → q) (h2 : ¬ c → q') (k : F → (decide c = true → q) → (decide c = false → q') → p := by
  intro f h1 h2
  first
  | (with_reducible refine cond_v (by simp [ev, f]; exact rfl) (by with_reducible exact rfl) (by (fail_if_success with_reducible exact NotLit.t); (fail_if_success with_reducible exact NotLit.f); exact NotLit.mk _) h1 h2)
  | (with_reducible refine AH.split2 (by simp [gval, f]; exact rfl) (by with_reducible exact rfl) (by (fail_if_success with_reducible exact NotLit.t); (fail_if_success with_reducible exact NotLit.f); exact NotLit.mk _) (by simp [setG]; exact rfl) (by simp [setG]; exact rfl) h1 h2)
  | (with_reducible refine AJ.split2 (by simp [gval, f]; exact rfl) (by with_reducible exact rfl) (by (fail_if_success with_reducible exact NotLit.t); (fail_if_success with_reducible exact NotLit.f); exact NotLit.mk _) (by simp [setG]; exact rfl) (by simp [setG]; exact rfl) h1 h2)) : p := k f (fun h => h1 (of_decide_eq_true h)) fun h => h2 (of_decide_eq_false h)
theorem bnW {F p q q' : Prop} {c : Bool} (f : F) (h1 : c = false → q) (h2 : c = true → q') (k : F → ((!c) = true → q) → ((!c) = false → q') → p := by
  intro f h1 h2
  first
  | (with_reducible refine cond_v (by simp [ev, f]; exact rfl) (by with_reducible exact rfl) (by (fail_if_success with_reducible exact NotLit.t); (fail_if_success with_reducible exact NotLit.f); exact NotLit.mk _) h1 h2)
  | (with_reducible refine AH.split2 (by simp [gval, f]; exact rfl) (by with_reducible exact rfl) (by (fail_if_success with_reducible exact NotLit.t); (fail_if_success with_reducible exact NotLit.f); exact NotLit.mk _) (by simp [setG]; exact rfl) (by simp [setG]; exact rfl) h1 h2)
  | (with_reducible refine AJ.split2 (by simp [gval, f]; exact rfl) (by with_reducible exact rfl) (by (fail_if_success with_reducible exact NotLit.t); (fail_if_success with_reducible exact NotLit.f); exact NotLit.mk _) (by simp [setG]; exact rfl) (by simp [setG]; exact rfl) h1 h2)) : p := k f (fun h => h1 (by simpa using h)) fun h => h2 (by simpa using h)
theorem bxW {F p q q' c : Prop} [Decidable c] (f : F) (h1 : ¬ c → q) (h2 : c → q') (k : F → ((!decide c) = true → q) → ((!decide c) = false → q') → p := by
  intro f h1 h2
  first
  | (with_reducible refine cond_v (by simp [ev, f]; exact rfl) (by with_reducible exact rfl) (by (fail_if_success with_reducible exact NotLit.t); (fail_if_success with_reducible exact NotLit.f); exact NotLit.mk _) h1 h2)
  | (with_reducible refine AH.split2 (by simp [gval, f]; exact rfl) (by with_reducible exact rfl) (by (fail_if_success with_reducible exact NotLit.t); (fail_if_success with_reducible exact NotLit.f); exact NotLit.mk _) (by simp [setG]; exact rfl) (by simp [setG]; exact rfl) h1 h2)
  | (with_reducible refine AJ.split2 (by simp [gval, f]; exact rfl) (by with_reducible exact rfl) (by (fail_if_success with_reducible exact NotLit.t); (fail_if_success with_reducible exact NotLit.f); exact NotLit.mk _) (by simp [setG]; exact rfl) (by simp [setG]; exact rfl) h1 h2)) : p := k f (fun h => h1 (by simpa using h)) fun h => h2 (by simpa using h)
theorem gx {α : Type} {l : List α} {k : Nat} {x : α} (h : l[k]? = some x) : ∀ hx : k < l.length, l[k]'hx = x := fun hx => by rw [List.getElem?_eq_getElem hx] at h; exact Option.some.inj h
end Go.Proofs.YtnpenchciinmmaaGreat
