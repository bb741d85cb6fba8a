import Derived.Test.YtnpenchciinmmaaGreatG3
import Derived.Test.YtnpenchciinmmaaGreatTy
import Derived.Test.YtnpenchciinmmaaGreatG1
import Derived.Scope
import Derived.RangeFuncCalls
/-
  The abstract machine: running it. 'runF' goes on until a call or a guard; its equations are for simp.
-/
namespace Go.Proofs.YtnpenchciinmmaaGreat
open Go.RowKit
set_option linter.unusedSimpArgs false
set_option linter.unusedVariables false

def isCall : Op → Bool
  | .call ⟨.value _, _, _⟩ => true
  | _ => false
def stepF (P : Program) (o : Oper) (s : St) : Option St :=
  match (aopF P (ev s.t) o.op).ap (fun k => s.h[k]?) s.h.length with
  | some (v, t) => some (s.step o.dst v t)
  | none => none
/-- whether a guarded operation runs -/
def gate (ops : List Oper) (t : List V) : Option (Nat × Bool) → Option Bool
  | none => some true
  | some (j, w) => match (ops[j]?).bind (·.dst) with
    | some d => match t.getD d .any with
      | .c (.bool b) => some (b == w)
      | .tup [] => some false
      | _ => none
    | none => none
def runF (P : Program) (ops : List Oper) : List Oper → St → Option (List Oper × St)
  | [], s => some ([], s)
  | o :: r, s => match gate ops s.t o.guard with
    | some true => match isCall o.op with
      | false => match stepF P o s with
        | some s' => runF P ops r s'
        | none => none
      | true => some (o :: r, s)
    | some false => runF P ops r (s.put o.dst (.tup []))
    | none => none

variable {m : Mo} {P : Program} {K : St → Prop} {ops : List Oper}
theorem callOf_none {e : Operand → V} {op : Op} (h : isCall op = false) : callOf e op = none := by
  unfold isCall at h
  split at h
  · cases h
  · rename_i hn
    unfold callOf
    split
    · rename_i f args tys
      exact absurd rfl (hn f args tys)
    · rfl
theorem awant_true {t : List V} {o : Oper} {K1 K2 : Prop} (hg : gate ops t o.guard = some true) (h : K1) : awant ops t o K1 K2 := by
  unfold gate at hg
  unfold awant
  cases ho : o.guard with
  | none => exact h
  | some p =>
    obtain ⟨j, w⟩ := p
    rw [ho] at hg
    simp only at hg ⊢
    cases hd : (ops[j]?).bind (·.dst) with
    | none => rw [hd] at hg; cases hg
    | some d =>
      rw [hd] at hg
      simp only at hg ⊢
      split at hg
      · rename_i b hb
        rw [hb]
        simp only [Option.some.injEq, beq_iff_eq] at hg
        subst hg
        exact ⟨fun _ => h, fun e => absurd e (by cases b <;> simp)⟩
      · cases hg
      · cases hg
theorem awant_false {t : List V} {o : Oper} {K1 K2 : Prop} (hg : gate ops t o.guard = some false) (h : K2) : awant ops t o K1 K2 := by
  unfold gate at hg
  unfold awant
  cases ho : o.guard with
  | none => rw [ho] at hg; cases hg
  | some p =>
    obtain ⟨j, w⟩ := p
    rw [ho] at hg
    simp only at hg ⊢
    cases hd : (ops[j]?).bind (·.dst) with
    | none => rw [hd] at hg; cases hg
    | some d =>
      rw [hd] at hg
      simp only at hg ⊢
      split at hg
      · rename_i b hb
        rw [hb]
        simp only [Option.some.injEq, beq_eq_false_iff_ne, ne_eq] at hg
        exact ⟨fun e => absurd e hg, fun _ => h⟩
      · rename_i hb
        rw [hb]
        exact h
      · cases hg
theorem aops_run : ∀ {l l' : List Oper} {s s' : St}, runF P ops l s = some (l', s') → aops P ops K l' s' → aops P ops K l s
  | [], l', s, s', h, hK => by simp only [runF, Option.some.injEq, Prod.mk.injEq] at h; obtain ⟨rfl, rfl⟩ := h; exact hK
  | o :: r, l', s, s', h, hK => by
    unfold runF at h
    split at h
    · rename_i hg
      split at h
      · rename_i hc
        split at h
        · rename_i s1 hs
          have ih := aops_run h hK
          unfold stepF at hs
          split at hs
          · rename_i v t hap
            cases hs
            unfold aops
            refine awant_true hg ?_
            unfold aoper
            rw [callOf_none hc]
            simp only
            rw [hap]
            exact ih
          · cases hs
        · cases h
      · simp only [Option.some.injEq, Prod.mk.injEq] at h
        obtain ⟨rfl, rfl⟩ := h
        exact hK
    · rename_i hg
      unfold aops
      exact awant_false hg (aops_run h hK)
    · cases h
theorem aops_done {s : St} (h : K s) : aops P ops K [] s := h
/-- a call -/
theorem aops_call {o : Oper} {r : List Oper} {s : St} {f : FuncId} {args args' : List V} {res : V} {fn : Func} (hac : AC P f args' res) (hg : gate ops s.t o.guard = some true) (hc : callOf (ev s.t) o.op = some (f, args)) (hp : V.pubs args = some args') (hf : P.funcs[f]? = some fn) (hb : fn.body.isSome = true) (hn : (fn.name == "runtime.NumGoroutine") = false)
    (h : aops P ops K r (s.step o.dst res none)) : aops P ops K (o :: r) s := by
  unfold aops
  refine awant_true hg ?_
  unfold aoper
  rw [hc]
  simp only
  exact ⟨args', res, hp, hac, ⟨fn, hf, hb, by simpa using hn⟩, h⟩

section
variable {n : St → Prop} {K : Exit → St → Prop} {s : St} {i id : Nat}
theorem aThen_n (h : n s) : aThen n K .normal s := h
theorem aThen_r (h : K .ret s) : aThen n K .ret s := h
theorem aThen_e (h : K (.exit i) s) : aThen n K (.exit i) s := h
theorem aBlk_n (h : K .normal s) : aBlk id K .normal s := h
theorem aBlk_r (h : K .ret s) : aBlk id K .ret s := h
theorem aBlk_hit (h : K .normal s) : aBlk id K (.exit id) s := by simp only [aBlk, if_true]; exact h
theorem aBlk_miss (hne : (i == id) = false) (h : K (.exit i) s) : aBlk id K (.exit i) s := by simp only [aBlk]; rw [if_neg (by simpa using hne)]; exact h
theorem cond_t {c : Operand} {d d' : Code} (hv : ev s.t c = .c (.bool true)) (h : AW m P d K s) : AW m P (.cond c d d') K s := AW.cond (by rw [hv]; exact ⟨fun _ => h, fun e => by cases e⟩)
theorem cond_f {c : Operand} {d d' : Code} (hv : ev s.t c = .c (.bool false)) (h : AW m P d' K s) : AW m P (.cond c d d') K s := AW.cond (by rw [hv]; exact ⟨fun e => (by cases e), fun _ => h⟩)
end
theorem wrap_i64 {n : Int} (h1 : -9223372036854775808 ≤ n) (h2 : n ≤ 9223372036854775807) : IntKind.i64.wrap n = n := by
  have e1 : IntKind.i64.min = -9223372036854775808 := by decide +kernel
  have e2 : IntKind.i64.max = 9223372036854775807 := by decide +kernel
  exact wrap_of_wf (by simp [Lit.wf, e1, e2, h1, h2])
theorem v1_i64 {n : Int} (h1 : -9223372036854775808 ≤ n) (h2 : n ≤ 9223372036854775807) : v1 (.int .i64 n) = .c (.int .i64 n) := by
  have e1 : IntKind.i64.min = -9223372036854775808 := by decide +kernel
  have e2 : IntKind.i64.max = 9223372036854775807 := by decide +kernel
  simp [v1, Lit.wf, e1, e2, h1, h2]
theorem v1_u8 {n : Int} (h1 : 0 ≤ n) (h2 : n ≤ 255) : v1 (.int .u8 n) = .c (.int .u8 n) := by
  have e1 : IntKind.u8.min = 0 := by decide +kernel
  have e2 : IntKind.u8.max = 255 := by decide +kernel
  simp [v1, Lit.wf, e1, e2, h1, h2]
theorem v1_i32 {n : Int} (h1 : -2147483648 ≤ n) (h2 : n ≤ 2147483647) : v1 (.int .i32 n) = .c (.int .i32 n) := by
  have e1 : IntKind.i32.min = -2147483648 := by decide +kernel
  have e2 : IntKind.i32.max = 2147483647 := by decide +kernel
  simp [v1, Lit.wf, e1, e2, h1, h2]
theorem v1_bool {b : Bool} : v1 (.bool b) = .c (.bool b) := rfl
theorem v1_str {d : Array UInt8} (h : d.size ≤ 1000) : v1 (.string ⟨d⟩) = .c (.str ⟨d⟩) := by
  have : (ByteArray.mk d).size ≤ maxLen := by show d.size ≤ maxLen; unfold maxLen; omega
  simp [v1, this]
theorem v1_nilp : v1 (.pointer none) = .c .nilp := rfl
theorem v1_nilf : v1 .nilFunc = .c .nilf := rfl
theorem v1_nils : v1 (.slice none 0 0) = .full [] := rfl
theorem vOf_agg {l : List Value} : vOf (.agg l.toArray) = .agg (l.map v1) := rfl
theorem vOf_int {k : IntKind} {n : Int} : vOf (.int k n) = v1 (.int k n) := rfl
theorem vOf_bool {b : Bool} : vOf (.bool b) = .c (.bool b) := rfl
theorem vOf_str {d : ByteArray} : vOf (.string d) = v1 (.string d) := rfl
theorem vOf_nilp : vOf (.pointer none) = .c .nilp := rfl
theorem vOf_nilf : vOf .nilFunc = .c .nilf := rfl
theorem vOf_nils : vOf (.slice none 0 0) = .full [] := rfl
end Go.Proofs.YtnpenchciinmmaaGreat

/-
  The abstract machine: weaker states, and loops.
-/
namespace Go.Proofs.YtnpenchciinmmaaGreat
open Go.RowKit
set_option linter.unusedSimpArgs false
set_option linter.unusedVariables false

/-- slot by slot: forgotten, or the same -/
def subT : List V → List V → Prop
  | [], t' => t' = []
  | v :: t, v' :: t' => (v' = .any ∨ v = v') ∧ subT t t'
  | _ :: _, [] => False
theorem subT_ok {x : Cx} {w : World} : ∀ {t t' : List V} {us : List Value}, subT t t' → CVs x w t us → CVs x w t' us
  | [], t', us, h, hc => by simp only [subT] at h; subst h; exact hc
  | v :: t, [], us, h, _ => by simp [subT] at h
  | v :: t, v' :: t', us, h, hc => by
    simp only [subT] at h
    simp only [CVs] at hc ⊢
    obtain ⟨u, ur, e, h1, h2⟩ := hc
    refine ⟨u, ur, e, ?_, subT_ok h.2 h2⟩
    rcases h.1 with rfl | rfl
    · simp only [CV]
    · exact h1
theorem Le.weak {m : Mo} {t t' : List V} {h : List O} (hs : subT t t') : Le m ⟨t, h⟩ ⟨t', h⟩ := fun S0 w0 x a w hm hA => ⟨x, hA.good, subT_ok hs hA.tm, hA.df⟩

mutual
/-- it names only objects below n -/
def V.bnd (n : Nat) : V → Bool
  | .ptr k _ => decide (k < n)
  | .own k _ _ _ => decide (k < n)
  | .gr k _ _ => decide (k < n)
  | .agg l => V.bnds n l
  | .tup l => V.bnds n l
  | .fn _ l => V.bnds n l
  | .any => true
  | .c _ => true
  | .cp _ _ => true
  | .full _ => true
  | .hot k _ _ => decide (k < n)
  | .hp k _ _ => decide (k < n)
  | .yl _ => true
  | .mp k => decide (k < n)
def V.bnds (n : Nat) : List V → Bool
  | [] => true
  | v :: l => v.bnd n && V.bnds n l
end
def O.bnd (n : Nat) : O → Bool
  | .box _ cs _ => V.bnds n cs
  | .tok _ _ _ => true
  | .hot _ _ _ cs => V.bnds n cs
  | .mp _ => true
def Cx.cut (x : Cx) (n : Nat) : Cx := { x with dom := fun k => x.dom k ∧ k < n }
mutual
theorem CV.cut {x : Cx} {w : World} {n : Nat} : ∀ (v : V) (u : Value), v.bnd n = true → CV x w v u → CV (x.cut n) w v u
  | .ptr k off, u, hb, h => by simp only [V.bnd, decide_eq_true_eq] at hb; simp only [CV, Cx.cut] at h ⊢; exact ⟨⟨h.1, hb⟩, h.2⟩
  | .own k off len es, u, hb, h => by simp only [V.bnd, decide_eq_true_eq] at hb; simp only [CV, Cx.cut] at h ⊢; exact ⟨⟨h.1, hb⟩, h.2⟩
  | .gr k es rows, u, hb, h => by simp only [V.bnd, decide_eq_true_eq] at hb; simp only [CV, Cx.cut] at h ⊢; exact ⟨⟨h.1, hb⟩, h.2⟩
  | .agg l, u, hb, h => by simp only [V.bnd] at hb; simp only [CV] at h ⊢; obtain ⟨vs, e, h⟩ := h; exact ⟨vs, e, CVs.cut l _ hb h⟩
  | .tup l, u, hb, h => by simp only [V.bnd] at hb; simp only [CV] at h ⊢; obtain ⟨vs, e, h⟩ := h; exact ⟨vs, e, CVs.cut l _ hb h⟩
  | .fn f l, u, hb, h => by simp only [V.bnd] at hb; simp only [CV] at h ⊢; obtain ⟨vs, e, h⟩ := h; exact ⟨vs, e, CVs.cut l _ hb h⟩
  | .any, u, _, h => by simp only [CV]
  | .c _, u, _, h => by simpa only [CV, Cx.cut] using h
  | .cp _ _, u, _, h => by simpa only [CV, Cx.cut] using h
  | .full _, u, _, h => by simpa only [CV, Cx.cut] using h
  | .hot k es rows, u, hb, h => by simp only [V.bnd, decide_eq_true_eq] at hb; simp only [CV, Cx.cut] at h ⊢; exact ⟨⟨h.1, hb⟩, h.2⟩
  | .hp k m pos, u, hb, h => by simp only [V.bnd, decide_eq_true_eq] at hb; simp only [CV, Cx.cut] at h ⊢; exact ⟨⟨h.1, hb⟩, h.2⟩
  | .yl l, u, _, h => by simpa only [CV] using h
  | .mp k, u, hb, h => by simp only [V.bnd, decide_eq_true_eq] at hb; simp only [CV, Cx.cut] at h ⊢; exact ⟨⟨h.1, hb⟩, h.2⟩
theorem CVs.cut {x : Cx} {w : World} {n : Nat} : ∀ (l : List V) (us : List Value), V.bnds n l = true → CVs x w l us → CVs (x.cut n) w l us
  | [], us, _, h => by simpa only [CVs] using h
  | v :: l, us, hb, h => by
    simp only [V.bnds, Bool.and_eq_true] at hb
    simp only [CVs] at h ⊢
    obtain ⟨u, ur, e, h1, h2⟩ := h
    exact ⟨u, ur, e, CV.cut v u hb.1 h1, CVs.cut l ur hb.2 h2⟩
end
/-- objects are forgotten from the n-th on -/
theorem Le.drop {m : Mo} {t : List V} {h h' : List O} (n : Nat) (hn : m.n0 ≤ n) (hh : h.take n = h') (hb : V.bnds n t = true) (ho : (h'.all (O.bnd n)) = true) : Le m ⟨t, h⟩ ⟨t, h'⟩ := fun S0 w0 x a w hm hA => by
  subst hh
  have hsub : ∀ k o, (h.take n)[k]? = some o → h[k]? = some o ∧ k < n := by
    intro k o hk
    rw [List.getElem?_take] at hk
    split at hk
    · exact ⟨hk, by assumption⟩
    · cases hk
  have g := hA.good
  refine ⟨x.cut n, ⟨fun k o hk => ?_, fun k hk => ?_, fun k k' o o' h1 h2 => g.inj k k' o o' (hsub k o h1).1 (hsub k' o' h2).1, fun k o j hk hx => g.excl k o j (hsub k o hk).1 (by cases o <;> exact hx), g.ex, fun k o hk => g.own k o (hsub k o hk).1, g.new, g.sub, g.keep, g.ext.ar, fun k hk => ⟨g.ext.dom k hk, Nat.lt_of_lt_of_le (w0.dl k hk) (Nat.le_trans hm hn)⟩, g.ext.loc⟩, CVs.cut t _ hb hA.tm, hA.df⟩
  · obtain ⟨h1, h2⟩ := hsub k o hk
    obtain ⟨h3, h4⟩ := g.ok k o h1
    refine ⟨⟨h3, h2⟩, ?_⟩
    cases o with
    | box ty cs fr =>
      obtain ⟨a1, a2, vs, a3, a4, a5⟩ := h4
      rw [List.all_eq_true] at ho
      exact ⟨a1, a2, vs, a3, a4, CVs.cut cs _ (ho _ (List.mem_of_getElem? hk)) a5⟩
    | tok ty es cur => exact h4
    | mp R => exact h4
    | hot ty es cur cs =>
      obtain ⟨a1, a2, a3, a4, a5, vs, a6, a7, a8, a9⟩ := h4
      rw [List.all_eq_true] at ho
      exact ⟨a1, a2, a3, a4, a5, vs, a6, a7, a8, CVs.cut cs _ (ho _ (List.mem_of_getElem? hk)) a9⟩
  · obtain ⟨o, ho'⟩ := g.dom k hk.1
    refine ⟨o, ?_⟩
    rw [List.getElem?_take, if_pos hk.2]
    exact ho'

/-- a slice that is nil gets a room -/
theorem tokVoid {S0 : Area} {w0 : Bs} {x : Cx} {w : World} {h : List O} (g : Good S0 w0 x w (fun k => h[k]?)) (ety : TypeId) (es : Nat) :
    Good S0 w0 (x.grow h.length ⟨0, 0, true, 0, true⟩ 0) w (fun k => (h ++ [O.tok ety es 0])[k]?) ∧ Ext x (x.grow h.length ⟨0, 0, true, 0, true⟩ 0) w w := by
  have hk : ¬ x.dom h.length := fun hd => by obtain ⟨o, ho⟩ := g.dom _ hd; simp at ho
  have he : Ext x (x.grow h.length ⟨0, 0, true, 0, true⟩ 0) w w := ⟨⟨fun _ _ h => .inl h, fun _ _ _ _ h => h⟩, fun _ h => .inl h, fun i hi => by
    have : i ≠ h.length := fun e => hk (e ▸ hi)
    simp [Cx.grow, this, LocLe.refl]⟩
  have g' := g.stepB h.length (.tok ety es 0) he (.of_keep (Keep.refl w)) (fun i => Iff.rfl) (fun i hi => by simp [Cx.grow, hi]) (fun h => by simp [Cx.grow] at h) ⟨by simp [Cx.grow], by simp [Cx.grow], fun h => by simp [Cx.grow] at h⟩ (fun b j h => h.elim .inl fun h => by omega) (fun j hx => by have := hx.1; simp [Cx.grow] at this)
  refine ⟨?_, he⟩
  have e := updH_eq h (some (h.length, O.tok ety es 0)) (fun k o e => by cases e; exact Nat.le_refl _)
  simp only [updH, Nat.lt_irrefl, if_false, Heap.upd] at e
  rw [e]
  exact g'
theorem gr_of_full {x : Cx} {w : World} {k es : Nat} {u : Value} (h : CV x w (.full []) u) : CV (x.grow k ⟨0, 0, true, 0, true⟩ 0) w (.gr k es []) u := by
  simp only [CV] at h ⊢
  obtain ⟨A, e, h⟩ := h
  refine ⟨.inr rfl, by simp [Cx.grow], RdC.mono ⟨fun _ _ h => .inl h, fun _ _ _ _ h => h⟩ _ _ h, by simp, by simp, fun _ => ?_⟩
  simp only [Cx.grow, if_true]
  exact ⟨A, e⟩
theorem Le.tokSlot {m : Mo} {t : List V} {h : List O} (i : Nat) (ety : TypeId) (es : Nat) (hi : t[i]? = some (.full [])) : Le m ⟨t, h⟩ ⟨t.set i (.gr h.length es []), h ++ [.tok ety es 0]⟩ := fun S0 w0 x a w hm hA => by
  obtain ⟨g', he⟩ := tokVoid hA.good ety es
  obtain ⟨u, hu, hc⟩ := hA.tm.get i _ hi
  refine ⟨_, g', ?_, hA.df⟩
  have := (CVs.mono he _ _ hA.tm).set i (gr_of_full (k := h.length) (es := es) hc)
  have e : a.tmps.toList.set i u = a.tmps.toList := by
    apply List.ext_getElem?
    intro j
    rw [List.getElem?_set]
    by_cases e : i = j
    · subst e
      have hl := (List.getElem?_eq_some_iff.1 hu).1
      simp only [if_true, hl]
      exact hu.symm
    · simp [e]
  rwa [e] at this
/-- the same for a cell of a box -/
theorem Le.tokCell {m : Mo} {t : List V} {h : List O} (k i : Nat) (ety : TypeId) (es : Nat) {ty : TypeId} {cs : List V} (hk : h[k]? = some (.box ty cs false)) (hi : cs[i]? = some (.full [])) : Le m ⟨t, h⟩ ⟨t, (h.set k (.box ty (cs.set i (.gr h.length es [])) false)) ++ [.tok ety es 0]⟩ := fun S0 w0 x a w hm hA => by
  obtain ⟨g', he⟩ := tokVoid hA.good ety es
  have hlt : k < h.length := (List.getElem?_eq_some_iff.1 hk).1
  have hk' : (h ++ [O.tok ety es 0])[k]? = some (.box ty cs false) := by rw [List.getElem?_append_left hlt]; exact hk
  obtain ⟨hd, b1, b2, vs, b3, b4, b5⟩ := g'.ok k _ hk'
  obtain ⟨u, hu, hc⟩ := b5.get i _ hi
  obtain ⟨_, _, _, vs0, c3, c4, c5⟩ := hA.good.ok k _ hk
  have hloc : (x.grow h.length ⟨0, 0, true, 0, true⟩ 0).loc k = x.loc k := by simp [Cx.grow, Nat.ne_of_lt hlt]
  rw [hloc, c3] at b3
  cases b3
  obtain ⟨u0, hu0, hc0⟩ := c5.get i _ hi
  have hcs := (CVs.mono he _ _ c5).set i (gr_of_full (k := h.length) (es := es) hc0)
  have e : vs.toList.set i u0 = vs.toList := by
    apply List.ext_getElem?
    intro j
    rw [List.getElem?_set]
    by_cases e : i = j
    · subst e
      have hl := (List.getElem?_eq_some_iff.1 hu0).1
      simp only [if_true, hl]
      exact hu0.symm
    · simp [e]
  rw [e] at hcs
  have hH : (fun j => ((h.set k (.box ty (cs.set i (.gr h.length es [])) false)) ++ [O.tok ety es 0])[j]?) = Heap.set (fun j => (h ++ [O.tok ety es 0])[j]?) k (.box ty (cs.set i (.gr h.length es [])) false) := by
    funext j
    simp only [Heap.set]
    by_cases e : j = k
    · subst e; rw [List.getElem?_append_left (by simpa using hlt)]; simp [hlt]
    · simp only [e, if_false]
      rcases Nat.lt_or_ge j h.length with hl | hl
      · rw [List.getElem?_append_left (by simpa using hl), List.getElem?_append_left hl, List.getElem?_set]
        have e' : ¬ k = j := fun h => e h.symm
        rw [if_neg e']
      · rw [List.getElem?_append_right (by simpa using hl), List.getElem?_append_right hl]
        simp
  refine ⟨x.grow h.length ⟨0, 0, true, 0, true⟩ 0, ?_, CVs.mono he _ _ hA.tm, hA.df⟩
  rw [hH]
  refine g'.stepB k _ (Ext.refl _ _) (.of_keep (Keep.refl w)) (fun i => ⟨.inl, fun h => h.elim id (fun e => e ▸ hd)⟩) (fun _ _ => rfl) (fun _ => .inl ⟨hd, b2, rfl⟩) ?_ (fun b j h => .inl h) (fun j hx => g'.excl k _ j hk' hx)
  exact ⟨b1, b2, vs, by rw [hloc]; exact c3, by rw [hloc]; exact c4, hcs⟩

def havoc (l : List Nat) (t : List V) : List V := l.foldl (fun t i => t.set i .any) t
def puts (l : List (Nat × V)) (t : List V) : List V := l.foldl (fun t p => t.set p.1 p.2) t
/-- the slots that code writes -/
def wrOps : List Oper → List Nat
  | [] => []
  | o :: r => match o.dst with
    | some d => d :: wrOps r
    | none => wrOps r
def wr : Code → List Nat
  | .region _ ops _ => wrOps ops.toList
  | .seq c d => wr c ++ wr d
  | .cond _ c d => wr c ++ wr d
  | .block _ c => wr c
  | .loop c => wr c
  | .scope c => wr c
  | .rangeFunc _ ps c d => ps.toList ++ (wr c ++ wr d)
  | _ => []
theorem AW.loopH {m : Mo} {P : Program} {c : Code} {K : Exit → St → Prop} {t : List V} {h : List O} {ι : Type} (f : ι → List (Nat × V)) (hf : ι → List O) (μ : ι → Nat) (i0 : ι) (ws : List Nat) (hw : wr c = ws) (t0 : List V) (ht : havoc ws t = t0) (h0 : Le m ⟨t, h⟩ ⟨puts (f i0) t0, hf i0⟩)
    (hr : ∀ i, AW m P c (aThen (fun s' => ∃ j, μ j < μ i ∧ Le m s' ⟨puts (f j) t0, hf j⟩) K) ⟨puts (f i) t0, hf i⟩) : AW m P (.loop c) K ⟨t, h⟩ :=
  AW.loop (fun i => ⟨puts (f i) t0, hf i⟩) μ i0 h0 hr
end Go.Proofs.YtnpenchciinmmaaGreat

/-
  The abstract machine: a region that draws its order is run once, in the order of the text; operations that no edge orders touch different slots and objects.
-/
namespace Go.Proofs.YtnpenchciinmmaaGreat
open Go.RowKit
set_option linter.unusedSimpArgs false
set_option linter.unusedVariables false

/-- what an operation left: its value, the object that it wrote or made, the object that it looked at -/
structure Ef where
  v : V
  t : Option (Nat × O)
  rk : Option Nat
def Pl.key : Pl → Option Nat
  | .rd k _ => some k
  | .wr k _ => some k
  | _ => none
def aoperE (P : Program) (o : Oper) (s : St) (K : Ef → Prop) : Prop :=
  match callOf (ev s.t) o.op with
  | some (f, args) => ACall P f args fun v => K ⟨v, none, none⟩
  | none => match (aopF P (ev s.t) o.op).ap (fun k => s.h[k]?) s.h.length with
    | some (v, t) => K ⟨v, t, (aopF P (ev s.t) o.op).key⟩
    | none => False
def adraw (P : Program) (ops : List Oper) (K : List Ef → St → Prop) : List Oper → List Ef → St → Prop
  | [], acc, s => K acc s
  | o :: r, acc, s => awant ops s.t o (aoperE P o s fun e => adraw P ops K r (acc ++ [e]) (s.step o.dst e.v e.t)) (adraw P ops K r (acc ++ [⟨.tup [], none, none⟩]) (s.put o.dst (.tup [])))

/-- an operation, whatever ran ahead of it: what it looks at is as the text has it -/
def EOk (P : Program) (ops : List Oper) (o : Oper) (s : St) (e : Ef) : Prop :=
  ∀ (S0 : Area) (w0 : Bs) (x : Cx) (w : World) (a : Act) (H : Heap), Good S0 w0 x w H → (∀ t ∈ o.looksAt ops.toArray, CV x w (s.t.getD t .any) (a.tmps.getD t undef)) → (∀ k, (e.rk = some k ∨ e.t.map (·.1) = some k) → H k = s.h[k]?) → (∀ ob, e.t = some (s.h.length, ob) → ¬ x.dom s.h.length) →
    ∀ (Q : Exit → Act → World → Prop) (next : Act → World → Prop), (∀ u x' w', Good S0 w0 x' w' (H.upd e.t) → Ext x x' w w' → CV x' w' e.v u → next (a.put o.dst u) w') →
      if Region.wanted o (yielded ops.toArray a.tmps) then o.wp P a w next Q else next (a.put o.dst undef) w

/-- the same of an operation that may panic as Z says; the objects are then as they were -/
def EOkZ (P : Program) (Z : List PanicEntry → Prop) (ops : List Oper) (o : Oper) (s : St) (e : Ef) : Prop :=
  ∀ (S0 : Area) (w0 : Bs) (x : Cx) (w : World) (a : Act) (H : Heap), Good S0 w0 x w H → (∀ t ∈ o.looksAt ops.toArray, CV x w (s.t.getD t .any) (a.tmps.getD t undef)) → (∀ k, (e.rk = some k ∨ e.t.map (·.1) = some k) → H k = s.h[k]?) → (∀ ob, e.t = some (s.h.length, ob) → ¬ x.dom s.h.length) →
    ∀ (Q : Exit → Act → World → Prop) (next : Act → World → Prop), (∀ ch x' w', Z ch → Good S0 w0 x' w' H → Ext x x' w w' → Q (.panic ch) a w') → (∀ u x' w', Good S0 w0 x' w' (H.upd e.t) → Ext x x' w w' → CV x' w' e.v u → next (a.put o.dst u) w') →
      if Region.wanted o (yielded ops.toArray a.tmps) then o.wp P a w next Q else next (a.put o.dst undef) w
theorem EOk.z {P : Program} {Z : List PanicEntry → Prop} {ops : List Oper} {o : Oper} {s : St} {e : Ef} (h : EOk P ops o s e) : EOkZ P Z ops o s e := fun S0 w0 x w a H g h1 h2 h3 Q next _ hn => h S0 w0 x w a H g h1 h2 h3 Q next hn

variable {P : Program}

theorem hop_of {ops : List Oper} {o : Oper} {s : St} {x : Cx} {w : World} {a : Act} (h : ∀ t ∈ o.looksAt ops.toArray, CV x w (s.t.getD t .any) (a.tmps.getD t undef)) : ∀ y ∈ o.op.operands.toList, CV x w (ev s.t y) (a.eval y) := by
  intro y hy
  cases y with
  | tmp t =>
    have := h t (by
      unfold Oper.looksAt
      exact List.mem_append_left _ (List.mem_filterMap.2 ⟨_, hy, rfl⟩))
    exact this
  | const v => exact vOf_ok x w v
  | func f => simp only [ev, Act.eval, CV]; exact ⟨#[], rfl, by simp only [CVs]⟩
  | global g => simp only [ev, CV]

/-- the guard, of what is looked at alone -/
theorem gate_wanted {ops : List Oper} {o : Oper} {s : St} {x : Cx} {w : World} {a : Act} {B : Bool} (ht : ∀ t ∈ o.looksAt ops.toArray, CV x w (s.t.getD t .any) (a.tmps.getD t undef)) (h : gate ops s.t o.guard = some B) : Region.wanted o (yielded ops.toArray a.tmps) = B := by
  unfold gate at h
  unfold Region.wanted
  cases hg : o.guard with
  | none => rw [hg] at h; simp only [Option.some.injEq] at h; exact h
  | some p =>
    obtain ⟨j, want⟩ := p
    rw [hg] at h
    simp only at h ⊢
    cases hd : (ops[j]?).bind (·.dst) with
    | none => rw [hd] at h; cases h
    | some d =>
      rw [hd] at h
      simp only at h
      have hda : (ops.toArray[j]?).bind (·.dst) = some d := by simpa using hd
      split at h
      · rename_i b hb
        simp only [Option.some.injEq] at h
        have hm : d ∈ o.looksAt ops.toArray := by
          unfold Oper.looksAt
          refine List.mem_append_right _ ?_
          rw [hg]
          simp only [hda]
          simp
        have hv := ht d hm
        rw [hb] at hv
        simp only [CV, RdC] at hv
        have hy : yielded ops.toArray a.tmps j = some b := by
          unfold yielded
          rw [hda]
          have hx : a.tmps[d]? = some (.bool b) := by
            rw [Array.getD_eq_getD_getElem?] at hv
            cases hq : a.tmps[d]? with
            | none => rw [hq] at hv; cases hv
            | some y => rw [hq] at hv; simp only [Option.getD_some] at hv; subst hv; rfl
          simp [hx]
        rw [hy, ← h]
        cases b <;> cases want <;> rfl
      · rename_i hb
        simp only [Option.some.injEq] at h
        subst h
        have hm : d ∈ o.looksAt ops.toArray := by
          unfold Oper.looksAt
          refine List.mem_append_right _ ?_
          rw [hg]
          simp only [hda]
          simp
        have hv := ht d hm
        rw [hb] at hv
        simp only [CV] at hv
        obtain ⟨vs, hv, _⟩ := hv
        have hy : yielded ops.toArray a.tmps j = none := by
          unfold yielded
          rw [hda]
          have hx : a.tmps[d]? = none ∨ a.tmps[d]? = some (.tuple vs) := by
            rw [Array.getD_eq_getD_getElem?] at hv
            cases hq : a.tmps[d]? with
            | none => exact .inl rfl
            | some y => rw [hq] at hv; simp only [Option.getD_some] at hv; subst hv; exact .inr rfl
          rcases hx with hx | hx <;> simp [hx]
        rw [hy]
        rfl
      · cases h
theorem gate_of_awant {ops : List Oper} {t : List V} {o : Oper} {K1 K2 : Prop} (h : awant ops t o K1 K2) : ∃ B, gate ops t o.guard = some B ∧ (B = true → K1) ∧ (B = false → K2) := by
  unfold awant at h
  unfold gate
  cases hg : o.guard with
  | none => rw [hg] at h; exact ⟨true, rfl, fun _ => h, fun e => by cases e⟩
  | some p =>
    obtain ⟨j, want⟩ := p
    rw [hg] at h
    simp only at h ⊢
    cases hd : (ops[j]?).bind (·.dst) with
    | none => rw [hd] at h; exact h.elim
    | some d =>
      rw [hd] at h
      simp only at h ⊢
      split at h
      · rename_i b hb
        rw [hb]
        refine ⟨b == want, rfl, fun e => h.1 (by simpa using e), fun e => h.2 ?_⟩
        cases b <;> cases want <;> simp_all
      · rename_i hb
        rw [hb]
        exact ⟨false, rfl, fun e => (by cases e), fun _ => h⟩
      · exact h.elim

theorem call_okE {o : Oper} {s : St} {S0 : Area} {w0 : Bs} {x : Cx} {w : World} {a : Act} {H : Heap} (g : Good S0 w0 x w H) (hop : ∀ y ∈ o.op.operands.toList, CV x w (ev s.t y) (a.eval y)) {f : FuncId} {args : List V} (hc : callOf (ev s.t) o.op = some (f, args)) {K : V → Prop} (h : ACall P f args K) {next : Act → World → Prop} {Q : Exit → Act → World → Prop}
    (hn : ∀ v u x' w', K v → Good S0 w0 x' w' H → Ext x x' w w' → CV x' w' v u → next (a.put o.dst u) w') : o.wp P a w next Q := by
  obtain ⟨args', res, hp, hac, ⟨fn, hfn, hbody, hname⟩, hK⟩ := h
  unfold callOf at hc
  split at hc
  case h_2 => cases hc
  rename_i fo ar tys ho
  split at hc
  case h_2 => cases hc
  rename_i f' caps hf
  simp only [Option.some.injEq, Prod.mk.injEq] at hc
  obtain ⟨rfl, rfl⟩ := hc
  have hfo := unc_ok (hop fo (by simp [ho, Op.operands, Call.operands]))
  rw [hf] at hfo
  simp only [CV] at hfo
  obtain ⟨vs, hfo, hcaps⟩ := hfo
  have hargs : CVs x w (ar.toList.map (ev s.t) ++ caps) (ar.toList.map a.eval ++ vs.toList) := (CVs.of_map fun y hy => hop y (by simp [ho, Op.operands, Call.operands]; exact .inr (by simpa using hy))).append hcaps
  have := hac x.S w _ g.ex (pubs_ok _ _ _ hp hargs)
  have hb : fn.body ≠ none := by intro e; rw [e] at hbody; cases hbody
  have hrun : (execOp a.eval o).run P w = .ok (.enter f' (ar.toList.map a.eval ++ vs.toList).toArray) w := by
    have e1 : (ar.map a.eval ++ vs) = (ar.toList.map a.eval ++ vs.toList).toArray := by apply Array.toList_inj.1; simp
    simp [execOp, ho, resolve, hfo, Deferred.ofValue, invoke, callFunc, program, Sem.run, hfn, hname, hb, e1]
  unfold Oper.wp
  rw [hrun]
  refine this.mono ?_
  rintro r w' ⟨u, S', rfl, hkeep, har, hnew, hcv⟩
  obtain ⟨g', he⟩ := g.stepA (x' := { x with S := S' }) hkeep har rfl rfl hnew
  exact hn res u _ w' hK g' he (CV.mono (bare_ext S' x w') _ _ hcv)

theorem ap_local {p : Pl} {H H' : Heap} {k0 : Nat} (h : ∀ k, p.key = some k → H k = H' k) : p.ap H k0 = p.ap H' k0 := by
  cases p with
  | rd k g => simp only [Pl.ap, h k rfl]
  | wr k g => simp only [Pl.ap, h k rfl]
  | _ => rfl

theorem eok_skip {ops : List Oper} {o : Oper} {s : St} (h : gate ops s.t o.guard = some false) : EOk P ops o s ⟨.tup [], none, none⟩ := by
  intro S0 w0 x w a H g hl hr hk Q next hn
  rw [gate_wanted hl h]
  exact hn undef x w g (Ext.refl x w) (undef_ok x w)
/-- what the run in the text's order yields of each operation -/
def Trun (P : Program) (ops : List Oper) : List Oper → St → List Ef → St → Prop
  | [], s, es, s' => es = [] ∧ s' = s
  | o :: r, s, es, s' => ∃ e er, es = e :: er ∧ EOk P ops o s e ∧ (∀ k ob, e.t = some (k, ob) → k ≤ s.h.length) ∧ Trun P ops r (s.step o.dst e.v e.t) er s'
def TrunZ (P : Program) (Z : List PanicEntry → Prop) (ops : List Oper) : List Oper → St → List Ef → St → Prop
  | [], s, es, s' => es = [] ∧ s' = s
  | o :: r, s, es, s' => ∃ e er, es = e :: er ∧ EOkZ P Z ops o s e ∧ (∀ k ob, e.t = some (k, ob) → k ≤ s.h.length) ∧ TrunZ P Z ops r (s.step o.dst e.v e.t) er s'
theorem Trun.z {Z : List PanicEntry → Prop} {ops : List Oper} : ∀ {r : List Oper} {s : St} {es : List Ef} {s' : St}, Trun P ops r s es s' → TrunZ P Z ops r s es s'
  | [], _, _, _, h => h
  | _ :: _, _, _, _, ⟨e, er, h1, h2, h3, h4⟩ => ⟨e, er, h1, h2.z, h3, Trun.z h4⟩
theorem adraw_run {ops : List Oper} {K : List Ef → St → Prop} : ∀ (r : List Oper) (acc : List Ef) (s : St), adraw P ops K r acc s → ∃ es s', Trun P ops r s es s' ∧ K (acc ++ es) s'
  | [], acc, s, h => ⟨[], s, ⟨rfl, rfl⟩, by simpa [adraw] using h⟩
  | o :: r, acc, s, h => by
    unfold adraw at h
    obtain ⟨B, hB, h1, h2⟩ := gate_of_awant h
    cases B with
    | false =>
      obtain ⟨es, s', ht, hK⟩ := adraw_run r _ _ (h2 rfl)
      exact ⟨⟨.tup [], none, none⟩ :: es, s', ⟨_, es, rfl, eok_skip hB, fun k ob e => (by cases e), ht⟩, by simpa using hK⟩
    | true =>
      have h1 := h1 rfl
      unfold aoperE at h1
      split at h1
      · rename_i f args hc
        obtain ⟨args', res, hp, hac, hfn, hK⟩ := h1
        obtain ⟨es, s', ht, hK⟩ := adraw_run r _ _ hK
        refine ⟨⟨res, none, none⟩ :: es, s', ⟨_, es, rfl, ?_, fun k ob e => (by cases e), ht⟩, by simpa using hK⟩
        intro S0 w0 x w a H g hl hr hk Q next hn
        rw [gate_wanted hl hB]
        exact call_okE g (hop_of hl) hc (K := fun v => v = res) ⟨args', res, hp, hac, hfn, rfl⟩ fun v u x' w' hv g' he hcv => by subst hv; exact hn u x' w' g' he hcv
      · rename_i hc
        split at h1
        · rename_i v t hap
          obtain ⟨es, s', ht, hK⟩ := adraw_run r _ _ h1
          refine ⟨⟨v, t, _⟩ :: es, s', ⟨_, es, rfl, ?_, ap_le hap, ht⟩, by simpa using hK⟩
          intro S0 w0 x w a H g hl hr hk Q next hn
          rw [gate_wanted hl hB]
          have hap' : (aopF P (ev s.t) o.op).ap H s.h.length = some (v, t) := by rw [← hap]; exact ap_local fun k hk => hr k (.inl hk)
          obtain ⟨nx, w', x', u, hrun, hnx, hcv, g', he, _⟩ := aop_sound g (hop_of hl) hk hap'
          show o.wp P a w next Q
          unfold Oper.wp
          rw [hrun]
          rcases hnx with rfl | ⟨rfl, rfl⟩
          · exact hn u x' w' g' he hcv
          · exact hn undef x' w' g' he hcv
        · exact h1.elim

/-! the last writer -/
section
variable {α : Type}
/-- the last value that an entry of the list (those in X) writes -/
def lastW (f : Nat → Option α) (X : Nat → Bool) : Nat → α → α
  | 0, d => d
  | n + 1, d => if X n = true then (match f n with | some v => v | none => lastW f X n d) else lastW f X n d
theorem lastW_congr {f : Nat → Option α} {X Y : Nat → Bool} {d : α} : ∀ n, (∀ j, j < n → (f j).isSome = true → X j = Y j) → lastW f X n d = lastW f Y n d
  | 0, _ => rfl
  | n + 1, h => by
    have ih := lastW_congr (d := d) n fun j hj => h j (by omega)
    simp only [lastW]
    cases hf : f n with
    | none => simp only [ih, ite_self]
    | some v =>
      rw [h n (by omega) (by rw [hf]; rfl), ih]
theorem lastW_none {f : Nat → Option α} {X : Nat → Bool} {d : α} : ∀ n, (∀ j, j < n → X j = true → f j = none) → lastW f X n d = d
  | 0, _ => rfl
  | n + 1, h => by
    simp only [lastW]
    split
    · rename_i hx
      rw [h n (by omega) hx]
      exact lastW_none n fun j hj => h j (by omega)
    · exact lastW_none n fun j hj => h j (by omega)
theorem lastW_at {f : Nat → Option α} {X : Nat → Bool} {d v : α} {i : Nat} : ∀ n, i < n → X i = true → f i = some v → (∀ j, i < j → j < n → X j = true → f j = none) → lastW f X n d = v
  | 0, h, _, _, _ => by omega
  | n + 1, h, hx, hf, hl => by
    simp only [lastW]
    by_cases e : i = n
    · subst e; rw [if_pos hx, hf]
    · have ih := lastW_at (d := d) n (by omega) hx hf fun j h1 h2 => hl j h1 (by omega)
      split
      · rename_i hxn
        rw [hl n (by omega) (by omega) hxn]
        exact ih
      · exact ih
theorem lastW_same {f : Nat → Option α} {X : Nat → Bool} {d : α} : ∀ n, (∀ j v, f j = some v → v = d) → lastW f X n d = d
  | 0, _ => rfl
  | n + 1, h => by
    simp only [lastW]
    split
    · split
      · rename_i v hv
        exact h _ _ hv
      · exact lastW_same n h
    · exact lastW_same n h
theorem lastW_below {f : Nat → Option α} {d : α} : ∀ (n i : Nat), i ≤ n → lastW f (fun j => decide (j < i)) n d = lastW f (fun _ => true) i d
  | 0, i, h => by have : i = 0 := (by omega); subst this; rfl
  | n + 1, i, h => by
    by_cases e : i = n + 1
    · subst e
      exact lastW_congr _ fun j hj _ => by simp [hj]
    · simp only [lastW]
      rw [if_neg (by simp; omega)]
      exact lastW_below n i (by omega)
end

theorem trun_states {Z : List PanicEntry → Prop} {ops : List Oper} : ∀ {r : List Oper} {s : St} {es : List Ef} {s' : St}, TrunZ P Z ops r s es s' →
    ∃ ss : Nat → St, ss 0 = s ∧ ss r.length = s' ∧ es.length = r.length ∧ ∀ i o, r[i]? = some o → ∃ e, es[i]? = some e ∧ EOkZ P Z ops o (ss i) e ∧ (∀ k ob, e.t = some (k, ob) → k ≤ (ss i).h.length) ∧ ss (i + 1) = (ss i).step o.dst e.v e.t
  | [], s, es, s', h => by
    obtain ⟨rfl, rfl⟩ := h
    exact ⟨fun _ => s', rfl, rfl, rfl, fun i o h => by simp at h⟩
  | o :: r, s, es, s', h => by
    obtain ⟨e, er, rfl, h1, h2, h3⟩ := h
    obtain ⟨ss, k1, k2, k3, k4⟩ := trun_states h3
    refine ⟨fun i => match i with | 0 => s | i + 1 => ss i, rfl, k2, by simp [k3], fun i o' hi => ?_⟩
    match i, hi with
    | 0, hi =>
      simp only [List.getElem?_cons_zero, Option.some.injEq] at hi
      subst hi
      exact ⟨e, rfl, h1, h2, k1⟩
    | i + 1, hi =>
      simp only [List.getElem?_cons_succ] at hi ⊢
      exact k4 i o' hi

/-- all that an operation waits for, also by others: a table -/
def predsT (l : List Oper) : List (List Nat) := l.foldl (fun acc o => acc ++ [(edgesOf o).flatMap fun j => j :: acc.getD j []]) []
theorem predsT_ok (X : Nat → Prop) : ∀ (l pre : List Oper) (acc : List (List Nat)), acc.length = pre.length → (∀ i o, (pre ++ l)[i]? = some o → X i → ∀ j ∈ edgesOf o, X j) → (∀ i r, acc[i]? = some r → X i → ∀ j ∈ r, X j) →
    ∀ i r, (l.foldl (fun acc o => acc ++ [(edgesOf o).flatMap fun j => j :: acc.getD j []]) acc)[i]? = some r → X i → ∀ j ∈ r, X j
  | [], pre, acc, _, _, h => by simpa using h
  | o :: l, pre, acc, hl, hX, h => by
    simp only [List.foldl_cons]
    refine predsT_ok X l (pre ++ [o]) _ (by simp [hl]) (by simpa using hX) fun i r hi hx j hj => ?_
    rcases Nat.lt_or_ge i acc.length with hlt | hge
    · rw [List.getElem?_append_left hlt] at hi
      exact h i r hi hx j hj
    · rw [List.getElem?_append_right hge] at hi
      have hi0 : i - acc.length = 0 := by
        rcases Nat.eq_zero_or_pos (i - acc.length) with h | h
        · exact h
        · have := (List.getElem?_eq_some_iff.1 hi).1
          simp at this
          omega
      rw [hi0] at hi
      simp only [List.getElem?_cons_zero, Option.some.injEq] at hi
      subst hi
      have hio : (pre ++ o :: l)[i]? = some o := by
        rw [List.getElem?_append_right (by omega), show i - pre.length = 0 by omega]
        rfl
      obtain ⟨k, hk, hj⟩ := List.mem_flatMap.1 hj
      have hXk := hX i o hio hx k hk
      rcases List.mem_cons.1 hj with rfl | hj
      · exact hXk
      · rw [List.getD_eq_getElem?_getD] at hj
        cases hq : acc[k]? with
        | none => rw [hq] at hj; simp at hj
        | some r' => rw [hq] at hj; exact h k r' hq hXk j hj
abbrev Ks := List (Option Nat × Option Nat)
def ksApart (a b : Option Nat × Option Nat) : Bool :=
  (match a.1 with | some k => b.1 != some k && b.2 != some k | none => true) && (match b.1 with | some k => a.2 != some k | none => true)
def commRow (l : List Oper) (ks : Ks) (T : List (List Nat)) (i : Nat) : Bool :=
  match l[i]?, ks[i]? with
  | some o, some q => ((edgesOf o).all (fun j => decide (j < i)) && (T.getD i []).all (fun j => decide (j < i))) && (List.range i).all fun j => (T.getD i []).contains j ||
      match l[j]?, ks[j]? with
      | some p, some r => p.apart l.toArray o && ksApart r q
      | _, _ => false
  | _, _ => false
def commB (l : List Oper) (ks : Ks) : Bool := (List.range l.length).all (commRow l ks (predsT l))
def Ef.ks (e : Ef) : Option Nat × Option Nat := (e.t.map (·.1), e.rk)

theorem ksApart_ok {a b : Option Nat × Option Nat} (h : ksApart a b = true) : (∀ k, a.1 = some k → b.1 ≠ some k ∧ b.2 ≠ some k) ∧ ∀ k, b.1 = some k → a.2 ≠ some k := by
  unfold ksApart at h
  rw [Bool.and_eq_true] at h
  refine ⟨fun k hk => ?_, fun k hk => ?_⟩
  · have := h.1; rw [hk] at this; simpa using this
  · have := h.2; rw [hk] at this; simpa using this

/-- two operations: one waits for the other, or they touch different things -/
theorem comm_ok {l : List Oper} {ks : Ks} (h : commB l ks = true) {i : Nat} {o : Oper} (ho : l[i]? = some o) : ∃ q r, ks[i]? = some q ∧ (predsT l).getD i [] = r ∧ ((∀ j ∈ edgesOf o, j < i) ∧ ∀ j ∈ r, j < i) ∧ ∀ j p, j < i → l[j]? = some p → j ∈ r ∨ ∃ q', ks[j]? = some q' ∧ p.apart l.toArray o = true ∧ ksApart q' q = true := by
  have hlt : i < l.length := (List.getElem?_eq_some_iff.1 ho).1
  unfold commB at h
  rw [List.all_eq_true] at h
  have := h i (List.mem_range.2 hlt)
  unfold commRow at this
  rw [ho] at this
  cases hk : ks[i]? with
  | none => rw [hk] at this; cases this
  | some q =>
    rw [hk] at this
    simp only [Bool.and_eq_true, List.all_eq_true, decide_eq_true_eq, List.mem_range, Bool.or_eq_true, List.contains_iff_mem] at this
    refine ⟨q, _, rfl, rfl, this.1, fun j p hj hp => ?_⟩
    rcases this.2 j hj with h | h
    · exact .inl h
    · rw [hp] at h
      cases hq : ks[j]? with
      | none => rw [hq] at h; cases h
      | some q' => rw [hq] at h; simp only [Bool.and_eq_true] at h; exact .inr ⟨q', rfl, h.1, h.2⟩

section
variable {l : List Oper} {es : List Ef} {n : Nat}
/-- what operation i writes into slot τ, into object k -/
def fT (l : List Oper) (es : List Ef) (n τ : Nat) (i : Nat) : Option V :=
  match l[i]?, es[i]? with
  | some o, some e => if o.dst = some τ ∧ τ < n then some e.v else none
  | _, _ => none
def fH (es : List Ef) (k : Nat) (i : Nat) : Option (Option O) :=
  match es[i]? with
  | some e => match e.t with
    | some (k', ob) => if k = k' then some (some ob) else none
    | none => none
  | none => none
theorem step_len (s : St) (d : Option Tmp) (v : V) (t : Option (Nat × O)) : (s.step d v t).t.length = s.t.length := by cases d <;> simp [St.step, St.put]
theorem step_t (s : St) (d : Option Tmp) (v : V) (t : Option (Nat × O)) (τ : Nat) : (s.step d v t).t.getD τ .any = if d = some τ ∧ τ < s.t.length then v else s.t.getD τ .any := by
  cases d with
  | none => simp [St.step, St.put]
  | some d =>
    simp only [St.step, St.put, List.getD_eq_getElem?_getD, List.getElem?_set, Option.some.injEq]
    by_cases e : d = τ
    · subst e
      by_cases hl : d < s.t.length
      · simp [hl]
      · simp [hl, List.getElem?_eq_none (Nat.le_of_not_lt hl)]
    · simp [e]
def hAt (t : Option (Nat × O)) (k : Nat) (d : Option O) : Option O :=
  match t with
  | some (k', ob) => if k = k' then some ob else d
  | none => d
theorem step_h (s : St) (d : Option Tmp) (v : V) (t : Option (Nat × O)) (ht : ∀ k ob, t = some (k, ob) → k ≤ s.h.length) (k : Nat) : (s.step d v t).h[k]? = hAt t k (s.h[k]?) := by
  have e := congrFun (updH_eq s.h t ht) k
  have e2 : (s.step d v t).h = updH s.h t := by cases d <;> rfl
  rw [e2, e]
  cases t with
  | none => rfl
  | some p => rfl

/-- THE LAW of a region that draws its order -/
theorem draw_ok {Q : Exit → Act → World → Prop} {K : St → Prop} {Z : List PanicEntry → Prop} {n : Nat} {S0 : Area} {w0 : Bs} {s s' : St} (ht : TrunZ P Z l l s es s') (hc : commB l (es.map Ef.ks) = true) (hK : K s') (hQ : ∀ x s a w, K s → Abs S0 w0 x s a w → Q .normal a w)
    (hkeep : ∀ e ∈ es, ∀ k ob, k < n → e.t = some (k, ob) → s.h[k]? = some ob) (hP : ∀ ch x a w H, Z ch → Good S0 w0 x w H → (∀ k, k < n → H k = s.h[k]?) → a.tmps.size = s.t.length → Marks w0 a.defers w → Q (.panic ch) a w)
    {x : Cx} {a : Act} {w : World} (hA : Abs S0 w0 x s a w) : wpAny P .any l.toArray Q l.toArray.size (Array.replicate l.toArray.size false) a w := by
  obtain ⟨ss, s0, sN, hel, hst⟩ := trun_states ht
  have hslen : ∀ i, i ≤ l.length → (ss i).t.length = s.t.length := by
    intro i
    induction i with
    | zero => intro _; rw [s0]
    | succ i ih =>
      intro hi
      obtain ⟨e, _, _, _, h4⟩ := hst i l[i] (List.getElem?_eq_getElem (by omega))
      rw [h4, step_len, ih (by omega)]
  -- the text's states, by last writers
  have hT : ∀ i τ, i ≤ l.length → (ss i).t.getD τ .any = lastW (fT l es s.t.length τ) (fun _ => true) i (s.t.getD τ .any) := by
    intro i τ
    induction i with
    | zero => intro _; rw [s0]; rfl
    | succ i ih =>
      intro hi
      have hli : l[i]? = some l[i] := List.getElem?_eq_getElem (by omega)
      obtain ⟨e, he, _, _, h4⟩ := hst i l[i] hli
      rw [h4, step_t, hslen i (by omega), ih (by omega)]
      simp only [lastW, if_true, fT, hli, he]
      split <;> rfl
  have hHt : ∀ i k, i ≤ l.length → (ss i).h[k]? = lastW (fH es k) (fun _ => true) i (s.h[k]?) := by
    intro i k
    induction i with
    | zero => intro _; rw [s0]; rfl
    | succ i ih =>
      intro hi
      have hli : l[i]? = some l[i] := List.getElem?_eq_getElem (by omega)
      obtain ⟨e, he, _, h3, h4⟩ := hst i l[i] hli
      rw [h4, step_h _ _ _ _ h3, ih (by omega)]
      simp only [lastW, if_true, fH, he, hAt]
      cases e.t with
      | none => rfl
      | some p =>
        obtain ⟨k', ob⟩ := p
        simp only
        split <;> rfl
  have hhlen : ∀ i j, i ≤ j → j ≤ l.length → (ss i).h.length ≤ (ss j).h.length := by
    intro i j hij hj
    induction j with
    | zero => have : i = 0 := (by omega); subst this; exact Nat.le_refl _
    | succ j ih =>
      by_cases e : i = j + 1
      · subst e; exact Nat.le_refl _
      · refine Nat.le_trans (ih (by omega) (by omega)) ?_
        obtain ⟨e, _, _, _, h4⟩ := hst j l[j] (List.getElem?_eq_getElem (by omega))
        rw [h4]
        have e2 : ((ss j).step l[j].dst e.v e.t).h = updH (ss j).h e.t := by cases l[j].dst <;> rfl
        rw [e2]
        unfold updH
        split
        · exact Nat.le_refl _
        · split <;> simp
  -- the invariant
  have base : ∀ (listed : Array Bool) (x : Cx) (a : Act) (w : World), (List.range l.length).countP (fun i => !listed.getD i false) ≤ 0 → listed.size = l.length →
      (∀ (i : Nat) (o : Oper), l[i]? = some o → listed.getD i false = true → ∀ j ∈ edgesOf o, listed.getD j false = true) → a.tmps.size = s.t.length → Marks w0 a.defers w →
      (∀ τ, τ < s.t.length → CV x w (lastW (fT l es s.t.length τ) (fun i => listed.getD i false) l.length (s.t.getD τ .any)) (a.tmps.getD τ undef)) →
      Good S0 w0 x w (fun k => lastW (fH es k) (fun i => listed.getD i false) l.length (s.h[k]?)) → wpAny P .any l.toArray Q 0 listed a w := by
    intro listed x a w hcount hsz hcl hts hdf htm hg
    have hall : ∀ i, i < l.length → listed.getD i false = true := by
      intro i hi
      have h0 := List.countP_eq_zero.1 (Nat.le_zero.1 hcount) i (List.mem_range.2 hi)
      simpa using h0
    have hnil : Region.ready .any l.toArray listed = [] := by
      rw [List.eq_nil_iff_forall_not_mem]
      intro j hj
      rw [mem_ready] at hj
      obtain ⟨h0, o, ho, _⟩ := hj
      have hlt : j < l.length := (List.getElem?_eq_some_iff.1 (show l[j]? = some o by simpa using ho)).1
      rw [getD_tf _ _ (by omega), hall j hlt] at h0
      cases h0
    refine ⟨hnil, hQ x s' a w hK ⟨?_, ?_, hdf⟩⟩
    · have e : (fun k => s'.h[k]?) = fun k => lastW (fH es k) (fun i => listed.getD i false) l.length (s.h[k]?) := by
        funext k
        rw [← sN, hHt l.length k (Nat.le_refl _)]
        exact lastW_congr _ fun j hj _ => by rw [hall j hj]
      rw [e]
      exact hg
    · refine CVs.of_get (by simp [hts, ← sN, hslen l.length (Nat.le_refl _)]) fun τ v u hv hu => ?_
      have hτ : τ < s.t.length := by have := (List.getElem?_eq_some_iff.1 hv).1; rw [← sN, hslen l.length (Nat.le_refl _)] at this; exact this
      have h1 := htm τ hτ
      have e : lastW (fT l es s.t.length τ) (fun i => listed.getD i false) l.length (s.t.getD τ .any) = v := by
        have : s'.t.getD τ .any = v := by rw [List.getD_eq_getElem?_getD, hv]; rfl
        rw [← this, ← sN, hT l.length τ (Nat.le_refl _)]
        exact lastW_congr _ fun j hj _ => by rw [hall j hj]
      rw [e] at h1
      have : a.tmps.getD τ undef = u := by
        have hu' : a.tmps[τ]? = some u := by simpa using hu
        rw [Array.getD_eq_getD_getElem?, hu']
        rfl
      rwa [this] at h1
  have key : ∀ (fuel : Nat) (listed : Array Bool) (x : Cx) (a : Act) (w : World), (List.range l.length).countP (fun i => !listed.getD i false) ≤ fuel → listed.size = l.length →
      (∀ (i : Nat) (o : Oper), l[i]? = some o → listed.getD i false = true → ∀ j ∈ edgesOf o, listed.getD j false = true) → a.tmps.size = s.t.length → Marks w0 a.defers w →
      (∀ τ, τ < s.t.length → CV x w (lastW (fT l es s.t.length τ) (fun i => listed.getD i false) l.length (s.t.getD τ .any)) (a.tmps.getD τ undef)) →
      Good S0 w0 x w (fun k => lastW (fH es k) (fun i => listed.getD i false) l.length (s.h[k]?)) → wpAny P .any l.toArray Q fuel listed a w := by
    intro fuel
    induction fuel with
    | zero => exact base
    | succ fuel ih =>
      intro listed x a w hcount hsz hcl hts hdf htm hg
      refine ⟨fun hnil => ?_, fun i hi => ?_⟩
      · -- nothing is ready: all have run
        have hall : ∀ i, i < l.length → listed.getD i false = true := by
          intro i
          induction i using Nat.strongRecOn with
          | _ i ihi =>
            intro hi
            cases hx : listed.getD i false with
            | true => rfl
            | false =>
              have hli : l[i]? = some l[i] := List.getElem?_eq_getElem hi
              obtain ⟨_, _, _, _, ⟨hb, _⟩, _⟩ := comm_ok hc hli
              have : i ∈ Region.ready .any l.toArray listed := by
                rw [mem_ready]
                refine ⟨by rw [getD_tf _ _ (by omega)]; exact hx, l[i], by simp, fun e he hbn => ?_⟩
                have hj := hb e.on (mem_edges.2 ⟨e, he, hbn, rfl⟩)
                exact ihi e.on hj (by omega)
              rw [hnil] at this
              cases this
        have hz : (List.range l.length).countP (fun i => !listed.getD i false) ≤ 0 := by
          rw [Nat.le_zero, List.countP_eq_zero]
          intro i hi
          simp [hall i (List.mem_range.1 hi)]
        exact (base listed x a w hz hsz hcl hts hdf htm hg).2
      · rw [mem_ready] at hi
        obtain ⟨h0, o, ho, hall⟩ := hi
        have ho : l[i]? = some o := by simpa using ho
        have hlt : i < l.length := (List.getElem?_eq_some_iff.1 ho).1
        rw [getD_tf _ _ (by omega)] at h0
        have hedge : ∀ j ∈ edgesOf o, listed.getD j false = true := by
          intro j hj
          rw [mem_edges] at hj
          obtain ⟨e, he1, he2, he3⟩ := hj
          rw [← he3]
          exact hall e he1 he2
        obtain ⟨e, he, hok, hkb, hnext⟩ := hst i o ho
        obtain ⟨q, r, hq, hr, ⟨_, hrlt⟩, hpair⟩ := comm_ok hc ho
        have hqe : q = e.ks := by rw [List.getElem?_map, he] at hq; simpa using hq.symm
        subst hqe
        -- what it waits for has run
        have hpre : ∀ j ∈ r, listed.getD j false = true := by
          intro j hj
          have := predsT_ok (fun j => listed.getD j false = true ∨ j = i) l [] [] rfl (fun i' o' hi' hx j hj => by
            rcases hx with hx | rfl
            · exact .inl (hcl i' o' hi' hx j hj)
            · simp only [List.nil_append] at hi'
              rw [ho] at hi'; cases hi'
              exact .inl (hedge j hj)) (fun i' r' h => by simp at h) i r (by
            have : (predsT l)[i]? = some r ∨ r = [] := by
              rw [List.getD_eq_getElem?_getD] at hr
              cases hx : (predsT l)[i]? with
              | none => rw [hx] at hr; exact .inr hr.symm
              | some y => rw [hx] at hr; exact .inl (by rw [← hr]; rfl)
            rcases this with h | h
            · exact h
            · subst h; cases hj) (.inr rfl) j hj
          exact this.resolve_right fun e => by have := hrlt j hj; omega
        -- two operations of which one has run ahead of its turn
        have hA' : ∀ j p, j < i → l[j]? = some p → listed.getD j false = false → ∃ ej, es[j]? = some ej ∧ p.apart l.toArray o = true ∧ ksApart ej.ks e.ks = true := by
          intro j p hj hp hx
          rcases hpair j p hj hp with h | ⟨q', h1, h2, h3⟩
          · rw [hpre j h] at hx; cases hx
          · rw [List.getElem?_map, Option.map_eq_some_iff] at h1
            obtain ⟨ej, h4, rfl⟩ := h1
            exact ⟨ej, h4, h2, h3⟩
        have hB' : ∀ j p, i < j → l[j]? = some p → listed.getD j false = true → ∃ ej, es[j]? = some ej ∧ o.apart l.toArray p = true ∧ ksApart e.ks ej.ks = true := by
          intro j p hj hp hx
          obtain ⟨qj, rj, hqj, hrj, _, hpj⟩ := comm_ok hc hp
          rw [List.getElem?_map, Option.map_eq_some_iff] at hqj
          obtain ⟨ej, h4, rfl⟩ := hqj
          rcases hpj i o hj ho with h | ⟨q', h1, h2, h3⟩
          · have := predsT_ok (fun j => listed.getD j false = true) l [] [] rfl (fun i' o' hi' hx j hj => hcl i' o' (by simpa using hi') hx j hj) (fun i' r' h => by simp at h) j rj (by
              rw [List.getD_eq_getElem?_getD] at hrj
              cases hx : (predsT l)[j]? with
              | none => rw [hx] at hrj; simp only [Option.getD_none] at hrj; subst hrj; cases h
              | some y => rw [hx] at hrj; simp only [Option.getD_some] at hrj; rw [← hrj]; exact hx) hx i h
            rw [h0] at this; cases this
          · rw [List.getElem?_map, he] at h1
            simp only [Option.map_some, Option.some.injEq] at h1
            subst h1
            exact ⟨ej, h4, h2, h3⟩
        -- the writers of what it looks at
        have hlook : ∀ τ ∈ o.looksAt l.toArray, ∀ j, j < l.length → (fT l es s.t.length τ j).isSome = true → listed.getD j false = decide (j < i) := by
          intro τ hτ j hj hw
          have hp : l[j]? = some l[j] := List.getElem?_eq_getElem hj
          have hdst : l[j].dst = some τ := by
            unfold fT at hw
            rw [hp] at hw
            cases hx : es[j]? with
            | none => rw [hx] at hw; cases hw
            | some ej => rw [hx] at hw; simp only at hw; split at hw; (· (rename_i h; exact h.1)); (· cases hw)
          rcases Nat.lt_trichotomy j i with h | h | h
          · cases hx : listed.getD j false with
            | true => simp [h]
            | false =>
              obtain ⟨ej, _, h2, _⟩ := hA' j l[j] h hp hx
              exact absurd hτ ((Oper.apart_spec h2).1 τ hdst)
          · subst h; simp [h0]
          · cases hx : listed.getD j false with
            | false => simp; omega
            | true =>
              obtain ⟨ej, _, h2, _⟩ := hB' j l[j] h hp hx
              exact absurd hτ ((Oper.apart_spec h2).2.2 τ hdst)
        have hkey : ∀ k, (e.rk = some k ∨ e.t.map (·.1) = some k) → ∀ j, j < l.length → (fH es k j).isSome = true → j ≠ i → listed.getD j false = decide (j < i) := by
          intro k hk j hj hw hne
          have hp : l[j]? = some l[j] := List.getElem?_eq_getElem hj
          obtain ⟨ej, hej, hwk⟩ : ∃ ej, es[j]? = some ej ∧ ej.t.map (·.1) = some k := by
            unfold fH at hw
            cases hx : es[j]? with
            | none => rw [hx] at hw; cases hw
            | some ej =>
              rw [hx] at hw
              simp only at hw
              refine ⟨ej, rfl, ?_⟩
              cases ht : ej.t with
              | none => rw [ht] at hw; cases hw
              | some p =>
                obtain ⟨k', ob⟩ := p
                rw [ht] at hw
                simp only at hw
                split at hw
                · rename_i h; subst h; rfl
                · cases hw
          rcases Nat.lt_trichotomy j i with h | h | h
          · cases hx : listed.getD j false with
            | true => simp [h]
            | false =>
              obtain ⟨ej', he', _, h3⟩ := hA' j l[j] h hp hx
              rw [hej] at he'; cases he'
              have := (ksApart_ok h3).1 k hwk
              rcases hk with hk | hk
              · exact absurd hk this.2
              · exact absurd hk this.1
          · exact absurd h hne
          · cases hx : listed.getD j false with
            | false => simp; omega
            | true =>
              obtain ⟨ej', he', _, h3⟩ := hB' j l[j] h hp hx
              rw [hej] at he'; cases he'
              rcases hk with hk | hk
              · exact absurd hk ((ksApart_ok h3).2 k hwk)
              · exact absurd hwk ((ksApart_ok h3).1 k hk).1
        have hHX : ∀ k, (e.rk = some k ∨ e.t.map (·.1) = some k) → lastW (fH es k) (fun j => listed.getD j false) l.length (s.h[k]?) = (ss i).h[k]? := by
          intro k hk
          rw [hHt i k (by omega), ← lastW_below l.length i (by omega)]
          refine lastW_congr _ fun j hj hw => ?_
          by_cases hne : j = i
          · subst hne; simp [h0]
          · exact hkey k hk j hj hw hne
        show wpOp P l.toArray Q i _ a w
        unfold wpOp
        have hoa : l.toArray[i]? = some o := by simpa using ho
        rw [hoa]
        simp only
        have hfin := hok x.S (w0.re w hg.keep.size) x w a _ hg.rebase (fun τ hτ => ?_) hHX (fun ob hob hdom => ?_) Q (wpAny P .any l.toArray Q fuel (listed.setIfInBounds i true)) (fun ch x' w' hz g' hext => hP ch x' a w' _ hz (hg.unbase hext g').1 (fun k hk => lastW_same _ fun j v hv => by
          unfold fH at hv
          cases hx : es[j]? with
          | none => rw [hx] at hv; cases hv
          | some ej =>
            rw [hx] at hv
            simp only at hv
            cases ht : ej.t with
            | none => rw [ht] at hv; cases hv
            | some p =>
              obtain ⟨k', ob⟩ := p
              rw [ht] at hv
              simp only at hv
              split at hv
              · rename_i h
                subst h
                cases hv
                exact (hkeep ej (List.mem_of_getElem? hx) _ _ hk ht).symm
              · cases hv) hts (hdf.mono (hg.unbase hext g').2)) (fun u x' w' g' hext hcv => ?_)
        · split
          · rename_i hw; rw [if_pos hw] at hfin; exact .inl hfin
          · rename_i hw; rw [if_neg hw] at hfin; exact hfin
        · -- slots
          rcases Nat.lt_or_ge τ s.t.length with hτl | hτl
          · rw [hT i τ (by omega), ← lastW_below l.length i (by omega), ← lastW_congr l.length (hlook τ hτ)]
            exact htm τ hτl
          · have : (ss i).t.getD τ .any = .any := by
              rw [List.getD_eq_getElem?_getD, List.getElem?_eq_none (by rw [hslen i (by omega)]; exact hτl)]
              rfl
            rw [this]
            simp only [CV]
        · -- a new object
          obtain ⟨ob', hob'⟩ := hg.dom _ hdom
          rw [hHX _ (.inr (by rw [hob]; rfl))] at hob'
          simp at hob'
        · -- on
          have hgd : ∀ j, (listed.setIfInBounds i true).getD j false = if i = j then true else listed.getD j false := fun j => getD_set listed i j (by omega)
          refine ih _ x' _ w' ?_ (by simpa using hsz) (fun i' o' hi' hx j hj => ?_) (by rw [put_size]; exact hts) (by rw [put_defers']; exact hdf.mono (hg.unbase hext g').2) (fun τ hτ => ?_) ?_
          · have := countP_lt (p := fun j => !listed.getD j false) (p' := fun j => !(listed.setIfInBounds i true).getD j false) (List.range l.length) (fun j _ h => by
              simp only [hgd] at h
              split at h
              · cases h
              · exact h) i (List.mem_range.2 hlt) (by simp [h0]) (by simp only [hgd]; simp)
            omega
          · rw [hgd] at hx ⊢
            split
            · rfl
            · split at hx
              · rename_i e1; subst e1
                rw [ho] at hi'; cases hi'
                exact hedge j hj
              · exact hcl i' o' hi' hx j hj
          · by_cases hd : o.dst = some τ
            · have e1 : lastW (fT l es s.t.length τ) (fun j => (listed.setIfInBounds i true).getD j false) l.length (s.t.getD τ .any) = e.v := by
                refine lastW_at l.length hlt (by simp [hgd]) (by simp [fT, ho, he, hd, hτ]) fun j hij hj hx => ?_
                rw [hgd, if_neg (by omega)] at hx
                have hp : l[j]? = some l[j] := List.getElem?_eq_getElem hj
                obtain ⟨ej, hej, h2, _⟩ := hB' j l[j] hij hp hx
                unfold fT
                rw [hp, hej]
                simp only
                rw [if_neg]
                rintro ⟨h5, _⟩
                exact (Oper.apart_spec h2).2.1 τ hd h5
              rw [e1, hd, getD_put, if_pos rfl, if_pos (by rw [hts]; exact hτ)]
              exact hcv
            · have e1 : lastW (fT l es s.t.length τ) (fun j => (listed.setIfInBounds i true).getD j false) l.length (s.t.getD τ .any) = lastW (fT l es s.t.length τ) (fun j => listed.getD j false) l.length (s.t.getD τ .any) := by
                refine lastW_congr _ fun j hj hw => ?_
                rw [hgd]
                split
                · rename_i e2; subst e2
                  simp [fT, ho, he, hd] at hw
                · rfl
              rw [e1]
              have e2 : (a.put o.dst u).tmps.getD τ undef = a.tmps.getD τ undef := by
                cases hdd : o.dst with
                | none => rfl
                | some d => rw [getD_put, if_neg (fun e => hd (by rw [hdd, e]))]
              rw [e2]
              exact CV.mono hext _ _ (htm τ hτ)
          · have e1 : (fun k => lastW (fH es k) (fun j => (listed.setIfInBounds i true).getD j false) l.length (s.h[k]?)) = Heap.upd (fun k => lastW (fH es k) (fun j => listed.getD j false) l.length (s.h[k]?)) e.t := by
              funext k
              have far : (fH es k i = none) → lastW (fH es k) (fun j => (listed.setIfInBounds i true).getD j false) l.length (s.h[k]?) = lastW (fH es k) (fun j => listed.getD j false) l.length (s.h[k]?) := by
                intro hn
                refine lastW_congr _ fun j hj hw => ?_
                rw [hgd]
                split
                · rename_i e2; subst e2; rw [hn] at hw; cases hw
                · rfl
              cases hte : e.t with
              | none => exact far (by simp [fH, he, hte])
              | some pp =>
                obtain ⟨k', ob⟩ := pp
                simp only [Heap.upd, Heap.set]
                by_cases hkk : k = k'
                · subst hkk
                  rw [if_pos rfl]
                  refine lastW_at l.length hlt (by simp [hgd]) (by simp [fH, he, hte]) fun j hij hj hx => ?_
                  rw [hgd, if_neg (by omega)] at hx
                  cases hfj : fH es k j with
                  | none => rfl
                  | some y =>
                    have := hkey k (.inr (by rw [hte]; rfl)) j hj (by rw [hfj]; rfl) (by omega)
                    rw [hx] at this
                    simp at this
                    omega
                · rw [if_neg hkk]
                  exact far (by simp [fH, he, hte, hkk])
            rw [e1]
            exact (hg.unbase hext g').1
  refine key _ _ x a w ?_ (by simp) (fun i o hi hx => by rw [none_yet] at hx; cases hx) (by have := hA.tm.len; simpa using this) hA.df (fun τ hτ => ?_) ?_
  · have := List.countP_le_length (p := fun i => !(Array.replicate l.toArray.size false).getD i false) (l := List.range l.length)
    simpa using this
  · rw [lastW_none l.length fun j _ hx => by rw [none_yet] at hx; cases hx]
    have := hA.tm.getD τ undef
    simpa [Array.getD_eq_getD_getElem?, List.getD_eq_getElem?_getD] using this
  · have e : (fun k => lastW (fH es k) (fun i => (Array.replicate l.toArray.size false).getD i false) l.length (s.h[k]?)) = fun k => s.h[k]? := by
      funext k
      exact lastW_none l.length fun j _ hx => by rw [none_yet] at hx; cases hx
    rw [e]
    exact hA.good
end

/-- a region that draws its order -/
theorem AW.drawT {m : Mo} {id : Nat} {ops : List Oper} {K : Exit → St → Prop} {s s' : St} {es : List Ef} (hm : P.follows .mixedOrders = true) (hd : m.rd = none ∨ noDefer ops = true) (ht : Trun P ops ops s es s') (hc : commB ops (es.map Ef.ks) = true) (hK : K .normal s') : AW m P (.region id ops.toArray true) K s := fun n S0 w0 x a w hm' hA => by
  have e : ({ w with drawn := w.drawn + 1 } : World) = w.drew := rfl
  have hA' : Abs S0 w0 x s a w.drew := by
    obtain ⟨g, he⟩ := hA.good.stepA (x' := x) (w' := w.drew) (Keep.refl w).drew ⟨fun _ _ h => h, fun b j v _ hc => (Keep.refl w).drew.cell hc⟩ rfl rfl (fun b j h => .inl h)
    exact ⟨g, CVs.mono he _ _ hA.tm, hA.df.mono (.of_keep (Keep.refl w).drew)⟩
  obtain ⟨rd, n0⟩ := m
  cases rd with
  | none =>
    refine wpIn_wide.2 (wp_region_any hm ?_)
    rw [e]
    exact draw_ok (K := K .normal) (Z := fun _ => False) (n := 0) ht.z hc hK (fun x s a w h hA => ⟨x, s, hA, h⟩) (fun _ _ k _ hk => absurd hk (Nat.not_lt_zero k)) (fun _ _ _ _ _ h => h.elim) hA'
  | some l =>
    have hd := hd.resolve_left (by simp)
    refine Code.wpIn_mono (Q := OnlyN fun a w => ∃ x s, Abs S0 w0 x s a w ∧ K .normal s) (fun e a w h => ?_) (wpIn_region_any hm (anyIn_of (onlyN_out _) hd _ _ _ _ ?_))
    · cases e <;> first | exact h | exact h.elim
    · rw [e]
      exact draw_ok (K := K .normal) (Z := fun _ => False) (n := 0) ht.z hc hK (fun x s a w h hA => ⟨x, s, hA, h⟩) (fun _ _ k _ hk => absurd hk (Nat.not_lt_zero k)) (fun _ _ _ _ _ h => h.elim) hA'
theorem AW.draw {m : Mo} {id : Nat} {ops : List Oper} {K : Exit → St → Prop} {s : St} (hm : P.follows .mixedOrders = true) (hd : m.rd = none ∨ noDefer ops = true) (h : adraw P ops (fun es s' => commB ops (es.map Ef.ks) = true ∧ K .normal s') ops [] s) : AW m P (.region id ops.toArray true) K s := by
  obtain ⟨es, s', ht, hc, hK⟩ := adraw_run _ _ _ h
  exact AW.drawT hm hd ht (by simpa using hc) hK
end Go.Proofs.YtnpenchciinmmaaGreat

/-
  The abstract machine: running a region that draws its order.
-/
namespace Go.Proofs.YtnpenchciinmmaaGreat
open Go.RowKit
set_option linter.unusedSimpArgs false
set_option linter.unusedVariables false

theorem mixedP : Tryz.prog.follows .mixedOrders = true := by kernel_rfl
def stepD (P : Program) (o : Oper) (s : St) : Option (Ef × St) :=
  match (aopF P (ev s.t) o.op).ap (fun k => s.h[k]?) s.h.length with
  | some (v, t) => some (⟨v, t, (aopF P (ev s.t) o.op).key⟩, s.step o.dst v t)
  | none => none
def runD (P : Program) (ops : List Oper) : List Oper → List Ef → St → Option (List Oper × List Ef × St)
  | [], acc, s => some ([], acc, s)
  | o :: r, acc, s => match gate ops s.t o.guard with
    | some true => match isCall o.op with
      | false => match stepD P o s with
        | some (e, s') => runD P ops r (acc ++ [e]) s'
        | none => none
      | true => some (o :: r, acc, s)
    | some false => runD P ops r (acc ++ [⟨.tup [], none, none⟩]) (s.put o.dst (.tup []))
    | none => none

variable {P : Program} {ops : List Oper} {K : List Ef → St → Prop}
theorem adraw_go : ∀ {l l' : List Oper} {acc acc' : List Ef} {s s' : St}, runD P ops l acc s = some (l', acc', s') → adraw P ops K l' acc' s' → adraw P ops K l acc s
  | [], l', acc, acc', s, s', h, hK => by simp only [runD, Option.some.injEq, Prod.mk.injEq] at h; obtain ⟨rfl, rfl, rfl⟩ := h; exact hK
  | o :: r, l', acc, acc', s, s', h, hK => by
    unfold runD at h
    split at h
    · rename_i hg
      split at h
      · rename_i hc
        split at h
        · rename_i e s1 hs
          have ih := adraw_go h hK
          unfold stepD at hs
          split at hs
          · rename_i v t hap
            simp only [Option.some.injEq, Prod.mk.injEq] at hs
            obtain ⟨rfl, rfl⟩ := hs
            unfold adraw
            refine awant_true hg ?_
            unfold aoperE
            rw [callOf_none hc]
            simp only
            rw [hap]
            exact ih
          · cases hs
        · cases h
      · simp only [Option.some.injEq, Prod.mk.injEq] at h
        obtain ⟨rfl, rfl, rfl⟩ := h
        exact hK
    · rename_i hg
      unfold adraw
      exact awant_false hg (adraw_go h hK)
    · cases h
theorem adraw_call {o : Oper} {r : List Oper} {acc : List Ef} {s : St} {f : FuncId} {args args' : List V} {res : V} {fn : Func} (hac : AC P f args' res) (hg : gate ops s.t o.guard = some true) (hc : callOf (ev s.t) o.op = some (f, args)) (hp : V.pubs args = some args') (hf : P.funcs[f]? = some fn) (hb : fn.body.isSome = true) (hn : (fn.name == "runtime.NumGoroutine") = false)
    (h : adraw P ops K r (acc ++ [⟨res, none, none⟩]) (s.step o.dst res none)) : adraw P ops K (o :: r) acc s := by
  unfold adraw
  refine awant_true hg ?_
  unfold aoperE
  rw [hc]
  simp only
  exact ⟨args', res, hp, hac, ⟨fn, hf, hb, by simpa using hn⟩, h⟩
theorem adraw_done {K : St → Prop} {acc : List Ef} {s : St} (hc : commB ops (acc.map Ef.ks) = true) (h : K s) : adraw P ops (fun es s' => commB ops (es.map Ef.ks) = true ∧ K s') [] acc s := ⟨hc, h⟩
def pubCall (e : Operand → V) (op : Op) : Option (FuncId × List V) :=
  match callOf e op with
  | some (f, args) => match V.pubs args with
    | some a => some (f, a)
    | none => none
  | none => none
theorem pubCall_ok {e : Operand → V} {op : Op} {f : FuncId} {args' : List V} (h : pubCall e op = some (f, args')) : ∃ args, callOf e op = some (f, args) ∧ V.pubs args = some args' := by
  unfold pubCall at h
  split at h
  · rename_i f' args hc
    split at h
    · rename_i a ha
      simp only [Option.some.injEq, Prod.mk.injEq] at h
      obtain ⟨rfl, rfl⟩ := h
      exact ⟨args, hc, ha⟩
    · cases h
  · cases h
theorem aops_c {K : St → Prop} {o : Oper} {r : List Oper} {s : St} {f : FuncId} {args' : List V} {res : V} {fn : Func} (hac : AC P f args' res) (hf : P.funcs[f]? = some fn) (hb : fn.body.isSome = true) (hn : (fn.name == "runtime.NumGoroutine") = false) (hg : gate ops s.t o.guard = some true) (hc : pubCall (ev s.t) o.op = some (f, args'))
    (h : aops P ops K r (s.step o.dst res none)) : aops P ops K (o :: r) s := by
  obtain ⟨args, h1, h2⟩ := pubCall_ok hc
  exact aops_call hac hg h1 h2 hf hb hn h
theorem adraw_c {o : Oper} {r : List Oper} {acc : List Ef} {s : St} {f : FuncId} {args' : List V} {res : V} {fn : Func} (hac : AC P f args' res) (hf : P.funcs[f]? = some fn) (hb : fn.body.isSome = true) (hn : (fn.name == "runtime.NumGoroutine") = false) (hg : gate ops s.t o.guard = some true) (hc : pubCall (ev s.t) o.op = some (f, args'))
    (h : adraw P ops K r (acc ++ [⟨res, none, none⟩]) (s.step o.dst res none)) : adraw P ops K (o :: r) acc s := by
  obtain ⟨args, h1, h2⟩ := pubCall_ok hc
  exact adraw_call hac hg h1 h2 hf hb hn h
end Go.Proofs.YtnpenchciinmmaaGreat

/-
  The abstract machine: a box that is not written any more becomes data.
-/
namespace Go.Proofs.YtnpenchciinmmaaGreat
open Go.RowKit
set_option linter.unusedSimpArgs false
set_option linter.unusedVariables false

/-- n rows of es -/
def chop {α : Type} (es : Nat) : Nat → List α → List (List α)
  | 0, _ => []
  | n + 1, l => l.take es :: chop es n (l.drop es)
theorem chop_len {α : Type} {es : Nat} : ∀ (n : Nat) (l : List α), (chop es n l).length = n
  | 0, _ => rfl
  | n + 1, l => by simp [chop, chop_len n]
theorem chop_rows {α : Type} {es : Nat} : ∀ (n : Nat) (l : List α), n * es ≤ l.length → ∀ r ∈ chop es n l, r.length = es
  | 0, _, _, r, h => by cases h
  | n + 1, l, hl, r, h => by
    rw [Nat.add_mul] at hl
    rcases List.mem_cons.1 h with rfl | h
    · rw [List.length_take]; omega
    · exact chop_rows n _ (by rw [List.length_drop]; omega) r h
theorem chop_flat {α : Type} {es : Nat} : ∀ (n : Nat) (l : List α), (chop es n l).flatten = l.take (n * es)
  | 0, l => by simp [chop]
  | n + 1, l => by
    simp only [chop, List.flatten_cons, chop_flat n]
    rw [show (n + 1) * es = es + n * es by rw [Nat.add_mul]; omega, List.take_add]
theorem chop_rows_eq {α : Type} {es : Nat} : ∀ (rows : List (List α)), (∀ r ∈ rows, r.length = es) → chop es rows.length rows.flatten = rows
  | [], _ => rfl
  | r :: rs, h => by
    have hr := h r (by simp)
    simp only [List.length_cons, chop, List.flatten_cons]
    rw [List.take_left' hr, List.drop_left' hr, chop_rows_eq rs fun r hr => h r (by simp [hr])]
mutual
def V.frz (k : Nat) (row : List C) : V → V
  | .ptr i off => if i = k then .cp row off else .ptr i off
  | .agg l => .agg (V.frzs k row l)
  | .tup l => .tup (V.frzs k row l)
  | .fn f l => .fn f (V.frzs k row l)
  | .any => .any
  | .c d => .c d
  | .own i off len es => if i = k then .c (.sl (chop es len (row.drop off))) else .own i off len es
  | .cp r off => .cp r off
  | .full r => .full r
  | .gr i es r => .gr i es r
  | .hot i es r => .hot i es r
  | .hp i n p => .hp i n p
  | .yl l => .yl l
  | .mp i => .mp i
def V.frzs (k : Nat) (row : List C) : List V → List V
  | [] => []
  | v :: l => V.frz k row v :: V.frzs k row l
end
def O.frz (k : Nat) (row : List C) : O → O
  | .box ty cs fr => .box ty (V.frzs k row cs) fr
  | .tok ty es cur => .tok ty es cur
  | .hot ty es cur cs => .hot ty es cur (V.frzs k row cs)
  | .mp R => .mp R
mutual
theorem CV.frz {x x' : Cx} {w : World} {k : Nat} {row : List C} (he : Ext x x' w w) (hk : RdR x'.S w row (x.loc k).b 0) (hn : row.length = (x.loc k).n) : ∀ (v : V) (u : Value), CV x w v u → CV x' w (V.frz k row v) u
  | .ptr i off, u, h => by
    simp only [V.frz]
    split
    · rename_i e
      subst e
      simp only [CV] at h ⊢
      exact ⟨(x.loc i).b, 0, by rw [Nat.zero_add]; exact h.2.2, hk⟩
    · exact CV.mono he _ _ h
  | .agg l, u, h => by simp only [V.frz, CV] at h ⊢; obtain ⟨vs, e, h⟩ := h; exact ⟨vs, e, CVs.frz he hk hn l _ h⟩
  | .tup l, u, h => by simp only [V.frz, CV] at h ⊢; obtain ⟨vs, e, h⟩ := h; exact ⟨vs, e, CVs.frz he hk hn l _ h⟩
  | .fn f l, u, h => by simp only [V.frz, CV] at h ⊢; obtain ⟨vs, e, h⟩ := h; exact ⟨vs, e, CVs.frz he hk hn l _ h⟩
  | .any, u, h => by simp only [V.frz, CV]
  | .c d, u, h => by rw [V.frz]; exact CV.mono he _ _ h
  | .own i off len es, u, h => by
    simp only [V.frz]
    split
    · rename_i e
      subst e
      simp only [CV, RdC] at h ⊢
      obtain ⟨_, _, cap, rfl, h1, h2, h3⟩ := h
      have hm : len * es ≤ cap * es := Nat.mul_le_mul_right _ h1
      have hl : len * es ≤ (row.drop off).length := by rw [List.length_drop]; omega
      refine ⟨_, cap, by rw [chop_len], by rw [chop_len]; exact h1, h2, fun _ => ⟨(x.loc i).b, off, es, rfl, chop_rows len _ hl, ?_⟩⟩
      rw [RdRs.flat, chop_flat]
      have h4 := (RdR.append (l := row.take off) (m := row.drop off)).1 (by rw [List.take_append_drop]; exact hk)
      have h5 := h4.2
      rw [List.length_take, Nat.min_eq_left (by omega), Nat.zero_add] at h5
      exact ((RdR.append (l := (row.drop off).take (len * es)) (m := (row.drop off).drop (len * es))).1 (by rw [List.take_append_drop]; exact h5)).1
    · exact CV.mono he _ _ h
  | .cp r off, u, h => by rw [V.frz]; exact CV.mono he _ _ h
  | .full r, u, h => by rw [V.frz]; exact CV.mono he _ _ h
  | .gr i es r, u, h => by rw [V.frz]; exact CV.mono he _ _ h
  | .hot i es r, u, h => by rw [V.frz]; exact CV.mono he _ _ h
  | .hp i n p, u, h => by rw [V.frz]; exact CV.mono he _ _ h
  | .yl l, u, h => by rw [V.frz]; exact CV.mono he _ _ h
  | .mp i, u, h => by rw [V.frz]; exact CV.mono he _ _ h
theorem CVs.frz {x x' : Cx} {w : World} {k : Nat} {row : List C} (he : Ext x x' w w) (hk : RdR x'.S w row (x.loc k).b 0) (hn : row.length = (x.loc k).n) : ∀ (l : List V) (us : List Value), CVs x w l us → CVs x' w (V.frzs k row l) us
  | [], us, h => by simpa only [V.frzs, CVs] using h
  | v :: l, us, h => by
    simp only [V.frzs, CVs] at h ⊢
    obtain ⟨u, ur, e, h1, h2⟩ := h
    exact ⟨u, ur, e, CV.frz he hk hn v u h1, CVs.frz he hk hn l ur h2⟩
end
theorem frzs_len (k : Nat) (row : List C) : ∀ l : List V, (V.frzs k row l).length = l.length
  | [] => rfl
  | v :: l => by simp only [V.frzs, List.length_cons, frzs_len k row l]
theorem Le.freeze {m : Mo} {t : List V} {h : List O} (k : Nat) {ty : TypeId} {cs : List V} {row : List C} (hk : h[k]? = some (.box ty cs false)) (hr : toCs cs = some row) : Le m ⟨t, h⟩ ⟨V.frzs k row t, (h.set k (.box ty cs true)).map (O.frz k row)⟩ := fun S0 w0 x a w hm hA => by
  have g := hA.good
  obtain ⟨hd, b1, b2, vs, b3, b4, b5⟩ := g.ok k _ hk
  have hrl := toCs_ok hr b5
  have hrn : row.length = (x.loc k).n := by rw [← b4, ← Array.length_toList, hrl.len]
  have ar : Ar x.S (fun b j => x.S b j ∨ (b = (x.loc k).b ∧ j < (x.loc k).n)) w w := ⟨fun _ _ h => .inl h, fun _ _ _ _ h => h⟩
  have he : Ext x { x with S := fun b j => x.S b j ∨ (b = (x.loc k).b ∧ j < (x.loc k).n) } w w := ⟨ar, fun _ h => h, fun _ _ => LocLe.refl _⟩
  have hrow : RdR (fun b j => x.S b j ∨ (b = (x.loc k).b ∧ j < (x.loc k).n)) w row (x.loc k).b 0 := by
    refine RdR.of_vals (RdL.mono ar _ _ hrl) (fun j u hu => ?_) (fun j hj => .inr ⟨rfl, by omega⟩)
    rw [Nat.zero_add, cell_of_row w _ j vs ty (0, 0) b3]
    simpa using hu
  have hlt : k < h.length := (List.getElem?_eq_some_iff.1 hk).1
  -- the objects, one by one
  have hob : ∀ i o, ((h.set k (.box ty cs true)).map (O.frz k row))[i]? = some o → ∃ o0, h[i]? = some o0 ∧ ((i ≠ k ∧ o = o0.frz k row) ∨ (i = k ∧ o = (O.box ty cs true).frz k row)) := by
    intro i o ho
    rw [List.getElem?_map, Option.map_eq_some_iff] at ho
    obtain ⟨o1, h1, rfl⟩ := ho
    rw [List.getElem?_set] at h1
    by_cases e : k = i
    · subst e
      simp only [hlt, if_true] at h1
      cases h1
      exact ⟨_, hk, .inr ⟨rfl, rfl⟩⟩
    · simp only [e, if_false] at h1
      exact ⟨o1, h1, .inl ⟨fun h => e h.symm, rfl⟩⟩
  refine ⟨{ x with S := fun b j => x.S b j ∨ (b = (x.loc k).b ∧ j < (x.loc k).n) }, ⟨fun i o ho => ?_, fun i hi => ?_, fun i i' o o' h1 h2 hne hv hv' => ?_, fun i o j ho hx hs => ?_, fun b j hs => ?_, fun i o ho hv => ?_, fun b j hs => ?_, fun b j hs => .inl (g.sub b j hs), g.keep, g.ext.trans he⟩, CVs.frz he hrow hrn t _ hA.tm, hA.df⟩
  · obtain ⟨o0, h1, h2⟩ := hob i o ho
    obtain ⟨h3, h4⟩ := g.ok i o0 h1
    refine ⟨h3, ?_⟩
    rcases h2 with ⟨_, rfl⟩ | ⟨rfl, rfl⟩
    · cases o0 with
      | box ty' cs' fr => obtain ⟨a1, a2, vs', a3, a4, a5⟩ := h4; exact ⟨a1, a2, vs', a3, a4, CVs.frz he hrow hrn cs' _ a5⟩
      | tok ty' es cur => exact h4
      | mp R => exact h4
      | hot ty' es cur cs' =>
        obtain ⟨a1, a2, a3, a4, a5, vs', a6, a7, a8, a9⟩ := h4
        exact ⟨a1, a2, a3, a4, by rw [frzs_len]; exact a5, vs', a6, a7, a8, CVs.frz he hrow hrn cs' _ a9⟩
    · exact ⟨b1, b2, vs, b3, b4, CVs.frz he hrow hrn cs _ b5⟩
  · obtain ⟨o, ho⟩ := g.dom i hi
    have hil : i < h.length := (List.getElem?_eq_some_iff.1 ho).1
    exact ⟨_, List.getElem?_eq_getElem (by simpa using hil)⟩
  · obtain ⟨o0, k1, _⟩ := hob i o h1
    obtain ⟨o0', k2, _⟩ := hob i' o' h2
    exact g.inj i i' o0 o0' k1 k2 hne hv hv'
  · obtain ⟨o0, h1, h2⟩ := hob i o ho
    rcases h2 with ⟨hne, rfl⟩ | ⟨rfl, rfl⟩
    · have hx' : Ex x i o0 j := by cases o0 <;> exact hx
      rcases hs with hs | ⟨hb, _⟩
      · exact g.excl i o0 j h1 hx' hs
      · have hv : (x.loc i).void = false := by
          cases o0 with
          | box ty' cs' fr => exact (g.ok i _ h1).2.2.1
          | tok ty' es cur => exact hx'.1
          | hot ty' es cur cs' => exact (g.ok i _ h1).2.2.1
          | mp R => exact (g.ok i _ h1).2.2.1
        exact g.inj i k o0 _ h1 hk hne hv b2 hb
    · cases hx.1
  · rcases hs with hs | ⟨rfl, _⟩
    · exact g.ex b j hs
    · exact (Array.getElem?_eq_some_iff.1 b3).1
  · obtain ⟨o0, h1, _⟩ := hob i o ho
    exact g.own i o0 h1 hv
  · rcases hs with hs | ⟨rfl, _⟩
    · exact g.new b j hs
    · exact .inr (g.own k _ hk b2)
/-- at a piece of code -/
theorem AW.frz {m : Mo} {P : Program} {c : Code} {K : Exit → St → Prop} {t : List V} {h : List O} (k : Nat) {ty : TypeId} {cs : List V} {row : List C} (hk : h[k]? = some (.box ty cs false)) (hr : toCs cs = some row) {t' : List V} {h' : List O} (ht : V.frzs k row t = t') (hh : (h.set k (.box ty cs true)).map (O.frz k row) = h') (hw : AW m P c K ⟨t', h'⟩) : AW m P c K ⟨t, h⟩ :=
  AW.le (Le.freeze k hk hr) (by rw [ht, hh]; exact hw)
theorem Le.wdrop {m : Mo} {t t' : List V} {h h' : List O} (n : Nat) (hn : m.n0 ≤ n) (hs : subT t t') (hh : h.take n = h') (hb : V.bnds n t' = true) (ho : (h'.all (O.bnd n)) = true) : Le m ⟨t, h⟩ ⟨t', h'⟩ := Le.trans (Le.weak hs) (Le.drop n hn hh hb ho)
end Go.Proofs.YtnpenchciinmmaaGreat

/-
  The abstract machine: a body with labels, through which no run jumps.
-/
namespace Go.Proofs.YtnpenchciinmmaaGreat
open Go.RowKit

def aNg (K : Exit → St → Prop) : Exit → St → Prop
  | .goto _, _ => False
  | e, s => K e s
section
variable {P : Program} {K : Exit → St → Prop} {s : St} {i : Nat}
theorem aNg_n (h : K .normal s) : aNg K .normal s := h
theorem aNg_r (h : K .ret s) : aNg K .ret s := h
theorem aNg_e (h : K (.exit i) s) : aNg K (.exit i) s := h
theorem AW.scope {n0 : Nat} {c : Code} (h : AW ⟨none, n0⟩ P c (aNg K) s) : AW ⟨none, n0⟩ P (.scope c) K s := fun n S0 w0 x a w hm hA => wpIn_wide.2 (wp_scope_straight (wp_mono (wpIn_wide.1 (h n S0 w0 x a w hm hA)) fun e a w ⟨x, s, h1, h2⟩ => by
  cases e with
  | goto l => exact h2.elim
  | _ => exact ⟨x, s, h1, h2⟩))
end
end Go.Proofs.YtnpenchciinmmaaGreat

/-
  The abstract machine: long regions, run a few operations at a time.
-/
namespace Go.Proofs.YtnpenchciinmmaaGreat
open Go.RowKit
set_option linter.unusedSimpArgs false
set_option linter.unusedVariables false

def gateS (ds : List (Option Nat)) (t : List V) : Option (Nat × Bool) → Option Bool
  | none => some true
  | some (j, w) => match ds[j]? with
    | some (some d) => match t.getD d .any with
      | .c (.bool b) => some (b == w)
      | .tup [] => some false
      | _ => none
    | _ => none
theorem gateS_eq (ops : List Oper) (t : List V) (g : Option (Nat × Bool)) : gateS (ops.map (·.dst)) t g = gate ops t g := by
  cases g with
  | none => rfl
  | some p =>
    obtain ⟨j, w⟩ := p
    simp only [gateS, gate, List.getElem?_map]
    cases h : ops[j]? with
    | none => rfl
    | some o => cases h2 : o.dst <;> simp only [Option.map_some, Option.bind_some, h2] <;> rfl
def runG (P : Program) (ds : List (Option Nat)) : Nat → List Oper → St → Option (List Oper × St)
  | 0, l, s => some (l, s)
  | _ + 1, [], s => some ([], s)
  | n + 1, o :: r, s => match gateS ds s.t o.guard with
    | some true => match isCall o.op with
      | false => match stepF P o s with
        | some s' => runG P ds n r s'
        | none => none
      | true => some (o :: r, s)
    | some false => runG P ds n r (s.put o.dst (.tup []))
    | none => none
variable {P : Program} {K : St → Prop} {ops : List Oper}
theorem aops_chunk {ds : List (Option Nat)} (hd : ops.map (·.dst) = ds) : ∀ (n : Nat) {l l' : List Oper} {s s' : St}, runG P ds n l s = some (l', s') → aops P ops K l' s' → aops P ops K l s
  | 0, l, l', s, s', h, hK => by simp only [runG, Option.some.injEq, Prod.mk.injEq] at h; obtain ⟨rfl, rfl⟩ := h; exact hK
  | n + 1, [], l', s, s', h, hK => by simp only [runG, Option.some.injEq, Prod.mk.injEq] at h; obtain ⟨rfl, rfl⟩ := h; exact hK
  | n + 1, o :: r, l', s, s', h, hK => by
    subst hd
    unfold runG at h
    rw [gateS_eq] at h
    split at h
    · rename_i hg
      split at h
      · rename_i hc
        split at h
        · rename_i s1 hs
          have ih := aops_chunk rfl n h hK
          unfold stepF at hs
          split at hs
          · rename_i v t hap
            cases hs
            unfold aops
            refine awant_true hg ?_
            unfold aoper
            rw [callOf_none hc]
            simp only
            rw [hap]
            exact ih
          · cases hs
        · cases h
      · simp only [Option.some.injEq, Prod.mk.injEq] at h
        obtain ⟨rfl, rfl⟩ := h
        exact hK
    · rename_i hg
      unfold aops
      exact awant_false hg (aops_chunk rfl n h hK)
    · cases h
end Go.Proofs.YtnpenchciinmmaaGreat

/-
  The abstract machine: a region with an operation that is walked by hand.
-/
namespace Go.Proofs.YtnpenchciinmmaaGreat
open Go.RowKit
set_option linter.unusedSimpArgs false
set_option linter.unusedVariables false

/-- the rest l of a region, from any memory of s -/
def SW (P : Program) (ops : List Oper) (K : Exit → St → Prop) (l : List Oper) (s : St) : Prop :=
  ∀ (S0 : Area) (w0 : Bs) (x : Cx) (a : Act) (w : World), Abs S0 w0 x s a w → wpList P ops.toArray (fun e a w => ∃ x s, Abs S0 w0 x s a w ∧ K e s) l a w
section
variable {P : Program} {K : Exit → St → Prop} {ops : List Oper} {s : St}
theorem AW.regionS {n0 id : Nat} (h : SW P ops K ops s) : AW ⟨none, n0⟩ P (.region id ops.toArray false) K s := fun n S0 w0 x a w hm hA => wpIn_wide.2 (wp_region_lit (h S0 w0 x a w hA))
theorem SW.nil (h : K .normal s) : SW P ops K [] s := fun S0 w0 x a w hA => ⟨x, s, hA, h⟩
theorem SW.pre {l' : List Oper} : ∀ (l : List Oper) (s : St), aops P ops (fun s' => SW P ops K l' s') l s → SW P ops K (l ++ l') s
  | [], s, h => h
  | o :: r, s, h => fun S0 w0 x a w hA => by
    unfold aops at h
    obtain ⟨h1, h2⟩ := awant_ok hA.tm h
    rw [List.cons_append]
    unfold wpList
    split
    · rename_i hw
      refine .inl (aoper_ok hA (h1 hw) fun v t u x' w' hK g he hnc hv => ?_)
      exact SW.pre r _ hK S0 w0 x' _ w' (Abs.put hA.tm (hA.df.mono hnc) he g hv o.dst)
    · rename_i hw
      exact SW.pre r _ (h2 hw) S0 w0 x _ w (Abs.put (v := .tup []) (u := undef) hA.tm hA.df (Ext.refl x w) hA.good (undef_ok x w) o.dst)
theorem SW.take (n : Nat) {l : List Oper} (h : aops P ops (fun s' => SW P ops K (l.drop n) s') (l.take n) s) : SW P ops K l s := by
  have := SW.pre (l.take n) s h
  rwa [List.take_append_drop] at this
/-- one operation, by hand -/
theorem SW.op {o : Oper} {r : List Oper} (v : V) (hg : gate ops s.t o.guard = some true) (hc : isCall o.op = false)
    (hR : ∀ (S0 : Area) (w0 : Bs) (x : Cx) (a : Act) (w : World), Good S0 w0 x w (fun k => s.h[k]?) ∧ CVs x w s.t a.tmps.toList → RunOk P o a S0 w0 x w (fun k => s.h[k]?) v none) (h : SW P ops K r (s.step o.dst v none)) : SW P ops K (o :: r) s := fun S0 w0 x a w hA => by
  have hw : Region.wanted o (yielded ops.toArray a.tmps) = true := by
    have := awant_ok (o := o) hA.tm (awant_true (ops := ops) (K1 := True) (K2 := False) hg trivial)
    exact Classical.byContradiction fun h => this.2 h
  unfold wpList
  rw [if_pos hw]
  refine .inl ?_
  obtain ⟨nx, w', x', u, hr, hnx, hcv, g', he, _⟩ := hR x.S (w0.re w hA.good.keep.size) x a w ⟨hA.good.rebase, hA.tm⟩
  obtain ⟨g', hnc⟩ := hA.good.unbase he g'
  unfold Oper.wp
  rw [hr]
  rcases hnx with rfl | ⟨rfl, rfl⟩
  · exact h S0 w0 x' _ w' (Abs.put hA.tm (hA.df.mono hnc) he g' hcv o.dst)
  · exact h S0 w0 x' _ w' (Abs.put hA.tm (hA.df.mono hnc) he g' hcv o.dst)
end
end Go.Proofs.YtnpenchciinmmaaGreat

/-
  The abstract machine: append in place: a zero row is appended, then written; regions that draw, with operations by hand.
-/
namespace Go.Proofs.YtnpenchciinmmaaGreat
open Go.RowKit
set_option linter.unusedSimpArgs false
set_option linter.unusedVariables false

section
variable {P : Program} {S0 : Area} {w0 : Bs} {x : Cx} {w : World} {H : Heap} {a : Act} {o : Oper}

theorem Good.growHot (g : Good S0 w0 x w H) (k : Nat) {ety : TypeId} {es n : Nat} (hk : ∀ o, H k = some o → ∃ ty es cur, o = .tok ty es cur ∧ cur < n + 1) {vs : Array Value} {cap : Nat} (hsz : vs.size = cap * es) {l : List C} {row : List V} (hl : RdL x.S w l (vs.toList.take (n * es))) (hll : l.length = n * es) (hm : n + 1 ≤ cap) (hrl : row.length = es) (hrow : CVs x w row ((vs.toList.drop (n * es)).take es)) :
    let x' := x.grow k ⟨w.heap.size, cap * es, true, n + 1, false⟩ (n * es)
    Good S0 w0 x' (w.drew.alloc (.cells vs ety)) (H.set k (.hot ety es (n + 1) row)) ∧ Ext x x' w (w.drew.alloc (.cells vs ety)) ∧ RdR x'.S (w.drew.alloc (.cells vs ety)) l w.heap.size 0 := by
  intro x'
  have hkp : Keep w (w.drew.alloc (.cells vs ety)) := (Keep.refl w).drew.alloc _
  have hblk : (w.drew.alloc (.cells vs ety)).heap[w.heap.size]? = some (.cells vs ety (0, 0)) := heap_alloc_new w.drew _
  have ar : Ar x.S x'.S w (w.drew.alloc (.cells vs ety)) := ⟨fun _ _ h => .inl h, fun b j v _ hc => hkp.cell hc⟩
  have he : Ext x x' w (w.drew.alloc (.cells vs ety)) := by
    refine ⟨ar, fun _ h => .inl h, fun i hi => ?_⟩
    by_cases e : i = k
    · subst e
      obtain ⟨o, ho⟩ := g.dom i hi
      obtain ⟨ty, es', cur, rfl, hlt⟩ := hk o ho
      obtain ⟨_, h1, h2, _⟩ := g.ok i _ ho
      simp only [x', Cx.grow, if_true]
      exact ⟨h1.symm, .inr ⟨h1, by rw [h2]; exact hlt⟩⟩
    · simp only [x', Cx.grow, e, if_false]; exact LocLe.refl _
  have hmul : (n + 1) * es ≤ cap * es := Nat.mul_le_mul_right _ hm
  refine ⟨g.stepB k _ he (.of_keep hkp) (fun i => Iff.rfl) (fun i hi => by simp [x', Cx.grow, hi]) (fun _ => .inr (by simp [x', Cx.grow])) ?_ (fun b j h => ?_) (fun j hx hs => ?_), he, ?_⟩
  · exact ⟨by simp [x', Cx.grow], by simp [x', Cx.grow], by simp [x', Cx.grow], by omega, hrl, vs, by simp only [x', Cx.grow, if_true]; exact hblk, by simp [x', Cx.grow, hsz], by rw [hsz]; exact hmul, CVs.mono he _ _ (by simpa using hrow)⟩
  · rcases h with h | ⟨rfl, h⟩
    · exact .inl h
    · refine .inr ⟨by simp, .inl (Nat.le_refl _), fun _ hx => ?_⟩
      have := hx.1
      simp at this
      omega
  · simp only [x', Cx.grow, if_true] at hs
    have := g.ex _ _ hs
    omega
  · refine RdR.of_vals (RdL.mono ar _ _ hl) (fun j u hu => ?_) (fun j hj => .inr ⟨rfl, by rw [hll] at hj; omega⟩)
    rw [Nat.zero_add, cell_of_row _ _ j vs ety (0, 0) hblk]
    rw [List.getElem?_take] at hu
    split at hu
    · simpa using hu
    · cases hu

theorem Good.roomHot (g : Good S0 w0 x w H) (k : Nat) {ety : TypeId} {es n : Nat} (hH : H k = some (.tok ety es n)) (hv : (x.loc k).void = false) {cur : Array Value} (hb : w.heap[(x.loc k).b]? = some (.cells cur ety (0, 0))) {news : List Value} {l : List C} {row : List V} (hnl : news.length = es) (hfit : n * es + es ≤ cur.size)
    (hl : RdL x.S w l (cur.toList.take (n * es))) (hrl : row.length = es) (hrow : CVs x w row news) :
    let x' := x.grow k ⟨(x.loc k).b, (x.loc k).n, true, n + 1, false⟩ (n * es)
    let w' := w.setRow (x.loc k).b (cur.toList.take (n * es) ++ news ++ cur.toList.drop (n * es + news.length)).toArray
    Good S0 w0 x' w' (H.set k (.hot ety es (n + 1) row)) ∧ Ext x x' w w' ∧ RdR x'.S w' l (x.loc k).b 0 := by
  intro x' w'
  obtain ⟨hd, h1, h2, h3⟩ := g.ok k _ hH
  obtain ⟨vs, hb', hn⟩ := h3 hv
  rw [hb] at hb'
  cases hb'
  have hblk : w'.heap[(x.loc k).b]? = some (.cells (cur.toList.take (n * es) ++ news ++ cur.toList.drop (n * es + news.length)).toArray ety (0, 0)) := setRow_heap w _ cur _ ety (0, 0) hb
  have hsz : (cur.toList.take (n * es) ++ news ++ cur.toList.drop (n * es + news.length)).toArray.size = cur.size := by
    simp only [List.size_toArray, List.length_append, List.length_take, List.length_drop, Array.length_toList]
    omega
  have ar : Ar x.S x'.S w w' := by
    refine ⟨fun _ _ h => .inl h, fun b j v hS hc => ?_⟩
    by_cases hbk : b = (x.loc k).b
    · subst hbk
      rw [cell_of_row w _ j cur ety (0, 0) hb] at hc
      rw [cell_of_row w' _ j _ ety (0, 0) hblk]
      have hj : j < cur.size := (Array.getElem?_eq_some_iff.1 hc).1
      have hjn : j < n * es := by
        rcases Nat.lt_or_ge j (n * es) with h | h
        · exact h
        · exact absurd hS (g.excl k _ j hH ⟨hv, h, by omega⟩)
      rw [List.getElem?_toArray, List.append_assoc, List.getElem?_append_left (by simp; omega), List.getElem?_take, if_pos hjn]
      simpa using hc
    · rw [World.cell?_of_block (w := w) (a := ⟨b, j, none⟩) (setRow_other w _ b _ hbk)]
      exact hc
  have he : Ext x x' w w' := by
    refine ⟨ar, fun _ h => .inl h, fun i hi => ?_⟩
    by_cases e : i = k
    · subst e
      simp only [x', Cx.grow, if_true]
      exact ⟨h1.symm, .inr ⟨h1, by rw [h2]; simp⟩⟩
    · simp only [x', Cx.grow, e, if_false]; exact LocLe.refl _
  refine ⟨g.stepB k _ he ⟨rfl, rfl, rfl, by simp [w'], fun i _ hn => setRow_other w _ i _ (fun e => hn ⟨hd, hv, e.symm⟩)⟩ (fun i => Iff.rfl) (fun i hi => by simp [x', Cx.grow, hi]) (fun _ => .inl ⟨hd, hv, by simp [x', Cx.grow]⟩) ?_ (fun b j h => ?_) (fun j hx hs => ?_), he, ?_⟩
  · refine ⟨by simp [x', Cx.grow], by simp [x', Cx.grow], by simp [x', Cx.grow], by omega, hrl, _, by simp only [x', Cx.grow, if_true]; exact hblk, by simp only [x', Cx.grow, if_true]; rw [hsz, hn], by rw [hsz, Nat.add_mul]; omega, CVs.mono he _ _ ?_⟩
    have e1 : (cur.toList.take (n * es)).length = n * es := by simp; omega
    simp only [Nat.add_sub_cancel]
    rw [List.append_assoc, List.drop_left' e1, List.take_left' hnl]
    exact hrow
  · rcases h with h | ⟨rfl, h⟩
    · exact .inl h
    · refine .inr ⟨by simp [w']; exact (Array.getElem?_eq_some_iff.1 hb).1, .inr ⟨hd, hv, rfl⟩, fun _ hx => ?_⟩
      have := hx.1
      simp at this
      omega
  · simp only [x', Cx.grow, if_true] at hs
    refine g.excl k _ j hH ⟨hv, ?_, ?_⟩ hs
    · have := hx.1; simpa using this
    · have := hx.2; simpa [x', Cx.grow] using this
  · have hll : l.length = n * es := by
      have := hl.len
      simp only [List.length_take, Array.length_toList] at this
      omega
    refine RdR.of_vals (RdL.mono ar _ _ hl) (fun j u hu => ?_) (fun j hj => .inr ⟨rfl, by rw [hll] at hj; omega⟩)
    rw [Nat.zero_add, cell_of_row w' _ j _ ety (0, 0) hblk, List.getElem?_toArray, List.append_assoc, List.getElem?_append_left ((List.getElem?_eq_some_iff.1 hu).1)]
    exact hu

theorem take_split {vs A B : List Value} {n es : Nat} (h : vs.take ((n + 1) * es) = A ++ B) (hA : A.length = n * es) (hle : (n + 1) * es ≤ vs.length) : A = vs.take (n * es) ∧ B = (vs.drop (n * es)).take es := by
  rw [show (n + 1) * es = n * es + es by rw [Nat.add_mul]; omega, List.take_add] at h
  rw [Nat.add_mul] at hle
  have := List.append_inj h (by rw [hA, List.length_take]; omega)
  exact ⟨this.1.symm, this.2.symm⟩
theorem ok_append_hot (g : Good S0 w0 x w H) {t : TypeId} {y z : Operand} (ho : o.op = .call ⟨.builtin .append, #[y, z], #[t, t]⟩) {ety : TypeId} {es by_ : Nat} (hT : tElem P t = some (ety, es, by_)) {rows : List (List C)} {row : List C} {k : Nat} (hY : CV x w (.gr k es rows) (a.eval y)) (hZ : RdC x.S w (.sl [row]) (a.eval z))
    (hes : 0 < es) (hy : row.length = es) (h63 : rows.length + 1 ≤ maxLen) (hb : (rows.length + 1) * by_ ≤ 140737488355328) (hH : H k = some (.tok ety es rows.length)) :
    RunOk P o a S0 w0 x w H (.hot k es rows) (some (k, .hot ety es (rows.length + 1) (row.map V.c))) := by
  simp only [CV] at hY
  obtain ⟨hdom, htok, hd, hr, hle, hcur⟩ := hY
  obtain ⟨_, _, hc2, hc3⟩ := g.ok k _ hH
  have hcur := hcur hc2.symm
  obtain ⟨A, c, xs, hu, q1, q2, q3, q4, q5, q6⟩ := sl_vals hd hr
  have hy' : ∀ r ∈ [row], r.length = es := by simpa using hy
  have fin : (∀ A n c, a.eval y = .slice A n c → c < n + [row].length ∧ (A = none → c = 0)) → RunOk P o a S0 w0 x w H (.hot k es rows) (some (k, .hot ety es (rows.length + 1) (row.map V.c))) := by
    intro hcap
    obtain ⟨vs, cap, hrun, hsz, h1, h2, hl⟩ := app_grow (ty := o.type) hT hd hr hZ hy' (by simp) hcap h63 hb
    simp only [List.length_cons, List.length_nil, Nat.zero_add] at hrun h1 hl
    rw [List.flatten_append] at hl
    obtain ⟨A1, B1, e1, l1, l2⟩ := RdL.split hl
    have hmul : (rows.length + 1) * es ≤ cap * es := Nat.mul_le_mul_right _ h1
    have hA1 : A1.length = rows.length * es := by rw [l1.len, flat_len hr]
    have hvl : vs.toList.length = cap * es := by rw [Array.length_toList, hsz]
    obtain ⟨rfl, rfl⟩ := take_split e1 hA1 (by rw [hvl]; exact hmul)
    simp only [List.flatten_cons, List.flatten_nil, List.append_nil] at l2
    obtain ⟨g', he, hrd⟩ := g.growHot k (ety := ety) (n := rows.length) (fun ob h => by rw [hH] at h; cases h; exact ⟨_, _, _, rfl, by omega⟩) hsz l1 (flat_len hr) h1 (row := row.map V.c) (by simpa using hy) (CVs.ofC l2)
    refine ⟨_, _, _, _, by simp [execOp, ho, resolve, invoke, builtin, hrun]; rfl, .inl rfl, ?_, g', he, fun k h => h.elim .inl fun e => .inr ⟨.hot ety es (rows.length + 1) (row.map V.c), by rw [e]⟩, fun hb => by rw [ho] at hb; cases hb⟩
    simp only [CV]
    refine ⟨.inr rfl, by simp [Cx.grow], hr, by simp [Cx.grow], _, cap, rfl, fun _ => ?_⟩
    simp only [Cx.grow, if_true]
    exact ⟨trivial, trivial, h1, h2, trivial, hrd⟩
  cases hv : (x.loc k).void with
  | true =>
    rw [hv] at hcur
    simp only [if_true] at hcur
    obtain ⟨A', hA'⟩ := hcur
    refine fin fun A2 n c2 e => ?_
    rw [hA'] at e
    cases e
    refine ⟨by simp, fun hn => ?_⟩
    by_cases h : rows = []
    · rw [h]; rfl
    · obtain ⟨b, off, hb', _⟩ := q6 h
      rw [hA'] at hu
      cases hu
      rw [hn] at hb'
      cases hb'
  | false =>
    rw [hv] at hcur
    simp only [Bool.false_eq_true, if_false] at hcur
    obtain ⟨cap, hA', hcn⟩ := hcur
    by_cases hroom : rows.length + 1 ≤ cap
    · obtain ⟨hu', ie, zv, hie, hz, hsz, hby, hzs⟩ := tElem_ok hT
      obtain ⟨cur, hblk, hcsz⟩ := hc3 hv
      obtain ⟨B, c', zs, hzu, k1, k2, k3, k4, k5, k6⟩ := sl_vals hZ hy'
      obtain ⟨b, off, rfl, _⟩ := k6 (by simp)
      simp only [List.length_cons, List.length_nil, Nat.zero_add, Nat.one_mul] at hzu k4
      simp only [List.flatten_cons, List.flatten_nil, List.append_nil] at k3
      have hmul : (rows.length + 1) * es ≤ cap * es := Nat.mul_le_mul_right _ hroom
      rw [Nat.add_mul, Nat.one_mul] at hmul
      have hrun := run_append_room (P := P) w t o.type ety ie hu' hie (x.loc k).b rows.length cap cur hblk ⟨b, off, none⟩ 1 c' zs (by rw [k4, hsz]; omega) (k5 _ rfl) k3.ones hroom (by rw [hsz, k4]; omega)
      rw [hsz] at hrun
      have htake : cur.toList.take (rows.length * es) = xs := by
        apply List.ext_getElem?
        intro j
        rw [List.getElem?_take]
        rw [hA'] at hu
        cases hu
        split
        · rename_i hj
          have hjx : j < xs.length := by omega
          have := q5 _ rfl j xs[j] (List.getElem?_eq_getElem hjx)
          rw [add_mk, Nat.zero_add, cell_of_row w _ j cur ety (0, 0) hblk] at this
          rw [List.getElem?_eq_getElem hjx]
          simpa using this
        · rw [List.getElem?_eq_none (by omega)]
      obtain ⟨g', he, hrd⟩ := g.roomHot k hH hv hblk (news := zs) (l := rows.flatten) (row := row.map V.c) k4 (by omega) (by rw [htake]; exact q3) (by simpa using hy) (CVs.ofC k3)
      refine ⟨_, _, _, _, by simp [execOp, ho, resolve, invoke, builtin, hA', hzu, hrun]; rfl, .inl rfl, ?_, g', he, fun k h => h.elim .inl fun e => .inr ⟨.hot ety es (rows.length + 1) (row.map V.c), by rw [e]⟩, fun hb => by rw [ho] at hb; cases hb⟩
      have hcm : cap ≤ maxLen := by rw [hA'] at hu; cases hu; exact q2
      simp only [CV]
      refine ⟨.inr rfl, by simp [Cx.grow], hr, by simp [Cx.grow], _, cap, rfl, fun _ => ?_⟩
      simp only [Cx.grow, if_true]
      exact ⟨trivial, trivial, hroom, hcm, hcn, hrd⟩
    · refine fin fun A2 n c2 e => ?_
      rw [hA'] at e
      cases e
      exact ⟨by simp; omega, fun hn => by cases hn⟩

theorem ok_index_hot (g : Good S0 w0 x w H) {t : TypeId} {y z : Operand} (ho : o.op = .indexAddr t y z) {k es : Nat} {rows : List (List C)} {kd : IntKind} (hy : CV x w (.hot k es rows) (a.eval y)) (hz : CV x w (.c (.int kd (rows.length : Int))) (a.eval z)) {ety : TypeId} {by_ : Nat} (hT : tElem P t = some (ety, es, by_)) {cs : List V} (hH : H k = some (.hot ety es (rows.length + 1) cs)) :
    RunOk P o a S0 w0 x w H (.hp k (rows.length + 1) (rows.length * es)) none := by
  obtain ⟨_, h1, h2, h3, _⟩ := g.ok k _ hH
  simp only [CV, RdC] at hy hz
  obtain ⟨d1, d2, d3, d4, A, cap, hy, d5⟩ := hy
  obtain ⟨_, hA, _⟩ := d5 h3.symm
  obtain ⟨hu, inf, zv, hi, _, hsz, _, _⟩ := tElem_ok hT
  refine RunOk.pure g (u := .pointer (some ⟨(x.loc k).b, rows.length * es, none⟩)) ?_ (by simp only [CV]; exact ⟨d1, d2, by omega, _, rfl, fun _ => rfl⟩)
  have hlt : (rows.length : Int) < ((rows.length + 1 : Nat) : Int) := by omega
  simp [execOp, ho, hy, hz.1, hA, Instr.indexAt, asIntOf, run_underlying hu, sizeOf, typeInfo, hi, hsz, add_mk, hlt]

theorem ok_store_hot (g : Good S0 w0 x w H) {e : Operand → V} {t : TypeId} {y z : Operand} (ho : o.op = .store t y z) {q : Bool × Nat} (hq : tOne P t = some q) {k n pos es : Nat} (hy : CV x w (.hp k n pos) (a.eval y)) (hz : CV x w (e z) (a.eval z)) {ty : TypeId} {cs : List V} (hH : H k = some (.hot ty es n cs))
    (h1 : (e z).flat = true) (h2 : (e z).cells.length = es) (h3 : q.2 = es) (h4 : pos = (n - 1) * es) : RunOk P o a S0 w0 x w H .any (some (k, .hot ty es n (e z).cells)) := by
  obtain ⟨hd, hok⟩ := g.ok k _ hH
  obtain ⟨k1, k2, k3, k4, k5, vs, hb, hn, hcap, hcs⟩ := hok
  simp only [CV] at hy
  obtain ⟨_, _, _, A, hy, hA⟩ := hy
  have hA := hA k3.symm
  subst hA
  obtain ⟨c1, c2⟩ := hz.cells h1
  obtain ⟨_, hs, _⟩ := tOne_run (w := w) (P := P) (ag := q.1) (n := q.2) hq
  have hul : (a.eval z).cells.size = es := by have := c1.len; simp only [Array.length_toList] at this; omega
  have hmul : n * es = (n - 1) * es + es := by
    obtain ⟨m, rfl⟩ : ∃ m, n = m + 1 := ⟨n - 1, by omega⟩
    rw [Nat.add_mul, Nat.add_sub_cancel]; omega
  have hfit : pos + es ≤ vs.size := by omega
  have hr := run_storeCells_at (P := P) (t := ty) (off := pos) (a.eval z).cells.toList 0 w vs hb (by simp; omega) c2
  have hfl := fold_list (a.eval z).cells.toList 0 pos vs (by simp; omega)
  generalize hvs' : ((a.eval z).cells.toList.zipIdx 0).foldl (fun (c : Array Value) (p : Value × Nat) => c.setIfInBounds (pos + p.2) p.1) vs = vs' at hr hfl
  simp only [Nat.add_zero, Array.length_toList, hul] at hfl
  have hsz' : vs'.size = vs.size := by
    have := congrArg List.length hfl
    simp only [Array.length_toList, List.length_append, List.length_take, List.length_drop, hul] at this
    omega
  have hblk : (w.setRow (x.loc k).b vs').heap[(x.loc k).b]? = some (.cells vs' ty (0, 0)) := setRow_heap w _ vs vs' ty (0, 0) hb
  have ar : Ar x.S x.S w (w.setRow (x.loc k).b vs') := by
    refine ⟨fun _ _ h => h, fun b j v hS hc => ?_⟩
    by_cases hbk : b = (x.loc k).b
    · subst hbk
      rw [cell_of_row w _ j vs ty (0, 0) hb] at hc
      rw [cell_of_row _ _ j _ ty (0, 0) hblk]
      have hj : j < vs.size := (Array.getElem?_eq_some_iff.1 hc).1
      have hjn : j < (n - 1) * es := by
        rcases Nat.lt_or_ge j ((n - 1) * es) with h | h
        · exact h
        · exact absurd hS (g.excl k _ j hH ⟨h, by omega⟩)
      have : vs'.toList[j]? = vs.toList[j]? := by
        rw [hfl, List.append_assoc, List.getElem?_append_left (by simp; omega), List.getElem?_take, if_pos (by omega)]
      have h2 : vs'[j]? = vs[j]? := by simpa using this
      rw [h2]; exact hc
    · rw [World.cell?_of_block (w := w) (a := ⟨b, j, none⟩) (setRow_other w _ b _ hbk)]
      exact hc
  have he : Ext x x w (w.setRow (x.loc k).b vs') := ⟨ar, fun _ h => h, fun _ _ => LocLe.refl _⟩
  have g' := g.stepB k (.hot ty es n (e z).cells) he ⟨rfl, rfl, rfl, by simp, fun i _ hn => setRow_other w _ i _ (fun e => hn ⟨hd, k2, e.symm⟩)⟩ (fun i => ⟨.inl, fun h => h.elim id (fun e => e ▸ hd)⟩) (fun _ _ => rfl) (fun _ => .inl ⟨hd, k2, rfl⟩)
    ⟨k1, k2, k3, k4, h2, vs', hblk, by rw [hsz', hn], by rw [hsz']; exact hcap, by
      have e1 : (vs.toList.take pos).length = (n - 1) * es := by simp; omega
      rw [hfl, List.append_assoc, List.drop_left' e1, List.take_left' (by simpa using hul)]
      exact CVs.mono he _ _ c1⟩ (fun b j h => .inl h) (fun j hx => g.excl k _ j hH hx)
  refine ⟨.skip, _, x, undef, ?_, .inr ⟨rfl, rfl⟩, by simp only [CV], g', he, fun _ h => .inl h, fun _ => rfl⟩
  simp [execOp, ho, Instr.storeAt, hy, Instr.sureAddr, storeVar, hs, h3, hul, hr]
end

/-! the row is written: data from now on -/
def V.cool (k es n : Nat) (row : List C) : V → V
  | .hot i es' rows => if i = k ∧ es' = es ∧ rows.length = n then .gr k es (rows ++ [row]) else .any
  | .hp _ _ _ => .any
  | v => v
def O.cool (k es n : Nat) (row : List C) : O → O
  | .box ty cs fr => .box ty (cs.map (V.cool k es n row)) fr
  | .tok ty es cur => .tok ty es cur
  | .hot ty es cur cs => .tok ty es cur
  | .mp R => .mp R
theorem CV.cool {x x' : Cx} {w : World} {k es n : Nat} {row : List C} (he : Ext x x' w w) (hl : x'.loc = x.loc) (hc : (x.loc k).cur = n + 1) (hrl : row.length = es) (hk : RdR x'.S w row (x.loc k).b (n * es)) (v : V) (u : Value) (h : CV x w v u) : CV x' w (v.cool k es n row) u := by
  cases v with
  | hot i es' rows =>
    simp only [V.cool]
    split
    · rename_i e
      obtain ⟨rfl, rfl, rfl⟩ := e
      simp only [CV] at h ⊢
      obtain ⟨d1, d2, d3, d4, A, cap, rfl, d5⟩ := h
      obtain ⟨e1, rfl, e3, e4, e5, e6⟩ := d5 hc.symm
      refine ⟨he.dom i d1, by rw [hl, d2], ?_, rows_flat d3 (by simpa using hrl), by rw [hl, hc]; simp, fun _ => ?_⟩
      · have := RdC.of_flat (S := x'.S) (W := w) (rows := rows ++ [row]) (es := es') (b := (x.loc i).b) (cap := cap) (rows_flat d3 (by simpa using hrl)) (by simpa using e3) e4 (by
          rw [List.flatten_append, RdR.append, flat_len d3]
          refine ⟨RdR.mono he.ar _ _ _ e6, ?_⟩
          simpa using hk)
        simpa using this
      · rw [hl, e1]
        simp only [Bool.false_eq_true, if_false]
        exact ⟨cap, by simp, e5⟩
    · simp only [CV]
  | hp i m pos => simp only [V.cool, CV]
  | _ => exact CV.mono he _ _ h
theorem CVs.cool {x x' : Cx} {w : World} {k es n : Nat} {row : List C} (he : Ext x x' w w) (hl : x'.loc = x.loc) (hc : (x.loc k).cur = n + 1) (hrl : row.length = es) (hk : RdR x'.S w row (x.loc k).b (n * es)) : ∀ (l : List V) (us : List Value), CVs x w l us → CVs x' w (l.map (V.cool k es n row)) us
  | [], us, h => by simpa only [List.map_nil, CVs] using h
  | v :: l, us, h => by
    simp only [List.map_cons, CVs] at h ⊢
    obtain ⟨u, ur, e, h1, h2⟩ := h
    exact ⟨u, ur, e, CV.cool he hl hc hrl hk v u h1, CVs.cool he hl hc hrl hk l ur h2⟩
/-- one row is hot, no other -/
def onlyHot (k : Nat) (h : List O) : Prop := ∀ (i : Nat) (ty : TypeId) (es cur : Nat) (cs : List V), h[i]? = some (O.hot ty es cur cs) → i = k
theorem Le.cool {m : Mo} {t : List V} {h : List O} (k : Nat) {ty : TypeId} {es n : Nat} {cs : List V} {row : List C} (hk : h[k]? = some (.hot ty es (n + 1) cs)) (hr : toCs cs = some row) (hoh : onlyHot k h) : Le m ⟨t, h⟩ ⟨t.map (V.cool k es n row), h.map (O.cool k es n row)⟩ := fun S0 w0 x a w hm hA => by
  have g := hA.good
  obtain ⟨hd, b1, b2, b3, b4, b5, vs, b6, b7, b8, b9⟩ := g.ok k _ hk
  have hrl := toCs_ok hr b9
  have hrn : row.length = es := by rw [toCs_len hr, b5]
  have hmul : (n + 1) * es = n * es + es := by rw [Nat.add_mul]; omega
  let S' : Area := fun b j => x.S b j ∨ (b = (x.loc k).b ∧ n * es ≤ j ∧ j < (n + 1) * es)
  have ar : Ar x.S S' w w := ⟨fun _ _ h => .inl h, fun _ _ _ _ h => h⟩
  have he : Ext x { x with S := S' } w w := ⟨ar, fun _ h => h, fun _ _ => LocLe.refl _⟩
  have hrow : RdR S' w row (x.loc k).b (n * es) := by
    refine RdR.of_vals (RdL.mono ar _ _ hrl) (fun j u hu => ?_) (fun j hj => .inr ⟨rfl, by omega, by omega⟩)
    rw [cell_of_row w _ _ vs ty (0, 0) b6]
    simp only [Nat.add_sub_cancel] at hu
    rw [List.getElem?_take] at hu
    split at hu
    · rw [List.getElem?_drop] at hu; simpa using hu
    · cases hu
  have hob : ∀ (i : Nat) (o : O), (h.map (O.cool k es n row))[i]? = some o → ∃ o0 : O, h[i]? = some o0 ∧ o = o0.cool k es n row := by
    intro i o ho
    rw [List.getElem?_map, Option.map_eq_some_iff] at ho
    obtain ⟨o1, h1, rfl⟩ := ho
    exact ⟨o1, h1, rfl⟩
  have hexx : ∀ (i : Nat) (o0 : O) (j : Nat), h[i]? = some o0 → Ex { x with S := S' } i (o0.cool k es n row) j → Ex x i o0 j ∧ (i = k → (n + 1) * es ≤ j) := by
    intro i o0 j hi hx
    cases o0 with
    | box ty' cs' fr => exact ⟨hx, fun e => by subst e; rw [hk] at hi; cases hi⟩
    | tok ty' es' cur' => exact ⟨hx, fun e => by subst e; rw [hk] at hi; cases hi⟩
    | mp R => exact ⟨hx, fun e => by subst e; rw [hk] at hi; cases hi⟩
    | hot ty' es' cur' cs' =>
      have e := hoh i _ _ _ _ hi
      subst e
      rw [hk] at hi; cases hi
      obtain ⟨h1, h2, h3⟩ := hx
      exact ⟨⟨by simp; omega, h3⟩, fun _ => h2⟩
  refine ⟨{ x with S := S' }, ⟨fun i o ho => ?_, fun i hi => ?_, fun i i' o o' h1 h2 hne hv hv' => ?_, fun i o j ho hx hs => ?_, fun b j hs => ?_, fun i o ho hv => ?_, fun b j hs => ?_, fun b j hs => .inl (g.sub b j hs), g.keep, g.ext.trans he⟩, CVs.cool he rfl b3 hrn hrow t _ hA.tm, hA.df⟩
  · obtain ⟨o0, h1, rfl⟩ := hob i o ho
    obtain ⟨h3, h4⟩ := g.ok i o0 h1
    refine ⟨h3, ?_⟩
    cases o0 with
    | box ty' cs' fr => obtain ⟨a1, a2, vs', a3, a4, a5⟩ := h4; exact ⟨a1, a2, vs', a3, a4, CVs.cool he rfl b3 hrn hrow cs' _ a5⟩
    | tok ty' es' cur' => exact h4
    | mp R => exact h4
    | hot ty' es' cur' cs' => obtain ⟨a1, a2, a3, a4, a5, vs', a6, a7, _⟩ := h4; exact ⟨a1, a3, fun _ => ⟨vs', a6, a7⟩⟩
  · obtain ⟨o, ho⟩ := g.dom i hi
    have hil : i < h.length := (List.getElem?_eq_some_iff.1 ho).1
    exact ⟨_, List.getElem?_eq_getElem (by simpa using hil)⟩
  · obtain ⟨o0, k1, _⟩ := hob i o h1
    obtain ⟨o0', k2, _⟩ := hob i' o' h2
    exact g.inj i i' o0 o0' k1 k2 hne hv hv'
  · obtain ⟨o0, h1, rfl⟩ := hob i o ho
    obtain ⟨hx', hlt⟩ := hexx i o0 j h1 hx
    rcases hs with hs | ⟨hb, _, hj⟩
    · exact g.excl i o0 j h1 hx' hs
    · by_cases e : i = k
      · have := hlt e; omega
      · have hv : (x.loc i).void = false := by
          cases o0 with
          | box ty' cs' fr => exact (g.ok i _ h1).2.2.1
          | tok ty' es cur => exact hx'.1
          | hot ty' es cur cs' => exact (g.ok i _ h1).2.2.1
          | mp R => exact (g.ok i _ h1).2.2.1
        exact g.inj i k o0 _ h1 hk e hv b2 hb
  · rcases hs with hs | ⟨rfl, _⟩
    · exact g.ex b j hs
    · exact (Array.getElem?_eq_some_iff.1 b6).1
  · obtain ⟨o0, h1, _⟩ := hob i o ho
    exact g.own i o0 h1 hv
  · rcases hs with hs | ⟨rfl, _⟩
    · exact g.new b j hs
    · exact .inr (g.own k _ hk b2)

/-! regions that draw, with operations by hand -/
section
variable {P : Program} {ops : List Oper} {K : List Ef → St → Prop}
def TW (P : Program) (ops : List Oper) (K : List Ef → St → Prop) (l : List Oper) (acc : List Ef) (s : St) : Prop := ∃ es s', Trun P ops l s es s' ∧ K (acc ++ es) s'
theorem Trun.append : ∀ {l l' : List Oper} {s s1 s2 : St} {es es' : List Ef}, Trun P ops l s es s1 → Trun P ops l' s1 es' s2 → Trun P ops (l ++ l') s (es ++ es') s2
  | [], l', s, s1, s2, es, es', h, h' => by obtain ⟨rfl, rfl⟩ := h; exact h'
  | o :: r, l', s, s1, s2, es, es', h, h' => by
    obtain ⟨e, er, rfl, h1, h2, h3⟩ := h
    exact ⟨e, er ++ es', rfl, h1, h2, Trun.append h3 h'⟩
theorem TW.nil {acc : List Ef} {s : St} (h : K acc s) : TW P ops K [] acc s := ⟨[], s, ⟨rfl, rfl⟩, by simpa using h⟩
theorem TW.take (n : Nat) {l : List Oper} {acc : List Ef} {s : St} (h : adraw P ops (fun acc' s' => TW P ops K (l.drop n) acc' s') (l.take n) acc s) : TW P ops K l acc s := by
  obtain ⟨es, s1, h1, es', s2, h2, h3⟩ := adraw_run _ _ _ h
  refine ⟨es ++ es', s2, ?_, by simpa using h3⟩
  have := Trun.append h1 h2
  rwa [List.take_append_drop] at this
theorem TW.op {o : Oper} {r : List Oper} {acc : List Ef} {s : St} (e : Ef) (hg : gate ops s.t o.guard = some true) (hk : ∀ k ob, e.t = some (k, ob) → k ≤ s.h.length)
    (hR : ∀ (S0 : Area) (w0 : Bs) (x : Cx) (a : Act) (w : World) (H : Heap), Good S0 w0 x w H → (∀ y ∈ o.op.operands.toList, CV x w (ev s.t y) (a.eval y)) → (∀ k, e.rk = some k → H k = s.h[k]?) → RunOk P o a S0 w0 x w H e.v e.t)
    (h : TW P ops K r (acc ++ [e]) (s.step o.dst e.v e.t)) : TW P ops K (o :: r) acc s := by
  obtain ⟨es, s2, h2, h3⟩ := h
  refine ⟨e :: es, s2, ⟨e, es, rfl, ?_, hk, h2⟩, by simpa using h3⟩
  intro S0 w0 x w a H g hl hr _ Q next hn
  rw [gate_wanted hl hg]
  obtain ⟨nx, w', x', u, hrun, hnx, hcv, g', he, _⟩ := hR S0 w0 x a w H g (hop_of hl) fun k hk => hr k (.inl hk)
  show o.wp P a w next Q
  unfold Oper.wp
  rw [hrun]
  rcases hnx with rfl | ⟨rfl, rfl⟩
  · exact hn u x' w' g' he hcv
  · exact hn undef x' w' g' he hcv
theorem AW.drawS {m : Mo} {id : Nat} {K : Exit → St → Prop} {s : St} (hm : P.follows .mixedOrders = true) (hd : m.rd = none ∨ noDefer ops = true) (h : TW P ops (fun es s' => commB ops (es.map Ef.ks) = true ∧ K .normal s') ops [] s) : AW m P (.region id ops.toArray true) K s := by
  obtain ⟨es, s', ht, hc, hK⟩ := h
  exact AW.drawT hm hd ht (by simpa using hc) hK
end
end Go.Proofs.YtnpenchciinmmaaGreat

/-
  The abstract machine: a range over a function.
-/
namespace Go.Proofs.YtnpenchciinmmaaGreat
open Go.RowKit
set_option linter.unusedSimpArgs false
set_option linter.unusedVariables false

/-- what a round keeps for the iterator: the data that there was -/
def Kpt (S : Area) (W W' : World) : Prop := W.heap.size ≤ W'.heap.size ∧ Ar S S W W'
theorem Kpt.refl (S : Area) (W : World) : Kpt S W W := ⟨Nat.le_refl _, Ar.refl _ _⟩
theorem Kpt.trans {S : Area} {A B C : World} (h : Kpt S A B) (k : Kpt S B C) : Kpt S A C := ⟨Nat.le_trans h.1 k.1, h.2.trans k.2⟩
theorem cell_block {w : World} {b j : Nat} {v : Value} (hc : w.cell? ⟨b, j, none⟩ = some v) : ∃ vs ty fl, w.heap[b]? = some (.cells vs ty fl) := by
  unfold World.cell? at hc
  cases hx : w.heap[b]? with
  | none => simp [hx] at hc
  | some o => cases o <;> first | exact ⟨_, _, _, rfl⟩ | simp [hx] at hc
theorem Kpt.put {S : Area} (W : World) (l : Nat) (o o' : Obj) (h : W.heap[l]? = some o) (hc : o.isCells = false) : Kpt S W (W.putObj l o') := by
  refine ⟨by simp [World.putObj], fun _ _ h => h, fun b j v _ hv => ?_⟩
  obtain ⟨vs, ty, fl, hb⟩ := cell_block hv
  have hne : b ≠ l := fun e => by subst e; rw [h] at hb; cases hb; cases hc
  exact (World.cell?_of_block (w := W) (a := ⟨b, j, none⟩) (World.putObj_heap_other hne)).trans hv

/-- an iterator's contract: what it yields, as long as the rounds go on -/
def ISeq {α : Type} (P : Program) (gf : FuncId) (caps : List V) (encs : α → Array Value) (Sx : List α → Prop) (N : Nat) : Prop :=
  ∀ (n : Nat) (S : Area) (w : World) (lb : Array Value), (∀ b j, S b j → b < w.heap.size) → CVs (Cx.bare S) w caps lb.toList → SeqStopsK Fence.wide n P gf lb encs (Kpt S) Sx (fun _ => True) N w

section
variable {P : Program} {S0 : Area} {w0 : Bs} {x x' : Cx} {w w' : World} {H : Heap}
/-- no map among the objects -/
def O.noMp : O → Bool
  | .mp _ => false
  | _ => true
def NoMp (H : Heap) : Prop := ∀ k R, H k ≠ some (.mp R)
theorem noMp_of {h : List O} (hm : (h.all O.noMp) = true) : NoMp (fun k => h[k]?) := fun k R e => by
  have := List.all_eq_true.1 hm _ (List.mem_of_getElem? e)
  cases this
/-- all that is no cells lies as it lay -/
structure NCx (w w' : World) : Prop where
  size : w.heap.size ≤ w'.heap.size
  same : ∀ (b : Nat) (o : Obj), w.heap[b]? = some o → o.isCells = false → w'.heap[b]? = some o
theorem still_of {o : Obj} (h : still o = true) : o.isCells = false := by cases o <;> first | rfl | cases h
theorem NCx.nc {w w' : World} (h : NCx w w') : NC w w' := ⟨h.size, fun b o h1 h2 => h.same b o h1 (still_of h2)⟩
theorem OOk.cellsX {k : Nat} {o : O} (h : OOk x w k o) (hm : ∀ R, o ≠ .mp R) (hv : (x.loc k).void = false) : ∃ vs ty, w.heap[(x.loc k).b]? = some (.cells vs ty (0, 0)) := by
  cases o with
  | box ty cells fr => obtain ⟨_, _, vs, h, _⟩ := h; exact ⟨vs, ty, h⟩
  | tok ty es cur => obtain ⟨_, _, h⟩ := h; obtain ⟨vs, h, _⟩ := h hv; exact ⟨vs, ty, h⟩
  | hot ty es cur cells => obtain ⟨_, _, _, _, _, vs, h, _⟩ := h; exact ⟨vs, ty, h⟩
  | mp R => exact absurd rfl (hm R)
def Bs.reX (w0 : Bs) (w : World) (h : w0.w.heap.size ≤ w.heap.size) (x : Cx) (n0 : Nat) (hd : ∀ k, x.dom k → k < n0) : Bs :=
  ⟨w, fun b => w0.F b ∨ ∃ o : Obj, w.heap[b]? = some o ∧ o.isCells = false, fun b hb => by
    rcases hb with hb | ⟨o, hb, _⟩
    · exact Nat.lt_of_lt_of_le (w0.lt b hb) h
    · exact (Array.getElem?_eq_some_iff.1 hb).1, x, n0, hd⟩
theorem Good.rebaseX (g : Good S0 w0 x w H) (hmp : NoMp H) (n0 : Nat) (hd : ∀ k, x.dom k → k < n0) : Good x.S (w0.reX w g.keep.size x n0 hd) x w H := by
  refine ⟨g.ok, g.dom, g.inj, g.excl, g.ex, fun k o h hv hF => ?_, fun b j h => .inl h, fun _ _ h => h, .of_keep (Keep.refl w), Ext.refl x w⟩
  rcases hF with hF | ⟨ob, h1, h2⟩
  · exact g.own k o h hv hF
  · obtain ⟨vs, ty, h3⟩ := (g.ok k o h).2.cellsX (fun R e => hmp k R (by rw [h, e])) hv
    rw [h3] at h1; cases h1; cases h2
theorem Good.unbaseX {H' : Heap} {n0 : Nat} {hd : ∀ k, x.dom k → k < n0} (g : Good S0 w0 x w H) (g' : Good x.S (w0.reX w g.keep.size x n0 hd) x' w' H') : Good S0 w0 x' w' H' ∧ NCx w w' := by
  refine ⟨⟨g'.ok, g'.dom, g'.inj, g'.excl, g'.ex, fun k o h hv hF => g'.own k o h hv (.inl hF), fun b j h => ?_, fun b j h => g'.sub b j (g.sub b j h), g.keep.trans (g'.keep.wide fun b hb hF => hb (.inl hF)), g.ext.trans g'.ext⟩, g'.keep.size, fun b o hb ho => ?_⟩
  · rcases g'.new b j h with h | h
    · exact g.new b j h
    · exact .inr fun hF => h (.inl hF)
  · exact (g'.keep.block b (Array.getElem?_eq_some_iff.1 hb).1 fun hn => hn (.inr ⟨o, hb, ho⟩)).trans hb
/-- memory grows, and a block that is no cells turns -/
theorem Good.grownX {row : Option Nat} (g : Good S0 w0 x w H) (hmp : NoMp H) (hg : w.grownBy w' row) (hr : ∀ r, row = some r → ¬ w0.F r ∧ ∃ o : Obj, w.heap[r]? = some o ∧ o.isCells = false) : Good S0 w0 x w' H ∧ Ext x x w w' := by
  have hb : ∀ (b : Nat) (vs : Array Value) (ty : TypeId) (fl : Nat × Nat), w.heap[b]? = some (Obj.cells vs ty fl) → w'.heap[b]? = w.heap[b]? := fun b vs ty fl h => hg.block b (Array.getElem?_eq_some_iff.1 h).1 fun e => by
    obtain ⟨_, o, h1, h2⟩ := hr b e.symm
    rw [h] at h1; cases h1; cases h2
  have he : Ext x x w w' := ⟨⟨fun _ _ h => h, fun b j v _ hc => by
    obtain ⟨vs, ty, fl, hh⟩ := cell_block hc
    exact (World.cell?_of_block (hb b vs ty fl hh)).trans hc⟩, fun _ h => h, fun _ _ => LocLe.refl _⟩
  refine ⟨⟨fun k o h => ?_, g.dom, g.inj, g.excl, fun b j h => Nat.lt_of_lt_of_le (g.ex b j h) hg.size, g.own, g.new, g.sub, g.keep.trans ⟨hg.os, hg.tape, hg.output, hg.size, fun k hk hn => hg.block k hk fun e => hn (hr k e.symm).1⟩, g.ext.trans he⟩, he⟩
  obtain ⟨h1, h2⟩ := g.ok k o h
  exact ⟨h1, h2.mono he rfl fun hv => by obtain ⟨vs, ty, h3⟩ := h2.cellsX (fun R e => hmp k R (by rw [h, e])) hv; exact hb _ _ _ _ h3⟩

theorem asg1 {lp n : Nat} {o : Oper} {p d : Tmp} (ho : o.op = .assign (.tmp p)) (hd : o.dst = some d) (hg : o.guard = none) {id : Nat} {t : Array Value} {W : World} {K : Act → World → Prop} (h : K { tmps := t.setIfInBounds d (t.getD p undef), defers := [] } W) :
    (Code.region id #[o] false).wpIn (Fence.wide.inRound lp) n P (Exit.then K (fun _ _ _ => False)) { tmps := t, defers := [] } W := by
  refine wpIn_region_lit (l := [o]) ?_
  unfold wpListIn
  rw [if_pos (by simp [Region.wanted, hg])]
  refine opIn_of (fun c e => by rw [ho] at e; cases e) ?_
  unfold Oper.wp
  simp only [execOp, ho, Sem.run_pure, hd, Act.put, Act.eval, Oper.upon, wpListIn, Exit.then]
  exact h

/-- a range over a function: its rounds go on -/
theorem AW.range {α : Type} {n1 : Nat} {K : Exit → St → Prop} {s : St} {g : Operand} {p d : Tmp} {id : Nat} {o : Oper} {body : Code} {gf : FuncId} {caps caps' : List V} {fn : Func}
    (ho : o.op = .assign (.tmp p)) (hod : o.dst = some d) (hgd : o.guard = none) (hg : ev s.t g = .fn gf caps) (hp : V.pubs caps = some caps') (hfn : P.funcs[gf]? = some fn) (hbd : fn.body.isSome = true) (hnm : (fn.name == "runtime.NumGoroutine") = false)
    (enc : α → Value) (encV : α → V) (henc : ∀ x' W y, CV x' W (encV y) (enc y)) (Sx : List α → Prop) (N : Nat) (hseq : ISeq P gf caps' (fun y => #[enc y]) Sx N)
    (hf : List α → List O) (h0 : s.h = hf []) (n0 : Nat) (hlen : ∀ pre, (hf pre).length = n0) (hpl : p < s.t.length)
    (hbody : ∀ (lp : Nat) (pre : List α) (y : α), pre.length < N → AW ⟨some lp, n0⟩ P body (fun e s' => e = .normal ∧ ∃ t', Le ⟨some lp, n0⟩ s' ⟨t', hf (pre ++ [y])⟩) ⟨(s.t.set p (encV y)).set d (encV y), hf pre⟩)
    (hdone : ∀ xs, Sx xs → K .normal ⟨s.t, hf xs⟩) (hmp : ∀ pre, ((hf pre).all O.noMp) = true := by intro _; rfl) : AW ⟨none, n1⟩ P (.rangeFunc g #[p] (.region id #[o] false) body) K s := fun n S0 w0 x a w hm hA => by
  have hgv := ev_ok hA.tm g
  rw [hg] at hgv
  simp only [CV] at hgv
  obtain ⟨lb, hgv, hcaps⟩ := hgv
  have hc' := pubs_ok _ _ _ hp hcaps
  have hb : fn.body ≠ none := by intro e; rw [e] at hbd; cases hbd
  have hn : fn.name ≠ "runtime.NumGoroutine" := by simpa using hnm
  have eg : ∀ args w, (callFunc gf args).run P w = .ok (.enter gf args) w := fun args w => by simp [callFunc, program, Sem.run, hfn, hn, hb]
  have hsize : ∀ {D : Nat}, w.heap.size ≤ D → ¬ w0.F D := fun h => hA.good.fresh h
  have hDlt : ∀ Ds : List Nat, a.defers = Ds.map (fun D => { target := .collected D, args := #[] }) → ∀ D ∈ Ds, D < w.heap.size := by
    intro Ds e D hD
    obtain ⟨Ds', f1, f2, f3⟩ := hA.df
    have hm : ({ target := .collected D, args := #[] } : Deferred) ∈ a.defers := by rw [e]; exact List.mem_map.2 ⟨D, hD, rfl⟩
    rw [f1] at hm
    obtain ⟨D', hD', e'⟩ := List.mem_map.1 hm
    have : D' = D := by injection e' with e1 e2; injection e1
    subst this
    exact (Array.getElem?_eq_some_iff.1 (f3 D' hD').2).1
  have hs : s = ⟨s.t, hf []⟩ := by rw [← h0]
  refine wpIn_wide.2 ((wpIn_wide (n := 2)).1 (wpIn_rangeFunc_ownH (F := Fence.wide) (n := 2) (α := α) (ps := #[p]) (encs := fun y => #[enc y]) (Kp := Kpt x.S) (S := Sx) (Sp := fun _ => True) (N := N) (w0 := w) rfl (by omega) hgv trivial eg (hseq _ x.S w lb hA.good.ex hc') (fun h k => h.trans k) (fun W l o o' _ h hc _ => Kpt.put W l o o' h hc) (Below.refl _ _) (fun _ => rfl)
    (fun pre W => ∃ x', Abs S0 w0 x' ⟨s.t, hf pre⟩ a W ∧ Ar x.S x'.S w W) (fun _ _ _ => False) ?_ (fun _ _ _ _ _ h => h.elim) ⟨x, by rw [← hs]; exact hA, Ar.refl _ _⟩
    (fun y a' _ => a' = { tmps := ((#[p].zip #[enc y]).foldl (fun t (p, v) => t.setIfInBounds p v) a.tmps).setIfInBounds d (((#[p].zip #[enc y]).foldl (fun t (p, v) => t.setIfInBounds p v) a.tmps).getD p undef), defers := [] }) (fun _ _ _ _ _ _ h _ _ => h) ?_ ?_ ?_ (fun _ _ _ _ _ _ h _ => h.elim)))
  · rintro pre W W' row ⟨x', hA', har⟩ hgr hr
    obtain ⟨g', he⟩ := hA'.good.grownX (noMp_of (hmp pre)) hgr fun r e => ⟨hsize (hr r e).1, (hr r e).2⟩
    refine ⟨x', ⟨g', CVs.mono he _ _ hA'.tm, ?_⟩, har.trans he.ar⟩
    obtain ⟨Ds, e1, e2, e3⟩ := hA'.df
    refine ⟨Ds, e1, e2, fun D hD => ⟨(e3 D hD).1, ?_⟩⟩
    have h2 := (e3 D hD).2
    rw [hgr.block D (Array.getElem?_eq_some_iff.1 h2).1 (fun e => by have := (hr D e.symm).1; have := hDlt Ds e1 D hD; omega)]
    exact h2
  · intro l pre y W K hI hK
    exact asg1 ho hod hgd (hK _ W (KeepsFrom.refl _ _) (Kpt.refl _ _) hI rfl)
  · rintro l pre y a' W hl hrec ⟨x', hA', har⟩ rfl hN
    have hdl : ∀ k, x'.dom k → k < n0 := fun k hk => by
      obtain ⟨o, ho⟩ := hA'.good.dom k hk
      have := (List.getElem?_eq_some_iff.1 ho).1
      rw [← hlen pre]; exact this
    have hsl : CVs x' W ((s.t.set p (encV y)).set d (encV y)) (((#[p].zip #[enc y]).foldl (fun t (p, v) => t.setIfInBounds p v) a.tmps).setIfInBounds d (((#[p].zip #[enc y]).foldl (fun t (p, v) => t.setIfInBounds p v) a.tmps).getD p undef)).toList := by
      have e1 : ((#[p].zip #[enc y]).foldl (fun (t : Array Value) (q : Tmp × Value) => t.setIfInBounds q.1 q.2) a.tmps) = a.tmps.setIfInBounds p (enc y) := by simp
      have hl : a.tmps.size = s.t.length := by have := hA'.tm.len; simpa using this
      have e2 : (a.tmps.setIfInBounds p (enc y)).getD p undef = enc y := by
        rw [Array.getD_eq_getD_getElem?, Array.getElem?_setIfInBounds_self_of_lt (by rw [hl]; exact hpl)]; rfl
      rw [e1, e2]
      simp only [Array.toList_setIfInBounds]
      exact (hA'.tm.set p (henc _ _ _)).set d (henc _ _ _)
    have hA1 : Abs x'.S (w0.reX W hA'.good.keep.size x' n0 hdl) x' ⟨(s.t.set p (encV y)).set d (encV y), hf pre⟩ { tmps := ((#[p].zip #[enc y]).foldl (fun t (p, v) => t.setIfInBounds p v) a.tmps).setIfInBounds d (((#[p].zip #[enc y]).foldl (fun t (p, v) => t.setIfInBounds p v) a.tmps).getD p undef), defers := [] } W := ⟨hA'.good.rebaseX (noMp_of (hmp pre)) n0 hdl, hsl, Marks.nil _ _⟩
    refine wpIn_mono (hbody l pre y hN _ _ _ _ _ _ (Nat.le_refl _) hA1) fun e a'' W'' hpost => ?_
    obtain ⟨x2, s2, hA2, rfl, t', hle⟩ := hpost
    obtain ⟨x3, hA3⟩ := hle _ _ _ _ _ (Nat.le_refl _) hA2
    obtain ⟨g3, hnc⟩ := hA'.good.unbaseX hA3.good
    have hext : Ext x' x3 W W'' := hA3.good.ext
    exact ⟨⟨hnc.size, fun k o _ hk ho => hnc.same k o hk ho⟩, ⟨hnc.size, fun _ _ h => h, fun b j v h hc => hext.ar.cell b j v (har.sub b j h) hc⟩, x3, ⟨g3, CVs.mono hext _ _ hA'.tm, hA'.df.mono hnc.nc⟩, har.trans hext.ar⟩
  · rintro D xs W hD hS ⟨x', hA', har⟩ hdef
    obtain ⟨Ds, e1, e2, e3⟩ := hA'.df
    refine ⟨x', ⟨s.t, hf xs⟩, ⟨hA'.good, hA'.tm, D :: Ds, by simp [e1], List.nodup_cons.2 ⟨fun h => by have := hDlt Ds e1 D h; omega, e2⟩, fun D' hD' => ?_⟩, hdone xs hS⟩
    rcases List.mem_cons.1 hD' with rfl | h
    · exact ⟨hsize hD, hdef⟩
    · exact e3 D' h
end
end Go.Proofs.YtnpenchciinmmaaGreat

/-
  The abstract machine: iterators (functions that call yield).
-/
namespace Go.Proofs.YtnpenchciinmmaaGreat
open Go.RowKit
set_option linter.unusedSimpArgs false
set_option linter.unusedVariables false

/-- what is known of the caller's memory: so far J, or the rounds have ended -/
structure Gh (α : Type) where
  pre : List α
  off : Bool
structure YOk (α : Type) (P : Program) (encs : α → Array Value) (N : Nat) where
  n : Nat
  l : Nat
  S : Area
  J : List α → World → Prop
  Jx : List α → World → Prop
  aj : ∀ pre W W', J pre W → Keep W W' → J pre W'
  ax : ∀ pre W W', Jx pre W → Keep W W' → Jx pre W'
  yd : ∀ pre x W1, J pre W1 → pre.length < N → YieldAt Fence.wide (n - 1) P l (encs x) W1 fun e W' =>
      (e = .returned (.bool true) ∧ J (pre ++ [x]) W' ∧ Kpt S W1 W') ∨ (e = .returned (.bool false) ∧ Jx (pre ++ [x]) W')
variable {α : Type} {P : Program} {encs : α → Array Value} {N : Nat} {Y : YOk α P encs N}
def YOk.G (Y : YOk α P encs N) (g : Gh α) (W : World) : Prop := if g.off then Y.Jx g.pre W else Y.J g.pre W
def YOk.A (Y : YOk α P encs N) (g : Gh α) : Area := fun b j => g.off = false ∧ Y.S b j
theorem YOk.keep {g : Gh α} {W W' : World} (h : Y.G g W) (hk : Keep W W') : Y.G g W' := by
  unfold YOk.G at *
  split at h
  · rename_i e; rw [if_pos e]; exact Y.ax _ _ _ h hk
  · rename_i e; rw [if_neg e]; exact Y.aj _ _ _ h hk
def IA (Y : YOk α P encs N) (g : Gh α) (s : St) (a : Act) (w : World) : Prop := ∃ W1 x, Y.G g W1 ∧ x.S = Y.A g ∧ a.defers = [] ∧ Abs (Y.A g) (Bs.of W1) x s a w
def IW (Y : YOk α P encs N) (c : Code) (K : Exit → Gh α → St → Prop) (g : Gh α) (s : St) : Prop := ∀ a w, IA Y g s a w → c.wpIn Fence.wide Y.n P (fun e a w => ∃ g s, IA Y g s a w ∧ K e g s) a w
def iThen (nx : Gh α → St → Prop) (K : Exit → Gh α → St → Prop) : Exit → Gh α → St → Prop
  | .normal, g, s => nx g s
  | e, g, s => K e g s
def iBlk (id : Nat) (K : Exit → Gh α → St → Prop) : Exit → Gh α → St → Prop
  | .exit i, g, s => if i = id then K .normal g s else K (.exit i) g s
  | e, g, s => K e g s
section
variable {K : Exit → Gh α → St → Prop} {g : Gh α} {s : St}
theorem iThen_n {nx : Gh α → St → Prop} (h : nx g s) : iThen nx K .normal g s := h
theorem iThen_r {nx : Gh α → St → Prop} (h : K .ret g s) : iThen nx K .ret g s := h
theorem iThen_e {nx : Gh α → St → Prop} {i : Nat} (h : K (.exit i) g s) : iThen nx K (.exit i) g s := h
theorem iBlk_n {id : Nat} (h : K .normal g s) : iBlk id K .normal g s := h
theorem iBlk_r {id : Nat} (h : K .ret g s) : iBlk id K .ret g s := h
theorem iBlk_hit {id : Nat} (h : K .normal g s) : iBlk id K (.exit id) g s := by simp only [iBlk, if_true]; exact h
theorem IW.skip (h : K .normal g s) : IW Y .skip K g s := fun a w hA => wpIn_skip ⟨g, s, hA, h⟩
theorem IW.ret (h : K .ret g s) : IW Y .ret K g s := fun a w hA => wpIn_ret ⟨g, s, hA, h⟩
theorem IW.exit {id : Nat} (h : K (.exit id) g s) : IW Y (.exit id) K g s := fun a w hA => wpIn_exit ⟨g, s, hA, h⟩
theorem IW.seq {c d : Code} (h : IW Y c (iThen (IW Y d K) K) g s) : IW Y (.seq c d) K g s := fun a w hA => wpIn_seq (wpIn_mono (h a w hA) fun e a w ⟨g, s, h1, h2⟩ => by
  cases e with
  | normal => exact h2 a w h1
  | _ => exact ⟨g, s, h1, h2⟩)
theorem IW.block {id : Nat} {c : Code} (h : IW Y c (iBlk id K) g s) : IW Y (.block id c) K g s := fun a w hA => wpIn_block (wpIn_mono (h a w hA) fun e a w ⟨g, s, h1, h2⟩ => by
  cases e with
  | exit i =>
    simp only [iBlk, Exit.inBlock] at h2 ⊢
    split
    · rename_i e; rw [if_pos e] at h2; exact ⟨g, s, h1, h2⟩
    · rename_i e; rw [if_neg e] at h2; exact ⟨g, s, h1, h2⟩
  | _ => exact ⟨g, s, h1, h2⟩)
theorem IW.cond {c : Operand} {d d' : Code} {b : Bool} (hc : ev s.t c = .c (.bool b)) (h : b = true → IW Y d K g s) (h' : b = false → IW Y d' K g s) : IW Y (.cond c d d') K g s := fun a w hA => by
  obtain ⟨W1, x, h1, h2, hdf, h3⟩ := hA
  have hv := ev_ok h3.tm c
  rw [hc] at hv
  simp only [CV, RdC] at hv
  exact wpIn_cond_split hv (fun e => h e a w ⟨W1, x, h1, h2, hdf, h3⟩) (fun e => h' e a w ⟨W1, x, h1, h2, hdf, h3⟩)
/-- weaker states, the data as they were -/
def LeS (s s' : St) : Prop := ∀ (S0 : Area) (w0 : Bs) (x : Cx) (a : Act) (w : World), w0.n0 = 0 → Abs S0 w0 x s a w → ∃ x', x'.S = x.S ∧ Abs S0 w0 x' s' a w
theorem LeS.refl (s : St) : LeS s s := fun _ _ x _ _ _ h => ⟨x, rfl, h⟩
theorem LeS.weak {t t' : List V} {h : List O} (hs : subT t t') : LeS ⟨t, h⟩ ⟨t', h⟩ := fun _ _ x _ _ _ hA => ⟨x, rfl, hA.good, subT_ok hs hA.tm, hA.df⟩
theorem IW.le {c : Code} {s' : St} (hl : LeS s s') (h : IW Y c K g s') : IW Y c K g s := fun a w ⟨W1, x, h1, h2, hdf, h3⟩ => by
  obtain ⟨x', e, h'⟩ := hl _ _ _ _ _ rfl h3
  exact h a w ⟨W1, x', h1, e.trans h2, hdf, h'⟩
theorem IW.loop {c : Code} {ι : Type} (I : ι → Gh α × St) (μ : ι → Nat) (i0 : ι) (hg : (I i0).1 = g) (h0 : LeS s (I i0).2)
    (h : ∀ i, IW Y c (iThen (fun g' s' => ∃ j, μ j < μ i ∧ (I j).1 = g' ∧ LeS s' (I j).2) K) (I i).1 (I i).2) : IW Y (.loop c) K g s := fun a w ⟨W1, x, h1, h2, hdf, h3⟩ => by
  obtain ⟨x', e, h'⟩ := h0 _ _ _ _ _ rfl h3
  subst hg
  refine wpIn_loop_ix (fun i a w => IA Y (I i).1 (I i).2 a w) μ i0 ⟨W1, x', h1, e.trans h2, hdf, h'⟩ fun i a w hi => ?_
  refine wpIn_mono (h i a w hi) fun e a w ⟨g, s, h1, h2⟩ => ?_
  cases e with
  | normal =>
    obtain ⟨j, hj, rfl, hl⟩ := h2
    obtain ⟨W2, x2, k1, k2, kd, k3⟩ := h1
    obtain ⟨x3, e3, k4⟩ := hl _ _ _ _ _ rfl k3
    exact ⟨j, ⟨W2, x3, k1, e3.trans k2, kd, k4⟩, hj⟩
  | _ => exact ⟨g, s, h1, h2⟩

/-- the rest of a region -/
def IL (Y : YOk α P encs N) (ops : List Oper) (K : Exit → Gh α → St → Prop) (l : List Oper) (g : Gh α) (s : St) : Prop := ∀ a w, IA Y g s a w → wpListIn Fence.wide Y.n P ops.toArray (fun e a w => ∃ g s, IA Y g s a w ∧ K e g s) l a w
variable {ops : List Oper}
theorem IW.region {id : Nat} (h : IL Y ops K ops g s) : IW Y (.region id ops.toArray false) K g s := fun a w hA => wpIn_region_lit (h a w hA)
theorem IL.nil (h : K .normal g s) : IL Y ops K [] g s := fun a w hA => ⟨g, s, hA, h⟩
theorem opIn_wide {n : Nat} {o : Oper} {a : Act} {w : World} {K : Act → World → Prop} {Q : Exit → Act → World → Prop} (h : o.wp P a w K Q) : o.wpIn Fence.wide n P a w K Q := by
  refine ⟨fun _ _ => trivial, ?_⟩
  rw [show Fence.wide.round = none from rfl, Oper.semAt_none]
  unfold Oper.wp at h
  generalize (execOp a.eval o).run P w = r at h ⊢
  cases r with
  | ok x w' =>
    cases x <;> simp only [Oper.upon, Oper.uponIn] at h ⊢ <;>
      first
        | exact h
        | exact h.elim
        | exact ⟨fun e => (by cases e), callsIn_wide.2 h⟩
        | exact ⟨fun e => (by cases e), fun c cs _ => let ⟨v, w', r, s⟩ := h c cs; ⟨v, w', r, stepsIn_wide.2 s⟩⟩
  | halt x w' => cases x <;> simp only [Oper.upon, Oper.uponIn] at h ⊢ <;> exact h
theorem IL.run : ∀ {l l' : List Oper} {s s' : St}, runF P ops l s = some (l', s') → (l.all fun o => !isBS o.op) = true → IL Y ops K l' g s' → IL Y ops K l g s
  | [], l', s, s', h, _, hK => by simp only [runF, Option.some.injEq, Prod.mk.injEq] at h; obtain ⟨rfl, rfl⟩ := h; exact hK
  | o :: r, l', s, s', h, hb, hK => by
    unfold runF at h
    simp only [List.all_cons, Bool.and_eq_true, Bool.not_eq_true'] at hb
    have hr : (r.all fun o => !isBS o.op) = true := hb.2
    split at h
    · rename_i hg
      split at h
      · rename_i hc
        split at h
        · rename_i s1 hs
          unfold stepF at hs
          split at hs
          · rename_i v t hap
            cases hs
            intro a w ⟨W1, x, h1, h2, hdf, h3⟩
            have hw : Region.wanted o (yielded ops.toArray a.tmps) = true := by
              have := awant_ok (o := o) h3.tm (awant_true (ops := ops) (K1 := True) (K2 := False) hg trivial)
              exact Classical.byContradiction fun h => this.2 h
            unfold wpListIn
            rw [if_pos hw]
            refine opIn_wide ?_
            obtain ⟨nx, w', x', u, hrun, hnx, hcv, g', he, _, hS⟩ := aop_sound h3.good.rebase (fun y _ => ev_ok h3.tm y) (fun _ _ => h3.fresh) hap
            rw [← updH_eq _ _ (ap_le hap)] at g'
            obtain ⟨g', hnc⟩ := h3.good.unbase he g'
            unfold Oper.wp
            rw [hrun]
            rcases hnx with rfl | ⟨rfl, rfl⟩
            · exact IL.run h hr hK _ _ ⟨W1, x', h1, (hS hb.1).trans h2, by rw [put_defers']; exact hdf, Abs.put h3.tm (h3.df.mono hnc) he g' hcv o.dst⟩
            · exact IL.run h hr hK _ _ ⟨W1, x', h1, (hS hb.1).trans h2, by rw [put_defers']; exact hdf, Abs.put h3.tm (h3.df.mono hnc) he g' hcv o.dst⟩
          · cases hs
        · cases h
      · simp only [Option.some.injEq, Prod.mk.injEq] at h
        obtain ⟨rfl, rfl⟩ := h
        exact hK
    · rename_i hg
      intro a w ⟨W1, x, h1, h2, hdf, h3⟩
      have hw : ¬ Region.wanted o (yielded ops.toArray a.tmps) = true := by
        have := awant_ok (o := o) h3.tm (awant_false (ops := ops) (K1 := False) (K2 := True) hg trivial)
        exact fun h => this.1 h
      unfold wpListIn
      rw [if_neg hw]
      exact ⟨fun _ _ => trivial, IL.run h hr hK _ _ ⟨W1, x, h1, h2, by rw [put_defers']; exact hdf, Abs.put (v := .tup []) (u := undef) h3.tm h3.df (Ext.refl x w) h3.good (undef_ok x w) o.dst⟩⟩
    · cases h
end

mutual
theorem CV.bare {x : Cx} {w : World} : ∀ (v : V) (u : Value), v.bnd 0 = true → CV x w v u → CV (Cx.bare x.S) w v u
  | .ptr k off, u, hb, h => by simp [V.bnd] at hb
  | .own k off len es, u, hb, h => by simp [V.bnd] at hb
  | .gr k es rows, u, hb, h => by simp [V.bnd] at hb
  | .hot k es rows, u, hb, h => by simp [V.bnd] at hb
  | .hp k n pos, u, hb, h => by simp [V.bnd] at hb
  | .agg l, u, hb, h => by simp only [V.bnd] at hb; simp only [CV] at h ⊢; obtain ⟨vs, e, h⟩ := h; exact ⟨vs, e, CVs.bare l _ hb h⟩
  | .tup l, u, hb, h => by simp only [V.bnd] at hb; simp only [CV] at h ⊢; obtain ⟨vs, e, h⟩ := h; exact ⟨vs, e, CVs.bare l _ hb h⟩
  | .fn f l, u, hb, h => by simp only [V.bnd] at hb; simp only [CV] at h ⊢; obtain ⟨vs, e, h⟩ := h; exact ⟨vs, e, CVs.bare l _ hb h⟩
  | .any, u, _, h => by simp only [CV]
  | .c _, u, _, h => by simpa only [CV, Cx.bare] using h
  | .cp _ _, u, _, h => by simpa only [CV, Cx.bare] using h
  | .full _, u, _, h => by simpa only [CV, Cx.bare] using h
  | .yl _, u, _, h => by simpa only [CV] using h
  | .mp k, u, hb, _ => by simp [V.bnd] at hb
theorem CVs.bare {x : Cx} {w : World} : ∀ (l : List V) (us : List Value), V.bnds 0 l = true → CVs x w l us → CVs (Cx.bare x.S) w l us
  | [], us, _, h => by simpa only [CVs] using h
  | v :: l, us, hb, h => by
    simp only [V.bnds, Bool.and_eq_true] at hb
    simp only [CVs] at h ⊢
    obtain ⟨u, ur, e, h1, h2⟩ := h
    exact ⟨u, ur, e, CV.bare v u hb.1 h1, CVs.bare l ur hb.2 h2⟩
end
theorem abs_bare {S : Area} {W : World} {t : List V} {a : Act} (hS : ∀ b j, S b j → b < W.heap.size) (ht : CVs (Cx.bare S) W t a.tmps.toList) (hd : Marks (Bs.of W) a.defers W) : Abs S (Bs.of W) (Cx.bare S) ⟨t, []⟩ a W :=
  ⟨⟨fun k o h => by simp at h, fun k h => h.elim, fun k k' o o' h => by simp at h, fun k o j h => by simp at h, hS, fun k o h => by simp at h, fun b j h => .inl h, fun b j h => h, .of_keep (Keep.refl W), Ext.none _ _ _⟩, ht, hd⟩

/-- objects are dropped -/
theorem LeS.drop {t t' : List V} {h : List O} (hs : subT t t') (hb : V.bnds 0 t' = true) : LeS ⟨t, h⟩ ⟨t', []⟩ := fun S0 w0 x a w h0 hA => by
  have := subT_ok hs hA.tm
  refine ⟨Cx.bare x.S, rfl, ⟨fun k o h => by simp at h, fun k h => h.elim, fun k k' o o' h => by simp at h, fun k o j h => by simp at h, hA.good.ex, fun k o h => by simp at h, hA.good.new, hA.good.sub, hA.good.keep, ?_⟩, CVs.bare _ _ hb this, hA.df⟩
  have hd : ∀ k, ¬ w0.x0.dom k := fun k hk => by have := w0.dl k hk; omega
  exact ⟨⟨hA.good.ext.ar.sub, hA.good.ext.ar.cell⟩, fun k hk => absurd hk (hd k), fun k hk => absurd hk (hd k)⟩

section
variable {K : Exit → Gh α → St → Prop} {s : St} {ops : List Oper}
/-- A CALL OF yield -/
theorem IL.yield {o : Oper} {r : List Oper} {f y : Operand} {tys : Array TypeId} {pre : List α} (z : α) (t' : List V) (ho : o.op = .call ⟨.value f, #[y], tys⟩) (hg : o.guard = none) (hf : ev s.t f = .yl Y.l) {kd : IntKind} {i : Int} (hy : ev s.t y = .c (.int kd i)) (hz : encs z = #[.int kd i]) (hN : pre.length < N)
    (hs : subT s.t t') (hb : V.bnds 0 t' = true)
    (ht : IL Y ops K r ⟨pre ++ [z], false⟩ (St.put ⟨t', []⟩ o.dst (.c (.bool true))))
    (hx : IL Y ops K r ⟨pre ++ [z], true⟩ (St.put ⟨List.replicate s.t.length .any, []⟩ o.dst (.c (.bool false)))) : IL Y ops K (o :: r) ⟨pre, false⟩ s := fun a w ⟨W1, x, h1, h2, hdf, h3⟩ => by
  have hk : Keep W1 w := h3.good.keep.all
  have hJ : Y.J pre w := Y.aj _ _ _ (by simpa [YOk.G] using h1) hk
  obtain ⟨fn, tmps, asn, bd, hrun, hR⟩ := Y.yd pre z w hJ hN
  have hfv := ev_ok h3.tm f
  rw [hf] at hfv
  simp only [CV] at hfv
  have hyv := ev_ok h3.tm y
  rw [hy] at hyv
  simp only [CV, RdC] at hyv
  unfold wpListIn
  rw [if_pos (by simp [Region.wanted, hg])]
  refine ⟨fun _ _ => trivial, ?_⟩
  rw [show Fence.wide.round = none from rfl, Oper.semAt_none]
  have hexec : (execOp a.eval o).run P w = .ok (.round Y.l fn tmps asn bd) w := by
    rw [hz] at hrun
    simp [execOp, ho, resolve, hfv, hyv.1, Deferred.ofValue, invoke, hrun]
  rw [hexec]
  refine ⟨fun e => (by cases e), hR.mono ?_⟩
  have hSx : x.S = Y.S := by rw [h2]; funext b j; simp [YOk.A]
  have hA0 : Y.A ⟨pre ++ [z], false⟩ = Y.S := by funext b j; simp [YOk.A]
  have hA1 : Y.A ⟨pre ++ [z], true⟩ = fun _ _ => False := by funext b j; simp [YOk.A]
  have hal : a.tmps.size = s.t.length := by have := h3.tm.len; simpa using this
  have hput : ∀ (t : List V) (S : Area) (W : World) (b : Bool), CVs (Cx.bare S) W t a.tmps.toList → CVs (Cx.bare S) W (St.put ⟨t, []⟩ o.dst (.c (.bool b))).t (a.put o.dst (.bool b)).tmps.toList := by
    intro t S W b h
    rw [put_list]
    cases o.dst with
    | none => exact h
    | some d => exact h.set d (by simp only [CV, RdC])
  have hh : ∀ (t : List V) (b : Bool), (St.put ⟨t, []⟩ o.dst (.c (.bool b))).h = [] := by intro t b; cases o.dst <;> rfl
  have hst : ∀ (t : List V) (b : Bool), St.put ⟨t, []⟩ o.dst (.c (.bool b)) = ⟨(St.put ⟨t, []⟩ o.dst (.c (.bool b))).t, []⟩ := by intro t b; cases o.dst <;> rfl
  rintro e W' (⟨rfl, hJ', hle, har⟩ | ⟨rfl, hJ'⟩)
  · refine ht _ _ ⟨W', Cx.bare Y.S, by simpa [YOk.G] using hJ', hA0.symm, by rw [put_defers']; exact hdf, ?_⟩
    rw [hA0, hst]
    refine abs_bare (fun b j h => Nat.lt_of_lt_of_le (h3.good.ex b j (by rw [hSx]; exact h)) hle) (hput _ _ _ _ ?_) (by rw [put_defers', hdf]; exact Marks.nil _ _)
    have h4 := CVs.bare _ _ hb (subT_ok hs h3.tm)
    rw [hSx] at h4
    have hx0 : Ext (Cx.bare Y.S) (Cx.bare Y.S) w W' := ⟨har, fun _ h => h, fun _ h => h.elim⟩
    exact CVs.mono hx0 _ _ h4
  · refine hx _ _ ⟨W', Cx.bare fun _ _ => False, by simpa [YOk.G] using hJ', hA1.symm, by rw [put_defers']; exact hdf, ?_⟩
    rw [hA1, hst]
    refine abs_bare (fun b j h => h.elim) (hput _ _ _ _ ?_) (by rw [put_defers', hdf]; exact Marks.nil _ _)
    exact CVs.of_get (by simp [hal]) fun j v u hv hu => by
      rw [List.getElem?_replicate] at hv
      split at hv
      · cases hv; simp only [CV]
      · cases hv

/-- AN ITERATOR'S CONTRACT, out of its body -/
theorem ISeq.intro {gf : FuncId} {caps : List V} {Sx : List α → Prop} {fn : Func} {c : Code} (hfn : P.funcs[gf]? = some fn) (hb : fn.body = some c) (hres : fn.results = #[])
    (h : ∀ Y : YOk α P encs N, IW Y c (fun e g s => (e = .normal ∨ e = .ret) ∧ (g.off = false → Sx g.pre)) ⟨[], false⟩ ⟨(.yl Y.l :: caps) ++ List.replicate (fn.ntmps - (caps.length + 1)) .any, []⟩) : ISeq P gf caps encs Sx N := by
  intro n S w lb hS hcaps l J Jx W hbel haJ haX hyd hJ0
  have hkw : Keep w W := hbel
  have aj : ∀ pre A B, J pre A → Keep A B → J pre B := fun pre A B h hk => haJ pre A B none h ⟨hk.os, hk.tape, hk.output, hk.size, fun k hk' _ => hk.block k hk'⟩ (fun r e => by cases e)
  have ax : ∀ pre A B, Jx pre A → Keep A B → Jx pre B := fun pre A B h hk => haX pre A B none h ⟨hk.os, hk.tape, hk.output, hk.size, fun k hk' _ => hk.block k hk'⟩ (fun r e => by cases e)
  let Y : YOk α P encs N := ⟨n, l, S, J, Jx, aj, ax, hyd⟩
  refine callsIn_of_wp_marks (F := Fence.wide) hfn hb trivial ?_
  have hA0 : Y.A ⟨[], false⟩ = S := by funext b j; simp [YOk.A, Y]
  have hcl : lb.size = caps.length := by have := hcaps.len; simpa using this
  have hIA : IA Y ⟨[], false⟩ ⟨(.yl Y.l :: caps) ++ List.replicate (fn.ntmps - (caps.length + 1)) .any, []⟩ { tmps := (#[Value.func (.yield l) #[] #[]] ++ lb) ++ Array.replicate (fn.ntmps - (#[Value.func (.yield l) #[] #[]] ++ lb).size) undef, defers := [] } W := by
    refine ⟨W, Cx.bare S, by simpa [YOk.G, Y] using hJ0, hA0.symm, rfl, ?_⟩
    rw [hA0]
    refine abs_bare (fun b j h => Nat.lt_of_lt_of_le (hS b j h) hkw.size) ?_ (Marks.nil _ _)
    have e1 : (#[Value.func (.yield l) #[] #[]] ++ lb).size = caps.length + 1 := by simp [hcl]; omega
    simp only [Array.toList_append, Array.toList_replicate, e1]
    refine CVs.append ?_ (rep_any _ _ _ _)
    have hx0 : Ext (Cx.bare S) (Cx.bare S) w W := ⟨⟨fun _ _ h => h, fun b j v _ hc => hkw.cell hc⟩, fun _ h => h, fun _ h => h.elim⟩
    simp only [List.cons_append, List.nil_append, CVs]
    exact ⟨_, lb.toList, rfl, by simp [CV, Y], CVs.mono hx0 _ _ hcaps⟩
  refine wpIn_mono (h Y _ _ hIA) fun e a' w' ⟨g, s, ⟨W1, x, k1, k2, k3, k4⟩, he, hSx⟩ => ?_
  have fin : LeavesInM Fence.wide n P fn a'.tmps (fun e W' => (∃ v, e = .returned v) ∧ ((∃ xs, Sx xs ∧ J xs W') ∨ (∃ pre, True ∧ Jx pre W'))) a'.defers .returning w' := by
    rw [k3]
    refine ⟨.tuple #[], by simp [results, hres], ⟨_, rfl⟩, ?_⟩
    have hG := Y.keep k1 k4.good.keep.all
    unfold YOk.G at hG
    cases hg : g.off with
    | false => rw [hg] at hG; exact .inl ⟨g.pre, hSx hg, by simpa using hG⟩
    | true => rw [hg] at hG; exact .inr ⟨g.pre, trivial, by simpa using hG⟩
  rcases he with rfl | rfl
  · exact fin
  · exact fin
end
/-! what simp runs: the machine -/
attribute [simp] runF runD stepD Pl.key gate isCall stepF aopF aop Pl.ap ofOpt ev v1_i64 v1_u8 v1_i32 v1_bool v1_str v1_nilp v1_nilf v1_nils vOf_agg vOf_int vOf_bool vOf_str vOf_nilp vOf_nilf vOf_nils St.step St.put updH abin aun aconv aidx aidxA afldA alen amax amx asl aparts aapp vRows toC toCs ldV putL fillV V.flat V.cells V.one V.unc pubCall callOf V.pubs V.pub
end Go.Proofs.YtnpenchciinmmaaGreat

/-
  The machine's runs, short: a lemma's tactic argument holds the text of the run.
-/
namespace Go.Proofs.YtnpenchciinmmaaGreat
open Go.RowKit
set_option maxRecDepth 100000
theorem cj {p q : Prop} (x : p) (y : q) : p ∧ q := ⟨x, y⟩
theorem go0 {p q : Prop} (h : q) (k : q → p := by
  intro h
  repeat (first
   | (with_reducible first | refine AW.seq ?_ | refine AW.block ?_ | refine aThen_n ?_ | refine aBlk_n ?_ | refine AW.ret ?_ | refine aThen_r ?_ | refine aBlk_r ?_ | refine aops_done ?_ | refine AW.skip ?_ | refine AW.exit ?_ | refine aThen_e ?_ | refine aBlk_hit ?_ | refine AW.label ?_ | refine AW.scope ?_ | refine aNg_n ?_ | refine aNg_r ?_ | refine aNg_e ?_)
   | ((with_reducible refine AW.region ?_); with_reducible refine aops_run (by simp [List.replicate_succ]; first | exact rfl | exact ⟨rfl, rfl⟩) ?_)
   | ((with_reducible refine AW.draw mixedP ?_ ?_); (focus first | exact .inl rfl | exact .inr (by decide)); with_reducible refine adraw_go (by simp [List.replicate_succ]; first | exact rfl | exact ⟨rfl, rfl, rfl⟩) ?_)
   | (with_reducible refine adraw_done (by kernel_rfl) ?_)
   | ((with_reducible refine aBlk_miss ?_ ?_); focus decide)
   | ((with_reducible refine cond_t ?_ ?_); focus (simp [ev]; done))
   | ((with_reducible refine cond_f ?_ ?_); focus (simp [ev]; done)))
  exact h) : p := k h
theorem go {F p q : Prop} (f : F) (h : q) (k : F → q → p := by
  intro f h
  repeat (first
   | (with_reducible first | refine AW.seq ?_ | refine AW.block ?_ | refine aThen_n ?_ | refine aBlk_n ?_ | refine AW.ret ?_ | refine aThen_r ?_ | refine aBlk_r ?_ | refine aops_done ?_ | refine AW.skip ?_ | refine AW.exit ?_ | refine aThen_e ?_ | refine aBlk_hit ?_ | refine AW.label ?_ | refine AW.scope ?_ | refine aNg_n ?_ | refine aNg_r ?_ | refine aNg_e ?_)
   | ((with_reducible refine AW.region ?_); with_reducible refine aops_run (by simp [List.replicate_succ, f]; first | exact rfl | exact ⟨rfl, rfl⟩) ?_)
   | ((with_reducible refine AW.draw mixedP ?_ ?_); (focus first | exact .inl rfl | exact .inr (by decide)); with_reducible refine adraw_go (by simp [List.replicate_succ, f]; first | exact rfl | exact ⟨rfl, rfl, rfl⟩) ?_)
   | (with_reducible refine adraw_done (by kernel_rfl) ?_)
   | ((with_reducible refine aBlk_miss ?_ ?_); focus decide)
   | ((with_reducible refine cond_t ?_ ?_); focus (simp [ev, f]; done))
   | ((with_reducible refine cond_f ?_ ?_); focus (simp [ev, f]; done)))
  exact h) : p := k f h
theorem gc0 {p q : Prop} {P : Program} {g : FuncId} {args : List V} {res : V} {fn : Func} (hac : AC P g args res) (hf : P.funcs[g]? = some fn) (h : q) (k : AC P g args res → P.funcs[g]? = some fn → q → p := by
  intro c n h
  (with_reducible first | refine aops_c c n (by kernel_rfl) (by kernel_rfl) ?_ ?_ ?_ | refine adraw_c c n (by kernel_rfl) (by kernel_rfl) ?_ ?_ ?_)
  focus (simp [gate]; done)
  focus (simp [pubCall]; done)
  first | (with_reducible refine aops_run (by simp [List.replicate_succ]; first | exact rfl | exact ⟨rfl, rfl⟩) ?_) | (with_reducible refine adraw_go (by simp [List.replicate_succ]; first | exact rfl | exact ⟨rfl, rfl, rfl⟩) ?_)
  exact h) : p := k hac hf h
theorem gc {F p q : Prop} {P : Program} {g : FuncId} {args : List V} {res : V} {fn : Func} (f : F) (hac : AC P g args res) (hf : P.funcs[g]? = some fn) (h : q) (k : F → AC P g args res → P.funcs[g]? = some fn → q → p := by
  intro f c n h
  (with_reducible first | refine aops_c c n (by kernel_rfl) (by kernel_rfl) ?_ ?_ ?_ | refine adraw_c c n (by kernel_rfl) (by kernel_rfl) ?_ ?_ ?_)
  focus (simp [gate, f]; done)
  focus (simp [pubCall, f]; done)
  first | (with_reducible refine aops_run (by simp [List.replicate_succ, f]; first | exact rfl | exact ⟨rfl, rfl⟩) ?_) | (with_reducible refine adraw_go (by simp [List.replicate_succ, f]; first | exact rfl | exact ⟨rfl, rfl, rfl⟩) ?_)
  exact h) : p := k f hac hf h
theorem en {q : Prop} {P : Program} {g : FuncId} {fn : Func} {c : Code} {args : List V} {res : V} {n : Nat} (hf : P.funcs[g]? = some fn) (hn : fn.ntmps = n) (h : q) (hb : fn.body = some c := by exact rfl)
    (k : fn.ntmps = n → q → AW ⟨none, 0⟩ P c (aRet P fn.results.toList res) ⟨args ++ List.replicate (fn.ntmps - args.length) .any, []⟩ := by
      intro hn h
      simp only [hn, List.map_cons, List.map_nil, List.length_cons, List.length_nil, Nat.reduceAdd, Nat.reduceSub, List.replicate_succ, List.replicate_zero, List.cons_append, List.nil_append]
      exact h) : AC P g args res := AC.intro hf hb (k hn h)
theorem lp {m : Mo} {P : Program} {c : Code} {K : Exit → St → Prop} {t : List V} {h : List O} {ι : Type} (f : ι → List (Nat × V)) (hf : ι → List O) (μ : ι → Nat) (i0 : ι) {ws : List Nat} {t0 : List V} (h0 : Le m ⟨t, h⟩ ⟨puts (f i0) t0, hf i0⟩)
    (hr : ∀ i, AW m P c (aThen (fun s' => ∃ j, μ j < μ i ∧ Le m s' ⟨puts (f j) t0, hf j⟩) K) ⟨puts (f i) t0, hf i⟩)
    (hw : wr c = ws := by simp only [wr, wrOps, List.cons_append, List.nil_append, List.append_nil, List.append_assoc]; exact rfl)
    (ht : havoc ws t = t0 := by simp only [havoc, List.foldl_cons, List.foldl_nil, List.set_cons_zero, List.set_cons_succ]; exact rfl) : AW m P (.loop c) K ⟨t, h⟩ :=
  AW.loopH f hf μ i0 ws hw t0 ht h0 hr
theorem wd {m : Mo} {t t' : List V} {h h' : List O} (n : Nat) (hn : m.n0 ≤ n := by exact Nat.le_of_ble_eq_true rfl) (hs : subT t t' := by simp [subT]) (hh : h.take n = h' := by simp) (hb : V.bnds n t' = true := by simp [V.bnds, V.bnd]) (ho : (h'.all (O.bnd n)) = true := by simp [O.bnd, V.bnds, V.bnd]) : Le m ⟨t, h⟩ ⟨t', h'⟩ := Le.wdrop n hn hs hh hb ho
end Go.Proofs.YtnpenchciinmmaaGreat
