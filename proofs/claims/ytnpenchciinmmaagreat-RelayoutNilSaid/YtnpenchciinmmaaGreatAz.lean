/-
  The machine: long regions that draw, run a few operations at a time; of what ran, the objects' numbers alone are kept.
-/
import Derived.Test.YtnpenchciinmmaaGreatG4
namespace Go.Proofs.YtnpenchciinmmaaGreat
open Go.RowKit
set_option linter.unusedSimpArgs false
set_option linter.unusedVariables false
set_option maxRecDepth 100000
section
variable {P : Program} {ops : List Oper} {K : St → Prop}
def AK (P : Program) (ops : List Oper) (K : St → Prop) (l : List Oper) (ks : List (Option Nat × Option Nat)) (s : St) : Prop := ∀ acc : List Ef, acc.map Ef.ks = ks → adraw P ops (fun es s' => commB ops (es.map Ef.ks) = true ∧ K s') l acc s
def runDG (P : Program) (ds : List (Option Nat)) : Nat → List Oper → List (Option Nat × Option Nat) → St → Option (List Oper × List (Option Nat × Option Nat) × St)
  | 0, l, ks, s => some (l, ks, s)
  | _ + 1, [], ks, s => some ([], ks, s)
  | n + 1, o :: r, ks, s => match gateS ds s.t o.guard with
    | some true => match isCall o.op with
      | false => match stepD P o s with
        | some (e, s') => runDG P ds n r (ks ++ [e.ks]) s'
        | none => none
      | true => some (o :: r, ks, s)
    | some false => runDG P ds n r (ks ++ [(none, none)]) (s.put o.dst (.tup []))
    | none => none
theorem AW.drawK {m : Mo} {id : Nat} {K : Exit → St → Prop} {s : St} (hm : P.follows .mixedOrders = true) (hd : m.rd = none ∨ noDefer ops = true) (h : AK P ops (K .normal) ops [] s) : AW m P (.region id ops.toArray true) K s := AW.draw hm hd (h [] rfl)
theorem ak_done {ks : List (Option Nat × Option Nat)} {s : St} (hc : commB ops ks = true) (h : K s) : AK P ops K [] ks s := fun acc e => by unfold adraw; rw [e]; exact ⟨hc, h⟩
theorem ak_chunk {ds : List (Option Nat)} (hd : ops.map (·.dst) = ds) : ∀ (n : Nat) {l l' : List Oper} {ks ks' : List (Option Nat × Option Nat)} {s s' : St}, runDG P ds n l ks s = some (l', ks', s') → AK P ops K l' ks' s' → AK P ops K l ks s
  | 0, l, l', ks, ks', s, s', h, hK => by simp only [runDG, Option.some.injEq, Prod.mk.injEq] at h; obtain ⟨rfl, rfl, rfl⟩ := h; exact hK
  | n + 1, [], l', ks, ks', s, s', h, hK => by simp only [runDG, Option.some.injEq, Prod.mk.injEq] at h; obtain ⟨rfl, rfl, rfl⟩ := h; exact hK
  | n + 1, o :: r, l', ks, ks', s, s', h, hK => by
    subst hd
    unfold runDG at h
    rw [gateS_eq] at h
    intro acc hacc
    split at h
    · rename_i hg
      split at h
      · rename_i hc
        split at h
        · rename_i e s1 hs
          have ih := ak_chunk rfl n h hK
          unfold stepD at hs
          split at hs
          · rename_i v t hap
            simp only [Option.some.injEq, Prod.mk.injEq] at hs
            obtain ⟨rfl, rfl⟩ := hs
            unfold adraw
            refine awant_true hg ?_
            unfold aoperE
            rw [callOf_none hc]
            simp only
            rw [hap]
            exact ih _ (by rw [List.map_append, hacc]; rfl)
          · cases hs
        · cases h
      · simp only [Option.some.injEq, Prod.mk.injEq] at h
        obtain ⟨rfl, rfl, rfl⟩ := h
        exact hK acc hacc
    · rename_i hg
      unfold adraw
      exact awant_false hg (ak_chunk rfl n h hK _ (by rw [List.map_append, hacc]; rfl))
    · cases h
theorem ak_c {o : Oper} {r : List Oper} {ks : List (Option Nat × Option Nat)} {s : St} {f : FuncId} {args' : List V} {res : V} {fn : Func} (hac : AC P f args' res) (hf : P.funcs[f]? = some fn) (hb : fn.body.isSome = true) (hn : (fn.name == "runtime.NumGoroutine") = false) (hg : gate ops s.t o.guard = some true) (hc : pubCall (ev s.t) o.op = some (f, args'))
    (h : AK P ops K r (ks ++ [(none, none)]) (s.step o.dst res none)) : AK P ops K (o :: r) ks s := fun acc e => adraw_c hac hf hb hn hg hc (h _ (by rw [List.map_append, e]; rfl))
end
/-- n operations -/
theorem dk {F : Prop} {P : Program} {ops : List Oper} {K : St → Prop} {ds : List (Option Nat)} {l l' : List Oper} {ks ks' : List (Option Nat × Option Nat)} {s s' : St} (n : Nat) (f : F) (h : AK P ops K l' ks' s')
    (hd : ops.map (·.dst) = ds := by simp only [List.append_eq, List.cons_append, List.nil_append, List.map_cons, List.map_nil]; exact rfl)
    (hr : F → runDG P ds n l ks s = some (l', ks', s') := by intro f; as_aux_lemma => (simp [runDG, gateS, Ef.ks, List.replicate_succ, f]; first | exact rfl | exact ⟨rfl, rfl, rfl⟩)) : AK P ops K l ks s := ak_chunk hd n (hr f) h
/-- a call -/
theorem dc {F : Prop} {P : Program} {ops : List Oper} {K : St → Prop} {o : Oper} {r : List Oper} {ks : List (Option Nat × Option Nat)} {s s' : St} {g : FuncId} {args : List V} {res : V} {fn : Func} (f : F) (hac : AC P g args res) (hf : P.funcs[g]? = some fn) (h : AK P ops K r (ks ++ [(none, none)]) s') (hb : fn.body.isSome = true := by kernel_rfl) (hn : (fn.name == "runtime.NumGoroutine") = false := by kernel_rfl)
    (hg : F → gate ops s.t o.guard = some true := by intro f; (simp [gate, f]; done)) (hc : F → pubCall (ev s.t) o.op = some (g, args) := by intro f; (simp [pubCall, f]; done)) (hs : s.step o.dst res none = s' := by simp [St.step, St.put, updH]; exact rfl) : AK P ops K (o :: r) ks s := ak_c hac hf hb hn (hg f) (hc f) (hs ▸ h)
/-! runs that stop ahead of a region that draws -/
theorem gn0 {p q : Prop} (h : q) (k : q → p := by
  intro h
  repeat (first
   | (with_reducible first | refine AW.seq ?_ | refine AW.block ?_ | refine aThen_n ?_ | refine aBlk_n ?_ | refine AW.ret ?_ | refine aThen_r ?_ | refine aBlk_r ?_ | refine aops_done ?_ | refine AW.skip ?_ | refine AW.exit ?_ | refine aThen_e ?_ | refine aBlk_hit ?_ | refine AW.label ?_ | refine AW.scope ?_ | refine aNg_n ?_ | refine aNg_r ?_ | refine aNg_e ?_)
   | ((with_reducible refine AW.region ?_); with_reducible refine aops_run (by simp [List.replicate_succ]; first | exact rfl | exact ⟨rfl, rfl⟩) ?_)
   | ((with_reducible refine aBlk_miss ?_ ?_); focus decide)
   | ((with_reducible refine cond_t ?_ ?_); focus (simp [ev]; done))
   | ((with_reducible refine cond_f ?_ ?_); focus (simp [ev]; done)))
  exact h) : p := k h
theorem gn {F p q : Prop} (f : F) (h : q) (k : F → q → p := by
  intro f h
  repeat (first
   | (with_reducible first | refine AW.seq ?_ | refine AW.block ?_ | refine aThen_n ?_ | refine aBlk_n ?_ | refine AW.ret ?_ | refine aThen_r ?_ | refine aBlk_r ?_ | refine aops_done ?_ | refine AW.skip ?_ | refine AW.exit ?_ | refine aThen_e ?_ | refine aBlk_hit ?_ | refine AW.label ?_ | refine AW.scope ?_ | refine aNg_n ?_ | refine aNg_r ?_ | refine aNg_e ?_)
   | ((with_reducible refine AW.region ?_); with_reducible refine aops_run (by simp [List.replicate_succ, f]; first | exact rfl | exact ⟨rfl, rfl⟩) ?_)
   | ((with_reducible refine aBlk_miss ?_ ?_); focus decide)
   | ((with_reducible refine cond_t ?_ ?_); focus (simp [ev, f]; done))
   | ((with_reducible refine cond_f ?_ ?_); focus (simp [ev, f]; done)))
  exact h) : p := k f h
end Go.Proofs.YtnpenchciinmmaaGreat
