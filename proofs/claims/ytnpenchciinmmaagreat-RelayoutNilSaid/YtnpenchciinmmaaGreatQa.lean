/-
  The abstract machine: calls that share the caller's objects (pointers go by number; nothing is renamed).
-/
import Derived.Test.YtnpenchciinmmaaGreatPa
import Derived.Test.YtnpenchciinmmaaGreatHa
namespace Go.Proofs.YtnpenchciinmmaaGreat
open Go.RowKit
set_option linter.unusedSimpArgs false
set_option linter.unusedVariables false

section
variable {P : Program} {S0 : Area} {w0 : Bs} {x x' : Cx} {w w' : World} {H : Heap} {s : St} {a : Act}
/-- the results as they are: they may point to objects -/
def aresV (P : Program) (s : St) (l : List ResultVar) : Option V :=
  match aresL P s l with
  | some [v] => some v
  | some vs => some (.tup vs)
  | none => none
theorem aresV_ok (hA : Abs S0 w0 x s a w) {fn : Func} {res : V} (h : aresV P s fn.results.toList = some res) : ∃ u, (results fn a.tmps).run P w = .ok u w ∧ CV x w res u := by
  unfold aresV at h
  cases hl : aresL P s fn.results.toList with
  | none => rw [hl] at h; cases h
  | some vs =>
    rw [hl] at h
    obtain ⟨us, hr, hc⟩ := aresL_ok hA hl
    have hr' : (results fn a.tmps).run P w = .ok (if h : us.toArray.size = 1 then us.toArray[0] else .tuple us.toArray) w := by
      have e : results fn a.tmps = (fn.results.mapM (resSem a.tmps) >>= fun vs => pure (if h : vs.size = 1 then vs[0] else .tuple vs)) := rfl
      rw [e, Array.mapM_eq_mapM_toList]
      simp [hr]
    refine ⟨_, hr', ?_⟩
    match vs, h, hc with
    | [v], h, hc =>
      simp only [CVs] at hc
      obtain ⟨u, ur, rfl, hc2, rfl⟩ := hc
      cases h
      exact hc2
    | [], h, hc =>
      simp only [CVs] at hc
      subst hc
      cases h
      simp only [CV]
      exact ⟨#[], rfl, by simp only [CVs]⟩
    | v :: v' :: r, h, hc =>
      have hlen := hc.len
      rw [dif_neg (by simp [hlen])]
      cases h
      simp only [CV]
      exact ⟨_, rfl, hc⟩
theorem leaves_marksV {fn : Func} {R : Ending → World → Prop} {res : V} (hr : aresV P s fn.results.toList = some res) {tmps : Array Value} : ∀ (Ds : List Nat) (w : World), Ds.Nodup → (∀ D ∈ Ds, ¬ w0.F D ∧ w.heap[D]? = some (.deferred (some []))) → Good S0 w0 x w (fun k => s.h[k]?) → CVs x w s.t tmps.toList →
    (∀ w u, Good S0 w0 x w (fun k => s.h[k]?) → CV x w res u → R (.returned u) w) → LeavesInM Fence.wide 0 P fn tmps R (Ds.map fun D => { target := .collected D, args := #[] }) .returning w
  | [], w, _, _, g, ht, hR => by
    obtain ⟨u, h1, h2⟩ := aresV_ok (fn := fn) (a := { tmps := tmps, defers := [] }) ⟨g, ht, Marks.nil _ _⟩ hr
    exact ⟨u, h1, hR w u g h2⟩
  | D :: Ds, w, hn, hD, g, ht, hR => by
    obtain ⟨h1, h2⟩ := hD D (by simp)
    have hg : w.grownBy (w.putObj D (.deferred none)) (some D) := grownBy_putObj' w D _
    obtain ⟨g', he⟩ := g.grown hg fun r e => by cases e; exact ⟨h1, _, h2, rfl⟩
    rw [List.nodup_cons] at hn
    refine ⟨by simp, .inl ⟨D, _, rfl, run_takeDeferred h2, leaves_marksV hr Ds _ hn.2 (fun D' hD' => ?_) g' (CVs.mono he _ _ ht) hR⟩⟩
    obtain ⟨k1, k2⟩ := hD D' (by simp [hD'])
    have hne : D' ≠ D := fun e => hn.1 (by rw [← e]; exact hD')
    exact ⟨k1, by rw [World.putObj_heap_other hne]; exact k2⟩
/-- the baseline laid anew at a call: all objects stay -/
def Bs.reH (w0 : Bs) (w : World) (h : w0.w.heap.size ≤ w.heap.size) (x : Cx) (n0 : Nat) (hd : ∀ k, x.dom k → k < n0) : Bs := ⟨w, (w0.re w h).F, (w0.re w h).lt, x, n0, hd⟩
theorem Good.rebaseH (g : Good S0 w0 x w H) (n0 : Nat) (hd : ∀ k, x.dom k → k < n0) : Good x.S (w0.reH w g.keep.size x n0 hd) x w H :=
  let r := g.rebase
  ⟨r.ok, r.dom, r.inj, r.excl, r.ex, r.own, r.new, r.sub, r.keep, Ext.refl x w⟩
theorem Good.unbaseH {H' : Heap} {n0 : Nat} {hd : ∀ k, x.dom k → k < n0} (g : Good S0 w0 x w H) (g' : Good x.S (w0.reH w g.keep.size x n0 hd) x' w' H') : (Good S0 w0 x' w' H' ∧ NC w w') ∧ Ext x x' w w' :=
  ⟨g.unbase (x' := x') g'.ext ⟨g'.ok, g'.dom, g'.inj, g'.excl, g'.ex, g'.own, g'.new, g'.sub, g'.keep, Ext.none _ _ _⟩, g'.ext⟩
end
/-- how a call ends: a result, or a panic -/
inductive Out where
  | ret (v : V)
  | pan (ch : List PanicEntry)
def OutOk (x : Cx) (w : World) : Out → Ending → Prop
  | .ret v, r => ∃ u, r = .returned u ∧ CV x w v u
  | .pan ch, r => r = .panicked ch
def aRetH (P : Program) (l : List ResultVar) (n0 : Nat) (out : Out) (h' : List O) : Exit → St → Prop
  | .normal, s => ∃ v, out = .ret v ∧ ∃ s', Le ⟨none, n0⟩ s s' ∧ aresV P s' l = some v ∧ s'.h = h'
  | .ret, s => ∃ v, out = .ret v ∧ ∃ s', Le ⟨none, n0⟩ s s' ∧ aresV P s' l = some v ∧ s'.h = h'
  | .panic ch, s => out = .pan ch ∧ ∃ s', Le ⟨none, n0⟩ s s' ∧ s'.h = h'
  | _, _ => False
/-- function f, called with such arguments among the objects h, ends so; the objects are then h' -/
structure HC (P : Program) (f : FuncId) (args : List V) (h : List O) (out : Out) (h' : List O) : Prop where
  ok : callOk P f = true
  calls : ∀ {S0 : Area} {w0 : Bs} {x : Cx} {w : World} {us : List Value}, Good S0 w0 x w (fun k => h[k]?) → CVs x w args us →
    Calls P f us.toArray w fun r w' => ∃ x', Good S0 w0 x' w' (fun k => h'[k]?) ∧ Ext x x' w w' ∧ NC w w' ∧ OutOk x' w' out r
theorem leaves_marksP {P : Program} {S0 : Area} {w0 : Bs} {x : Cx} {s : St} {fn : Func} {R : Ending → World → Prop} {ch : List PanicEntry} {tmps : Array Value} : ∀ (Ds : List Nat) (w : World), Ds.Nodup → (∀ D ∈ Ds, ¬ w0.F D ∧ w.heap[D]? = some (.deferred (some []))) → Good S0 w0 x w (fun k => s.h[k]?) → CVs x w s.t tmps.toList →
    (∀ w, Good S0 w0 x w (fun k => s.h[k]?) → R (.panicked ch) w) → LeavesInM Fence.wide 0 P fn tmps R (Ds.map fun D => { target := .collected D, args := #[] }) (.panicking ch) w
  | [], w, _, _, g, ht, hR => hR w g
  | D :: Ds, w, hn, hD, g, ht, hR => by
    obtain ⟨h1, h2⟩ := hD D (by simp)
    have hg : w.grownBy (w.putObj D (.deferred none)) (some D) := grownBy_putObj' w D _
    obtain ⟨g', he⟩ := g.grown hg fun r e => by cases e; exact ⟨h1, _, h2, rfl⟩
    rw [List.nodup_cons] at hn
    refine ⟨by simp, .inl ⟨D, _, rfl, run_takeDeferred h2, leaves_marksP Ds _ hn.2 (fun D' hD' => ?_) g' (CVs.mono he _ _ ht) hR⟩⟩
    obtain ⟨k1, k2⟩ := hD D' (by simp [hD'])
    have hne : D' ≠ D := fun e => hn.1 (by rw [← e]; exact hD')
    exact ⟨k1, by rw [World.putObj_heap_other hne]; exact k2⟩
/-- SUCH A CONTRACT, out of the body -/
theorem HC.intro {P : Program} {f : FuncId} {fn : Func} {c : Code} {args : List V} {h h' : List O} {out : Out} (hf : P.funcs[f]? = some fn) (hb : fn.body = some c) (haw : AW ⟨none, h.length⟩ P c (aRetH P fn.results.toList h.length out h') ⟨args ++ List.replicate (fn.ntmps - args.length) .any, h⟩) (hn : (fn.name == "runtime.NumGoroutine") = false := by kernel_rfl) : HC P f args h out h' := by
  refine ⟨by unfold callOk; rw [hf]; simp [hb, hn], fun {S0 w0 x w us} g hus => ?_⟩
  have hd : ∀ k, x.dom k → k < h.length := fun k hk => by obtain ⟨o, ho⟩ := g.dom k hk; exact (List.getElem?_eq_some_iff.1 ho).1
  refine callsIn_wide.1 (callsIn_of_wp_marks (F := Fence.wide) (n := 0) hf hb trivial ?_)
  have hA : Abs x.S (w0.reH w g.keep.size x h.length hd) x ⟨args ++ List.replicate (fn.ntmps - args.length) .any, h⟩ { tmps := us.toArray ++ Array.replicate (fn.ntmps - us.toArray.size) undef, defers := [] } w := by
    refine ⟨g.rebaseH h.length hd, ?_, Marks.nil _ _⟩
    simp only [Array.toList_append, Array.toList_replicate]
    have hl : us.toArray.size = args.length := by simpa using hus.len
    rw [hl]
    exact hus.append (rep_any _ _ _ _)
  refine wpIn_mono (haw 0 x.S _ _ _ w (Nat.le_refl _) hA) fun e a' w' ⟨x1, s, hA', hK⟩ => ?_
  have fin : ∀ {R : Ending → World → Prop}, (∀ r w' x', Good S0 w0 x' w' (fun k => h'[k]?) → Ext x x' w w' → NC w w' → OutOk x' w' out r → R r w') → (∃ v, out = .ret v ∧ ∃ s', Le ⟨none, h.length⟩ s s' ∧ aresV P s' fn.results.toList = some v ∧ s'.h = h') → LeavesInM Fence.wide 0 P fn a'.tmps R a'.defers .returning w' := by
    rintro R hR ⟨v, rfl, s', hle, hr, rfl⟩
    obtain ⟨x2, hA2⟩ := hle x.S _ x1 a' w' (Nat.le_refl _) hA'
    obtain ⟨Ds, e, h1, h2⟩ := hA2.df
    rw [e]
    refine leaves_marksV hr Ds w' h1 h2 hA2.good hA2.tm fun w2 u g2 hu => ?_
    obtain ⟨⟨g3, hnc⟩, hext⟩ := g.unbaseH g2
    exact hR _ w2 x2 g3 hext hnc ⟨u, rfl, hu⟩
  cases e with
  | normal => exact fin (fun r w' x' h1 h2 h3 h4 => ⟨x', h1, h2, h3, h4⟩) hK
  | ret => exact fin (fun r w' x' h1 h2 h3 h4 => ⟨x', h1, h2, h3, h4⟩) hK
  | panic ch =>
    obtain ⟨rfl, s', hle, rfl⟩ := hK
    obtain ⟨x2, hA2⟩ := hle x.S _ x1 a' w' (Nat.le_refl _) hA'
    obtain ⟨Ds, e, h1, h2⟩ := hA2.df
    show LeavesInM Fence.wide 0 P fn a'.tmps _ a'.defers (.panicking ch) w'
    rw [e]
    refine leaves_marksP Ds w' h1 h2 hA2.good hA2.tm fun w2 g2 => ?_
    obtain ⟨⟨g3, hnc⟩, hext⟩ := g.unbaseH g2
    exact ⟨x2, g3, hext, hnc, rfl⟩
  | _ => exact hK.elim
/-- a contract on data is one, too -/
theorem HC.ofAC {P : Program} {f : FuncId} {args args' : List V} {res : V} (hac : AC P f args' res) (hok : callOk P f = true) (hp : V.pubs args = some args') (h : List O) : HC P f args h (.ret res) h := by
  refine ⟨hok, fun {S0 w0 x w us} g hus => ?_⟩
  refine (hac x.S w us g.ex (pubs_ok _ _ _ hp hus)).mono ?_
  rintro r w' ⟨u, S', rfl, hk, har, hnew, hu⟩
  obtain ⟨g', he⟩ := g.stepA (x' := { x with S := S' }) hk har rfl rfl hnew
  exact ⟨_, g', he, .of_keep hk, u, rfl, CV.mono (bare_ext S' x w') _ _ hu⟩
section
variable {P : Program} {K : Exit → St → Prop} {ops : List Oper} {s : St}
theorem SW.callO {o : Oper} {r : List Oper} {f : FuncId} {args : List V} {out : Out} {h' : List O} (hc : HC P f args s.h out h') (hg : gate ops s.t o.guard = some true) (hcall : callOf (ev s.t) o.op = some (f, args))
    (hr : ∀ v, out = .ret v → SW P ops K r (St.put ⟨s.t, h'⟩ o.dst v)) (hp : ∀ ch, out = .pan ch → K (.panic ch) ⟨s.t, h'⟩) : SW P ops K (o :: r) s := fun S0 w0 x a w hA => by
  have hw : Region.wanted o (yielded ops.toArray a.tmps) = true := by
    have := awant_ok (o := o) hA.tm (awant_true (ops := ops) (K1 := True) (K2 := False) hg trivial)
    exact Classical.byContradiction fun h => this.2 h
  unfold wpList
  rw [if_pos hw]
  refine .inl ?_
  unfold callOf at hcall
  split at hcall
  case h_2 => cases hcall
  rename_i fo ar tys ho
  split at hcall
  case h_2 => cases hcall
  rename_i f' caps hfe
  simp only [Option.some.injEq, Prod.mk.injEq] at hcall
  obtain ⟨rfl, rfl⟩ := hcall
  have hfo := unc_ok (ev_ok hA.tm fo)
  rw [hfe] at hfo
  simp only [CV] at hfo
  obtain ⟨vs0, hfo, hcaps⟩ := hfo
  have hargs : CVs x w (ar.toList.map (ev s.t) ++ caps) (ar.toList.map a.eval ++ vs0.toList) := (CVs.of_map fun y _ => ev_ok hA.tm y).append hcaps
  obtain ⟨fn, hf, hb, hn⟩ := callOk_ok hc.ok
  have hb' : fn.body ≠ none := by intro e; rw [e] at hb; cases hb
  have hn' : fn.name ≠ "runtime.NumGoroutine" := by simpa using hn
  have hrun : (execOp a.eval o).run P w = .ok (.enter f' (ar.toList.map a.eval ++ vs0.toList).toArray) w := by
    have e1 : (ar.map a.eval ++ vs0) = (ar.toList.map a.eval ++ vs0.toList).toArray := by apply Array.toList_inj.1; simp
    simp [execOp, ho, resolve, hfo, Deferred.ofValue, invoke, callFunc, program, Sem.run, hf, hn', hb', e1]
  unfold Oper.wp
  rw [hrun]
  refine (hc.calls hA.good hargs).mono ?_
  rintro r' w' ⟨x', g', he, hnc, ho'⟩
  cases out with
  | ret v =>
    obtain ⟨u, rfl, hv⟩ := ho'
    exact hr v rfl S0 w0 x' _ w' (Abs.put hA.tm (hA.df.mono hnc) he g' hv o.dst)
  | pan ch =>
    have e : r' = .panicked ch := ho'
    subst e
    exact ⟨x', ⟨s.t, h'⟩, ⟨g', CVs.mono he _ _ hA.tm, hA.df.mono hnc⟩, hp ch rfl⟩
/-- such a call, in a region -/
theorem SW.callh {o : Oper} {r : List Oper} {f : FuncId} {args : List V} {res : V} {h' : List O} (hc : HC P f args s.h (.ret res) h') (hg : gate ops s.t o.guard = some true) (hcall : callOf (ev s.t) o.op = some (f, args))
    (h : SW P ops K r (St.put ⟨s.t, h'⟩ o.dst res)) : SW P ops K (o :: r) s := SW.callO hc hg hcall (fun v e => by cases e; exact h) (fun _ e => nomatch e)
/-- .. that panics -/
theorem SW.callp {o : Oper} {r : List Oper} {f : FuncId} {args : List V} {ch : List PanicEntry} {h' : List O} (hc : HC P f args s.h (.pan ch) h') (hg : gate ops s.t o.guard = some true) (hcall : callOf (ev s.t) o.op = some (f, args))
    (h : K (.panic ch) ⟨s.t, h'⟩) : SW P ops K (o :: r) s := SW.callO hc hg hcall (fun _ e => nomatch e) (fun c e => by cases e; exact h)
end
end Go.Proofs.YtnpenchciinmmaaGreat
