/-
 The machine: a call that returns a function over a new variable of its own.
-/
import Derived.Test.YthbcljjpmdfflaaGreatGB
namespace Go.Proofs.YthbcljjpmdfflaaGreat
open Go.RowKit
set_option linter.unusedSimpArgs false
set_option linter.unusedVariables false
section
variable {P : Program} {K : Exit → St → Prop} {ops : List Oper} {s : St}
theorem SW.callm {o : Oper} {r : List Oper} {f gf : FuncId} {ty : TypeId} {cs : List C} {vs : Array Value} {fn : Func} (hN : ∀ w : World, Calls P f #[] w fun e w' => e = .returned (.func (.func gf) #[] #[.pointer (some ⟨w.heap.size, 0, none⟩)]) ∧ w' = w.alloc (.cells vs ty)) (hvs : ∀ (S : Area) (w : World), RdL S w cs vs.toList) (hf : P.funcs[f]? = some fn) (hb : fn.body.isSome = true) (hn : (fn.name == "runtime.NumGoroutine") = false) (hg : gate ops s.t o.guard = some true) (hc : callOf (ev s.t) o.op = some (f, []))
 (h : SW P ops K r (s.step o.dst (.fn gf [.ptr s.h.length 0]) (some (s.h.length, .box ty (cs.map V.c) false)))) : SW P ops K (o :: r) s := fun S0 w0 x a w hA => by
 have hw : Region.wanted o (yielded ops.toArray a.tmps) = true := by
  have := awant_ok (o := o) hA.tm (awant_true (ops := ops) (K1 := True) (K2 := False) hg trivial)
  exact Classical.byContradiction fun h => this.2 h
 unfold wpList
 rw [if_pos hw]
 refine .inl ?_
 unfold callOf at hc
 split at hc
 case h_2 => cases hc
 rename_i fo ar tys ho
 split at hc
 case h_2 => cases hc
 rename_i f' caps hfe
 simp only [Option.some.injEq, Prod.mk.injEq, List.append_eq_nil_iff, List.map_eq_nil_iff] at hc
 obtain ⟨rfl, har, rfl⟩ := hc
 have har' : ar = #[] := Array.toList_inj.1 har
 subst har'
 have hfo := ev_ok hA.tm fo
 rw [hfe] at hfo
 simp only [CV] at hfo
 obtain ⟨vs0, hfo, hcaps⟩ := hfo
 have hv0 : vs0 = #[] := by
  simp only [CVs] at hcaps
  exact Array.toList_inj.1 hcaps
 subst hv0
 have g := hA.good
 have hb' : fn.body ≠ none := by intro e; rw [e] at hb; cases hb
 have hn' : fn.name ≠ "runtime.NumGoroutine" := by simpa using hn
 have hrun : (execOp a.eval o).run P w = .ok (.enter f' #[]) w := by
  simp [execOp, ho, resolve, hfo, Deferred.ofValue, invoke, callFunc, program, Sem.run, hf, hn', hb']
 unfold Oper.wp
 rw [hrun]
 refine (hN w).mono ?_
 rintro r' w' ⟨rfl, rfl⟩
 have hk : ¬ x.dom s.h.length := fun hd => by
  obtain ⟨ob, h⟩ := g.dom _ hd
  simp at h
 obtain ⟨g', he⟩ := g.newBox s.h.length hk ty (cs.map V.c) vs (CVs.ofC (hvs x.S w))
 have hnc : NC w (w.alloc (.cells vs ty)) := .of_keep ((Keep.refl w).alloc _)
 have e := updH_eq s.h (some (s.h.length, O.box ty (cs.map V.c) false)) (fun k' o' e => by cases e; exact Nat.le_refl _)
 have g'' : Good S0 w0 (x.mk1 s.h.length ⟨w.heap.size, vs.size, false, 0, false⟩) (w.alloc (.cells vs ty)) (fun i => (updH s.h (some (s.h.length, O.box ty (cs.map V.c) false)))[i]?) := by rw [e]; exact g'
 exact h S0 w0 _ _ _ (Abs.put hA.tm (hA.df.mono hnc) he g'' (by
  simp only [CV, CVs, Cx.mk1, if_true]
  exact ⟨_, rfl, _, _, rfl, ⟨.inr trivial, trivial, rfl⟩, rfl⟩) o.dst)
end
section
variable {P : Program} {ops : List Oper} {K : List Ef → St → Prop}
theorem TW.callx {o : Oper} {r : List Oper} {acc : List Ef} {s : St} {f : FuncId} {args args' : List V} {ty : TypeId} {cs : List V} {cells cells' : List C} {res : V} {fn : Func} (k : Nat) (hax : AX P f args' ty cells cells' res) (hf : P.funcs[f]? = some fn) (hb : fn.body.isSome = true) (hn : (fn.name == "runtime.NumGoroutine") = false) (hg : gate ops s.t o.guard = some true) (hc : callOf (ev s.t) o.op = some (f, args)) (hp : V.pub1s k args = some args') (hk : s.h[k]? = some (.box ty cs false)) (hcs : toCs cs = some cells)
 (h : TW P ops K r (acc ++ [⟨res, some (k, .box ty (cells'.map V.c) false), some k⟩]) (s.step o.dst res (some (k, .box ty (cells'.map V.c) false)))) : TW P ops K (o :: r) acc s := by
 obtain ⟨es, s2, h2, h3⟩ := h
 refine ⟨⟨res, some (k, .box ty (cells'.map V.c) false), some k⟩ :: es, s2, ⟨_, es, rfl, ?_, (fun k' ob e => by cases e; exact Nat.le_of_lt (List.getElem?_eq_some_iff.1 hk).1), h2⟩, by simpa using h3⟩
 intro S0 w0 x w a H g hl hr _ Q next hnx
 rw [gate_wanted hl hg]
 show o.wp P a w next Q
 have hop := hop_of hl
 have hHk : H k = some (.box ty cs false) := (hr k rfl).trans hk
 unfold callOf at hc
 split at hc
 case h_2 => cases hc
 rename_i fo ar tys ho
 split at hc
 case h_2 => cases hc
 rename_i f' caps hfe
 simp only [Option.some.injEq, Prod.mk.injEq] at hc
 obtain ⟨rfl, rfl⟩ := hc
 have hfo := hop fo (by simp [ho, Op.operands, Call.operands])
 rw [hfe] at hfo
 simp only [CV] at hfo
 obtain ⟨vs0, hfo, hcaps⟩ := hfo
 have hargs : CVs x w (ar.toList.map (ev s.t) ++ caps) (ar.toList.map a.eval ++ vs0.toList) := (CVs.of_map fun y hy => hop y (by simp [ho, Op.operands, Call.operands]; exact .inr (by simpa using hy))).append hcaps
 obtain ⟨hd, b1, b2, vs, b3, b4, b5⟩ := g.ok k _ hHk
 have hrd := toCs_ok hcs b5
 have hnS : ∀ j, j < vs.size → ¬ x.S (x.loc k).b j := fun j hj => g.excl k _ j hHk ⟨rfl, by omega⟩
 have hcall := hax x.S w _ (x.loc k).b vs g.ex hnS b3 hrd (pub1s_ok _ _ _ hp hargs)
 have hb' : fn.body ≠ none := by intro e; rw [e] at hb; cases hb
 have hn' : fn.name ≠ "runtime.NumGoroutine" := by simpa using hn
 have hrun : (execOp a.eval o).run P w = .ok (.enter f' (ar.toList.map a.eval ++ vs0.toList).toArray) w := by
  have e1 : (ar.map a.eval ++ vs0) = (ar.toList.map a.eval ++ vs0.toList).toArray := by apply Array.toList_inj.1; simp
  simp [execOp, ho, resolve, hfo, Deferred.ofValue, invoke, callFunc, program, Sem.run, hf, hn', hb', e1]
 unfold Oper.wp
 rw [hrun]
 refine hcall.mono ?_
 rintro r' w' ⟨u, S', vs', rfl, hkb, har, hnew, h1, h2, h3, h4⟩
 have hlt := (g.ok k _ hHk).2.lt b2
 have he : Ext x { x with S := S' } w w' := ⟨har, fun _ h => h, fun _ _ => LocLe.refl _⟩
 have g' := g.stepB (x' := { x with S := S' }) k (.box ty (cells'.map V.c) false) he (hkb.wide fun b e => ⟨hd, b2, e.symm⟩) (fun i => ⟨.inl, fun h => h.elim id fun e => e ▸ hd⟩) (fun _ _ => rfl) (fun _ => .inl ⟨hd, b2, rfl⟩)
  ⟨b1, b2, vs', h1, by rw [h2, b4], CVs.ofC h3⟩ (fun b j hs => (hnew b j hs).imp id fun h => h.elim (fun h => ⟨h.2, .inl h.1, fun e => by have : (x.loc k).b = b := e; omega⟩) (fun h => ⟨by rw [h.1]; exact Nat.lt_of_lt_of_le hlt hkb.size, .inr ⟨hd, b2, h.1.symm⟩, fun _ hx => by have h5 : j < (x.loc k).n := hx.2; have h6 := h.2; omega⟩)) (fun j hx => g.excl k _ j hHk hx)
 exact hnx u _ w' g' he (CV.mono (bare_ext S' x w') _ _ h4)
end
end Go.Proofs.YthbcljjpmdfflaaGreat
