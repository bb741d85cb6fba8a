/-
  The evaluator's laws: calls, what a call leaves, regions.
-/
import Derived.Test.YtnpenchciinmmaaGreatKc
namespace Go.Proofs.YtnpenchciinmmaaGreat
open Go.RowKit
set_option linter.unusedSimpArgs false
set_option linter.unusedVariables false

section
variable {P : Program} {ops : List Oper} {o : Oper} {s : St} {f : FuncId} {args a' : List V} {v v' : V}
theorem AC.ofHC {h' : List O} (hc : HC P f args [] (.ret v) h') (hv : V.pub v = some v') : AC P f args v' := by
  intro S w us hS hus
  have g : Good S (Bs.of w) (Cx.bare S) w (fun k => ([] : List O)[k]?) := ⟨fun k o h => by simp at h, fun k h => h.elim, fun k k' o o' h => by simp at h, fun k o j h => by simp at h, hS, fun k o h => by simp at h, fun b j h => .inl h, fun b j h => h, .of_keep (Keep.refl w), Ext.none _ _ _⟩
  refine (hc.calls g hus).mono ?_
  rintro r w' ⟨x', g', he, hnc, u, rfl, hu⟩
  refine ⟨u, x'.S, rfl, g'.keep.all, ⟨g'.sub, fun b j v hs hc => g'.keep.all.cell hc⟩, fun b j hs => ?_, pub_ok v v' u hv hu⟩
  rcases g'.new b j hs with h | h
  · exact .inl h
  · exact .inr ⟨Nat.le_of_not_lt h, g'.ex b j hs⟩
theorem eok_ac (hg : gate ops s.t o.guard = some true) (hc : callOf (ev s.t) o.op = some (f, args)) (hp : V.pubs args = some a') (hac : AC P f a' v) (hok : callOk P f = true) : EOkE P ops o s (.one v none none) := by
  intro S0 w0 x w a H g hl hr Q next hn
  rw [gate_wanted hl hg]
  obtain ⟨fn, h1, h2, h3⟩ := callOk_ok hok
  exact call_okE g (hop_of hl) hc (K := fun q => q = v) ⟨a', v, hp, hac, ⟨fn, h1, h2, by simpa using h3⟩, rfl⟩ fun q u x' w' hq g' he hcv => by subst hq; exact hn u x' w' g' he hcv
theorem eok_hc {h' : List O} (hg : gate ops s.t o.guard = some true) (hcall : callOf (ev s.t) o.op = some (f, args)) (hc : HC P f args s.h (.ret v) h') : EOkE P ops o s (.all v h') := by
  intro S0 w0 x w a H g hl hr Q next hnx
  rw [gate_wanted hl hg]
  have hH : H = fun k => s.h[k]? := funext fun k => hr k trivial
  subst hH
  have hop := hop_of hl
  unfold callOf at hcall
  split at hcall
  case h_2 => cases hcall
  rename_i fo ar tys ho
  split at hcall
  case h_2 => cases hcall
  rename_i f' caps hfe
  simp only [Option.some.injEq, Prod.mk.injEq] at hcall
  obtain ⟨rfl, rfl⟩ := hcall
  have hfo := unc_ok (hop fo (by simp [ho, Op.operands, Call.operands]))
  rw [hfe] at hfo
  simp only [CV] at hfo
  obtain ⟨vs0, hfo, hcaps⟩ := hfo
  have hargs : CVs x w (ar.toList.map (ev s.t) ++ caps) (ar.toList.map a.eval ++ vs0.toList) := (CVs.of_map fun y hy => hop y (by simp [ho, Op.operands, Call.operands]; exact .inr (by simpa using hy))).append hcaps
  obtain ⟨fn, hf, hb, hn⟩ := callOk_ok hc.ok
  have hb' : fn.body ≠ none := by intro e; rw [e] at hb; cases hb
  have hn' : fn.name ≠ "runtime.NumGoroutine" := by simpa using hn
  have hrun : (execOp a.eval o).run P w = .ok (.enter f' (ar.toList.map a.eval ++ vs0.toList).toArray) w := by
    have e1 : (ar.map a.eval ++ vs0) = (ar.toList.map a.eval ++ vs0.toList).toArray := by apply Array.toList_inj.1; simp
    simp [execOp, ho, resolve, hfo, Deferred.ofValue, invoke, callFunc, program, Sem.run, hf, hn', hb', e1]
  show o.wp P a w next Q
  unfold Oper.wp
  rw [hrun]
  refine (hc.calls g hargs).mono ?_
  rintro r' w' ⟨x', g', he, hnc, u, rfl, hv⟩
  exact hnx u x' w' g' he hv
theorem eok_skipE (hg : gate ops s.t o.guard = some false) : EOkE P ops o s (.one (.tup []) none none) := by
  intro S0 w0 x w a H g hl hr Q next hn
  rw [gate_wanted hl hg]
  exact hn undef x w g (Ext.refl x w) (undef_ok x w)
theorem eok_run {t : Option (Nat × O)} {rk : Option Nat} (hg : gate ops s.t o.guard = some true)
    (hR : ∀ (S0 : Area) (w0 : Bs) (x : Cx) (a : Act) (w : World) (H : Heap), Good S0 w0 x w H → (∀ y ∈ o.op.operands.toList, CV x w (ev s.t y) (a.eval y)) → (∀ k, (rk = some k ∨ t.map (·.1) = some k) → H k = s.h[k]?) → RunOk P o a S0 w0 x w H v t) : EOkE P ops o s (.one v t rk) := by
  intro S0 w0 x w a H g hl hr Q next hn
  rw [gate_wanted hl hg]
  obtain ⟨nx, w', x', u, hrun, hnx, hcv, g', he, _⟩ := hR S0 w0 x a w H g (hop_of hl) hr
  have e : (Eff.one v t rk).app H = H.upd t := by
    funext k
    cases t with
    | none => rfl
    | some p =>
      obtain ⟨k', ob⟩ := p
      by_cases hk : k = k'
      · simp [Eff.app, Eff.w, Heap.upd, Heap.set, hk]
      · simp [Eff.app, Eff.w, Heap.upd, Heap.set, hk]
  show o.wp P a w next Q
  unfold Oper.wp
  rw [hrun]
  rcases hnx with rfl | ⟨rfl, rfl⟩
  · exact hn u x' w' (by rw [e]; exact g') he hcv
  · exact hn undef x' w' (by rw [e]; exact g') he hcv
theorem SW.le {K : Exit → St → Prop} {l : List Oper} {s' : St} (hl : ∀ m, Le m s s') (h : SW P ops K l s') : SW P ops K l s := fun S0 w0 x a w hA =>
  let ⟨x', hA'⟩ := hl ⟨none, w0.n0⟩ S0 w0 x a w (Nat.le_refl _) hA
  h S0 w0 x' a w hA'
theorem SW.skipE {K : Exit → St → Prop} {r : List Oper} (hg : gate ops s.t o.guard = some false) (h : SW P ops K r (s.put o.dst (.tup []))) : SW P ops K (o :: r) s := by
  have := SW.pre (P := P) (ops := ops) (K := K) (l' := r) [o] s (by unfold aops; exact awant_false hg (by unfold aops; exact h))
  exact this
end
/-- A CONTRACT, out of the body; its results and objects may be settled -/
theorem HC.intro2 {P : Program} {f : FuncId} {fn : Func} {c : Code} {args : List V} {h h' : List O} {v : V} (hf : P.funcs[f]? = some fn) (hb : fn.body = some c) (hok : callOk P f = true) (hlen : args.length ≤ fn.ntmps)
    (haw : AW ⟨none, h.length⟩ P c (fun e s => (e = .normal ∨ e = .ret) ∧ ∃ v0, aresV P s fn.results.toList = some v0 ∧ Le ⟨none, h.length⟩ ⟨[v0], s.h⟩ ⟨[v], h'⟩) ⟨args ++ List.replicate (fn.ntmps - args.length) .any, h⟩) : HC P f args h (.ret v) h' := by
  refine ⟨hok, fun {S0 w0 x w us} g hus => ?_⟩
  have hd : ∀ k, x.dom k → k < h.length := fun k hk => by obtain ⟨o, ho⟩ := g.dom k hk; exact (List.getElem?_eq_some_iff.1 ho).1
  refine callsIn_wide.1 (callsIn_of_wp_marks (F := Fence.wide) (n := 0) hf hb trivial ?_)
  have hA : Abs x.S (w0.reH w g.keep.size x h.length hd) x ⟨args ++ List.replicate (fn.ntmps - args.length) .any, h⟩ { tmps := us.toArray ++ Array.replicate (fn.ntmps - us.toArray.size) undef, defers := [] } w := by
    refine ⟨g.rebaseH h.length hd, ?_, Marks.nil _ _⟩
    simp only [Array.toList_append, Array.toList_replicate]
    have hl : us.toArray.size = args.length := by simpa using hus.len
    rw [hl]
    exact hus.append (rep_any _ _ _ _)
  refine wpIn_mono (haw 0 x.S _ _ _ w (Nat.le_refl _) hA) fun e a' w' ⟨x1, s, hA', hK⟩ => ?_
  obtain ⟨he, v0, hr, hle⟩ := hK
  have fin : LeavesInM Fence.wide 0 P fn a'.tmps (fun r w' => ∃ x', Good S0 w0 x' w' (fun k => h'[k]?) ∧ Ext x x' w w' ∧ NC w w' ∧ OutOk x' w' (.ret v) r) a'.defers .returning w' := by
    obtain ⟨Ds, e, h1, h2⟩ := hA'.df
    rw [e]
    refine leaves_marksV hr Ds w' h1 h2 hA'.good hA'.tm fun w2 u g2 hu => ?_
    obtain ⟨x2, hA3⟩ := hle x.S (w0.reH w g.keep.size x h.length hd) x1 { tmps := #[u], defers := [] } w2 (Nat.le_refl _) ⟨g2, by simp only [CVs]; exact ⟨u, [], rfl, hu, rfl⟩, Marks.nil _ _⟩
    obtain ⟨⟨g3, hnc⟩, hext⟩ := g.unbaseH hA3.good
    have htm := hA3.tm
    simp only [CVs] at htm
    obtain ⟨u', ur, e1, hu', rfl⟩ := htm
    simp only [List.cons.injEq, and_true] at e1
    subst e1
    exact ⟨x2, g3, hext, hnc, u, rfl, hu'⟩
  rcases he with rfl | rfl
  · exact fin
  · exact fin

/-! settling -/
mutual
theorem CV.dat {x : Cx} {w : World} {n : Nat} : ∀ (v : V) (u : Value), CV x w v u → CV x w (V.dat n v) u
  | .gr k es rows, u, h => by
    simp only [V.dat]
    split
    · exact h
    · simp only [CV] at h ⊢; exact h.2.2.1
  | .agg l, u, h => by simp only [V.dat, CV] at h ⊢; obtain ⟨vs, e, h⟩ := h; exact ⟨vs, e, CVs.dat l _ h⟩
  | .tup l, u, h => by simp only [V.dat, CV] at h ⊢; obtain ⟨vs, e, h⟩ := h; exact ⟨vs, e, CVs.dat l _ h⟩
  | .any, u, h => h
  | .c _, u, h => h
  | .ptr _ _, u, h => h
  | .own _ _ _ _, u, h => h
  | .cp _ _, u, h => h
  | .full _, u, h => h
  | .fn _ _, u, h => h
  | .hot _ _ _, u, h => h
  | .hp _ _ _, u, h => h
  | .yl _, u, h => h
  | .mp _, u, h => h
theorem CVs.dat {x : Cx} {w : World} {n : Nat} : ∀ (l : List V) (us : List Value), CVs x w l us → CVs x w (V.dats n l) us
  | [], us, h => h
  | v :: l, us, h => by
    simp only [V.dats, CVs] at h ⊢
    obtain ⟨u, ur, e, h1, h2⟩ := h
    exact ⟨u, ur, e, CV.dat v u h1, CVs.dat l ur h2⟩
end
def LeE (m : Mo) (v : V) (h : List EO) (v' : V) (h' : List EO) : Prop := Le m ⟨[v], h.map EO.toO⟩ ⟨[v'], h'.map EO.toO⟩
theorem LeE.trans {m : Mo} {v v1 v2 : V} {h h1 h2 : List EO} (a : LeE m v h v1 h1) (b : LeE m v1 h1 v2 h2) : LeE m v h v2 h2 := Le.trans a b
theorem LeE.dat {m : Mo} (n : Nat) (v : V) (h : List EO) : LeE m v h (V.dat n v) h := fun S0 w0 x a w hm hA => ⟨x, hA.good, by have := CVs.dat (n := n) _ _ hA.tm; simpa only [V.dats] using this, hA.df⟩
theorem toO_get (h : List EO) (k : Nat) : (h.map EO.toO)[k]? = hgetE h k := by simp [hgetE]
theorem toO_frz (k : Nat) (row : List C) (e : EO) : (EO.frz k row e).toO = O.frz k row e.toO := by cases e <;> rfl
theorem map_frz (k : Nat) (row : List C) (h : List EO) : (h.map (EO.frz k row)).map EO.toO = (h.map EO.toO).map (O.frz k row) := by
  simp only [List.map_map]
  apply List.map_congr_left
  intro e _
  exact toO_frz k row e
theorem LeE.frz {m : Mo} (k : Nat) (v : V) (h : List EO) : LeE m v h (frzE k v h).1 (frzE k v h).2 := by
  unfold frzE
  split
  · rename_i ty cs hk
    split
    · rename_i row hr
      have := Le.freeze (m := m) (t := [v]) (h := h.map EO.toO) k (ty := ty) (cs := cs) (row := row) (by rw [toO_get, hgetE, hk]; rfl) hr
      have e : ((h.set k (.pl (.box ty cs true))).map EO.toO) = (h.map EO.toO).set k (.box ty cs true) := by simp [EO.toO]
      unfold LeE
      rw [map_frz, e]
      simpa only [V.frzs] using this
    · exact Le.refl _
  · exact Le.refl _
theorem LeE.settleA {m : Mo} : ∀ (j n : Nat) (v : V) (h : List EO), LeE m v h (settleA j n v h).1 (settleA j n v h).2
  | 0, n, v, h => Le.refl _
  | j + 1, n, v, h => by
    unfold Proofs.YtnpenchciinmmaaGreat.settleA
    simp only
    split
    · exact LeE.trans (LeE.dat n v h) (LeE.trans (LeE.frz _ _ _) (LeE.settleA j n _ _))
    · exact LeE.settleA j n v h
theorem toO_bnd (n : Nat) (e : EO) : O.bnd n e.toO = e.bnd n := by cases e <;> rfl
theorem LeE.settle {m : Mo} {n : Nat} (hn : m.n0 ≤ n) (v : V) (h : List EO) : LeE m v h (settle n v h).1 (settle n v h).2 := by
  unfold Proofs.YtnpenchciinmmaaGreat.settle
  simp only
  have h1 := LeE.settleA (m := m) (h.length - n) n v h
  have h2 := LeE.settleA (m := m) ((Proofs.YtnpenchciinmmaaGreat.settleA (h.length - n) n v h).2.length - n) n (Proofs.YtnpenchciinmmaaGreat.settleA (h.length - n) n v h).1 (Proofs.YtnpenchciinmmaaGreat.settleA (h.length - n) n v h).2
  have h3 := (h1.trans h2).trans (LeE.dat n _ _)
  split
  · rename_i hb
    refine h3.trans ?_
    simp only [Bool.and_eq_true] at hb
    refine Le.drop n hn (by rw [List.map_take]) (by simp only [V.bnds, Bool.and_true]; exact hb.1) ?_
    rw [List.all_map]
    have := hb.2
    rw [List.all_eq_true] at this ⊢
    intro e he
    simp only [Function.comp]
    rw [toO_bnd]
    exact this e he
  · exact h3
theorem aresE1_eq (P : Program) (s : ES) (r : ResultVar) : aresE1 P s r = ares1 P s.st r := by
  cases r with
  | tmp t => rfl
  | cell p ty =>
    simp only [aresE1, ares1, ES.st, toO_get]
    rfl
theorem aresE_eq (P : Program) (s : ES) : ∀ l, aresE P s l = aresL P s.st l
  | [] => rfl
  | r :: l => by simp only [aresE, aresL, aresE1_eq, aresE_eq P s l]; rfl
def wO (w : Option (Nat × EO)) : Option (Nat × O) := w.map fun p => (p.1, p.2.toO)
theorem updE_eq (h : List EO) (w : Option (Nat × EO)) : (updE h w).map EO.toO = updH (h.map EO.toO) (wO w) := by
  cases w with
  | none => rfl
  | some p =>
    obtain ⟨k, o⟩ := p
    simp only [updE, updH, wO, Option.map_some, List.length_map]
    by_cases e : k < h.length
    · rw [if_pos e, if_pos (by simpa [Nat.blt_eq] using e), List.map_set]
    · rw [if_neg e, if_neg (by simpa [Nat.blt_eq] using e)]
      simp
theorem step_st (s : ES) (d : Option Tmp) (v : V) (w : Option (Nat × EO)) : (s.step d v w).st = s.st.step d v (wO w) := by
  simp only [ES.step, ES.st, St.step, updE_eq]
  cases d <;> rfl
theorem put_st (t : List V) (h : List EO) (d : Option Tmp) (v : V) : (⟨putE t d v, h⟩ : ES).st = St.put ⟨t, h.map EO.toO⟩ d v := by cases d <;> rfl
theorem LeS.frz {m : Mo} (k : Nat) (s : ES) : Le m s.st (frzS k s).st := by
  unfold frzS
  split
  · rename_i ty cs hk
    split
    · rename_i row hr
      have := Le.freeze (m := m) (t := s.t) (h := s.h.map EO.toO) k (ty := ty) (cs := cs) (row := row) (by rw [toO_get, hgetE, hk]; rfl) hr
      have e : ((s.h.set k (.pl (.box ty cs true))).map EO.toO) = (s.h.map EO.toO).set k (.box ty cs true) := by simp [EO.toO]
      simp only [ES.st]
      rw [map_frz, e]
      exact this
    · exact Le.refl _
  · exact Le.refl _
theorem LeS.frzs {m : Mo} : ∀ (l : List Nat) (s : ES), Le m s.st (l.foldl (fun s k => frzS k s) s).st
  | [], s => Le.refl _
  | k :: l, s => Le.trans (LeS.frz k s) (LeS.frzs l _)
theorem LeS.frzO {m : Mo} (K : Hooks) (s : ES) (op : Op) : Le m s.st (frzO K s op).st := by
  unfold Proofs.YtnpenchciinmmaaGreat.frzO
  split
  · split
    · exact LeS.frzs _ _
    · exact Le.refl _
  · exact Le.refl _
end Go.Proofs.YtnpenchciinmmaaGreat
