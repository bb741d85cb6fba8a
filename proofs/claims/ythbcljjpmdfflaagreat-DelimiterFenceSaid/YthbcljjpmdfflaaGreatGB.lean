import Derived.Test.YthbcljjpmdfflaaGreatG4
import Derived.Test.YthbcljjpmdfflaaGreatG5
import Derived.Test.YthbcljjpmdfflaaGreatTz
/-
 The abstract machine: functions that write through a pointer to one of the caller's boxes.
-/
namespace Go.Proofs.YthbcljjpmdfflaaGreat
open Go.RowKit
set_option linter.unusedSimpArgs false
set_option linter.unusedVariables false
def Cx.one (S : Area) (b n : Nat) : Cx := { dom := fun k => k = 0, loc := fun _ => ⟨b, n, false, 0, false⟩, S := S }
def AX (P : Program) (f : FuncId) (args : List V) (ty : TypeId) (cells cells' : List C) (res : V) : Prop :=
 ∀ (S : Area) (w : World) (us : List Value) (b : Nat) (vs : Array Value), (∀ b' j, S b' j → b' < w.heap.size) → (∀ j, j < vs.size → ¬ S b j) → w.heap[b]? = some (.cells vs ty (0, 0)) → RdL S w cells vs.toList → CVs (Cx.one S b vs.size) w args us →
  Calls P f us.toArray w fun r w' => ∃ u S' vs', r = .returned u ∧ KB (fun k => k = b) w w' ∧ Ar S S' w w' ∧ (∀ b' j, S' b' j → S b' j ∨ (w.heap.size ≤ b' ∧ b' < w'.heap.size) ∨ (b' = b ∧ vs.size ≤ j)) ∧ w'.heap[b]? = some (.cells vs' ty (0, 0)) ∧ vs'.size = vs.size ∧ RdL S' w' cells' vs'.toList ∧ CV (Cx.bare S') w' res u
mutual
def V.pub1 (k : Nat) : V → Option V
 | .ptr i off => if i = k then some (.ptr 0 off) else none
 | .c d => some (.c d)
 | .full r => some (.c (.sl r))
 | .gr _ _ r => some (.c (.sl r))
 | .cp row off => some (.cp row off)
 | .agg l => (V.pub1s k l).map V.agg
 | .tup l => (V.pub1s k l).map V.tup
 | .fn f caps => (V.pub1s k caps).map (V.fn f)
 | .yl l => some (.yl l)
 | .any => none
 | .own _ _ _ _ => none
 | .hot _ _ _ => none
 | .hp _ _ _ => none
def V.pub1s (k : Nat) : List V → Option (List V)
 | [] => some []
 | v :: l => match V.pub1 k v, V.pub1s k l with
   | some y, some r => some (y :: r)
   | _, _ => none
end
mutual
theorem pub1_ok {x : Cx} {w : World} {k n : Nat} : ∀ (v v' : V) (u : Value), V.pub1 k v = some v' → CV x w v u → CV (Cx.one x.S (x.loc k).b n) w v' u
 | .ptr i off, v', u, h, hv => by
   simp only [V.pub1] at h
   split at h
   · rename_i e
     cases h
     subst e
     simp only [CV, Cx.one] at hv ⊢
     exact ⟨trivial, trivial, hv.2.2⟩
   · cases h
 | .c c, v', u, h, hv => by simp only [V.pub1, Option.some.injEq] at h; subst h; simpa only [CV, Cx.one] using hv
 | .full r, v', u, h, hv => by simp only [V.pub1, Option.some.injEq] at h; subst h; simp only [CV] at hv ⊢; obtain ⟨_, _, hv⟩ := hv; exact hv
 | .gr k es r, v', u, h, hv => by simp only [V.pub1, Option.some.injEq] at h; subst h; simp only [CV] at hv ⊢; exact hv.2.2.1
 | .cp row off, v', u, h, hv => by simp only [V.pub1, Option.some.injEq] at h; subst h; simpa only [CV, Cx.one] using hv
 | .yl l, v', u, h, hv => by simp only [V.pub1, Option.some.injEq] at h; subst h; simpa only [CV] using hv
 | .agg l, v', u, h, hv => by
   simp only [V.pub1, Option.map_eq_some_iff] at h
   obtain ⟨r, h, rfl⟩ := h
   simp only [CV] at hv ⊢
   obtain ⟨vs, e, hv⟩ := hv
   exact ⟨vs, e, pub1s_ok l r _ h hv⟩
 | .tup l, v', u, h, hv => by
   simp only [V.pub1, Option.map_eq_some_iff] at h
   obtain ⟨r, h, rfl⟩ := h
   simp only [CV] at hv ⊢
   obtain ⟨vs, e, hv⟩ := hv
   exact ⟨vs, e, pub1s_ok l r _ h hv⟩
 | .fn f caps, v', u, h, hv => by
   simp only [V.pub1, Option.map_eq_some_iff] at h
   obtain ⟨r, h, rfl⟩ := h
   simp only [CV] at hv ⊢
   obtain ⟨vs, e, hv⟩ := hv
   exact ⟨vs, e, pub1s_ok caps r _ h hv⟩
 | .any, _, _, h, _ => by simp [V.pub1] at h
 | .own _ _ _ _, _, _, h, _ => by simp [V.pub1] at h
 | .hot _ _ _, _, _, h, _ => by simp [V.pub1] at h
 | .hp _ _ _, _, _, h, _ => by simp [V.pub1] at h
theorem pub1s_ok {x : Cx} {w : World} {k n : Nat} : ∀ (l l' : List V) (us : List Value), V.pub1s k l = some l' → CVs x w l us → CVs (Cx.one x.S (x.loc k).b n) w l' us
 | [], l', us, h, hv => by simp only [V.pub1s, Option.some.injEq] at h; subst h; simpa only [CVs] using hv
 | v :: l, l', us, h, hv => by
   simp only [CVs] at hv
   obtain ⟨u, ur, rfl, h1, h2⟩ := hv
   unfold V.pub1s at h
   split at h
   · rename_i y r hy hr
     cases h
     simp only [CVs]
     exact ⟨u, ur, rfl, pub1_ok v y u hy h1, pub1s_ok l r ur hr h2⟩
   · cases h
end
section
variable {P : Program} {K : Exit → St → Prop} {ops : List Oper} {s : St}
theorem SW.callx {o : Oper} {r : List Oper} {f : FuncId} {args args' : List V} {ty : TypeId} {cs : List V} {cells cells' : List C} {res : V} {fn : Func} (k : Nat) (hax : AX P f args' ty cells cells' res) (hf : P.funcs[f]? = some fn) (hb : fn.body.isSome = true) (hn : (fn.name == "runtime.NumGoroutine") = false) (hg : gate ops s.t o.guard = some true) (hc : callOf (ev s.t) o.op = some (f, args)) (hp : V.pub1s k args = some args') (hk : s.h[k]? = some (.box ty cs false)) (hcs : toCs cs = some cells)
 (h : SW P ops K r (s.step o.dst res (some (k, .box ty (cells'.map V.c) false)))) : SW P ops K (o :: r) s := fun S0 w0 x a w hA => by
 have hw : Region.wanted o (yielded ops.toArray a.tmps) = true := by
  have := awant_ok (o := o) hA.tm (awant_true (ops := ops) (K1 := True) (K2 := False) hg trivial)
  exact Classical.byContradiction fun h => this.2 h
 unfold wpList
 rw [if_pos hw]
 refine .inl ?_
 unfold callOf at hc
 split at hc
 case h_2 => cases hc
 rename_i fo ar tys ho
 split at hc
 case h_2 => cases hc
 rename_i f' caps hfe
 simp only [Option.some.injEq, Prod.mk.injEq] at hc
 obtain ⟨rfl, rfl⟩ := hc
 have hfo := ev_ok hA.tm fo
 rw [hfe] at hfo
 simp only [CV] at hfo
 obtain ⟨vs0, hfo, hcaps⟩ := hfo
 have hargs : CVs x w (ar.toList.map (ev s.t) ++ caps) (ar.toList.map a.eval ++ vs0.toList) := (CVs.of_map fun y _ => ev_ok hA.tm y).append hcaps
 have g := hA.good
 obtain ⟨hd, b1, b2, vs, b3, b4, b5⟩ := g.ok k _ hk
 have hrd := toCs_ok hcs b5
 have hnS : ∀ j, j < vs.size → ¬ x.S (x.loc k).b j := fun j hj => g.excl k _ j hk ⟨rfl, by omega⟩
 have hcall := hax x.S w _ (x.loc k).b vs g.ex hnS b3 hrd (pub1s_ok _ _ _ hp hargs)
 have hb' : fn.body ≠ none := by intro e; rw [e] at hb; cases hb
 have hn' : fn.name ≠ "runtime.NumGoroutine" := by simpa using hn
 have hrun : (execOp a.eval o).run P w = .ok (.enter f' (ar.toList.map a.eval ++ vs0.toList).toArray) w := by
  have e1 : (ar.map a.eval ++ vs0) = (ar.toList.map a.eval ++ vs0.toList).toArray := by apply Array.toList_inj.1; simp
  simp [execOp, ho, resolve, hfo, Deferred.ofValue, invoke, callFunc, program, Sem.run, hf, hn', hb', e1]
 unfold Oper.wp
 rw [hrun]
 refine hcall.mono ?_
 rintro r' w' ⟨u, S', vs', rfl, hkb, har, hnew, h1, h2, h3, h4⟩
 have hlt := (g.ok k _ hk).2.lt b2
 have he : Ext x { x with S := S' } w w' := ⟨har, fun _ h => h, fun _ _ => LocLe.refl _⟩
 have g' := g.stepB (x' := { x with S := S' }) k (.box ty (cells'.map V.c) false) he (hkb.wide fun b e => ⟨hd, b2, e.symm⟩) (fun i => ⟨.inl, fun h => h.elim id fun e => e ▸ hd⟩) (fun _ _ => rfl) (fun _ => .inl ⟨hd, b2, rfl⟩)
  ⟨b1, b2, vs', h1, by rw [h2, b4], CVs.ofC h3⟩ (fun b j hs => (hnew b j hs).imp id fun h => h.elim (fun h => ⟨h.2, .inl h.1, fun e => by have : (x.loc k).b = b := e; omega⟩) (fun h => ⟨by rw [h.1]; exact Nat.lt_of_lt_of_le hlt hkb.size, .inr ⟨hd, b2, h.1.symm⟩, fun _ hx => by have h5 : j < (x.loc k).n := hx.2; have h6 := h.2; omega⟩)) (fun j hx => g.excl k _ j hk hx)
 have hnc : NC w w' := ⟨hkb.size, fun b ob hbo hnb => (hkb.block b (Array.getElem?_eq_some_iff.1 hbo).1 fun e => by subst e; rw [b3] at hbo; cases hbo; cases hnb).trans hbo⟩
 have e := updH_eq s.h (some (k, O.box ty (cells'.map V.c) false)) (fun k' o' e => by cases e; exact Nat.le_of_lt (List.getElem?_eq_some_iff.1 hk).1)
 have g'' : Good S0 w0 { x with S := S' } w' (fun i => (updH s.h (some (k, O.box ty (cells'.map V.c) false)))[i]?) := by rw [e]; exact g'
 exact h S0 w0 _ _ w' (Abs.put hA.tm (hA.df.mono hnc) he g'' (CV.mono (bare_ext S' x w') _ _ h4) o.dst)
def aRetX (P : Program) (l : List ResultVar) (res : V) (ty : TypeId) (cells' : List C) : Exit → St → Prop
 | .normal, s => ares P s l = some res ∧ ∃ cs, s.h[0]? = some (.box ty cs false) ∧ toCs cs = some cells'
 | .ret, s => ares P s l = some res ∧ ∃ cs, s.h[0]? = some (.box ty cs false) ∧ toCs cs = some cells'
 | _, _ => False
theorem AX.intro {f : FuncId} {fn : Func} {c : Code} {args : List V} {ty : TypeId} {cells cells' : List C} {res : V} (hf : P.funcs[f]? = some fn) (hb : fn.body = some c) (h : AW ⟨none, 1⟩ P c (aRetX P fn.results.toList res ty cells') ⟨args ++ List.replicate (fn.ntmps - args.length) .any, [.box ty (cells.map V.c) false]⟩) : AX P f args ty cells cells' res := by
 intro S w us b vs hS hnS hblk hrd hus
 have hblt : b < w.heap.size := (Array.getElem?_eq_some_iff.1 hblk).1
 refine callsIn_wide.1 (callsIn_of_wp_marks (F := Fence.wide) (n := 0) hf hb trivial ?_)
 let B : Bs := ⟨w, fun k => k < w.heap.size ∧ k ≠ b, fun _ h => h.1, Cx.one S b vs.size, 1, fun k hk => by have : k = 0 := hk; omega⟩
 have hA : Abs S B (Cx.one S b vs.size) ⟨args ++ List.replicate (fn.ntmps - args.length) .any, [.box ty (cells.map V.c) false]⟩ { tmps := us.toArray ++ Array.replicate (fn.ntmps - us.toArray.size) undef, defers := [] } w := by
  refine ⟨⟨fun k o h => ?_, fun k h => ?_, fun k k' o o' h h' hne => ?_, fun k o j h hx => ?_, hS, fun k o h _ hF => hF.2 rfl, fun b j h => .inl h, fun b j h => h, .of_keep (Keep.refl w), Ext.refl _ _⟩, ?_, Marks.nil _ _⟩
  · match k, h with
    | 0, h =>
      cases h
      exact ⟨rfl, rfl, rfl, vs, hblk, rfl, CVs.ofC hrd⟩
    | k + 1, h => simp at h
  · have : k = 0 := h
    subst this
    exact ⟨_, rfl⟩
  · match k, k', h, h' with
    | 0, 0, _, _ => exact absurd rfl hne
    | 0, k' + 1, _, h' => simp at h'
    | k + 1, _, h, _ => simp at h
  · match k, h with
    | 0, h => cases h; exact hnS j hx.2
    | k + 1, h => simp at h
  · simp only [Array.toList_append, Array.toList_replicate]
    have hl : us.toArray.size = args.length := by simpa using hus.len
    rw [hl]
    exact hus.append (rep_any _ _ _ _)
 refine wpIn_mono (h 0 S B _ _ w (Nat.le_refl _) hA) fun e a' w' ⟨x, s, hA', hK⟩ => ?_
 have fin : ∀ {R : Ending → World → Prop}, (∀ u w' S' vs', KB (fun k => k = b) w w' → Ar S S' w w' → (∀ b' j, S' b' j → S b' j ∨ (w.heap.size ≤ b' ∧ b' < w'.heap.size) ∨ (b' = b ∧ vs.size ≤ j)) → w'.heap[b]? = some (.cells vs' ty (0, 0)) → vs'.size = vs.size → RdL S' w' cells' vs'.toList → CV (Cx.bare S') w' res u → R (.returned u) w') →
  (ares P s fn.results.toList = some res ∧ ∃ cs, s.h[0]? = some (.box ty cs false) ∧ toCs cs = some cells') → LeavesInM Fence.wide 0 P fn a'.tmps R a'.defers .returning w' := by
  rintro R hR ⟨hr, cs, h0, hcs⟩
  obtain ⟨Ds, e, h1, h2⟩ := hA'.df
  rw [e]
  refine leaves_marks hr Ds w' h1 h2 hA'.good hA'.tm fun w2 u g hu => ?_
  have hl0 := g.ext.loc 0 rfl
  have hloc : x.loc 0 = ⟨b, vs.size, false, 0, false⟩ := by
   rcases hl0.2 with e | e
   · exact e.symm
   · cases e.1
  obtain ⟨_, _, _, vs', k3, k4, k5⟩ := g.ok 0 _ h0
  rw [hloc] at k3 k4
  refine hR u w2 x.S vs' ⟨g.keep.os, g.keep.tape, g.keep.output, g.keep.size, fun k hk hne => g.keep.block k hk fun hn => hn ⟨hk, hne⟩⟩ ⟨g.sub, fun b' j v hs hc => g.ext.ar.cell b' j v hs hc⟩ (fun b' j hs => ?_) k3 k4 (toCs_ok hcs k5) hu
  rcases g.new b' j hs with hq | hq
  · exact .inl hq
  · by_cases e : b' = b
    · subst e
      by_cases hj : j < vs.size
      · exact absurd (by rw [hloc]; exact hs) (g.excl 0 _ j h0 ⟨rfl, by rw [hloc]; exact hj⟩)
      · exact .inr (.inr ⟨rfl, by omega⟩)
    · exact .inr (.inl ⟨Nat.le_of_not_lt fun hlt => hq ⟨hlt, e⟩, g.ex b' j hs⟩)
 cases e with
 | normal => exact fin (fun u w' S' vs' h1 h2 h3 h4 h5 h6 h7 => ⟨u, S', vs', rfl, h1, h2, h3, h4, h5, h6, h7⟩) hK
 | ret => exact fin (fun u w' S' vs' h1 h2 h3 h4 h5 h6 h7 => ⟨u, S', vs', rfl, h1, h2, h3, h4, h5, h6, h7⟩) hK
 | _ => exact hK.elim
end
end Go.Proofs.YthbcljjpmdfflaaGreat
namespace Go.Proofs.YthbcljjpmdfflaaGreat
open Go.RowKit
set_option linter.unusedSimpArgs false
set_option linter.unusedVariables false
section
variable {P : Program} {K : Exit → St → Prop} {ops : List Oper} {s : St}
theorem SW.opX {o : Oper} {r : List Oper} (G : V → Option (Nat × O) → Prop) (hg : gate ops s.t o.guard = some true)
 (hR : ∀ (S0 : Area) (w0 : Bs) (x : Cx) (a : Act) (w : World), Good S0 w0 x w (fun k => s.h[k]?) → CVs x w s.t a.tmps.toList → ¬ x.dom s.h.length → ∃ v t, (∀ k ob, t = some (k, ob) → k ≤ s.h.length) ∧ G v t ∧ RunOk P o a S0 w0 x w (fun k => s.h[k]?) v t)
 (h : ∀ v t, G v t → SW P ops K r (s.step o.dst v t)) : SW P ops K (o :: r) s := fun S0 w0 x a w hA => by
 have hw : Region.wanted o (yielded ops.toArray a.tmps) = true := by
  have := awant_ok (o := o) hA.tm (awant_true (ops := ops) (K1 := True) (K2 := False) hg trivial)
  exact Classical.byContradiction fun h => this.2 h
 unfold wpList
 rw [if_pos hw]
 refine .inl ?_
 obtain ⟨v, t, hle, hG, nx, w', x', u, hr, hnx, hcv, g', he, _⟩ := hR x.S (w0.re w hA.good.keep.size) x a w hA.good.rebase hA.tm hA.fresh
 rw [← updH_eq _ _ hle] at g'
 obtain ⟨g', hnc⟩ := hA.good.unbase he g'
 unfold Oper.wp
 rw [hr]
 rcases hnx with rfl | ⟨rfl, rfl⟩
 · exact h v t hG S0 w0 x' _ w' (Abs.put hA.tm (hA.df.mono hnc) he g' hcv o.dst)
 · exact h v t hG S0 w0 x' _ w' (Abs.put hA.tm (hA.df.mono hnc) he g' hcv o.dst)
end
section
variable {P : Program} {S0 : Area} {w0 : Bs} {x : Cx} {w : World} {H : Heap} {a : Act} {o : Oper} {v : V}
theorem ok_slice_own (g : Good S0 w0 x w H) {t : TypeId} {y z : Operand} (ho : o.op = .slice t y none (some z) none) {ety : TypeId} {es by_ : Nat} (hT : tElem P t = some (ety, es, by_)) {k off len n : Nat} {kd : IntKind} (hy : CV x w (.own k off len es) (a.eval y)) (hz : CV x w (.c (.int kd (n : Int))) (a.eval z)) (hn : n ≤ len) :
 RunOk P o a S0 w0 x w H (.own k off n es) none := by
 obtain ⟨hu, ie, zv, hie, _, hsz, _, _⟩ := tElem_ok hT
 simp only [CV, RdC] at hy hz
 obtain ⟨h1, h2, cap, hy, h3, h4, h5⟩ := hy
 have h6 : (n : Int) ≤ (cap : Int) := by omega
 refine RunOk.pure g (u := .slice (some ⟨(x.loc k).b, off, none⟩) n cap) ?_ ?_
 · simp [execOp, ho, hy, hz.1, Instr.sliceAt, Instr.slice, run_underlying hu, Instr.sliceBounds, Instr.sliceBound, asIntOf, sizeOf, typeInfo, hie, h6, hsz, Addr.add]
   intro h; omega
 · simp only [CV]
   exact ⟨h1, h2, cap, rfl, by omega, h4, h5⟩
theorem ok_build_own (g : Good S0 w0 x w H) {t : TypeId} {y : Operand} (ho : o.op = .buildSlice t 1 #[(0, y)]) {ety : TypeId} {by_ : Nat} (hT : tElem P t = some (ety, 1, by_)) (hy : CV x w v (a.eval y)) (h1 : v.one = true) (k0 : Nat) (hk : ¬ x.dom k0) :
 RunOk P o a S0 w0 x w H (.own k0 0 1 1) (some (k0, .box ety [v] false)) := by
 obtain ⟨hu, ie, zv, hie, hz, hsz, _, _⟩ := tElem_ok hT
 have ho1 := hy.one h1
 have hr := run_buildSlice (P := P) w t ety 1 #[(0, a.eval y)] #[a.eval y] ie zv hu hie hz (by rw [hsz]; omega) (by rw [hsz]; omega) (by
  rw [hsz]
  simp only [Instr.fill, cells_one ho1]
  simp
  refine Array.ext (by simp) fun i h1 h2 => ?_
  simp at h2
  subst h2
  simp)
 obtain ⟨g', he⟩ := g.newBox k0 hk ety [v] #[a.eval y] (by simp only [CVs]; exact ⟨_, [], rfl, hy, rfl⟩)
 refine ⟨_, _, _, .slice (some ⟨w.heap.size, 0, none⟩) 1 1, by simp only [execOp, ho, Sem.run_bind, List.map_toArray, List.map_cons, List.map_nil, hr, Result.andThen_ok]; rfl, .inl rfl, ?_, g', he, fun k h => h.elim .inl fun e => .inr ⟨.box ety [v] false, by rw [e]⟩, fun _ => rfl⟩
 simp only [CV, Cx.mk1, if_true]
 exact ⟨.inr trivial, trivial, 1, rfl, Nat.le_refl _, by unfold maxLen; omega, by simp⟩
theorem ok_build_none (g : Good S0 w0 x w H) {t : TypeId} (ho : o.op = .buildSlice t 0 #[]) {ety : TypeId} {es by_ : Nat} (hT : tElem P t = some (ety, es, by_)) : RunOk P o a S0 w0 x w H (.full []) none := by
 obtain ⟨hu, ie, zv, hie, hz, hsz, _, _⟩ := tElem_ok hT
 obtain ⟨A, w', hr, hk, hs⟩ : ∃ A w', (Instr.buildSlice t 0 #[]).run P w = .ok (.slice A 0 0) w' ∧ Keep w w' ∧ w'.heap.size ≥ w.heap.size := by
  refine ⟨some ⟨w.heap.size, 0, none⟩, w.alloc (.cells (Array.map (fun x => default) (Array.range 0)) ety), ?_, (Keep.refl w).alloc _, by simp⟩
  simp [Instr.buildSlice, run_underlying hu, sizeOf, typeInfo, zeroValue, hie, hz, Instr.fill, newRow]
 obtain ⟨g', he⟩ := g.stepA (x' := x) hk ⟨fun _ _ h => h, fun b j v _ hc => hk.cell hc⟩ rfl rfl (fun b j h => .inl h)
 refine ⟨_, _, x, .slice A 0 0, by simp only [execOp, ho, Sem.run_bind, List.map_toArray, List.map_nil, hr, Result.andThen_ok]; rfl, .inl rfl, ?_, g', he, fun k h => .inl h, fun _ => rfl⟩
 simp only [CV, RdC]
 exact ⟨A, rfl, A, 0, rfl, Nat.le_refl _, by omega, fun h => absurd rfl h⟩
theorem ok_nil (g : Good S0 w0 x w H) {t t' : TypeId} {y z : Operand} (ho : o.op = .binOp .eql t y z t') {ety : TypeId} {es by_ : Nat} (hT : tElem P t = some (ety, es, by_)) {rows : List (List C)} (hy : RdC x.S w (.sl rows) (a.eval y)) (hz : a.eval z = .slice none 0 0) :
 ∃ b : Bool, (b = true → rows = []) ∧ RunOk P o a S0 w0 x w H (.c (.bool b)) none := by
 obtain ⟨hu, ie, zv, hie, _, hsz, _, _⟩ := tElem_ok hT
 simp only [RdC] at hy
 obtain ⟨A, c, hy, h1, h2, h3⟩ := hy
 refine ⟨A.isNone, fun h => ?_, RunOk.pure g (u := .bool A.isNone) ?_ (by simp only [CV, RdC])⟩
 · cases A with
   | none =>
     by_cases e : rows = []
     · exact e
     · obtain ⟨_, _, _, h, _⟩ := h3 e; cases h
   | some _ => cases h
 · have hb : ∀ A n c, (binOp .eql t (.slice A n c) (.slice none 0 0)) = (do pure (.bool (← Op.equal t (.slice A n c) (.slice none 0 0)))) := fun _ _ _ => rfl
   have he : ∀ A n c, (Op.equal t (.slice A n c) (.slice none 0 0)).run P w = .ok A.isNone w := by
    intro A n c
    have e : Op.equal t (.slice A n c) (.slice none 0 0) = Op.equalIn (9999 + 1) t (.slice A n c) (.slice none 0 0) := rfl
    rw [e]
    unfold Op.equalIn
    cases A <;> simp [run_underlying hu]
   have hq : (eqGuard .eql t y z (.slice A rows.length c) (.slice none 0 0)).run P w = .ok () w := rfl
   simp only [execOp, ho, hy, hz, Sem.run_bind, hq, hb, he, Result.andThen_ok, Sem.run_pure]
theorem ok_nilX (g : Good S0 w0 x w H) (n : Nat) {t t' : TypeId} {y z : Operand} (ho : o.op = .binOp .eql t y z t') {ety : TypeId} {es by_ : Nat} (hT : tElem P t = some (ety, es, by_)) {rows : List (List C)} (hy : RdC x.S w (.sl rows) (a.eval y)) (hz : a.eval z = .slice none 0 0) :
 ∃ v t, (∀ k ob, t = some (k, ob) → k ≤ n) ∧ (t = none ∧ ∃ b : Bool, v = .c (.bool b) ∧ (b = true → rows = [])) ∧ RunOk P o a S0 w0 x w H v t := by
 obtain ⟨b, h1, h2⟩ := ok_nil g ho hT hy hz
 exact ⟨_, _, fun _ _ h => (by cases h), ⟨rfl, b, rfl, h1⟩, h2⟩
theorem ok_copy_own (g : Good S0 w0 x w H) {t : TypeId} {y z : Operand} (ho : o.op = .call ⟨.builtin .copy, #[y, z], #[t, t]⟩) {ety : TypeId} {es by_ : Nat} (hT : tElem P t = some (ety, es, by_)) {k : Nat} {rows : List (List C)} (hy : CV x w (.own k 0 rows.length es) (a.eval y)) (hz : RdC x.S w (.sl rows) (a.eval z)) (hr : ∀ r ∈ rows, r.length = es)
 {ty : TypeId} {cs : List V} (hk : H k = some (.box ty cs false)) (hl : cs.length = rows.length * es) : RunOk P o a S0 w0 x w H (.c (.int .i64 rows.length)) (some (k, .box ty (rows.flatten.map V.c) false)) := by
 obtain ⟨hu, ie, zv, hie, _, hsz, _, _⟩ := tElem_ok hT
 obtain ⟨hd, hok⟩ := g.ok k _ hk
 obtain ⟨b1, b2, vs, hb, hn, hcs⟩ := hok
 simp only [CV] at hy
 obtain ⟨_, _, cap, hy, h3, h4, h5⟩ := hy
 obtain ⟨A, c, xs, e, k1, k2, k3, k4, k5, k6⟩ := sl_vals hz hr
 have hvl : vs.size = rows.length * es := by have := hcs.len; simp only [Array.length_toList] at this; omega
 have hones := k3.ones
 have hst := run_storeCells_at (P := P) (t := ty) (off := 0) xs 0 w vs hb (by simp; omega) hones
 have hfl := fold_list xs 0 0 vs (by simp; omega)
 obtain ⟨vs', hvs'⟩ : ∃ vs', ((xs.zipIdx 0).foldl (fun (c : Array Value) (p : Value × Nat) => c.setIfInBounds (0 + p.2) p.1) vs) = vs' := ⟨_, rfl⟩
 rw [hvs'] at hst hfl
 have hvx : vs'.toList = xs := by rw [hfl]; simp; omega
 have hrun : (Builtin.copy_ #[t, t] o.type #[.slice (some ⟨(x.loc k).b, 0, none⟩) rows.length cap, .slice A rows.length c]).run P w = .ok (goInt rows.length) (w.setRow (x.loc k).b vs') := by
  have hfc : (Builtin.firstCells es rows.length (.slice A rows.length c)).run P w = .ok xs.toArray w := by
   cases A with
   | none =>
     have : rows = [] := by
      by_cases e : rows = []
      · exact e
      · obtain ⟨_, _, h, _⟩ := k6 e; cases h
     subst this
     have : xs = [] := List.eq_nil_of_length_eq_zero (by simpa using k4)
     subst this
     simp [Builtin.firstCells]
   | some ad => exact run_firstCells_some (P := P) w es rows.length ad rows.length c xs k4 (k5 _ rfl)
  simp [Builtin.copy_, run_underlying hu, Builtin.lenOf, sizeOf, typeInfo, hie, hsz, hfc, hst]
 obtain ⟨g', he⟩ := g.writeBox k ty cs (rows.flatten.map V.c) hk vs vs' hb (by rw [← Array.length_toList, hvx, k4, hvl]) (by rw [hvx]; exact CVs.ofC k3)
 refine ⟨_, _, x, goInt rows.length, by simp [execOp, ho, resolve, invoke, builtin, hy, e, hrun], .inl rfl, ?_, g', he, fun _ h => .inl h, fun _ => rfl⟩
 simp only [CV, RdC, goInt]
 exact ⟨trivial, wf_len (by omega)⟩
theorem ok_copy_none (g : Good S0 w0 x w H) {t : TypeId} {y z : Operand} (ho : o.op = .call ⟨.builtin .copy, #[y, z], #[t, t]⟩) {ety : TypeId} {es by_ : Nat} (hT : tElem P t = some (ety, es, by_)) (hy : RdC x.S w (.sl []) (a.eval y)) (hz : RdC x.S w (.sl []) (a.eval z)) : RunOk P o a S0 w0 x w H (.c (.int .i64 0)) none := by
 obtain ⟨hu, ie, zv, hie, _, hsz, _, _⟩ := tElem_ok hT
 simp only [RdC, List.length_nil] at hy hz
 obtain ⟨A, c, hy, _⟩ := hy
 obtain ⟨B, d, hz, _⟩ := hz
 have hl : ∀ (y : Addr), (loadCells y 0).run P w = .ok #[] w := fun y => by simpa using run_loadCells_list (P := P) w y [] (by simp)
 have hrun : (Builtin.copy_ #[t, t] o.type #[.slice A 0 c, .slice B 0 d]).run P w = .ok (goInt 0) w := by
  cases A <;> cases B <;> simp [Builtin.copy_, run_underlying hu, Builtin.lenOf, Builtin.firstCells, sizeOf, typeInfo, hie, storeCells, hl]
 refine RunOk.pure g (u := goInt 0) (by simp [execOp, ho, resolve, invoke, builtin, hy, hz, hrun]) ?_
 simp only [CV, RdC, goInt]
 exact ⟨trivial, wf_len (n := 0) (by omega)⟩
theorem ok_append_own (g : Good S0 w0 x w H) {t : TypeId} {y z : Operand} (ho : o.op = .call ⟨.builtin .append, #[y, z], #[t, t]⟩) {ety : TypeId} {by_ : Nat} (hT : tElem P t = some (ety, 1, by_)) {k k2 len : Nat} (hy : CV x w (.own k 0 len 1) (a.eval y)) (hz : CV x w (.own k2 0 1 1) (a.eval z)) {cs : List V} (hk : H k = some (.box ety cs false)) {ty2 : TypeId} {fr : Bool} (hk2 : H k2 = some (.box ty2 [v] fr)) (hv1 : v.one = true)
 (hm : len + 1 ≤ maxLen) (hb : (len + 1) * by_ ≤ 140737488355328) (hl : len ≤ cs.length) (k0 : Nat) (hk0 : ¬ x.dom k0) :
 (len < cs.length ∧ RunOk P o a S0 w0 x w H (.own k 0 (len + 1) 1) (some (k, .box ety (cs.set len v) false))) ∨ (∃ n, RunOk P o a S0 w0 x w H (.own k0 0 (len + 1) 1) (some (k0, .box ety (cs.take len ++ v :: List.replicate n .any) false))) := by
 obtain ⟨hu, ie, zv, hie, hz0, hsz, hby, hzs⟩ := tElem_ok hT
 obtain ⟨hd, b1, b2, vs, hb3, hn, hcs⟩ := g.ok k _ hk
 obtain ⟨hd2, c1, c2, us, hc3, hn2, hcs2⟩ := g.ok k2 _ hk2
 simp only [CV] at hy hz
 obtain ⟨_, _, cap, hy, h3, h4, h5⟩ := hy
 obtain ⟨_, _, cap2, hz, _, _, _⟩ := hz
 simp only [CVs] at hcs2
 obtain ⟨u, ur, hus, hu1, rfl⟩ := hcs2
 have hvl : vs.size = cs.length := by have := hcs.len; simpa using this
 have huo := hu1.one hv1
 have hcell2 : ∀ (j : Nat) (q : Value), ([u] : List Value)[j]? = some q → w.cell? (Addr.add ⟨(x.loc k2).b, 0, none⟩ j) = some q := by
  intro j q hq
  rw [add_mk, Nat.zero_add, cell_of_row w _ j us ty2 (0, 0) hc3]
  rw [← Array.getElem?_toList, hus]
  exact hq
 by_cases hroom : len + 1 ≤ cap
 · left
   have hlt : len < cs.length := by omega
   refine ⟨hlt, ?_⟩
   have hcl : w.cell? ⟨(x.loc k).b, len, none⟩ = some vs[len] := by rw [cell_of_row w _ len vs ety (0, 0) hb3]; simp [hvl, hlt]
   have hst : (storeCells ⟨(x.loc k).b, len, none⟩ [u] 0).run P w = .ok () (w.setRow (x.loc k).b (vs.setIfInBounds len u)) := by
    have := run_storeCells_at (P := P) (t := ety) (off := len) [u] 0 w vs hb3 (by simp; omega) (by simpa using huo)
    simpa using this
   have hfc := run_firstCells_some (P := P) w 1 1 ⟨(x.loc k2).b, 0, none⟩ 1 cap2 [u] (by simp) hcell2
   have hrun : (Builtin.append_ #[t, t] o.type #[.slice (some ⟨(x.loc k).b, 0, none⟩) len cap, .slice (some ⟨(x.loc k2).b, 0, none⟩) 1 cap2]).run P w = .ok (.slice (some ⟨(x.loc k).b, 0, none⟩) (len + 1) cap) (w.setRow (x.loc k).b (vs.setIfInBounds len u)) := by
    simp [Builtin.append_, run_underlying hu, sizeOf, typeInfo, hie, hsz, Builtin.lenOf, hroom, hfc, Addr.add_lit, hst]
   obtain ⟨g', he⟩ := g.writeBox k ety cs (cs.set len v) hk vs (vs.setIfInBounds len u) hb3 (by simp) (by simpa using hcs.set len hu1)
   refine ⟨.value (.slice (some ⟨(x.loc k).b, 0, none⟩) (len + 1) cap), w.setRow (x.loc k).b (vs.setIfInBounds len u), x, .slice (some ⟨(x.loc k).b, 0, none⟩) (len + 1) cap, by simp [execOp, ho, resolve, invoke, builtin, hy, hz, hrun], .inl rfl, ?_, g', he, fun _ h => .inl h, fun hbs => rfl⟩
   simp only [CV]
   exact ⟨hd, b1, cap, rfl, hroom, h4, h5⟩
 · right
   have hcl : cap = len := by omega
   subst hcl
   have hold : ∀ (j : Nat) (q : Value), (vs.toList.take cap)[j]? = some q → w.cell? (Addr.add ⟨(x.loc k).b, 0, none⟩ j) = some q := by
    intro j q hq
    rw [add_mk, Nat.zero_add, cell_of_row w _ j vs ety (0, 0) hb3, ← Array.getElem?_toList]
    rw [List.getElem?_take] at hq
    split at hq
    · exact hq
    · cases hq
   have hrun := run_append_grow (P := P) w t o.type ety ie zv hu hie hz0 ⟨(x.loc k).b, 0, none⟩ cap cap (vs.toList.take cap) (by rw [List.length_take, hsz]; simp; omega) hold ⟨(x.loc k2).b, 0, none⟩ 1 cap2 [u] (by rw [hsz]; rfl) hcell2 (by omega) (by unfold maxLen at hm; omega) (growslice_fits (by omega) (by rw [hby]; exact hb))
   have hge := grownCap_ge w (cap + 1) cap ety
   have hle := grownCap_le_maxLen w (cap + 1) cap ety hm
   refine ⟨grownCap w (cap + 1) cap ety - (cap + 1), ?_⟩
   obtain ⟨arr, harr⟩ : ∃ arr, (vs.toList.take cap).toArray ++ [u].toArray ++ Builtin.zeroCells zv.cells (grownCap w (cap + 1) cap ety - (cap + 1)) = arr := ⟨_, rfl⟩
   rw [harr] at hrun
   have hzl : (Builtin.zeroCells zv.cells (grownCap w (cap + 1) cap ety - (cap + 1))).toList.length = grownCap w (cap + 1) cap ety - (cap + 1) := by simp [size_zeroCells, hzs]
   have hal : arr.toList = vs.toList.take cap ++ u :: (Builtin.zeroCells zv.cells (grownCap w (cap + 1) cap ety - (cap + 1))).toList := by rw [← harr]; simp
   have hasz : arr.size = grownCap w (cap + 1) cap ety := by rw [← Array.length_toList, hal]; simp only [List.length_append, List.length_cons, List.length_take, Array.length_toList, hzl] ; rw [Array.length_toList] at hzl; omega
   have hkd : Keep w w.drew := (Keep.refl w).drew
   obtain ⟨gd, hed⟩ := g.stepA (x' := x) hkd ⟨fun _ _ h => h, fun b j v _ hc => hkd.cell hc⟩ rfl rfl (fun b j h => .inl h)
   have hcv : CVs x w.drew (cs.take cap ++ v :: List.replicate (grownCap w (cap + 1) cap ety - (cap + 1)) .any) arr.toList := by
    rw [hal]
    refine (CVs.mono hed _ _ (hcs.take cap)).append ?_
    simp only [CVs]
    refine ⟨u, _, rfl, CV.mono hed _ _ hu1, CVs.of_get (by rw [hzl]; simp) fun i v' u' h1 _ => ?_⟩
    rw [List.getElem?_replicate] at h1
    split at h1
    · cases h1; simp only [CV]
    · cases h1
   obtain ⟨g', he⟩ := gd.newBox k0 hk0 ety _ arr hcv
   refine ⟨.value (.slice (some ⟨w.heap.size, 0, none⟩) (cap + 1) (grownCap w (cap + 1) cap ety)), w.drew.alloc (.cells arr ety), _, .slice (some ⟨w.heap.size, 0, none⟩) (cap + 1) (grownCap w (cap + 1) cap ety), by simp [execOp, ho, resolve, invoke, builtin, hy, hz, hrun], .inl rfl, ?_, g', hed.trans he, fun k h => h.elim .inl fun e => .inr ⟨.box ety (cs.take cap ++ v :: List.replicate (grownCap w (cap + 1) cap ety - (cap + 1)) .any) false, by rw [e]⟩, fun hbs => by rw [ho] at hbs; cases hbs⟩
   simp only [CV, Cx.mk1, if_true]
   exact ⟨.inr trivial, trivial, _, rfl, hge, hle, by rw [hasz]; omega⟩
theorem ok_append_ownX (g : Good S0 w0 x w H) (n : Nat) {t : TypeId} {y z : Operand} (ho : o.op = .call ⟨.builtin .append, #[y, z], #[t, t]⟩) {ety : TypeId} {by_ : Nat} (hT : tElem P t = some (ety, 1, by_)) {k k2 len : Nat} (hy : CV x w (.own k 0 len 1) (a.eval y)) (hz : CV x w (.own k2 0 1 1) (a.eval z)) {cs : List V} (hk : H k = some (.box ety cs false)) {ty2 : TypeId} {fr : Bool} (hk2 : H k2 = some (.box ty2 [v] fr)) (hv1 : v.one = true)
 (hm : len + 1 ≤ maxLen) (hb : (len + 1) * by_ ≤ 140737488355328) (hl : len ≤ cs.length) (hn : ¬ x.dom n) (hkn : k ≤ n) :
 ∃ v' t', (∀ k ob, t' = some (k, ob) → k ≤ n) ∧ ((len < cs.length ∧ v' = .own k 0 (len + 1) 1 ∧ t' = some (k, .box ety (cs.set len v) false)) ∨ ∃ j, v' = .own n 0 (len + 1) 1 ∧ t' = some (n, .box ety (cs.take len ++ v :: List.replicate j .any) false)) ∧ RunOk P o a S0 w0 x w H v' t' := by
 rcases ok_append_own g ho hT hy hz hk hk2 hv1 hm hb hl n hn with ⟨h1, h2⟩ | ⟨j, h2⟩
 · exact ⟨_, _, fun _ _ h => (by cases h; exact hkn), .inl ⟨h1, rfl, rfl⟩, h2⟩
 · exact ⟨_, _, fun _ _ h => (by cases h; exact Nat.le_refl _), .inr ⟨j, rfl, rfl⟩, h2⟩
end
section
variable {P : Program} {m : Mo}
def LoopAt (F : Fence) (n : Nat) (P : Program) (c : Code) (Q : Exit → Act → World → Prop) (a : Act) (w : World) : Prop :=
 ∀ (b : Frame) (k : List Item) (cs : List Frame), b.roundOf = F.round → F.fn b.fn → F.room (cs.length + 1 + n) →
  ∃ e a' w', Q e a' w' ∧ ArrivesIn (Machine.fenced P F) P (lone (b.atR a (.code c :: .inLoop c :: k)) cs w) b k cs e a' w'
theorem LoopAt.round {F : Fence} {n : Nat} {c : Code} {Q : Exit → Act → World → Prop} {a : Act} {w : World} (h : c.wpIn F n P (Exit.then (LoopAt F n P c Q) Q) a w) : LoopAt F n P c Q a w := by
 intro b k cs hro hb hr
 obtain ⟨e, a₁, w₁, hq, harr⟩ := h b (.inLoop c :: k) cs hro hb hr
 cases e with
 | normal =>
   obtain ⟨e₂, a₂, w₂, hq₂, harr₂⟩ := hq b k cs hro hb hr
   exact ⟨e₂, a₂, w₂, hq₂, .of_steps (StepsIn.trans harr (.one (fenced_calm hb hr rfl) stepR_inLoop)) harr₂⟩
 | exit id => exact ⟨_, a₁, w₁, hq, .pass (x := .inLoop c) rfl (fun _ _ => .inl (by simp)) harr⟩
 | goto l => exact ⟨_, a₁, w₁, hq, .pass (x := .inLoop c) rfl (fun _ _ => .inl (by simp)) harr⟩
 | ret => exact ⟨_, a₁, w₁, hq, .pass (x := .inLoop c) rfl (fun _ _ => .inl (by simp)) harr⟩
 | panic ch => exact ⟨_, a₁, w₁, hq, .pass (x := .inLoop c) rfl (fun _ _ => .inl (by simp)) harr⟩
 | outgrown => exact ⟨_, a₁, w₁, hq, .pass (x := .inLoop c) rfl (fun _ _ => .inl (by simp)) harr⟩
theorem LoopAt.loop {F : Fence} {n : Nat} {c : Code} {Q : Exit → Act → World → Prop} {a : Act} {w : World} (h : LoopAt F n P c Q a w) : (Code.loop c).wpIn F n P Q a w := by
 intro b k cs hro hb hr
 obtain ⟨e, a', w', hq, harr⟩ := h b k cs hro hb hr
 exact ⟨e, a', w', hq, .of_steps (.one (fenced_calm hb hr rfl) stepR_loop) harr⟩
def LA (m : Mo) (P : Program) (c : Code) (K : Exit → St → Prop) (s : St) : Prop :=
 ∀ (n : Nat) (S0 : Area) (w0 : Bs) (x : Cx) (a : Act) (w : World), w0.n0 ≤ m.n0 → Abs S0 w0 x s a w → LoopAt (fz m) n P c (fun e a w => ∃ x s, Abs S0 w0 x s a w ∧ K e s) a w
theorem LA.loop {c : Code} {K : Exit → St → Prop} {s : St} (h : LA m P c K s) : AW m P (.loop c) K s := fun n S0 w0 x a w hm hA => (h n S0 w0 x a w hm hA).loop
theorem LA.round {c : Code} {K : Exit → St → Prop} {s : St} (h : AW m P c (aThen (LA m P c K) K) s) : LA m P c K s := fun n S0 w0 x a w hm hA => LoopAt.round (wpIn_mono (h n S0 w0 x a w hm hA) fun e a w ⟨x, s, h1, h2⟩ => by
 cases e with
 | normal => exact h2 n S0 w0 x a w hm h1
 | _ => exact ⟨x, s, h1, h2⟩)
theorem LA.le {c : Code} {K : Exit → St → Prop} {s s' : St} (hl : Le m s s') (h : LA m P c K s') : LA m P c K s := fun n S0 w0 x a w hm hA => let ⟨x', h'⟩ := hl S0 w0 x a w hm hA; h n S0 w0 x' a w hm h'
end
mutual
def V.ren (ρ : Nat → Nat) : V → V
 | .ptr k off => .ptr (ρ k) off
 | .own k off len es => .own (ρ k) off len es
 | .gr k es rows => .gr (ρ k) es rows
 | .hot k es rows => .hot (ρ k) es rows
 | .hp k n pos => .hp (ρ k) n pos
 | .agg l => .agg (V.rens ρ l)
 | .tup l => .tup (V.rens ρ l)
 | .fn f l => .fn f (V.rens ρ l)
 | .any => .any
 | .c d => .c d
 | .cp r off => .cp r off
 | .full r => .full r
 | .yl l => .yl l
def V.rens (ρ : Nat → Nat) : List V → List V
 | [] => []
 | v :: l => V.ren ρ v :: V.rens ρ l
end
def Cx.pull (x : Cx) (ρ : Nat → Nat) (N : Nat) : Cx := { dom := fun k => k < N ∧ x.dom (ρ k), loc := fun k => x.loc (ρ k), S := x.S }
mutual
theorem CV.pull {x : Cx} {w : World} {ρ : Nat → Nat} {N : Nat} : ∀ (v : V) (u : Value), v.bnd N = true → CV x w (V.ren ρ v) u → CV (x.pull ρ N) w v u
 | .ptr k off, u, hb, h => by simp only [V.bnd, decide_eq_true_eq] at hb; simp only [V.ren, CV, Cx.pull] at h ⊢; exact ⟨⟨hb, h.1⟩, h.2⟩
 | .own k off len es, u, hb, h => by simp only [V.bnd, decide_eq_true_eq] at hb; simp only [V.ren, CV, Cx.pull] at h ⊢; exact ⟨⟨hb, h.1⟩, h.2⟩
 | .gr k es rows, u, hb, h => by simp only [V.bnd, decide_eq_true_eq] at hb; simp only [V.ren, CV, Cx.pull] at h ⊢; exact ⟨⟨hb, h.1⟩, h.2⟩
 | .hot k es rows, u, hb, h => by simp only [V.bnd, decide_eq_true_eq] at hb; simp only [V.ren, CV, Cx.pull] at h ⊢; exact ⟨⟨hb, h.1⟩, h.2⟩
 | .hp k m pos, u, hb, h => by simp only [V.bnd, decide_eq_true_eq] at hb; simp only [V.ren, CV, Cx.pull] at h ⊢; exact ⟨⟨hb, h.1⟩, h.2⟩
 | .agg l, u, hb, h => by simp only [V.bnd] at hb; simp only [V.ren, CV] at h ⊢; obtain ⟨vs, e, h⟩ := h; exact ⟨vs, e, CVs.pull l _ hb h⟩
 | .tup l, u, hb, h => by simp only [V.bnd] at hb; simp only [V.ren, CV] at h ⊢; obtain ⟨vs, e, h⟩ := h; exact ⟨vs, e, CVs.pull l _ hb h⟩
 | .fn f l, u, hb, h => by simp only [V.bnd] at hb; simp only [V.ren, CV] at h ⊢; obtain ⟨vs, e, h⟩ := h; exact ⟨vs, e, CVs.pull l _ hb h⟩
 | .any, u, _, h => by simp only [CV]
 | .c _, u, _, h => by simpa only [V.ren, CV, Cx.pull] using h
 | .cp _ _, u, _, h => by simpa only [V.ren, CV, Cx.pull] using h
 | .full _, u, _, h => by simpa only [V.ren, CV, Cx.pull] using h
 | .yl l, u, _, h => by simpa only [V.ren, CV] using h
theorem CVs.pull {x : Cx} {w : World} {ρ : Nat → Nat} {N : Nat} : ∀ (l : List V) (us : List Value), V.bnds N l = true → CVs x w (V.rens ρ l) us → CVs (x.pull ρ N) w l us
 | [], us, _, h => by simpa only [V.rens, CVs] using h
 | v :: l, us, hb, h => by
   simp only [V.bnds, Bool.and_eq_true] at hb
   simp only [V.rens, CVs] at h ⊢
   obtain ⟨u, ur, e, h1, h2⟩ := h
   exact ⟨u, ur, e, CV.pull v u hb.1 h1, CVs.pull l ur hb.2 h2⟩
end
def Wk (ρ : Nat → Nat) (N : Nat) (v v' : V) : Prop := v' = .any ∨ (v = v'.ren ρ ∧ v'.bnd N = true) ∨ ∃ rows, v = .full rows ∧ v' = .c (.sl rows)
def Wks (ρ : Nat → Nat) (N : Nat) : List V → List V → Prop
 | [], l' => l' = []
 | v :: l, v' :: l' => Wk ρ N v v' ∧ Wks ρ N l l'
 | _ :: _, [] => False
theorem Wk.ok {x : Cx} {w : World} {ρ : Nat → Nat} {N : Nat} {v v' : V} {u : Value} (h : Wk ρ N v v') (hv : CV x w v u) : CV (x.pull ρ N) w v' u := by
 rcases h with rfl | ⟨rfl, h⟩ | ⟨rows, rfl, rfl⟩
 · simp only [CV]
 · exact CV.pull v' u h hv
 · simp only [CV] at hv ⊢
   obtain ⟨_, _, hv⟩ := hv
   exact hv
theorem Wks.ok {x : Cx} {w : World} {ρ : Nat → Nat} {N : Nat} : ∀ {l l' : List V} {us : List Value}, Wks ρ N l l' → CVs x w l us → CVs (x.pull ρ N) w l' us
 | [], l', us, h, hv => by simp only [Wks] at h; subst h; simpa only [CVs] using hv
 | v :: l, [], us, h, _ => by simp [Wks] at h
 | v :: l, v' :: l', us, h, hv => by
   simp only [Wks] at h
   simp only [CVs] at hv ⊢
   obtain ⟨u, ur, e, h1, h2⟩ := hv
   exact ⟨u, ur, e, h.1.ok h1, Wks.ok h.2 h2⟩
theorem Wks.append {ρ : Nat → Nat} {N : Nat} : ∀ {l l' k k' : List V}, Wks ρ N l l' → Wks ρ N k k' → Wks ρ N (l ++ k) (l' ++ k')
 | [], l', k, k', h, h2 => by simp only [Wks] at h; subst h; exact h2
 | v :: l, [], k, k', h, _ => by simp [Wks] at h
 | v :: l, v' :: l', k, k', h, h2 => by simp only [Wks] at h; exact ⟨h.1, Wks.append h.2 h2⟩
theorem Wks.any {ρ : Nat → Nat} {N : Nat} : ∀ (l : List V), Wks ρ N l (List.replicate l.length .any)
 | [] => rfl
 | v :: l => ⟨.inl rfl, Wks.any l⟩
theorem Wks.same {ρ : Nat → Nat} {N : Nat} : ∀ {l : List V}, V.rens ρ l = l → V.bnds N l = true → Wks ρ N l l
 | [], _, _ => rfl
 | v :: l, h, hb => by
   simp only [V.rens, List.cons.injEq] at h
   simp only [V.bnds, Bool.and_eq_true] at hb
   exact ⟨.inr (.inl ⟨h.1.symm, hb.1⟩), Wks.same h.2 hb.2⟩
def Wo (ρ : Nat → Nat) (N : Nat) : O → O → Prop
 | .box ty cs fr, .box ty' cs' fr' => ty = ty' ∧ fr = fr' ∧ Wks ρ N cs cs'
 | .tok ty es cur, .tok ty' es' cur' => ty = ty' ∧ es = es' ∧ cur = cur'
 | _, _ => False
theorem Le.ren {rd : Option Nat} {t t' : List V} {h h' : List O} (ρ : Nat → Nat) (hinj : ∀ i j, i < h'.length → j < h'.length → ρ i = ρ j → i = j) (ht : Wks ρ h'.length t t') (hh : ∀ k o', h'[k]? = some o' → ∃ o, h[ρ k]? = some o ∧ Wo ρ h'.length o o') : Le ⟨rd, 0⟩ ⟨t, h⟩ ⟨t', h'⟩ := fun S0 w0 x a w hm hA => by
 have g := hA.good
 have hd0 : ∀ k, ¬ w0.x0.dom k := fun k hk => by have := w0.dl k hk; have : w0.n0 ≤ 0 := hm; omega
 have hlt : ∀ {k o'}, h'[k]? = some o' → k < h'.length := fun hk => (List.getElem?_eq_some_iff.1 hk).1
 have hov : ∀ {k o o'}, Wo ρ h'.length o o' → OOk x w (ρ k) o → OOk (x.pull ρ h'.length) w k o' := by
  intro k o o' hw hok
  cases o with
  | box ty cs fr =>
    cases o' with
    | box ty' cs' fr' =>
      obtain ⟨rfl, rfl, hc⟩ := hw
      obtain ⟨a1, a2, vs, a3, a4, a5⟩ := hok
      exact ⟨a1, a2, vs, a3, a4, hc.ok a5⟩
    | tok _ _ _ => exact hw.elim
    | hot _ _ _ _ => exact hw.elim
  | tok ty es cur =>
    cases o' with
    | tok ty' es' cur' => obtain ⟨rfl, rfl, rfl⟩ := hw; exact hok
    | box _ _ _ => exact hw.elim
    | hot _ _ _ _ => exact hw.elim
  | hot _ _ _ _ => exact hw.elim
 have hex : ∀ {k o o' j}, Wo ρ h'.length o o' → Ex (x.pull ρ h'.length) k o' j → Ex x (ρ k) o j := by
  intro k o o' j hw hx
  cases o with
  | box ty cs fr =>
    cases o' with
    | box ty' cs' fr' => obtain ⟨rfl, rfl, hc⟩ := hw; exact hx
    | tok _ _ _ => exact hw.elim
    | hot _ _ _ _ => exact hw.elim
  | tok ty es cur =>
    cases o' with
    | tok ty' es' cur' => obtain ⟨rfl, rfl, rfl⟩ := hw; exact hx
    | box _ _ _ => exact hw.elim
    | hot _ _ _ _ => exact hw.elim
  | hot _ _ _ _ => exact hw.elim
 refine ⟨x.pull ρ h'.length, ⟨fun k o' hk => ?_, fun k hk => ?_, fun k k' o o' h1 h2 hne hv hv' => ?_, fun k o' j hk hx => ?_, g.ex, fun k o' hk hv => ?_, g.new, g.sub, g.keep, g.ext.ar, fun k hk => (hd0 k hk).elim, fun k hk => (hd0 k hk).elim⟩, ht.ok hA.tm, hA.df⟩
 · obtain ⟨o, ho, hw⟩ := hh k o' hk
   obtain ⟨h1, h2⟩ := g.ok _ o ho
   exact ⟨⟨hlt hk, h1⟩, hov hw h2⟩
 · exact ⟨_, List.getElem?_eq_getElem hk.1⟩
 · obtain ⟨p, hp, _⟩ := hh k o h1
   obtain ⟨p', hp', _⟩ := hh k' o' h2
   exact g.inj _ _ p p' hp hp' (fun e => hne (hinj _ _ (hlt h1) (hlt h2) e)) hv hv'
 · obtain ⟨o, ho, hw⟩ := hh k o' hk
   exact g.excl _ o j ho (hex hw hx)
 · obtain ⟨o, ho, _⟩ := hh k o' hk
   exact g.own _ o ho hv
end Go.Proofs.YthbcljjpmdfflaaGreat
namespace Go.Proofs.YthbcljjpmdfflaaGreat
open Go.RowKit
set_option maxRecDepth 100000
set_option linter.unusedVariables false
theorem jn {m : Mo} {P : Program} {c d : Code} {K : Exit → St → Prop} {t : List V} {h : List O} {ι : Type} (f : ι → List (Nat × V)) {ws : List Nat} {t0 : List V}
 (hc : AW m P c (aThen (fun s' => ∃ i : ι, Le m s' ⟨puts (f i) t0, h⟩) K) ⟨t, h⟩)
 (hr : ∀ i : ι, AW m P d K ⟨puts (f i) t0, h⟩)
 (hw : wr c = ws := by simp only [wr, wrOps, List.cons_append, List.nil_append, List.append_nil, List.append_assoc]; exact rfl)
 (ht : havoc ws t = t0 := by simp only [havoc, List.foldl_cons, List.foldl_nil, List.set_cons_zero, List.set_cons_succ]; exact rfl) : AW m P c (aThen (AW m P d K) K) ⟨t, h⟩ :=
 hc.mono fun e s h => by
  cases e with
  | normal => obtain ⟨i, hi⟩ := h; exact AW.le hi (hr i)
  | _ => exact h
end Go.Proofs.YthbcljjpmdfflaaGreat
namespace Go.Proofs.YthbcljjpmdfflaaGreat
open Go.RowKit
set_option linter.unusedSimpArgs false
set_option linter.unusedVariables false
set_option maxRecDepth 100000
theorem eval_of {x : Cx} {w : World} {t : List V} {a : Act} (h : CVs x w t a.tmps.toList) {i : Nat} {v : V} (hi : t[i]? = some v) : CV x w v (a.eval (.tmp i)) := by
 have := ev_ok h (.tmp i)
 simpa [ev, List.getD_eq_getElem?_getD, hi] using this
theorem eval_c {x : Cx} {w : World} {t : List V} {a : Act} (h : CVs x w t a.tmps.toList) {i : Nat} {c : C} (hi : t[i]? = some (.c c)) : RdC x.S w c (a.eval (.tmp i)) := by
 have := eval_of h hi
 simpa only [CV] using this
theorem clone_a (l : List Int) (hl : l.length ≤ 1000000) : AC Tryz.prog 49 [.c (intsC l)] (.c (intsC l)) := by
 have f1 : l.length ≤ maxLen := by unfold maxLen; omega
 have f2 : l.length * 8 ≤ 140737488355328 := by omega
 unfold intsC
 refine en Tryz.func49 Tryz.ntmps49 ?_
 with_reducible refine AW.seq ?_
 with_reducible refine AW.region ?_
 with_reducible refine aops_run (by simp [List.replicate_succ]; first | exact rfl | exact ⟨rfl, rfl⟩) ?_
 with_reducible refine aops_done ?_
 with_reducible refine aThen_n ?_
 with_reducible refine AW.seq ?_
 with_reducible refine AW.seq ?_
 with_reducible refine AW.regionS ?_
 refine SW.take 1 ?_
 with_reducible refine aops_run (by simp [List.replicate_succ]; first | exact rfl | exact ⟨rfl, rfl⟩) ?_
 refine aops_done ?_
 simp only [List.drop_succ_cons, List.drop_zero]
 refine SW.opX (fun v t => t = none ∧ ∃ b : Bool, v = .c (.bool b) ∧ (b = true → l.map (fun n => [C.int IntKind.i64 n]) = [])) (by simp [gate]) ?_ ?_
 · intro S0 w0 x a w g ht hk
   exact ok_nilX (P := Tryz.prog) g _ rfl (by simp; exact ⟨rfl, rfl, rfl⟩) (eval_c ht rfl) rfl
 rintro v t ⟨rfl, b, rfl, hb⟩
 cases b with
 | true =>
   have : l = [] := by simpa using hb rfl
   subst this
   refine SW.nil ?_
   refine go0 ?_
   simp [aRet, ares, aresL, ares1, V.pub, V.pubs, ldV, Tryz.results49]
 | false =>
   refine SW.nil ?_
   refine go0 ?_
   with_reducible refine AW.regionS ?_
   refine SW.opX (fun v t => t = none ∧ v = .full []) (by simp [gate]) ?_ ?_
   · intro S0 w0 x a w g ht hk
     exact ⟨_, _, fun _ _ h => (by cases h), ⟨rfl, rfl⟩, ok_build_none (P := Tryz.prog) g (t := 31) rfl (ety := 3) (es := 1) (by_ := 8) (by simp)⟩
   rintro v t ⟨rfl, rfl⟩
   refine SW.take 3 ?_
   with_reducible refine aops_run (by simp [List.replicate_succ, f1, f2]; first | exact rfl | exact ⟨rfl, rfl⟩) ?_
   refine aops_done ?_
   simp only [List.drop_succ_cons, List.drop_zero]
   refine SW.nil ?_
   refine go0 ?_
   simp [aRet, ares, aresL, ares1, V.pub, V.pubs, ldV, Tryz.results49]
end Go.Proofs.YthbcljjpmdfflaaGreat
namespace Go.Proofs.YthbcljjpmdfflaaGreat
open Go.RowKit
set_option linter.unusedSimpArgs false
set_option linter.unusedVariables false
set_option maxRecDepth 100000
mutual
def V.sf (N : Nat) : V → Bool
 | .ptr k _ => decide (k < N) && decide (k ≠ 2)
 | .own k _ _ _ => decide (k < N) && decide (k ≠ 2)
 | .gr k _ _ => decide (k < N) && decide (k ≠ 2)
 | .hot k _ _ => decide (k < N) && decide (k ≠ 2)
 | .hp k _ _ => decide (k < N) && decide (k ≠ 2)
 | .agg l => V.sfs N l
 | .tup l => V.sfs N l
 | .fn _ l => V.sfs N l
 | .any => true
 | .c _ => true
 | .cp _ _ => true
 | .full _ => true
 | .yl _ => true
def V.sfs (N : Nat) : List V → Bool
 | [] => true
 | v :: l => v.sf N && V.sfs N l
end
mutual
theorem sf_ren {N : Nat} {ρ : Nat → Nat} (hρ : ∀ k, k < N → k ≠ 2 → ρ k = k) : ∀ v : V, v.sf N = true → v.ren ρ = v
 | .ptr k _, h => by simp only [V.sf, Bool.and_eq_true, decide_eq_true_eq] at h; simp only [V.ren, hρ k h.1 h.2]
 | .own k _ _ _, h => by simp only [V.sf, Bool.and_eq_true, decide_eq_true_eq] at h; simp only [V.ren, hρ k h.1 h.2]
 | .gr k _ _, h => by simp only [V.sf, Bool.and_eq_true, decide_eq_true_eq] at h; simp only [V.ren, hρ k h.1 h.2]
 | .hot k _ _, h => by simp only [V.sf, Bool.and_eq_true, decide_eq_true_eq] at h; simp only [V.ren, hρ k h.1 h.2]
 | .hp k _ _, h => by simp only [V.sf, Bool.and_eq_true, decide_eq_true_eq] at h; simp only [V.ren, hρ k h.1 h.2]
 | .agg l, h => by simp only [V.sf] at h; simp only [V.ren, sfs_ren hρ l h]
 | .tup l, h => by simp only [V.sf] at h; simp only [V.ren, sfs_ren hρ l h]
 | .fn _ l, h => by simp only [V.sf] at h; simp only [V.ren, sfs_ren hρ l h]
 | .any, _ => rfl
 | .c _, _ => rfl
 | .cp _ _, _ => rfl
 | .full _, _ => rfl
 | .yl _, _ => rfl
theorem sfs_ren {N : Nat} {ρ : Nat → Nat} (hρ : ∀ k, k < N → k ≠ 2 → ρ k = k) : ∀ l : List V, V.sfs N l = true → V.rens ρ l = l
 | [], _ => rfl
 | v :: l, h => by simp only [V.sfs, Bool.and_eq_true] at h; simp only [V.rens, sf_ren hρ v h.1, sfs_ren hρ l h.2]
end
mutual
theorem sf_bnd {N M : Nat} (hM : N ≤ M) : ∀ v : V, v.sf N = true → v.bnd M = true ∧ v.sf M = true
 | .ptr k _, h => by simp only [V.sf, V.bnd, Bool.and_eq_true, decide_eq_true_eq] at h ⊢; omega
 | .own k _ _ _, h => by simp only [V.sf, V.bnd, Bool.and_eq_true, decide_eq_true_eq] at h ⊢; omega
 | .gr k _ _, h => by simp only [V.sf, V.bnd, Bool.and_eq_true, decide_eq_true_eq] at h ⊢; omega
 | .hot k _ _, h => by simp only [V.sf, V.bnd, Bool.and_eq_true, decide_eq_true_eq] at h ⊢; omega
 | .hp k _ _, h => by simp only [V.sf, V.bnd, Bool.and_eq_true, decide_eq_true_eq] at h ⊢; omega
 | .agg l, h => by simp only [V.sf, V.bnd] at h ⊢; exact sfs_bnd hM l h
 | .tup l, h => by simp only [V.sf, V.bnd] at h ⊢; exact sfs_bnd hM l h
 | .fn _ l, h => by simp only [V.sf, V.bnd] at h ⊢; exact sfs_bnd hM l h
 | .any, _ => ⟨rfl, rfl⟩
 | .c _, _ => ⟨rfl, rfl⟩
 | .cp _ _, _ => ⟨rfl, rfl⟩
 | .full _, _ => ⟨rfl, rfl⟩
 | .yl _, _ => ⟨rfl, rfl⟩
theorem sfs_bnd {N M : Nat} (hM : N ≤ M) : ∀ l : List V, V.sfs N l = true → V.bnds M l = true ∧ V.sfs M l = true
 | [], _ => ⟨rfl, rfl⟩
 | v :: l, h => by
   simp only [V.sfs, Bool.and_eq_true] at h
   have h1 := sf_bnd hM v h.1
   have h2 := sfs_bnd hM l h.2
   simp only [V.bnds, V.sfs, h1.1, h1.2, h2.1, h2.2, Bool.and_self, and_self]
end
mutual
theorem sf_frz {N L : Nat} {row : List C} (hL : N ≤ L) : ∀ v : V, v.sf N = true → v.frz L row = v
 | .ptr k _, h => by simp only [V.sf, Bool.and_eq_true, decide_eq_true_eq] at h; simp only [V.frz]; rw [if_neg (by omega)]
 | .own k _ _ _, h => by simp only [V.sf, Bool.and_eq_true, decide_eq_true_eq] at h; simp only [V.frz]; rw [if_neg (by omega)]
 | .gr k _ _, h => rfl
 | .hot k _ _, h => rfl
 | .hp k _ _, h => rfl
 | .agg l, h => by simp only [V.sf] at h; simp only [V.frz, sfs_frz hL l h]
 | .tup l, h => by simp only [V.sf] at h; simp only [V.frz, sfs_frz hL l h]
 | .fn _ l, h => by simp only [V.sf] at h; simp only [V.frz, sfs_frz hL l h]
 | .any, _ => rfl
 | .c _, _ => rfl
 | .cp _ _, _ => rfl
 | .full _, _ => rfl
 | .yl _, _ => rfl
theorem sfs_frz {N L : Nat} {row : List C} (hL : N ≤ L) : ∀ l : List V, V.sfs N l = true → V.frzs L row l = l
 | [], _ => rfl
 | v :: l, h => by simp only [V.sfs, Bool.and_eq_true] at h; simp only [V.frzs, sf_frz hL v h.1, sfs_frz hL l h.2]
end
theorem sfs_iff {N : Nat} : ∀ {l : List V}, V.sfs N l = true ↔ ∀ v ∈ l, v.sf N = true
 | [] => by simp [V.sfs]
 | v :: l => by simp only [V.sfs, Bool.and_eq_true, sfs_iff (l := l), List.forall_mem_cons]
theorem sfs_append {N : Nat} {l k : List V} : V.sfs N (l ++ k) = true ↔ V.sfs N l = true ∧ V.sfs N k = true := by
 simp only [sfs_iff, List.mem_append]
 exact ⟨fun h => ⟨fun v hv => h v (.inl hv), fun v hv => h v (.inr hv)⟩, fun h v hv => hv.elim (h.1 v) (h.2 v)⟩
theorem sfs_set {N : Nat} {l : List V} {i : Nat} {v : V} (h : V.sfs N l = true) (hv : v.sf N = true) : V.sfs N (l.set i v) = true := by
 rw [sfs_iff] at h ⊢
 intro u hu
 rcases List.mem_or_eq_of_mem_set hu with hu | rfl
 · exact h u hu
 · exact hv
theorem sfs_c {N : Nat} (l : List C) : V.sfs N (l.map V.c) = true := by
 rw [sfs_iff]
 intro v hv
 obtain ⟨c, _, rfl⟩ := List.mem_map.1 hv
 rfl
theorem frzs_append {k : Nat} {row : List C} : ∀ (l m : List V), V.frzs k row (l ++ m) = V.frzs k row l ++ V.frzs k row m
 | [], m => rfl
 | v :: l, m => by simp only [List.cons_append, V.frzs, frzs_append l m]
theorem frzs_map {k : Nat} {row : List C} : ∀ (l : List V), V.frzs k row l = l.map (V.frz k row)
 | [] => rfl
 | v :: l => by simp only [V.frzs, List.map_cons, frzs_map l]
def rho (q i : Nat) : Nat := if i = 2 then q else i
theorem Wks_sf {q N M : Nat} {l : List V} (h : V.sfs N l = true) (hM : N ≤ M) : Wks (rho q) M l l :=
 Wks.same (sfs_ren (N := N) (fun k _ hk => by simp [rho, hk]) l h) (sfs_bnd hM l h).1
theorem Le.stk {t t' : List V} {g h : List O} (q : Nat) (hq : q = 2 ∨ h.length ≤ q) (ht : Wks (rho q) h.length t t') (h2 : ∃ o o', g[q]? = some o ∧ h[2]? = some o' ∧ Wo (rho q) h.length o o')
 (hh : ∀ i o', i ≠ 2 → h[i]? = some o' → ∃ o, g[i]? = some o ∧ Wo (rho q) h.length o o') : Le ⟨none, 0⟩ ⟨t, g⟩ ⟨t', h⟩ := by
 refine Le.ren (rho q) (fun i j hi hj e => ?_) ht (fun i o' ho => ?_)
 · unfold rho at e
   by_cases e1 : i = 2
   · by_cases e2 : j = 2
     · omega
     · rw [if_pos e1, if_neg e2] at e; omega
   · by_cases e2 : j = 2
     · rw [if_neg e1, if_pos e2] at e; omega
     · rw [if_neg e1, if_neg e2] at e; exact e
 · by_cases e : i = 2
   · subst e
     obtain ⟨o, o2, h3, h4, h5⟩ := h2
     rw [h4] at ho
     cases ho
     exact ⟨o, by simpa [rho] using h3, h5⟩
   · obtain ⟨o, h3, h4⟩ := hh i o' e ho
     exact ⟨o, by simpa [rho, e] using h3, h4⟩
def Sfo (h : List O) : Prop := ∀ (i : Nat) (o : O), i ≠ 2 → h[i]? = some o → ∃ ty cs fr, o = .box ty cs fr ∧ V.sfs h.length cs = true
theorem Wo_sf {q N M : Nat} {o : O} (h : ∃ ty cs fr, o = .box ty cs fr ∧ V.sfs N cs = true) (hM : N ≤ M) : Wo (rho q) M o o := by
 obtain ⟨ty, cs, fr, rfl, h⟩ := h
 exact ⟨rfl, rfl, Wks_sf h hM⟩
theorem Sfo.set {h : List O} (hs : Sfo h) {k : Nat} {ty : TypeId} {cs : List V} {fr : Bool} (hc : V.sfs h.length cs = true) : Sfo (h.set k (.box ty cs fr)) := by
 intro i o hi ho
 rw [List.getElem?_set] at ho
 rw [List.length_set]
 by_cases e : k = i
 · subst e
   rw [if_pos rfl] at ho
   split at ho
   · cases ho; exact ⟨ty, cs, fr, rfl, hc⟩
   · cases ho
 · rw [if_neg e] at ho
   exact hs i o hi ho
theorem Sfo.push {h : List O} (hs : Sfo h) {ty : TypeId} {cs : List V} {fr : Bool} (hc : V.sfs h.length cs = true) : Sfo (h ++ [.box ty cs fr]) := by
 intro i o hi ho
 rw [List.length_append, List.length_singleton]
 rcases Nat.lt_trichotomy i h.length with hl | hl | hl
 · rw [List.getElem?_append_left hl] at ho
   obtain ⟨ty, cs, fr, rfl, h1⟩ := hs i o hi ho
   exact ⟨ty, cs, fr, rfl, (sfs_bnd (Nat.le_succ _) cs h1).2⟩
 · subst hl
   rw [List.getElem?_append_right (Nat.le_refl _)] at ho
   simp at ho
   subst ho
   exact ⟨ty, cs, fr, rfl, (sfs_bnd (Nat.le_succ _) cs hc).2⟩
 · rw [List.getElem?_append_right (by omega), List.getElem?_eq_none (by simp; omega)] at ho
   cases ho
def codeOf : Option Code → Code
 | some (.seq _ (.seq _ (.seq (.loop c) _))) => c
 | some (.seq _ (.seq _ (.seq (.block _ (.loop c)) _))) => c
 | some (.seq _ (.seq _ (.seq c _))) => c
 | _ => .skip
def stk (st : List V) (j : Nat) : O := .box 72 (st ++ List.replicate j .any) false
def dT (n : Nat) : List V := [.any, .ptr 0 0, .ptr 1 0, .own 2 0 n 1] ++ List.replicate 67 .any
def dS (h : List O) (st : List V) (j : Nat) : St := ⟨dT st.length, h.set 2 (stk st j)⟩
end Go.Proofs.YthbcljjpmdfflaaGreat
namespace Go.Proofs.YthbcljjpmdfflaaGreat
open Go.RowKit
set_option linter.unusedSimpArgs false
set_option linter.unusedVariables false
set_option maxRecDepth 100000
noncomputable def deepBody : Code := codeOf (Tryz.f63).body
noncomputable def deepIn : Code := match deepBody with
 | .seq _ (.block _ (.seq _ (.seq _ (.seq _ (.seq _ (.seq _ (.seq _ (.seq _ (.seq _ (.block _ (.loop c))))))))))) => c
 | _ => .skip
theorem set_same {α : Type} {l : List α} {i : Nat} {v : α} (h : l[i]? = some v) : l.set i v = l := by
 apply List.ext_getElem?
 intro j
 rw [List.getElem?_set]
 by_cases e : i = j
 · subst e
   have hl := (List.getElem?_eq_some_iff.1 h).1
   simp only [if_true, hl]
   exact h.symm
 · simp [e]
theorem deep_leaf {K : Exit → St → Prop} (H : List O) (n k off : Nat) (ty : TypeId) (cs cs2 : List V) (src : List Int) (h2 : H[2]? = some (.box 72 cs2 false)) (hk : H[k]? = some (.box ty cs false)) (hk2 : k ≠ 2) (hp : cs2[n]? = some (.ptr k off)) (hn : n < 1000000) (hs : src.length ≤ 1000000) (hc8 : cs[off + 8]? = some (.c (.sl []))) (hc10 : cs[off + 10]? = some (.c (intsC src)))
 (hK : ∀ t, t.length = 71 → t.take 4 = [.any, .ptr 0 0, .ptr 1 0, .own 2 0 n 1] → LA ⟨none, 0⟩ Tryz.prog deepBody K ⟨t, H.set k (.box ty (cs.set (off + 8) (.full [])) false)⟩) :
 AW ⟨none, 0⟩ Tryz.prog deepBody (aThen (LA ⟨none, 0⟩ Tryz.prog deepBody K) K) ⟨dT (n + 1), H⟩ := by
 have hkl : k < H.length := (List.getElem?_eq_some_iff.1 hk).1
 have h2l : 2 < H.length := (List.getElem?_eq_some_iff.1 h2).1
 have hw : IntKind.i64.wrap (n : Int) = (n : Int) := wrap_i64 (by omega) (by omega)
 have ho8 : off + 8 < cs.length := (List.getElem?_eq_some_iff.1 hc8).1
 have ho10 : off + 10 < cs.length := (List.getElem?_eq_some_iff.1 hc10).1
 have hkg : H[k]'hkl = .box ty cs false := (List.getElem?_eq_some_iff.1 hk).2
 have ho10' : off + 10 + 1 ≤ cs.length := ho10
 have ho8' : off + 8 + 1 ≤ cs.length := ho8
 have hset : cs.set (off + 10) (.c (intsC src)) = cs := set_same hc10
 have hHset : H.set k (.box ty cs false) = H := set_same hk
 have hH1 : (H.set k (.box ty (cs.set (off + 8) (.full [])) false))[k]? = some (.box ty (cs.set (off + 8) (.full [])) false) := by rw [List.getElem?_set_self hkl]
 have hc8' : (cs.set (off + 8) (.full []))[off + 8]? = some (.full []) := by rw [List.getElem?_set_self ho8]
 conv => arg 3; unfold deepBody
 simp only [codeOf, Tryz.f63, dT, List.replicate_succ, List.replicate_zero, List.cons_append, List.nil_append]
 have hlt : (0 : Int) < (n : Int) + 1 := by omega
 have hnn : (n : Int) < (n : Int) + 1 := by omega
 refine go (cj @hw <| cj @h2 <| cj @hp <| cj @hn <| cj @hlt <| @hnn) ?_
 with_reducible refine AW.regionS ?_
 refine SW.take 4 ?_
 with_reducible refine aops_run (by simp [List.replicate_succ, hw]; first | exact rfl | exact ⟨rfl, rfl⟩) ?_
 refine aops_done ?_
 simp only [List.drop_succ_cons, List.drop_zero]
 refine SW.opX (fun v t => t = none ∧ v = .own 2 0 n 1) (by simp [gate]) ?_ ?_
 · intro S0 w0 x a w g ht hkk
   exact ⟨_, _, fun _ _ h => (by cases h), ⟨rfl, rfl⟩, ok_slice_own (P := Tryz.prog) (n := n) (len := n + 1) g rfl (by simp; exact ⟨rfl, rfl⟩) (eval_of ht rfl) (eval_of ht rfl) (by omega)⟩
 rintro v t ⟨rfl, rfl⟩
 refine SW.take 1 ?_
 with_reducible refine aops_run (by simp [List.replicate_succ]; first | exact rfl | exact ⟨rfl, rfl⟩) ?_
 refine aops_done ?_
 simp only [List.drop_succ_cons, List.drop_zero]
 refine SW.nil ?_
 refine go (cj @hk <| cj @hc8 <| @hc10) ?_
 refine gc (cj @hkg <| cj @hkl <| cj @ho10' <| cj @hset <| @hHset) (clone_a src hs) Tryz.func49 ?_
 refine go (cj @hkg <| cj @hkl <| @ho8') ?_
 with_reducible refine AW.regionS ?_
 refine SW.take 5 ?_
 with_reducible refine aops_run (by simp [List.replicate_succ, hH1, hc8']; first | exact rfl | exact ⟨rfl, rfl⟩) ?_
 refine aops_done ?_
 simp only [List.drop_succ_cons, List.drop_zero]
 refine SW.opX (fun v t => t = none ∧ v = .c (.int .i64 0)) (by simp [gate]) ?_ ?_
 · intro S0 w0 x a w g ht hkk
   exact ⟨_, _, fun _ _ h => (by cases h), ⟨rfl, rfl⟩, ok_copy_none (P := Tryz.prog) g rfl (by simp; exact ⟨rfl, rfl, rfl⟩) (by have := eval_of (v := .full []) ht (i := 49) rfl; simp only [CV] at this; obtain ⟨_, _, h⟩ := this; exact h) (eval_c ht rfl)⟩
 rintro v t ⟨rfl, rfl⟩
 refine SW.nil ?_
 refine go (cj @hH1 <| @hc8') ?_
 with_reducible refine LA.loop ?_
 with_reducible refine LA.round ?_
 refine go0 ?_
 exact hK _ rfl rfl
end Go.Proofs.YthbcljjpmdfflaaGreat
namespace Go.Proofs.YthbcljjpmdfflaaGreat
open Go.RowKit
set_option linter.unusedSimpArgs false
set_option linter.unusedVariables false
set_option maxRecDepth 100000
def TI (n m i k off : Nat) : List V := [.any, .ptr 0 0, .ptr 1 0, .own 2 0 (n + i) 1, .ptr k off] ++ List.replicate 51 .any ++ [.c (.int .i64 (m : Int)), .c (.int .i64 (i : Int))] ++ List.replicate 13 .any
def ptrs (L m : Nat) : List V := (List.range m).map fun i => .ptr L (i * 11)
theorem ptrs_succ (L m : Nat) : ptrs L (m + 1) = ptrs L m ++ [.ptr L (m * 11)] := by simp [ptrs, List.range_succ]
theorem ptrs_len (L m : Nat) : (ptrs L m).length = m := by simp [ptrs]
theorem ptrs_sf {L N : Nat} (m : Nat) (h : L < N) (h2 : L ≠ 2) : V.sfs N (ptrs L m) = true := by
 rw [sfs_iff]
 intro v hv
 simp only [ptrs, List.mem_map] at hv
 obtain ⟨i, _, rfl⟩ := hv
 simp [V.sf, h, h2]
theorem push_le {G h' : List O} {t : List V} {n m i k off L q : Nat} {st : List V} {c' : List V} (hG : Sfo G) (h2 : 2 < G.length) (hkG : k < G.length) (hk2 : k ≠ 2) (hLG : L < G.length) (hL2 : L ≠ 2) (hst : V.sfs G.length st = true) (hn : st.length = n)
 (hq : q = 2 ∨ G.length ≤ q) (hq' : h'[q]? = some (.box 72 (st ++ ptrs L (i + 1) ++ c') false)) (hh : ∀ a, a < G.length → a ≠ 2 → h'[a]? = G[a]?)
 (ht : Wks (rho q) G.length t (TI n m (i + 1) k off)) : Le ⟨none, 0⟩ ⟨t, h'⟩ ⟨TI n m (i + 1) k off, G.set 2 (stk (st ++ ptrs L (i + 1)) c'.length)⟩ := by
 have hl : (G.set 2 (stk (st ++ ptrs L (i + 1)) c'.length)).length = G.length := List.length_set ..
 refine Le.stk q (by rw [hl]; exact hq) (by rw [hl]; exact ht) ⟨_, _, hq', List.getElem?_set_self h2, ?_⟩ (fun a o' ha ho => ?_)
 · rw [hl]
   refine ⟨rfl, rfl, ?_⟩
   refine Wks.append ?_ (Wks.any c')
   exact Wks_sf (N := G.length) (sfs_append.2 ⟨hst, ptrs_sf _ hLG hL2⟩) (Nat.le_refl _)
 · rw [List.getElem?_set_ne (fun e => ha e.symm)] at ho
   have hal : a < G.length := (List.getElem?_eq_some_iff.1 ho).1
   exact ⟨o', by rw [hh a hal ha]; exact ho, by rw [hl]; exact Wo_sf (hG a o' ha ho) (Nat.le_refl _)⟩
theorem set_mid {α : Type} {l : List α} {n j : Nat} {x v : α} (h : l.length = n) : (l ++ List.replicate (j + 1) x).set n v = l ++ [v] ++ List.replicate j x := by
 subst h
 rw [List.set_append_right _ _ (Nat.le_refl _), Nat.sub_self, List.replicate_succ, List.set_cons_zero]
 simp
theorem deep_push {K : Exit → St → Prop} (H : List O) (n k off L m j : Nat) (ty : TypeId) (cs st : List V) (h2 : H[2]? = some (stk st j)) (hst : st.length = n) (hk : H[k]? = some (.box ty cs false)) (hk2 : k ≠ 2) (hc : cs[off + 8]? = some (.own L 0 m 11)) (hL : L < H.length) (hL2 : L ≠ 2) (hSf : Sfo H) (hsf : V.sfs H.length st = true) (hb : n + m < 1000000)
 (hK : ∀ j', K (.exit 2) ⟨(TI n m m k off).set 58 (.c (.bool false)), H.set 2 (stk (st ++ ptrs L m) j')⟩) : AW ⟨none, 0⟩ Tryz.prog (.loop deepIn) K ⟨TI n m 0 k off, H⟩ := by
 have hkl : k < H.length := (List.getElem?_eq_some_iff.1 hk).1
 have h2l : 2 < H.length := (List.getElem?_eq_some_iff.1 h2).1
 refine AW.loop (ι := { p : Nat × Nat // p.1 ≤ m }) (fun p => ⟨TI n m p.1.1 k off, H.set 2 (stk (st ++ ptrs L p.1.1) p.1.2)⟩) (fun p => m - p.1.1) ⟨(0, j), Nat.zero_le _⟩ ?_ ?_
 · have e : H.set 2 (stk (st ++ ptrs L 0) j) = H := by
    have : ptrs L 0 = [] := rfl
    rw [this, List.append_nil]
    exact set_same h2
   simp only [e]
   exact Le.refl _
 rintro ⟨⟨i, j⟩, hi⟩
 simp only at hi ⊢
 obtain ⟨G, hG⟩ : ∃ G, G = H.set 2 (stk (st ++ ptrs L i) j) := ⟨_, rfl⟩
 have g2 : G[2]? = some (stk (st ++ ptrs L i) j) := by rw [hG, List.getElem?_set_self h2l]
 have gk : G[k]? = some (.box ty cs false) := by rw [hG, List.getElem?_set_ne (fun e => hk2 e.symm)]; exact hk
 have gl : G.length = H.length := by rw [hG, List.length_set]
 rw [← hG]
 conv => arg 3; unfold deepIn
 simp only [deepBody, codeOf, Tryz.f63, TI, List.replicate_succ, List.replicate_zero, List.cons_append, List.nil_append]
 by_cases hlt : i < m
 · have hlt' : (i : Int) < (m : Int) := by omega
   have hw : IntKind.i64.wrap ((i : Int) + 1) = ((i + 1 : Nat) : Int) := by rw [wrap_i64 (by omega) (by omega)]; simp
   with_reducible refine AW.seq ?_
   refine go @hlt' ?_
   with_reducible refine AW.regionS ?_
   refine SW.take 7 ?_
   with_reducible refine aops_run (by simp [List.replicate_succ, gk, hc, hlt]; first | exact rfl | exact ⟨rfl, rfl⟩) ?_
   refine aops_done ?_
   simp only [List.drop_succ_cons, List.drop_zero]
   refine SW.opX (fun v t => v = .own G.length 0 1 1 ∧ t = some (G.length, .box 72 [.ptr L (i * 11)] false)) (by simp [gate]) ?_ ?_
   · intro S0 w0 x a w g ht hkk
     exact ⟨_, _, fun _ _ h => (by cases h; exact Nat.le_refl _), ⟨rfl, rfl⟩, ok_build_own (P := Tryz.prog) (by_ := 8) g rfl (by simp) (eval_of ht (i := 66) rfl) rfl _ hkk⟩
   rintro v t ⟨rfl, rfl⟩
   simp only [St.step, St.put, updH, Nat.lt_irrefl, if_false, List.set_cons_succ, List.set_cons_zero]
   have hGs : ∀ X, H.set 2 X = G.set 2 X := by intro X; rw [hG, List.set_set]
   have h2G : 2 < G.length := by omega
   have h1G : 1 < G.length := by omega
   have h0G : 0 < G.length := by omega
   have hkG : k < G.length := by omega
   have hLG : L < G.length := by omega
   have hSG : Sfo G := by rw [hG]; intro a o ha ho; rw [List.getElem?_set_ne (fun e => ha e.symm)] at ho; rw [List.length_set]; exact hSf a o ha ho
   have hsG : V.sfs G.length st = true := by rw [gl]; exact hsf
   obtain ⟨G', hG'⟩ : ∃ G', G' = G ++ [.box 72 [.ptr L (i * 11)] false] := ⟨_, rfl⟩
   have g2' : G'[2]? = some (.box 72 (st ++ ptrs L i ++ List.replicate j V.any) false) := by rw [hG', List.getElem?_append_left h2G]; exact g2
   have gq' : G'[G.length]? = some (.box 72 [.ptr L (i * 11)] false) := by rw [hG', List.getElem?_append_right (Nat.le_refl _)]; simp
   have gl' : G'.length = G.length + 1 := by rw [hG']; simp
   have ga' : ∀ a, a < G.length → G'[a]? = G[a]? := fun a ha => by rw [hG', List.getElem?_append_left ha]
   have hni : (st ++ ptrs L i).length = n + i := by rw [List.length_append, hst, ptrs_len]
   rw [← hG']
   refine SW.opX (fun (v : V) (t : Option (Nat × O)) => (n + i < (st ++ ptrs L i ++ List.replicate j V.any).length ∧ v = .own 2 0 (n + i + 1) 1 ∧ t = some (2, .box 72 ((st ++ ptrs L i ++ List.replicate j V.any).set (n + i) (.ptr L (i * 11))) false)) ∨ ∃ j', v = .own G'.length 0 (n + i + 1) 1 ∧ t = some (G'.length, .box 72 ((st ++ ptrs L i ++ List.replicate j V.any).take (n + i) ++ .ptr L (i * 11) :: List.replicate j' V.any) false)) (by simp [gate]) ?_ ?_
   · intro S0 w0 x a w g ht hkk
     exact ok_append_ownX (P := Tryz.prog) (by_ := 8) g _ rfl (by simp) (eval_of ht (i := 60) rfl) (eval_of ht (i := 67) rfl) g2' gq' rfl (by unfold maxLen; omega) (by omega) (by rw [List.length_append, hni]; omega) hkk (by show 2 ≤ G'.length; omega)
   rintro v t (⟨hlt2, rfl, rfl⟩ | ⟨j', rfl, rfl⟩)
   · have hu : updH G' (some (2, .box 72 ((st ++ ptrs L i ++ List.replicate j V.any).set (n + i) (.ptr L (i * 11))) false)) = G'.set 2 (.box 72 ((st ++ ptrs L i ++ List.replicate j V.any).set (n + i) (.ptr L (i * 11))) false) := by simp only [updH]; rw [if_pos (by omega)]
     obtain ⟨G2, hG2⟩ : ∃ G2, G2 = G'.set 2 (.box 72 ((st ++ ptrs L i ++ List.replicate j V.any).set (n + i) (.ptr L (i * 11))) false) := ⟨_, rfl⟩
     simp only [St.step, St.put, hu, ← hG2, List.set_cons_succ, List.set_cons_zero]
     have hj : ∃ jj, j = jj + 1 := by rw [List.length_append, hni, List.length_replicate] at hlt2; exact ⟨j - 1, by omega⟩
     obtain ⟨jj, rfl⟩ := hj
     refine SW.take 1 ?_
     with_reducible refine aops_run (by simp [List.replicate_succ]; first | exact rfl | exact ⟨rfl, rfl⟩) ?_
     refine aops_done ?_
     simp only [List.drop_succ_cons, List.drop_zero]
     refine SW.nil ?_
     refine go @hw ?_
     refine ⟨⟨(i + 1, (List.replicate jj (V.any)).length), by omega⟩, by simp only; omega, ?_⟩
     simp only [hGs]
     refine push_le (q := 2) hSG h2G hkG hk2 hLG hL2 hsG hst (.inl rfl) ?_ ?_ ?_
     · rw [hG2, List.getElem?_set_self (by omega), ptrs_succ, set_mid hni]
       simp
     · intro a ha ha2
       rw [hG2, List.getElem?_set_ne (fun e => ha2 e.symm)]
       exact ga' a ha
     · simp [Wks, Wk, V.ren, V.bnd, TI, rho, hkG, hk2, h2G, h0G, h1G]
       omega
   · have hu : updH G' (some (G'.length, .box 72 ((st ++ ptrs L i ++ List.replicate j V.any).take (n + i) ++ .ptr L (i * 11) :: List.replicate j' V.any) false)) = G' ++ [.box 72 ((st ++ ptrs L i ++ List.replicate j V.any).take (n + i) ++ .ptr L (i * 11) :: List.replicate j' V.any) false] := by simp only [updH]; rw [if_neg (by omega)]
     obtain ⟨G2, hG2⟩ : ∃ G2, G2 = G' ++ [.box 72 ((st ++ ptrs L i ++ List.replicate j V.any).take (n + i) ++ .ptr L (i * 11) :: List.replicate j' V.any) false] := ⟨_, rfl⟩
     obtain ⟨q, hq⟩ : ∃ q, q = G'.length := ⟨_, rfl⟩
     simp only [St.step, St.put, hu, ← hG2, List.set_cons_succ, List.set_cons_zero]
     rw [← hq]
     refine SW.take 1 ?_
     with_reducible refine aops_run (by simp [List.replicate_succ]; first | exact rfl | exact ⟨rfl, rfl⟩) ?_
     refine aops_done ?_
     simp only [List.drop_succ_cons, List.drop_zero]
     refine SW.nil ?_
     refine go @hw ?_
     refine ⟨⟨(i + 1, (List.replicate j' (V.any)).length), by omega⟩, by simp only; omega, ?_⟩
     simp only [hGs]
     refine push_le (q := q) hSG h2G hkG hk2 hLG hL2 hsG hst (.inr (by omega)) ?_ ?_ ?_
     · rw [hG2, hq, List.getElem?_append_right (Nat.le_refl _), ptrs_succ, List.take_left' hni]
       simp
     · intro a ha ha2
       rw [hG2, List.getElem?_append_left (by omega)]
       exact ga' a ha
     · simp [Wks, Wk, V.ren, V.bnd, TI, rho, hkG, hk2, h2G, h0G, h1G]
       omega
 · have hlt' : ¬ (i : Int) < (m : Int) := by omega
   have him : i = m := by omega
   subst him
   refine go @hlt' ?_
   rw [hG]
   exact hK j
end Go.Proofs.YthbcljjpmdfflaaGreat
namespace Go.Proofs.YthbcljjpmdfflaaGreat
open Go.RowKit
set_option linter.unusedSimpArgs false
set_option linter.unusedVariables false
set_option maxRecDepth 100000
theorem deep_node {K : Exit → St → Prop} (H : List O) (n k off : Nat) (ty : TypeId) (cs : List V) (src : List Int) (rows : List (List C)) (st : List V) (j : Nat) (hst : st.length = n) (h2 : H[2]? = some (stk (st ++ [.ptr k off]) j)) (hk : H[k]? = some (.box ty cs false)) (hk2 : k ≠ 2) (hn : n < 1000000) (hs : src.length ≤ 1000000) (hc8 : cs[off + 8]? = some (.c (.sl rows))) (hc10 : cs[off + 10]? = some (.c (intsC src)))
 (hr0 : 0 < rows.length) (hr1 : rows.length ≤ 1000000) (hrr : ∀ r ∈ rows, r.length = 11)
 (hSf : Sfo H) (hsf : V.sfs H.length st = true) (hb : n + rows.length < 1000000)
 (hK : ∀ j', LA ⟨none, 0⟩ Tryz.prog deepBody K ⟨(TI n rows.length rows.length k off).set 58 (.c (.bool false)), (H.set k (O.box ty (cs.set (off + 8) (.own H.length 0 rows.length 11)) false) ++ [O.box 33 (rows.flatten.map V.c) false]).set 2 (stk (st ++ ptrs H.length rows.length) j')⟩) :
 AW ⟨none, 0⟩ Tryz.prog deepBody (aThen (LA ⟨none, 0⟩ Tryz.prog deepBody K) K) ⟨dT (n + 1), H⟩ := by
 have hp : (st ++ [V.ptr k off] ++ List.replicate j .any)[n]? = some (.ptr k off) := by rw [List.append_assoc, List.getElem?_append_right (by omega), hst]; simp
 obtain ⟨cs2, hcs2⟩ : ∃ cs2, cs2 = st ++ [V.ptr k off] ++ List.replicate j .any := ⟨_, rfl⟩
 unfold stk at h2
 rw [← hcs2] at hp h2
 have hkl : k < H.length := (List.getElem?_eq_some_iff.1 hk).1
 have h2l : 2 < H.length := (List.getElem?_eq_some_iff.1 h2).1
 have hw : IntKind.i64.wrap (n : Int) = (n : Int) := wrap_i64 (by omega) (by omega)
 have ho8 : off + 8 < cs.length := (List.getElem?_eq_some_iff.1 hc8).1
 have ho10 : off + 10 < cs.length := (List.getElem?_eq_some_iff.1 hc10).1
 have hkg : H[k]'hkl = .box ty cs false := (List.getElem?_eq_some_iff.1 hk).2
 have ho10' : off + 10 + 1 ≤ cs.length := ho10
 have ho8' : off + 8 + 1 ≤ cs.length := ho8
 have hset : cs.set (off + 10) (.c (intsC src)) = cs := set_same hc10
 have hHset : H.set k (.box ty cs false) = H := set_same hk
 have hH1 : (H.set k (.box ty (cs.set (off + 8) (.full [])) false))[k]? = some (.box ty (cs.set (off + 8) (.full [])) false) := by rw [List.getElem?_set_self hkl]
 have hc8' : (cs.set (off + 8) (.full []))[off + 8]? = some (.full []) := by rw [List.getElem?_set_self ho8]
 conv => arg 3; unfold deepBody
 simp only [codeOf, Tryz.f63, dT, List.replicate_succ, List.replicate_zero, List.cons_append, List.nil_append]
 have hlt : (0 : Int) < (n : Int) + 1 := by omega
 have hnn : (n : Int) < (n : Int) + 1 := by omega
 refine go (cj @hw <| cj @h2 <| cj @hp <| cj @hn <| cj @hlt <| @hnn) ?_
 with_reducible refine AW.regionS ?_
 refine SW.take 4 ?_
 with_reducible refine aops_run (by simp [List.replicate_succ, hw]; first | exact rfl | exact ⟨rfl, rfl⟩) ?_
 refine aops_done ?_
 simp only [List.drop_succ_cons, List.drop_zero]
 refine SW.opX (fun v t => t = none ∧ v = .own 2 0 n 1) (by simp [gate]) ?_ ?_
 · intro S0 w0 x a w g ht hkk
   exact ⟨_, _, fun _ _ h => (by cases h), ⟨rfl, rfl⟩, ok_slice_own (P := Tryz.prog) (n := n) (len := n + 1) g rfl (by simp; exact ⟨rfl, rfl⟩) (eval_of ht rfl) (eval_of ht rfl) (by omega)⟩
 rintro v t ⟨rfl, rfl⟩
 refine SW.take 1 ?_
 with_reducible refine aops_run (by simp [List.replicate_succ]; first | exact rfl | exact ⟨rfl, rfl⟩) ?_
 refine aops_done ?_
 simp only [List.drop_succ_cons, List.drop_zero]
 refine SW.nil ?_
 refine go (cj @hk <| cj @hc8 <| @hc10) ?_
 refine gc (cj @hkg <| cj @hkl <| cj @ho10' <| cj @hset <| @hHset) (clone_a src hs) Tryz.func49 ?_
 have hr0' : (0 : Int) < (rows.length : Int) := by omega
 have hr1' : 128 * (rows.length : Int) ≤ 281474976710656 := by omega
 have hr2' : (rows.length : Int) ≤ 9223372036854775807 := by omega
 refine go (cj @hkg <| cj @hkl <| cj @ho8' <| cj @hr0 <| @hr0') ?_
 with_reducible refine AW.regionS ?_
 refine SW.take 4 ?_
 with_reducible refine aops_run (by simp [List.replicate_succ, hr1', hr2']; first | exact rfl | exact ⟨rfl, rfl⟩) ?_
 refine aops_done ?_
 simp only [List.drop_succ_cons, List.drop_zero]
 have hite : ∀ a b : List O, (if k < H.length + 1 then a else b) = a := fun a b => if_pos (by omega)
 have hget : ∀ (o : O) (X : O), (H.set k o ++ [X])[k]? = some o := fun o X => by rw [List.getElem?_append_left (by simpa using hkl), List.getElem?_set_self hkl]
 have hsetk : ∀ (o o' : O) (X : O), (H.set k o ++ [X]).set k o' = H.set k o' ++ [X] := fun o o' X => by rw [List.set_append_left _ _ (by simpa using hkl), List.set_set]
 have hss : ∀ a b : V, (cs.set (off + 8) a).set (off + 8) b = cs.set (off + 8) b := fun a b => List.set_set ..
 refine SW.take 3 ?_
 with_reducible refine aops_run (by simp [List.replicate_succ, hite, hget, hsetk, hss, ho8']; first | exact rfl | exact ⟨rfl, rfl⟩) ?_
 refine aops_done ?_
 simp only [List.drop_succ_cons, List.drop_zero]
 refine SW.nil ?_
 obtain ⟨Z, hZ⟩ : ∃ Z : List V, Z = (List.replicate rows.length [V.c (C.int IntKind.i64 0), V.c (C.str { data := #[] }), V.c (C.int IntKind.i64 0), V.c (C.int IntKind.i64 0), V.c (C.int IntKind.i64 0), V.c (C.int IntKind.i64 0), V.c (C.int IntKind.i64 0), V.c (C.int IntKind.i64 0), V.full [], V.c (C.int IntKind.i64 0), V.full []]).flatten := ⟨_, rfl⟩
 rw [← hZ]
 have hZl : Z.length = rows.length * 11 := by rw [hZ]; simp [List.length_flatten]
 have hc3 : (cs.set (off + 8) (.own H.length 0 rows.length 11))[off + 8]? = some (.own H.length 0 rows.length 11) := by rw [List.getElem?_set_self ho8]
 refine go0 ?_
 with_reducible refine AW.regionS ?_
 refine SW.take 5 ?_
 with_reducible refine aops_run (by simp [List.replicate_succ, hget, hc3]; first | exact rfl | exact ⟨rfl, rfl⟩) ?_
 refine aops_done ?_
 simp only [List.drop_succ_cons, List.drop_zero]
 obtain ⟨H3, hH3⟩ : ∃ H3, H3 = H.set k (O.box ty (cs.set (off + 8) (.own H.length 0 rows.length 11)) false) ++ [O.box 33 Z false] := ⟨_, rfl⟩
 rw [← hH3]
 have h3L : H3[H.length]? = some (.box 33 Z false) := by rw [hH3, List.getElem?_append_right (by simp)]; simp
 have h3l : H3.length = H.length + 1 := by rw [hH3]; simp
 refine SW.opX (fun v t => v = .c (.int .i64 rows.length) ∧ t = some (H.length, .box 33 (rows.flatten.map V.c) false)) (by simp [gate]) ?_ ?_
 · intro S0 w0 x a w g ht hkk
   exact ⟨_, _, fun _ _ h => (by cases h; show H.length ≤ H3.length; omega), ⟨rfl, rfl⟩, ok_copy_own (P := Tryz.prog) (by_ := 128) (es := 11) g rfl (by simp; exact rfl) (eval_of ht (i := 49) rfl) (eval_c ht (i := 50) rfl) hrr h3L hZl⟩
 rintro v t ⟨rfl, rfl⟩
 have hu : updH H3 (some (H.length, .box 33 (rows.flatten.map V.c) false)) = H.set k (O.box ty (cs.set (off + 8) (.own H.length 0 rows.length 11)) false) ++ [O.box 33 (rows.flatten.map V.c) false] := by
  simp only [updH]
  rw [if_pos (by omega), hH3, List.set_append_right _ _ (by simp)]
  simp
 simp only [St.step, St.put, hu, List.set_cons_succ, List.set_cons_zero]
 refine SW.nil ?_
 obtain ⟨D, hD⟩ : ∃ D, D = rows.flatten.map V.c := ⟨_, rfl⟩
 have hDs : V.sfs H.length D = true := by rw [hD]; exact sfs_c _
 rw [← hD] at hK ⊢
 refine go (cj @hget <| @hc3) ?_
 obtain ⟨H4, hH4⟩ : ∃ H4, H4 = H.set k (O.box ty (cs.set (off + 8) (.own H.length 0 rows.length 11)) false) ++ [O.box 33 D false] := ⟨_, rfl⟩
 rw [← hH4] at hK ⊢
 have e4 : H4 = (H ++ [O.box 33 D false]).set k (O.box ty (cs.set (off + 8) (.own H.length 0 rows.length 11)) false) := by rw [hH4, List.set_append_left _ _ hkl]
 have l4 : H4.length = H.length + 1 := by rw [hH4]; simp
 obtain ⟨_, _, _, hob, hcsf⟩ := hSf k _ hk2 hk
 cases hob
 have s4 : Sfo H4 := by
  rw [e4]
  refine Sfo.set (Sfo.push hSf hDs) (sfs_set ?_ ?_)
  · exact (sfs_bnd (by simp) cs hcsf).2
  · simp [V.sf]; omega
 have k4 : H4[k]? = some (.box ty (cs.set (off + 8) (.own H.length 0 rows.length 11)) false) := by rw [hH4]; exact hget _ _
 have g4 : H4[2]? = some (.box 72 cs2 false) := by rw [e4, List.getElem?_set_ne hk2, List.getElem?_append_left h2l]; exact h2
 have sf4 : V.sfs H4.length st = true := (sfs_bnd (by omega) st hsf).2
 refine AW.le (s' := ⟨TI n rows.length 0 k off, H4.set 2 (stk st (j + 1))⟩) ?_ ?_
 · refine Le.stk 2 (.inl rfl) ?_ ⟨_, _, g4, List.getElem?_set_self (by omega), ?_⟩ (fun a o' ha ho => ?_)
   · rw [List.length_set]
     simp [Wks, Wk, V.ren, V.bnd, TI, rho, hk2, l4]
     omega
   · rw [List.length_set, hcs2, List.append_assoc]
     exact ⟨rfl, rfl, Wks.append (Wks_sf sf4 (Nat.le_refl _)) (by have := Wks.any (ρ := rho 2) (N := H4.length) ([V.ptr k off] ++ List.replicate j .any); simpa [Nat.add_comm] using this)⟩
   · rw [List.getElem?_set_ne (fun e => ha e.symm)] at ho
     exact ⟨o', ho, by rw [List.length_set]; exact Wo_sf (s4 a o' ha ho) (Nat.le_refl _)⟩
 · refine deep_push (H4.set 2 (stk st (j + 1))) n k off H.length rows.length (j + 1) ty (cs.set (off + 8) (.own H.length 0 rows.length 11)) st (List.getElem?_set_self (by omega)) hst (by rw [List.getElem?_set_ne (fun e => hk2 e.symm)]; exact k4) hk2 hc3 (by rw [List.length_set]; omega) (by omega) ?_ (by rw [List.length_set]; exact sf4) hb (fun j' => ?_)
   · intro a o ha ho
     rw [List.getElem?_set_ne (fun e => ha e.symm)] at ho
     rw [List.length_set]
     exact s4 a o ha ho
   · rw [List.set_set]
     with_reducible refine aBlk_hit ?_
     refine go0 ?_
     exact hK j'
end Go.Proofs.YthbcljjpmdfflaaGreat
