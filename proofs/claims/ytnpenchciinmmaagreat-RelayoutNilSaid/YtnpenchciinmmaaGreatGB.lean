import Derived.Test.YtnpenchciinmmaaGreatG4
/-
  The abstract machine: functions that write through a pointer to one of the caller's boxes.
-/
namespace Go.Proofs.YtnpenchciinmmaaGreat
open Go.RowKit
set_option linter.unusedSimpArgs false
set_option linter.unusedVariables false

def Cx.one (S : Area) (b n : Nat) : Cx := { dom := fun k => k = 0, loc := fun _ => ⟨b, n, false, 0, false⟩, S := S }
/-- function f, called with such data and pointers (.ptr 0 off) into one box with these cells, returns such data; the box then has those cells -/
def AX (P : Program) (f : FuncId) (args : List V) (ty : TypeId) (cells cells' : List C) (res : V) : Prop :=
  ∀ (S : Area) (w : World) (us : List Value) (b : Nat) (vs : Array Value), (∀ b' j, S b' j → b' < w.heap.size) → (∀ j, j < vs.size → ¬ S b j) → w.heap[b]? = some (.cells vs ty (0, 0)) → RdL S w cells vs.toList → CVs (Cx.one S b vs.size) w args us →
    Calls P f us.toArray w fun r w' => ∃ u S' vs', r = .returned u ∧ KB (fun k => k = b) w w' ∧ Ar S S' w w' ∧ (∀ b' j, S' b' j → S b' j ∨ (w.heap.size ≤ b' ∧ b' < w'.heap.size) ∨ (b' = b ∧ vs.size ≤ j)) ∧ w'.heap[b]? = some (.cells vs' ty (0, 0)) ∧ vs'.size = vs.size ∧ RdL S' w' cells' vs'.toList ∧ CV (Cx.bare S') w' res u

mutual
def V.pub1 (k : Nat) : V → Option V
  | .ptr i off => if i = k then some (.ptr 0 off) else none
  | .c d => some (.c d)
  | .full r => some (.c (.sl r))
  | .gr _ _ r => some (.c (.sl r))
  | .cp row off => some (.cp row off)
  | .agg l => (V.pub1s k l).map V.agg
  | .tup l => (V.pub1s k l).map V.tup
  | .fn f caps => (V.pub1s k caps).map (V.fn f)
  | .yl l => some (.yl l)
  | .mp _ => none
  | .any => some .any
  | .own _ _ _ _ => none
  | .hot _ _ _ => none
  | .hp _ _ _ => none
def V.pub1s (k : Nat) : List V → Option (List V)
  | [] => some []
  | v :: l => match V.pub1 k v, V.pub1s k l with
    | some y, some r => some (y :: r)
    | _, _ => none
end
mutual
theorem pub1_ok {x : Cx} {w : World} {k n : Nat} : ∀ (v v' : V) (u : Value), V.pub1 k v = some v' → CV x w v u → CV (Cx.one x.S (x.loc k).b n) w v' u
  | .ptr i off, v', u, h, hv => by
    simp only [V.pub1] at h
    split at h
    · rename_i e
      cases h
      subst e
      simp only [CV, Cx.one] at hv ⊢
      exact ⟨trivial, trivial, hv.2.2⟩
    · cases h
  | .c c, v', u, h, hv => by simp only [V.pub1, Option.some.injEq] at h; subst h; simpa only [CV, Cx.one] using hv
  | .full r, v', u, h, hv => by simp only [V.pub1, Option.some.injEq] at h; subst h; simp only [CV] at hv ⊢; obtain ⟨_, _, hv⟩ := hv; exact hv
  | .gr k es r, v', u, h, hv => by simp only [V.pub1, Option.some.injEq] at h; subst h; simp only [CV] at hv ⊢; exact hv.2.2.1
  | .cp row off, v', u, h, hv => by simp only [V.pub1, Option.some.injEq] at h; subst h; simpa only [CV, Cx.one] using hv
  | .yl l, v', u, h, hv => by simp only [V.pub1, Option.some.injEq] at h; subst h; simpa only [CV] using hv
  | .mp _, _, _, h, _ => by simp [V.pub1] at h
  | .agg l, v', u, h, hv => by
    simp only [V.pub1, Option.map_eq_some_iff] at h
    obtain ⟨r, h, rfl⟩ := h
    simp only [CV] at hv ⊢
    obtain ⟨vs, e, hv⟩ := hv
    exact ⟨vs, e, pub1s_ok l r _ h hv⟩
  | .tup l, v', u, h, hv => by
    simp only [V.pub1, Option.map_eq_some_iff] at h
    obtain ⟨r, h, rfl⟩ := h
    simp only [CV] at hv ⊢
    obtain ⟨vs, e, hv⟩ := hv
    exact ⟨vs, e, pub1s_ok l r _ h hv⟩
  | .fn f caps, v', u, h, hv => by
    simp only [V.pub1, Option.map_eq_some_iff] at h
    obtain ⟨r, h, rfl⟩ := h
    simp only [CV] at hv ⊢
    obtain ⟨vs, e, hv⟩ := hv
    exact ⟨vs, e, pub1s_ok caps r _ h hv⟩
  | .any, v', u, h, _ => by simp only [V.pub1, Option.some.injEq] at h; subst h; simp only [CV]
  | .own _ _ _ _, _, _, h, _ => by simp [V.pub1] at h
  | .hot _ _ _, _, _, h, _ => by simp [V.pub1] at h
  | .hp _ _ _, _, _, h, _ => by simp [V.pub1] at h
theorem pub1s_ok {x : Cx} {w : World} {k n : Nat} : ∀ (l l' : List V) (us : List Value), V.pub1s k l = some l' → CVs x w l us → CVs (Cx.one x.S (x.loc k).b n) w l' us
  | [], l', us, h, hv => by simp only [V.pub1s, Option.some.injEq] at h; subst h; simpa only [CVs] using hv
  | v :: l, l', us, h, hv => by
    simp only [CVs] at hv
    obtain ⟨u, ur, rfl, h1, h2⟩ := hv
    unfold V.pub1s at h
    split at h
    · rename_i y r hy hr
      cases h
      simp only [CVs]
      exact ⟨u, ur, rfl, pub1_ok v y u hy h1, pub1s_ok l r ur hr h2⟩
    · cases h
end

section
variable {P : Program} {K : Exit → St → Prop} {ops : List Oper} {s : St}
/-- such a call, in a region -/
theorem SW.callx {o : Oper} {r : List Oper} {f : FuncId} {args args' : List V} {ty : TypeId} {cs : List V} {cells cells' : List C} {res : V} {fn : Func} (k : Nat) (hax : AX P f args' ty cells cells' res) (hf : P.funcs[f]? = some fn) (hb : fn.body.isSome = true) (hn : (fn.name == "runtime.NumGoroutine") = false) (hg : gate ops s.t o.guard = some true) (hc : callOf (ev s.t) o.op = some (f, args)) (hp : V.pub1s k args = some args') (hk : s.h[k]? = some (.box ty cs false)) (hcs : toCs cs = some cells)
    (h : SW P ops K r (s.step o.dst res (some (k, .box ty (cells'.map V.c) false)))) : SW P ops K (o :: r) s := fun S0 w0 x a w hA => by
  have hw : Region.wanted o (yielded ops.toArray a.tmps) = true := by
    have := awant_ok (o := o) hA.tm (awant_true (ops := ops) (K1 := True) (K2 := False) hg trivial)
    exact Classical.byContradiction fun h => this.2 h
  unfold wpList
  rw [if_pos hw]
  refine .inl ?_
  unfold callOf at hc
  split at hc
  case h_2 => cases hc
  rename_i fo ar tys ho
  split at hc
  case h_2 => cases hc
  rename_i f' caps hfe
  simp only [Option.some.injEq, Prod.mk.injEq] at hc
  obtain ⟨rfl, rfl⟩ := hc
  have hfo := unc_ok (ev_ok hA.tm fo)
  rw [hfe] at hfo
  simp only [CV] at hfo
  obtain ⟨vs0, hfo, hcaps⟩ := hfo
  have hargs : CVs x w (ar.toList.map (ev s.t) ++ caps) (ar.toList.map a.eval ++ vs0.toList) := (CVs.of_map fun y _ => ev_ok hA.tm y).append hcaps
  have g := hA.good
  obtain ⟨hd, b1, b2, vs, b3, b4, b5⟩ := g.ok k _ hk
  have hrd := toCs_ok hcs b5
  have hnS : ∀ j, j < vs.size → ¬ x.S (x.loc k).b j := fun j hj => g.excl k _ j hk ⟨rfl, by omega⟩
  have hcall := hax x.S w _ (x.loc k).b vs g.ex hnS b3 hrd (pub1s_ok _ _ _ hp hargs)
  have hb' : fn.body ≠ none := by intro e; rw [e] at hb; cases hb
  have hn' : fn.name ≠ "runtime.NumGoroutine" := by simpa using hn
  have hrun : (execOp a.eval o).run P w = .ok (.enter f' (ar.toList.map a.eval ++ vs0.toList).toArray) w := by
    have e1 : (ar.map a.eval ++ vs0) = (ar.toList.map a.eval ++ vs0.toList).toArray := by apply Array.toList_inj.1; simp
    simp [execOp, ho, resolve, hfo, Deferred.ofValue, invoke, callFunc, program, Sem.run, hf, hn', hb', e1]
  unfold Oper.wp
  rw [hrun]
  refine hcall.mono ?_
  rintro r' w' ⟨u, S', vs', rfl, hkb, har, hnew, h1, h2, h3, h4⟩
  have hlt := (g.ok k _ hk).2.lt b2
  have he : Ext x { x with S := S' } w w' := ⟨har, fun _ h => h, fun _ _ => LocLe.refl _⟩
  have g' := g.stepB (x' := { x with S := S' }) k (.box ty (cells'.map V.c) false) he (hkb.wide fun b e => ⟨hd, b2, e.symm⟩) (fun i => ⟨.inl, fun h => h.elim id fun e => e ▸ hd⟩) (fun _ _ => rfl) (fun _ => .inl ⟨hd, b2, rfl⟩)
    ⟨b1, b2, vs', h1, by rw [h2, b4], CVs.ofC h3⟩ (fun b j hs => (hnew b j hs).imp id fun h => h.elim (fun h => ⟨h.2, .inl h.1, fun e => by have : (x.loc k).b = b := e; omega⟩) (fun h => ⟨by rw [h.1]; exact Nat.lt_of_lt_of_le hlt hkb.size, .inr ⟨hd, b2, h.1.symm⟩, fun _ hx => by have h5 : j < (x.loc k).n := hx.2; have h6 := h.2; omega⟩)) (fun j hx => g.excl k _ j hk hx)
  have hnc : NC w w' := ⟨hkb.size, fun b ob hbo hnb => (hkb.block b (Array.getElem?_eq_some_iff.1 hbo).1 fun e => by subst e; rw [b3] at hbo; cases hbo; cases hnb).trans hbo⟩
  have e := updH_eq s.h (some (k, O.box ty (cells'.map V.c) false)) (fun k' o' e => by cases e; exact Nat.le_of_lt (List.getElem?_eq_some_iff.1 hk).1)
  have g'' : Good S0 w0 { x with S := S' } w' (fun i => (updH s.h (some (k, O.box ty (cells'.map V.c) false)))[i]?) := by rw [e]; exact g'
  exact h S0 w0 _ _ w' (Abs.put hA.tm (hA.df.mono hnc) he g'' (CV.mono (bare_ext S' x w') _ _ h4) o.dst)

def aRetX (P : Program) (l : List ResultVar) (res : V) (ty : TypeId) (cells' : List C) : Exit → St → Prop
  | .normal, s => ares P s l = some res ∧ ∃ cs, s.h[0]? = some (.box ty cs false) ∧ toCs cs = some cells'
  | .ret, s => ares P s l = some res ∧ ∃ cs, s.h[0]? = some (.box ty cs false) ∧ toCs cs = some cells'
  | _, _ => False
/-- SUCH A FUNCTION'S CONTRACT, out of its body -/
theorem AX.intro {f : FuncId} {fn : Func} {c : Code} {args : List V} {ty : TypeId} {cells cells' : List C} {res : V} (hf : P.funcs[f]? = some fn) (hb : fn.body = some c) (h : AW ⟨none, 1⟩ P c (aRetX P fn.results.toList res ty cells') ⟨args ++ List.replicate (fn.ntmps - args.length) .any, [.box ty (cells.map V.c) false]⟩) : AX P f args ty cells cells' res := by
  intro S w us b vs hS hnS hblk hrd hus
  have hblt : b < w.heap.size := (Array.getElem?_eq_some_iff.1 hblk).1
  refine callsIn_wide.1 (callsIn_of_wp_marks (F := Fence.wide) (n := 0) hf hb trivial ?_)
  let B : Bs := ⟨w, fun k => k < w.heap.size ∧ k ≠ b, fun _ h => h.1, Cx.one S b vs.size, 1, fun k hk => by have : k = 0 := hk; omega⟩
  have hA : Abs S B (Cx.one S b vs.size) ⟨args ++ List.replicate (fn.ntmps - args.length) .any, [.box ty (cells.map V.c) false]⟩ { tmps := us.toArray ++ Array.replicate (fn.ntmps - us.toArray.size) undef, defers := [] } w := by
    refine ⟨⟨fun k o h => ?_, fun k h => ?_, fun k k' o o' h h' hne => ?_, fun k o j h hx => ?_, hS, fun k o h _ hF => hF.2 rfl, fun b j h => .inl h, fun b j h => h, .of_keep (Keep.refl w), Ext.refl _ _⟩, ?_, Marks.nil _ _⟩
    · match k, h with
      | 0, h =>
        cases h
        exact ⟨rfl, rfl, rfl, vs, hblk, rfl, CVs.ofC hrd⟩
      | k + 1, h => simp at h
    · have : k = 0 := h
      subst this
      exact ⟨_, rfl⟩
    · match k, k', h, h' with
      | 0, 0, _, _ => exact absurd rfl hne
      | 0, k' + 1, _, h' => simp at h'
      | k + 1, _, h, _ => simp at h
    · match k, h with
      | 0, h => cases h; exact hnS j hx.2
      | k + 1, h => simp at h
    · simp only [Array.toList_append, Array.toList_replicate]
      have hl : us.toArray.size = args.length := by simpa using hus.len
      rw [hl]
      exact hus.append (rep_any _ _ _ _)
  refine wpIn_mono (h 0 S B _ _ w (Nat.le_refl _) hA) fun e a' w' ⟨x, s, hA', hK⟩ => ?_
  have fin : ∀ {R : Ending → World → Prop}, (∀ u w' S' vs', KB (fun k => k = b) w w' → Ar S S' w w' → (∀ b' j, S' b' j → S b' j ∨ (w.heap.size ≤ b' ∧ b' < w'.heap.size) ∨ (b' = b ∧ vs.size ≤ j)) → w'.heap[b]? = some (.cells vs' ty (0, 0)) → vs'.size = vs.size → RdL S' w' cells' vs'.toList → CV (Cx.bare S') w' res u → R (.returned u) w') →
      (ares P s fn.results.toList = some res ∧ ∃ cs, s.h[0]? = some (.box ty cs false) ∧ toCs cs = some cells') → LeavesInM Fence.wide 0 P fn a'.tmps R a'.defers .returning w' := by
    rintro R hR ⟨hr, cs, h0, hcs⟩
    obtain ⟨Ds, e, h1, h2⟩ := hA'.df
    rw [e]
    refine leaves_marks hr Ds w' h1 h2 hA'.good hA'.tm fun w2 u g hu => ?_
    have hl0 := g.ext.loc 0 rfl
    have hloc : x.loc 0 = ⟨b, vs.size, false, 0, false⟩ := by
      rcases hl0.2 with e | e
      · exact e.symm
      · cases e.1
    obtain ⟨_, _, _, vs', k3, k4, k5⟩ := g.ok 0 _ h0
    rw [hloc] at k3 k4
    refine hR u w2 x.S vs' ⟨g.keep.os, g.keep.tape, g.keep.output, g.keep.size, fun k hk hne => g.keep.block k hk fun hn => hn ⟨hk, hne⟩⟩ ⟨g.sub, fun b' j v hs hc => g.ext.ar.cell b' j v hs hc⟩ (fun b' j hs => ?_) k3 k4 (toCs_ok hcs k5) hu
    rcases g.new b' j hs with hq | hq
    · exact .inl hq
    · by_cases e : b' = b
      · subst e
        by_cases hj : j < vs.size
        · exact absurd (by rw [hloc]; exact hs) (g.excl 0 _ j h0 ⟨rfl, by rw [hloc]; exact hj⟩)
        · exact .inr (.inr ⟨rfl, by omega⟩)
      · exact .inr (.inl ⟨Nat.le_of_not_lt fun hlt => hq ⟨hlt, e⟩, g.ex b' j hs⟩)
  cases e with
  | normal => exact fin (fun u w' S' vs' h1 h2 h3 h4 h5 h6 h7 => ⟨u, S', vs', rfl, h1, h2, h3, h4, h5, h6, h7⟩) hK
  | ret => exact fin (fun u w' S' vs' h1 h2 h3 h4 h5 h6 h7 => ⟨u, S', vs', rfl, h1, h2, h3, h4, h5, h6, h7⟩) hK
  | _ => exact hK.elim
end
end Go.Proofs.YtnpenchciinmmaaGreat

/-
  The abstract machine: own arrays that hold pointers (built, cut, grown), copy of data into an own array, nil and empty slices; loops by their rounds; objects by other numbers.
-/
namespace Go.Proofs.YtnpenchciinmmaaGreat
open Go.RowKit
set_option linter.unusedSimpArgs false
set_option linter.unusedVariables false

section
variable {P : Program} {K : Exit → St → Prop} {ops : List Oper} {s : St}
/-- one operation, by hand, with one of several outcomes -/
theorem SW.opX {o : Oper} {r : List Oper} (G : V → Option (Nat × O) → Prop) (hg : gate ops s.t o.guard = some true)
    (hR : ∀ (S0 : Area) (w0 : Bs) (x : Cx) (a : Act) (w : World), Good S0 w0 x w (fun k => s.h[k]?) → CVs x w s.t a.tmps.toList → ¬ x.dom s.h.length → ∃ v t, (∀ k ob, t = some (k, ob) → k ≤ s.h.length) ∧ G v t ∧ RunOk P o a S0 w0 x w (fun k => s.h[k]?) v t)
    (h : ∀ v t, G v t → SW P ops K r (s.step o.dst v t)) : SW P ops K (o :: r) s := fun S0 w0 x a w hA => by
  have hw : Region.wanted o (yielded ops.toArray a.tmps) = true := by
    have := awant_ok (o := o) hA.tm (awant_true (ops := ops) (K1 := True) (K2 := False) hg trivial)
    exact Classical.byContradiction fun h => this.2 h
  unfold wpList
  rw [if_pos hw]
  refine .inl ?_
  obtain ⟨v, t, hle, hG, nx, w', x', u, hr, hnx, hcv, g', he, _⟩ := hR x.S (w0.re w hA.good.keep.size) x a w hA.good.rebase hA.tm hA.fresh
  rw [← updH_eq _ _ hle] at g'
  obtain ⟨g', hnc⟩ := hA.good.unbase he g'
  unfold Oper.wp
  rw [hr]
  rcases hnx with rfl | ⟨rfl, rfl⟩
  · exact h v t hG S0 w0 x' _ w' (Abs.put hA.tm (hA.df.mono hnc) he g' hcv o.dst)
  · exact h v t hG S0 w0 x' _ w' (Abs.put hA.tm (hA.df.mono hnc) he g' hcv o.dst)
end

section
variable {P : Program} {S0 : Area} {w0 : Bs} {x : Cx} {w : World} {H : Heap} {a : Act} {o : Oper} {v : V}

/-- the first part of an own array -/
theorem ok_slice_own (g : Good S0 w0 x w H) {t : TypeId} {y z : Operand} (ho : o.op = .slice t y none (some z) none) {ety : TypeId} {es by_ : Nat} (hT : tElem P t = some (ety, es, by_)) {k off len n : Nat} {kd : IntKind} (hy : CV x w (.own k off len es) (a.eval y)) (hz : CV x w (.c (.int kd (n : Int))) (a.eval z)) (hn : n ≤ len) :
    RunOk P o a S0 w0 x w H (.own k off n es) none := by
  obtain ⟨hu, ie, zv, hie, _, hsz, _, _⟩ := tElem_ok hT
  simp only [CV, RdC] at hy hz
  obtain ⟨h1, h2, cap, hy, h3, h4, h5⟩ := hy
  have h6 : (n : Int) ≤ (cap : Int) := by omega
  refine RunOk.pure g (u := .slice (some ⟨(x.loc k).b, off, none⟩) n cap) ?_ ?_
  · simp [execOp, ho, hy, hz.1, Instr.sliceAt, Instr.slice, run_underlying hu, Instr.sliceBounds, Instr.sliceBound, asIntOf, sizeOf, typeInfo, hie, h6, hsz, Addr.add]
    intro h; omega
  · simp only [CV]
    exact ⟨h1, h2, cap, rfl, by omega, h4, h5⟩

/-- a slice of one element -/
theorem ok_build_own (g : Good S0 w0 x w H) {t : TypeId} {y : Operand} (ho : o.op = .buildSlice t 1 #[(0, y)]) {ety : TypeId} {by_ : Nat} (hT : tElem P t = some (ety, 1, by_)) (hy : CV x w v (a.eval y)) (h1 : v.one = true) (k0 : Nat) (hk : ¬ x.dom k0) :
    RunOk P o a S0 w0 x w H (.own k0 0 1 1) (some (k0, .box ety [v] false)) := by
  obtain ⟨hu, ie, zv, hie, hz, hsz, _, _⟩ := tElem_ok hT
  have ho1 := hy.one h1
  have hr := run_buildSlice (P := P) w t ety 1 #[(0, a.eval y)] #[a.eval y] ie zv hu hie hz (by rw [hsz]; omega) (by rw [hsz]; omega) (by
    rw [hsz]
    simp only [Instr.fill, cells_one ho1]
    simp
    refine Array.ext (by simp) fun i h1 h2 => ?_
    simp at h2
    subst h2
    simp)
  obtain ⟨g', he⟩ := g.newBox k0 hk ety [v] #[a.eval y] (by simp only [CVs]; exact ⟨_, [], rfl, hy, rfl⟩)
  refine ⟨_, _, _, .slice (some ⟨w.heap.size, 0, none⟩) 1 1, by simp only [execOp, ho, Sem.run_bind, List.map_toArray, List.map_cons, List.map_nil, hr, Result.andThen_ok]; rfl, .inl rfl, ?_, g', he, fun k h => h.elim .inl fun e => .inr ⟨.box ety [v] false, by rw [e]⟩, fun _ => rfl⟩
  simp only [CV, Cx.mk1, if_true]
  exact ⟨.inr trivial, trivial, 1, rfl, Nat.le_refl _, by unfold maxLen; omega, by simp⟩

/-- an empty slice -/
theorem ok_build_none (g : Good S0 w0 x w H) {t : TypeId} (ho : o.op = .buildSlice t 0 #[]) {ety : TypeId} {es by_ : Nat} (hT : tElem P t = some (ety, es, by_)) : RunOk P o a S0 w0 x w H (.full []) none := by
  obtain ⟨hu, ie, zv, hie, hz, hsz, _, _⟩ := tElem_ok hT
  obtain ⟨A, w', hr, hk, hs⟩ : ∃ A w', (Instr.buildSlice t 0 #[]).run P w = .ok (.slice A 0 0) w' ∧ Keep w w' ∧ w'.heap.size ≥ w.heap.size := by
    refine ⟨some ⟨w.heap.size, 0, none⟩, w.alloc (.cells (Array.map (fun x => default) (Array.range 0)) ety), ?_, (Keep.refl w).alloc _, by simp⟩
    simp [Instr.buildSlice, run_underlying hu, sizeOf, typeInfo, zeroValue, hie, hz, Instr.fill, newRow]
  obtain ⟨g', he⟩ := g.stepA (x' := x) hk ⟨fun _ _ h => h, fun b j v _ hc => hk.cell hc⟩ rfl rfl (fun b j h => .inl h)
  refine ⟨_, _, x, .slice A 0 0, by simp only [execOp, ho, Sem.run_bind, List.map_toArray, List.map_nil, hr, Result.andThen_ok]; rfl, .inl rfl, ?_, g', he, fun k h => .inl h, fun _ => rfl⟩
  simp only [CV, RdC]
  exact ⟨A, rfl, A, 0, rfl, Nat.le_refl _, by omega, fun h => absurd rfl h⟩

/-- is a slice nil -/
theorem ok_nil (g : Good S0 w0 x w H) {t t' : TypeId} {y z : Operand} (ho : o.op = .binOp .eql t y z t') {ety : TypeId} {es by_ : Nat} (hT : tElem P t = some (ety, es, by_)) {rows : List (List C)} (hy : RdC x.S w (.sl rows) (a.eval y)) (hz : a.eval z = .slice none 0 0) :
    ∃ b : Bool, (b = true → rows = []) ∧ RunOk P o a S0 w0 x w H (.c (.bool b)) none := by
  obtain ⟨hu, ie, zv, hie, _, hsz, _, _⟩ := tElem_ok hT
  simp only [RdC] at hy
  obtain ⟨A, c, hy, h1, h2, h3⟩ := hy
  refine ⟨A.isNone, fun h => ?_, RunOk.pure g (u := .bool A.isNone) ?_ (by simp only [CV, RdC])⟩
  · cases A with
    | none =>
      by_cases e : rows = []
      · exact e
      · obtain ⟨_, _, _, h, _⟩ := h3 e; cases h
    | some _ => cases h
  · have hb : ∀ A n c, (binOp .eql t (.slice A n c) (.slice none 0 0)) = (do pure (.bool (← Op.equal t (.slice A n c) (.slice none 0 0)))) := fun _ _ _ => rfl
    have he : ∀ A n c, (Op.equal t (.slice A n c) (.slice none 0 0)).run P w = .ok A.isNone w := by
      intro A n c
      have e : Op.equal t (.slice A n c) (.slice none 0 0) = Op.equalIn (9999 + 1) t (.slice A n c) (.slice none 0 0) := rfl
      rw [e]
      unfold Op.equalIn
      cases A <;> simp [run_underlying hu]
    have hq : (eqGuard .eql t y z (.slice A rows.length c) (.slice none 0 0)).run P w = .ok () w := rfl
    simp only [execOp, ho, hy, hz, Sem.run_bind, hq, hb, he, Result.andThen_ok, Sem.run_pure]

theorem ok_nilX (g : Good S0 w0 x w H) (n : Nat) {t t' : TypeId} {y z : Operand} (ho : o.op = .binOp .eql t y z t') {ety : TypeId} {es by_ : Nat} (hT : tElem P t = some (ety, es, by_)) {rows : List (List C)} (hy : RdC x.S w (.sl rows) (a.eval y)) (hz : a.eval z = .slice none 0 0) :
    ∃ v t, (∀ k ob, t = some (k, ob) → k ≤ n) ∧ (t = none ∧ ∃ b : Bool, v = .c (.bool b) ∧ (b = true → rows = [])) ∧ RunOk P o a S0 w0 x w H v t := by
  obtain ⟨b, h1, h2⟩ := ok_nil g ho hT hy hz
  exact ⟨_, _, fun _ _ h => (by cases h), ⟨rfl, b, rfl, h1⟩, h2⟩
/-- copy of data into an own array of this length -/
theorem ok_copy_own (g : Good S0 w0 x w H) {t : TypeId} {y z : Operand} (ho : o.op = .call ⟨.builtin .copy, #[y, z], #[t, t]⟩) {ety : TypeId} {es by_ : Nat} (hT : tElem P t = some (ety, es, by_)) {k : Nat} {rows : List (List C)} (hy : CV x w (.own k 0 rows.length es) (a.eval y)) (hz : RdC x.S w (.sl rows) (a.eval z)) (hr : ∀ r ∈ rows, r.length = es)
    {ty : TypeId} {cs : List V} (hk : H k = some (.box ty cs false)) (hl : cs.length = rows.length * es) : RunOk P o a S0 w0 x w H (.c (.int .i64 rows.length)) (some (k, .box ty (rows.flatten.map V.c) false)) := by
  obtain ⟨hu, ie, zv, hie, _, hsz, _, _⟩ := tElem_ok hT
  obtain ⟨hd, hok⟩ := g.ok k _ hk
  obtain ⟨b1, b2, vs, hb, hn, hcs⟩ := hok
  simp only [CV] at hy
  obtain ⟨_, _, cap, hy, h3, h4, h5⟩ := hy
  obtain ⟨A, c, xs, e, k1, k2, k3, k4, k5, k6⟩ := sl_vals hz hr
  have hvl : vs.size = rows.length * es := by have := hcs.len; simp only [Array.length_toList] at this; omega
  have hones := k3.ones
  have hst := run_storeCells_at (P := P) (t := ty) (off := 0) xs 0 w vs hb (by simp; omega) hones
  have hfl := fold_list xs 0 0 vs (by simp; omega)
  obtain ⟨vs', hvs'⟩ : ∃ vs', ((xs.zipIdx 0).foldl (fun (c : Array Value) (p : Value × Nat) => c.setIfInBounds (0 + p.2) p.1) vs) = vs' := ⟨_, rfl⟩
  rw [hvs'] at hst hfl
  have hvx : vs'.toList = xs := by rw [hfl]; simp; omega
  have hrun : (Builtin.copy_ #[t, t] o.type #[.slice (some ⟨(x.loc k).b, 0, none⟩) rows.length cap, .slice A rows.length c]).run P w = .ok (goInt rows.length) (w.setRow (x.loc k).b vs') := by
    have hfc : (Builtin.firstCells es rows.length (.slice A rows.length c)).run P w = .ok xs.toArray w := by
      cases A with
      | none =>
        have : rows = [] := by
          by_cases e : rows = []
          · exact e
          · obtain ⟨_, _, h, _⟩ := k6 e; cases h
        subst this
        have : xs = [] := List.eq_nil_of_length_eq_zero (by simpa using k4)
        subst this
        simp [Builtin.firstCells]
      | some ad => exact run_firstCells_some (P := P) w es rows.length ad rows.length c xs k4 (k5 _ rfl)
    simp [Builtin.copy_, run_underlying hu, Builtin.lenOf, sizeOf, typeInfo, hie, hsz, hfc, hst]
  obtain ⟨g', he⟩ := g.writeBox k ty cs (rows.flatten.map V.c) hk vs vs' hb (by rw [← Array.length_toList, hvx, k4, hvl]) (by rw [hvx]; exact CVs.ofC k3)
  refine ⟨_, _, x, goInt rows.length, by simp [execOp, ho, resolve, invoke, builtin, hy, e, hrun], .inl rfl, ?_, g', he, fun _ h => .inl h, fun _ => rfl⟩
  simp only [CV, RdC, goInt]
  exact ⟨trivial, wf_len (by omega)⟩

/-- copy of nothing into nothing -/
theorem ok_copy_none (g : Good S0 w0 x w H) {t : TypeId} {y z : Operand} (ho : o.op = .call ⟨.builtin .copy, #[y, z], #[t, t]⟩) {ety : TypeId} {es by_ : Nat} (hT : tElem P t = some (ety, es, by_)) (hy : RdC x.S w (.sl []) (a.eval y)) (hz : RdC x.S w (.sl []) (a.eval z)) : RunOk P o a S0 w0 x w H (.c (.int .i64 0)) none := by
  obtain ⟨hu, ie, zv, hie, _, hsz, _, _⟩ := tElem_ok hT
  simp only [RdC, List.length_nil] at hy hz
  obtain ⟨A, c, hy, _⟩ := hy
  obtain ⟨B, d, hz, _⟩ := hz
  have hl : ∀ (y : Addr), (loadCells y 0).run P w = .ok #[] w := fun y => by simpa using run_loadCells_list (P := P) w y [] (by simp)
  have hrun : (Builtin.copy_ #[t, t] o.type #[.slice A 0 c, .slice B 0 d]).run P w = .ok (goInt 0) w := by
    cases A <;> cases B <;> simp [Builtin.copy_, run_underlying hu, Builtin.lenOf, Builtin.firstCells, sizeOf, typeInfo, hie, storeCells, hl]
  refine RunOk.pure g (u := goInt 0) (by simp [execOp, ho, resolve, invoke, builtin, hy, hz, hrun]) ?_
  simp only [CV, RdC, goInt]
  exact ⟨trivial, wf_len (n := 0) (by omega)⟩

/-- one element is appended to an own array -/
theorem ok_append_own (g : Good S0 w0 x w H) {t : TypeId} {y z : Operand} (ho : o.op = .call ⟨.builtin .append, #[y, z], #[t, t]⟩) {ety : TypeId} {by_ : Nat} (hT : tElem P t = some (ety, 1, by_)) {k k2 len : Nat} (hy : CV x w (.own k 0 len 1) (a.eval y)) (hz : CV x w (.own k2 0 1 1) (a.eval z)) {cs : List V} (hk : H k = some (.box ety cs false)) {ty2 : TypeId} {fr : Bool} (hk2 : H k2 = some (.box ty2 [v] fr)) (hv1 : v.one = true)
    (hm : len + 1 ≤ maxLen) (hb : (len + 1) * by_ ≤ 140737488355328) (hl : len ≤ cs.length) (k0 : Nat) (hk0 : ¬ x.dom k0) :
    (len < cs.length ∧ RunOk P o a S0 w0 x w H (.own k 0 (len + 1) 1) (some (k, .box ety (cs.set len v) false))) ∨ (∃ n, RunOk P o a S0 w0 x w H (.own k0 0 (len + 1) 1) (some (k0, .box ety (cs.take len ++ v :: List.replicate n .any) false))) := by
  obtain ⟨hu, ie, zv, hie, hz0, hsz, hby, hzs⟩ := tElem_ok hT
  obtain ⟨hd, b1, b2, vs, hb3, hn, hcs⟩ := g.ok k _ hk
  obtain ⟨hd2, c1, c2, us, hc3, hn2, hcs2⟩ := g.ok k2 _ hk2
  simp only [CV] at hy hz
  obtain ⟨_, _, cap, hy, h3, h4, h5⟩ := hy
  obtain ⟨_, _, cap2, hz, _, _, _⟩ := hz
  simp only [CVs] at hcs2
  obtain ⟨u, ur, hus, hu1, rfl⟩ := hcs2
  have hvl : vs.size = cs.length := by have := hcs.len; simpa using this
  have huo := hu1.one hv1
  have hcell2 : ∀ (j : Nat) (q : Value), ([u] : List Value)[j]? = some q → w.cell? (Addr.add ⟨(x.loc k2).b, 0, none⟩ j) = some q := by
    intro j q hq
    rw [add_mk, Nat.zero_add, cell_of_row w _ j us ty2 (0, 0) hc3]
    rw [← Array.getElem?_toList, hus]
    exact hq
  by_cases hroom : len + 1 ≤ cap
  · left
    have hlt : len < cs.length := by omega
    refine ⟨hlt, ?_⟩
    have hcl : w.cell? ⟨(x.loc k).b, len, none⟩ = some vs[len] := by rw [cell_of_row w _ len vs ety (0, 0) hb3]; simp [hvl, hlt]
    have hst : (storeCells ⟨(x.loc k).b, len, none⟩ [u] 0).run P w = .ok () (w.setRow (x.loc k).b (vs.setIfInBounds len u)) := by
      have := run_storeCells_at (P := P) (t := ety) (off := len) [u] 0 w vs hb3 (by simp; omega) (by simpa using huo)
      simpa using this
    have hfc := run_firstCells_some (P := P) w 1 1 ⟨(x.loc k2).b, 0, none⟩ 1 cap2 [u] (by simp) hcell2
    have hrun : (Builtin.append_ #[t, t] o.type #[.slice (some ⟨(x.loc k).b, 0, none⟩) len cap, .slice (some ⟨(x.loc k2).b, 0, none⟩) 1 cap2]).run P w = .ok (.slice (some ⟨(x.loc k).b, 0, none⟩) (len + 1) cap) (w.setRow (x.loc k).b (vs.setIfInBounds len u)) := by
      simp [Builtin.append_, run_underlying hu, sizeOf, typeInfo, hie, hsz, Builtin.lenOf, hroom, hfc, Addr.add_lit, hst]
    obtain ⟨g', he⟩ := g.writeBox k ety cs (cs.set len v) hk vs (vs.setIfInBounds len u) hb3 (by simp) (by simpa using hcs.set len hu1)
    refine ⟨.value (.slice (some ⟨(x.loc k).b, 0, none⟩) (len + 1) cap), w.setRow (x.loc k).b (vs.setIfInBounds len u), x, .slice (some ⟨(x.loc k).b, 0, none⟩) (len + 1) cap, by simp [execOp, ho, resolve, invoke, builtin, hy, hz, hrun], .inl rfl, ?_, g', he, fun _ h => .inl h, fun hbs => rfl⟩
    simp only [CV]
    exact ⟨hd, b1, cap, rfl, hroom, h4, h5⟩
  · right
    have hcl : cap = len := by omega
    subst hcl
    have hold : ∀ (j : Nat) (q : Value), (vs.toList.take cap)[j]? = some q → w.cell? (Addr.add ⟨(x.loc k).b, 0, none⟩ j) = some q := by
      intro j q hq
      rw [add_mk, Nat.zero_add, cell_of_row w _ j vs ety (0, 0) hb3, ← Array.getElem?_toList]
      rw [List.getElem?_take] at hq
      split at hq
      · exact hq
      · cases hq
    have hrun := run_append_grow (P := P) w t o.type ety ie zv hu hie hz0 ⟨(x.loc k).b, 0, none⟩ cap cap (vs.toList.take cap) (by rw [List.length_take, hsz]; simp; omega) hold ⟨(x.loc k2).b, 0, none⟩ 1 cap2 [u] (by rw [hsz]; rfl) hcell2 (by omega) (by unfold maxLen at hm; omega) (growslice_fits (by omega) (by rw [hby]; exact hb))
    have hge := grownCap_ge w (cap + 1) cap ety
    have hle := grownCap_le_maxLen w (cap + 1) cap ety hm
    refine ⟨grownCap w (cap + 1) cap ety - (cap + 1), ?_⟩
    obtain ⟨arr, harr⟩ : ∃ arr, (vs.toList.take cap).toArray ++ [u].toArray ++ Builtin.zeroCells zv.cells (grownCap w (cap + 1) cap ety - (cap + 1)) = arr := ⟨_, rfl⟩
    rw [harr] at hrun
    have hzl : (Builtin.zeroCells zv.cells (grownCap w (cap + 1) cap ety - (cap + 1))).toList.length = grownCap w (cap + 1) cap ety - (cap + 1) := by simp [size_zeroCells, hzs]
    have hal : arr.toList = vs.toList.take cap ++ u :: (Builtin.zeroCells zv.cells (grownCap w (cap + 1) cap ety - (cap + 1))).toList := by rw [← harr]; simp
    have hasz : arr.size = grownCap w (cap + 1) cap ety := by rw [← Array.length_toList, hal]; simp only [List.length_append, List.length_cons, List.length_take, Array.length_toList, hzl] ; rw [Array.length_toList] at hzl; omega
    have hkd : Keep w w.drew := (Keep.refl w).drew
    obtain ⟨gd, hed⟩ := g.stepA (x' := x) hkd ⟨fun _ _ h => h, fun b j v _ hc => hkd.cell hc⟩ rfl rfl (fun b j h => .inl h)
    have hcv : CVs x w.drew (cs.take cap ++ v :: List.replicate (grownCap w (cap + 1) cap ety - (cap + 1)) .any) arr.toList := by
      rw [hal]
      refine (CVs.mono hed _ _ (hcs.take cap)).append ?_
      simp only [CVs]
      refine ⟨u, _, rfl, CV.mono hed _ _ hu1, CVs.of_get (by rw [hzl]; simp) fun i v' u' h1 _ => ?_⟩
      rw [List.getElem?_replicate] at h1
      split at h1
      · cases h1; simp only [CV]
      · cases h1
    obtain ⟨g', he⟩ := gd.newBox k0 hk0 ety _ arr hcv
    refine ⟨.value (.slice (some ⟨w.heap.size, 0, none⟩) (cap + 1) (grownCap w (cap + 1) cap ety)), w.drew.alloc (.cells arr ety), _, .slice (some ⟨w.heap.size, 0, none⟩) (cap + 1) (grownCap w (cap + 1) cap ety), by simp [execOp, ho, resolve, invoke, builtin, hy, hz, hrun], .inl rfl, ?_, g', hed.trans he, fun k h => h.elim .inl fun e => .inr ⟨.box ety (cs.take cap ++ v :: List.replicate (grownCap w (cap + 1) cap ety - (cap + 1)) .any) false, by rw [e]⟩, fun hbs => by rw [ho] at hbs; cases hbs⟩
    simp only [CV, Cx.mk1, if_true]
    exact ⟨.inr trivial, trivial, _, rfl, hge, hle, by rw [hasz]; omega⟩
theorem ok_append_ownX (g : Good S0 w0 x w H) (n : Nat) {t : TypeId} {y z : Operand} (ho : o.op = .call ⟨.builtin .append, #[y, z], #[t, t]⟩) {ety : TypeId} {by_ : Nat} (hT : tElem P t = some (ety, 1, by_)) {k k2 len : Nat} (hy : CV x w (.own k 0 len 1) (a.eval y)) (hz : CV x w (.own k2 0 1 1) (a.eval z)) {cs : List V} (hk : H k = some (.box ety cs false)) {ty2 : TypeId} {fr : Bool} (hk2 : H k2 = some (.box ty2 [v] fr)) (hv1 : v.one = true)
    (hm : len + 1 ≤ maxLen) (hb : (len + 1) * by_ ≤ 140737488355328) (hl : len ≤ cs.length) (hn : ¬ x.dom n) (hkn : k ≤ n) :
    ∃ v' t', (∀ k ob, t' = some (k, ob) → k ≤ n) ∧ ((len < cs.length ∧ v' = .own k 0 (len + 1) 1 ∧ t' = some (k, .box ety (cs.set len v) false)) ∨ ∃ j, v' = .own n 0 (len + 1) 1 ∧ t' = some (n, .box ety (cs.take len ++ v :: List.replicate j .any) false)) ∧ RunOk P o a S0 w0 x w H v' t' := by
  rcases ok_append_own g ho hT hy hz hk hk2 hv1 hm hb hl n hn with ⟨h1, h2⟩ | ⟨j, h2⟩
  · exact ⟨_, _, fun _ _ h => (by cases h; exact hkn), .inl ⟨h1, rfl, rfl⟩, h2⟩
  · exact ⟨_, _, fun _ _ h => (by cases h; exact Nat.le_refl _), .inr ⟨j, rfl, rfl⟩, h2⟩
end

/-! loops by their rounds -/
section
variable {P : Program} {m : Mo}
def LoopAt (F : Fence) (n : Nat) (P : Program) (c : Code) (Q : Exit → Act → World → Prop) (a : Act) (w : World) : Prop :=
  ∀ (b : Frame) (k : List Item) (cs : List Frame), b.roundOf = F.round → F.fn b.fn → F.room (cs.length + 1 + n) →
    ∃ e a' w', Q e a' w' ∧ ArrivesIn (Machine.fenced P F) P (lone (b.atR a (.code c :: .inLoop c :: k)) cs w) b k cs e a' w'
theorem LoopAt.round {F : Fence} {n : Nat} {c : Code} {Q : Exit → Act → World → Prop} {a : Act} {w : World} (h : c.wpIn F n P (Exit.then (LoopAt F n P c Q) Q) a w) : LoopAt F n P c Q a w := by
  intro b k cs hro hb hr
  obtain ⟨e, a₁, w₁, hq, harr⟩ := h b (.inLoop c :: k) cs hro hb hr
  cases e with
  | normal =>
    obtain ⟨e₂, a₂, w₂, hq₂, harr₂⟩ := hq b k cs hro hb hr
    exact ⟨e₂, a₂, w₂, hq₂, .of_steps (StepsIn.trans harr (.one (fenced_calm hb hr rfl) stepR_inLoop)) harr₂⟩
  | exit id => exact ⟨_, a₁, w₁, hq, .pass (x := .inLoop c) rfl (fun _ _ => .inl (by simp)) harr⟩
  | goto l => exact ⟨_, a₁, w₁, hq, .pass (x := .inLoop c) rfl (fun _ _ => .inl (by simp)) harr⟩
  | ret => exact ⟨_, a₁, w₁, hq, .pass (x := .inLoop c) rfl (fun _ _ => .inl (by simp)) harr⟩
  | panic ch => exact ⟨_, a₁, w₁, hq, .pass (x := .inLoop c) rfl (fun _ _ => .inl (by simp)) harr⟩
  | outgrown => exact ⟨_, a₁, w₁, hq, .pass (x := .inLoop c) rfl (fun _ _ => .inl (by simp)) harr⟩
theorem LoopAt.loop {F : Fence} {n : Nat} {c : Code} {Q : Exit → Act → World → Prop} {a : Act} {w : World} (h : LoopAt F n P c Q a w) : (Code.loop c).wpIn F n P Q a w := by
  intro b k cs hro hb hr
  obtain ⟨e, a', w', hq, harr⟩ := h b k cs hro hb hr
  exact ⟨e, a', w', hq, .of_steps (.one (fenced_calm hb hr rfl) stepR_loop) harr⟩
/-- at the beginning of a round -/
def LA (m : Mo) (P : Program) (c : Code) (K : Exit → St → Prop) (s : St) : Prop :=
  ∀ (n : Nat) (S0 : Area) (w0 : Bs) (x : Cx) (a : Act) (w : World), w0.n0 ≤ m.n0 → Abs S0 w0 x s a w → LoopAt (fz m) n P c (fun e a w => ∃ x s, Abs S0 w0 x s a w ∧ K e s) a w
theorem LA.loop {c : Code} {K : Exit → St → Prop} {s : St} (h : LA m P c K s) : AW m P (.loop c) K s := fun n S0 w0 x a w hm hA => (h n S0 w0 x a w hm hA).loop
theorem LA.round {c : Code} {K : Exit → St → Prop} {s : St} (h : AW m P c (aThen (LA m P c K) K) s) : LA m P c K s := fun n S0 w0 x a w hm hA => LoopAt.round (wpIn_mono (h n S0 w0 x a w hm hA) fun e a w ⟨x, s, h1, h2⟩ => by
  cases e with
  | normal => exact h2 n S0 w0 x a w hm h1
  | _ => exact ⟨x, s, h1, h2⟩)
theorem LA.le {c : Code} {K : Exit → St → Prop} {s s' : St} (hl : Le m s s') (h : LA m P c K s') : LA m P c K s := fun n S0 w0 x a w hm hA => let ⟨x', h'⟩ := hl S0 w0 x a w hm hA; h n S0 w0 x' a w hm h'
end

/-! objects by other numbers -/
mutual
def V.ren (ρ : Nat → Nat) : V → V
  | .ptr k off => .ptr (ρ k) off
  | .own k off len es => .own (ρ k) off len es
  | .gr k es rows => .gr (ρ k) es rows
  | .hot k es rows => .hot (ρ k) es rows
  | .hp k n pos => .hp (ρ k) n pos
  | .agg l => .agg (V.rens ρ l)
  | .tup l => .tup (V.rens ρ l)
  | .fn f l => .fn f (V.rens ρ l)
  | .any => .any
  | .c d => .c d
  | .cp r off => .cp r off
  | .full r => .full r
  | .yl l => .yl l
  | .mp k => .mp (ρ k)
def V.rens (ρ : Nat → Nat) : List V → List V
  | [] => []
  | v :: l => V.ren ρ v :: V.rens ρ l
end
def Cx.pull (x : Cx) (ρ : Nat → Nat) (N : Nat) : Cx := { dom := fun k => k < N ∧ x.dom (ρ k), loc := fun k => x.loc (ρ k), S := x.S }
mutual
theorem CV.pull {x : Cx} {w : World} {ρ : Nat → Nat} {N : Nat} : ∀ (v : V) (u : Value), v.bnd N = true → CV x w (V.ren ρ v) u → CV (x.pull ρ N) w v u
  | .ptr k off, u, hb, h => by simp only [V.bnd, decide_eq_true_eq] at hb; simp only [V.ren, CV, Cx.pull] at h ⊢; exact ⟨⟨hb, h.1⟩, h.2⟩
  | .own k off len es, u, hb, h => by simp only [V.bnd, decide_eq_true_eq] at hb; simp only [V.ren, CV, Cx.pull] at h ⊢; exact ⟨⟨hb, h.1⟩, h.2⟩
  | .gr k es rows, u, hb, h => by simp only [V.bnd, decide_eq_true_eq] at hb; simp only [V.ren, CV, Cx.pull] at h ⊢; exact ⟨⟨hb, h.1⟩, h.2⟩
  | .hot k es rows, u, hb, h => by simp only [V.bnd, decide_eq_true_eq] at hb; simp only [V.ren, CV, Cx.pull] at h ⊢; exact ⟨⟨hb, h.1⟩, h.2⟩
  | .hp k m pos, u, hb, h => by simp only [V.bnd, decide_eq_true_eq] at hb; simp only [V.ren, CV, Cx.pull] at h ⊢; exact ⟨⟨hb, h.1⟩, h.2⟩
  | .agg l, u, hb, h => by simp only [V.bnd] at hb; simp only [V.ren, CV] at h ⊢; obtain ⟨vs, e, h⟩ := h; exact ⟨vs, e, CVs.pull l _ hb h⟩
  | .tup l, u, hb, h => by simp only [V.bnd] at hb; simp only [V.ren, CV] at h ⊢; obtain ⟨vs, e, h⟩ := h; exact ⟨vs, e, CVs.pull l _ hb h⟩
  | .fn f l, u, hb, h => by simp only [V.bnd] at hb; simp only [V.ren, CV] at h ⊢; obtain ⟨vs, e, h⟩ := h; exact ⟨vs, e, CVs.pull l _ hb h⟩
  | .any, u, _, h => by simp only [CV]
  | .c _, u, _, h => by simpa only [V.ren, CV, Cx.pull] using h
  | .cp _ _, u, _, h => by simpa only [V.ren, CV, Cx.pull] using h
  | .full _, u, _, h => by simpa only [V.ren, CV, Cx.pull] using h
  | .yl l, u, _, h => by simpa only [V.ren, CV] using h
  | .mp k, u, hb, h => by simp only [V.bnd, decide_eq_true_eq] at hb; simp only [V.ren, CV, Cx.pull] at h ⊢; exact ⟨⟨hb, h.1⟩, h.2⟩
theorem CVs.pull {x : Cx} {w : World} {ρ : Nat → Nat} {N : Nat} : ∀ (l : List V) (us : List Value), V.bnds N l = true → CVs x w (V.rens ρ l) us → CVs (x.pull ρ N) w l us
  | [], us, _, h => by simpa only [V.rens, CVs] using h
  | v :: l, us, hb, h => by
    simp only [V.bnds, Bool.and_eq_true] at hb
    simp only [V.rens, CVs] at h ⊢
    obtain ⟨u, ur, e, h1, h2⟩ := h
    exact ⟨u, ur, e, CV.pull v u hb.1 h1, CVs.pull l ur hb.2 h2⟩
end
/-- the value v reads as v', when object k is known as the old object ρ k -/
def Wk (ρ : Nat → Nat) (N : Nat) (v v' : V) : Prop := v' = .any ∨ (v = v'.ren ρ ∧ v'.bnd N = true) ∨ ∃ rows, v = .full rows ∧ v' = .c (.sl rows)
def Wks (ρ : Nat → Nat) (N : Nat) : List V → List V → Prop
  | [], l' => l' = []
  | v :: l, v' :: l' => Wk ρ N v v' ∧ Wks ρ N l l'
  | _ :: _, [] => False
theorem Wk.ok {x : Cx} {w : World} {ρ : Nat → Nat} {N : Nat} {v v' : V} {u : Value} (h : Wk ρ N v v') (hv : CV x w v u) : CV (x.pull ρ N) w v' u := by
  rcases h with rfl | ⟨rfl, h⟩ | ⟨rows, rfl, rfl⟩
  · simp only [CV]
  · exact CV.pull v' u h hv
  · simp only [CV] at hv ⊢
    obtain ⟨_, _, hv⟩ := hv
    exact hv
theorem Wks.ok {x : Cx} {w : World} {ρ : Nat → Nat} {N : Nat} : ∀ {l l' : List V} {us : List Value}, Wks ρ N l l' → CVs x w l us → CVs (x.pull ρ N) w l' us
  | [], l', us, h, hv => by simp only [Wks] at h; subst h; simpa only [CVs] using hv
  | v :: l, [], us, h, _ => by simp [Wks] at h
  | v :: l, v' :: l', us, h, hv => by
    simp only [Wks] at h
    simp only [CVs] at hv ⊢
    obtain ⟨u, ur, e, h1, h2⟩ := hv
    exact ⟨u, ur, e, h.1.ok h1, Wks.ok h.2 h2⟩
theorem Wks.append {ρ : Nat → Nat} {N : Nat} : ∀ {l l' k k' : List V}, Wks ρ N l l' → Wks ρ N k k' → Wks ρ N (l ++ k) (l' ++ k')
  | [], l', k, k', h, h2 => by simp only [Wks] at h; subst h; exact h2
  | v :: l, [], k, k', h, _ => by simp [Wks] at h
  | v :: l, v' :: l', k, k', h, h2 => by simp only [Wks] at h; exact ⟨h.1, Wks.append h.2 h2⟩
theorem Wks.any {ρ : Nat → Nat} {N : Nat} : ∀ (l : List V), Wks ρ N l (List.replicate l.length .any)
  | [] => rfl
  | v :: l => ⟨.inl rfl, Wks.any l⟩
theorem Wks.same {ρ : Nat → Nat} {N : Nat} : ∀ {l : List V}, V.rens ρ l = l → V.bnds N l = true → Wks ρ N l l
  | [], _, _ => rfl
  | v :: l, h, hb => by
    simp only [V.rens, List.cons.injEq] at h
    simp only [V.bnds, Bool.and_eq_true] at hb
    exact ⟨.inr (.inl ⟨h.1.symm, hb.1⟩), Wks.same h.2 hb.2⟩
def Wo (ρ : Nat → Nat) (N : Nat) : O → O → Prop
  | .box ty cs fr, .box ty' cs' fr' => ty = ty' ∧ fr = fr' ∧ Wks ρ N cs cs'
  | .tok ty es cur, .tok ty' es' cur' => ty = ty' ∧ es = es' ∧ cur = cur'
  | _, _ => False
/-- the objects of h', under the numbers ρ in h -/
theorem Le.ren {rd : Option Nat} {t t' : List V} {h h' : List O} (ρ : Nat → Nat) (hinj : ∀ i j, i < h'.length → j < h'.length → ρ i = ρ j → i = j) (ht : Wks ρ h'.length t t') (hh : ∀ k o', h'[k]? = some o' → ∃ o, h[ρ k]? = some o ∧ Wo ρ h'.length o o') : Le ⟨rd, 0⟩ ⟨t, h⟩ ⟨t', h'⟩ := fun S0 w0 x a w hm hA => by
  have g := hA.good
  have hd0 : ∀ k, ¬ w0.x0.dom k := fun k hk => by have := w0.dl k hk; have : w0.n0 ≤ 0 := hm; omega
  have hlt : ∀ {k o'}, h'[k]? = some o' → k < h'.length := fun hk => (List.getElem?_eq_some_iff.1 hk).1
  have hov : ∀ {k o o'}, Wo ρ h'.length o o' → OOk x w (ρ k) o → OOk (x.pull ρ h'.length) w k o' := by
    intro k o o' hw hok
    cases o with
    | box ty cs fr =>
      cases o' with
      | box ty' cs' fr' =>
        obtain ⟨rfl, rfl, hc⟩ := hw
        obtain ⟨a1, a2, vs, a3, a4, a5⟩ := hok
        exact ⟨a1, a2, vs, a3, a4, hc.ok a5⟩
      | tok _ _ _ => exact hw.elim
      | hot _ _ _ _ => exact hw.elim
      | mp _ => exact hw.elim
    | tok ty es cur =>
      cases o' with
      | tok ty' es' cur' => obtain ⟨rfl, rfl, rfl⟩ := hw; exact hok
      | box _ _ _ => exact hw.elim
      | hot _ _ _ _ => exact hw.elim
      | mp _ => exact hw.elim
    | hot _ _ _ _ => exact hw.elim
    | mp _ => exact hw.elim
  have hex : ∀ {k o o' j}, Wo ρ h'.length o o' → Ex (x.pull ρ h'.length) k o' j → Ex x (ρ k) o j := by
    intro k o o' j hw hx
    cases o with
    | box ty cs fr =>
      cases o' with
      | box ty' cs' fr' => obtain ⟨rfl, rfl, hc⟩ := hw; exact hx
      | tok _ _ _ => exact hw.elim
      | hot _ _ _ _ => exact hw.elim
      | mp _ => exact hw.elim
    | tok ty es cur =>
      cases o' with
      | tok ty' es' cur' => obtain ⟨rfl, rfl, rfl⟩ := hw; exact hx
      | box _ _ _ => exact hw.elim
      | hot _ _ _ _ => exact hw.elim
      | mp _ => exact hw.elim
    | hot _ _ _ _ => exact hw.elim
    | mp _ => exact hw.elim
  refine ⟨x.pull ρ h'.length, ⟨fun k o' hk => ?_, fun k hk => ?_, fun k k' o o' h1 h2 hne hv hv' => ?_, fun k o' j hk hx => ?_, g.ex, fun k o' hk hv => ?_, g.new, g.sub, g.keep, g.ext.ar, fun k hk => (hd0 k hk).elim, fun k hk => (hd0 k hk).elim⟩, ht.ok hA.tm, hA.df⟩
  · obtain ⟨o, ho, hw⟩ := hh k o' hk
    obtain ⟨h1, h2⟩ := g.ok _ o ho
    exact ⟨⟨hlt hk, h1⟩, hov hw h2⟩
  · exact ⟨_, List.getElem?_eq_getElem hk.1⟩
  · obtain ⟨p, hp, _⟩ := hh k o h1
    obtain ⟨p', hp', _⟩ := hh k' o' h2
    exact g.inj _ _ p p' hp hp' (fun e => hne (hinj _ _ (hlt h1) (hlt h2) e)) hv hv'
  · obtain ⟨o, ho, hw⟩ := hh k o' hk
    exact g.excl _ o j ho (hex hw hx)
  · obtain ⟨o, ho, _⟩ := hh k o' hk
    exact g.own _ o ho hv
end Go.Proofs.YtnpenchciinmmaaGreat

/-
  The machine: two branches that go on from one state.
-/
namespace Go.Proofs.YtnpenchciinmmaaGreat
open Go.RowKit
set_option maxRecDepth 100000
set_option linter.unusedVariables false
theorem jn {m : Mo} {P : Program} {c d : Code} {K : Exit → St → Prop} {t : List V} {h : List O} {ι : Type} (f : ι → List (Nat × V)) {ws : List Nat} {t0 : List V}
    (hc : AW m P c (aThen (fun s' => ∃ i : ι, Le m s' ⟨puts (f i) t0, h⟩) K) ⟨t, h⟩)
    (hr : ∀ i : ι, AW m P d K ⟨puts (f i) t0, h⟩)
    (hw : wr c = ws := by simp only [wr, wrOps, List.cons_append, List.nil_append, List.append_nil, List.append_assoc]; exact rfl)
    (ht : havoc ws t = t0 := by simp only [havoc, List.foldl_cons, List.foldl_nil, List.set_cons_zero, List.set_cons_succ]; exact rfl) : AW m P c (aThen (AW m P d K) K) ⟨t, h⟩ :=
  hc.mono fun e s h => by
    cases e with
    | normal => obtain ⟨i, hi⟩ := h; exact AW.le hi (hr i)
    | _ => exact h
end Go.Proofs.YtnpenchciinmmaaGreat
