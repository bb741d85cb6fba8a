/-
  The abstract machine: functions that write through a pointer to one of the caller's boxes; the box may hold functions, and pointers to itself.
-/
import Derived.Test.YtnpenchciinmmaaGreatGB
namespace Go.Proofs.YtnpenchciinmmaaGreat
open Go.RowKit
set_option linter.unusedSimpArgs false
set_option linter.unusedVariables false


mutual
def V.tame : V → Bool
  | .ptr _ _ => true
  | .c _ => true
  | .cp _ _ => true
  | .agg l => V.tames l
  | .tup l => V.tames l
  | .fn _ l => V.tames l
  | .yl _ => true
  | .any => true
  | _ => false
def V.tames : List V → Bool
  | [] => true
  | v :: l => v.tame && V.tames l
end
mutual
theorem pub1_back {x : Cx} {w : World} {k b n : Nat} (hd : x.dom k) (ht : (x.loc k).tok = false) (hb : (x.loc k).b = b) : ∀ (v v' : V) (u : Value), V.tame v = true → V.pub1 k v = some v' → CV (Cx.one x.S b n) w v' u → CV x w v u
  | .ptr i off, v', u, _, h, hv => by
    simp only [V.pub1] at h
    split at h
    · rename_i e
      cases h
      subst e
      simp only [CV, Cx.one] at hv ⊢
      exact ⟨hd, ht, by rw [hb]; exact hv.2.2⟩
    · cases h
  | .c c, v', u, _, h, hv => by simp only [V.pub1, Option.some.injEq] at h; subst h; simpa only [CV, Cx.one] using hv
  | .cp row off, v', u, _, h, hv => by simp only [V.pub1, Option.some.injEq] at h; subst h; simpa only [CV, Cx.one] using hv
  | .yl l, v', u, _, h, hv => by simp only [V.pub1, Option.some.injEq] at h; subst h; simpa only [CV] using hv
  | .agg l, v', u, hq, h, hv => by
    simp only [V.pub1, Option.map_eq_some_iff] at h
    obtain ⟨r, h, rfl⟩ := h
    simp only [V.tame] at hq
    simp only [CV] at hv ⊢
    obtain ⟨vs, e, hv⟩ := hv
    exact ⟨vs, e, pub1s_back hd ht hb l r _ hq h hv⟩
  | .tup l, v', u, hq, h, hv => by
    simp only [V.pub1, Option.map_eq_some_iff] at h
    obtain ⟨r, h, rfl⟩ := h
    simp only [V.tame] at hq
    simp only [CV] at hv ⊢
    obtain ⟨vs, e, hv⟩ := hv
    exact ⟨vs, e, pub1s_back hd ht hb l r _ hq h hv⟩
  | .fn f caps, v', u, hq, h, hv => by
    simp only [V.pub1, Option.map_eq_some_iff] at h
    obtain ⟨r, h, rfl⟩ := h
    simp only [V.tame] at hq
    simp only [CV] at hv ⊢
    obtain ⟨vs, e, hv⟩ := hv
    exact ⟨vs, e, pub1s_back hd ht hb caps r _ hq h hv⟩
  | .any, v', u, _, h, hv => by simp only [CV]
  | .full _, _, _, hq, _, _ => by simp [V.tame] at hq
  | .gr _ _ _, _, _, hq, _, _ => by simp [V.tame] at hq
  | .own _ _ _ _, _, _, hq, _, _ => by simp [V.tame] at hq
  | .mp _, _, _, hq, _, _ => by simp [V.tame] at hq
  | .hot _ _ _, _, _, hq, _, _ => by simp [V.tame] at hq
  | .hp _ _ _, _, _, hq, _, _ => by simp [V.tame] at hq
theorem pub1s_back {x : Cx} {w : World} {k b n : Nat} (hd : x.dom k) (ht : (x.loc k).tok = false) (hb : (x.loc k).b = b) : ∀ (l l' : List V) (us : List Value), V.tames l = true → V.pub1s k l = some l' → CVs (Cx.one x.S b n) w l' us → CVs x w l us
  | [], l', us, _, h, hv => by simp only [V.pub1s, Option.some.injEq] at h; subst h; simpa only [CVs] using hv
  | v :: l, l', us, hq, h, hv => by
    simp only [V.tames, Bool.and_eq_true] at hq
    unfold V.pub1s at h
    split at h
    · rename_i y r hy hr
      cases h
      simp only [CVs] at hv ⊢
      obtain ⟨u, ur, rfl, h1, h2⟩ := hv
      exact ⟨u, ur, rfl, pub1_back hd ht hb v y u hq.1 hy h1, pub1s_back hd ht hb l r ur hq.2 hr h2⟩
    · cases h
end
/-- function f, called with such data and pointers (.ptr 0 off) into one box with these cells, returns such data; the box then has those cells -/
def AY (P : Program) (f : FuncId) (args : List V) (ty : TypeId) (cells cells' : List V) (res : V) : Prop :=
  ∀ (S : Area) (w : World) (us : List Value) (b : Nat) (vs : Array Value), (∀ b' j, S b' j → b' < w.heap.size) → (∀ j, j < vs.size → ¬ S b j) → w.heap[b]? = some (.cells vs ty (0, 0)) → CVs (Cx.one S b vs.size) w cells vs.toList → CVs (Cx.one S b vs.size) w args us →
    Calls P f us.toArray w fun r w' => ∃ u S' vs', r = .returned u ∧ KB (fun k => k = b) w w' ∧ Ar S S' w w' ∧ (∀ b' j, S' b' j → S b' j ∨ (w.heap.size ≤ b' ∧ b' < w'.heap.size) ∨ (b' = b ∧ vs.size ≤ j)) ∧ w'.heap[b]? = some (.cells vs' ty (0, 0)) ∧ vs'.size = vs.size ∧ CVs (Cx.one S' b vs.size) w' cells' vs'.toList ∧ CV (Cx.bare S') w' res u

section
variable {P : Program} {K : Exit → St → Prop} {ops : List Oper} {s : St}
/-- such a call, in a region -/
theorem SW.cally {o : Oper} {r : List Oper} {f : FuncId} {args args' : List V} {ty : TypeId} {cells cells' cs cs' : List V} {res : V} {fn : Func} (k : Nat) (hax : AY P f args' ty cells cells' res) (hf : P.funcs[f]? = some fn) (hb : fn.body.isSome = true) (hn : (fn.name == "runtime.NumGoroutine") = false) (hg : gate ops s.t o.guard = some true) (hc : callOf (ev s.t) o.op = some (f, args)) (hp : V.pub1s k args = some args') (hk : s.h[k]? = some (.box ty cs false)) (hcs : V.pub1s k cs = some cells) (hcs' : V.pub1s k cs' = some cells') (htm : V.tames cs' = true)
    (h : SW P ops K r (s.step o.dst res (some (k, .box ty cs' false)))) : SW P ops K (o :: r) s := fun S0 w0 x a w hA => by
  have hw : Region.wanted o (yielded ops.toArray a.tmps) = true := by
    have := awant_ok (o := o) hA.tm (awant_true (ops := ops) (K1 := True) (K2 := False) hg trivial)
    exact Classical.byContradiction fun h => this.2 h
  unfold wpList
  rw [if_pos hw]
  refine .inl ?_
  unfold callOf at hc
  split at hc
  case h_2 => cases hc
  rename_i fo ar tys ho
  split at hc
  case h_2 => cases hc
  rename_i f' caps hfe
  simp only [Option.some.injEq, Prod.mk.injEq] at hc
  obtain ⟨rfl, rfl⟩ := hc
  have hfo := unc_ok (ev_ok hA.tm fo)
  rw [hfe] at hfo
  simp only [CV] at hfo
  obtain ⟨vs0, hfo, hcaps⟩ := hfo
  have hargs : CVs x w (ar.toList.map (ev s.t) ++ caps) (ar.toList.map a.eval ++ vs0.toList) := (CVs.of_map fun y _ => ev_ok hA.tm y).append hcaps
  have g := hA.good
  obtain ⟨hd, b1, b2, vs, b3, b4, b5⟩ := g.ok k _ hk
  have hrd := pub1s_ok (n := vs.size) _ _ _ hcs b5
  have hnS : ∀ j, j < vs.size → ¬ x.S (x.loc k).b j := fun j hj => g.excl k _ j hk ⟨rfl, by omega⟩
  have hcall := hax x.S w _ (x.loc k).b vs g.ex hnS b3 hrd (pub1s_ok _ _ _ hp hargs)
  have hb' : fn.body ≠ none := by intro e; rw [e] at hb; cases hb
  have hn' : fn.name ≠ "runtime.NumGoroutine" := by simpa using hn
  have hrun : (execOp a.eval o).run P w = .ok (.enter f' (ar.toList.map a.eval ++ vs0.toList).toArray) w := by
    have e1 : (ar.map a.eval ++ vs0) = (ar.toList.map a.eval ++ vs0.toList).toArray := by apply Array.toList_inj.1; simp
    simp [execOp, ho, resolve, hfo, Deferred.ofValue, invoke, callFunc, program, Sem.run, hf, hn', hb', e1]
  unfold Oper.wp
  rw [hrun]
  refine hcall.mono ?_
  rintro r' w' ⟨u, S', vs', rfl, hkb, har, hnew, h1, h2, h3, h4⟩
  have hlt := (g.ok k _ hk).2.lt b2
  have he : Ext x { x with S := S' } w w' := ⟨har, fun _ h => h, fun _ _ => LocLe.refl _⟩
  have g' := g.stepB (x' := { x with S := S' }) k (.box ty cs' false) he (hkb.wide fun b e => ⟨hd, b2, e.symm⟩) (fun i => ⟨.inl, fun h => h.elim id fun e => e ▸ hd⟩) (fun _ _ => rfl) (fun _ => .inl ⟨hd, b2, rfl⟩)
    ⟨b1, b2, vs', h1, by rw [h2, b4], pub1s_back (x := { x with S := S' }) hd b1 rfl _ _ _ htm hcs' h3⟩ (fun b j hs => (hnew b j hs).imp id fun h => h.elim (fun h => ⟨h.2, .inl h.1, fun e => by have : (x.loc k).b = b := e; omega⟩) (fun h => ⟨by rw [h.1]; exact Nat.lt_of_lt_of_le hlt hkb.size, .inr ⟨hd, b2, h.1.symm⟩, fun _ hx => by have h5 : j < (x.loc k).n := hx.2; have h6 := h.2; omega⟩)) (fun j hx => g.excl k _ j hk hx)
  have hnc : NC w w' := ⟨hkb.size, fun b ob hbo hnb => (hkb.block b (Array.getElem?_eq_some_iff.1 hbo).1 fun e => by subst e; rw [b3] at hbo; cases hbo; cases hnb).trans hbo⟩
  have e := updH_eq s.h (some (k, O.box ty cs' false)) (fun k' o' e => by cases e; exact Nat.le_of_lt (List.getElem?_eq_some_iff.1 hk).1)
  have g'' : Good S0 w0 { x with S := S' } w' (fun i => (updH s.h (some (k, O.box ty cs' false)))[i]?) := by rw [e]; exact g'
  exact h S0 w0 _ _ w' (Abs.put hA.tm (hA.df.mono hnc) he g'' (CV.mono (bare_ext S' x w') _ _ h4) o.dst)

def aRetY (P : Program) (l : List ResultVar) (res : V) (ty : TypeId) (cells' : List V) : Exit → St → Prop
  | .normal, s => ares P s l = some res ∧ s.h[0]? = some (.box ty cells' false) ∧ V.pub1s 0 cells' = some cells'
  | .ret, s => ares P s l = some res ∧ s.h[0]? = some (.box ty cells' false) ∧ V.pub1s 0 cells' = some cells'
  | _, _ => False
/-- SUCH A FUNCTION'S CONTRACT, out of its body -/
theorem AY.intro {f : FuncId} {fn : Func} {c : Code} {args : List V} {ty : TypeId} {cells cells' : List V} {res : V} (hf : P.funcs[f]? = some fn) (hb : fn.body = some c) (h : AW ⟨none, 1⟩ P c (aRetY P fn.results.toList res ty cells') ⟨args ++ List.replicate (fn.ntmps - args.length) .any, [.box ty cells false]⟩) : AY P f args ty cells cells' res := by
  intro S w us b vs hS hnS hblk hrd hus
  have hblt : b < w.heap.size := (Array.getElem?_eq_some_iff.1 hblk).1
  refine callsIn_wide.1 (callsIn_of_wp_marks (F := Fence.wide) (n := 0) hf hb trivial ?_)
  let B : Bs := ⟨w, fun k => k < w.heap.size ∧ k ≠ b, fun _ h => h.1, Cx.one S b vs.size, 1, fun k hk => by have : k = 0 := hk; omega⟩
  have hA : Abs S B (Cx.one S b vs.size) ⟨args ++ List.replicate (fn.ntmps - args.length) .any, [.box ty cells false]⟩ { tmps := us.toArray ++ Array.replicate (fn.ntmps - us.toArray.size) undef, defers := [] } w := by
    refine ⟨⟨fun k o h => ?_, fun k h => ?_, fun k k' o o' h h' hne => ?_, fun k o j h hx => ?_, hS, fun k o h _ hF => hF.2 rfl, fun b j h => .inl h, fun b j h => h, .of_keep (Keep.refl w), Ext.refl _ _⟩, ?_, Marks.nil _ _⟩
    · match k, h with
      | 0, h =>
        cases h
        exact ⟨rfl, rfl, rfl, vs, hblk, rfl, hrd⟩
      | k + 1, h => simp at h
    · have : k = 0 := h
      subst this
      exact ⟨_, rfl⟩
    · match k, k', h, h' with
      | 0, 0, _, _ => exact absurd rfl hne
      | 0, k' + 1, _, h' => simp at h'
      | k + 1, _, h, _ => simp at h
    · match k, h with
      | 0, h => cases h; exact hnS j hx.2
      | k + 1, h => simp at h
    · simp only [Array.toList_append, Array.toList_replicate]
      have hl : us.toArray.size = args.length := by simpa using hus.len
      rw [hl]
      exact hus.append (rep_any _ _ _ _)
  refine wpIn_mono (h 0 S B _ _ w (Nat.le_refl _) hA) fun e a' w' ⟨x, s, hA', hK⟩ => ?_
  have fin : ∀ {R : Ending → World → Prop}, (∀ u w' S' vs', KB (fun k => k = b) w w' → Ar S S' w w' → (∀ b' j, S' b' j → S b' j ∨ (w.heap.size ≤ b' ∧ b' < w'.heap.size) ∨ (b' = b ∧ vs.size ≤ j)) → w'.heap[b]? = some (.cells vs' ty (0, 0)) → vs'.size = vs.size → CVs (Cx.one S' b vs.size) w' cells' vs'.toList → CV (Cx.bare S') w' res u → R (.returned u) w') →
      (ares P s fn.results.toList = some res ∧ s.h[0]? = some (.box ty cells' false) ∧ V.pub1s 0 cells' = some cells') → LeavesInM Fence.wide 0 P fn a'.tmps R a'.defers .returning w' := by
    rintro R hR ⟨hr, h0, hcs⟩
    obtain ⟨Ds, e, h1, h2⟩ := hA'.df
    rw [e]
    refine leaves_marks hr Ds w' h1 h2 hA'.good hA'.tm fun w2 u g hu => ?_
    have hl0 := g.ext.loc 0 rfl
    have hloc : x.loc 0 = ⟨b, vs.size, false, 0, false⟩ := by
      rcases hl0.2 with e | e
      · exact e.symm
      · cases e.1
    obtain ⟨_, _, _, vs', k3, k4, k5⟩ := g.ok 0 _ h0
    rw [hloc] at k3 k4
    refine hR u w2 x.S vs' ⟨g.keep.os, g.keep.tape, g.keep.output, g.keep.size, fun k hk hne => g.keep.block k hk fun hn => hn ⟨hk, hne⟩⟩ ⟨g.sub, fun b' j v hs hc => g.ext.ar.cell b' j v hs hc⟩ (fun b' j hs => ?_) k3 k4 (by have := pub1s_ok (n := vs.size) _ _ _ hcs k5; rwa [hloc] at this) hu
    rcases g.new b' j hs with hq | hq
    · exact .inl hq
    · by_cases e : b' = b
      · subst e
        by_cases hj : j < vs.size
        · exact absurd (by rw [hloc]; exact hs) (g.excl 0 _ j h0 ⟨rfl, by rw [hloc]; exact hj⟩)
        · exact .inr (.inr ⟨rfl, by omega⟩)
      · exact .inr (.inl ⟨Nat.le_of_not_lt fun hlt => hq ⟨hlt, e⟩, g.ex b' j hs⟩)
  cases e with
  | normal => exact fin (fun u w' S' vs' h1 h2 h3 h4 h5 h6 h7 => ⟨u, S', vs', rfl, h1, h2, h3, h4, h5, h6, h7⟩) hK
  | ret => exact fin (fun u w' S' vs' h1 h2 h3 h4 h5 h6 h7 => ⟨u, S', vs', rfl, h1, h2, h3, h4, h5, h6, h7⟩) hK
  | _ => exact hK.elim
end
section
variable {P : Program} {ops : List Oper} {K : List Ef → St → Prop}
/-- a call that writes through a pointer to box k, in a region that draws -/
theorem TW.cally {o : Oper} {r : List Oper} {acc : List Ef} {s : St} {f : FuncId} {args args' : List V} {ty : TypeId} {cells cells' cs cs' : List V} {res : V} {fn : Func} (k : Nat) (hax : AY P f args' ty cells cells' res) (hf : P.funcs[f]? = some fn) (hb : fn.body.isSome = true) (hn : (fn.name == "runtime.NumGoroutine") = false) (hg : gate ops s.t o.guard = some true) (hc : callOf (ev s.t) o.op = some (f, args)) (hp : V.pub1s k args = some args') (hk : s.h[k]? = some (.box ty cs false)) (hcs : V.pub1s k cs = some cells) (hcs' : V.pub1s k cs' = some cells') (htm : V.tames cs' = true)
    (h : TW P ops K r (acc ++ [⟨res, some (k, .box ty cs' false), some k⟩]) (s.step o.dst res (some (k, .box ty cs' false)))) : TW P ops K (o :: r) acc s := by
  obtain ⟨es, s2, h2, h3⟩ := h
  refine ⟨⟨res, some (k, .box ty cs' false), some k⟩ :: es, s2, ⟨_, es, rfl, ?_, (fun k' ob e => by cases e; exact Nat.le_of_lt (List.getElem?_eq_some_iff.1 hk).1), h2⟩, by simpa using h3⟩
  intro S0 w0 x w a H g hl hr _ Q next hnx
  rw [gate_wanted hl hg]
  show o.wp P a w next Q
  have hop := hop_of hl
  have hHk : H k = some (.box ty cs false) := (hr k (.inl rfl)).trans hk
  unfold callOf at hc
  split at hc
  case h_2 => cases hc
  rename_i fo ar tys ho
  split at hc
  case h_2 => cases hc
  rename_i f' caps hfe
  simp only [Option.some.injEq, Prod.mk.injEq] at hc
  obtain ⟨rfl, rfl⟩ := hc
  have hfo := unc_ok (hop fo (by simp [ho, Op.operands, Call.operands]))
  rw [hfe] at hfo
  simp only [CV] at hfo
  obtain ⟨vs0, hfo, hcaps⟩ := hfo
  have hargs : CVs x w (ar.toList.map (ev s.t) ++ caps) (ar.toList.map a.eval ++ vs0.toList) := (CVs.of_map fun y hy => hop y (by simp [ho, Op.operands, Call.operands]; exact .inr (by simpa using hy))).append hcaps
  obtain ⟨hd, b1, b2, vs, b3, b4, b5⟩ := g.ok k _ hHk
  have hrd := pub1s_ok (n := vs.size) _ _ _ hcs b5
  have hnS : ∀ j, j < vs.size → ¬ x.S (x.loc k).b j := fun j hj => g.excl k _ j hHk ⟨rfl, by omega⟩
  have hcall := hax x.S w _ (x.loc k).b vs g.ex hnS b3 hrd (pub1s_ok _ _ _ hp hargs)
  have hb' : fn.body ≠ none := by intro e; rw [e] at hb; cases hb
  have hn' : fn.name ≠ "runtime.NumGoroutine" := by simpa using hn
  have hrun : (execOp a.eval o).run P w = .ok (.enter f' (ar.toList.map a.eval ++ vs0.toList).toArray) w := by
    have e1 : (ar.map a.eval ++ vs0) = (ar.toList.map a.eval ++ vs0.toList).toArray := by apply Array.toList_inj.1; simp
    simp [execOp, ho, resolve, hfo, Deferred.ofValue, invoke, callFunc, program, Sem.run, hf, hn', hb', e1]
  unfold Oper.wp
  rw [hrun]
  refine hcall.mono ?_
  rintro r' w' ⟨u, S', vs', rfl, hkb, har, hnew, h1, h2, h3, h4⟩
  have hlt := (g.ok k _ hHk).2.lt b2
  have he : Ext x { x with S := S' } w w' := ⟨har, fun _ h => h, fun _ _ => LocLe.refl _⟩
  have g' := g.stepB (x' := { x with S := S' }) k (.box ty cs' false) he (hkb.wide fun b e => ⟨hd, b2, e.symm⟩) (fun i => ⟨.inl, fun h => h.elim id fun e => e ▸ hd⟩) (fun _ _ => rfl) (fun _ => .inl ⟨hd, b2, rfl⟩)
    ⟨b1, b2, vs', h1, by rw [h2, b4], pub1s_back (x := { x with S := S' }) hd b1 rfl _ _ _ htm hcs' h3⟩ (fun b j hs => (hnew b j hs).imp id fun h => h.elim (fun h => ⟨h.2, .inl h.1, fun e => by have : (x.loc k).b = b := e; omega⟩) (fun h => ⟨by rw [h.1]; exact Nat.lt_of_lt_of_le hlt hkb.size, .inr ⟨hd, b2, h.1.symm⟩, fun _ hx => by have h5 : j < (x.loc k).n := hx.2; have h6 := h.2; omega⟩)) (fun j hx => g.excl k _ j hHk hx)
  exact hnx u _ w' g' he (CV.mono (bare_ext S' x w') _ _ h4)
end
theorem adr_nil {P : Program} {ops : List Oper} {K : List Ef → St → Prop} {acc : List Ef} {s : St} (h : K acc s) : adraw P ops K [] acc s := h
end Go.Proofs.YtnpenchciinmmaaGreat
