/-
  The abstract machine: a map from strings to bools that the call has made.
-/
import Derived.Test.YtnpenchciinmmaaGreatPa
import Derived.Maps.OwnSet
import Derived.Maps.OwnOps
import Derived.Maps.Views
import Derived.StringKeys
namespace Go.Proofs.YtnpenchciinmmaaGreat
open Go.RowKit
set_option linter.unusedSimpArgs false
set_option linter.unusedVariables false

section
variable {P : Program} {K : Exit → St → Prop} {ops : List Oper} {s : St}
/-- one operation by hand, that makes or writes an object -/
theorem SW.opE {o : Oper} {r : List Oper} (v : V) (t : Option (Nat × O)) (hkl : ∀ k ob, t = some (k, ob) → k ≤ s.h.length) (hg : gate ops s.t o.guard = some true)
    (hR : ∀ (S0 : Area) (w0 : Bs) (x : Cx) (a : Act) (w : World), Good S0 w0 x w (fun k => s.h[k]?) → CVs x w s.t a.tmps.toList → RunOk P o a S0 w0 x w (fun k => s.h[k]?) v t) (h : SW P ops K r (s.step o.dst v t)) : SW P ops K (o :: r) s := fun S0 w0 x a w hA => by
  have hw : Region.wanted o (yielded ops.toArray a.tmps) = true := by
    have := awant_ok (o := o) hA.tm (awant_true (ops := ops) (K1 := True) (K2 := False) hg trivial)
    exact Classical.byContradiction fun h => this.2 h
  unfold wpList
  rw [if_pos hw]
  refine .inl ?_
  obtain ⟨nx, w', x', u, hr, hnx, hcv, g', he, _⟩ := hR x.S (w0.re w hA.good.keep.size) x a w hA.good.rebase hA.tm
  obtain ⟨g', hnc⟩ := hA.good.unbase he g'
  have e := updH_eq s.h t hkl
  have g'' : Good S0 w0 x' w' (fun i => (updH s.h t)[i]?) := by rw [e]; exact g'
  unfold Oper.wp
  rw [hr]
  rcases hnx with rfl | ⟨rfl, rfl⟩
  · exact h S0 w0 x' _ w' (Abs.put hA.tm (hA.df.mono hnc) he g'' hcv o.dst)
  · exact h S0 w0 x' _ w' (Abs.put hA.tm (hA.df.mono hnc) he g'' hcv o.dst)
end
/-- the object is a map of at most n entries, which holds M -/
def MapOb (n : Nat) (M : ByteArray → Bool) (_ : Nat) (ob : Obj) : Prop :=
  ∀ (w : World) (b : Nat), w.heap[b]? = some ob → ∃ D : DataW Unit, w.ownsMap Tryz.prog 9 (plainElem Tryz.prog 4) b n D ∧ Maps.IsMap D ∧
    ∀ s : ByteArray, s.size ≤ maxLen → D.atKey (.string s.data.toList) (.lit (.bool false)) = .lit (.bool (M s))
def updB (M : ByteArray → Bool) (s : ByteArray) : ByteArray → Bool := fun x => decide (x = s) || M x
theorem zero_bool (w : World) : (zeroValue 4).run Tryz.prog w = .ok (.bool false) w := by kernel_rfl
theorem plainElem_bool_inv {H : Type} {P : Program} {e : TypeId} (he : P.underlying e = some .bool) {v : Value} {z : DataW H × List MemPlace} (h : plainElem P e v = some z) : ∃ a, v = .bool a ∧ z = (.lit (.bool a), []) := by
  unfold plainElem at h
  rw [he] at h
  cases v <;> simp at h
  subst h
  exact ⟨_, rfl, rfl⟩
theorem MapOb.made {b0 : Nat} : MapOb 0 (fun _ => false) b0 (.map #[] 0) := fun w b hb => ⟨.map [], ⟨#[], 0, hb, ⟨by simp, MapKept.stamped_empty 0, by simp⟩, Nat.le_refl _, rfl⟩, Maps.isMap_empty, fun _ _ => rfl⟩
theorem MapOb.look {w : World} {b b0 n : Nat} {M : ByteArray → Bool} {ob : Obj} (h : MapOb n M b0 ob) (hb : w.heap[b]? = some ob) {s : ByteArray} (hs : s.size ≤ maxLen) :
    (Instr.lookup 158 (.map (some b)) (.string s) false).run Tryz.prog w = .ok (.bool (M s)) w := by
  obtain ⟨D, ⟨es, clock, h1, F, _, rfl⟩, _, hM⟩ := h w b hb
  have hm := hM s hs
  rcases Maps.fit_look (t := 158) false (Maps.string_keyed Tryz.underlying9) Tryz.underlying158 (zero_bool w) h1 F (WideMaps.keyOf_string_mk Tryz.underlying9 hs) with ⟨hrun, _, hat⟩ | ⟨e0, y, _, _, hrun, hRv, hat, _⟩
  · rw [hat] at hm
    rw [hrun]
    simp only [DataW.lit.injEq, Lit.bool.injEq] at hm
    simp [← hm]
  · rw [hat] at hm
    rw [hrun]
    obtain ⟨c, e1, e2⟩ := plainElem_bool_inv Tryz.underlying4 hRv
    rw [e2] at hm
    simp only [DataW.lit.injEq, Lit.bool.injEq] at hm
    rw [e1, hm]
    rfl
theorem MapOb.store {w : World} {b b0 n : Nat} {M : ByteArray → Bool} {ob : Obj} (h : MapOb n M b0 ob) (hb : w.heap[b]? = some ob) (hn : n < maxLen) {s : ByteArray} (hs : s.size ≤ maxLen) :
    ∃ w' ob', (Instr.mapUpdate 158 (.map (some b)) (.string s) (.bool true)).run Tryz.prog w = .ok () w' ∧ w.grownBy w' (some b) ∧ w'.heap[b]? = some ob' ∧ still ob' = false ∧ MapOb (n + 1) (updB M s) b0 ob' := by
  obtain ⟨D, ho, hm, hM⟩ := h w b hb
  obtain ⟨w', hrun, ho', hg⟩ := ho.update (t := 158) (Maps.string_keyed Tryz.underlying9) Tryz.underlying158 hn (WideMaps.keyOf_string_mk Tryz.underlying9 hs) (plainElem_bool Tryz.underlying4 true)
  obtain ⟨es', clock', h1, F, h2, h3⟩ := ho'
  refine ⟨w', _, hrun, hg, h1, rfl, fun w2 b2 hb2 => ⟨_, ⟨es', clock', hb2, F, h2, h3⟩, hm.put _ _, fun x hx => ?_⟩⟩
  by_cases e : x = s
  · subst e
    have hk : WideAt.IsKeyLit (Lit.string x.data.toList) := trivial
    rw [Maps.atKey_put_same hm hk]
    simp [updB]
  · have hne : Lit.string x.data.toList ≠ Lit.string s.data.toList := fun h => e (by cases x; cases s; simpa using h)
    rw [Maps.atKey_put_other hne]
    simp only [updB, decide_eq_false e, Bool.false_or]
    exact hM x hx
section
variable {S0 : Area} {w0 : Bs} {x : Cx} {w : World} {H : Heap} {a : Act} {o : Oper}
theorem ok_mkmap (g : Good S0 w0 x w H) {y : Operand} (ho : o.op = .makeMap 158 (some y)) {kd : IntKind} {l : Int} (hy : CV x w (.c (.int kd l)) (a.eval y)) (k : Nat) (hk : ¬ x.dom k) : RunOk Tryz.prog o a S0 w0 x w H (.mp k) (some (k, .mp (MapOb 0 (fun _ => false)))) := by
  simp only [CV, RdC] at hy
  have hal : Keep w (w.alloc (.map #[] 0)) := (Keep.refl w).alloc _
  have he : Ext x (x.mk1 k ⟨w.heap.size, 0, false, 0, false⟩) w (w.alloc (.map #[] 0)) := Good.ext1 k _ hk fun b j v _ hc => hal.cell hc
  have g' := g.stepB k (.mp (MapOb 0 (fun _ => false))) he (.of_keep hal) (fun i => Iff.rfl) (fun i hi => by simp [Cx.mk1, hi]) (fun _ => .inr (by simp [Cx.mk1])) ⟨by simp [Cx.mk1], by simp [Cx.mk1], _, by simp only [Cx.mk1, if_true]; exact heap_alloc_new w _, rfl, MapOb.made⟩ (fun b j h => .inl h) (fun j hx hs => hx)
  refine ⟨_, _, _, .map (some w.heap.size), ?_, .inl rfl, ?_, g', he, fun k' h => h.elim .inl fun e => .inr ⟨.mp (MapOb 0 (fun _ => false)), by rw [e]⟩, fun _ => rfl⟩
  · simp [execOp, ho, hy.1, Instr.makeMap, run_underlying Tryz.underlying158]; rfl
  · simp only [CV, Cx.mk1, if_true]
    exact ⟨.inr trivial, trivial, trivial⟩
theorem ok_look (g : Good S0 w0 x w H) {y z : Operand} (ho : o.op = .lookup 158 y z false) {k n : Nat} {M : ByteArray → Bool} {s : ByteArray} (hy : CV x w (.mp k) (a.eval y)) (hz : CV x w (.c (.str s)) (a.eval z)) (hk : H k = some (.mp (MapOb n M))) : RunOk Tryz.prog o a S0 w0 x w H (.c (.bool (M s))) none := by
  simp only [CV, RdC] at hy hz
  obtain ⟨hd, ht, hy⟩ := hy
  obtain ⟨hz, hs⟩ := hz
  obtain ⟨_, _, _, ob, hb, _, hR⟩ := g.ok k _ hk
  exact RunOk.pure g (u := .bool (M s)) (by simp [execOp, ho, hy, hz, hR.look hb hs]) (by simp only [CV, RdC])
theorem ok_mapset (g : Good S0 w0 x w H) {y z v : Operand} (ho : o.op = .mapUpdate 158 y z v) {k n : Nat} {M : ByteArray → Bool} {s : ByteArray} (hy : CV x w (.mp k) (a.eval y)) (hz : CV x w (.c (.str s)) (a.eval z)) (hv : a.eval v = .bool true) (hk : H k = some (.mp (MapOb n M))) (hn : n < maxLen) : RunOk Tryz.prog o a S0 w0 x w H .any (some (k, .mp (MapOb (n + 1) (updB M s)))) := by
  simp only [CV, RdC] at hy hz
  obtain ⟨hd, ht, hy⟩ := hy
  obtain ⟨hz, hs⟩ := hz
  obtain ⟨_, h1, h2, ob, hb, hst, hR⟩ := g.ok k _ hk
  obtain ⟨w', ob', hrun, hg, hb', hst', hR'⟩ := hR.store hb hn hs
  have ar : Ar x.S x.S w w' := ⟨fun _ _ h => h, fun b j v hS hc => by
    have hne : b ≠ (x.loc k).b := fun e => by
      subst e
      obtain ⟨D, ⟨es, clock, hbm, _⟩, _⟩ := hR w _ hb
      unfold World.cell? at hc
      simp [hbm] at hc
    have hlt : b < w.heap.size := g.ex b j hS
    exact (World.cell?_of_block (hg.block b hlt fun e => hne (Option.some.inj e))).trans hc⟩
  have he : Ext x x w w' := ⟨ar, fun _ h => h, fun _ _ => LocLe.refl _⟩
  have g' := g.stepB k (.mp (MapOb (n + 1) (updB M s))) he ⟨hg.os, hg.tape, hg.output, hg.size, fun b hb2 hn2 => hg.block b hb2 fun e => hn2 ⟨hd, h2, (Option.some.inj e).symm⟩⟩ (fun i => ⟨.inl, fun h => h.elim id fun e => e ▸ hd⟩) (fun _ _ => rfl) (fun _ => .inl ⟨hd, h2, rfl⟩) ⟨h1, h2, ob', hb', hst', hR'⟩ (fun b j h => .inl h) (fun j hx => hx.elim)
  refine ⟨.skip, w', x, undef, ?_, .inr ⟨rfl, rfl⟩, by simp only [CV], g', he, fun _ h => .inl h, fun _ => rfl⟩
  simp [execOp, ho, hy, hz, hv, hrun]
end
end Go.Proofs.YtnpenchciinmmaaGreat
