/-
  A copy of data by append onto an empty slice, as an own array; arrays of ints that are written in place.
-/
import Derived.Test.YtmlabapfjliaeaaPb
import Derived.Test.YtmlabapfjliaeaaGB
namespace Go.Proofs.Ytmlabapfjliaeaa
open Go.RowKit
set_option linter.unusedSimpArgs false
set_option linter.unusedVariables false
set_option maxRecDepth 100000

def pints (l : List Int) : List V := l.map fun n => V.c (.int .i64 n)
theorem pints_len (l : List Int) : (pints l).length = l.length := by simp [pints]
theorem pints_app (l r : List Int) : pints (l ++ r) = pints l ++ pints r := by simp [pints]
@[simp] theorem pints_bnds (m : Nat) (l : List Int) : V.bnds m (pints l) = true := by
  induction l with
  | nil => rfl
  | cons c r ih => simp only [pints, List.map_cons, V.bnds, V.bnd, Bool.true_and]; exact ih
theorem pints_toCs : ∀ l : List Int, toCs (pints l) = some (l.map (C.int .i64))
  | [] => rfl
  | c :: r => by simp only [pints, List.map_cons, toCs, toC]; rw [show List.map (fun n => V.c (C.int IntKind.i64 n)) r = pints r from rfl, pints_toCs r]
@[simp] theorem pints_frzs (k : Nat) (row : List C) : ∀ l : List Int, V.frzs k row (pints l) = pints l
  | [] => rfl
  | c :: r => by simp only [pints, List.map_cons, V.frzs, V.frz]; rw [show List.map (fun n => V.c (C.int IntKind.i64 n)) r = pints r from rfl, pints_frzs k row r]
theorem pchop : ∀ (l r : List Int), chop 1 l.length ((l ++ r).map (C.int .i64)) = l.map fun n => [C.int .i64 n]
  | [], _ => rfl
  | c :: l, r => by simp only [List.length_cons, List.cons_append, List.map_cons, chop, List.take_succ_cons, List.take_zero, List.drop_succ_cons, List.drop_zero]; rw [pchop l r]
theorem pints_zero (n : Nat) : (List.replicate n [V.c (.int .i64 0)]).flatten = pints (List.replicate n 0) := by
  induction n with
  | zero => rfl
  | succ n ih => rw [List.replicate_succ, List.flatten_cons, ih, List.replicate_succ]; rfl
section
variable {D r : List Int} {c : Int} {k : Nat}
theorem pget (h : D.length = k) : (pints (D ++ c :: r))[k]? = some (.c (.int .i64 c)) := by
  subst h
  simp [pints]
theorem pset (h : D.length = k) (v : Int) : (pints (D ++ c :: r)).set k (.c (.int .i64 v)) = pints (D ++ v :: r) := by
  subst h
  unfold pints
  rw [← List.map_set (f := fun n => V.c (.int .i64 n))]
  congr 1
  rw [List.set_append_right _ _ (Nat.le_refl _)]
  simp
theorem pget1 (h : D.length = k + 1) : (pints (D ++ r))[k]? = some (.c (.int .i64 (D.getD k 0))) := by
  have hlt : k < D.length := by omega
  unfold pints
  rw [List.getElem?_map, List.getElem?_append_left hlt, List.getElem?_eq_getElem hlt]
  simp [List.getD_eq_getElem?_getD, List.getElem?_eq_getElem hlt]
theorem pset1 (h : D.length = k + 1) (v : Int) : (pints (D ++ r)).set k (.c (.int .i64 v)) = pints (D.set k v ++ r) := by
  unfold pints
  rw [← List.map_set (f := fun n => V.c (.int .i64 n))]
  congr 1
  rw [List.set_append_left _ _ (by omega)]
end
section
variable {P : Program} {S0 : Area} {w0 : Bs} {x : Cx} {w : World} {H : Heap} {a : Act} {o : Oper}
theorem zc_list {z : Array Value} (h : z.toList = [.int .i64 0]) (m : Nat) : (Builtin.zeroCells z m).toList = (pints (List.replicate m 0)).map (fun _ => Value.int .i64 0) := by
  have hz : z = #[.int .i64 0] := Array.toList_inj.1 h
  subst hz
  apply List.ext_getElem
  · simp [Builtin.zeroCells, pints]
  · intro i h1 h2
    simp [Builtin.zeroCells, pints, Nat.mod_one]
theorem zc_cvs (m : Nat) : CVs x w (pints (List.replicate m 0)) ((pints (List.replicate m 0)).map (fun _ => Value.int .i64 0)) := by
  induction m with
  | zero => simp [pints, CVs]
  | succ m ih =>
    rw [List.replicate_succ]
    simp only [pints, List.map_cons, CVs, CV, RdC]
    exact ⟨_, _, rfl, ⟨rfl, by decide +kernel⟩, ih⟩
theorem flat_pints : ∀ l : List Int, (l.map fun n => [C.int .i64 n]).flatten = l.map (C.int .i64)
  | [] => rfl
  | c :: r => by rw [List.map_cons, List.flatten_cons, flat_pints r]; rfl
theorem ok_appcopy (g : Good S0 w0 x w H) {t : TypeId} {y z : Operand} (ho : o.op = .call ⟨.builtin .append, #[y, z], #[t, t]⟩) {ety : TypeId} {by_ : Nat} (hT : tElem P t = some (ety, 1, by_)) (hz0 : tZero P ety = some [.c (.int .i64 0)]) {l : List Int} (hY : CV x w (.full []) (a.eval y)) (hZ : CV x w (.c (intsC l)) (a.eval z)) (hne : l ≠ []) (hlen : l.length ≤ 1000000) (hby : by_ ≤ 8) (k0 : Nat) (hk : ¬ x.dom k0) :
    ∃ m : Nat, RunOk P o a S0 w0 x w H (.own k0 0 l.length 1) (some (k0, .box ety (pints (l ++ List.replicate m 0)) false)) := by
  obtain ⟨hu, ie, zv, hie, hz, hsz, hbye, hzs⟩ := tElem_ok hT
  obtain ⟨zv', hz1, hz2, i2, hi2, hzi2⟩ := tZero_run (x := x) (w := w) hz0
  rw [hie] at hi2; cases hi2
  rw [hz] at hzi2; cases hzi2
  simp only [CVs, CV, RdC] at hz2
  obtain ⟨u0, ur0, hz2, ⟨rfl, _⟩, rfl⟩ := hz2
  simp only [CV] at hY hZ
  obtain ⟨A, hA, _⟩ := hY
  have hrl : ∀ r ∈ (l.map fun n => [C.int .i64 n]), r.length = 1 := by intro r hr; obtain ⟨n, _, rfl⟩ := List.mem_map.1 hr; rfl
  obtain ⟨B, c', zs, hzu, k1, k2, k3, k4, k5, k6⟩ := sl_vals hZ hrl
  obtain ⟨b, off, rfl, _⟩ := k6 (by simpa using hne)
  rw [List.length_map] at hzu k1 k4
  have hfl := flat_pints l
  rw [hfl] at k3
  have hpos : 0 < l.length := List.length_pos_iff.2 hne
  have hfit : l.length * ie.bytes ≤ 281474976710656 := by rw [hbye]; have := Nat.mul_le_mul hlen hby; omega
  have hkeep : Keep w w.drew := (Keep.refl w).drew
  obtain ⟨g1, he1⟩ := g.stepA (x' := x) (w' := w.drew) hkeep ⟨fun _ _ h => h, fun b j v _ hc => hkeep.cell hc⟩ rfl rfl (fun b j h => .inl h)
  have hrun : ∃ m cap : Nat, (Builtin.append_ #[t, t] o.type #[a.eval y, a.eval z]).run P w = .ok (.slice (some ⟨w.heap.size, 0, none⟩) l.length cap) (w.drew.alloc (.cells (zs.toArray ++ Builtin.zeroCells zv.cells m) ety)) ∧ cap = l.length + m ∧ cap ≤ maxLen := by
    have hge := grownCap_ge w l.length 0 ety
    have hle := grownCap_le_maxLen w l.length 0 ety (by unfold maxLen; omega)
    refine ⟨grownCap w l.length 0 ety - l.length, grownCap w l.length 0 ety, ?_, by omega, hle⟩
    rw [hA, hzu]
    cases A with
    | none => exact run_append_nil (P := P) w t o.type ety ie zv hu hie hz ⟨b, off, none⟩ l.length c' zs (by rw [k4, hsz]) (k5 _ rfl) hpos (by omega) hfit
    | some ad =>
      have := run_append_grow (P := P) w t o.type ety ie zv hu hie hz ad 0 0 [] (by simp) (fun j v h => by simp at h) ⟨b, off, none⟩ l.length c' zs (by rw [k4, hsz]) (k5 _ rfl) (by omega) (by simp only [Nat.zero_add]; omega) (growslice_fits (by omega) (by rw [hbye]; simp only [Nat.zero_add]; have := Nat.mul_le_mul hlen hby; omega))
      simp only [Nat.zero_add, List.nil_append] at this
      refine this.trans ?_
      simp
  obtain ⟨m, cap, hrun, hcap, hcm⟩ := hrun
  have hcv : CVs x w.drew (pints (l ++ List.replicate m 0)) (zs.toArray ++ Builtin.zeroCells zv.cells m).toList := by
    rw [Array.toList_append, zc_list hz2, pints_app]
    refine CVs.append ?_ (zc_cvs m)
    have := CVs.mono he1 _ _ (CVs.ofC k3)
    rwa [List.map_map] at this
  obtain ⟨g', he⟩ := g1.newBox k0 hk ety _ _ hcv
  refine ⟨m, _, _, _, _, by simp [execOp, ho, resolve, invoke, builtin, hrun]; rfl, .inl rfl, ?_, g', he1.trans he, fun k h => h.elim .inl fun e => .inr ⟨.box ety (pints (l ++ List.replicate m 0)) false, by rw [e]⟩, fun hb => by rw [ho] at hb; cases hb⟩
  simp only [CV, Cx.mk1, if_true]
  refine ⟨.inr trivial, trivial, cap, rfl, by omega, hcm, ?_⟩
  have := hcv.len
  rw [pints_len] at this
  simp only [List.length_append, List.length_replicate, Array.length_toList] at this
  show 0 + cap * 1 ≤ (zs.toArray ++ Builtin.zeroCells zv.cells m).size
  omega
theorem ok_appcopyX (g : Good S0 w0 x w H) {t : TypeId} {y z : Operand} (ho : o.op = .call ⟨.builtin .append, #[y, z], #[t, t]⟩) {ety : TypeId} {by_ : Nat} (hT : tElem P t = some (ety, 1, by_)) (hz0 : tZero P ety = some [.c (.int .i64 0)]) {l : List Int} (hY : CV x w (.full []) (a.eval y)) (hZ : CV x w (.c (intsC l)) (a.eval z)) (hne : l ≠ []) (hlen : l.length ≤ 1000000) (hby : by_ ≤ 8) (k0 : Nat) (hk : ¬ x.dom k0) :
    ∃ v t', (∀ k ob, t' = some (k, ob) → k ≤ k0) ∧ (∃ m : Nat, v = .own k0 0 l.length 1 ∧ t' = some (k0, .box ety (pints (l ++ List.replicate m 0)) false)) ∧ RunOk P o a S0 w0 x w H v t' := by
  obtain ⟨m, hm⟩ := ok_appcopy g ho hT hz0 hY hZ hne hlen hby k0 hk
  exact ⟨_, _, fun k ob e => by cases e; exact Nat.le_refl _, ⟨m, rfl, rfl⟩, hm⟩
end
/-! the rule of layer 26, step by step -/
def opensI (c : Int) : Bool := decide (c = 2) || (decide (c = 1) || (decide (c = 3) || (decide (c = 4) || decide (c = 6))))
def closesI (c : Int) : Bool := decide (c = 3) || (decide (c = 5) || decide (c = 6))
def lastI (d : List Int) : Int := d.getD (d.length - 1) 0
def stepC (d : List Int) (c : Int) : List Int :=
  if c = 2 ∧ (d.length = 0 ∨ opensI (lastI d) = true) then d ++ [0]
  else if closesI c = true ∧ 0 < d.length ∧ lastI d = 2 then d.set (d.length - 1) 0 ++ [c]
  else d ++ [c]
theorem stepC_len (d : List Int) (c : Int) : (stepC d c).length = d.length + 1 := by
  unfold stepC
  split
  · simp
  · split <;> simp
def foldC (own : List Int) : List Int := own.foldl stepC []
def finC (d : List Int) : List Int := if 0 < d.length ∧ lastI d = 2 then d.set (d.length - 1) 0 else d
def rowC (own : List Int) : List Int := finC (foldC own)
theorem foldC_take {own : List Int} {k : Nat} {c : Int} (h : own[k]? = some c) : foldC (own.take (k + 1)) = stepC (foldC (own.take k)) c := by
  unfold foldC
  rw [List.take_add_one, h, List.foldl_append]
  rfl
theorem foldl_len : ∀ (own d : List Int), (own.foldl stepC d).length = d.length + own.length
  | [], d => by simp
  | c :: r, d => by simp only [List.foldl_cons, foldl_len r, stepC_len, List.length_cons]; omega
theorem foldC_len (own : List Int) : (foldC own).length = own.length := by unfold foldC; rw [foldl_len]; simp
theorem finC_len (d : List Int) : (finC d).length = d.length := by unfold finC; split <;> simp
theorem rowC_len (own : List Int) : (rowC own).length = own.length := by unfold rowC; rw [finC_len, foldC_len]
end Go.Proofs.Ytmlabapfjliaeaa
