/-
 The machine: a slice of zeros that nobody writes.
-/
import Derived.Test.YthbcljjpmdfflaaGreatG4
namespace Go.Proofs.YthbcljjpmdfflaaGreat
open Go.RowKit
set_option linter.unusedSimpArgs false
set_option linter.unusedVariables false
theorem toCs_app : ∀ {a b : List V} {x y : List C}, toCs a = some x → toCs b = some y → toCs (a ++ b) = some (x ++ y)
 | [], b, x, y, h, h' => by simp [toCs] at h; subst h; simpa using h'
 | v :: a, b, x, y, h, h' => by
   simp only [toCs] at h
   split at h
   · rename_i c r hc hr
     cases h
     simp only [List.cons_append, toCs, hc, toCs_app hr h']
   · cases h
theorem toCs_rep {z : List V} {c : List C} (h : toCs z = some c) : ∀ n : Nat, toCs (List.replicate n z).flatten = some (List.replicate n c).flatten
 | 0 => rfl
 | n + 1 => by simp only [List.replicate_succ, List.flatten_cons]; exact toCs_app h (toCs_rep h n)
def RunOkZ (P : Program) (o : Oper) (a : Act) (S0 : Area) (w0 : Bs) (x : Cx) (w : World) (H : Heap) (v : V) (t : Option (Nat × O)) : Prop :=
 ∃ nx w' x' u, (execOp a.eval o).run P w = .ok nx w' ∧ (nx = .value u ∨ (nx = .skip ∧ u = undef)) ∧ CV x' w' v u ∧ Good S0 w0 x' w' (H.upd t) ∧ Ext x x' w w'
theorem TW.opZ {P : Program} {ops : List Oper} {K : List Ef → St → Prop} {o : Oper} {r : List Oper} {acc : List Ef} {s : St} (e : Ef) (hg : gate ops s.t o.guard = some true) (hk : ∀ k ob, e.t = some (k, ob) → k ≤ s.h.length)
 (hR : ∀ (S0 : Area) (w0 : Bs) (x : Cx) (a : Act) (w : World) (H : Heap), Good S0 w0 x w H → (∀ y ∈ o.op.operands.toList, CV x w (ev s.t y) (a.eval y)) → (∀ k, e.rk = some k → H k = s.h[k]?) → RunOkZ P o a S0 w0 x w H e.v e.t)
 (h : TW P ops K r (acc ++ [e]) (s.step o.dst e.v e.t)) : TW P ops K (o :: r) acc s := by
 obtain ⟨es, s2, h2, h3⟩ := h
 refine ⟨e :: es, s2, ⟨e, es, rfl, ?_, hk, h2⟩, by simpa using h3⟩
 intro S0 w0 x w a H g hl hr _ Q next hn
 rw [gate_wanted hl hg]
 obtain ⟨nx, w', x', u, hrun, hnx, hcv, g', he⟩ := hR S0 w0 x a w H g (hop_of hl) hr
 show o.wp P a w next Q
 unfold Oper.wp
 rw [hrun]
 rcases hnx with rfl | ⟨rfl, rfl⟩
 · exact hn u x' w' g' he hcv
 · exact hn undef x' w' g' he hcv
theorem ok_makeZ {P : Program} {o : Oper} {a : Act} {S0 : Area} {w0 : Bs} {x : Cx} {w : World} {H : Heap} (g : Good S0 w0 x w H) {t : TypeId} {y z : Operand} (ho : o.op = .makeSlice t y z) {ety : TypeId} {es by_ : Nat} (ht : tElem P t = some (ety, es, by_)) {k k' : IntKind} {l : Int} (hy : CV x w (.c (.int k l)) (a.eval y)) (hz : CV x w (.c (.int k' l)) (a.eval z)) {zl : List V} (hzl : tZero P ety = some zl) {zc : List C} (hzc : toCs zl = some zc)
 (h0 : 0 ≤ l) (h1 : (by_ : Int) * l ≤ 281474976710656) (h2 : l ≤ 140737488355328) : RunOkZ P o a S0 w0 x w H (.full (List.replicate l.toNat zc)) none := by
 obtain ⟨hu, ie, zv, hie, hzi, hsz, hby, hzs⟩ := tElem_ok ht
 obtain ⟨zv', hz1, hz2, i2, hi2, hzi2⟩ := tZero_run (x := x) (w := w) hzl
 rw [hie] at hi2; cases hi2
 rw [hzi] at hzi2; cases hzi2
 simp only [CV, RdC] at hy hz
 have hr := run_make (P := P) w t ety ie zv hu hie hzi k k' l l h0 (Int.le_refl _) (by rw [hby]; exact h1) (by omega)
 rw [hsz] at hr
 have hcv : CVs x w (List.replicate l.toNat zl).flatten (madeCells zv.cells (l.toNat * es)).toList := by rw [made_list zv.cells hzs]; exact hz2.flat_rep _
 have hcl := toCs_ok (toCs_rep hzc l.toNat) hcv
 have hms : (madeCells zv.cells (l.toNat * es)).size = l.toNat * es := by simp [size_madeCells]
 obtain ⟨S', g', he, hrd⟩ := g.newData ety (madeCells zv.cells (l.toNat * es)) (l.toNat * es) (by omega) w (Keep.refl w) rfl (l := (List.replicate l.toNat zc).flatten) (by rw [List.take_of_length_le (by rw [Array.length_toList]; omega)]; exact hcl)
 have hes : zc.length = es := by
  have q1 := hz2.len
  have q2 := toCs_len hzc
  simp only [Array.length_toList] at q1
  omega
 refine ⟨_, _, _, .slice (some ⟨w.heap.size, 0, none⟩) l.toNat l.toNat, by simp only [execOp, ho, hy.1, hz.1, Sem.run_bind, hr, Result.andThen_ok]; rfl, .inl rfl, ?_, g', he⟩
 simp only [CV, RdC, List.length_replicate]
 exact ⟨some ⟨w.heap.size, 0, none⟩, rfl, some ⟨w.heap.size, 0, none⟩, l.toNat, rfl, Nat.le_refl _, by unfold maxLen; omega, fun _ => ⟨w.heap.size, 0, es, rfl, fun r hr => by rw [List.eq_of_mem_replicate hr, hes], RdRs.flat.2 hrd⟩⟩
end Go.Proofs.YthbcljjpmdfflaaGreat
