/-
  deep.Box on the abstract machine: a round.
-/
import Derived.Test.YtnpenchciinmmaaGreatBb
namespace Go.Proofs.YtnpenchciinmmaaGreat
open Go.RowKit
set_option linter.unusedSimpArgs false
set_option linter.unusedVariables false
set_option maxRecDepth 100000

noncomputable def deepBody : Code := codeOf (Tryz.f22).body
noncomputable def deepIn : Code := match deepBody with
  | .seq _ (.block _ (.seq _ (.seq _ (.seq _ (.seq _ (.seq _ (.seq _ (.seq _ (.seq _ (.block _ (.loop c))))))))))) => c
  | _ => .skip

theorem set_same {α : Type} {l : List α} {i : Nat} {v : α} (h : l[i]? = some v) : l.set i v = l := by
  apply List.ext_getElem?
  intro j
  rw [List.getElem?_set]
  by_cases e : i = j
  · subst e
    have hl := (List.getElem?_eq_some_iff.1 h).1
    simp only [if_true, hl]
    exact h.symm
  · simp [e]
/-- a round, up to the loop over the kids: without kids -/
theorem deep_leaf {K : Exit → St → Prop} (H : List O) (n k off : Nat) (ty : TypeId) (cs cs2 : List V) (src : List Int) (h2 : H[2]? = some (.box 97 cs2 false)) (hk : H[k]? = some (.box ty cs false)) (hk2 : k ≠ 2) (hp : cs2[n]? = some (.ptr k off)) (hn : n < 1000000) (hs : src.length ≤ 1000000) (hc8 : cs[off + 8]? = some (.c (.sl []))) (hc10 : cs[off + 10]? = some (.c (intsC src)))
    (hK : ∀ t, t.length = 71 → t.take 4 = [.any, .ptr 0 0, .ptr 1 0, .own 2 0 n 1] → LA ⟨none, 0⟩ Tryz.prog deepBody K ⟨t, H.set k (.box ty (cs.set (off + 8) (.full [])) false)⟩) :
    AW ⟨none, 0⟩ Tryz.prog deepBody (aThen (LA ⟨none, 0⟩ Tryz.prog deepBody K) K) ⟨dT (n + 1), H⟩ := by
  have hkl : k < H.length := (List.getElem?_eq_some_iff.1 hk).1
  have h2l : 2 < H.length := (List.getElem?_eq_some_iff.1 h2).1
  have hw : IntKind.i64.wrap (n : Int) = (n : Int) := wrap_i64 (by omega) (by omega)
  have ho8 : off + 8 < cs.length := (List.getElem?_eq_some_iff.1 hc8).1
  have ho10 : off + 10 < cs.length := (List.getElem?_eq_some_iff.1 hc10).1
  have hkg : H[k]'hkl = .box ty cs false := (List.getElem?_eq_some_iff.1 hk).2
  have ho10' : off + 10 + 1 ≤ cs.length := ho10
  have ho8' : off + 8 + 1 ≤ cs.length := ho8
  have hset : cs.set (off + 10) (.c (intsC src)) = cs := set_same hc10
  have hHset : H.set k (.box ty cs false) = H := set_same hk
  have hH1 : (H.set k (.box ty (cs.set (off + 8) (.full [])) false))[k]? = some (.box ty (cs.set (off + 8) (.full [])) false) := by rw [List.getElem?_set_self hkl]
  have hc8' : (cs.set (off + 8) (.full []))[off + 8]? = some (.full []) := by rw [List.getElem?_set_self ho8]
  conv => arg 3; unfold deepBody
  simp only [codeOf, Tryz.f22, dT, List.replicate_succ, List.replicate_zero, List.cons_append, List.nil_append]
  have hlt : (0 : Int) < (n : Int) + 1 := by omega
  have hnn : (n : Int) < (n : Int) + 1 := by omega
  refine go (cj @hw <| cj @h2 <| cj @hp <| cj @hn <| cj @hlt <| @hnn) ?_
  with_reducible refine AW.regionS ?_
  refine SW.take 4 ?_
  with_reducible refine aops_run (by simp [List.replicate_succ, hw]; first | exact rfl | exact ⟨rfl, rfl⟩) ?_
  refine aops_done ?_
  simp only [List.drop_succ_cons, List.drop_zero]
  refine SW.opX (fun v t => t = none ∧ v = .own 2 0 n 1) (by simp [gate]) ?_ ?_
  · intro S0 w0 x a w g ht hkk
    exact ⟨_, _, fun _ _ h => (by cases h), ⟨rfl, rfl⟩, ok_slice_own (P := Tryz.prog) (n := n) (len := n + 1) g rfl (by simp; exact ⟨rfl, rfl⟩) (eval_of ht rfl) (eval_of ht rfl) (by omega)⟩
  rintro v t ⟨rfl, rfl⟩
  refine SW.take 1 ?_
  with_reducible refine aops_run (by simp [List.replicate_succ]; first | exact rfl | exact ⟨rfl, rfl⟩) ?_
  refine aops_done ?_
  simp only [List.drop_succ_cons, List.drop_zero]
  refine SW.nil ?_
  refine go (cj @hk <| cj @hc8 <| @hc10) ?_
  refine gc (cj @hkg <| cj @hkl <| cj @ho10' <| cj @hset <| @hHset) (clone_a src hs) Tryz.func37 ?_
  refine go (cj @hkg <| cj @hkl <| @ho8') ?_
  with_reducible refine AW.regionS ?_
  refine SW.take 5 ?_
  with_reducible refine aops_run (by simp [List.replicate_succ, hH1, hc8']; first | exact rfl | exact ⟨rfl, rfl⟩) ?_
  refine aops_done ?_
  simp only [List.drop_succ_cons, List.drop_zero]
  refine SW.opX (fun v t => t = none ∧ v = .c (.int .i64 0)) (by simp [gate]) ?_ ?_
  · intro S0 w0 x a w g ht hkk
    exact ⟨_, _, fun _ _ h => (by cases h), ⟨rfl, rfl⟩, ok_copy_none (P := Tryz.prog) g rfl (by simp; exact ⟨rfl, rfl, rfl⟩) (by have := eval_of (v := .full []) ht (i := 49) rfl; simp only [CV] at this; obtain ⟨_, _, h⟩ := this; exact h) (eval_c ht rfl)⟩
  rintro v t ⟨rfl, rfl⟩
  refine SW.nil ?_
  refine go (cj @hH1 <| @hc8') ?_
  with_reducible refine LA.loop ?_
  with_reducible refine LA.round ?_
  refine go0 ?_
  exact hK _ rfl rfl
end Go.Proofs.YtnpenchciinmmaaGreat
