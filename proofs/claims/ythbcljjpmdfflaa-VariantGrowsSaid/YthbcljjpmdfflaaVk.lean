/-
  variant.Height on the abstract machine, given what assembly returns.
-/
import Derived.Test.YthbcljjpmdfflaaVj
namespace Go.Proofs.Ythbcljjpmdfflaa
open Go.RowKit
set_option linter.unusedSimpArgs false
set_option linter.unusedVariables false
set_option maxRecDepth 100000

theorem vHeight_w (hasm : AsmOk) (f : Font) (name : ByteArray) (c : Choice) (p : Int) (hf : f.Fit) : AC Try.prog 27 [.agg f.vs, .c (.str name), choiceV c, .c (.int .i64 p)] (.tup [.c (.int .i64 (IntKind.i64.wrap ((boxR f name c p).1.h + (boxR f name c p).1.d))), errV (boxR f name c p).2]) := by
  have hcl := vBox_a hasm f name c p hf
  obtain ⟨q, hq⟩ : ∃ q, boxR f name c p = q := ⟨_, rfl⟩
  rw [hq] at hcl ⊢
  obtain ⟨⟨bk, bn, bs, bw, bh, bd, bx, by_, kids, bo, src⟩, e⟩ := q
  obtain ⟨cg, cr⟩ := c
  simp only [choiceV, boxEV, errV, boxV, Box.row, List.map_cons, List.map_nil] at hcl ⊢
  refine AC.intro Try.func27 rfl ?_
  simp only [Try.ntmps27, List.map_cons, List.map_nil, List.length_cons, List.length_nil, Nat.reduceAdd, Nat.reduceSub, List.replicate_succ, List.replicate_zero, List.cons_append, List.nil_append]
  repeat (first
   | (with_reducible first | refine AW.seq ?_ | refine AW.block ?_ | refine aThen_n ?_ | refine aBlk_n ?_ | refine AW.ret ?_ | refine aThen_r ?_ | refine aBlk_r ?_ | refine aops_done ?_ | refine AW.skip ?_ | refine AW.exit ?_ | refine aThen_e ?_ | refine aBlk_hit ?_ | refine AW.label ?_ | refine AW.scope ?_ | refine aNg_n ?_ | refine aNg_r ?_ | refine aNg_e ?_)
   | ((with_reducible refine AW.region ?_); with_reducible refine aops_run (by simp [List.replicate_succ]; first | exact rfl | exact ⟨rfl, rfl⟩) ?_)
   | ((with_reducible refine AW.draw mixedP ?_ ?_); (focus first | exact .inl rfl | exact .inr (by decide)); with_reducible refine adraw_go (by simp [List.replicate_succ]; first | exact rfl | exact ⟨rfl, rfl, rfl⟩) ?_)
   | (with_reducible refine adraw_done (by kernel_rfl) ?_)
   | ((with_reducible refine aBlk_miss ?_ ?_); focus decide)
   | ((with_reducible refine cond_t ?_ ?_); focus (simp [ev]; done))
   | ((with_reducible refine cond_f ?_ ?_); focus (simp [ev]; done)))
  (with_reducible first | refine aops_c (hcl) Try.func25 (by kernel_rfl) (by kernel_rfl) ?_ ?_ ?_ | refine adraw_c (hcl) Try.func25 (by kernel_rfl) (by kernel_rfl) ?_ ?_ ?_)
  focus (simp [gate]; done)
  focus (simp [pubCall]; done)
  first | (with_reducible refine aops_run (by simp [List.replicate_succ]; first | exact rfl | exact ⟨rfl, rfl⟩) ?_) | (with_reducible refine adraw_go (by simp [List.replicate_succ]; first | exact rfl | exact ⟨rfl, rfl, rfl⟩) ?_)
  repeat (first
   | (with_reducible first | refine AW.seq ?_ | refine AW.block ?_ | refine aThen_n ?_ | refine aBlk_n ?_ | refine AW.ret ?_ | refine aThen_r ?_ | refine aBlk_r ?_ | refine aops_done ?_ | refine AW.skip ?_ | refine AW.exit ?_ | refine aThen_e ?_ | refine aBlk_hit ?_ | refine AW.label ?_ | refine AW.scope ?_ | refine aNg_n ?_ | refine aNg_r ?_ | refine aNg_e ?_)
   | ((with_reducible refine AW.region ?_); with_reducible refine aops_run (by simp [List.replicate_succ]; first | exact rfl | exact ⟨rfl, rfl⟩) ?_)
   | ((with_reducible refine AW.draw mixedP ?_ ?_); (focus first | exact .inl rfl | exact .inr (by decide)); with_reducible refine adraw_go (by simp [List.replicate_succ]; first | exact rfl | exact ⟨rfl, rfl, rfl⟩) ?_)
   | (with_reducible refine adraw_done (by kernel_rfl) ?_)
   | ((with_reducible refine aBlk_miss ?_ ?_); focus decide)
   | ((with_reducible refine cond_t ?_ ?_); focus (simp [ev]; done))
   | ((with_reducible refine cond_f ?_ ?_); focus (simp [ev]; done)))
  simp [aRet, ares, aresL, ares1, V.pub, V.pubs, ldV, Try.results27]
end Go.Proofs.Ythbcljjpmdfflaa
