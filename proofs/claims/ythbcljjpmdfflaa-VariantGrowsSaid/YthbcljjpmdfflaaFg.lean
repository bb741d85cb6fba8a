/-
  font.Stretch on the abstract machine.
-/
import Derived.Test.YthbcljjpmdfflaaFf
namespace Go.Proofs.Ythbcljjpmdfflaa
open Go.RowKit
set_option linter.unusedSimpArgs false
set_option linter.unusedVariables false
set_option maxRecDepth 100000

@[simp] theorem Font.vs_bnds (f : Font) (n : Nat) : V.bnds n f.vs = true := by
  have : ∀ l : List C, V.bnds n (l.map V.c) = true := by
    intro l
    induction l with
    | nil => rfl
    | cons c l ih => simp [V.bnds, V.bnd, ih]
  exact this f.row

set_option maxHeartbeats 800000 in
theorem stretch_a (f : Font) (name : ByteArray) (hl : f.stretches.length ≤ maxLen) (hs : ∀ s ∈ f.stretches, s.sizes.length ≤ 1000 ∧ s.parts.length ≤ 1000) : AC Try.prog 103 [.agg f.vs, .c (.str name)] (foundS (f.stretch name)) := by
  unfold maxLen at hl
  refine AC.intro Try.func103 rfl ?_
  simp only [Try.ntmps103, List.map_cons, List.map_nil, List.length_cons, List.length_nil, Nat.reduceAdd, Nat.reduceSub, List.replicate_succ, List.replicate_zero, List.cons_append, List.nil_append]
  repeat (first
   | (with_reducible first | refine AW.seq ?_ | refine AW.block ?_ | refine aThen_n ?_ | refine aBlk_n ?_ | refine AW.ret ?_ | refine aThen_r ?_ | refine aBlk_r ?_ | refine aops_done ?_ | refine AW.skip ?_ | refine AW.exit ?_ | refine aThen_e ?_ | refine aBlk_hit ?_ | refine AW.label ?_ | refine AW.scope ?_ | refine aNg_n ?_ | refine aNg_r ?_ | refine aNg_e ?_)
   | ((with_reducible refine AW.region ?_); with_reducible refine aops_run (by simp [List.replicate_succ, stretchesC]; first | exact rfl | exact ⟨rfl, rfl⟩) ?_)
   | ((with_reducible refine AW.draw mixedP ?_ ?_); (focus first | exact .inl rfl | exact .inr (by decide)); with_reducible refine adraw_go (by simp [List.replicate_succ, stretchesC]; first | exact rfl | exact ⟨rfl, rfl, rfl⟩) ?_)
   | (with_reducible refine adraw_done (by kernel_rfl) ?_)
   | ((with_reducible refine aBlk_miss ?_ ?_); focus decide)
   | ((with_reducible refine cond_t ?_ ?_); focus (simp [ev, stretchesC]; done))
   | ((with_reducible refine cond_f ?_ ?_); focus (simp [ev, stretchesC]; done)))
  refine AW.loopH (ι := { k : Nat // k ≤ f.stretches.length ∧ f.stretch name = stretchO name (f.stretches.drop k) }) (fun k => [(11, .c (.int .i64 (k.1 : Int))), (5, .c (.bool false))]) (fun _ => [.box 27 f.vs false, .box 59 [.c (.str ⟨#[]⟩), .full [], .full [], .c (.int .i64 0)] false]) (fun k => f.stretches.length - k.1) ⟨0, by simp [Font.stretch]⟩ _ (by simp only [wr, wrOps, List.cons_append, List.nil_append, List.append_nil, List.append_assoc]; exact rfl) _ (by simp only [havoc, List.foldl_cons, List.foldl_nil, List.set_cons_zero, List.set_cons_succ]; exact rfl) ?_ ?_
  all_goals simp only [puts, List.foldl_cons, List.foldl_nil, List.set_cons_zero, List.set_cons_succ]
  · refine Le.weak (by simp [subT])
  · rintro ⟨k, hk, hI⟩
    by_cases hlt : k < f.stretches.length
    · obtain ⟨g, hg⟩ : ∃ g, f.stretches[k] = g := ⟨_, rfl⟩
      rw [List.drop_eq_getElem_cons hlt, hg] at hI
      have hm := hs f.stretches[k] (List.getElem_mem hlt)
      rw [hg] at hm
      by_cases he : g.name = name
      · have hF : f.stretch name = some g := by rw [hI]; simp [stretchO, he]
        have h1 : g.sizes.length ≤ maxLen := by unfold maxLen; omega
        have h2 : g.parts.length ≤ maxLen := by unfold maxLen; omega
        have h3 : g.sizes.length * 16 ≤ 140737488355328 := by omega
        have h4 : g.parts.length * 24 ≤ 140737488355328 := by omega
        repeat (first
         | (with_reducible first | refine AW.seq ?_ | refine AW.block ?_ | refine aThen_n ?_ | refine aBlk_n ?_ | refine AW.ret ?_ | refine aThen_r ?_ | refine aBlk_r ?_ | refine aops_done ?_ | refine AW.skip ?_ | refine AW.exit ?_ | refine aThen_e ?_ | refine aBlk_hit ?_ | refine AW.label ?_ | refine AW.scope ?_ | refine aNg_n ?_ | refine aNg_r ?_ | refine aNg_e ?_)
         | ((with_reducible refine AW.region ?_); with_reducible refine aops_run (by simp [List.replicate_succ, hlt, hg, he, stretchesC, Stretch.row, sizesC, partsC, Part.row, h1, h2, h3, h4]; first | exact rfl | exact ⟨rfl, rfl⟩) ?_)
         | ((with_reducible refine AW.draw mixedP ?_ ?_); (focus first | exact .inl rfl | exact .inr (by decide)); with_reducible refine adraw_go (by simp [List.replicate_succ, hlt, hg, he, stretchesC, Stretch.row, sizesC, partsC, Part.row, h1, h2, h3, h4]; first | exact rfl | exact ⟨rfl, rfl, rfl⟩) ?_)
         | (with_reducible refine adraw_done (by kernel_rfl) ?_)
         | ((with_reducible refine aBlk_miss ?_ ?_); focus decide)
         | ((with_reducible refine cond_t ?_ ?_); focus (simp [ev, hlt, hg, he, stretchesC, Stretch.row, sizesC, partsC, Part.row, h1, h2, h3, h4]; done))
         | ((with_reducible refine cond_f ?_ ?_); focus (simp [ev, hlt, hg, he, stretchesC, Stretch.row, sizesC, partsC, Part.row, h1, h2, h3, h4]; done)))
        simp [aRet, ares, aresL, ares1, V.pub, V.pubs, ldV, Try.results103, foundS, stretchV, hF, Stretch.row, sizesC, partsC, he]
      · have hw : IntKind.i64.wrap ((k : Int) + 1) = ((k + 1 : Nat) : Int) := by rw [wrap_i64 (by omega) (by omega)]; simp
        repeat (first
         | (with_reducible first | refine AW.seq ?_ | refine AW.block ?_ | refine aThen_n ?_ | refine aBlk_n ?_ | refine AW.ret ?_ | refine aThen_r ?_ | refine aBlk_r ?_ | refine aops_done ?_ | refine AW.skip ?_ | refine AW.exit ?_ | refine aThen_e ?_ | refine aBlk_hit ?_ | refine AW.label ?_ | refine AW.scope ?_ | refine aNg_n ?_ | refine aNg_r ?_ | refine aNg_e ?_)
         | ((with_reducible refine AW.region ?_); with_reducible refine aops_run (by simp [List.replicate_succ, hlt, hg, he, stretchesC, Stretch.row, hw]; first | exact rfl | exact ⟨rfl, rfl⟩) ?_)
         | ((with_reducible refine AW.draw mixedP ?_ ?_); (focus first | exact .inl rfl | exact .inr (by decide)); with_reducible refine adraw_go (by simp [List.replicate_succ, hlt, hg, he, stretchesC, Stretch.row, hw]; first | exact rfl | exact ⟨rfl, rfl, rfl⟩) ?_)
         | (with_reducible refine adraw_done (by kernel_rfl) ?_)
         | ((with_reducible refine aBlk_miss ?_ ?_); focus decide)
         | ((with_reducible refine cond_t ?_ ?_); focus (simp [ev, hlt, hg, he, stretchesC, Stretch.row, hw]; done))
         | ((with_reducible refine cond_f ?_ ?_); focus (simp [ev, hlt, hg, he, stretchesC, Stretch.row, hw]; done)))
        refine ⟨⟨k + 1, by omega, by rw [hI]; simp [stretchO, he]⟩, by simp only; omega, ?_⟩
        refine Le.wdrop 2 (Nat.le_of_ble_eq_true rfl) (by simp [subT]) (by simp) (by simp [V.bnds, V.bnd]) (by simp [O.bnd, V.bnds, V.bnd])
    · have hF : f.stretch name = none := by rw [hI, List.drop_of_length_le (by omega)]; rfl
      repeat (first
       | (with_reducible first | refine AW.seq ?_ | refine AW.block ?_ | refine aThen_n ?_ | refine aBlk_n ?_ | refine AW.ret ?_ | refine aThen_r ?_ | refine aBlk_r ?_ | refine aops_done ?_ | refine AW.skip ?_ | refine AW.exit ?_ | refine aThen_e ?_ | refine aBlk_hit ?_ | refine AW.label ?_ | refine AW.scope ?_ | refine aNg_n ?_ | refine aNg_r ?_ | refine aNg_e ?_)
       | ((with_reducible refine AW.region ?_); with_reducible refine aops_run (by simp [List.replicate_succ, hlt, stretchesC]; first | exact rfl | exact ⟨rfl, rfl⟩) ?_)
       | ((with_reducible refine AW.draw mixedP ?_ ?_); (focus first | exact .inl rfl | exact .inr (by decide)); with_reducible refine adraw_go (by simp [List.replicate_succ, hlt, stretchesC]; first | exact rfl | exact ⟨rfl, rfl, rfl⟩) ?_)
       | (with_reducible refine adraw_done (by kernel_rfl) ?_)
       | ((with_reducible refine aBlk_miss ?_ ?_); focus decide)
       | ((with_reducible refine cond_t ?_ ?_); focus (simp [ev, hlt, stretchesC]; done))
       | ((with_reducible refine cond_f ?_ ?_); focus (simp [ev, hlt, stretchesC]; done)))
      simp [aRet, ares, aresL, ares1, V.pub, V.pubs, ldV, Try.results103, foundS, stretchV, hF, Stretch.zero, Stretch.row, sizesC, partsC]
end Go.Proofs.Ythbcljjpmdfflaa
