/-
  Layer 5's reference on the abstract machine: names, parameters, glyphs, small fonts.
-/
import Derived.Test.YthbcljjpmdfflaaFg
namespace Go.Proofs.Ythbcljjpmdfflaa
open Go.RowKit
set_option linter.unusedSimpArgs false
set_option linter.unusedVariables false
set_option maxRecDepth 100000

theorem name_a (s : ByteArray) (hs : s.size ≤ maxLen) : AC Try.prog 55 [.c (.str s)] (.c (.bool (nameB s))) := by
  unfold maxLen at hs
  refine AC.intro Try.func55 rfl ?_
  simp only [Try.ntmps55, List.map_cons, List.map_nil, List.length_cons, List.length_nil, Nat.reduceAdd, Nat.reduceSub, List.replicate_succ, List.replicate_zero, List.cons_append, List.nil_append]
  repeat (first
   | (with_reducible first | refine AW.seq ?_ | refine AW.block ?_ | refine aThen_n ?_ | refine aBlk_n ?_ | refine AW.ret ?_ | refine aThen_r ?_ | refine aBlk_r ?_ | refine aops_done ?_ | refine AW.skip ?_ | refine AW.exit ?_ | refine aThen_e ?_ | refine aBlk_hit ?_ | refine AW.label ?_ | refine AW.scope ?_ | refine aNg_n ?_ | refine aNg_r ?_ | refine aNg_e ?_)
   | ((with_reducible refine AW.region ?_); with_reducible refine aops_run (by simp [List.replicate_succ]; first | exact rfl | exact ⟨rfl, rfl⟩) ?_)
   | ((with_reducible refine AW.draw mixedP ?_ ?_); (focus first | exact .inl rfl | exact .inr (by decide)); with_reducible refine adraw_go (by simp [List.replicate_succ]; first | exact rfl | exact ⟨rfl, rfl, rfl⟩) ?_)
   | (with_reducible refine adraw_done (by kernel_rfl) ?_)
   | ((with_reducible refine aBlk_miss ?_ ?_); focus decide)
   | ((with_reducible refine cond_t ?_ ?_); focus (simp [ev]; done))
   | ((with_reducible refine cond_f ?_ ?_); focus (simp [ev]; done)))
  refine AW.loopH (ι := { k : Nat // k ≤ s.size ∧ s.data.toList.all byteOk = (s.data.toList.drop k).all byteOk }) (fun k => [(3, .c (.int .i64 (k.1 : Int))), (2, .c (.bool false))]) (fun _ => []) (fun k => s.size - k.1) ⟨0, by simp⟩ _ (by simp only [wr, wrOps, List.cons_append, List.nil_append, List.append_nil, List.append_assoc]; exact rfl) _ (by simp only [havoc, List.foldl_cons, List.foldl_nil, List.set_cons_zero, List.set_cons_succ]; exact rfl) ?_ ?_
  all_goals simp only [puts, List.foldl_cons, List.foldl_nil, List.set_cons_zero, List.set_cons_succ]
  · refine Le.weak (by simp [subT])
  · rintro ⟨k, hk, hI⟩
    by_cases hlt : k < s.size
    · have hd : s.data.toList.drop k = (s.data[k]'hlt) :: s.data.toList.drop (k + 1) := by rw [List.drop_eq_getElem_cons (by simpa using hlt)]; simp
      rw [hd, List.all_cons] at hI
      obtain ⟨b, hb⟩ : ∃ b, s.data[k]'hlt = b := ⟨_, rfl⟩
      rw [hb] at hI
      have hw : IntKind.i64.wrap ((k : Int) + 1) = ((k + 1 : Nat) : Int) := by rw [wrap_i64 (by omega) (by omega)]; simp
      by_cases h1 : (b.toNat : Int) < 32
      · have e : byteOk b = false := by simp [byteOk]; omega
        repeat (first
         | (with_reducible first | refine AW.seq ?_ | refine AW.block ?_ | refine aThen_n ?_ | refine aBlk_n ?_ | refine AW.ret ?_ | refine aThen_r ?_ | refine aBlk_r ?_ | refine aops_done ?_ | refine AW.skip ?_ | refine AW.exit ?_ | refine aThen_e ?_ | refine aBlk_hit ?_ | refine AW.label ?_ | refine AW.scope ?_ | refine aNg_n ?_ | refine aNg_r ?_ | refine aNg_e ?_)
         | ((with_reducible refine AW.region ?_); with_reducible refine aops_run (by simp [List.replicate_succ, hlt, hb, h1]; first | exact rfl | exact ⟨rfl, rfl⟩) ?_)
         | ((with_reducible refine AW.draw mixedP ?_ ?_); (focus first | exact .inl rfl | exact .inr (by decide)); with_reducible refine adraw_go (by simp [List.replicate_succ, hlt, hb, h1]; first | exact rfl | exact ⟨rfl, rfl, rfl⟩) ?_)
         | (with_reducible refine adraw_done (by kernel_rfl) ?_)
         | ((with_reducible refine aBlk_miss ?_ ?_); focus decide)
         | ((with_reducible refine cond_t ?_ ?_); focus (simp [ev, hlt, hb, h1]; done))
         | ((with_reducible refine cond_f ?_ ?_); focus (simp [ev, hlt, hb, h1]; done)))
        simp [aRet, ares, aresL, ares1, V.pub, V.pubs, ldV, Try.results55, nameB, hI, e]
      · by_cases h2 : (126 : Int) < (b.toNat : Int)
        · have e : byteOk b = false := by simp [byteOk]; omega
          repeat (first
           | (with_reducible first | refine AW.seq ?_ | refine AW.block ?_ | refine aThen_n ?_ | refine aBlk_n ?_ | refine AW.ret ?_ | refine aThen_r ?_ | refine aBlk_r ?_ | refine aops_done ?_ | refine AW.skip ?_ | refine AW.exit ?_ | refine aThen_e ?_ | refine aBlk_hit ?_ | refine AW.label ?_ | refine AW.scope ?_ | refine aNg_n ?_ | refine aNg_r ?_ | refine aNg_e ?_)
           | ((with_reducible refine AW.region ?_); with_reducible refine aops_run (by simp [List.replicate_succ, hlt, hb, h1, h2]; first | exact rfl | exact ⟨rfl, rfl⟩) ?_)
           | ((with_reducible refine AW.draw mixedP ?_ ?_); (focus first | exact .inl rfl | exact .inr (by decide)); with_reducible refine adraw_go (by simp [List.replicate_succ, hlt, hb, h1, h2]; first | exact rfl | exact ⟨rfl, rfl, rfl⟩) ?_)
           | (with_reducible refine adraw_done (by kernel_rfl) ?_)
           | ((with_reducible refine aBlk_miss ?_ ?_); focus decide)
           | ((with_reducible refine cond_t ?_ ?_); focus (simp [ev, hlt, hb, h1, h2]; done))
           | ((with_reducible refine cond_f ?_ ?_); focus (simp [ev, hlt, hb, h1, h2]; done)))
          simp [aRet, ares, aresL, ares1, V.pub, V.pubs, ldV, Try.results55, nameB, hI, e]
        · have e : byteOk b = true := by simp [byteOk]; omega
          repeat (first
           | (with_reducible first | refine AW.seq ?_ | refine AW.block ?_ | refine aThen_n ?_ | refine aBlk_n ?_ | refine AW.ret ?_ | refine aThen_r ?_ | refine aBlk_r ?_ | refine aops_done ?_ | refine AW.skip ?_ | refine AW.exit ?_ | refine aThen_e ?_ | refine aBlk_hit ?_ | refine AW.label ?_ | refine AW.scope ?_ | refine aNg_n ?_ | refine aNg_r ?_ | refine aNg_e ?_)
           | ((with_reducible refine AW.region ?_); with_reducible refine aops_run (by simp [List.replicate_succ, hlt, hb, h1, h2, hw]; first | exact rfl | exact ⟨rfl, rfl⟩) ?_)
           | ((with_reducible refine AW.draw mixedP ?_ ?_); (focus first | exact .inl rfl | exact .inr (by decide)); with_reducible refine adraw_go (by simp [List.replicate_succ, hlt, hb, h1, h2, hw]; first | exact rfl | exact ⟨rfl, rfl, rfl⟩) ?_)
           | (with_reducible refine adraw_done (by kernel_rfl) ?_)
           | ((with_reducible refine aBlk_miss ?_ ?_); focus decide)
           | ((with_reducible refine cond_t ?_ ?_); focus (simp [ev, hlt, hb, h1, h2, hw]; done))
           | ((with_reducible refine cond_f ?_ ?_); focus (simp [ev, hlt, hb, h1, h2, hw]; done)))
          refine ⟨⟨k + 1, by omega, by rw [hI, e, Bool.true_and]⟩, by simp only; omega, ?_⟩
          refine Le.weak (by simp [subT])
    · have hk' : k = s.size := by omega
      have e : s.data.toList.all byteOk = true := by rw [hI, List.drop_of_length_le (by simp; omega)]; rfl
      have hkk : s.size = s.data.size := rfl
      by_cases h1 : (1 : Int) ≤ (s.size : Int)
      · have hr : nameB s = decide ((s.size : Int) ≤ 16) := by
          unfold nameB
          rw [e, Bool.true_and, decide_eq_true (show 1 ≤ s.size by omega), Bool.true_and, decide_eq_decide]
          omega
        repeat (first
         | (with_reducible first | refine AW.seq ?_ | refine AW.block ?_ | refine aThen_n ?_ | refine aBlk_n ?_ | refine AW.ret ?_ | refine aThen_r ?_ | refine aBlk_r ?_ | refine aops_done ?_ | refine AW.skip ?_ | refine AW.exit ?_ | refine aThen_e ?_ | refine aBlk_hit ?_ | refine AW.label ?_ | refine AW.scope ?_ | refine aNg_n ?_ | refine aNg_r ?_ | refine aNg_e ?_)
         | ((with_reducible refine AW.region ?_); with_reducible refine aops_run (by simp [List.replicate_succ, hlt, h1]; first | exact rfl | exact ⟨rfl, rfl⟩) ?_)
         | ((with_reducible refine AW.draw mixedP ?_ ?_); (focus first | exact .inl rfl | exact .inr (by decide)); with_reducible refine adraw_go (by simp [List.replicate_succ, hlt, h1]; first | exact rfl | exact ⟨rfl, rfl, rfl⟩) ?_)
         | (with_reducible refine adraw_done (by kernel_rfl) ?_)
         | ((with_reducible refine aBlk_miss ?_ ?_); focus decide)
         | ((with_reducible refine cond_t ?_ ?_); focus (simp [ev, hlt, h1]; done))
         | ((with_reducible refine cond_f ?_ ?_); focus (simp [ev, hlt, h1]; done)))
        simp [aRet, ares, aresL, ares1, V.pub, V.pubs, ldV, Try.results55, hr]
      · have hr : nameB s = false := by
          unfold nameB
          rw [decide_eq_false (show ¬ 1 ≤ s.size by omega), Bool.false_and, Bool.and_false]
        repeat (first
         | (with_reducible first | refine AW.seq ?_ | refine AW.block ?_ | refine aThen_n ?_ | refine aBlk_n ?_ | refine AW.ret ?_ | refine aThen_r ?_ | refine aBlk_r ?_ | refine aops_done ?_ | refine AW.skip ?_ | refine AW.exit ?_ | refine aThen_e ?_ | refine aBlk_hit ?_ | refine AW.label ?_ | refine AW.scope ?_ | refine aNg_n ?_ | refine aNg_r ?_ | refine aNg_e ?_)
         | ((with_reducible refine AW.region ?_); with_reducible refine aops_run (by simp [List.replicate_succ, hlt, h1]; first | exact rfl | exact ⟨rfl, rfl⟩) ?_)
         | ((with_reducible refine AW.draw mixedP ?_ ?_); (focus first | exact .inl rfl | exact .inr (by decide)); with_reducible refine adraw_go (by simp [List.replicate_succ, hlt, h1]; first | exact rfl | exact ⟨rfl, rfl, rfl⟩) ?_)
         | (with_reducible refine adraw_done (by kernel_rfl) ?_)
         | ((with_reducible refine aBlk_miss ?_ ?_); focus decide)
         | ((with_reducible refine cond_t ?_ ?_); focus (simp [ev, hlt, h1]; done))
         | ((with_reducible refine cond_f ?_ ?_); focus (simp [ev, hlt, h1]; done)))
        simp [aRet, ares, aresL, ares1, V.pub, V.pubs, ldV, Try.results55, hr]


def Params.vs (p : Params) : List V := p.list.map fun n => V.c (.int .i64 n)
@[simp] theorem Font.vs_params (f : Font) : (f.vs.drop 2).take 20 = f.params.vs := by simp [Font.vs, Font.row, Params.vs, Params.list]
theorem inB_cons (lo hi n : Int) (l : List Int) : inB lo hi (n :: l) = (inB lo hi [n] && inB lo hi l) := by simp [inB]
theorem lens_len (p : Params) : p.lens.length = 17 := rfl
set_option maxHeartbeats 1600000 in
theorem params_a (p : Params) : AC Try.prog 92 [.agg p.vs] (.c (.bool (paramsOk p))) := by
  have hP : paramsOk p = (inB 1 100 p.perc && inB 0 20000 p.lens) := rfl
  have hl := lens_len p
  refine AC.intro Try.func92 rfl ?_
  simp only [Try.ntmps92, List.map_cons, List.map_nil, List.length_cons, List.length_nil, Nat.reduceAdd, Nat.reduceSub, List.replicate_succ, List.replicate_zero, List.cons_append, List.nil_append, Params.vs, Params.list]
  repeat (first
   | (with_reducible first | refine AW.seq ?_ | refine AW.block ?_ | refine aThen_n ?_ | refine aBlk_n ?_ | refine AW.ret ?_ | refine aThen_r ?_ | refine aBlk_r ?_ | refine aops_done ?_ | refine AW.skip ?_ | refine AW.exit ?_ | refine aThen_e ?_ | refine aBlk_hit ?_ | refine AW.label ?_ | refine AW.scope ?_ | refine aNg_n ?_ | refine aNg_r ?_ | refine aNg_e ?_)
   | ((with_reducible refine AW.region ?_); with_reducible refine aops_run (by simp [List.replicate_succ]; first | exact rfl | exact ⟨rfl, rfl⟩) ?_)
   | ((with_reducible refine AW.draw mixedP ?_ ?_); (focus first | exact .inl rfl | exact .inr (by decide)); with_reducible refine adraw_go (by simp [List.replicate_succ]; first | exact rfl | exact ⟨rfl, rfl, rfl⟩) ?_)
   | (with_reducible refine adraw_done (by kernel_rfl) ?_)
   | ((with_reducible refine aBlk_miss ?_ ?_); focus decide)
   | ((with_reducible refine cond_t ?_ ?_); focus (simp [ev]; done))
   | ((with_reducible refine cond_f ?_ ?_); focus (simp [ev]; done)))
  refine AW.loopH (ι := { k : Nat // k ≤ p.lens.length ∧ inB 0 20000 p.lens = inB 0 20000 (p.lens.drop k) }) (fun k => [(4, .c (.int .i64 (k.1 : Int))), (2, .c (.bool false)), (3, .full (p.lens.map fun n => [C.int .i64 n]))]) (fun _ => [.box 25 p.vs false]) (fun k => p.lens.length - k.1) ⟨0, by simp⟩ _ (by simp only [wr, wrOps, List.cons_append, List.nil_append, List.append_nil, List.append_assoc]; exact rfl) _ (by simp only [havoc, List.foldl_cons, List.foldl_nil, List.set_cons_zero, List.set_cons_succ]; exact rfl) ?_ ?_
  all_goals simp only [puts, List.foldl_cons, List.foldl_nil, List.set_cons_zero, List.set_cons_succ]
  · refine Le.weak (by simp [subT, Params.lens, Params.vs, Params.list])
  · rintro ⟨k, hk, hI⟩
    by_cases hlt : k < p.lens.length
    · obtain ⟨n, hn⟩ : ∃ n, p.lens[k] = n := ⟨_, rfl⟩
      rw [List.drop_eq_getElem_cons hlt, hn, inB_cons] at hI
      have hw : IntKind.i64.wrap ((k : Int) + 1) = ((k + 1 : Nat) : Int) := by rw [wrap_i64 (by omega) (by omega)]; simp
      repeat (first
       | (with_reducible first | refine AW.seq ?_ | refine AW.block ?_ | refine aThen_n ?_ | refine aBlk_n ?_ | refine AW.ret ?_ | refine aThen_r ?_ | refine aBlk_r ?_ | refine aops_done ?_ | refine AW.skip ?_ | refine AW.exit ?_ | refine aThen_e ?_ | refine aBlk_hit ?_ | refine AW.label ?_ | refine AW.scope ?_ | refine aNg_n ?_ | refine aNg_r ?_ | refine aNg_e ?_)
       | ((with_reducible refine AW.region ?_); with_reducible refine aops_run (by simp [List.replicate_succ, hlt, hn]; first | exact rfl | exact ⟨rfl, rfl⟩) ?_)
       | ((with_reducible refine AW.draw mixedP ?_ ?_); (focus first | exact .inl rfl | exact .inr (by decide)); with_reducible refine adraw_go (by simp [List.replicate_succ, hlt, hn]; first | exact rfl | exact ⟨rfl, rfl, rfl⟩) ?_)
       | (with_reducible refine adraw_done (by kernel_rfl) ?_)
       | ((with_reducible refine aBlk_miss ?_ ?_); focus decide)
       | ((with_reducible refine cond_t ?_ ?_); focus (simp [ev, hlt, hn]; done))
       | ((with_reducible refine cond_f ?_ ?_); focus (simp [ev, hlt, hn]; done)))
      (with_reducible first | refine aops_c (rwithin_a n 0 20000) Try.func126 (by kernel_rfl) (by kernel_rfl) ?_ ?_ ?_ | refine adraw_c (rwithin_a n 0 20000) Try.func126 (by kernel_rfl) (by kernel_rfl) ?_ ?_ ?_)
      focus (simp [gate]; done)
      focus (simp [pubCall]; done)
      first | (with_reducible refine aops_run (by simp [List.replicate_succ]; first | exact rfl | exact ⟨rfl, rfl⟩) ?_) | (with_reducible refine adraw_go (by simp [List.replicate_succ]; first | exact rfl | exact ⟨rfl, rfl, rfl⟩) ?_)
      cases hb : inB 0 20000 [n] with
      | false =>
        have e : paramsOk p = false := by rw [hP, hI, hb]; simp
        repeat (first
         | (with_reducible first | refine AW.seq ?_ | refine AW.block ?_ | refine aThen_n ?_ | refine aBlk_n ?_ | refine AW.ret ?_ | refine aThen_r ?_ | refine aBlk_r ?_ | refine aops_done ?_ | refine AW.skip ?_ | refine AW.exit ?_ | refine aThen_e ?_ | refine aBlk_hit ?_ | refine AW.label ?_ | refine AW.scope ?_ | refine aNg_n ?_ | refine aNg_r ?_ | refine aNg_e ?_)
         | ((with_reducible refine AW.region ?_); with_reducible refine aops_run (by simp [List.replicate_succ, hb]; first | exact rfl | exact ⟨rfl, rfl⟩) ?_)
         | ((with_reducible refine AW.draw mixedP ?_ ?_); (focus first | exact .inl rfl | exact .inr (by decide)); with_reducible refine adraw_go (by simp [List.replicate_succ, hb]; first | exact rfl | exact ⟨rfl, rfl, rfl⟩) ?_)
         | (with_reducible refine adraw_done (by kernel_rfl) ?_)
         | ((with_reducible refine aBlk_miss ?_ ?_); focus decide)
         | ((with_reducible refine cond_t ?_ ?_); focus (simp [ev, hb]; done))
         | ((with_reducible refine cond_f ?_ ?_); focus (simp [ev, hb]; done)))
        simp [aRet, ares, aresL, ares1, V.pub, V.pubs, ldV, Try.results92, e]
      | true =>
        repeat (first
         | (with_reducible first | refine AW.seq ?_ | refine AW.block ?_ | refine aThen_n ?_ | refine aBlk_n ?_ | refine AW.ret ?_ | refine aThen_r ?_ | refine aBlk_r ?_ | refine aops_done ?_ | refine AW.skip ?_ | refine AW.exit ?_ | refine aThen_e ?_ | refine aBlk_hit ?_ | refine AW.label ?_ | refine AW.scope ?_ | refine aNg_n ?_ | refine aNg_r ?_ | refine aNg_e ?_)
         | ((with_reducible refine AW.region ?_); with_reducible refine aops_run (by simp [List.replicate_succ, hb, hw]; first | exact rfl | exact ⟨rfl, rfl⟩) ?_)
         | ((with_reducible refine AW.draw mixedP ?_ ?_); (focus first | exact .inl rfl | exact .inr (by decide)); with_reducible refine adraw_go (by simp [List.replicate_succ, hb, hw]; first | exact rfl | exact ⟨rfl, rfl, rfl⟩) ?_)
         | (with_reducible refine adraw_done (by kernel_rfl) ?_)
         | ((with_reducible refine aBlk_miss ?_ ?_); focus decide)
         | ((with_reducible refine cond_t ?_ ?_); focus (simp [ev, hb, hw]; done))
         | ((with_reducible refine cond_f ?_ ?_); focus (simp [ev, hb, hw]; done)))
        refine ⟨⟨k + 1, by omega, by rw [hI, hb, Bool.true_and]⟩, by simp only; omega, ?_⟩
        refine Le.weak (by simp [subT])
    · have e : inB 0 20000 p.lens = true := by rw [hI, List.drop_of_length_le (by omega)]; rfl
      have hp : paramsOk p = (inB 1 100 [p.script] && (inB 1 100 [p.scriptScript] && inB 1 100 [p.delimPercent])) := by
        rw [hP, e, Bool.and_true]
        unfold Params.perc
        rw [inB_cons, inB_cons 1 100 p.scriptScript]
      cases c1 : inB 1 100 [p.script] with
      | false =>
        rw [c1, Bool.false_and] at hp
        repeat (first
         | (with_reducible first | refine AW.seq ?_ | refine AW.block ?_ | refine aThen_n ?_ | refine aBlk_n ?_ | refine AW.ret ?_ | refine aThen_r ?_ | refine aBlk_r ?_ | refine aops_done ?_ | refine AW.skip ?_ | refine AW.exit ?_ | refine aThen_e ?_ | refine aBlk_hit ?_ | refine AW.label ?_ | refine AW.scope ?_ | refine aNg_n ?_ | refine aNg_r ?_ | refine aNg_e ?_)
         | ((with_reducible refine AW.region ?_); with_reducible refine aops_run (by simp [List.replicate_succ, hlt, Params.vs, Params.list]; first | exact rfl | exact ⟨rfl, rfl⟩) ?_)
         | ((with_reducible refine AW.draw mixedP ?_ ?_); (focus first | exact .inl rfl | exact .inr (by decide)); with_reducible refine adraw_go (by simp [List.replicate_succ, hlt, Params.vs, Params.list]; first | exact rfl | exact ⟨rfl, rfl, rfl⟩) ?_)
         | (with_reducible refine adraw_done (by kernel_rfl) ?_)
         | ((with_reducible refine aBlk_miss ?_ ?_); focus decide)
         | ((with_reducible refine cond_t ?_ ?_); focus (simp [ev, hlt, Params.vs, Params.list]; done))
         | ((with_reducible refine cond_f ?_ ?_); focus (simp [ev, hlt, Params.vs, Params.list]; done)))
        (with_reducible first | refine aops_c (rwithin_a p.script 1 100) Try.func126 (by kernel_rfl) (by kernel_rfl) ?_ ?_ ?_ | refine adraw_c (rwithin_a p.script 1 100) Try.func126 (by kernel_rfl) (by kernel_rfl) ?_ ?_ ?_)
        focus (simp [gate, c1]; done)
        focus (simp [pubCall, c1]; done)
        first | (with_reducible refine aops_run (by simp [List.replicate_succ, c1]; first | exact rfl | exact ⟨rfl, rfl⟩) ?_) | (with_reducible refine adraw_go (by simp [List.replicate_succ, c1]; first | exact rfl | exact ⟨rfl, rfl, rfl⟩) ?_)
        repeat (first
         | (with_reducible first | refine AW.seq ?_ | refine AW.block ?_ | refine aThen_n ?_ | refine aBlk_n ?_ | refine AW.ret ?_ | refine aThen_r ?_ | refine aBlk_r ?_ | refine aops_done ?_ | refine AW.skip ?_ | refine AW.exit ?_ | refine aThen_e ?_ | refine aBlk_hit ?_ | refine AW.label ?_ | refine AW.scope ?_ | refine aNg_n ?_ | refine aNg_r ?_ | refine aNg_e ?_)
         | ((with_reducible refine AW.region ?_); with_reducible refine aops_run (by simp [List.replicate_succ]; first | exact rfl | exact ⟨rfl, rfl⟩) ?_)
         | ((with_reducible refine AW.draw mixedP ?_ ?_); (focus first | exact .inl rfl | exact .inr (by decide)); with_reducible refine adraw_go (by simp [List.replicate_succ]; first | exact rfl | exact ⟨rfl, rfl, rfl⟩) ?_)
         | (with_reducible refine adraw_done (by kernel_rfl) ?_)
         | ((with_reducible refine aBlk_miss ?_ ?_); focus decide)
         | ((with_reducible refine cond_t ?_ ?_); focus (simp [ev]; done))
         | ((with_reducible refine cond_f ?_ ?_); focus (simp [ev]; done)))
        simp [aRet, ares, aresL, ares1, V.pub, V.pubs, ldV, Try.results92, hp]
      | true =>
        cases c2 : inB 1 100 [p.scriptScript] with
        | false =>
          rw [c1, c2, Bool.false_and, Bool.and_false] at hp
          repeat (first
           | (with_reducible first | refine AW.seq ?_ | refine AW.block ?_ | refine aThen_n ?_ | refine aBlk_n ?_ | refine AW.ret ?_ | refine aThen_r ?_ | refine aBlk_r ?_ | refine aops_done ?_ | refine AW.skip ?_ | refine AW.exit ?_ | refine aThen_e ?_ | refine aBlk_hit ?_ | refine AW.label ?_ | refine AW.scope ?_ | refine aNg_n ?_ | refine aNg_r ?_ | refine aNg_e ?_)
           | ((with_reducible refine AW.region ?_); with_reducible refine aops_run (by simp [List.replicate_succ, hlt, Params.vs, Params.list]; first | exact rfl | exact ⟨rfl, rfl⟩) ?_)
           | ((with_reducible refine AW.draw mixedP ?_ ?_); (focus first | exact .inl rfl | exact .inr (by decide)); with_reducible refine adraw_go (by simp [List.replicate_succ, hlt, Params.vs, Params.list]; first | exact rfl | exact ⟨rfl, rfl, rfl⟩) ?_)
           | (with_reducible refine adraw_done (by kernel_rfl) ?_)
           | ((with_reducible refine aBlk_miss ?_ ?_); focus decide)
           | ((with_reducible refine cond_t ?_ ?_); focus (simp [ev, hlt, Params.vs, Params.list]; done))
           | ((with_reducible refine cond_f ?_ ?_); focus (simp [ev, hlt, Params.vs, Params.list]; done)))
          (with_reducible first | refine aops_c (rwithin_a p.script 1 100) Try.func126 (by kernel_rfl) (by kernel_rfl) ?_ ?_ ?_ | refine adraw_c (rwithin_a p.script 1 100) Try.func126 (by kernel_rfl) (by kernel_rfl) ?_ ?_ ?_)
          focus (simp [gate, c1]; done)
          focus (simp [pubCall, c1]; done)
          first | (with_reducible refine aops_run (by simp [List.replicate_succ, c1]; first | exact rfl | exact ⟨rfl, rfl⟩) ?_) | (with_reducible refine adraw_go (by simp [List.replicate_succ, c1]; first | exact rfl | exact ⟨rfl, rfl, rfl⟩) ?_)
          (with_reducible first | refine aops_c (rwithin_a p.scriptScript 1 100) Try.func126 (by kernel_rfl) (by kernel_rfl) ?_ ?_ ?_ | refine adraw_c (rwithin_a p.scriptScript 1 100) Try.func126 (by kernel_rfl) (by kernel_rfl) ?_ ?_ ?_)
          focus (simp [gate, c2]; done)
          focus (simp [pubCall, c2]; done)
          first | (with_reducible refine aops_run (by simp [List.replicate_succ, c2]; first | exact rfl | exact ⟨rfl, rfl⟩) ?_) | (with_reducible refine adraw_go (by simp [List.replicate_succ, c2]; first | exact rfl | exact ⟨rfl, rfl, rfl⟩) ?_)
          repeat (first
           | (with_reducible first | refine AW.seq ?_ | refine AW.block ?_ | refine aThen_n ?_ | refine aBlk_n ?_ | refine AW.ret ?_ | refine aThen_r ?_ | refine aBlk_r ?_ | refine aops_done ?_ | refine AW.skip ?_ | refine AW.exit ?_ | refine aThen_e ?_ | refine aBlk_hit ?_ | refine AW.label ?_ | refine AW.scope ?_ | refine aNg_n ?_ | refine aNg_r ?_ | refine aNg_e ?_)
           | ((with_reducible refine AW.region ?_); with_reducible refine aops_run (by simp [List.replicate_succ]; first | exact rfl | exact ⟨rfl, rfl⟩) ?_)
           | ((with_reducible refine AW.draw mixedP ?_ ?_); (focus first | exact .inl rfl | exact .inr (by decide)); with_reducible refine adraw_go (by simp [List.replicate_succ]; first | exact rfl | exact ⟨rfl, rfl, rfl⟩) ?_)
           | (with_reducible refine adraw_done (by kernel_rfl) ?_)
           | ((with_reducible refine aBlk_miss ?_ ?_); focus decide)
           | ((with_reducible refine cond_t ?_ ?_); focus (simp [ev]; done))
           | ((with_reducible refine cond_f ?_ ?_); focus (simp [ev]; done)))
          simp [aRet, ares, aresL, ares1, V.pub, V.pubs, ldV, Try.results92, hp]
        | true =>
          rw [c1, c2, Bool.true_and, Bool.true_and] at hp
          repeat (first
           | (with_reducible first | refine AW.seq ?_ | refine AW.block ?_ | refine aThen_n ?_ | refine aBlk_n ?_ | refine AW.ret ?_ | refine aThen_r ?_ | refine aBlk_r ?_ | refine aops_done ?_ | refine AW.skip ?_ | refine AW.exit ?_ | refine aThen_e ?_ | refine aBlk_hit ?_ | refine AW.label ?_ | refine AW.scope ?_ | refine aNg_n ?_ | refine aNg_r ?_ | refine aNg_e ?_)
           | ((with_reducible refine AW.region ?_); with_reducible refine aops_run (by simp [List.replicate_succ, hlt, Params.vs, Params.list]; first | exact rfl | exact ⟨rfl, rfl⟩) ?_)
           | ((with_reducible refine AW.draw mixedP ?_ ?_); (focus first | exact .inl rfl | exact .inr (by decide)); with_reducible refine adraw_go (by simp [List.replicate_succ, hlt, Params.vs, Params.list]; first | exact rfl | exact ⟨rfl, rfl, rfl⟩) ?_)
           | (with_reducible refine adraw_done (by kernel_rfl) ?_)
           | ((with_reducible refine aBlk_miss ?_ ?_); focus decide)
           | ((with_reducible refine cond_t ?_ ?_); focus (simp [ev, hlt, Params.vs, Params.list]; done))
           | ((with_reducible refine cond_f ?_ ?_); focus (simp [ev, hlt, Params.vs, Params.list]; done)))
          (with_reducible first | refine aops_c (rwithin_a p.script 1 100) Try.func126 (by kernel_rfl) (by kernel_rfl) ?_ ?_ ?_ | refine adraw_c (rwithin_a p.script 1 100) Try.func126 (by kernel_rfl) (by kernel_rfl) ?_ ?_ ?_)
          focus (simp [gate, c1]; done)
          focus (simp [pubCall, c1]; done)
          first | (with_reducible refine aops_run (by simp [List.replicate_succ, c1]; first | exact rfl | exact ⟨rfl, rfl⟩) ?_) | (with_reducible refine adraw_go (by simp [List.replicate_succ, c1]; first | exact rfl | exact ⟨rfl, rfl, rfl⟩) ?_)
          (with_reducible first | refine aops_c (rwithin_a p.scriptScript 1 100) Try.func126 (by kernel_rfl) (by kernel_rfl) ?_ ?_ ?_ | refine adraw_c (rwithin_a p.scriptScript 1 100) Try.func126 (by kernel_rfl) (by kernel_rfl) ?_ ?_ ?_)
          focus (simp [gate, c2]; done)
          focus (simp [pubCall, c2]; done)
          first | (with_reducible refine aops_run (by simp [List.replicate_succ, c2]; first | exact rfl | exact ⟨rfl, rfl⟩) ?_) | (with_reducible refine adraw_go (by simp [List.replicate_succ, c2]; first | exact rfl | exact ⟨rfl, rfl, rfl⟩) ?_)
          (with_reducible first | refine aops_c (rwithin_a p.delimPercent 1 100) Try.func126 (by kernel_rfl) (by kernel_rfl) ?_ ?_ ?_ | refine adraw_c (rwithin_a p.delimPercent 1 100) Try.func126 (by kernel_rfl) (by kernel_rfl) ?_ ?_ ?_)
          focus (simp [gate]; done)
          focus (simp [pubCall]; done)
          first | (with_reducible refine aops_run (by simp [List.replicate_succ]; first | exact rfl | exact ⟨rfl, rfl⟩) ?_) | (with_reducible refine adraw_go (by simp [List.replicate_succ]; first | exact rfl | exact ⟨rfl, rfl, rfl⟩) ?_)
          repeat (first
           | (with_reducible first | refine AW.seq ?_ | refine AW.block ?_ | refine aThen_n ?_ | refine aBlk_n ?_ | refine AW.ret ?_ | refine aThen_r ?_ | refine aBlk_r ?_ | refine aops_done ?_ | refine AW.skip ?_ | refine AW.exit ?_ | refine aThen_e ?_ | refine aBlk_hit ?_ | refine AW.label ?_ | refine AW.scope ?_ | refine aNg_n ?_ | refine aNg_r ?_ | refine aNg_e ?_)
           | ((with_reducible refine AW.region ?_); with_reducible refine aops_run (by simp [List.replicate_succ]; first | exact rfl | exact ⟨rfl, rfl⟩) ?_)
           | ((with_reducible refine AW.draw mixedP ?_ ?_); (focus first | exact .inl rfl | exact .inr (by decide)); with_reducible refine adraw_go (by simp [List.replicate_succ]; first | exact rfl | exact ⟨rfl, rfl, rfl⟩) ?_)
           | (with_reducible refine adraw_done (by kernel_rfl) ?_)
           | ((with_reducible refine aBlk_miss ?_ ?_); focus decide)
           | ((with_reducible refine cond_t ?_ ?_); focus (simp [ev]; done))
           | ((with_reducible refine cond_f ?_ ?_); focus (simp [ev]; done)))
          simp [aRet, ares, aresL, ares1, V.pub, V.pubs, ldV, Try.results92, hp]

def fewB (f : Font) : Bool := (decide (f.glyphs.length ≤ 500) && decide (f.stretches.length ≤ 50)) && f.stretches.all fun s => decide (s.sizes.length ≤ 50) && decide (s.parts.length ≤ 50)
theorem few_a (f : Font) (hg : f.glyphs.length ≤ maxLen) : AC Try.prog 22 [.agg f.vs] (.c (.bool (fewB f))) := by
  by_cases h1 : (500 : Int) < (f.glyphs.length : Int)
  · have e : fewB f = false := by simp [fewB]; omega
    refine AC.intro Try.func22 rfl ?_
    simp only [Try.ntmps22, List.map_cons, List.map_nil, List.length_cons, List.length_nil, Nat.reduceAdd, Nat.reduceSub, List.replicate_succ, List.replicate_zero, List.cons_append, List.nil_append]
    repeat (first
     | (with_reducible first | refine AW.seq ?_ | refine AW.block ?_ | refine aThen_n ?_ | refine aBlk_n ?_ | refine AW.ret ?_ | refine aThen_r ?_ | refine aBlk_r ?_ | refine aops_done ?_ | refine AW.skip ?_ | refine AW.exit ?_ | refine aThen_e ?_ | refine aBlk_hit ?_ | refine AW.label ?_ | refine AW.scope ?_ | refine aNg_n ?_ | refine aNg_r ?_ | refine aNg_e ?_)
     | ((with_reducible refine AW.region ?_); with_reducible refine aops_run (by simp [List.replicate_succ, h1, glyphsC]; first | exact rfl | exact ⟨rfl, rfl⟩) ?_)
     | ((with_reducible refine AW.draw mixedP ?_ ?_); (focus first | exact .inl rfl | exact .inr (by decide)); with_reducible refine adraw_go (by simp [List.replicate_succ, h1, glyphsC]; first | exact rfl | exact ⟨rfl, rfl, rfl⟩) ?_)
     | (with_reducible refine adraw_done (by kernel_rfl) ?_)
     | ((with_reducible refine aBlk_miss ?_ ?_); focus decide)
     | ((with_reducible refine cond_t ?_ ?_); focus (simp [ev, h1, glyphsC]; done))
     | ((with_reducible refine cond_f ?_ ?_); focus (simp [ev, h1, glyphsC]; done)))
    simp [aRet, ares, aresL, ares1, V.pub, V.pubs, ldV, Try.results22, e]
  · by_cases h2 : (50 : Int) < (f.stretches.length : Int)
    · have e : fewB f = false := by simp [fewB]; omega
      refine AC.intro Try.func22 rfl ?_
      simp only [Try.ntmps22, List.map_cons, List.map_nil, List.length_cons, List.length_nil, Nat.reduceAdd, Nat.reduceSub, List.replicate_succ, List.replicate_zero, List.cons_append, List.nil_append]
      repeat (first
       | (with_reducible first | refine AW.seq ?_ | refine AW.block ?_ | refine aThen_n ?_ | refine aBlk_n ?_ | refine AW.ret ?_ | refine aThen_r ?_ | refine aBlk_r ?_ | refine aops_done ?_ | refine AW.skip ?_ | refine AW.exit ?_ | refine aThen_e ?_ | refine aBlk_hit ?_ | refine AW.label ?_ | refine AW.scope ?_ | refine aNg_n ?_ | refine aNg_r ?_ | refine aNg_e ?_)
       | ((with_reducible refine AW.region ?_); with_reducible refine aops_run (by simp [List.replicate_succ, h1, h2, glyphsC, stretchesC]; first | exact rfl | exact ⟨rfl, rfl⟩) ?_)
       | ((with_reducible refine AW.draw mixedP ?_ ?_); (focus first | exact .inl rfl | exact .inr (by decide)); with_reducible refine adraw_go (by simp [List.replicate_succ, h1, h2, glyphsC, stretchesC]; first | exact rfl | exact ⟨rfl, rfl, rfl⟩) ?_)
       | (with_reducible refine adraw_done (by kernel_rfl) ?_)
       | ((with_reducible refine aBlk_miss ?_ ?_); focus decide)
       | ((with_reducible refine cond_t ?_ ?_); focus (simp [ev, h1, h2, glyphsC, stretchesC]; done))
       | ((with_reducible refine cond_f ?_ ?_); focus (simp [ev, h1, h2, glyphsC, stretchesC]; done)))
      simp [aRet, ares, aresL, ares1, V.pub, V.pubs, ldV, Try.results22, e]
    · have hF : fewB f = f.stretches.all fun s => decide (s.sizes.length ≤ 50) && decide (s.parts.length ≤ 50) := by
        unfold fewB
        rw [decide_eq_true (show f.glyphs.length ≤ 500 by omega), decide_eq_true (show f.stretches.length ≤ 50 by omega)]
        rfl
      refine AC.intro Try.func22 rfl ?_
      simp only [Try.ntmps22, List.map_cons, List.map_nil, List.length_cons, List.length_nil, Nat.reduceAdd, Nat.reduceSub, List.replicate_succ, List.replicate_zero, List.cons_append, List.nil_append]
      repeat (first
       | (with_reducible first | refine AW.seq ?_ | refine AW.block ?_ | refine aThen_n ?_ | refine aBlk_n ?_ | refine AW.ret ?_ | refine aThen_r ?_ | refine aBlk_r ?_ | refine aops_done ?_ | refine AW.skip ?_ | refine AW.exit ?_ | refine aThen_e ?_ | refine aBlk_hit ?_ | refine AW.label ?_ | refine AW.scope ?_ | refine aNg_n ?_ | refine aNg_r ?_ | refine aNg_e ?_)
       | ((with_reducible refine AW.region ?_); with_reducible refine aops_run (by simp [List.replicate_succ, h1, h2, glyphsC, stretchesC]; first | exact rfl | exact ⟨rfl, rfl⟩) ?_)
       | ((with_reducible refine AW.draw mixedP ?_ ?_); (focus first | exact .inl rfl | exact .inr (by decide)); with_reducible refine adraw_go (by simp [List.replicate_succ, h1, h2, glyphsC, stretchesC]; first | exact rfl | exact ⟨rfl, rfl, rfl⟩) ?_)
       | (with_reducible refine adraw_done (by kernel_rfl) ?_)
       | ((with_reducible refine aBlk_miss ?_ ?_); focus decide)
       | ((with_reducible refine cond_t ?_ ?_); focus (simp [ev, h1, h2, glyphsC, stretchesC]; done))
       | ((with_reducible refine cond_f ?_ ?_); focus (simp [ev, h1, h2, glyphsC, stretchesC]; done)))
      refine AW.loopH (ι := { k : Nat // k ≤ f.stretches.length ∧ fewB f = (f.stretches.drop k).all fun s => decide (s.sizes.length ≤ 50) && decide (s.parts.length ≤ 50) }) (fun k => [(3, .c (.int .i64 (k.1 : Int))), (2, .c (.bool false))]) (fun _ => [.box 27 f.vs false]) (fun k => f.stretches.length - k.1) ⟨0, by simp [hF]⟩ _ (by simp only [wr, wrOps, List.cons_append, List.nil_append, List.append_nil, List.append_assoc]; exact rfl) _ (by simp only [havoc, List.foldl_cons, List.foldl_nil, List.set_cons_zero, List.set_cons_succ]; exact rfl) ?_ ?_
      all_goals simp only [puts, List.foldl_cons, List.foldl_nil, List.set_cons_zero, List.set_cons_succ]
      · refine Le.weak (by simp [subT])
      · rintro ⟨k, hk, hI⟩
        by_cases hlt : k < f.stretches.length
        · obtain ⟨s, hs⟩ : ∃ s, f.stretches[k] = s := ⟨_, rfl⟩
          rw [List.drop_eq_getElem_cons hlt, hs, List.all_cons] at hI
          by_cases h3 : (50 : Int) < (s.sizes.length : Int)
          · have e : fewB f = false := by rw [hI]; simp; omega
            repeat (first
             | (with_reducible first | refine AW.seq ?_ | refine AW.block ?_ | refine aThen_n ?_ | refine aBlk_n ?_ | refine AW.ret ?_ | refine aThen_r ?_ | refine aBlk_r ?_ | refine aops_done ?_ | refine AW.skip ?_ | refine AW.exit ?_ | refine aThen_e ?_ | refine aBlk_hit ?_ | refine AW.label ?_ | refine AW.scope ?_ | refine aNg_n ?_ | refine aNg_r ?_ | refine aNg_e ?_)
             | ((with_reducible refine AW.region ?_); with_reducible refine aops_run (by simp [List.replicate_succ, hlt, hs, h3, stretchesC, Stretch.row, sizesC, partsC]; first | exact rfl | exact ⟨rfl, rfl⟩) ?_)
             | ((with_reducible refine AW.draw mixedP ?_ ?_); (focus first | exact .inl rfl | exact .inr (by decide)); with_reducible refine adraw_go (by simp [List.replicate_succ, hlt, hs, h3, stretchesC, Stretch.row, sizesC, partsC]; first | exact rfl | exact ⟨rfl, rfl, rfl⟩) ?_)
             | (with_reducible refine adraw_done (by kernel_rfl) ?_)
             | ((with_reducible refine aBlk_miss ?_ ?_); focus decide)
             | ((with_reducible refine cond_t ?_ ?_); focus (simp [ev, hlt, hs, h3, stretchesC, Stretch.row, sizesC, partsC]; done))
             | ((with_reducible refine cond_f ?_ ?_); focus (simp [ev, hlt, hs, h3, stretchesC, Stretch.row, sizesC, partsC]; done)))
            simp [aRet, ares, aresL, ares1, V.pub, V.pubs, ldV, Try.results22, e]
          · by_cases h4 : (50 : Int) < (s.parts.length : Int)
            · have e : fewB f = false := by rw [hI]; simp; omega
              repeat (first
               | (with_reducible first | refine AW.seq ?_ | refine AW.block ?_ | refine aThen_n ?_ | refine aBlk_n ?_ | refine AW.ret ?_ | refine aThen_r ?_ | refine aBlk_r ?_ | refine aops_done ?_ | refine AW.skip ?_ | refine AW.exit ?_ | refine aThen_e ?_ | refine aBlk_hit ?_ | refine AW.label ?_ | refine AW.scope ?_ | refine aNg_n ?_ | refine aNg_r ?_ | refine aNg_e ?_)
               | ((with_reducible refine AW.region ?_); with_reducible refine aops_run (by simp [List.replicate_succ, hlt, hs, h3, h4, stretchesC, Stretch.row, sizesC, partsC]; first | exact rfl | exact ⟨rfl, rfl⟩) ?_)
               | ((with_reducible refine AW.draw mixedP ?_ ?_); (focus first | exact .inl rfl | exact .inr (by decide)); with_reducible refine adraw_go (by simp [List.replicate_succ, hlt, hs, h3, h4, stretchesC, Stretch.row, sizesC, partsC]; first | exact rfl | exact ⟨rfl, rfl, rfl⟩) ?_)
               | (with_reducible refine adraw_done (by kernel_rfl) ?_)
               | ((with_reducible refine aBlk_miss ?_ ?_); focus decide)
               | ((with_reducible refine cond_t ?_ ?_); focus (simp [ev, hlt, hs, h3, h4, stretchesC, Stretch.row, sizesC, partsC]; done))
               | ((with_reducible refine cond_f ?_ ?_); focus (simp [ev, hlt, hs, h3, h4, stretchesC, Stretch.row, sizesC, partsC]; done)))
              simp [aRet, ares, aresL, ares1, V.pub, V.pubs, ldV, Try.results22, e]
            · have hw : IntKind.i64.wrap ((k : Int) + 1) = ((k + 1 : Nat) : Int) := by rw [wrap_i64 (by omega) (by omega)]; simp
              repeat (first
               | (with_reducible first | refine AW.seq ?_ | refine AW.block ?_ | refine aThen_n ?_ | refine aBlk_n ?_ | refine AW.ret ?_ | refine aThen_r ?_ | refine aBlk_r ?_ | refine aops_done ?_ | refine AW.skip ?_ | refine AW.exit ?_ | refine aThen_e ?_ | refine aBlk_hit ?_ | refine AW.label ?_ | refine AW.scope ?_ | refine aNg_n ?_ | refine aNg_r ?_ | refine aNg_e ?_)
               | ((with_reducible refine AW.region ?_); with_reducible refine aops_run (by simp [List.replicate_succ, hlt, hs, h3, h4, stretchesC, Stretch.row, sizesC, partsC, hw]; first | exact rfl | exact ⟨rfl, rfl⟩) ?_)
               | ((with_reducible refine AW.draw mixedP ?_ ?_); (focus first | exact .inl rfl | exact .inr (by decide)); with_reducible refine adraw_go (by simp [List.replicate_succ, hlt, hs, h3, h4, stretchesC, Stretch.row, sizesC, partsC, hw]; first | exact rfl | exact ⟨rfl, rfl, rfl⟩) ?_)
               | (with_reducible refine adraw_done (by kernel_rfl) ?_)
               | ((with_reducible refine aBlk_miss ?_ ?_); focus decide)
               | ((with_reducible refine cond_t ?_ ?_); focus (simp [ev, hlt, hs, h3, h4, stretchesC, Stretch.row, sizesC, partsC, hw]; done))
               | ((with_reducible refine cond_f ?_ ?_); focus (simp [ev, hlt, hs, h3, h4, stretchesC, Stretch.row, sizesC, partsC, hw]; done)))
              refine ⟨⟨k + 1, by omega, by rw [hI, decide_eq_true (show s.sizes.length ≤ 50 by omega), decide_eq_true (show s.parts.length ≤ 50 by omega)]; rfl⟩, by simp only; omega, ?_⟩
              refine Le.weak (by simp [subT])
        · have e : fewB f = true := by rw [hI, List.drop_of_length_le (by omega)]; rfl
          repeat (first
           | (with_reducible first | refine AW.seq ?_ | refine AW.block ?_ | refine aThen_n ?_ | refine aBlk_n ?_ | refine AW.ret ?_ | refine aThen_r ?_ | refine aBlk_r ?_ | refine aops_done ?_ | refine AW.skip ?_ | refine AW.exit ?_ | refine aThen_e ?_ | refine aBlk_hit ?_ | refine AW.label ?_ | refine AW.scope ?_ | refine aNg_n ?_ | refine aNg_r ?_ | refine aNg_e ?_)
           | ((with_reducible refine AW.region ?_); with_reducible refine aops_run (by simp [List.replicate_succ, hlt, stretchesC]; first | exact rfl | exact ⟨rfl, rfl⟩) ?_)
           | ((with_reducible refine AW.draw mixedP ?_ ?_); (focus first | exact .inl rfl | exact .inr (by decide)); with_reducible refine adraw_go (by simp [List.replicate_succ, hlt, stretchesC]; first | exact rfl | exact ⟨rfl, rfl, rfl⟩) ?_)
           | (with_reducible refine adraw_done (by kernel_rfl) ?_)
           | ((with_reducible refine aBlk_miss ?_ ?_); focus decide)
           | ((with_reducible refine cond_t ?_ ?_); focus (simp [ev, hlt, stretchesC]; done))
           | ((with_reducible refine cond_f ?_ ?_); focus (simp [ev, hlt, stretchesC]; done)))
          simp [aRet, ares, aresL, ares1, V.pub, V.pubs, ldV, Try.results22, e]
end Go.Proofs.Ythbcljjpmdfflaa
