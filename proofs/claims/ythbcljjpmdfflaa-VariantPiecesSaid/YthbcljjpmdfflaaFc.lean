/-
  Layer 5 on the abstract machine: picking and scaling glyphs.
-/
import Derived.Test.YthbcljjpmdfflaaFb
namespace Go.Proofs.Ythbcljjpmdfflaa
open Go.RowKit
set_option linter.unusedSimpArgs false
set_option linter.unusedVariables false
set_option maxRecDepth 100000

theorem rfind_a (f : Font) (name : ByteArray) (hl : f.glyphs.length ≤ maxLen) : AC Try.prog 106 [.agg f.vs, .c (.str name)] (foundV (f.find name)) := by
  unfold maxLen at hl
  refine AC.intro Try.func106 rfl ?_
  simp only [Try.ntmps106, List.map_cons, List.map_nil, List.length_cons, List.length_nil, Nat.reduceAdd, Nat.reduceSub, List.replicate_succ, List.replicate_zero, List.cons_append, List.nil_append]
  repeat (first
   | (with_reducible first | refine AW.seq ?_ | refine AW.block ?_ | refine aThen_n ?_ | refine aBlk_n ?_ | refine AW.ret ?_ | refine aThen_r ?_ | refine aBlk_r ?_ | refine aops_done ?_ | refine AW.skip ?_ | refine AW.exit ?_ | refine aThen_e ?_ | refine aBlk_hit ?_ | refine AW.label ?_ | refine AW.scope ?_ | refine aNg_n ?_ | refine aNg_r ?_ | refine aNg_e ?_)
   | ((with_reducible refine AW.region ?_); with_reducible refine aops_run (by simp [List.replicate_succ, glyphsC]; first | exact rfl | exact ⟨rfl, rfl⟩) ?_)
   | ((with_reducible refine AW.draw mixedP ?_ ?_); (focus first | exact .inl rfl | exact .inr (by decide)); with_reducible refine adraw_go (by simp [List.replicate_succ, glyphsC]; first | exact rfl | exact ⟨rfl, rfl, rfl⟩) ?_)
   | (with_reducible refine adraw_done (by kernel_rfl) ?_)
   | ((with_reducible refine aBlk_miss ?_ ?_); focus decide)
   | ((with_reducible refine cond_t ?_ ?_); focus (simp [ev, glyphsC]; done))
   | ((with_reducible refine cond_f ?_ ?_); focus (simp [ev, glyphsC]; done)))
  refine AW.loopH (ι := { k : Nat // k ≤ f.glyphs.length ∧ f.find name = findO name (f.glyphs.drop k) }) (fun k => [(6, .c (.int .i64 (k.1 : Int))), (5, .c (.bool false))]) (fun _ => [.box 27 f.vs false, .box 102 (Glyph.zero.row.map V.c) false]) (fun k => f.glyphs.length - k.1) ⟨0, by simp [Font.find]⟩ _ (by simp only [wr, wrOps, List.cons_append, List.nil_append, List.append_nil, List.append_assoc]; exact rfl) _ (by simp only [havoc, List.foldl_cons, List.foldl_nil, List.set_cons_zero, List.set_cons_succ]; exact rfl) ?_ ?_
  all_goals simp only [puts, List.foldl_cons, List.foldl_nil, List.set_cons_zero, List.set_cons_succ]
  · refine Le.weak (by simp [subT, Glyph.zero, Glyph.row])
  · rintro ⟨k, hk, hI⟩
    by_cases hlt : k < f.glyphs.length
    · obtain ⟨g, hg⟩ : ∃ g, f.glyphs[k] = g := ⟨_, rfl⟩
      rw [List.drop_eq_getElem_cons hlt, hg] at hI
      by_cases he : g.name = name
      · have hF : f.find name = some g := by rw [hI]; simp [findO, he]
        repeat (first
         | (with_reducible first | refine AW.seq ?_ | refine AW.block ?_ | refine aThen_n ?_ | refine aBlk_n ?_ | refine AW.ret ?_ | refine aThen_r ?_ | refine aBlk_r ?_ | refine aops_done ?_ | refine AW.skip ?_ | refine AW.exit ?_ | refine aThen_e ?_ | refine aBlk_hit ?_ | refine AW.label ?_ | refine AW.scope ?_ | refine aNg_n ?_ | refine aNg_r ?_ | refine aNg_e ?_)
         | ((with_reducible refine AW.region ?_); with_reducible refine aops_run (by simp [List.replicate_succ, hlt, hg, he, glyphsC, Glyph.row]; first | exact rfl | exact ⟨rfl, rfl⟩) ?_)
         | ((with_reducible refine AW.draw mixedP ?_ ?_); (focus first | exact .inl rfl | exact .inr (by decide)); with_reducible refine adraw_go (by simp [List.replicate_succ, hlt, hg, he, glyphsC, Glyph.row]; first | exact rfl | exact ⟨rfl, rfl, rfl⟩) ?_)
         | (with_reducible refine adraw_done (by kernel_rfl) ?_)
         | ((with_reducible refine aBlk_miss ?_ ?_); focus decide)
         | ((with_reducible refine cond_t ?_ ?_); focus (simp [ev, hlt, hg, he, glyphsC, Glyph.row]; done))
         | ((with_reducible refine cond_f ?_ ?_); focus (simp [ev, hlt, hg, he, glyphsC, Glyph.row]; done)))
        simp [aRet, ares, aresL, ares1, V.pub, V.pubs, ldV, Try.results106, foundV, hF, Glyph.row, he]
      · have hw : IntKind.i64.wrap ((k : Int) + 1) = ((k + 1 : Nat) : Int) := by rw [wrap_i64 (by omega) (by omega)]; simp
        repeat (first
         | (with_reducible first | refine AW.seq ?_ | refine AW.block ?_ | refine aThen_n ?_ | refine aBlk_n ?_ | refine AW.ret ?_ | refine aThen_r ?_ | refine aBlk_r ?_ | refine aops_done ?_ | refine AW.skip ?_ | refine AW.exit ?_ | refine aThen_e ?_ | refine aBlk_hit ?_ | refine AW.label ?_ | refine AW.scope ?_ | refine aNg_n ?_ | refine aNg_r ?_ | refine aNg_e ?_)
         | ((with_reducible refine AW.region ?_); with_reducible refine aops_run (by simp [List.replicate_succ, hlt, hg, he, glyphsC, Glyph.row, hw]; first | exact rfl | exact ⟨rfl, rfl⟩) ?_)
         | ((with_reducible refine AW.draw mixedP ?_ ?_); (focus first | exact .inl rfl | exact .inr (by decide)); with_reducible refine adraw_go (by simp [List.replicate_succ, hlt, hg, he, glyphsC, Glyph.row, hw]; first | exact rfl | exact ⟨rfl, rfl, rfl⟩) ?_)
         | (with_reducible refine adraw_done (by kernel_rfl) ?_)
         | ((with_reducible refine aBlk_miss ?_ ?_); focus decide)
         | ((with_reducible refine cond_t ?_ ?_); focus (simp [ev, hlt, hg, he, glyphsC, Glyph.row, hw]; done))
         | ((with_reducible refine cond_f ?_ ?_); focus (simp [ev, hlt, hg, he, glyphsC, Glyph.row, hw]; done)))
        refine ⟨⟨k + 1, by omega, by rw [hI]; simp [findO, he]⟩, by simp only; omega, ?_⟩
        refine Le.weak (by simp [subT, Glyph.zero, Glyph.row])
    · have hF : f.find name = none := by rw [hI, List.drop_of_length_le (by omega)]; rfl
      repeat (first
       | (with_reducible first | refine AW.seq ?_ | refine AW.block ?_ | refine aThen_n ?_ | refine aBlk_n ?_ | refine AW.ret ?_ | refine aThen_r ?_ | refine aBlk_r ?_ | refine aops_done ?_ | refine AW.skip ?_ | refine AW.exit ?_ | refine aThen_e ?_ | refine aBlk_hit ?_ | refine AW.label ?_ | refine AW.scope ?_ | refine aNg_n ?_ | refine aNg_r ?_ | refine aNg_e ?_)
       | ((with_reducible refine AW.region ?_); with_reducible refine aops_run (by simp [List.replicate_succ, hlt, Glyph.zero, Glyph.row, glyphsC]; first | exact rfl | exact ⟨rfl, rfl⟩) ?_)
       | ((with_reducible refine AW.draw mixedP ?_ ?_); (focus first | exact .inl rfl | exact .inr (by decide)); with_reducible refine adraw_go (by simp [List.replicate_succ, hlt, Glyph.zero, Glyph.row, glyphsC]; first | exact rfl | exact ⟨rfl, rfl, rfl⟩) ?_)
       | (with_reducible refine adraw_done (by kernel_rfl) ?_)
       | ((with_reducible refine aBlk_miss ?_ ?_); focus decide)
       | ((with_reducible refine cond_t ?_ ?_); focus (simp [ev, hlt, Glyph.zero, Glyph.row, glyphsC]; done))
       | ((with_reducible refine cond_f ?_ ?_); focus (simp [ev, hlt, Glyph.zero, Glyph.row, glyphsC]; done)))
      simp [aRet, ares, aresL, ares1, V.pub, V.pubs, ldV, Try.results106, foundV, hF, Glyph.zero, Glyph.row]

theorem pick_a (f : Font) (name : ByteArray) (hl : f.glyphs.length ≤ maxLen) : AC Try.prog 135 [.agg f.vs, .c (.str name)] (glyphV (f.pick name)) := by
  refine AC.intro Try.func135 rfl ?_
  simp only [Try.ntmps135, List.map_cons, List.map_nil, List.length_cons, List.length_nil, Nat.reduceAdd, Nat.reduceSub, List.replicate_succ, List.replicate_zero, List.cons_append, List.nil_append]
  repeat (first
   | (with_reducible first | refine AW.seq ?_ | refine AW.block ?_ | refine aThen_n ?_ | refine aBlk_n ?_ | refine AW.ret ?_ | refine aThen_r ?_ | refine aBlk_r ?_ | refine aops_done ?_ | refine AW.skip ?_ | refine AW.exit ?_ | refine aThen_e ?_ | refine aBlk_hit ?_ | refine AW.label ?_ | refine AW.scope ?_ | refine aNg_n ?_ | refine aNg_r ?_ | refine aNg_e ?_)
   | ((with_reducible refine AW.region ?_); with_reducible refine aops_run (by simp [List.replicate_succ]; first | exact rfl | exact ⟨rfl, rfl⟩) ?_)
   | ((with_reducible refine AW.draw mixedP ?_ ?_); (focus first | exact .inl rfl | exact .inr (by decide)); with_reducible refine adraw_go (by simp [List.replicate_succ]; first | exact rfl | exact ⟨rfl, rfl, rfl⟩) ?_)
   | (with_reducible refine adraw_done (by kernel_rfl) ?_)
   | ((with_reducible refine aBlk_miss ?_ ?_); focus decide)
   | ((with_reducible refine cond_t ?_ ?_); focus (simp [ev]; done))
   | ((with_reducible refine cond_f ?_ ?_); focus (simp [ev]; done)))
  (with_reducible first | refine aops_c (find_a f name hl) Try.func145 (by kernel_rfl) (by kernel_rfl) ?_ ?_ ?_ | refine adraw_c (find_a f name hl) Try.func145 (by kernel_rfl) (by kernel_rfl) ?_ ?_ ?_)
  focus (simp [gate, foundV, Glyph.row]; done)
  focus (simp [pubCall, foundV, Glyph.row]; done)
  first | (with_reducible refine aops_run (by simp [List.replicate_succ, foundV, Glyph.row]; first | exact rfl | exact ⟨rfl, rfl⟩) ?_) | (with_reducible refine adraw_go (by simp [List.replicate_succ, foundV, Glyph.row]; first | exact rfl | exact ⟨rfl, rfl, rfl⟩) ?_)
  cases hf : f.find name with
  | some g =>
    repeat (first
     | (with_reducible first | refine AW.seq ?_ | refine AW.block ?_ | refine aThen_n ?_ | refine aBlk_n ?_ | refine AW.ret ?_ | refine aThen_r ?_ | refine aBlk_r ?_ | refine aops_done ?_ | refine AW.skip ?_ | refine AW.exit ?_ | refine aThen_e ?_ | refine aBlk_hit ?_ | refine AW.label ?_ | refine AW.scope ?_ | refine aNg_n ?_ | refine aNg_r ?_ | refine aNg_e ?_)
     | ((with_reducible refine AW.region ?_); with_reducible refine aops_run (by simp [List.replicate_succ, Glyph.row]; first | exact rfl | exact ⟨rfl, rfl⟩) ?_)
     | ((with_reducible refine AW.draw mixedP ?_ ?_); (focus first | exact .inl rfl | exact .inr (by decide)); with_reducible refine adraw_go (by simp [List.replicate_succ, Glyph.row]; first | exact rfl | exact ⟨rfl, rfl, rfl⟩) ?_)
     | (with_reducible refine adraw_done (by kernel_rfl) ?_)
     | ((with_reducible refine aBlk_miss ?_ ?_); focus decide)
     | ((with_reducible refine cond_t ?_ ?_); focus (simp [ev, Glyph.row]; done))
     | ((with_reducible refine cond_f ?_ ?_); focus (simp [ev, Glyph.row]; done)))
    simp [aRet, ares, aresL, ares1, V.pub, V.pubs, ldV, Try.results135, glyphV, Font.pick, hf, Glyph.row]
  | none =>
    repeat (first
     | (with_reducible first | refine AW.seq ?_ | refine AW.block ?_ | refine aThen_n ?_ | refine aBlk_n ?_ | refine AW.ret ?_ | refine aThen_r ?_ | refine aBlk_r ?_ | refine aops_done ?_ | refine AW.skip ?_ | refine AW.exit ?_ | refine aThen_e ?_ | refine aBlk_hit ?_ | refine AW.label ?_ | refine AW.scope ?_ | refine aNg_n ?_ | refine aNg_r ?_ | refine aNg_e ?_)
     | ((with_reducible refine AW.region ?_); with_reducible refine aops_run (by simp [List.replicate_succ, Glyph.zero, Glyph.row]; first | exact rfl | exact ⟨rfl, rfl⟩) ?_)
     | ((with_reducible refine AW.draw mixedP ?_ ?_); (focus first | exact .inl rfl | exact .inr (by decide)); with_reducible refine adraw_go (by simp [List.replicate_succ, Glyph.zero, Glyph.row]; first | exact rfl | exact ⟨rfl, rfl, rfl⟩) ?_)
     | (with_reducible refine adraw_done (by kernel_rfl) ?_)
     | ((with_reducible refine aBlk_miss ?_ ?_); focus decide)
     | ((with_reducible refine cond_t ?_ ?_); focus (simp [ev, Glyph.zero, Glyph.row]; done))
     | ((with_reducible refine cond_f ?_ ?_); focus (simp [ev, Glyph.zero, Glyph.row]; done)))
    (with_reducible first | refine aops_c (find_a f ⟨#[63]⟩ hl) Try.func145 (by kernel_rfl) (by kernel_rfl) ?_ ?_ ?_ | refine adraw_c (find_a f ⟨#[63]⟩ hl) Try.func145 (by kernel_rfl) (by kernel_rfl) ?_ ?_ ?_)
    focus (simp [gate, foundV, Glyph.row]; done)
    focus (simp [pubCall, foundV, Glyph.row]; done)
    first | (with_reducible refine aops_run (by simp [List.replicate_succ, foundV, Glyph.row]; first | exact rfl | exact ⟨rfl, rfl⟩) ?_) | (with_reducible refine adraw_go (by simp [List.replicate_succ, foundV, Glyph.row]; first | exact rfl | exact ⟨rfl, rfl, rfl⟩) ?_)
    cases hq : f.find ⟨#[63]⟩ with
    | some g =>
      repeat (first
       | (with_reducible first | refine AW.seq ?_ | refine AW.block ?_ | refine aThen_n ?_ | refine aBlk_n ?_ | refine AW.ret ?_ | refine aThen_r ?_ | refine aBlk_r ?_ | refine aops_done ?_ | refine AW.skip ?_ | refine AW.exit ?_ | refine aThen_e ?_ | refine aBlk_hit ?_ | refine AW.label ?_ | refine AW.scope ?_ | refine aNg_n ?_ | refine aNg_r ?_ | refine aNg_e ?_)
       | ((with_reducible refine AW.region ?_); with_reducible refine aops_run (by simp [List.replicate_succ, Glyph.row]; first | exact rfl | exact ⟨rfl, rfl⟩) ?_)
       | ((with_reducible refine AW.draw mixedP ?_ ?_); (focus first | exact .inl rfl | exact .inr (by decide)); with_reducible refine adraw_go (by simp [List.replicate_succ, Glyph.row]; first | exact rfl | exact ⟨rfl, rfl, rfl⟩) ?_)
       | (with_reducible refine adraw_done (by kernel_rfl) ?_)
       | ((with_reducible refine aBlk_miss ?_ ?_); focus decide)
       | ((with_reducible refine cond_t ?_ ?_); focus (simp [ev, Glyph.row]; done))
       | ((with_reducible refine cond_f ?_ ?_); focus (simp [ev, Glyph.row]; done)))
      simp [aRet, ares, aresL, ares1, V.pub, V.pubs, ldV, Try.results135, glyphV, Font.pick, hf, hq, Glyph.row]
    | none =>
      repeat (first
       | (with_reducible first | refine AW.seq ?_ | refine AW.block ?_ | refine aThen_n ?_ | refine aBlk_n ?_ | refine AW.ret ?_ | refine aThen_r ?_ | refine aBlk_r ?_ | refine aops_done ?_ | refine AW.skip ?_ | refine AW.exit ?_ | refine aThen_e ?_ | refine aBlk_hit ?_ | refine AW.label ?_ | refine AW.scope ?_ | refine aNg_n ?_ | refine aNg_r ?_ | refine aNg_e ?_)
       | ((with_reducible refine AW.region ?_); with_reducible refine aops_run (by simp [List.replicate_succ, Glyph.zero, Glyph.row]; first | exact rfl | exact ⟨rfl, rfl⟩) ?_)
       | ((with_reducible refine AW.draw mixedP ?_ ?_); (focus first | exact .inl rfl | exact .inr (by decide)); with_reducible refine adraw_go (by simp [List.replicate_succ, Glyph.zero, Glyph.row]; first | exact rfl | exact ⟨rfl, rfl, rfl⟩) ?_)
       | (with_reducible refine adraw_done (by kernel_rfl) ?_)
       | ((with_reducible refine aBlk_miss ?_ ?_); focus decide)
       | ((with_reducible refine cond_t ?_ ?_); focus (simp [ev, Glyph.zero, Glyph.row]; done))
       | ((with_reducible refine cond_f ?_ ?_); focus (simp [ev, Glyph.zero, Glyph.row]; done)))
      simp [aRet, ares, aresL, ares1, V.pub, V.pubs, ldV, Try.results135, glyphV, Font.pick, hf, hq, Glyph.zero, Glyph.row]
theorem rpick_a (f : Font) (name : ByteArray) (hl : f.glyphs.length ≤ maxLen) : AC Try.prog 140 [.agg f.vs, .c (.str name)] (glyphV (f.pick name)) := by
  refine AC.intro Try.func140 rfl ?_
  simp only [Try.ntmps140, List.map_cons, List.map_nil, List.length_cons, List.length_nil, Nat.reduceAdd, Nat.reduceSub, List.replicate_succ, List.replicate_zero, List.cons_append, List.nil_append]
  repeat (first
   | (with_reducible first | refine AW.seq ?_ | refine AW.block ?_ | refine aThen_n ?_ | refine aBlk_n ?_ | refine AW.ret ?_ | refine aThen_r ?_ | refine aBlk_r ?_ | refine aops_done ?_ | refine AW.skip ?_ | refine AW.exit ?_ | refine aThen_e ?_ | refine aBlk_hit ?_ | refine AW.label ?_ | refine AW.scope ?_ | refine aNg_n ?_ | refine aNg_r ?_ | refine aNg_e ?_)
   | ((with_reducible refine AW.region ?_); with_reducible refine aops_run (by simp [List.replicate_succ]; first | exact rfl | exact ⟨rfl, rfl⟩) ?_)
   | ((with_reducible refine AW.draw mixedP ?_ ?_); (focus first | exact .inl rfl | exact .inr (by decide)); with_reducible refine adraw_go (by simp [List.replicate_succ]; first | exact rfl | exact ⟨rfl, rfl, rfl⟩) ?_)
   | (with_reducible refine adraw_done (by kernel_rfl) ?_)
   | ((with_reducible refine aBlk_miss ?_ ?_); focus decide)
   | ((with_reducible refine cond_t ?_ ?_); focus (simp [ev]; done))
   | ((with_reducible refine cond_f ?_ ?_); focus (simp [ev]; done)))
  (with_reducible first | refine aops_c (rfind_a f name hl) Try.func106 (by kernel_rfl) (by kernel_rfl) ?_ ?_ ?_ | refine adraw_c (rfind_a f name hl) Try.func106 (by kernel_rfl) (by kernel_rfl) ?_ ?_ ?_)
  focus (simp [gate, foundV, Glyph.row]; done)
  focus (simp [pubCall, foundV, Glyph.row]; done)
  first | (with_reducible refine aops_run (by simp [List.replicate_succ, foundV, Glyph.row]; first | exact rfl | exact ⟨rfl, rfl⟩) ?_) | (with_reducible refine adraw_go (by simp [List.replicate_succ, foundV, Glyph.row]; first | exact rfl | exact ⟨rfl, rfl, rfl⟩) ?_)
  cases hf : f.find name with
  | some g =>
    repeat (first
     | (with_reducible first | refine AW.seq ?_ | refine AW.block ?_ | refine aThen_n ?_ | refine aBlk_n ?_ | refine AW.ret ?_ | refine aThen_r ?_ | refine aBlk_r ?_ | refine aops_done ?_ | refine AW.skip ?_ | refine AW.exit ?_ | refine aThen_e ?_ | refine aBlk_hit ?_ | refine AW.label ?_ | refine AW.scope ?_ | refine aNg_n ?_ | refine aNg_r ?_ | refine aNg_e ?_)
     | ((with_reducible refine AW.region ?_); with_reducible refine aops_run (by simp [List.replicate_succ, Glyph.row]; first | exact rfl | exact ⟨rfl, rfl⟩) ?_)
     | ((with_reducible refine AW.draw mixedP ?_ ?_); (focus first | exact .inl rfl | exact .inr (by decide)); with_reducible refine adraw_go (by simp [List.replicate_succ, Glyph.row]; first | exact rfl | exact ⟨rfl, rfl, rfl⟩) ?_)
     | (with_reducible refine adraw_done (by kernel_rfl) ?_)
     | ((with_reducible refine aBlk_miss ?_ ?_); focus decide)
     | ((with_reducible refine cond_t ?_ ?_); focus (simp [ev, Glyph.row]; done))
     | ((with_reducible refine cond_f ?_ ?_); focus (simp [ev, Glyph.row]; done)))
    simp [aRet, ares, aresL, ares1, V.pub, V.pubs, ldV, Try.results140, glyphV, Font.pick, hf, Glyph.row]
  | none =>
    repeat (first
     | (with_reducible first | refine AW.seq ?_ | refine AW.block ?_ | refine aThen_n ?_ | refine aBlk_n ?_ | refine AW.ret ?_ | refine aThen_r ?_ | refine aBlk_r ?_ | refine aops_done ?_ | refine AW.skip ?_ | refine AW.exit ?_ | refine aThen_e ?_ | refine aBlk_hit ?_ | refine AW.label ?_ | refine AW.scope ?_ | refine aNg_n ?_ | refine aNg_r ?_ | refine aNg_e ?_)
     | ((with_reducible refine AW.region ?_); with_reducible refine aops_run (by simp [List.replicate_succ, Glyph.zero, Glyph.row]; first | exact rfl | exact ⟨rfl, rfl⟩) ?_)
     | ((with_reducible refine AW.draw mixedP ?_ ?_); (focus first | exact .inl rfl | exact .inr (by decide)); with_reducible refine adraw_go (by simp [List.replicate_succ, Glyph.zero, Glyph.row]; first | exact rfl | exact ⟨rfl, rfl, rfl⟩) ?_)
     | (with_reducible refine adraw_done (by kernel_rfl) ?_)
     | ((with_reducible refine aBlk_miss ?_ ?_); focus decide)
     | ((with_reducible refine cond_t ?_ ?_); focus (simp [ev, Glyph.zero, Glyph.row]; done))
     | ((with_reducible refine cond_f ?_ ?_); focus (simp [ev, Glyph.zero, Glyph.row]; done)))
    (with_reducible first | refine aops_c (rfind_a f ⟨#[63]⟩ hl) Try.func106 (by kernel_rfl) (by kernel_rfl) ?_ ?_ ?_ | refine adraw_c (rfind_a f ⟨#[63]⟩ hl) Try.func106 (by kernel_rfl) (by kernel_rfl) ?_ ?_ ?_)
    focus (simp [gate, foundV, Glyph.row]; done)
    focus (simp [pubCall, foundV, Glyph.row]; done)
    first | (with_reducible refine aops_run (by simp [List.replicate_succ, foundV, Glyph.row]; first | exact rfl | exact ⟨rfl, rfl⟩) ?_) | (with_reducible refine adraw_go (by simp [List.replicate_succ, foundV, Glyph.row]; first | exact rfl | exact ⟨rfl, rfl, rfl⟩) ?_)
    cases hq : f.find ⟨#[63]⟩ with
    | some g =>
      repeat (first
       | (with_reducible first | refine AW.seq ?_ | refine AW.block ?_ | refine aThen_n ?_ | refine aBlk_n ?_ | refine AW.ret ?_ | refine aThen_r ?_ | refine aBlk_r ?_ | refine aops_done ?_ | refine AW.skip ?_ | refine AW.exit ?_ | refine aThen_e ?_ | refine aBlk_hit ?_ | refine AW.label ?_ | refine AW.scope ?_ | refine aNg_n ?_ | refine aNg_r ?_ | refine aNg_e ?_)
       | ((with_reducible refine AW.region ?_); with_reducible refine aops_run (by simp [List.replicate_succ, Glyph.row]; first | exact rfl | exact ⟨rfl, rfl⟩) ?_)
       | ((with_reducible refine AW.draw mixedP ?_ ?_); (focus first | exact .inl rfl | exact .inr (by decide)); with_reducible refine adraw_go (by simp [List.replicate_succ, Glyph.row]; first | exact rfl | exact ⟨rfl, rfl, rfl⟩) ?_)
       | (with_reducible refine adraw_done (by kernel_rfl) ?_)
       | ((with_reducible refine aBlk_miss ?_ ?_); focus decide)
       | ((with_reducible refine cond_t ?_ ?_); focus (simp [ev, Glyph.row]; done))
       | ((with_reducible refine cond_f ?_ ?_); focus (simp [ev, Glyph.row]; done)))
      simp [aRet, ares, aresL, ares1, V.pub, V.pubs, ldV, Try.results140, glyphV, Font.pick, hf, hq, Glyph.row]
    | none =>
      repeat (first
       | (with_reducible first | refine AW.seq ?_ | refine AW.block ?_ | refine aThen_n ?_ | refine aBlk_n ?_ | refine AW.ret ?_ | refine aThen_r ?_ | refine aBlk_r ?_ | refine aops_done ?_ | refine AW.skip ?_ | refine AW.exit ?_ | refine aThen_e ?_ | refine aBlk_hit ?_ | refine AW.label ?_ | refine AW.scope ?_ | refine aNg_n ?_ | refine aNg_r ?_ | refine aNg_e ?_)
       | ((with_reducible refine AW.region ?_); with_reducible refine aops_run (by simp [List.replicate_succ, Glyph.zero, Glyph.row]; first | exact rfl | exact ⟨rfl, rfl⟩) ?_)
       | ((with_reducible refine AW.draw mixedP ?_ ?_); (focus first | exact .inl rfl | exact .inr (by decide)); with_reducible refine adraw_go (by simp [List.replicate_succ, Glyph.zero, Glyph.row]; first | exact rfl | exact ⟨rfl, rfl, rfl⟩) ?_)
       | (with_reducible refine adraw_done (by kernel_rfl) ?_)
       | ((with_reducible refine aBlk_miss ?_ ?_); focus decide)
       | ((with_reducible refine cond_t ?_ ?_); focus (simp [ev, Glyph.zero, Glyph.row]; done))
       | ((with_reducible refine cond_f ?_ ?_); focus (simp [ev, Glyph.zero, Glyph.row]; done)))
      simp [aRet, ares, aresL, ares1, V.pub, V.pubs, ldV, Try.results140, glyphV, Font.pick, hf, hq, Glyph.zero, Glyph.row]
end Go.Proofs.Ythbcljjpmdfflaa
