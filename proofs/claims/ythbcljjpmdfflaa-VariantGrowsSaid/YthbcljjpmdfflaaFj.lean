/-
  Layer 5's reference on the abstract machine: stretches, and Valid.
-/
import Derived.Test.YthbcljjpmdfflaaFi
namespace Go.Proofs.Ythbcljjpmdfflaa
open Go.RowKit
set_option linter.unusedSimpArgs false
set_option linter.unusedVariables false
set_option maxRecDepth 100000

def rsizes (f : Font) : Nat → Int → List ByteArray → Bool
  | _, _, [] => true
  | i, last, n :: r => match f.find n with
    | none => false
    | some g => !(decide (0 < i) && decide (g.height ≤ last)) && rsizes f (i + 1) g.height r
def rparts (f : Font) (ov : Int) : Bool → List Part → Option Bool
  | e, [] => some e
  | e, p :: r => match f.find p.name with
    | none => none
    | some g => if g.height ≤ ov then none else rparts f ov (e || p.ext) r
def rstretchOk (f : Font) (s : Stretch) : Bool :=
  (nameB s.name && (decide (1 ≤ s.sizes.length) && (decide (s.sizes.length ≤ 16) && decide (s.parts.length ≤ 8)))) && (rsizes f 0 0 s.sizes && (if s.parts = [] then decide (s.overlap = 0) else match rparts f s.overlap false s.parts with
    | none => false
    | some e => e && decide (0 ≤ s.overlap)))

theorem findO_mem' {name : ByteArray} {g : Glyph} : ∀ {l : List Glyph}, findO name l = some g → g ∈ l
  | [], h => by simp [findO] at h
  | x :: r, h => by
    simp only [findO] at h
    split at h
    · simp only [Option.some.injEq] at h; subst h; simp
    · exact List.mem_cons_of_mem _ (findO_mem' h)
theorem height_small {f : Font} (hok : ∀ g ∈ f.glyphs, glyphOk g = true) {name : ByteArray} {g : Glyph} (h : f.find name = some g) : -40000 ≤ g.height ∧ g.height ≤ 40000 ∧ IntKind.i64.wrap (g.h + g.d) = g.height := by
  have := hok g (findO_mem' h)
  simp [glyphOk, inB] at this
  unfold Glyph.height
  exact ⟨by omega, by omega, wrap_i64 (by omega) (by omega)⟩

/-- the sizes by the reference's loop and by the program's -/
theorem rsizes_eq {f : Font} (hok : ∀ g ∈ f.glyphs, glyphOk g = true) : ∀ (l : List ByteArray) (i : Nat) (last last' : Int), (0 < i → last' = last) → (i = 0 → last' < -40000) → rsizes f i last l = sizesOk f.ht last' l
  | [], _, _, _, _, _ => rfl
  | n :: r, i, last, last', h1, h2 => by
    simp only [rsizes, sizesOk, Font.ht]
    cases hf : f.find n with
    | none => rfl
    | some g =>
      obtain ⟨b1, b2, _⟩ := height_small hok hf
      simp only [Option.map_some]
      rw [rsizes_eq hok r (i + 1) g.height g.height (fun _ => rfl) (fun e => by omega)]
      congr 1
      rw [Bool.eq_iff_iff]
      simp
      rcases Nat.eq_zero_or_pos i with e | e
      · have := h2 e; omega
      · have := h1 e; omega
theorem rparts_eq {f : Font} (hok : ∀ g ∈ f.glyphs, glyphOk g = true) (ov : Int) : ∀ (l : List Part) (e : Bool) (least : Int), ov < least →
    (match rparts f ov e l with | none => false | some e => e && decide (0 ≤ ov)) = (match partsFold f.ht least e l with | none => false | some (m, e) => e && inB 0 (m - 1) [ov])
  | [], e, least, hlt => by
    simp only [rparts, partsFold, inB, List.all_cons, List.all_nil, Bool.and_true]
    congr 1
    rw [decide_eq_true (show ov ≤ least - 1 by omega), Bool.and_true]
  | p :: r, e, least, hlt => by
    simp only [rparts, partsFold, Font.ht]
    cases hf : f.find p.name with
    | none => rfl
    | some g =>
      simp only [Option.map_some]
      by_cases hle : g.height ≤ ov
      · rw [if_pos hle]
        -- too low a part: the least is not above the overlap
        have key : ∀ (l : List Part) (e : Bool) (m : Int), m ≤ ov → (match partsFold f.ht m e l with | none => false | some (m, e) => e && inB 0 (m - 1) [ov]) = false := by
          intro l
          induction l with
          | nil => intro e m hm; simp [partsFold, inB]; omega
          | cons p l ih =>
            intro e m hm
            simp only [partsFold]
            cases f.ht p.name with
            | none => rfl
            | some h => exact ih _ _ (by split <;> omega)
        have := key r (e || p.ext) (if g.height < least then g.height else least) (by split <;> omega)
        exact this.symm
      · rw [if_neg hle]
        exact rparts_eq hok ov r _ _ (by split <;> omega)
theorem rstretchOk_eq {f : Font} (hok : ∀ g ∈ f.glyphs, glyphOk g = true) (s : Stretch) : rstretchOk f s = stretchOk f.ht s := by
  unfold rstretchOk stretchOk
  rw [rsizes_eq hok s.sizes 0 0 (-60000) (fun h => absurd h (by omega)) (fun _ => by omega)]
  have e1 : (nameB s.name && (decide (1 ≤ s.sizes.length) && (decide (s.sizes.length ≤ 16) && decide (s.parts.length ≤ 8)))) = (nameB s.name && (inB 1 16 [(s.sizes.length : Int)] && decide (s.parts.length ≤ 8))) := by
    congr 1
    rw [Bool.eq_iff_iff]
    simp [inB]
    omega
  rw [e1]
  congr 2
  split
  · rfl
  · rename_i hp
    unfold partsOk
    by_cases ho : s.overlap < 60000
    · exact rparts_eq hok s.overlap s.parts false 60000 ho
    · -- too great an overlap: neither
      obtain ⟨p, r, hpr⟩ := List.exists_cons_of_ne_nil hp
      rw [hpr]
      simp only [rparts, partsFold, Font.ht]
      cases hf : f.find p.name with
      | none => rfl
      | some g =>
        obtain ⟨b1, b2, _⟩ := height_small hok hf
        simp only [Option.map_some]
        rw [if_pos (by omega)]
        have key : ∀ (l : List Part) (e : Bool) (m : Int), m ≤ s.overlap → (match partsFold f.ht m e l with | none => false | some (m, e) => e && inB 0 (m - 1) [s.overlap]) = false := by
          intro l
          induction l with
          | nil => intro e m hm; simp [partsFold, inB]; omega
          | cons p l ih =>
            intro e m hm
            simp only [partsFold]
            cases f.ht p.name with
            | none => rfl
            | some h => exact ih _ _ (by split <;> omega)
        have := key r (false || p.ext) (if g.height < 60000 then g.height else 60000) (by split <;> omega)
        exact this.symm

set_option maxHeartbeats 3200000 in
theorem rstretch1_a (f : Font) (s : Stretch) (hok : ∀ g ∈ f.glyphs, glyphOk g = true) (hgl : f.glyphs.length ≤ maxLen) (hn : s.name.size ≤ maxLen) : AC Try.prog 94 [.agg f.vs, stretchV s] (.c (.bool (rstretchOk f s))) := by
  have hS : rstretchOk f s = ((nameB s.name && (decide (1 ≤ s.sizes.length) && (decide (s.sizes.length ≤ 16) && decide (s.parts.length ≤ 8)))) && (rsizes f 0 0 s.sizes && (if s.parts = [] then decide (s.overlap = 0) else match rparts f s.overlap false s.parts with
    | none => false
    | some e => e && decide (0 ≤ s.overlap)))) := rfl
  unfold stretchV
  cases c1 : nameB s.name with
  | false =>
    have e : rstretchOk f s = false := by rw [hS, c1]; rfl
    refine AC.intro Try.func94 rfl ?_
    simp only [Try.ntmps94, List.map_cons, List.map_nil, List.length_cons, List.length_nil, Nat.reduceAdd, Nat.reduceSub, List.replicate_succ, List.replicate_zero, List.cons_append, List.nil_append, Stretch.row]
    repeat (first
     | (with_reducible first | refine AW.seq ?_ | refine AW.block ?_ | refine aThen_n ?_ | refine aBlk_n ?_ | refine AW.ret ?_ | refine aThen_r ?_ | refine aBlk_r ?_ | refine aops_done ?_ | refine AW.skip ?_ | refine AW.exit ?_ | refine aThen_e ?_ | refine aBlk_hit ?_ | refine AW.label ?_ | refine AW.scope ?_ | refine aNg_n ?_ | refine aNg_r ?_ | refine aNg_e ?_)
     | ((with_reducible refine AW.region ?_); with_reducible refine aops_run (by simp [List.replicate_succ]; first | exact rfl | exact ⟨rfl, rfl⟩) ?_)
     | ((with_reducible refine AW.draw mixedP ?_ ?_); (focus first | exact .inl rfl | exact .inr (by decide)); with_reducible refine adraw_go (by simp [List.replicate_succ]; first | exact rfl | exact ⟨rfl, rfl, rfl⟩) ?_)
     | (with_reducible refine adraw_done (by kernel_rfl) ?_)
     | ((with_reducible refine aBlk_miss ?_ ?_); focus decide)
     | ((with_reducible refine cond_t ?_ ?_); focus (simp [ev]; done))
     | ((with_reducible refine cond_f ?_ ?_); focus (simp [ev]; done)))
    (with_reducible first | refine aops_c (name_a s.name hn) Try.func55 (by kernel_rfl) (by kernel_rfl) ?_ ?_ ?_ | refine adraw_c (name_a s.name hn) Try.func55 (by kernel_rfl) (by kernel_rfl) ?_ ?_ ?_)
    focus (simp [gate, c1]; done)
    focus (simp [pubCall, c1]; done)
    first | (with_reducible refine aops_run (by simp [List.replicate_succ, c1]; first | exact rfl | exact ⟨rfl, rfl⟩) ?_) | (with_reducible refine adraw_go (by simp [List.replicate_succ, c1]; first | exact rfl | exact ⟨rfl, rfl, rfl⟩) ?_)
    repeat (first
     | (with_reducible first | refine AW.seq ?_ | refine AW.block ?_ | refine aThen_n ?_ | refine aBlk_n ?_ | refine AW.ret ?_ | refine aThen_r ?_ | refine aBlk_r ?_ | refine aops_done ?_ | refine AW.skip ?_ | refine AW.exit ?_ | refine aThen_e ?_ | refine aBlk_hit ?_ | refine AW.label ?_ | refine AW.scope ?_ | refine aNg_n ?_ | refine aNg_r ?_ | refine aNg_e ?_)
     | ((with_reducible refine AW.region ?_); with_reducible refine aops_run (by simp [List.replicate_succ]; first | exact rfl | exact ⟨rfl, rfl⟩) ?_)
     | ((with_reducible refine AW.draw mixedP ?_ ?_); (focus first | exact .inl rfl | exact .inr (by decide)); with_reducible refine adraw_go (by simp [List.replicate_succ]; first | exact rfl | exact ⟨rfl, rfl, rfl⟩) ?_)
     | (with_reducible refine adraw_done (by kernel_rfl) ?_)
     | ((with_reducible refine aBlk_miss ?_ ?_); focus decide)
     | ((with_reducible refine cond_t ?_ ?_); focus (simp [ev]; done))
     | ((with_reducible refine cond_f ?_ ?_); focus (simp [ev]; done)))
    simp [aRet, ares, aresL, ares1, V.pub, V.pubs, ldV, Try.results94, e]
  | true =>
    by_cases c2 : (s.sizes.length : Int) < 1
    · have e : rstretchOk f s = false := by rw [hS, decide_eq_false (show ¬ 1 ≤ s.sizes.length by omega)]; simp
      refine AC.intro Try.func94 rfl ?_
      simp only [Try.ntmps94, List.map_cons, List.map_nil, List.length_cons, List.length_nil, Nat.reduceAdd, Nat.reduceSub, List.replicate_succ, List.replicate_zero, List.cons_append, List.nil_append, Stretch.row]
      repeat (first
       | (with_reducible first | refine AW.seq ?_ | refine AW.block ?_ | refine aThen_n ?_ | refine aBlk_n ?_ | refine AW.ret ?_ | refine aThen_r ?_ | refine aBlk_r ?_ | refine aops_done ?_ | refine AW.skip ?_ | refine AW.exit ?_ | refine aThen_e ?_ | refine aBlk_hit ?_ | refine AW.label ?_ | refine AW.scope ?_ | refine aNg_n ?_ | refine aNg_r ?_ | refine aNg_e ?_)
       | ((with_reducible refine AW.region ?_); with_reducible refine aops_run (by simp [List.replicate_succ]; first | exact rfl | exact ⟨rfl, rfl⟩) ?_)
       | ((with_reducible refine AW.draw mixedP ?_ ?_); (focus first | exact .inl rfl | exact .inr (by decide)); with_reducible refine adraw_go (by simp [List.replicate_succ]; first | exact rfl | exact ⟨rfl, rfl, rfl⟩) ?_)
       | (with_reducible refine adraw_done (by kernel_rfl) ?_)
       | ((with_reducible refine aBlk_miss ?_ ?_); focus decide)
       | ((with_reducible refine cond_t ?_ ?_); focus (simp [ev]; done))
       | ((with_reducible refine cond_f ?_ ?_); focus (simp [ev]; done)))
      (with_reducible first | refine aops_c (name_a s.name hn) Try.func55 (by kernel_rfl) (by kernel_rfl) ?_ ?_ ?_ | refine adraw_c (name_a s.name hn) Try.func55 (by kernel_rfl) (by kernel_rfl) ?_ ?_ ?_)
      focus (simp [gate, c1, c2, sizesC]; done)
      focus (simp [pubCall, c1, c2, sizesC]; done)
      first | (with_reducible refine aops_run (by simp [List.replicate_succ, c1, c2, sizesC]; first | exact rfl | exact ⟨rfl, rfl⟩) ?_) | (with_reducible refine adraw_go (by simp [List.replicate_succ, c1, c2, sizesC]; first | exact rfl | exact ⟨rfl, rfl, rfl⟩) ?_)
      repeat (first
       | (with_reducible first | refine AW.seq ?_ | refine AW.block ?_ | refine aThen_n ?_ | refine aBlk_n ?_ | refine AW.ret ?_ | refine aThen_r ?_ | refine aBlk_r ?_ | refine aops_done ?_ | refine AW.skip ?_ | refine AW.exit ?_ | refine aThen_e ?_ | refine aBlk_hit ?_ | refine AW.label ?_ | refine AW.scope ?_ | refine aNg_n ?_ | refine aNg_r ?_ | refine aNg_e ?_)
       | ((with_reducible refine AW.region ?_); with_reducible refine aops_run (by simp [List.replicate_succ]; first | exact rfl | exact ⟨rfl, rfl⟩) ?_)
       | ((with_reducible refine AW.draw mixedP ?_ ?_); (focus first | exact .inl rfl | exact .inr (by decide)); with_reducible refine adraw_go (by simp [List.replicate_succ]; first | exact rfl | exact ⟨rfl, rfl, rfl⟩) ?_)
       | (with_reducible refine adraw_done (by kernel_rfl) ?_)
       | ((with_reducible refine aBlk_miss ?_ ?_); focus decide)
       | ((with_reducible refine cond_t ?_ ?_); focus (simp [ev]; done))
       | ((with_reducible refine cond_f ?_ ?_); focus (simp [ev]; done)))
      simp [aRet, ares, aresL, ares1, V.pub, V.pubs, ldV, Try.results94, e]
    · by_cases c3 : (16 : Int) < (s.sizes.length : Int)
      · have e : rstretchOk f s = false := by rw [hS, decide_eq_false (show ¬ s.sizes.length ≤ 16 by omega)]; simp
        refine AC.intro Try.func94 rfl ?_
        simp only [Try.ntmps94, List.map_cons, List.map_nil, List.length_cons, List.length_nil, Nat.reduceAdd, Nat.reduceSub, List.replicate_succ, List.replicate_zero, List.cons_append, List.nil_append, Stretch.row]
        repeat (first
         | (with_reducible first | refine AW.seq ?_ | refine AW.block ?_ | refine aThen_n ?_ | refine aBlk_n ?_ | refine AW.ret ?_ | refine aThen_r ?_ | refine aBlk_r ?_ | refine aops_done ?_ | refine AW.skip ?_ | refine AW.exit ?_ | refine aThen_e ?_ | refine aBlk_hit ?_ | refine AW.label ?_ | refine AW.scope ?_ | refine aNg_n ?_ | refine aNg_r ?_ | refine aNg_e ?_)
         | ((with_reducible refine AW.region ?_); with_reducible refine aops_run (by simp [List.replicate_succ]; first | exact rfl | exact ⟨rfl, rfl⟩) ?_)
         | ((with_reducible refine AW.draw mixedP ?_ ?_); (focus first | exact .inl rfl | exact .inr (by decide)); with_reducible refine adraw_go (by simp [List.replicate_succ]; first | exact rfl | exact ⟨rfl, rfl, rfl⟩) ?_)
         | (with_reducible refine adraw_done (by kernel_rfl) ?_)
         | ((with_reducible refine aBlk_miss ?_ ?_); focus decide)
         | ((with_reducible refine cond_t ?_ ?_); focus (simp [ev]; done))
         | ((with_reducible refine cond_f ?_ ?_); focus (simp [ev]; done)))
        (with_reducible first | refine aops_c (name_a s.name hn) Try.func55 (by kernel_rfl) (by kernel_rfl) ?_ ?_ ?_ | refine adraw_c (name_a s.name hn) Try.func55 (by kernel_rfl) (by kernel_rfl) ?_ ?_ ?_)
        focus (simp [gate, c1, c2, c3, sizesC]; done)
        focus (simp [pubCall, c1, c2, c3, sizesC]; done)
        first | (with_reducible refine aops_run (by simp [List.replicate_succ, c1, c2, c3, sizesC]; first | exact rfl | exact ⟨rfl, rfl⟩) ?_) | (with_reducible refine adraw_go (by simp [List.replicate_succ, c1, c2, c3, sizesC]; first | exact rfl | exact ⟨rfl, rfl, rfl⟩) ?_)
        repeat (first
         | (with_reducible first | refine AW.seq ?_ | refine AW.block ?_ | refine aThen_n ?_ | refine aBlk_n ?_ | refine AW.ret ?_ | refine aThen_r ?_ | refine aBlk_r ?_ | refine aops_done ?_ | refine AW.skip ?_ | refine AW.exit ?_ | refine aThen_e ?_ | refine aBlk_hit ?_ | refine AW.label ?_ | refine AW.scope ?_ | refine aNg_n ?_ | refine aNg_r ?_ | refine aNg_e ?_)
         | ((with_reducible refine AW.region ?_); with_reducible refine aops_run (by simp [List.replicate_succ]; first | exact rfl | exact ⟨rfl, rfl⟩) ?_)
         | ((with_reducible refine AW.draw mixedP ?_ ?_); (focus first | exact .inl rfl | exact .inr (by decide)); with_reducible refine adraw_go (by simp [List.replicate_succ]; first | exact rfl | exact ⟨rfl, rfl, rfl⟩) ?_)
         | (with_reducible refine adraw_done (by kernel_rfl) ?_)
         | ((with_reducible refine aBlk_miss ?_ ?_); focus decide)
         | ((with_reducible refine cond_t ?_ ?_); focus (simp [ev]; done))
         | ((with_reducible refine cond_f ?_ ?_); focus (simp [ev]; done)))
        simp [aRet, ares, aresL, ares1, V.pub, V.pubs, ldV, Try.results94, e]
      · by_cases c4 : (8 : Int) < (s.parts.length : Int)
        · have e : rstretchOk f s = false := by rw [hS, decide_eq_false (show ¬ s.parts.length ≤ 8 by omega)]; simp
          refine AC.intro Try.func94 rfl ?_
          simp only [Try.ntmps94, List.map_cons, List.map_nil, List.length_cons, List.length_nil, Nat.reduceAdd, Nat.reduceSub, List.replicate_succ, List.replicate_zero, List.cons_append, List.nil_append, Stretch.row]
          repeat (first
           | (with_reducible first | refine AW.seq ?_ | refine AW.block ?_ | refine aThen_n ?_ | refine aBlk_n ?_ | refine AW.ret ?_ | refine aThen_r ?_ | refine aBlk_r ?_ | refine aops_done ?_ | refine AW.skip ?_ | refine AW.exit ?_ | refine aThen_e ?_ | refine aBlk_hit ?_ | refine AW.label ?_ | refine AW.scope ?_ | refine aNg_n ?_ | refine aNg_r ?_ | refine aNg_e ?_)
           | ((with_reducible refine AW.region ?_); with_reducible refine aops_run (by simp [List.replicate_succ]; first | exact rfl | exact ⟨rfl, rfl⟩) ?_)
           | ((with_reducible refine AW.draw mixedP ?_ ?_); (focus first | exact .inl rfl | exact .inr (by decide)); with_reducible refine adraw_go (by simp [List.replicate_succ]; first | exact rfl | exact ⟨rfl, rfl, rfl⟩) ?_)
           | (with_reducible refine adraw_done (by kernel_rfl) ?_)
           | ((with_reducible refine aBlk_miss ?_ ?_); focus decide)
           | ((with_reducible refine cond_t ?_ ?_); focus (simp [ev]; done))
           | ((with_reducible refine cond_f ?_ ?_); focus (simp [ev]; done)))
          (with_reducible first | refine aops_c (name_a s.name hn) Try.func55 (by kernel_rfl) (by kernel_rfl) ?_ ?_ ?_ | refine adraw_c (name_a s.name hn) Try.func55 (by kernel_rfl) (by kernel_rfl) ?_ ?_ ?_)
          focus (simp [gate, c1, c2, c3, c4, sizesC, partsC]; done)
          focus (simp [pubCall, c1, c2, c3, c4, sizesC, partsC]; done)
          first | (with_reducible refine aops_run (by simp [List.replicate_succ, c1, c2, c3, c4, sizesC, partsC]; first | exact rfl | exact ⟨rfl, rfl⟩) ?_) | (with_reducible refine adraw_go (by simp [List.replicate_succ, c1, c2, c3, c4, sizesC, partsC]; first | exact rfl | exact ⟨rfl, rfl, rfl⟩) ?_)
          repeat (first
           | (with_reducible first | refine AW.seq ?_ | refine AW.block ?_ | refine aThen_n ?_ | refine aBlk_n ?_ | refine AW.ret ?_ | refine aThen_r ?_ | refine aBlk_r ?_ | refine aops_done ?_ | refine AW.skip ?_ | refine AW.exit ?_ | refine aThen_e ?_ | refine aBlk_hit ?_ | refine AW.label ?_ | refine AW.scope ?_ | refine aNg_n ?_ | refine aNg_r ?_ | refine aNg_e ?_)
           | ((with_reducible refine AW.region ?_); with_reducible refine aops_run (by simp [List.replicate_succ]; first | exact rfl | exact ⟨rfl, rfl⟩) ?_)
           | ((with_reducible refine AW.draw mixedP ?_ ?_); (focus first | exact .inl rfl | exact .inr (by decide)); with_reducible refine adraw_go (by simp [List.replicate_succ]; first | exact rfl | exact ⟨rfl, rfl, rfl⟩) ?_)
           | (with_reducible refine adraw_done (by kernel_rfl) ?_)
           | ((with_reducible refine aBlk_miss ?_ ?_); focus decide)
           | ((with_reducible refine cond_t ?_ ?_); focus (simp [ev]; done))
           | ((with_reducible refine cond_f ?_ ?_); focus (simp [ev]; done)))
          simp [aRet, ares, aresL, ares1, V.pub, V.pubs, ldV, Try.results94, e]
        · have hS2 : rstretchOk f s = (rsizes f 0 0 s.sizes && (if s.parts = [] then decide (s.overlap = 0) else match rparts f s.overlap false s.parts with
            | none => false
            | some e => e && decide (0 ≤ s.overlap))) := by
            rw [hS, c1, decide_eq_true (show 1 ≤ s.sizes.length by omega), decide_eq_true (show s.sizes.length ≤ 16 by omega), decide_eq_true (show s.parts.length ≤ 8 by omega)]
            rfl
          refine AC.intro Try.func94 rfl ?_
          simp only [Try.ntmps94, List.map_cons, List.map_nil, List.length_cons, List.length_nil, Nat.reduceAdd, Nat.reduceSub, List.replicate_succ, List.replicate_zero, List.cons_append, List.nil_append, Stretch.row]
          repeat (first
           | (with_reducible first | refine AW.seq ?_ | refine AW.block ?_ | refine aThen_n ?_ | refine aBlk_n ?_ | refine AW.ret ?_ | refine aThen_r ?_ | refine aBlk_r ?_ | refine aops_done ?_ | refine AW.skip ?_ | refine AW.exit ?_ | refine aThen_e ?_ | refine aBlk_hit ?_ | refine AW.label ?_ | refine AW.scope ?_ | refine aNg_n ?_ | refine aNg_r ?_ | refine aNg_e ?_)
           | ((with_reducible refine AW.region ?_); with_reducible refine aops_run (by simp [List.replicate_succ]; first | exact rfl | exact ⟨rfl, rfl⟩) ?_)
           | ((with_reducible refine AW.draw mixedP ?_ ?_); (focus first | exact .inl rfl | exact .inr (by decide)); with_reducible refine adraw_go (by simp [List.replicate_succ]; first | exact rfl | exact ⟨rfl, rfl, rfl⟩) ?_)
           | (with_reducible refine adraw_done (by kernel_rfl) ?_)
           | ((with_reducible refine aBlk_miss ?_ ?_); focus decide)
           | ((with_reducible refine cond_t ?_ ?_); focus (simp [ev]; done))
           | ((with_reducible refine cond_f ?_ ?_); focus (simp [ev]; done)))
          (with_reducible first | refine aops_c (name_a s.name hn) Try.func55 (by kernel_rfl) (by kernel_rfl) ?_ ?_ ?_ | refine adraw_c (name_a s.name hn) Try.func55 (by kernel_rfl) (by kernel_rfl) ?_ ?_ ?_)
          focus (simp [gate, c1, c2, c3, c4, sizesC, partsC]; done)
          focus (simp [pubCall, c1, c2, c3, c4, sizesC, partsC]; done)
          first | (with_reducible refine aops_run (by simp [List.replicate_succ, c1, c2, c3, c4, sizesC, partsC]; first | exact rfl | exact ⟨rfl, rfl⟩) ?_) | (with_reducible refine adraw_go (by simp [List.replicate_succ, c1, c2, c3, c4, sizesC, partsC]; first | exact rfl | exact ⟨rfl, rfl, rfl⟩) ?_)
          repeat (first
           | (with_reducible first | refine AW.seq ?_ | refine AW.block ?_ | refine aThen_n ?_ | refine aBlk_n ?_ | refine AW.ret ?_ | refine aThen_r ?_ | refine aBlk_r ?_ | refine aops_done ?_ | refine AW.skip ?_ | refine AW.exit ?_ | refine aThen_e ?_ | refine aBlk_hit ?_ | refine AW.label ?_ | refine AW.scope ?_ | refine aNg_n ?_ | refine aNg_r ?_ | refine aNg_e ?_)
           | ((with_reducible refine AW.region ?_); with_reducible refine aops_run (by simp [List.replicate_succ]; first | exact rfl | exact ⟨rfl, rfl⟩) ?_)
           | ((with_reducible refine AW.draw mixedP ?_ ?_); (focus first | exact .inl rfl | exact .inr (by decide)); with_reducible refine adraw_go (by simp [List.replicate_succ]; first | exact rfl | exact ⟨rfl, rfl, rfl⟩) ?_)
           | (with_reducible refine adraw_done (by kernel_rfl) ?_)
           | ((with_reducible refine aBlk_miss ?_ ?_); focus decide)
           | ((with_reducible refine cond_t ?_ ?_); focus (simp [ev]; done))
           | ((with_reducible refine cond_f ?_ ?_); focus (simp [ev]; done)))
          refine AW.loopH (ι := { q : Nat × Int // q.1 ≤ s.sizes.length ∧ rsizes f 0 0 s.sizes = rsizes f q.1 q.2 (s.sizes.drop q.1) }) (fun q => [(6, .c (.int .i64 (q.1.1 : Int))), (5, .c (.int .i64 q.1.2)), (4, .c (.bool false))]) (fun _ => [.box 27 f.vs false, .box 59 (s.row.map V.c) false]) (fun q => s.sizes.length - q.1.1) ⟨(0, 0), by simp⟩ _ (by simp only [wr, wrOps, List.cons_append, List.nil_append, List.append_nil, List.append_assoc]; exact rfl) _ (by simp only [havoc, List.foldl_cons, List.foldl_nil, List.set_cons_zero, List.set_cons_succ]; exact rfl) ?_ ?_
          all_goals simp only [puts, List.foldl_cons, List.foldl_nil, List.set_cons_zero, List.set_cons_succ]
          · refine Le.weak (by simp [subT, Stretch.row, sizesC, partsC])
          · rintro ⟨⟨k, last⟩, hk, hI⟩
            simp only at hk hI ⊢
            by_cases hlt : k < s.sizes.length
            · obtain ⟨n, hn⟩ : ∃ n, s.sizes[k] = n := ⟨_, rfl⟩
              rw [List.drop_eq_getElem_cons hlt, hn] at hI
              simp only [rsizes] at hI
              have hw : IntKind.i64.wrap ((k : Int) + 1) = ((k + 1 : Nat) : Int) := by rw [wrap_i64 (by omega) (by omega)]; simp
              cases hf : f.find n with
              | none =>
                rw [hf] at hI
                have e : rstretchOk f s = false := by rw [hS2, hI]; rfl
                repeat (first
                 | (with_reducible first | refine AW.seq ?_ | refine AW.block ?_ | refine aThen_n ?_ | refine aBlk_n ?_ | refine AW.ret ?_ | refine aThen_r ?_ | refine aBlk_r ?_ | refine aops_done ?_ | refine AW.skip ?_ | refine AW.exit ?_ | refine aThen_e ?_ | refine aBlk_hit ?_ | refine AW.label ?_ | refine AW.scope ?_ | refine aNg_n ?_ | refine aNg_r ?_ | refine aNg_e ?_)
                 | ((with_reducible refine AW.region ?_); with_reducible refine aops_run (by simp [List.replicate_succ, hlt, hn, Stretch.row, sizesC]; first | exact rfl | exact ⟨rfl, rfl⟩) ?_)
                 | ((with_reducible refine AW.draw mixedP ?_ ?_); (focus first | exact .inl rfl | exact .inr (by decide)); with_reducible refine adraw_go (by simp [List.replicate_succ, hlt, hn, Stretch.row, sizesC]; first | exact rfl | exact ⟨rfl, rfl, rfl⟩) ?_)
                 | (with_reducible refine adraw_done (by kernel_rfl) ?_)
                 | ((with_reducible refine aBlk_miss ?_ ?_); focus decide)
                 | ((with_reducible refine cond_t ?_ ?_); focus (simp [ev, hlt, hn, Stretch.row, sizesC]; done))
                 | ((with_reducible refine cond_f ?_ ?_); focus (simp [ev, hlt, hn, Stretch.row, sizesC]; done)))
                (with_reducible first | refine aops_c (rfind_a f n hgl) Try.func106 (by kernel_rfl) (by kernel_rfl) ?_ ?_ ?_ | refine adraw_c (rfind_a f n hgl) Try.func106 (by kernel_rfl) (by kernel_rfl) ?_ ?_ ?_)
                focus (simp [gate, foundV, hf, Glyph.row, Glyph.zero]; done)
                focus (simp [pubCall, foundV, hf, Glyph.row, Glyph.zero]; done)
                first | (with_reducible refine aops_run (by simp [List.replicate_succ, foundV, hf, Glyph.row, Glyph.zero]; first | exact rfl | exact ⟨rfl, rfl⟩) ?_) | (with_reducible refine adraw_go (by simp [List.replicate_succ, foundV, hf, Glyph.row, Glyph.zero]; first | exact rfl | exact ⟨rfl, rfl, rfl⟩) ?_)
                repeat (first
                 | (with_reducible first | refine AW.seq ?_ | refine AW.block ?_ | refine aThen_n ?_ | refine aBlk_n ?_ | refine AW.ret ?_ | refine aThen_r ?_ | refine aBlk_r ?_ | refine aops_done ?_ | refine AW.skip ?_ | refine AW.exit ?_ | refine aThen_e ?_ | refine aBlk_hit ?_ | refine AW.label ?_ | refine AW.scope ?_ | refine aNg_n ?_ | refine aNg_r ?_ | refine aNg_e ?_)
                 | ((with_reducible refine AW.region ?_); with_reducible refine aops_run (by simp [List.replicate_succ]; first | exact rfl | exact ⟨rfl, rfl⟩) ?_)
                 | ((with_reducible refine AW.draw mixedP ?_ ?_); (focus first | exact .inl rfl | exact .inr (by decide)); with_reducible refine adraw_go (by simp [List.replicate_succ]; first | exact rfl | exact ⟨rfl, rfl, rfl⟩) ?_)
                 | (with_reducible refine adraw_done (by kernel_rfl) ?_)
                 | ((with_reducible refine aBlk_miss ?_ ?_); focus decide)
                 | ((with_reducible refine cond_t ?_ ?_); focus (simp [ev]; done))
                 | ((with_reducible refine cond_f ?_ ?_); focus (simp [ev]; done)))
                simp [aRet, ares, aresL, ares1, V.pub, V.pubs, ldV, Try.results94, e]
              | some g =>
                rw [hf] at hI
                obtain ⟨b1, b2, b3⟩ := height_small hok hf
                rcases Nat.eq_zero_or_pos k with k0 | k0
                · subst k0
                  have hw1 : IntKind.i64.wrap 1 = 1 := wrap_i64 (by omega) (by omega)
                  simp only [Nat.lt_irrefl, decide_false, Bool.false_and, Bool.not_false, Bool.true_and] at hI
                  repeat (first
                   | (with_reducible first | refine AW.seq ?_ | refine AW.block ?_ | refine aThen_n ?_ | refine aBlk_n ?_ | refine AW.ret ?_ | refine aThen_r ?_ | refine aBlk_r ?_ | refine aops_done ?_ | refine AW.skip ?_ | refine AW.exit ?_ | refine aThen_e ?_ | refine aBlk_hit ?_ | refine AW.label ?_ | refine AW.scope ?_ | refine aNg_n ?_ | refine aNg_r ?_ | refine aNg_e ?_)
                   | ((with_reducible refine AW.region ?_); with_reducible refine aops_run (by simp [List.replicate_succ, hlt, hn, Stretch.row, sizesC]; first | exact rfl | exact ⟨rfl, rfl⟩) ?_)
                   | ((with_reducible refine AW.draw mixedP ?_ ?_); (focus first | exact .inl rfl | exact .inr (by decide)); with_reducible refine adraw_go (by simp [List.replicate_succ, hlt, hn, Stretch.row, sizesC]; first | exact rfl | exact ⟨rfl, rfl, rfl⟩) ?_)
                   | (with_reducible refine adraw_done (by kernel_rfl) ?_)
                   | ((with_reducible refine aBlk_miss ?_ ?_); focus decide)
                   | ((with_reducible refine cond_t ?_ ?_); focus (simp [ev, hlt, hn, Stretch.row, sizesC]; done))
                   | ((with_reducible refine cond_f ?_ ?_); focus (simp [ev, hlt, hn, Stretch.row, sizesC]; done)))
                  (with_reducible first | refine aops_c (rfind_a f n hgl) Try.func106 (by kernel_rfl) (by kernel_rfl) ?_ ?_ ?_ | refine adraw_c (rfind_a f n hgl) Try.func106 (by kernel_rfl) (by kernel_rfl) ?_ ?_ ?_)
                  focus (simp [gate, foundV, hf, Glyph.row]; done)
                  focus (simp [pubCall, foundV, hf, Glyph.row]; done)
                  first | (with_reducible refine aops_run (by simp [List.replicate_succ, foundV, hf, Glyph.row]; first | exact rfl | exact ⟨rfl, rfl⟩) ?_) | (with_reducible refine adraw_go (by simp [List.replicate_succ, foundV, hf, Glyph.row]; first | exact rfl | exact ⟨rfl, rfl, rfl⟩) ?_)
                  repeat (first
                   | (with_reducible first | refine AW.seq ?_ | refine AW.block ?_ | refine aThen_n ?_ | refine aBlk_n ?_ | refine AW.ret ?_ | refine aThen_r ?_ | refine aBlk_r ?_ | refine aops_done ?_ | refine AW.skip ?_ | refine AW.exit ?_ | refine aThen_e ?_ | refine aBlk_hit ?_ | refine AW.label ?_ | refine AW.scope ?_ | refine aNg_n ?_ | refine aNg_r ?_ | refine aNg_e ?_)
                   | ((with_reducible refine AW.region ?_); with_reducible refine aops_run (by simp [List.replicate_succ]; first | exact rfl | exact ⟨rfl, rfl⟩) ?_)
                   | ((with_reducible refine AW.draw mixedP ?_ ?_); (focus first | exact .inl rfl | exact .inr (by decide)); with_reducible refine adraw_go (by simp [List.replicate_succ]; first | exact rfl | exact ⟨rfl, rfl, rfl⟩) ?_)
                   | (with_reducible refine adraw_done (by kernel_rfl) ?_)
                   | ((with_reducible refine aBlk_miss ?_ ?_); focus decide)
                   | ((with_reducible refine cond_t ?_ ?_); focus (simp [ev]; done))
                   | ((with_reducible refine cond_f ?_ ?_); focus (simp [ev]; done)))
                  (with_reducible first | refine aops_c (rheight_a g) Try.func107 (by kernel_rfl) (by kernel_rfl) ?_ ?_ ?_ | refine adraw_c (rheight_a g) Try.func107 (by kernel_rfl) (by kernel_rfl) ?_ ?_ ?_)
                  focus (simp [gate, b3, glyphV, Glyph.row]; done)
                  focus (simp [pubCall, b3, glyphV, Glyph.row]; done)
                  first | (with_reducible refine aops_run (by simp [List.replicate_succ, b3, glyphV, Glyph.row]; first | exact rfl | exact ⟨rfl, rfl⟩) ?_) | (with_reducible refine adraw_go (by simp [List.replicate_succ, b3, glyphV, Glyph.row]; first | exact rfl | exact ⟨rfl, rfl, rfl⟩) ?_)
                  repeat (first
                   | (with_reducible first | refine AW.seq ?_ | refine AW.block ?_ | refine aThen_n ?_ | refine aBlk_n ?_ | refine AW.ret ?_ | refine aThen_r ?_ | refine aBlk_r ?_ | refine aops_done ?_ | refine AW.skip ?_ | refine AW.exit ?_ | refine aThen_e ?_ | refine aBlk_hit ?_ | refine AW.label ?_ | refine AW.scope ?_ | refine aNg_n ?_ | refine aNg_r ?_ | refine aNg_e ?_)
                   | ((with_reducible refine AW.region ?_); with_reducible refine aops_run (by simp [List.replicate_succ, hw1]; first | exact rfl | exact ⟨rfl, rfl⟩) ?_)
                   | ((with_reducible refine AW.draw mixedP ?_ ?_); (focus first | exact .inl rfl | exact .inr (by decide)); with_reducible refine adraw_go (by simp [List.replicate_succ, hw1]; first | exact rfl | exact ⟨rfl, rfl, rfl⟩) ?_)
                   | (with_reducible refine adraw_done (by kernel_rfl) ?_)
                   | ((with_reducible refine aBlk_miss ?_ ?_); focus decide)
                   | ((with_reducible refine cond_t ?_ ?_); focus (simp [ev, hw1]; done))
                   | ((with_reducible refine cond_f ?_ ?_); focus (simp [ev, hw1]; done)))
                  refine ⟨⟨(1, g.height), by omega, hI⟩, by simp only; omega, ?_⟩
                  refine Le.wdrop 2 (Nat.le_of_ble_eq_true rfl) (by simp [subT, Stretch.row, sizesC, partsC]) (by simp [Stretch.row, sizesC, partsC]) (by simp [V.bnds, V.bnd]) (by simp [O.bnd, V.bnds, V.bnd, Stretch.row, sizesC, partsC])
                · have k0' : (0 : Int) < (k : Int) := by omega
                  by_cases hle : g.height ≤ last
                  · have e : rstretchOk f s = false := by rw [hS2, hI]; simp [hle, k0]
                    repeat (first
                     | (with_reducible first | refine AW.seq ?_ | refine AW.block ?_ | refine aThen_n ?_ | refine aBlk_n ?_ | refine AW.ret ?_ | refine aThen_r ?_ | refine aBlk_r ?_ | refine aops_done ?_ | refine AW.skip ?_ | refine AW.exit ?_ | refine aThen_e ?_ | refine aBlk_hit ?_ | refine AW.label ?_ | refine AW.scope ?_ | refine aNg_n ?_ | refine aNg_r ?_ | refine aNg_e ?_)
                     | ((with_reducible refine AW.region ?_); with_reducible refine aops_run (by simp [List.replicate_succ, hlt, hn, Stretch.row, sizesC]; first | exact rfl | exact ⟨rfl, rfl⟩) ?_)
                     | ((with_reducible refine AW.draw mixedP ?_ ?_); (focus first | exact .inl rfl | exact .inr (by decide)); with_reducible refine adraw_go (by simp [List.replicate_succ, hlt, hn, Stretch.row, sizesC]; first | exact rfl | exact ⟨rfl, rfl, rfl⟩) ?_)
                     | (with_reducible refine adraw_done (by kernel_rfl) ?_)
                     | ((with_reducible refine aBlk_miss ?_ ?_); focus decide)
                     | ((with_reducible refine cond_t ?_ ?_); focus (simp [ev, hlt, hn, Stretch.row, sizesC]; done))
                     | ((with_reducible refine cond_f ?_ ?_); focus (simp [ev, hlt, hn, Stretch.row, sizesC]; done)))
                    (with_reducible first | refine aops_c (rfind_a f n hgl) Try.func106 (by kernel_rfl) (by kernel_rfl) ?_ ?_ ?_ | refine adraw_c (rfind_a f n hgl) Try.func106 (by kernel_rfl) (by kernel_rfl) ?_ ?_ ?_)
                    focus (simp [gate, foundV, hf, Glyph.row]; done)
                    focus (simp [pubCall, foundV, hf, Glyph.row]; done)
                    first | (with_reducible refine aops_run (by simp [List.replicate_succ, foundV, hf, Glyph.row]; first | exact rfl | exact ⟨rfl, rfl⟩) ?_) | (with_reducible refine adraw_go (by simp [List.replicate_succ, foundV, hf, Glyph.row]; first | exact rfl | exact ⟨rfl, rfl, rfl⟩) ?_)
                    repeat (first
                     | (with_reducible first | refine AW.seq ?_ | refine AW.block ?_ | refine aThen_n ?_ | refine aBlk_n ?_ | refine AW.ret ?_ | refine aThen_r ?_ | refine aBlk_r ?_ | refine aops_done ?_ | refine AW.skip ?_ | refine AW.exit ?_ | refine aThen_e ?_ | refine aBlk_hit ?_ | refine AW.label ?_ | refine AW.scope ?_ | refine aNg_n ?_ | refine aNg_r ?_ | refine aNg_e ?_)
                     | ((with_reducible refine AW.region ?_); with_reducible refine aops_run (by simp [List.replicate_succ, k0, k0']; first | exact rfl | exact ⟨rfl, rfl⟩) ?_)
                     | ((with_reducible refine AW.draw mixedP ?_ ?_); (focus first | exact .inl rfl | exact .inr (by decide)); with_reducible refine adraw_go (by simp [List.replicate_succ, k0, k0']; first | exact rfl | exact ⟨rfl, rfl, rfl⟩) ?_)
                     | (with_reducible refine adraw_done (by kernel_rfl) ?_)
                     | ((with_reducible refine aBlk_miss ?_ ?_); focus decide)
                     | ((with_reducible refine cond_t ?_ ?_); focus (simp [ev, k0, k0']; done))
                     | ((with_reducible refine cond_f ?_ ?_); focus (simp [ev, k0, k0']; done)))
                    (with_reducible first | refine aops_c (rheight_a g) Try.func107 (by kernel_rfl) (by kernel_rfl) ?_ ?_ ?_ | refine adraw_c (rheight_a g) Try.func107 (by kernel_rfl) (by kernel_rfl) ?_ ?_ ?_)
                    focus (simp [gate, b3, glyphV, Glyph.row, k0, k0', hle]; done)
                    focus (simp [pubCall, b3, glyphV, Glyph.row, k0, k0', hle]; done)
                    first | (with_reducible refine aops_run (by simp [List.replicate_succ, b3, glyphV, Glyph.row, k0, k0', hle]; first | exact rfl | exact ⟨rfl, rfl⟩) ?_) | (with_reducible refine adraw_go (by simp [List.replicate_succ, b3, glyphV, Glyph.row, k0, k0', hle]; first | exact rfl | exact ⟨rfl, rfl, rfl⟩) ?_)
                    repeat (first
                     | (with_reducible first | refine AW.seq ?_ | refine AW.block ?_ | refine aThen_n ?_ | refine aBlk_n ?_ | refine AW.ret ?_ | refine aThen_r ?_ | refine aBlk_r ?_ | refine aops_done ?_ | refine AW.skip ?_ | refine AW.exit ?_ | refine aThen_e ?_ | refine aBlk_hit ?_ | refine AW.label ?_ | refine AW.scope ?_ | refine aNg_n ?_ | refine aNg_r ?_ | refine aNg_e ?_)
                     | ((with_reducible refine AW.region ?_); with_reducible refine aops_run (by simp [List.replicate_succ]; first | exact rfl | exact ⟨rfl, rfl⟩) ?_)
                     | ((with_reducible refine AW.draw mixedP ?_ ?_); (focus first | exact .inl rfl | exact .inr (by decide)); with_reducible refine adraw_go (by simp [List.replicate_succ]; first | exact rfl | exact ⟨rfl, rfl, rfl⟩) ?_)
                     | (with_reducible refine adraw_done (by kernel_rfl) ?_)
                     | ((with_reducible refine aBlk_miss ?_ ?_); focus decide)
                     | ((with_reducible refine cond_t ?_ ?_); focus (simp [ev]; done))
                     | ((with_reducible refine cond_f ?_ ?_); focus (simp [ev]; done)))
                    simp [aRet, ares, aresL, ares1, V.pub, V.pubs, ldV, Try.results94, e]
                  · have hI2 : rsizes f 0 0 s.sizes = rsizes f (k + 1) g.height (s.sizes.drop (k + 1)) := by rw [hI]; simp [hle]
                    repeat (first
                     | (with_reducible first | refine AW.seq ?_ | refine AW.block ?_ | refine aThen_n ?_ | refine aBlk_n ?_ | refine AW.ret ?_ | refine aThen_r ?_ | refine aBlk_r ?_ | refine aops_done ?_ | refine AW.skip ?_ | refine AW.exit ?_ | refine aThen_e ?_ | refine aBlk_hit ?_ | refine AW.label ?_ | refine AW.scope ?_ | refine aNg_n ?_ | refine aNg_r ?_ | refine aNg_e ?_)
                     | ((with_reducible refine AW.region ?_); with_reducible refine aops_run (by simp [List.replicate_succ, hlt, hn, Stretch.row, sizesC]; first | exact rfl | exact ⟨rfl, rfl⟩) ?_)
                     | ((with_reducible refine AW.draw mixedP ?_ ?_); (focus first | exact .inl rfl | exact .inr (by decide)); with_reducible refine adraw_go (by simp [List.replicate_succ, hlt, hn, Stretch.row, sizesC]; first | exact rfl | exact ⟨rfl, rfl, rfl⟩) ?_)
                     | (with_reducible refine adraw_done (by kernel_rfl) ?_)
                     | ((with_reducible refine aBlk_miss ?_ ?_); focus decide)
                     | ((with_reducible refine cond_t ?_ ?_); focus (simp [ev, hlt, hn, Stretch.row, sizesC]; done))
                     | ((with_reducible refine cond_f ?_ ?_); focus (simp [ev, hlt, hn, Stretch.row, sizesC]; done)))
                    (with_reducible first | refine aops_c (rfind_a f n hgl) Try.func106 (by kernel_rfl) (by kernel_rfl) ?_ ?_ ?_ | refine adraw_c (rfind_a f n hgl) Try.func106 (by kernel_rfl) (by kernel_rfl) ?_ ?_ ?_)
                    focus (simp [gate, foundV, hf, Glyph.row]; done)
                    focus (simp [pubCall, foundV, hf, Glyph.row]; done)
                    first | (with_reducible refine aops_run (by simp [List.replicate_succ, foundV, hf, Glyph.row]; first | exact rfl | exact ⟨rfl, rfl⟩) ?_) | (with_reducible refine adraw_go (by simp [List.replicate_succ, foundV, hf, Glyph.row]; first | exact rfl | exact ⟨rfl, rfl, rfl⟩) ?_)
                    repeat (first
                     | (with_reducible first | refine AW.seq ?_ | refine AW.block ?_ | refine aThen_n ?_ | refine aBlk_n ?_ | refine AW.ret ?_ | refine aThen_r ?_ | refine aBlk_r ?_ | refine aops_done ?_ | refine AW.skip ?_ | refine AW.exit ?_ | refine aThen_e ?_ | refine aBlk_hit ?_ | refine AW.label ?_ | refine AW.scope ?_ | refine aNg_n ?_ | refine aNg_r ?_ | refine aNg_e ?_)
                     | ((with_reducible refine AW.region ?_); with_reducible refine aops_run (by simp [List.replicate_succ, k0, k0']; first | exact rfl | exact ⟨rfl, rfl⟩) ?_)
                     | ((with_reducible refine AW.draw mixedP ?_ ?_); (focus first | exact .inl rfl | exact .inr (by decide)); with_reducible refine adraw_go (by simp [List.replicate_succ, k0, k0']; first | exact rfl | exact ⟨rfl, rfl, rfl⟩) ?_)
                     | (with_reducible refine adraw_done (by kernel_rfl) ?_)
                     | ((with_reducible refine aBlk_miss ?_ ?_); focus decide)
                     | ((with_reducible refine cond_t ?_ ?_); focus (simp [ev, k0, k0']; done))
                     | ((with_reducible refine cond_f ?_ ?_); focus (simp [ev, k0, k0']; done)))
                    (with_reducible first | refine aops_c (rheight_a g) Try.func107 (by kernel_rfl) (by kernel_rfl) ?_ ?_ ?_ | refine adraw_c (rheight_a g) Try.func107 (by kernel_rfl) (by kernel_rfl) ?_ ?_ ?_)
                    focus (simp [gate, b3, glyphV, Glyph.row, k0, k0', hle]; done)
                    focus (simp [pubCall, b3, glyphV, Glyph.row, k0, k0', hle]; done)
                    first | (with_reducible refine aops_run (by simp [List.replicate_succ, b3, glyphV, Glyph.row, k0, k0', hle]; first | exact rfl | exact ⟨rfl, rfl⟩) ?_) | (with_reducible refine adraw_go (by simp [List.replicate_succ, b3, glyphV, Glyph.row, k0, k0', hle]; first | exact rfl | exact ⟨rfl, rfl, rfl⟩) ?_)
                    repeat (first
                     | (with_reducible first | refine AW.seq ?_ | refine AW.block ?_ | refine aThen_n ?_ | refine aBlk_n ?_ | refine AW.ret ?_ | refine aThen_r ?_ | refine aBlk_r ?_ | refine aops_done ?_ | refine AW.skip ?_ | refine AW.exit ?_ | refine aThen_e ?_ | refine aBlk_hit ?_ | refine AW.label ?_ | refine AW.scope ?_ | refine aNg_n ?_ | refine aNg_r ?_ | refine aNg_e ?_)
                     | ((with_reducible refine AW.region ?_); with_reducible refine aops_run (by simp [List.replicate_succ]; first | exact rfl | exact ⟨rfl, rfl⟩) ?_)
                     | ((with_reducible refine AW.draw mixedP ?_ ?_); (focus first | exact .inl rfl | exact .inr (by decide)); with_reducible refine adraw_go (by simp [List.replicate_succ]; first | exact rfl | exact ⟨rfl, rfl, rfl⟩) ?_)
                     | (with_reducible refine adraw_done (by kernel_rfl) ?_)
                     | ((with_reducible refine aBlk_miss ?_ ?_); focus decide)
                     | ((with_reducible refine cond_t ?_ ?_); focus (simp [ev]; done))
                     | ((with_reducible refine cond_f ?_ ?_); focus (simp [ev]; done)))
                    (with_reducible first | refine aops_c (rheight_a g) Try.func107 (by kernel_rfl) (by kernel_rfl) ?_ ?_ ?_ | refine adraw_c (rheight_a g) Try.func107 (by kernel_rfl) (by kernel_rfl) ?_ ?_ ?_)
                    focus (simp [gate, b3, glyphV, Glyph.row]; done)
                    focus (simp [pubCall, b3, glyphV, Glyph.row]; done)
                    first | (with_reducible refine aops_run (by simp [List.replicate_succ, b3, glyphV, Glyph.row]; first | exact rfl | exact ⟨rfl, rfl⟩) ?_) | (with_reducible refine adraw_go (by simp [List.replicate_succ, b3, glyphV, Glyph.row]; first | exact rfl | exact ⟨rfl, rfl, rfl⟩) ?_)
                    repeat (first
                     | (with_reducible first | refine AW.seq ?_ | refine AW.block ?_ | refine aThen_n ?_ | refine aBlk_n ?_ | refine AW.ret ?_ | refine aThen_r ?_ | refine aBlk_r ?_ | refine aops_done ?_ | refine AW.skip ?_ | refine AW.exit ?_ | refine aThen_e ?_ | refine aBlk_hit ?_ | refine AW.label ?_ | refine AW.scope ?_ | refine aNg_n ?_ | refine aNg_r ?_ | refine aNg_e ?_)
                     | ((with_reducible refine AW.region ?_); with_reducible refine aops_run (by simp [List.replicate_succ, hw]; first | exact rfl | exact ⟨rfl, rfl⟩) ?_)
                     | ((with_reducible refine AW.draw mixedP ?_ ?_); (focus first | exact .inl rfl | exact .inr (by decide)); with_reducible refine adraw_go (by simp [List.replicate_succ, hw]; first | exact rfl | exact ⟨rfl, rfl, rfl⟩) ?_)
                     | (with_reducible refine adraw_done (by kernel_rfl) ?_)
                     | ((with_reducible refine aBlk_miss ?_ ?_); focus decide)
                     | ((with_reducible refine cond_t ?_ ?_); focus (simp [ev, hw]; done))
                     | ((with_reducible refine cond_f ?_ ?_); focus (simp [ev, hw]; done)))
                    refine ⟨⟨(k + 1, g.height), by omega, hI2⟩, by simp only; omega, ?_⟩
                    refine Le.wdrop 2 (Nat.le_of_ble_eq_true rfl) (by simp [subT, Stretch.row, sizesC, partsC]) (by simp [Stretch.row, sizesC, partsC]) (by simp [V.bnds, V.bnd]) (by simp [O.bnd, V.bnds, V.bnd, Stretch.row, sizesC, partsC])
            · have e : rsizes f 0 0 s.sizes = true := by rw [hI, List.drop_of_length_le (by omega)]; rfl
              rw [e, Bool.true_and] at hS2
              by_cases hp : s.parts = []
              · have hp0 : s.parts.length = 0 := by rw [hp]; rfl
                rw [if_pos hp] at hS2
                repeat (first
                 | (with_reducible first | refine AW.seq ?_ | refine AW.block ?_ | refine aThen_n ?_ | refine aBlk_n ?_ | refine AW.ret ?_ | refine aThen_r ?_ | refine aBlk_r ?_ | refine aops_done ?_ | refine AW.skip ?_ | refine AW.exit ?_ | refine aThen_e ?_ | refine aBlk_hit ?_ | refine AW.label ?_ | refine AW.scope ?_ | refine aNg_n ?_ | refine aNg_r ?_ | refine aNg_e ?_)
                 | ((with_reducible refine AW.region ?_); with_reducible refine aops_run (by simp [List.replicate_succ, hlt, Stretch.row, sizesC, partsC, hp]; first | exact rfl | exact ⟨rfl, rfl⟩) ?_)
                 | ((with_reducible refine AW.draw mixedP ?_ ?_); (focus first | exact .inl rfl | exact .inr (by decide)); with_reducible refine adraw_go (by simp [List.replicate_succ, hlt, Stretch.row, sizesC, partsC, hp]; first | exact rfl | exact ⟨rfl, rfl, rfl⟩) ?_)
                 | (with_reducible refine adraw_done (by kernel_rfl) ?_)
                 | ((with_reducible refine aBlk_miss ?_ ?_); focus decide)
                 | ((with_reducible refine cond_t ?_ ?_); focus (simp [ev, hlt, Stretch.row, sizesC, partsC, hp]; done))
                 | ((with_reducible refine cond_f ?_ ?_); focus (simp [ev, hlt, Stretch.row, sizesC, partsC, hp]; done)))
                simp [aRet, ares, aresL, ares1, V.pub, V.pubs, ldV, Try.results94, hS2]
              · have hp0 : ¬ s.parts.length = 0 := fun h => hp (List.eq_nil_of_length_eq_zero h)
                rw [if_neg hp] at hS2
                repeat (first
                 | (with_reducible first | refine AW.seq ?_ | refine AW.block ?_ | refine aThen_n ?_ | refine aBlk_n ?_ | refine AW.ret ?_ | refine aThen_r ?_ | refine aBlk_r ?_ | refine aops_done ?_ | refine AW.skip ?_ | refine AW.exit ?_ | refine aThen_e ?_ | refine aBlk_hit ?_ | refine AW.label ?_ | refine AW.scope ?_ | refine aNg_n ?_ | refine aNg_r ?_ | refine aNg_e ?_)
                 | ((with_reducible refine AW.region ?_); with_reducible refine aops_run (by simp [List.replicate_succ, hlt, Stretch.row, sizesC, partsC, hp]; first | exact rfl | exact ⟨rfl, rfl⟩) ?_)
                 | ((with_reducible refine AW.draw mixedP ?_ ?_); (focus first | exact .inl rfl | exact .inr (by decide)); with_reducible refine adraw_go (by simp [List.replicate_succ, hlt, Stretch.row, sizesC, partsC, hp]; first | exact rfl | exact ⟨rfl, rfl, rfl⟩) ?_)
                 | (with_reducible refine adraw_done (by kernel_rfl) ?_)
                 | ((with_reducible refine aBlk_miss ?_ ?_); focus decide)
                 | ((with_reducible refine cond_t ?_ ?_); focus (simp [ev, hlt, Stretch.row, sizesC, partsC, hp]; done))
                 | ((with_reducible refine cond_f ?_ ?_); focus (simp [ev, hlt, Stretch.row, sizesC, partsC, hp]; done)))
                refine AW.loopH (ι := { q : Nat × Bool // q.1 ≤ s.parts.length ∧ rparts f s.overlap false s.parts = rparts f s.overlap q.2 (s.parts.drop q.1) }) (fun q => [(10, .c (.int .i64 (q.1.1 : Int))), (9, .c (.bool q.1.2)), (4, .c (.bool false))]) (fun _ => [.box 27 f.vs false, .box 59 (s.row.map V.c) false]) (fun q => s.parts.length - q.1.1) ⟨(0, false), by simp⟩ _ (by simp only [wr, wrOps, List.cons_append, List.nil_append, List.append_nil, List.append_assoc]; exact rfl) _ (by simp only [havoc, List.foldl_cons, List.foldl_nil, List.set_cons_zero, List.set_cons_succ]; exact rfl) ?_ ?_
                all_goals simp only [puts, List.foldl_cons, List.foldl_nil, List.set_cons_zero, List.set_cons_succ]
                · refine Le.weak (by simp [subT, Stretch.row, sizesC, partsC])
                · rintro ⟨⟨j, ext⟩, hj, hJ⟩
                  simp only at hj hJ ⊢
                  by_cases hjl : j < s.parts.length
                  · obtain ⟨q, hq⟩ : ∃ q, s.parts[j] = q := ⟨_, rfl⟩
                    rw [List.drop_eq_getElem_cons hjl, hq] at hJ
                    simp only [rparts] at hJ
                    have hw : IntKind.i64.wrap ((j : Int) + 1) = ((j + 1 : Nat) : Int) := by rw [wrap_i64 (by omega) (by omega)]; simp
                    cases hf : f.find q.name with
                    | none =>
                      rw [hf] at hJ
                      have e : rstretchOk f s = false := by rw [hS2, hJ]
                      repeat (first
                       | (with_reducible first | refine AW.seq ?_ | refine AW.block ?_ | refine aThen_n ?_ | refine aBlk_n ?_ | refine AW.ret ?_ | refine aThen_r ?_ | refine aBlk_r ?_ | refine aops_done ?_ | refine AW.skip ?_ | refine AW.exit ?_ | refine aThen_e ?_ | refine aBlk_hit ?_ | refine AW.label ?_ | refine AW.scope ?_ | refine aNg_n ?_ | refine aNg_r ?_ | refine aNg_e ?_)
                       | ((with_reducible refine AW.region ?_); with_reducible refine aops_run (by simp [List.replicate_succ, hjl, hq, Stretch.row, partsC, Part.row]; first | exact rfl | exact ⟨rfl, rfl⟩) ?_)
                       | ((with_reducible refine AW.draw mixedP ?_ ?_); (focus first | exact .inl rfl | exact .inr (by decide)); with_reducible refine adraw_go (by simp [List.replicate_succ, hjl, hq, Stretch.row, partsC, Part.row]; first | exact rfl | exact ⟨rfl, rfl, rfl⟩) ?_)
                       | (with_reducible refine adraw_done (by kernel_rfl) ?_)
                       | ((with_reducible refine aBlk_miss ?_ ?_); focus decide)
                       | ((with_reducible refine cond_t ?_ ?_); focus (simp [ev, hjl, hq, Stretch.row, partsC, Part.row]; done))
                       | ((with_reducible refine cond_f ?_ ?_); focus (simp [ev, hjl, hq, Stretch.row, partsC, Part.row]; done)))
                      (with_reducible first | refine aops_c (rfind_a f q.name hgl) Try.func106 (by kernel_rfl) (by kernel_rfl) ?_ ?_ ?_ | refine adraw_c (rfind_a f q.name hgl) Try.func106 (by kernel_rfl) (by kernel_rfl) ?_ ?_ ?_)
                      focus (simp [gate, foundV, hf, Glyph.row, Glyph.zero]; done)
                      focus (simp [pubCall, foundV, hf, Glyph.row, Glyph.zero]; done)
                      first | (with_reducible refine aops_run (by simp [List.replicate_succ, foundV, hf, Glyph.row, Glyph.zero]; first | exact rfl | exact ⟨rfl, rfl⟩) ?_) | (with_reducible refine adraw_go (by simp [List.replicate_succ, foundV, hf, Glyph.row, Glyph.zero]; first | exact rfl | exact ⟨rfl, rfl, rfl⟩) ?_)
                      repeat (first
                       | (with_reducible first | refine AW.seq ?_ | refine AW.block ?_ | refine aThen_n ?_ | refine aBlk_n ?_ | refine AW.ret ?_ | refine aThen_r ?_ | refine aBlk_r ?_ | refine aops_done ?_ | refine AW.skip ?_ | refine AW.exit ?_ | refine aThen_e ?_ | refine aBlk_hit ?_ | refine AW.label ?_ | refine AW.scope ?_ | refine aNg_n ?_ | refine aNg_r ?_ | refine aNg_e ?_)
                       | ((with_reducible refine AW.region ?_); with_reducible refine aops_run (by simp [List.replicate_succ]; first | exact rfl | exact ⟨rfl, rfl⟩) ?_)
                       | ((with_reducible refine AW.draw mixedP ?_ ?_); (focus first | exact .inl rfl | exact .inr (by decide)); with_reducible refine adraw_go (by simp [List.replicate_succ]; first | exact rfl | exact ⟨rfl, rfl, rfl⟩) ?_)
                       | (with_reducible refine adraw_done (by kernel_rfl) ?_)
                       | ((with_reducible refine aBlk_miss ?_ ?_); focus decide)
                       | ((with_reducible refine cond_t ?_ ?_); focus (simp [ev]; done))
                       | ((with_reducible refine cond_f ?_ ?_); focus (simp [ev]; done)))
                      simp [aRet, ares, aresL, ares1, V.pub, V.pubs, ldV, Try.results94, e]
                    | some g =>
                      rw [hf] at hJ
                      obtain ⟨b1, b2, b3⟩ := height_small hok hf
                      by_cases hle : g.height ≤ s.overlap
                      · have e : rstretchOk f s = false := by rw [hS2, hJ]; simp [hle]
                        repeat (first
                         | (with_reducible first | refine AW.seq ?_ | refine AW.block ?_ | refine aThen_n ?_ | refine aBlk_n ?_ | refine AW.ret ?_ | refine aThen_r ?_ | refine aBlk_r ?_ | refine aops_done ?_ | refine AW.skip ?_ | refine AW.exit ?_ | refine aThen_e ?_ | refine aBlk_hit ?_ | refine AW.label ?_ | refine AW.scope ?_ | refine aNg_n ?_ | refine aNg_r ?_ | refine aNg_e ?_)
                         | ((with_reducible refine AW.region ?_); with_reducible refine aops_run (by simp [List.replicate_succ, hjl, hq, Stretch.row, partsC, Part.row]; first | exact rfl | exact ⟨rfl, rfl⟩) ?_)
                         | ((with_reducible refine AW.draw mixedP ?_ ?_); (focus first | exact .inl rfl | exact .inr (by decide)); with_reducible refine adraw_go (by simp [List.replicate_succ, hjl, hq, Stretch.row, partsC, Part.row]; first | exact rfl | exact ⟨rfl, rfl, rfl⟩) ?_)
                         | (with_reducible refine adraw_done (by kernel_rfl) ?_)
                         | ((with_reducible refine aBlk_miss ?_ ?_); focus decide)
                         | ((with_reducible refine cond_t ?_ ?_); focus (simp [ev, hjl, hq, Stretch.row, partsC, Part.row]; done))
                         | ((with_reducible refine cond_f ?_ ?_); focus (simp [ev, hjl, hq, Stretch.row, partsC, Part.row]; done)))
                        (with_reducible first | refine aops_c (rfind_a f q.name hgl) Try.func106 (by kernel_rfl) (by kernel_rfl) ?_ ?_ ?_ | refine adraw_c (rfind_a f q.name hgl) Try.func106 (by kernel_rfl) (by kernel_rfl) ?_ ?_ ?_)
                        focus (simp [gate, foundV, hf, Glyph.row]; done)
                        focus (simp [pubCall, foundV, hf, Glyph.row]; done)
                        first | (with_reducible refine aops_run (by simp [List.replicate_succ, foundV, hf, Glyph.row]; first | exact rfl | exact ⟨rfl, rfl⟩) ?_) | (with_reducible refine adraw_go (by simp [List.replicate_succ, foundV, hf, Glyph.row]; first | exact rfl | exact ⟨rfl, rfl, rfl⟩) ?_)
                        repeat (first
                         | (with_reducible first | refine AW.seq ?_ | refine AW.block ?_ | refine aThen_n ?_ | refine aBlk_n ?_ | refine AW.ret ?_ | refine aThen_r ?_ | refine aBlk_r ?_ | refine aops_done ?_ | refine AW.skip ?_ | refine AW.exit ?_ | refine aThen_e ?_ | refine aBlk_hit ?_ | refine AW.label ?_ | refine AW.scope ?_ | refine aNg_n ?_ | refine aNg_r ?_ | refine aNg_e ?_)
                         | ((with_reducible refine AW.region ?_); with_reducible refine aops_run (by simp [List.replicate_succ, Stretch.row]; first | exact rfl | exact ⟨rfl, rfl⟩) ?_)
                         | ((with_reducible refine AW.draw mixedP ?_ ?_); (focus first | exact .inl rfl | exact .inr (by decide)); with_reducible refine adraw_go (by simp [List.replicate_succ, Stretch.row]; first | exact rfl | exact ⟨rfl, rfl, rfl⟩) ?_)
                         | (with_reducible refine adraw_done (by kernel_rfl) ?_)
                         | ((with_reducible refine aBlk_miss ?_ ?_); focus decide)
                         | ((with_reducible refine cond_t ?_ ?_); focus (simp [ev, Stretch.row]; done))
                         | ((with_reducible refine cond_f ?_ ?_); focus (simp [ev, Stretch.row]; done)))
                        (with_reducible first | refine aops_c (rheight_a g) Try.func107 (by kernel_rfl) (by kernel_rfl) ?_ ?_ ?_ | refine adraw_c (rheight_a g) Try.func107 (by kernel_rfl) (by kernel_rfl) ?_ ?_ ?_)
                        focus (simp [gate, b3, glyphV, Glyph.row, hle]; done)
                        focus (simp [pubCall, b3, glyphV, Glyph.row, hle]; done)
                        first | (with_reducible refine aops_run (by simp [List.replicate_succ, b3, glyphV, Glyph.row, hle]; first | exact rfl | exact ⟨rfl, rfl⟩) ?_) | (with_reducible refine adraw_go (by simp [List.replicate_succ, b3, glyphV, Glyph.row, hle]; first | exact rfl | exact ⟨rfl, rfl, rfl⟩) ?_)
                        repeat (first
                         | (with_reducible first | refine AW.seq ?_ | refine AW.block ?_ | refine aThen_n ?_ | refine aBlk_n ?_ | refine AW.ret ?_ | refine aThen_r ?_ | refine aBlk_r ?_ | refine aops_done ?_ | refine AW.skip ?_ | refine AW.exit ?_ | refine aThen_e ?_ | refine aBlk_hit ?_ | refine AW.label ?_ | refine AW.scope ?_ | refine aNg_n ?_ | refine aNg_r ?_ | refine aNg_e ?_)
                         | ((with_reducible refine AW.region ?_); with_reducible refine aops_run (by simp [List.replicate_succ]; first | exact rfl | exact ⟨rfl, rfl⟩) ?_)
                         | ((with_reducible refine AW.draw mixedP ?_ ?_); (focus first | exact .inl rfl | exact .inr (by decide)); with_reducible refine adraw_go (by simp [List.replicate_succ]; first | exact rfl | exact ⟨rfl, rfl, rfl⟩) ?_)
                         | (with_reducible refine adraw_done (by kernel_rfl) ?_)
                         | ((with_reducible refine aBlk_miss ?_ ?_); focus decide)
                         | ((with_reducible refine cond_t ?_ ?_); focus (simp [ev]; done))
                         | ((with_reducible refine cond_f ?_ ?_); focus (simp [ev]; done)))
                        simp [aRet, ares, aresL, ares1, V.pub, V.pubs, ldV, Try.results94, e]
                      · have hJ2 : rparts f s.overlap false s.parts = rparts f s.overlap (ext || q.ext) (s.parts.drop (j + 1)) := by rw [hJ]; simp [hle]
                        cases ext with
                        | true =>
                          repeat (first
                           | (with_reducible first | refine AW.seq ?_ | refine AW.block ?_ | refine aThen_n ?_ | refine aBlk_n ?_ | refine AW.ret ?_ | refine aThen_r ?_ | refine aBlk_r ?_ | refine aops_done ?_ | refine AW.skip ?_ | refine AW.exit ?_ | refine aThen_e ?_ | refine aBlk_hit ?_ | refine AW.label ?_ | refine AW.scope ?_ | refine aNg_n ?_ | refine aNg_r ?_ | refine aNg_e ?_)
                           | ((with_reducible refine AW.region ?_); with_reducible refine aops_run (by simp [List.replicate_succ, hjl, hq, Stretch.row, partsC, Part.row]; first | exact rfl | exact ⟨rfl, rfl⟩) ?_)
                           | ((with_reducible refine AW.draw mixedP ?_ ?_); (focus first | exact .inl rfl | exact .inr (by decide)); with_reducible refine adraw_go (by simp [List.replicate_succ, hjl, hq, Stretch.row, partsC, Part.row]; first | exact rfl | exact ⟨rfl, rfl, rfl⟩) ?_)
                           | (with_reducible refine adraw_done (by kernel_rfl) ?_)
                           | ((with_reducible refine aBlk_miss ?_ ?_); focus decide)
                           | ((with_reducible refine cond_t ?_ ?_); focus (simp [ev, hjl, hq, Stretch.row, partsC, Part.row]; done))
                           | ((with_reducible refine cond_f ?_ ?_); focus (simp [ev, hjl, hq, Stretch.row, partsC, Part.row]; done)))
                          (with_reducible first | refine aops_c (rfind_a f q.name hgl) Try.func106 (by kernel_rfl) (by kernel_rfl) ?_ ?_ ?_ | refine adraw_c (rfind_a f q.name hgl) Try.func106 (by kernel_rfl) (by kernel_rfl) ?_ ?_ ?_)
                          focus (simp [gate, foundV, hf, Glyph.row]; done)
                          focus (simp [pubCall, foundV, hf, Glyph.row]; done)
                          first | (with_reducible refine aops_run (by simp [List.replicate_succ, foundV, hf, Glyph.row]; first | exact rfl | exact ⟨rfl, rfl⟩) ?_) | (with_reducible refine adraw_go (by simp [List.replicate_succ, foundV, hf, Glyph.row]; first | exact rfl | exact ⟨rfl, rfl, rfl⟩) ?_)
                          repeat (first
                           | (with_reducible first | refine AW.seq ?_ | refine AW.block ?_ | refine aThen_n ?_ | refine aBlk_n ?_ | refine AW.ret ?_ | refine aThen_r ?_ | refine aBlk_r ?_ | refine aops_done ?_ | refine AW.skip ?_ | refine AW.exit ?_ | refine aThen_e ?_ | refine aBlk_hit ?_ | refine AW.label ?_ | refine AW.scope ?_ | refine aNg_n ?_ | refine aNg_r ?_ | refine aNg_e ?_)
                           | ((with_reducible refine AW.region ?_); with_reducible refine aops_run (by simp [List.replicate_succ, Stretch.row]; first | exact rfl | exact ⟨rfl, rfl⟩) ?_)
                           | ((with_reducible refine AW.draw mixedP ?_ ?_); (focus first | exact .inl rfl | exact .inr (by decide)); with_reducible refine adraw_go (by simp [List.replicate_succ, Stretch.row]; first | exact rfl | exact ⟨rfl, rfl, rfl⟩) ?_)
                           | (with_reducible refine adraw_done (by kernel_rfl) ?_)
                           | ((with_reducible refine aBlk_miss ?_ ?_); focus decide)
                           | ((with_reducible refine cond_t ?_ ?_); focus (simp [ev, Stretch.row]; done))
                           | ((with_reducible refine cond_f ?_ ?_); focus (simp [ev, Stretch.row]; done)))
                          (with_reducible first | refine aops_c (rheight_a g) Try.func107 (by kernel_rfl) (by kernel_rfl) ?_ ?_ ?_ | refine adraw_c (rheight_a g) Try.func107 (by kernel_rfl) (by kernel_rfl) ?_ ?_ ?_)
                          focus (simp [gate, b3, glyphV, Glyph.row, hle]; done)
                          focus (simp [pubCall, b3, glyphV, Glyph.row, hle]; done)
                          first | (with_reducible refine aops_run (by simp [List.replicate_succ, b3, glyphV, Glyph.row, hle]; first | exact rfl | exact ⟨rfl, rfl⟩) ?_) | (with_reducible refine adraw_go (by simp [List.replicate_succ, b3, glyphV, Glyph.row, hle]; first | exact rfl | exact ⟨rfl, rfl, rfl⟩) ?_)
                          repeat (first
                           | (with_reducible first | refine AW.seq ?_ | refine AW.block ?_ | refine aThen_n ?_ | refine aBlk_n ?_ | refine AW.ret ?_ | refine aThen_r ?_ | refine aBlk_r ?_ | refine aops_done ?_ | refine AW.skip ?_ | refine AW.exit ?_ | refine aThen_e ?_ | refine aBlk_hit ?_ | refine AW.label ?_ | refine AW.scope ?_ | refine aNg_n ?_ | refine aNg_r ?_ | refine aNg_e ?_)
                           | ((with_reducible refine AW.region ?_); with_reducible refine aops_run (by simp [List.replicate_succ, hw]; first | exact rfl | exact ⟨rfl, rfl⟩) ?_)
                           | ((with_reducible refine AW.draw mixedP ?_ ?_); (focus first | exact .inl rfl | exact .inr (by decide)); with_reducible refine adraw_go (by simp [List.replicate_succ, hw]; first | exact rfl | exact ⟨rfl, rfl, rfl⟩) ?_)
                           | (with_reducible refine adraw_done (by kernel_rfl) ?_)
                           | ((with_reducible refine aBlk_miss ?_ ?_); focus decide)
                           | ((with_reducible refine cond_t ?_ ?_); focus (simp [ev, hw]; done))
                           | ((with_reducible refine cond_f ?_ ?_); focus (simp [ev, hw]; done)))
                          refine ⟨⟨(j + 1, true), by omega, by simpa using hJ2⟩, by simp only; omega, ?_⟩
                          refine Le.wdrop 2 (Nat.le_of_ble_eq_true rfl) (by simp [subT, Stretch.row, sizesC, partsC]) (by simp [Stretch.row, sizesC, partsC]) (by simp [V.bnds, V.bnd]) (by simp [O.bnd, V.bnds, V.bnd, Stretch.row, sizesC, partsC])
                        | false =>
                          repeat (first
                           | (with_reducible first | refine AW.seq ?_ | refine AW.block ?_ | refine aThen_n ?_ | refine aBlk_n ?_ | refine AW.ret ?_ | refine aThen_r ?_ | refine aBlk_r ?_ | refine aops_done ?_ | refine AW.skip ?_ | refine AW.exit ?_ | refine aThen_e ?_ | refine aBlk_hit ?_ | refine AW.label ?_ | refine AW.scope ?_ | refine aNg_n ?_ | refine aNg_r ?_ | refine aNg_e ?_)
                           | ((with_reducible refine AW.region ?_); with_reducible refine aops_run (by simp [List.replicate_succ, hjl, hq, Stretch.row, partsC, Part.row]; first | exact rfl | exact ⟨rfl, rfl⟩) ?_)
                           | ((with_reducible refine AW.draw mixedP ?_ ?_); (focus first | exact .inl rfl | exact .inr (by decide)); with_reducible refine adraw_go (by simp [List.replicate_succ, hjl, hq, Stretch.row, partsC, Part.row]; first | exact rfl | exact ⟨rfl, rfl, rfl⟩) ?_)
                           | (with_reducible refine adraw_done (by kernel_rfl) ?_)
                           | ((with_reducible refine aBlk_miss ?_ ?_); focus decide)
                           | ((with_reducible refine cond_t ?_ ?_); focus (simp [ev, hjl, hq, Stretch.row, partsC, Part.row]; done))
                           | ((with_reducible refine cond_f ?_ ?_); focus (simp [ev, hjl, hq, Stretch.row, partsC, Part.row]; done)))
                          (with_reducible first | refine aops_c (rfind_a f q.name hgl) Try.func106 (by kernel_rfl) (by kernel_rfl) ?_ ?_ ?_ | refine adraw_c (rfind_a f q.name hgl) Try.func106 (by kernel_rfl) (by kernel_rfl) ?_ ?_ ?_)
                          focus (simp [gate, foundV, hf, Glyph.row]; done)
                          focus (simp [pubCall, foundV, hf, Glyph.row]; done)
                          first | (with_reducible refine aops_run (by simp [List.replicate_succ, foundV, hf, Glyph.row]; first | exact rfl | exact ⟨rfl, rfl⟩) ?_) | (with_reducible refine adraw_go (by simp [List.replicate_succ, foundV, hf, Glyph.row]; first | exact rfl | exact ⟨rfl, rfl, rfl⟩) ?_)
                          repeat (first
                           | (with_reducible first | refine AW.seq ?_ | refine AW.block ?_ | refine aThen_n ?_ | refine aBlk_n ?_ | refine AW.ret ?_ | refine aThen_r ?_ | refine aBlk_r ?_ | refine aops_done ?_ | refine AW.skip ?_ | refine AW.exit ?_ | refine aThen_e ?_ | refine aBlk_hit ?_ | refine AW.label ?_ | refine AW.scope ?_ | refine aNg_n ?_ | refine aNg_r ?_ | refine aNg_e ?_)
                           | ((with_reducible refine AW.region ?_); with_reducible refine aops_run (by simp [List.replicate_succ, Stretch.row]; first | exact rfl | exact ⟨rfl, rfl⟩) ?_)
                           | ((with_reducible refine AW.draw mixedP ?_ ?_); (focus first | exact .inl rfl | exact .inr (by decide)); with_reducible refine adraw_go (by simp [List.replicate_succ, Stretch.row]; first | exact rfl | exact ⟨rfl, rfl, rfl⟩) ?_)
                           | (with_reducible refine adraw_done (by kernel_rfl) ?_)
                           | ((with_reducible refine aBlk_miss ?_ ?_); focus decide)
                           | ((with_reducible refine cond_t ?_ ?_); focus (simp [ev, Stretch.row]; done))
                           | ((with_reducible refine cond_f ?_ ?_); focus (simp [ev, Stretch.row]; done)))
                          (with_reducible first | refine aops_c (rheight_a g) Try.func107 (by kernel_rfl) (by kernel_rfl) ?_ ?_ ?_ | refine adraw_c (rheight_a g) Try.func107 (by kernel_rfl) (by kernel_rfl) ?_ ?_ ?_)
                          focus (simp [gate, b3, glyphV, Glyph.row, hle]; done)
                          focus (simp [pubCall, b3, glyphV, Glyph.row, hle]; done)
                          first | (with_reducible refine aops_run (by simp [List.replicate_succ, b3, glyphV, Glyph.row, hle]; first | exact rfl | exact ⟨rfl, rfl⟩) ?_) | (with_reducible refine adraw_go (by simp [List.replicate_succ, b3, glyphV, Glyph.row, hle]; first | exact rfl | exact ⟨rfl, rfl, rfl⟩) ?_)
                          repeat (first
                           | (with_reducible first | refine AW.seq ?_ | refine AW.block ?_ | refine aThen_n ?_ | refine aBlk_n ?_ | refine AW.ret ?_ | refine aThen_r ?_ | refine aBlk_r ?_ | refine aops_done ?_ | refine AW.skip ?_ | refine AW.exit ?_ | refine aThen_e ?_ | refine aBlk_hit ?_ | refine AW.label ?_ | refine AW.scope ?_ | refine aNg_n ?_ | refine aNg_r ?_ | refine aNg_e ?_)
                           | ((with_reducible refine AW.region ?_); with_reducible refine aops_run (by simp [List.replicate_succ, hw, hjl, hq, partsC, Part.row]; first | exact rfl | exact ⟨rfl, rfl⟩) ?_)
                           | ((with_reducible refine AW.draw mixedP ?_ ?_); (focus first | exact .inl rfl | exact .inr (by decide)); with_reducible refine adraw_go (by simp [List.replicate_succ, hw, hjl, hq, partsC, Part.row]; first | exact rfl | exact ⟨rfl, rfl, rfl⟩) ?_)
                           | (with_reducible refine adraw_done (by kernel_rfl) ?_)
                           | ((with_reducible refine aBlk_miss ?_ ?_); focus decide)
                           | ((with_reducible refine cond_t ?_ ?_); focus (simp [ev, hw, hjl, hq, partsC, Part.row]; done))
                           | ((with_reducible refine cond_f ?_ ?_); focus (simp [ev, hw, hjl, hq, partsC, Part.row]; done)))
                          refine ⟨⟨(j + 1, q.ext), by omega, by simpa using hJ2⟩, by simp only; omega, ?_⟩
                          refine Le.wdrop 2 (Nat.le_of_ble_eq_true rfl) (by simp [subT, Stretch.row, sizesC, partsC]) (by simp [Stretch.row, sizesC, partsC]) (by simp [V.bnds, V.bnd]) (by simp [O.bnd, V.bnds, V.bnd, Stretch.row, sizesC, partsC])
                  · have e2 : rparts f s.overlap false s.parts = some ext := by rw [hJ, List.drop_of_length_le (by omega)]; rfl
                    rw [e2] at hS2
                    simp only at hS2
                    cases ext with
                    | true =>
                      repeat (first
                       | (with_reducible first | refine AW.seq ?_ | refine AW.block ?_ | refine aThen_n ?_ | refine aBlk_n ?_ | refine AW.ret ?_ | refine aThen_r ?_ | refine aBlk_r ?_ | refine aops_done ?_ | refine AW.skip ?_ | refine AW.exit ?_ | refine aThen_e ?_ | refine aBlk_hit ?_ | refine AW.label ?_ | refine AW.scope ?_ | refine aNg_n ?_ | refine aNg_r ?_ | refine aNg_e ?_)
                       | ((with_reducible refine AW.region ?_); with_reducible refine aops_run (by simp [List.replicate_succ, hjl, Stretch.row, partsC]; first | exact rfl | exact ⟨rfl, rfl⟩) ?_)
                       | ((with_reducible refine AW.draw mixedP ?_ ?_); (focus first | exact .inl rfl | exact .inr (by decide)); with_reducible refine adraw_go (by simp [List.replicate_succ, hjl, Stretch.row, partsC]; first | exact rfl | exact ⟨rfl, rfl, rfl⟩) ?_)
                       | (with_reducible refine adraw_done (by kernel_rfl) ?_)
                       | ((with_reducible refine aBlk_miss ?_ ?_); focus decide)
                       | ((with_reducible refine cond_t ?_ ?_); focus (simp [ev, hjl, Stretch.row, partsC]; done))
                       | ((with_reducible refine cond_f ?_ ?_); focus (simp [ev, hjl, Stretch.row, partsC]; done)))
                      simp [aRet, ares, aresL, ares1, V.pub, V.pubs, ldV, Try.results94, hS2]
                    | false =>
                      repeat (first
                       | (with_reducible first | refine AW.seq ?_ | refine AW.block ?_ | refine aThen_n ?_ | refine aBlk_n ?_ | refine AW.ret ?_ | refine aThen_r ?_ | refine aBlk_r ?_ | refine aops_done ?_ | refine AW.skip ?_ | refine AW.exit ?_ | refine aThen_e ?_ | refine aBlk_hit ?_ | refine AW.label ?_ | refine AW.scope ?_ | refine aNg_n ?_ | refine aNg_r ?_ | refine aNg_e ?_)
                       | ((with_reducible refine AW.region ?_); with_reducible refine aops_run (by simp [List.replicate_succ, hjl, Stretch.row, partsC]; first | exact rfl | exact ⟨rfl, rfl⟩) ?_)
                       | ((with_reducible refine AW.draw mixedP ?_ ?_); (focus first | exact .inl rfl | exact .inr (by decide)); with_reducible refine adraw_go (by simp [List.replicate_succ, hjl, Stretch.row, partsC]; first | exact rfl | exact ⟨rfl, rfl, rfl⟩) ?_)
                       | (with_reducible refine adraw_done (by kernel_rfl) ?_)
                       | ((with_reducible refine aBlk_miss ?_ ?_); focus decide)
                       | ((with_reducible refine cond_t ?_ ?_); focus (simp [ev, hjl, Stretch.row, partsC]; done))
                       | ((with_reducible refine cond_f ?_ ?_); focus (simp [ev, hjl, Stretch.row, partsC]; done)))
                      simp [aRet, ares, aresL, ares1, V.pub, V.pubs, ldV, Try.results94, hS2]
end Go.Proofs.Ythbcljjpmdfflaa
