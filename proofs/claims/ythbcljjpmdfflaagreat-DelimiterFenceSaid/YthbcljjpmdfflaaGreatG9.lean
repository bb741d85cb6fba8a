import Derived.Test.YthbcljjpmdfflaaGreatG7
import Derived.Test.YthbcljjpmdfflaaGreatG4
/-
 Layer 6, the program, on the abstract machine: check, sizeHeight, tall, choose, Choose.
-/
namespace Go.Proofs.YthbcljjpmdfflaaGreat
open Go.RowKit
set_option linter.unusedSimpArgs false
set_option linter.unusedVariables false
set_option maxRecDepth 100000
theorem vcheck_a (f : Font) (p : Int) : AC Tryz.prog 64 [.agg f.vs, .c (.int .i64 p)] (errV (checkR f p)) := by
 cases hv : f.valid with
 | false =>
   refine en Tryz.func64 Tryz.ntmps64 ?_
   refine go0 ?_
   refine gc @hv (fvalid_a f) Tryz.func17 ?_
   refine go0 ?_
   simp [aRet, ares, aresL, ares1, V.pub, V.pubs, ldV, Tryz.results64, errV, checkR, hv]
 | true =>
   by_cases h1 : p < 1
   · refine en Tryz.func64 Tryz.ntmps64 ?_
     refine go0 ?_
     refine gc @hv (fvalid_a f) Tryz.func17 ?_
     refine go @h1 ?_
     simp [aRet, ares, aresL, ares1, V.pub, V.pubs, ldV, Tryz.results64, errV, checkR, hv, h1]
   · by_cases h2 : 100 < p
     · refine en Tryz.func64 Tryz.ntmps64 ?_
       refine go0 ?_
       refine gc @hv (fvalid_a f) Tryz.func17 ?_
       refine go (cj @h1 <| @h2) ?_
       simp [aRet, ares, aresL, ares1, V.pub, V.pubs, ldV, Tryz.results64, errV, checkR, hv, h1, h2]
     · refine en Tryz.func64 Tryz.ntmps64 ?_
       refine go0 ?_
       refine gc @hv (fvalid_a f) Tryz.func17 ?_
       refine go (cj @h1 <| @h2) ?_
       simp [aRet, ares, aresL, ares1, V.pub, V.pubs, ldV, Tryz.results64, errV, checkR, hv, h1, h2]
theorem vsize_a (f : Font) (name : ByteArray) (p : Int) (hl : f.glyphs.length ≤ maxLen) (hv : f.valid = true) (hp1 : 1 ≤ p) (hp2 : p ≤ 100) : AC Tryz.prog 85 [.agg f.vs, .c (.str name), .c (.int .i64 p)] (.c (.int .i64 (sizeH f name p))) := by
 obtain ⟨_, e2⟩ := sizedR_eq hv hp1 hp2 name
 have hb := scaled_b hv hp1 hp2 name
 have hS : sizeH f name p = ((f.pick name).scaled p).h + ((f.pick name).scaled p).d := by unfold sizeH; rw [e2]
 have hw : IntKind.i64.wrap (((f.pick name).scaled p).h + ((f.pick name).scaled p).d) = sizeH f name p := by rw [hS]; exact wrap_i64 (by omega) (by omega)
 have hsc := scaled_a (f.pick name) p
 rw [e2] at hsc
 obtain ⟨G, hG⟩ : ∃ G, (f.pick name).scaled p = G := ⟨_, rfl⟩
 rw [hG] at hsc hw
 refine en Tryz.func85 Tryz.ntmps85 ?_
 refine go0 ?_
 refine gc0 (pick_a f name hl) Tryz.func104 ?_
 refine gc (cj @scaledV.eq_1 <| cj @errV.eq_1 <| cj @glyphV.eq_1 <| @Glyph.row.eq_1) (hsc) Tryz.func103 ?_
 refine go @hw ?_
 simp [aRet, ares, aresL, ares1, V.pub, V.pubs, ldV, Tryz.results85]
set_option maxHeartbeats 3200000 in
theorem vtall_a (f : Font) (s : Stretch) (r : Int) (hf : f.Fit) (hv : f.valid = true) (hs : s ∈ f.stretches) (hr1 : 1 ≤ r) (hr2 : r ≤ 1000) : AC Tryz.prog 86 [.agg f.vs, stretchV s, .c (.int .i64 r)] (.c (.int .i64 (tallI f s r))) := by
 obtain ⟨_, _, g3, g4, g5, g6⟩ := good_of hv hs
 have hT : tallI f s r = (tallF f r 0 0 s.parts).1 - ((tallF f r 0 0 s.parts).2 - 1) * s.overlap := rfl
 unfold stretchV
 refine AC.intro Tryz.func86 rfl ?_
 simp only [Tryz.ntmps86, List.map_cons, List.map_nil, List.length_cons, List.length_nil, Nat.reduceAdd, Nat.reduceSub, List.replicate_succ, List.replicate_zero, List.cons_append, List.nil_append, Stretch.row]
 refine go @partsC.eq_1 ?_
 refine lp (ι := { q : Nat × Int × Int // q.1 ≤ s.parts.length ∧ tallF f r 0 0 s.parts = tallF f r q.2.1 q.2.2 (s.parts.drop q.1) ∧ -(40000000 * (q.1 : Int)) ≤ q.2.1 ∧ q.2.1 ≤ 40000000 * (q.1 : Int) ∧ (q.1 : Int) ≤ q.2.2 ∧ q.2.2 ≤ 1000 * (q.1 : Int) }) (fun q => [(15, .c (.int .i64 (q.1.1 : Int))), (7, .c (.int .i64 q.1.2.1)), (8, .c (.int .i64 q.1.2.2))]) (fun _ => [.box 27 f.vs false, .box 61 (s.row.map V.c) false]) (fun q => s.parts.length - q.1.1) ⟨(0, 0, 0), by simp⟩ ?_ ?_
 all_goals simp only [puts, List.foldl_cons, List.foldl_nil, List.set_cons_zero, List.set_cons_succ]
 · refine Le.weak (by simp [subT, Stretch.row, partsC])
 · rintro ⟨⟨k, hh, cc⟩, hk, hI, b1, b2, b3, b4⟩
   simp only at hk hI b1 b2 b3 b4 ⊢
   have hov := mul_bound s.overlap cc 60000 8000 (by omega) g5 (by omega) (by omega)
   rw [Int.mul_comm s.overlap cc] at hov
   by_cases hlt : k < s.parts.length
   · obtain ⟨q, hq⟩ : ∃ q, s.parts[k] = q := ⟨_, rfl⟩
     rw [List.drop_eq_getElem_cons hlt, hq] at hI
     simp only [tallF] at hI
     have hsm := pick_small hv q.name
     unfold Glyph.Small at hsm
     have hpa := pick_a f q.name hf.gl
     obtain ⟨g, hg⟩ : ∃ g, f.pick q.name = g := ⟨_, rfl⟩
     rw [hg] at hsm hI hpa
     have e3 : IntKind.i64.wrap (g.h + g.d) = g.height := wrap_i64 (by omega) (by omega)
     have e1 : -40000 ≤ g.height ∧ g.height ≤ 40000 := by unfold Glyph.height; omega
     obtain ⟨t1, t2⟩ := times_bound hr1 hr2 q
     have hw : IntKind.i64.wrap ((k : Int) + 1) = ((k + 1 : Nat) : Int) := by rw [wrap_i64 (by omega) (by omega)]; simp
     have m2 := mul_bound g.height (times r q) 40000 1000 (by omega) (by omega) (by omega) t2
     rw [Int.mul_comm g.height] at m2
     have w2 : IntKind.i64.wrap (times r q * g.height) = times r q * g.height := wrap_i64 (by omega) (by omega)
     have w3 : IntKind.i64.wrap (hh + times r q * g.height) = hh + times r q * g.height := wrap_i64 (by omega) (by omega)
     have w4 : IntKind.i64.wrap (cc + times r q) = cc + times r q := wrap_i64 (by omega) (by omega)
     cases hx : q.ext with
     | true =>
       have ht : times r q = r := by simp [times, hx]
       rw [ht] at w2 w3 w4 hI m2 t1 t2
       refine go (cj @hlt <| cj @hq <| cj @Stretch.row.eq_1 <| cj @partsC.eq_1 <| cj @Part.row.eq_1 <| @hx) ?_
       refine gc (cj @glyphV.eq_1 <| @Glyph.row.eq_1) (hpa) Tryz.func104 ?_
       refine gc (cj @glyphV.eq_1 <| cj @Glyph.row.eq_1 <| cj @e3 <| cj @w2 <| @w3) (fheight_a g) Tryz.func105 ?_
       refine go (cj @w4 <| @hw) ?_
       refine ⟨⟨(k + 1, hh + r * g.height, cc + r), by omega, hI, by simp only; omega, by simp only; omega, by simp only; omega, by simp only; omega⟩, by simp only; omega, ?_⟩
       refine Le.wdrop 2 (Nat.le_of_ble_eq_true rfl) (by simp [subT, Stretch.row, partsC]) (by simp [Stretch.row, partsC]) (by simp [V.bnds, V.bnd]) (by simp [O.bnd, V.bnds, V.bnd, Stretch.row, partsC])
     | false =>
       have ht : times r q = 1 := by simp [times, hx]
       rw [ht] at w2 w3 w4 hI m2 t1 t2
       simp only [Int.one_mul] at w2 w3 hI m2
       refine go (cj @hlt <| cj @hq <| cj @Stretch.row.eq_1 <| cj @partsC.eq_1 <| cj @Part.row.eq_1 <| @hx) ?_
       refine gc (cj @glyphV.eq_1 <| @Glyph.row.eq_1) (hpa) Tryz.func104 ?_
       refine gc (cj @glyphV.eq_1 <| cj @Glyph.row.eq_1 <| cj @e3 <| cj @w2 <| @w3) (fheight_a g) Tryz.func105 ?_
       refine go (cj @w4 <| @hw) ?_
       refine ⟨⟨(k + 1, hh + g.height, cc + 1), by omega, hI, by simp only; omega, by simp only; omega, by simp only; omega, by simp only; omega⟩, by simp only; omega, ?_⟩
       refine Le.wdrop 2 (Nat.le_of_ble_eq_true rfl) (by simp [subT, Stretch.row, partsC]) (by simp [Stretch.row, partsC]) (by simp [V.bnds, V.bnd]) (by simp [O.bnd, V.bnds, V.bnd, Stretch.row, partsC])
   · have e : tallF f r 0 0 s.parts = (hh, cc) := by rw [hI, List.drop_of_length_le (by omega)]; rfl
     have hR : tallI f s r = hh - (cc - 1) * s.overlap := by rw [hT, e]
     have hov2 : (cc - 1) * s.overlap = cc * s.overlap - s.overlap := by rw [Int.sub_mul]; omega
     have w0 : IntKind.i64.wrap (cc - 1) = cc - 1 := wrap_i64 (by omega) (by omega)
     have w1 : IntKind.i64.wrap ((cc - 1) * s.overlap) = (cc - 1) * s.overlap := wrap_i64 (by omega) (by omega)
     have w2 : IntKind.i64.wrap (hh - (cc - 1) * s.overlap) = hh - (cc - 1) * s.overlap := wrap_i64 (by omega) (by omega)
     refine go (cj @hlt <| cj @Stretch.row.eq_1 <| cj @partsC.eq_1 <| cj @w0 <| cj @w1 <| @w2) ?_
     simp [aRet, ares, aresL, ares1, V.pub, V.pubs, ldV, Tryz.results86, hR]
theorem vstretch_a (f : Font) (name : ByteArray) (hf : f.Fit) (hv : f.valid = true) : AC Tryz.prog 83 [.agg f.vs, .c (.str name)] (foundS (f.stretch name)) :=
 stretch_a f name hf.sl fun s hs => ⟨by have := (good_of hv hs).sizes2; omega, by have := (good_of hv hs).parts; omega⟩
set_option maxHeartbeats 1600000 in
theorem vchoose_a (f : Font) (name : ByteArray) (need p : Int) (hf : f.Fit) (hv : f.valid = true) (hp1 : 1 ≤ p) (hp2 : p ≤ 100) : AC Tryz.prog 66 [.agg f.vs, .c (.str name), .c (.int .i64 need), .c (.int .i64 p)] (choiceV (chooseI f name need p)) := by
 cases hst : f.stretch name with
 | none =>
   have hR2 : chooseI f name need p = ⟨name, 0⟩ := by unfold chooseI; rw [hst]
   rw [hR2]
   refine en Tryz.func66 Tryz.ntmps66 ?_
   refine go0 ?_
   refine gc (cj @foundS.eq_1 <| cj @stretchV.eq_1 <| cj @Stretch.row.eq_1 <| cj @hst <| @Stretch.zero.eq_1) (vstretch_a f name hf hv) Tryz.func83 ?_
   refine go0 ?_
   simp [aRet, ares, aresL, ares1, V.pub, V.pubs, ldV, Tryz.results66, choiceV]
 | some s =>
   have hs := (stretchO_mem hst).1
   obtain ⟨g1, g2, g3, g4, g5, g6⟩ := good_of hv hs
   have hR : chooseI f name need p = chooseS f s need p := by unfold chooseI; rw [hst]
   refine en Tryz.func66 Tryz.ntmps66 ?_
   refine go0 ?_
   refine gc (cj @foundS.eq_1 <| cj @stretchV.eq_1 <| cj @Stretch.row.eq_1 <| @hst) (vstretch_a f name hf hv) Tryz.func83 ?_
   refine go @sizesC.eq_1 ?_
   refine lp (ι := { k : Nat // k ≤ s.sizes.length ∧ firstSize f p need s.sizes = firstSize f p need (s.sizes.drop k) }) (fun k => [(27, .c (.int .i64 (k.1 : Int)))]) (fun _ => [.box 27 f.vs false, .box 88 [.c (.str ⟨#[]⟩), .c (.int .i64 0)] false, .box 61 (s.row.map V.c) false]) (fun k => s.sizes.length - k.1) ⟨0, by simp⟩ ?_ ?_
   all_goals simp only [puts, List.foldl_cons, List.foldl_nil, List.set_cons_zero, List.set_cons_succ]
   · refine Le.weak (by simp [subT, Stretch.row, sizesC])
   · rintro ⟨k, hkl, hI⟩
     by_cases hlt : k < s.sizes.length
     · obtain ⟨n, hn⟩ : ∃ n, s.sizes[k] = n := ⟨_, rfl⟩
       rw [List.drop_eq_getElem_cons hlt, hn] at hI
       simp only [firstSize] at hI
       by_cases he : need ≤ sizeH f n p
       · rw [if_pos he] at hI
         have hR3 : chooseI f name need p = ⟨n, 0⟩ := by rw [hR]; unfold chooseS; rw [hI]
         refine go (cj @hlt <| cj @hn <| cj @Stretch.row.eq_1 <| @sizesC.eq_1) ?_
         refine gc @he (vsize_a f n p hf.gl hv hp1 hp2) Tryz.func85 ?_
         refine go (cj @hlt <| cj @hn <| cj @he <| cj @Stretch.row.eq_1 <| @sizesC.eq_1) ?_
         simp [aRet, ares, aresL, ares1, V.pub, V.pubs, ldV, Tryz.results66, hR3, choiceV]
       · rw [if_neg he] at hI
         have hw : IntKind.i64.wrap ((k : Int) + 1) = ((k + 1 : Nat) : Int) := by rw [wrap_i64 (by omega) (by omega)]; simp
         refine go (cj @hlt <| cj @hn <| cj @Stretch.row.eq_1 <| @sizesC.eq_1) ?_
         refine gc @he (vsize_a f n p hf.gl hv hp1 hp2) Tryz.func85 ?_
         refine go (cj @hlt <| cj @hn <| cj @he <| cj @Stretch.row.eq_1 <| cj @sizesC.eq_1 <| @hw) ?_
         refine ⟨⟨k + 1, by omega, hI⟩, by simp only; omega, ?_⟩
         refine Le.weak (by simp [subT, Stretch.row, sizesC])
     · have e : firstSize f p need s.sizes = none := by rw [hI, List.drop_of_length_le (by omega)]; rfl
       have hR3 : chooseS f s need p = if s.parts = [] then ⟨s.sizes.getD (s.sizes.length - 1) ⟨#[]⟩, 0⟩ else ⟨⟨#[]⟩, srch f s p need 999⟩ := by unfold chooseS; rw [e]
       by_cases hpn : s.parts = []
       · rw [if_pos hpn] at hR3
         obtain ⟨m, hm⟩ : ∃ m, s.sizes.length = m + 1 := ⟨s.sizes.length - 1, by omega⟩
         have hmlt : m < s.sizes.length := by omega
         obtain ⟨n, hn⟩ : ∃ n, s.sizes[m] = n := ⟨_, rfl⟩
         have hw : IntKind.i64.wrap ((s.sizes.length : Int) - 1) = (m : Int) := by rw [wrap_i64 (by omega) (by omega)]; omega
         have hg : s.sizes.getD (s.sizes.length - 1) ⟨#[]⟩ = n := by rw [hm]; simp [List.getD, hmlt, hn]
         rw [hg] at hR3
         rw [hR3] at hR
         refine go (cj @hlt <| cj @hpn <| cj @Stretch.row.eq_1 <| cj @sizesC.eq_1 <| cj @partsC.eq_1 <| cj @hw <| cj @hmlt <| @hn) ?_
         simp [aRet, ares, aresL, ares1, V.pub, V.pubs, ldV, Tryz.results66, hR, choiceV]
       · rw [if_neg hpn] at hR3
         have hpl : ¬ s.parts.length = 0 := by simpa using hpn
         rw [hR3] at hR
         refine go (cj @hlt <| cj @hpn <| cj @hpl <| cj @Stretch.row.eq_1 <| cj @sizesC.eq_1 <| @partsC.eq_1) ?_
         refine lp (ι := { r : Int // 1 ≤ r ∧ r ≤ 1000 ∧ srch f s p need 999 = srch f s p need (1000 - r).toNat }) (fun r => [(13, .c (.int .i64 r.1))]) (fun _ => [.box 27 f.vs false, .box 88 [.c (.str ⟨#[]⟩), .c (.int .i64 0)] false, .box 61 (s.row.map V.c) false]) (fun r => (1000 - r.1).toNat) ⟨1, by simp⟩ ?_ ?_
         all_goals simp only [puts, List.foldl_cons, List.foldl_nil, List.set_cons_zero, List.set_cons_succ]
         · refine Le.weak (by simp [subT, Stretch.row])
         · rintro ⟨r, r1, r2, hS⟩
           by_cases hr : r < 1000
           · rw [srch_step f s p need r r1 hr] at hS
             by_cases hn : need ≤ scale (tallI f s r) p
             · rw [if_pos hn] at hS
               rw [hS] at hR
               refine go (cj @hr <| @Stretch.row.eq_1) ?_
               refine gc (cj @stretchV.eq_1 <| @Stretch.row.eq_1) (vtall_a f s r hf hv hs r1 r2) Tryz.func86 ?_
               refine gc @hn (scale_a (tallI f s r) p) Tryz.func33 ?_
               refine go @hn ?_
               simp [aRet, ares, aresL, ares1, V.pub, V.pubs, ldV, Tryz.results66, hR, choiceV]
             · rw [if_neg hn] at hS
               have hw : IntKind.i64.wrap (r + 1) = r + 1 := wrap_i64 (by omega) (by omega)
               refine go (cj @hr <| @Stretch.row.eq_1) ?_
               refine gc (cj @stretchV.eq_1 <| @Stretch.row.eq_1) (vtall_a f s r hf hv hs r1 r2) Tryz.func86 ?_
               refine gc @hn (scale_a (tallI f s r) p) Tryz.func33 ?_
               refine go (cj @hn <| @hw) ?_
               refine ⟨⟨r + 1, by omega, by omega, hS⟩, by simp only; omega, ?_⟩
               refine Le.weak (by simp [subT, Stretch.row])
           · have e1 : r = 1000 := by omega
             subst e1
             have e2 : srch f s p need (1000 - 1000 : Int).toNat = 1000 := rfl
             rw [e2] at hS
             rw [hS] at hR
             refine go0 ?_
             simp [aRet, ares, aresL, ares1, V.pub, V.pubs, ldV, Tryz.results66, hR, choiceV]
end Go.Proofs.YthbcljjpmdfflaaGreat
namespace Go.Proofs.YthbcljjpmdfflaaGreat
open Go.RowKit
set_option linter.unusedSimpArgs false
set_option linter.unusedVariables false
set_option maxRecDepth 100000
def idxS (x : ByteArray) : List ByteArray → Nat → Int
 | [], _ => -1
 | y :: r, k => if x = y then (k : Int) else idxS x r (k + 1)
theorem idxS_has (x : ByteArray) : ∀ (l : List ByteArray) (k : Nat), decide (0 ≤ idxS x l k) = hasS x l
 | [], k => by simp [idxS, hasS]
 | y :: r, k => by
   have ih := idxS_has x r (k + 1)
   by_cases h : x = y
   · have e1 : idxS x (y :: r) k = (k : Int) := by simp [idxS, h]
     have e2 : hasS x (y :: r) = true := by simp [hasS, h]
     rw [e2, decide_eq_true_eq, e1]
     omega
   · have e1 : idxS x (y :: r) k = idxS x r (k + 1) := by simp [idxS, h]
     have e2 : hasS x (y :: r) = hasS x r := by simp only [hasS]; exact if_neg fun e => h e.symm
     rw [e2, ← ih, decide_eq_decide, e1]
theorem index_a (l : List ByteArray) (x : ByteArray) (hl : l.length ≤ 1000) : AC Tryz.prog 109 [.c (sizesC l), .c (.str x)] (.c (.int .i64 (idxS x l 0))) := by
 unfold sizesC
 refine en Tryz.func109 Tryz.ntmps109 ?_
 refine go0 ?_
 refine lp (ι := { k : Nat // k ≤ l.length ∧ idxS x l 0 = idxS x (l.drop k) k }) (fun k => [(8, .c (.int .i64 (k.1 : Int)))]) (fun _ => []) (fun k => l.length - k.1) ⟨0, by simp⟩ ?_ ?_
 all_goals simp only [puts, List.foldl_cons, List.foldl_nil, List.set_cons_zero, List.set_cons_succ]
 · refine Le.weak (by simp [subT])
 · rintro ⟨k, hk, hI⟩
   by_cases hlt : k < l.length
   · obtain ⟨y, hy⟩ : ∃ y, l[k] = y := ⟨_, rfl⟩
     rw [List.drop_eq_getElem_cons hlt, hy] at hI
     simp only [idxS] at hI
     by_cases he : x = y
     · rw [if_pos he] at hI
       refine go (cj @hlt <| cj @hy <| @he) ?_
       simp [aRet, ares, aresL, ares1, V.pub, V.pubs, ldV, Tryz.results109, hI]
     · rw [if_neg he] at hI
       have hw : IntKind.i64.wrap ((k : Int) + 1) = ((k + 1 : Nat) : Int) := by rw [wrap_i64 (by omega) (by omega)]; simp
       refine go (cj @hlt <| cj @hy <| cj @he <| @hw) ?_
       refine ⟨⟨k + 1, by omega, hI⟩, by simp only; omega, ?_⟩
       refine Le.weak (by simp [subT])
   · have e : idxS x l 0 = -1 := by rw [hI, List.drop_of_length_le (by omega)]; rfl
     refine go @hlt ?_
     simp [aRet, ares, aresL, ares1, V.pub, V.pubs, ldV, Tryz.results109, e]
theorem contains_a (l : List ByteArray) (x : ByteArray) (hl : l.length ≤ 1000) : AC Tryz.prog 102 [.c (sizesC l), .c (.str x)] (.c (.bool (hasS x l))) := by
 have hh := idxS_has x l 0
 have hi := index_a l x hl
 unfold sizesC at hi ⊢
 refine en Tryz.func102 Tryz.ntmps102 ?_
 refine go0 ?_
 refine gc0 (hi) Tryz.func109 ?_
 refine go0 ?_
 simp [aRet, ares, aresL, ares1, V.pub, V.pubs, ldV, Tryz.results102, hh]
end Go.Proofs.YthbcljjpmdfflaaGreat
namespace Go.Proofs.YthbcljjpmdfflaaGreat
open Go.RowKit
set_option linter.unusedSimpArgs false
set_option linter.unusedVariables false
set_option maxRecDepth 100000
theorem known_s (f : Font) (name cg : ByteArray) (cr : Int) (s : Stretch) (hf : f.Fit) (hv : f.valid = true) (hst : f.stretch name = some s) : AC Tryz.prog 81 [.agg f.vs, .c (.str name), .agg [.c (.str cg), .c (.int .i64 cr)]] (.c (.bool (isR f name ⟨cg, cr⟩))) := by
 have hs := (stretchO_mem hst).1
 have hG := good_of hv hs
 have hR : isR f name ⟨cg, cr⟩ = if cr = 0 then hasS cg s.sizes else decide (cg = ⟨#[]⟩) && (decide (0 < s.parts.length) && (decide (1 ≤ cr) && decide (cr ≤ 1000))) := by unfold isR; rw [hst]
 by_cases h1 : cr = 0
 · rw [if_pos h1] at hR
   subst h1
   have hca := contains_a s.sizes cg (by have := hG.sizes2; omega)
   refine en Tryz.func81 Tryz.ntmps81 ?_
   refine go0 ?_
   refine gc (cj @foundS.eq_1 <| cj @stretchV.eq_1 <| cj @Stretch.row.eq_1 <| @hst) (vstretch_a f name hf hv) Tryz.func83 ?_
   refine go0 ?_
   refine gc0 (hca) Tryz.func102 ?_
   refine go0 ?_
   simp [aRet, ares, aresL, ares1, V.pub, V.pubs, ldV, Tryz.results81, hR]
 · rw [if_neg h1] at hR
   by_cases h2 : cg = ⟨#[]⟩
   · subst h2
     by_cases h3 : (0 : Int) < (s.parts.length : Int)
     · have h3' : 0 < s.parts.length := by omega
       by_cases h4 : 1 ≤ cr
       · refine en Tryz.func81 Tryz.ntmps81 ?_
         refine go0 ?_
         refine gc (cj @foundS.eq_1 <| cj @stretchV.eq_1 <| cj @Stretch.row.eq_1 <| @hst) (vstretch_a f name hf hv) Tryz.func83 ?_
         refine go (cj @h1 <| cj @h3 <| cj @h3' <| cj @h4 <| @partsC.eq_1) ?_
         simp [aRet, ares, aresL, ares1, V.pub, V.pubs, ldV, Tryz.results81, hR, h3', h4]
       · refine en Tryz.func81 Tryz.ntmps81 ?_
         refine go0 ?_
         refine gc (cj @foundS.eq_1 <| cj @stretchV.eq_1 <| cj @Stretch.row.eq_1 <| @hst) (vstretch_a f name hf hv) Tryz.func83 ?_
         refine go (cj @h1 <| cj @h3 <| cj @h3' <| cj @h4 <| @partsC.eq_1) ?_
         simp [aRet, ares, aresL, ares1, V.pub, V.pubs, ldV, Tryz.results81, hR, h3', h4]
     · have h3'' : s.parts = [] := List.eq_nil_of_length_eq_zero (by omega)
       refine en Tryz.func81 Tryz.ntmps81 ?_
       refine go0 ?_
       refine gc (cj @foundS.eq_1 <| cj @stretchV.eq_1 <| cj @Stretch.row.eq_1 <| @hst) (vstretch_a f name hf hv) Tryz.func83 ?_
       refine go (cj @h1 <| cj @h3'' <| @partsC.eq_1) ?_
       simp [aRet, ares, aresL, ares1, V.pub, V.pubs, ldV, Tryz.results81, hR, h3'']
   · refine en Tryz.func81 Tryz.ntmps81 ?_
     refine go0 ?_
     refine gc (cj @foundS.eq_1 <| cj @stretchV.eq_1 <| cj @Stretch.row.eq_1 <| @hst) (vstretch_a f name hf hv) Tryz.func83 ?_
     refine go (cj @h1 <| @h2) ?_
     simp [aRet, ares, aresL, ares1, V.pub, V.pubs, ldV, Tryz.results81, hR, h2]
end Go.Proofs.YthbcljjpmdfflaaGreat
namespace Go.Proofs.YthbcljjpmdfflaaGreat
open Go.RowKit
set_option linter.unusedSimpArgs false
set_option linter.unusedVariables false
set_option maxRecDepth 100000
theorem known_n (f : Font) (name cg : ByteArray) (cr : Int) (hf : f.Fit) (hv : f.valid = true) (hst : f.stretch name = none) : AC Tryz.prog 81 [.agg f.vs, .c (.str name), .agg [.c (.str cg), .c (.int .i64 cr)]] (.c (.bool (isR f name ⟨cg, cr⟩))) := by
 have hR : isR f name ⟨cg, cr⟩ = (decide (cr = 0) && decide (cg = name)) := by unfold isR; rw [hst]
 refine en Tryz.func81 Tryz.ntmps81 ?_
 refine go0 ?_
 refine gc (cj @foundS.eq_1 <| cj @stretchV.eq_1 <| cj @Stretch.row.eq_1 <| cj @hst <| @Stretch.zero.eq_1) (vstretch_a f name hf hv) Tryz.func83 ?_
 refine go0 ?_
 refine AW.regionS ?_
 refine SW.take 3 ?_
 with_reducible refine aops_run (by simp [List.replicate_succ]; first | exact rfl | exact ⟨rfl, rfl⟩) ?_
 refine aops_done ?_
 simp only [List.drop_succ_cons, List.drop_zero]
 refine SW.op (.c (.bool (decide (cr = 0) && decide (cg = name)))) (by simp [gate]) rfl ?_ ?_
 · intro S0 w0 x a w hA
   obtain ⟨u, hu, hcu⟩ := hA.2.get 18 _ rfl
   obtain ⟨u', hu', hcu'⟩ := hA.2.get 20 _ rfl
   simp only [CV, CVs, RdC] at hcu hcu'
   refine RunOk.pure hA.1 (u := .bool (decide (cr = 0) && decide (cg = name))) ?_ (by simp only [CV, RdC])
   obtain ⟨vs, rfl, _, _, hvs, ⟨rfl, _⟩, _, _, rfl, ⟨rfl, _⟩, rfl⟩ := hcu
   obtain ⟨vs', rfl, _, _, hvs', ⟨rfl, _⟩, _, _, rfl, ⟨rfl, _⟩, rfl⟩ := hcu'
   have ev1 : vs = #[.string cg, .int .i64 cr] := Array.toList_inj.1 hvs
   have ev2 : vs' = #[.string name, .int .i64 0] := Array.toList_inj.1 hvs'
   subst ev1 ev2
   have e1 : a.eval (.tmp 18) = .agg #[.string cg, .int .i64 cr] := by simp [Act.eval, Array.getD_eq_getD_getElem?, ← Array.getElem?_toList, hu]
   have e2 : a.eval (.tmp 20) = .agg #[.string name, .int .i64 0] := by simp [Act.eval, Array.getD_eq_getD_getElem?, ← Array.getElem?_toList, hu']
   clear hA hu hu' hvs hvs'
   by_cases h1 : cg = name
   · subst h1
     by_cases h2 : cr = 0
     · subst h2
       simp only [execOp, e1, e2]
       go_simp
     · have h2' : (cr == 0) = false := by simpa using h2
       simp only [execOp, e1, e2]
       go_simp
   · have h1' := str_ne h1
     simp only [execOp, e1, e2]
     go_simp
 · refine SW.take 1 ?_
   with_reducible refine aops_run (by simp [List.replicate_succ]; first | exact rfl | exact ⟨rfl, rfl⟩) ?_
   refine aops_done ?_
   simp only [List.drop_succ_cons, List.drop_zero]
   refine SW.nil ?_
   refine go0 ?_
   simp [aRet, ares, aresL, ares1, V.pub, V.pubs, ldV, Tryz.results81, hR]
theorem known_a (f : Font) (name : ByteArray) (c : Choice) (hf : f.Fit) (hv : f.valid = true) : AC Tryz.prog 81 [.agg f.vs, .c (.str name), choiceV c] (.c (.bool (isR f name c))) := by
 obtain ⟨cg, cr⟩ := c
 cases hst : f.stretch name with
 | none => exact known_n f name cg cr hf hv hst
 | some s => exact known_s f name cg cr s hf hv hst
end Go.Proofs.YthbcljjpmdfflaaGreat
namespace Go.Proofs.YthbcljjpmdfflaaGreat
open Go.RowKit
set_option linter.unusedSimpArgs false
set_option linter.unusedVariables false
set_option maxRecDepth 100000
def AsmOk : Prop := ∀ (f : Font) (s : Stretch) (r p : Int), f.Fit → f.valid = true → s ∈ f.stretches → 1 ≤ r → r ≤ 1000 → 1 ≤ p → p ≤ 100 → s.parts ≠ [] → AC Tryz.prog 84 [.agg f.vs, stretchV s, .c (.int .i64 r), .c (.int .i64 p)] (boxEV (asmBox f s r p, 0))
theorem build_a (hasm : AsmOk) (f : Font) (name : ByteArray) (c : Choice) (p : Int) (hf : f.Fit) (hc : checkR f p = 0) : AC Tryz.prog 65 [.agg f.vs, .c (.str name), choiceV c, .c (.int .i64 p)] (boxEV (boxR f name c p)) := by
 obtain ⟨hv, hp1, hp2⟩ := check_zero hc
 obtain ⟨cg, cr⟩ := c
 have hk := known_a f name ⟨cg, cr⟩ hf hv
 simp only [choiceV] at hk ⊢
 cases hi : isR f name ⟨cg, cr⟩ with
 | false =>
   have hR : boxR f name ⟨cg, cr⟩ p = (Box.zero, 8) := by unfold boxR; rw [if_neg (by simp [hc]), if_pos hi]
   rw [hR]
   refine en Tryz.func65 Tryz.ntmps65 ?_
   refine go0 ?_
   refine gc @hi (hk) Tryz.func81 ?_
   refine go0 ?_
   simp [aRet, ares, aresL, ares1, V.pub, V.pubs, ldV, Tryz.results65, errV, boxEV, boxV, Box.zero, Box.row, Box.rows, intsC]
 | true =>
   by_cases h0 : cr = 0
   · subst h0
     have hR : boxR f name ⟨cg, 0⟩ p = fboxR f cg p := by
      unfold boxR fboxR
      rw [if_neg (by simp [hc]), if_neg (by simp [hi]), if_pos rfl, if_pos hv, (sizedR_eq hv hp1 hp2 cg).1]
     rw [hR]
     have hcl := fbox_a f cg p hf.gl
     obtain ⟨q, hq⟩ : ∃ q, fboxR f cg p = q := ⟨_, rfl⟩
     rw [hq] at hcl ⊢
     obtain ⟨⟨bk, bn, bs, bw, bh, bd, bx, by_, kids, bo, src⟩, e⟩ := q
     simp only [boxEV, errV, boxV, Box.row, List.map_cons, List.map_nil] at hcl ⊢
     refine en Tryz.func65 Tryz.ntmps65 ?_
     refine go0 ?_
     refine gc @hi (hk) Tryz.func81 ?_
     refine go0 ?_
     refine gc0 (hcl) Tryz.func82 ?_
     refine go0 ?_
     simp [aRet, ares, aresL, ares1, V.pub, V.pubs, ldV, Tryz.results65]
   · obtain ⟨s, hst, hpn, r1, r2, _⟩ := isR_rep h0 hi
     have hs := (stretchO_mem hst).1
     have hR : boxR f name ⟨cg, cr⟩ p = (asmBox f s cr p, 0) := by unfold boxR; rw [if_neg (by simp [hc]), if_neg (by simp [hi]), if_neg h0, hst]; rfl
     rw [hR]
     have hcl := hasm f s cr p hf hv hs r1 r2 hp1 hp2 hpn
     obtain ⟨b, hq⟩ : ∃ b, asmBox f s cr p = b := ⟨_, rfl⟩
     rw [hq] at hcl ⊢
     obtain ⟨bk, bn, bs, bw, bh, bd, bx, by_, kids, bo, src⟩ := b
     simp only [boxEV, errV, boxV, Box.row, List.map_cons, List.map_nil] at hcl ⊢
     refine en Tryz.func65 Tryz.ntmps65 ?_
     refine go0 ?_
     refine gc @hi (hk) Tryz.func81 ?_
     refine go @h0 ?_
     refine gc (cj @foundS.eq_1 <| cj @stretchV.eq_1 <| cj @Stretch.row.eq_1 <| @hst) (vstretch_a f name hf hv) Tryz.func83 ?_
     refine go0 ?_
     refine gc (cj @stretchV.eq_1 <| @Stretch.row.eq_1) (hcl) Tryz.func84 ?_
     refine go0 ?_
     simp [aRet, ares, aresL, ares1, V.pub, V.pubs, ldV, Tryz.results65]
theorem vFind_a (hasm : AsmOk) (f : Font) (name : ByteArray) (need p : Int) (hf : f.Fit) : AC Tryz.prog 31 [.agg f.vs, .c (.str name), .c (.int .i64 need), .c (.int .i64 p)] (boxEV (findR f name need p)) := by
 by_cases hc : checkR f p = 0
 · obtain ⟨hv, hp1, hp2⟩ := check_zero hc
   have hR : findR f name need p = boxR f name (chooseI f name need p) p := by unfold findR; rw [if_neg (by simp [hc])]
   rw [hR]
   have hch := vchoose_a f name need p hf hv hp1 hp2
   obtain ⟨c, hcc⟩ : ∃ c, chooseI f name need p = c := ⟨_, rfl⟩
   rw [hcc] at hch ⊢
   obtain ⟨cg, cr⟩ := c
   have hcl := build_a hasm f name ⟨cg, cr⟩ p hf hc
   obtain ⟨q, hq⟩ : ∃ q, boxR f name ⟨cg, cr⟩ p = q := ⟨_, rfl⟩
   rw [hq] at hcl ⊢
   obtain ⟨⟨bk, bn, bs, bw, bh, bd, bx, by_, kids, bo, src⟩, e⟩ := q
   simp only [choiceV, boxEV, errV, boxV, Box.row, List.map_cons, List.map_nil] at hch hcl ⊢
   refine en Tryz.func31 Tryz.ntmps31 ?_
   refine go0 ?_
   refine gc (cj @hc <| @errV.eq_1) (vcheck_a f p) Tryz.func64 ?_
   refine go0 ?_
   refine gc0 (hch) Tryz.func66 ?_
   refine gc0 (hcl) Tryz.func65 ?_
   refine go0 ?_
   simp [aRet, ares, aresL, ares1, V.pub, V.pubs, ldV, Tryz.results31]
 · have hR : findR f name need p = (Box.zero, checkR f p) := by unfold findR; rw [if_pos (by simp [hc])]
   rw [hR]
   refine en Tryz.func31 Tryz.ntmps31 ?_
   refine go0 ?_
   refine gc @errV.eq_1 (vcheck_a f p) Tryz.func64 ?_
   refine go @hc ?_
   simp [aRet, ares, aresL, ares1, V.pub, V.pubs, ldV, Tryz.results31, errV, boxEV, boxV, Box.zero, Box.row, Box.rows, intsC]
end Go.Proofs.YthbcljjpmdfflaaGreat
namespace Go.Proofs.YthbcljjpmdfflaaGreat
open Go.RowKit
set_option linter.unusedSimpArgs false
set_option linter.unusedVariables false
set_option maxRecDepth 100000
end Go.Proofs.YthbcljjpmdfflaaGreat
namespace Go.Proofs.YthbcljjpmdfflaaGreat
open Go.RowKit
set_option linter.unusedSimpArgs false
set_option linter.unusedVariables false
set_option maxRecDepth 100000
theorem pieces_a (s : Stretch) (r : Int) : AC Tryz.prog 106 [stretchV s, .c (.int .i64 r)] (.fn 112 [.cp s.row 0, .cp [.int .i64 r] 0]) := by
 unfold stretchV
 refine AC.intro Tryz.func106 rfl ?_
 simp only [Tryz.ntmps106, List.map_cons, List.map_nil, List.length_cons, List.length_nil, Nat.reduceAdd, Nat.reduceSub, List.replicate_succ, List.replicate_zero, List.cons_append, List.nil_append, Stretch.row]
 with_reducible refine AW.seq ?_
 with_reducible refine AW.region ?_
 with_reducible refine aops_run (by simp [List.replicate_succ]; first | exact rfl | exact ⟨rfl, rfl⟩) ?_
 with_reducible refine aops_done ?_
 with_reducible refine aThen_n ?_
 refine AW.frz 0 rfl (by simp [toCs, toC]; exact rfl) (by simp [V.frzs, V.frz]; exact rfl) (by simp [O.frz, V.frzs, V.frz]; exact rfl) ?_
 refine AW.frz 1 rfl (by simp [toCs, toC]; exact rfl) (by simp [V.frzs, V.frz]; exact rfl) (by simp [O.frz, V.frzs, V.frz]; exact rfl) ?_
 refine go0 ?_
 simp [aRet, ares, aresL, ares1, V.pub, V.pubs, ldV, Tryz.results106, Stretch.row]
end Go.Proofs.YthbcljjpmdfflaaGreat
