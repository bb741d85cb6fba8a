/-
 radical.Make on the abstract machine.
-/
import Derived.Test.YthbcljjpmdfflaaDe
namespace Go.Proofs.Ythbcljjpmdfflaa
open Go.RowKit
set_option linter.unusedSimpArgs false
set_option linter.unusedVariables false
set_option maxRecDepth 100000
theorem pmake_e1 (f : Font) (s : Style) (b : Box) (rs : List (List C)) (hx : s.ok = false ∨ f.valid = false) : AC Try.prog 36 [.agg f.vs, styleV s, boxV b, .c (.sl rs)] (boxEV (Box.zero, 1)) := by
 have hpct := pct_a f s
 have e0 : pctR f s = (0, 1) := if_pos hx
 rw [e0] at hpct
 unfold styleV errV boxEV at *
 simp only [boxV_vs, errV] at hpct ⊢
 refine en Try.func36 Try.ntmps36 ?_
 refine go0 ?_
 refine gc0 (hpct) Try.func71 ?_
 refine go0 ?_
 simp [aRet, ares, aresL, ares1, V.pub, V.pubs, ldV, Try.results36, zero_vs]
theorem pmake_e2 (f : Font) (s : Style) (b : Box) (rs : List (List C)) (hv : f.valid = true) (ho : s.ok = true) (hb : b.validB = false) (hbo : b.okk) (hbc : b.cnt ≤ 1000000) : AC Try.prog 36 [.agg f.vs, styleV s, boxV b, .c (.sl rs)] (boxEV (Box.zero, 1)) := by
 have hpct := pct_a f s
 have e0 : pctR f s = (rdP f s, 0) := if_neg (by simp [ho, hv])
 rw [e0] at hpct
 have hbv := pValid_a b hbo hbc
 rw [hb] at hbv
 unfold styleV errV boxEV at *
 simp only [boxV_vs, errV] at hpct hbv ⊢
 refine en Try.func36 Try.ntmps36 ?_
 refine go0 ?_
 refine gc0 (hpct) Try.func71 ?_
 refine go0 ?_
 refine gc0 (hbv) Try.func72 ?_
 refine go0 ?_
 simp [aRet, ares, aresL, ares1, V.pub, V.pubs, ldV, Try.results36, zero_vs]
theorem pmake_e3 (f : Font) (s : Style) (b : Box) (rs : List (List C)) (hv : f.valid = true) (ho : s.ok = true) (hb : b.validB = true) (hbo : b.okk) (hbc : b.cnt ≤ 1000000) (hl : 1 < rs.length) : AC Try.prog 36 [.agg f.vs, styleV s, boxV b, .c (.sl rs)] (boxEV (Box.zero, 1)) := by
 have hpct := pct_a f s
 have e0 : pctR f s = (rdP f s, 0) := if_neg (by simp [ho, hv])
 rw [e0] at hpct
 have hbv := pValid_a b hbo hbc
 rw [hb] at hbv
 have hl' : (1 : Int) < (rs.length : Int) := by omega
 unfold styleV errV boxEV at *
 simp only [boxV_vs, errV] at hpct hbv ⊢
 refine en Try.func36 Try.ntmps36 ?_
 refine go0 ?_
 refine gc0 (hpct) Try.func71 ?_
 refine go0 ?_
 refine gc (cj @hl' <| @hl) (hbv) Try.func72 ?_
 refine go0 ?_
 simp [aRet, ares, aresL, ares1, V.pub, V.pubs, ldV, Try.results36, zero_vs]
theorem pmake_e4 (f : Font) (s : Style) (b g : Box) (hv : f.valid = true) (ho : s.ok = true) (hb : b.validB = true) (hbo : b.okk) (hbc : b.cnt ≤ 1000000) (hg : g.validB = false) (hgo : g.okk) (hgc : g.cnt ≤ 1000000) : AC Try.prog 36 [.agg f.vs, styleV s, boxV b, .c (.sl [g.row])] (boxEV (Box.zero, 1)) := by
 have hpct := pct_a f s
 have e0 : pctR f s = (rdP f s, 0) := if_neg (by simp [ho, hv])
 rw [e0] at hpct
 have hbv := pValid_a b hbo hbc
 rw [hb] at hbv
 have hgv := pValid_a g hgo hgc
 rw [hg] at hgv
 unfold styleV errV boxEV at *
 simp only [boxV_vs, errV] at hpct hbv hgv ⊢
 refine en Try.func36 Try.ntmps36 ?_
 refine go0 ?_
 refine gc0 (hpct) Try.func71 ?_
 refine go0 ?_
 refine gc0 (hbv) Try.func72 ?_
 refine gc0 (hgv) Try.func72 ?_
 refine go0 ?_
 simp [aRet, ares, aresL, ares1, V.pub, V.pubs, ldV, Try.results36, zero_vs]
theorem pmake_a (f : Font) (s : Style) (b : Box) (deg : List Box) (hf : f.Fit) (hbo : b.okk) (hbc : b.cnt ≤ 1000000) (hd : ∀ g ∈ deg, g.okk ∧ g.cnt ≤ 1000000) : AC Try.prog 36 [.agg f.vs, styleV s, boxV b, .c (.sl (Box.rows deg))] (boxEV (rdMake f s b deg)) := by
 cases hv : f.valid with
 | false =>
   have e : rdMake f s b deg = (Box.zero, 1) := if_pos (.inl hv)
   rw [e]; exact pmake_e1 f s b _ (.inr hv)
 | true =>
   cases ho : s.ok with
   | false =>
     have e : rdMake f s b deg = (Box.zero, 1) := if_pos (.inr (.inl ho))
     rw [e]; exact pmake_e1 f s b _ (.inl ho)
   | true =>
     cases hb : b.validB with
     | false =>
       have e : rdMake f s b deg = (Box.zero, 1) := if_pos (.inr (.inr (.inl hb)))
       rw [e]; exact pmake_e2 f s b _ hv ho hb hbo hbc
     | true =>
       match deg, hd with
       | [], _ =>
         have e : rdMake f s b [] = doneR (rdBox f s b []) := if_neg (by simp [hv, ho, hb])
         rw [e]; exact pmake_nil f s b hf hv ho hb hbo
       | [g], hd =>
         obtain ⟨g1, g2⟩ := hd g List.mem_cons_self
         cases hg : g.validB with
         | false =>
           have e : rdMake f s b [g] = (Box.zero, 1) := if_pos (.inr (.inr (.inr (.inl (by simp [hg])))))
           rw [e]; exact pmake_e4 f s b g hv ho hb hbo hbc hg g1 g2
         | true =>
           have e : rdMake f s b [g] = doneR (rdBox f s b [g]) := if_neg (by simp [hv, ho, hb, hg])
           rw [e]; exact pmake_one f s b g hf hv ho hb hbo hg g1
       | g :: g' :: l, _ =>
         have e : rdMake f s b (g :: g' :: l) = (Box.zero, 1) := if_pos (.inr (.inr (.inr (.inr (by simp)))))
         rw [e]; exact pmake_e3 f s b _ hv ho hb hbo hbc (by simp [Box.rows])
end Go.Proofs.Ythbcljjpmdfflaa
