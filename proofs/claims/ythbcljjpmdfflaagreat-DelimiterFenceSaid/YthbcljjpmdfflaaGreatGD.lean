import Derived.Test.YthbcljjpmdfflaaGreatBk
import Derived.Test.YthbcljjpmdfflaaGreatBl
import Derived.Test.YthbcljjpmdfflaaGreatGB
/-
 Layers 1, 25, 28 on the abstract machine: lengths of the reference, halves, styles, boxes at places, rules.
-/
namespace Go.Proofs.YthbcljjpmdfflaaGreat
open Go.RowKit
set_option linter.unusedSimpArgs false
set_option linter.unusedVariables false
set_option maxRecDepth 100000
theorem rlen_a (n : Int) : AC Tryz.prog 61 [.c (.int .i64 n)] (.c (.bool (lenValid n))) := by
 by_cases h : -1073741824 ≤ n
 · have e : lenValid n = decide (n ≤ 1073741824) := by unfold lenValid; rw [decide_eq_true h, Bool.true_and]
   refine en Tryz.func61 Tryz.ntmps61 ?_
   refine go @h ?_
   simp [aRet, ares, aresL, ares1, V.pub, V.pubs, ldV, Tryz.results61, e]
 · have e : lenValid n = false := by unfold lenValid; rw [decide_eq_false h, Bool.false_and]
   refine en Tryz.func61 Tryz.ntmps61 ?_
   refine go @h ?_
   simp [aRet, ares, aresL, ares1, V.pub, V.pubs, ldV, Tryz.results61, e]
def absI (n : Int) : Int := if n < 0 then -n else n
theorem rabs_a (n : Int) (h : -9000000000000000000 ≤ n) (h' : n ≤ 9000000000000000000) : AC Tryz.prog 93 [.c (.int .i64 n)] (.c (.int .i64 (absI n))) := by
 by_cases hn : n < 0
 · have w : IntKind.i64.wrap (-n) = -n := wrap_i64 (by omega) (by omega)
   have e : absI n = -n := if_pos hn
   refine en Tryz.func93 Tryz.ntmps93 ?_
   refine go (cj @hn <| @w) ?_
   simp [aRet, ares, aresL, ares1, V.pub, V.pubs, ldV, Tryz.results93, e]
 · have e : absI n = n := if_neg hn
   refine en Tryz.func93 Tryz.ntmps93 ?_
   refine go @hn ?_
   simp [aRet, ares, aresL, ares1, V.pub, V.pubs, ldV, Tryz.results93, e]
theorem rround_a (a b : Int) (ha : -4000000000000000000 ≤ a) (ha' : a ≤ 4000000000000000000) (hb : b = 100 ∨ b = 2) : AC Tryz.prog 77 [.c (.int .i64 a), .c (.int .i64 b)] (.c (.int .i64 (rnd a b))) := by
 have c1 := rabs_a a (by omega) (by omega)
 have c2 := rabs_a b (by omega) (by omega)
 have e2 : absI b = b := if_neg (by omega)
 rw [e2] at c2
 obtain ⟨A, hA⟩ : ∃ A, absI a = A := ⟨_, rfl⟩
 rw [hA] at c1
 have hA0 : 0 ≤ A ∧ A ≤ 4000000000000000000 := by unfold absI at hA; split at hA <;> omega
 have w1 : IntKind.i64.wrap (2 * A) = 2 * A := wrap_i64 (by omega) (by omega)
 have w2 : IntKind.i64.wrap (2 * A + b) = 2 * A + b := wrap_i64 (by omega) (by omega)
 have w3 : IntKind.i64.wrap (2 * b) = 2 * b := wrap_i64 (by omega) (by omega)
 have hq : (2 * A + b).tdiv (2 * b) = (2 * A + b) / (2 * b) := Int.tdiv_eq_ediv_of_nonneg (by omega)
 have hd : 0 ≤ (2 * A + b) / (2 * b) ∧ (2 * A + b) / (2 * b) ≤ 9000000000000000000 := by rcases hb with rfl | rfl <;> omega
 obtain ⟨Q, hQ⟩ : ∃ Q, (2 * A + b) / (2 * b) = Q := ⟨_, rfl⟩
 have w4 : IntKind.i64.wrap ((2 * A + b).tdiv (2 * b)) = Q := by rw [hq, hQ]; rw [hQ] at hd; exact wrap_i64 (by omega) (by omega)
 have nz : ¬ 2 * b = 0 := by omega
 have nz' : ¬ b = 0 := by omega
 have nb : ¬ b < 0 := by omega
 by_cases hn : a < 0
 · have hr : rnd a b = -Q := by
    unfold rnd
    rw [if_neg (by omega), ← hQ, ← hA]
    simp only [absI, if_pos hn]
   have w5 : IntKind.i64.wrap (-Q) = -Q := by rw [hQ] at hd; exact wrap_i64 (by omega) (by omega)
   refine en Tryz.func77 Tryz.ntmps77 ?_
   refine go0 ?_
   refine gc @w1 (c1) Tryz.func93 ?_
   refine gc @w2 (c2) Tryz.func93 ?_
   refine gc (cj @w3 <| cj @w4 <| cj @nz <| @nz') (c2) Tryz.func93 ?_
   refine go0 ?_
   with_reducible refine AW.regionS ?_
   refine SW.take 4 ?_
   with_reducible refine aops_run (by simp [List.replicate_succ, hn, nb]; first | exact rfl | exact ⟨rfl, rfl⟩) ?_
   refine aops_done ?_
   simp only [List.drop_succ_cons, List.drop_zero]
   refine SW.op (.c (.bool true)) (by simp [gate]) rfl ?_ ?_
   · intro S0 w0 x a w hA
     obtain ⟨u, hu, hcu⟩ := hA.2.get 17 _ rfl
     obtain ⟨u', hu', hcu'⟩ := hA.2.get 19 _ rfl
     simp only [CV, RdC] at hcu hcu'
     subst hcu hcu'
     have e1 : a.eval (.tmp 17) = .bool true := by simp [Act.eval, Array.getD_eq_getD_getElem?, ← Array.getElem?_toList, hu]
     have e2 : a.eval (.tmp 19) = .bool false := by simp [Act.eval, Array.getD_eq_getD_getElem?, ← Array.getElem?_toList, hu']
     refine RunOk.pure hA.1 (u := .bool true) ?_ (by simp only [CV, RdC])
     simp only [execOp, e1, e2]
     go_simp
   refine SW.nil ?_
   refine go @w5 ?_
   simp [aRet, ares, aresL, ares1, V.pub, V.pubs, ldV, Tryz.results77, hr]
 · have hr : rnd a b = Q := by
    unfold rnd
    rw [if_pos (by omega), ← hQ, ← hA]
    simp only [absI, if_neg hn]
   refine en Tryz.func77 Tryz.ntmps77 ?_
   refine go0 ?_
   refine gc @w1 (c1) Tryz.func93 ?_
   refine gc @w2 (c2) Tryz.func93 ?_
   refine gc (cj @w3 <| cj @w4 <| cj @nz <| @nz') (c2) Tryz.func93 ?_
   refine go0 ?_
   with_reducible refine AW.regionS ?_
   refine SW.take 4 ?_
   with_reducible refine aops_run (by simp [List.replicate_succ, hn, nb]; first | exact rfl | exact ⟨rfl, rfl⟩) ?_
   refine aops_done ?_
   simp only [List.drop_succ_cons, List.drop_zero]
   refine SW.op (.c (.bool false)) (by simp [gate]) rfl ?_ ?_
   · intro S0 w0 x a w hA
     obtain ⟨u, hu, hcu⟩ := hA.2.get 17 _ rfl
     obtain ⟨u', hu', hcu'⟩ := hA.2.get 19 _ rfl
     simp only [CV, RdC] at hcu hcu'
     subst hcu hcu'
     have e1 : a.eval (.tmp 17) = .bool false := by simp [Act.eval, Array.getD_eq_getD_getElem?, ← Array.getElem?_toList, hu]
     have e2 : a.eval (.tmp 19) = .bool false := by simp [Act.eval, Array.getD_eq_getD_getElem?, ← Array.getElem?_toList, hu']
     refine RunOk.pure hA.1 (u := .bool false) ?_ (by simp only [CV, RdC])
     simp only [execOp, e1, e2]
     go_simp
   refine SW.nil ?_
   refine go0 ?_
   simp [aRet, ares, aresL, ares1, V.pub, V.pubs, ldV, Tryz.results77, hr]
theorem rscale1_a (n p : Int) : AC Tryz.prog 54 [.c (.int .i64 n), .c (.int .i64 p)] (.c (.int .i64 (scale n p))) := by
 cases hv : lenValid n with
 | false =>
   have hs : scale n p = 0 := by simp [scale, hv]
   refine en Tryz.func54 Tryz.ntmps54 ?_
   refine go0 ?_
   refine gc @hv (rlen_a n) Tryz.func61 ?_
   refine go @hv ?_
   simp [aRet, ares, aresL, ares1, V.pub, V.pubs, ldV, Tryz.results54, hs]
 | true =>
   have hv' := hv
   simp [lenValid] at hv'
   by_cases h1 : p < 0
   · have hs : scale n p = 0 := by unfold scale; rw [if_neg]; omega
     refine en Tryz.func54 Tryz.ntmps54 ?_
     refine go0 ?_
     refine gc (cj @hv <| @h1) (rlen_a n) Tryz.func61 ?_
     refine go @hv ?_
     simp [aRet, ares, aresL, ares1, V.pub, V.pubs, ldV, Tryz.results54, hs]
   · by_cases h2 : 10000 < p
     · have hs : scale n p = 0 := by unfold scale; rw [if_neg]; omega
       refine en Tryz.func54 Tryz.ntmps54 ?_
       refine go0 ?_
       refine gc (cj @hv <| cj @h1 <| @h2) (rlen_a n) Tryz.func61 ?_
       refine go @hv ?_
       simp [aRet, ares, aresL, ares1, V.pub, V.pubs, ldV, Tryz.results54, hs]
     · have hs : scale n p = rnd (n * p) 100 := by unfold scale; rw [if_pos ⟨hv, by omega, by omega⟩]
       have hb := mul_bound n p 1073741824 10000 (by omega) (by omega) (by omega) (by omega)
       have hw : IntKind.i64.wrap (n * p) = n * p := wrap_i64 (by omega) (by omega)
       refine en Tryz.func54 Tryz.ntmps54 ?_
       refine go0 ?_
       refine gc (cj @hv <| cj @h1 <| @h2) (rlen_a n) Tryz.func61 ?_
       refine go (cj @hv <| @hw) ?_
       refine gc0 (rround_a (n * p) 100 (by omega) (by omega) (.inl rfl)) Tryz.func77 ?_
       refine go0 ?_
       simp [aRet, ares, aresL, ares1, V.pub, V.pubs, ldV, Tryz.results54, hs]
theorem rhalf_a (n : Int) : AC Tryz.prog 80 [.c (.int .i64 n)] (.c (.int .i64 (half n))) := by
 cases hv : lenValid n with
 | false =>
   have hs : half n = 0 := by simp [half, hv]
   refine en Tryz.func80 Tryz.ntmps80 ?_
   refine go0 ?_
   refine gc @hv (rlen_a n) Tryz.func61 ?_
   refine go @hv ?_
   simp [aRet, ares, aresL, ares1, V.pub, V.pubs, ldV, Tryz.results80, hs]
 | true =>
   have hs : half n = rnd n 2 := by simp [half, hv]
   have hv' := hv
   simp [lenValid] at hv'
   refine en Tryz.func80 Tryz.ntmps80 ?_
   refine go0 ?_
   refine gc @hv (rlen_a n) Tryz.func61 ?_
   refine go @hv ?_
   refine gc0 (rround_a n 2 (by omega) (by omega) (.inr rfl)) Tryz.func77 ?_
   refine go0 ?_
   simp [aRet, ares, aresL, ares1, V.pub, V.pubs, ldV, Tryz.results80, hs]
theorem phalf_a (n : Int) : AC Tryz.prog 67 [.c (.int .i64 n)] (.c (.int .i64 (half n))) := by
 cases hv : lenValid n with
 | false =>
   have hs : half n = 0 := by simp [half, hv]
   refine en Tryz.func67 Tryz.ntmps67 ?_
   refine go0 ?_
   refine gc @hv (lvalid_a n) Tryz.func47 ?_
   refine go @hv ?_
   simp [aRet, ares, aresL, ares1, V.pub, V.pubs, ldV, Tryz.results67, hs]
 | true =>
   have hs : half n = quot n 2 := by rw [quot_2]; simp [half, hv]
   have hv' := hv
   simp [lenValid] at hv'
   refine en Tryz.func67 Tryz.ntmps67 ?_
   refine go0 ?_
   refine gc @hv (lvalid_a n) Tryz.func47 ?_
   refine go @hv ?_
   refine gc0 (quotient_a n 2 (by omega) (by omega) (.inr rfl)) Tryz.func68 ?_
   refine go0 ?_
   simp [aRet, ares, aresL, ares1, V.pub, V.pubs, ldV, Tryz.results67, hs]
structure Style where
 level : Int
 cramped : Bool
def styleV (s : Style) : V := .agg [.c (.int .i64 s.level), .c (.bool s.cramped)]
def Style.ok (s : Style) : Bool := decide (0 ≤ s.level) && decide (s.level ≤ 3)
def sizeOf_ (p : Params) (s : Style) : Int := if s.ok = false then 0 else if s.level = 2 then p.script else if s.level = 3 then p.scriptScript else 100
theorem pat_a (b : Box) (x y : Int) (hs : b.src.length ≤ 1000000) : AC Tryz.prog 22 [boxV b, .c (.int .i64 x), .c (.int .i64 y)] (boxV (b.at_ x y)) := by
 obtain ⟨b0, b1, b2, b3, b4, b5, b6, b7, kids, o, src⟩ := b
 have hc := clone_a src hs
 simp only [boxV, Box.at_, Box.row, List.map_cons, List.map_nil]
 refine en Tryz.func22 Tryz.ntmps22 ?_
 refine go0 ?_
 refine gc0 (hc) Tryz.func49 ?_
 refine go0 ?_
 simp [aRet, ares, aresL, ares1, V.pub, V.pubs, ldV, Tryz.results22]
end Go.Proofs.YthbcljjpmdfflaaGreat
namespace Go.Proofs.YthbcljjpmdfflaaGreat
open Go.RowKit
set_option linter.unusedSimpArgs false
set_option linter.unusedVariables false
set_option maxRecDepth 100000
@[simp] theorem Font.vs_17 (f : Font) : f.vs[17]? = some (.c (.int .i64 f.params.script)) := rfl
@[simp] theorem Font.vg_17 (f : Font) (h : 17 < f.vs.length) : f.vs[17]'h = .c (.int .i64 f.params.script) := rfl
@[simp] theorem Font.vs_18 (f : Font) : f.vs[18]? = some (.c (.int .i64 f.params.scriptScript)) := rfl
@[simp] theorem Font.vg_18 (f : Font) (h : 18 < f.vs.length) : f.vs[18]'h = .c (.int .i64 f.params.scriptScript) := rfl
def Box.vs (b : Box) : List V := b.row.map V.c
theorem boxV_vs (b : Box) : boxV b = .agg b.vs := rfl
section
variable (b : Box)
@[simp] theorem Box.vs_len : b.vs.length = 11 := by cases b; rfl
@[simp] theorem Box.vs_flat : b.vs.all V.one = true := by cases b; rfl
@[simp] theorem Box.vs_take : b.vs.take 11 = b.vs := List.take_of_length_le (by simp)
@[simp] theorem Box.vs_0 : b.vs[0]? = some (.c (.int .i64 b.kind)) := by cases b; rfl
@[simp] theorem Box.vg_0 (h : 0 < b.vs.length) : b.vs[0]'h = .c (.int .i64 b.kind) := by cases b; rfl
@[simp] theorem Box.vs_3 : b.vs[3]? = some (.c (.int .i64 b.w)) := by cases b; rfl
@[simp] theorem Box.vg_3 (h : 3 < b.vs.length) : b.vs[3]'h = .c (.int .i64 b.w) := by cases b; rfl
@[simp] theorem Box.vs_4 : b.vs[4]? = some (.c (.int .i64 b.h)) := by cases b; rfl
@[simp] theorem Box.vg_4 (h : 4 < b.vs.length) : b.vs[4]'h = .c (.int .i64 b.h) := by cases b; rfl
@[simp] theorem Box.vs_5 : b.vs[5]? = some (.c (.int .i64 b.d)) := by cases b; rfl
@[simp] theorem Box.vg_5 (h : 5 < b.vs.length) : b.vs[5]'h = .c (.int .i64 b.d) := by cases b; rfl
@[simp] theorem Box.vs_6 : b.vs[6]? = some (.c (.int .i64 b.x)) := by cases b; rfl
@[simp] theorem Box.vg_6 (h : 6 < b.vs.length) : b.vs[6]'h = .c (.int .i64 b.x) := by cases b; rfl
@[simp] theorem Box.vs_7 : b.vs[7]? = some (.c (.int .i64 b.y)) := by cases b; rfl
@[simp] theorem Box.vg_7 (h : 7 < b.vs.length) : b.vs[7]'h = .c (.int .i64 b.y) := by cases b; rfl
@[simp] theorem Box.vs_8 : b.vs[8]? = some (.c (.sl (Box.rows b.kids))) := by cases b; rfl
@[simp] theorem Box.vg_8 (h : 8 < b.vs.length) : b.vs[8]'h = .c (.sl (Box.rows b.kids)) := by cases b; rfl
@[simp] theorem Box.vs_pubs : V.pubs b.vs = some b.vs := pubs_c b.row
@[simp] theorem Box.vs_toCs : toCs b.vs = some b.row := toCs_c b.row
@[simp] theorem Box.vs_put (cs : List V) (h : cs.length = 11) : putL cs 0 b.vs = b.vs := putL_all (by simp [h])
@[simp] theorem Box.row_len : b.row.length = 11 := by cases b; rfl
@[simp] theorem Box.row_map : b.row.map V.c = b.vs := rfl
@[simp] theorem Box.row_take : b.row.take 11 = b.row := List.take_of_length_le (by simp)
@[simp] theorem Box.vs_bnds (n : Nat) : V.bnds n b.vs = true := by cases b; simp [Box.vs, Box.row, V.bnds, V.bnd]
end
def pctR (f : Font) (s : Style) : Int × Int := if s.ok = false ∨ f.valid = false then (0, 1) else (sizeOf_ f.params s, 0)
def doneR (b : Box) : Box × Int := if b.validB = true then (b, 0) else (Box.zero, 6)
theorem zero_vs : Box.zero.vs = [.c (.int .i64 0), .c (.str ⟨#[]⟩), .c (.int .i64 0), .c (.int .i64 0), .c (.int .i64 0), .c (.int .i64 0), .c (.int .i64 0), .c (.int .i64 0), .c (.sl []), .c (.int .i64 0), .c (.sl [])] := rfl
end Go.Proofs.YthbcljjpmdfflaaGreat
namespace Go.Proofs.YthbcljjpmdfflaaGreat
open Go.RowKit
set_option linter.unusedSimpArgs false
set_option linter.unusedVariables false
set_option maxRecDepth 100000
theorem rows_take_succ (l : List Box) (k : Nat) (h : k < l.length) : Box.rows (l.take (k + 1)) = Box.rows (l.take k) ++ [(l[k]).row] := by
 rw [rows_map, rows_map, List.take_succ_eq_append_getElem h, List.map_append]; rfl
def lstD (w h d : Int) (kids : V) : List V := [.c (.int .i64 3), .c (.str ⟨#[]⟩), .c (.int .i64 0), .c (.int .i64 w), .c (.int .i64 h), .c (.int .i64 d), .c (.int .i64 0), .c (.int .i64 0), kids, .c (.int .i64 0), .full []]
set_option maxHeartbeats 3200000 in
theorem plist_a (w h d : Int) (kids : List Box) (hd : Box.doks kids) (hc : Box.cnts kids < 999999) : AC Tryz.prog 30 [.c (.int .i64 w), .c (.int .i64 h), .c (.int .i64 d), .c (.sl (Box.rows kids))] (boxV (listB w h d kids)) := by
 have hkl := cnts_len kids
 have hR : boxV (listB w h d kids) = .agg [.c (.int .i64 3), .c (.str ⟨#[]⟩), .c (.int .i64 0), .c (.int .i64 w), .c (.int .i64 h), .c (.int .i64 d), .c (.int .i64 0), .c (.int .i64 0), .c (.sl (Box.rows kids)), .c (.int .i64 0), .c (.sl [])] := by simp [boxV, listB, Box.row, intsC]
 rw [hR]
 clear hR
 obtain ⟨rs, hrs⟩ : ∃ rs, Box.rows kids = rs := ⟨_, rfl⟩
 have hrl : rs.length = kids.length := by rw [← hrs, rows_map]; simp
 rw [hrs]
 refine en Tryz.func30 Tryz.ntmps30 ?_
 refine go0 ?_
 refine AW.le (Le.tokCell 1 8 33 11 rfl rfl) ?_
 simp only [List.length_cons, List.length_nil, Nat.reduceAdd, List.set_cons_zero, List.set_cons_succ, List.cons_append, List.nil_append]
 refine lp (ι := { k : Nat // k ≤ kids.length }) (fun k => [(18, .c (.int .i64 (k.1 : Int)))]) (fun k => [.box 33 zboxC false, .box 33 (lstD w h d (.gr 2 11 (Box.rows (kids.take k.1)))) false, .tok 33 11 k.1]) (fun k => kids.length - k.1) ⟨0, by simp⟩ ?_ ?_
 all_goals simp only [puts, List.foldl_cons, List.foldl_nil, List.set_cons_zero, List.set_cons_succ]
 · refine Le.weak (by simp [subT, zboxC, lstD, Box.rows])
 · rintro ⟨k, hk⟩
   simp only
   by_cases hlt : k < kids.length
   · obtain ⟨c, hcc⟩ : ∃ c, kids[k] = c := ⟨_, rfl⟩
     have hrk : rs[k]? = some c.row := by rw [← hrs, rows_map, List.getElem?_map, List.getElem?_eq_getElem hlt, hcc]; rfl
     have hrk' : ∀ hx : k < rs.length, rs[k]'hx = c.row := by intro hx; rw [List.getElem?_eq_getElem hx] at hrk; exact Option.some.inj hrk
     have hcd : c.dok := doks_get kids k c hd (by rw [List.getElem?_eq_getElem hlt, hcc])
     have hcn := cnts_get kids k c (by rw [List.getElem?_eq_getElem hlt, hcc])
     have hdeep := deep_a c hcd (by omega)
     rw [boxV_vs] at hdeep
     have hw : IntKind.i64.wrap ((k : Int) + 1) = ((k + 1 : Nat) : Int) := by rw [wrap_i64 (by omega) (by omega)]; simp
     have hl1 : k + 1 ≤ maxLen := by unfold maxLen; omega
     have hl2 : (k + 1) * 128 ≤ 140737488355328 := by omega
     have htk : (Box.rows (kids.take k)).length = k := by rw [rows_map]; simp; omega
     have hrow : Box.rows (kids.take (k + 1)) = Box.rows (kids.take k) ++ [c.row] := by rw [rows_take_succ kids k hlt, hcc]
     have hltr : k < rs.length := by omega
     refine go (cj @hrl <| cj @hlt <| cj @hrk <| cj @hrk' <| cj @hltr <| cj @lstD.eq_1 <| @zboxC.eq_1) ?_
     refine gc (cj @hl1 <| cj @hl2 <| cj @htk <| @lstD.eq_1) (hdeep) Tryz.func63 ?_
     refine go @hw ?_
     refine ⟨⟨k + 1, by omega⟩, by simp only; omega, ?_⟩
     refine Le.wdrop 3 (Nat.le_of_ble_eq_true rfl) (by simp [subT, zboxC, lstD, hrow, hrl]) (by simp [zboxC, lstD, hrow, hrl]) (by simp [V.bnds, V.bnd]) (by simp [O.bnd, V.bnds, V.bnd, zboxC, lstD, hrow, hrl])
   · have e : kids.take k = kids := List.take_of_length_le (by omega)
     rw [e, hrs]
     refine go (cj @hrl <| cj @hlt <| cj @lstD.eq_1 <| @zboxC.eq_1) ?_
     simp [aRet, ares, aresL, ares1, V.pub, V.pubs, ldV, Tryz.results30]
def chkR (f : Font) (s : Style) (l : List Box) : Int := if f.valid = false ∨ s.ok = false ∨ l.all Box.validB = false then 1 else 0
end Go.Proofs.YthbcljjpmdfflaaGreat
