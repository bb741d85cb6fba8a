/-
 Layer 33's laws: RadicalDegree.
-/
import Derived.Test.YthbcljjpmdfflaaDl
import Derived.Test.YthbcljjpmdfflaaAz
namespace Go.Proofs.Ythbcljjpmdfflaa
open Go.RowKit
set_option linter.unusedSimpArgs false
set_option linter.unusedVariables false
set_option maxRecDepth 100000
theorem rdAt_b {f : Font} {s : Style} {deg : List Box} (hp1 : 1 ≤ rdP f s) (hp2 : rdP f s ≤ 100) (hd : ∀ g ∈ deg, g.validB = true) : 0 ≤ rdAt f s deg ∧ rdAt f s deg ≤ 4294967296 := by
 cases deg with
 | nil => simp [rdAt]
 | cons g l =>
   obtain ⟨gw, _, _, _⟩ := valid_len (hd g List.mem_cons_self)
   have k1 := scale_any (p := 28) (rdQ f s) (by omega) (by omega)
   have k2 := scale_any (p := 56) (rdQ f s) (by omega) (by omega)
   simp only [rdAt, rdA, mx]
   split <;> omega
def plainVs (f : Font) (s : Style) (b : Box) : List V := f.vs ++ (.c (.int .i64 s.level) :: .c (.bool s.cramped) :: (b.vs ++ [.full []]))
section
variable (f : Font) (s : Style) (b : Box) (deg : List Box)
@[simp] theorem case_set : (caseVs f s b deg).set 35 (.full []) = plainVs f s b := by cases b; rfl
@[simp] theorem plain_len : (plainVs f s b).length = 36 := by simp [plainVs]
@[simp] theorem plain_take : (plainVs f s b).take 36 = plainVs f s b := List.take_of_length_le (by simp)
@[simp] theorem plain_pubs : V.pubs (plainVs f s b) = some (caseVs f s b []) := by cases b; rfl
end
theorem made_ex (f : Font) (s : Style) (b : Box) (deg : List Box) (hc : CaseOk f b deg) : ∃ (B x y z : Box) (k : Bool), AC Try.prog 39 [.agg (caseVs f s b deg)] (.tup [.agg B.vs, .agg (triVs x y z), .c (.bool k)]) ∧ (k = true → madeB f s b deg = true ∧ x = (rdS f s b).at_ (rdAt f s deg) (rdT f s b - (rdS f s b).h) ∧ y = (ruleB (mx 0 b.w) (rdR f s) 0).at_ (rdAt f s deg + (rdS f s b).w) (rdY f s b) ∧ z = b.at_ (rdAt f s deg + (rdS f s b).w) 0) := by
 cases hm : madeB f s b deg with
 | false => exact ⟨_, _, _, _, false, lno_a 0 f s b deg hc hm, fun h => by cases h⟩
 | true => exact ⟨_, _, _, _, true, lyes_a f s b deg hc hm, fun _ => ⟨rfl, rfl, rfl, rfl⟩⟩
set_option maxHeartbeats 6400000 in
theorem ldegree_a (f : Font) (s : Style) (b : Box) (deg : List Box) (hc : CaseOk f b deg) : AC Try.prog 13 [.agg (caseVs f s b deg)] (.c (.bool true)) := by
 obtain ⟨B, x, y, z, k, h1, hk1⟩ := made_ex f s b deg hc
 obtain ⟨B', x', y', z', k', h2, hk2⟩ := made_ex f s b [] ⟨hc.hf, hc.hb, hc.ho, by simp, by simp, (Nat.zero_le _ : 0 ≤ maxLen)⟩
 cases k with
 | false =>
   refine en Try.func13 Try.ntmps13 ?_
   refine go0 ?_
   refine gc0 (awake33_a) Try.func34 ?_
   refine go0 ?_
   refine gc0 (h1) Try.func39 ?_
   refine go0 ?_
   refine gc0 (h2) Try.func39 ?_
   refine go0 ?_
   simp [aRet, ares, aresL, ares1, V.pub, V.pubs, ldV, Try.results13]
 | true =>
   cases k' with
   | false =>
     refine en Try.func13 Try.ntmps13 ?_
     refine go0 ?_
     refine gc0 (awake33_a) Try.func34 ?_
     refine go0 ?_
     refine gc0 (h1) Try.func39 ?_
     refine go0 ?_
     refine gc0 (h2) Try.func39 ?_
     refine go0 ?_
     simp [aRet, ares, aresL, ares1, V.pub, V.pubs, ldV, Try.results13]
   | true =>
     obtain ⟨hm, e1, e2, e3⟩ := hk1 rfl
     obtain ⟨hm', e1', e2', e3'⟩ := hk2 rfl
     obtain ⟨hv, ho, hb, hdl, hdv, hfew⟩ := made_facts hm
     obtain ⟨p1, p2, r1, r2, l1, l2, sg, g1, g2⟩ := rd_ok (b := b) hv ho
     have hsf := sg.fit
     have sw1 := sg.w1
     have sw2 := sg.w2
     have bat := rdAt_b p1 p2 hdv
     simp only [show rdAt f s [] = 0 from rfl, Int.zero_add] at e1' e2' e3'
     obtain ⟨AT, hAT⟩ : ∃ z, rdAt f s deg = z := ⟨_, rfl⟩
     obtain ⟨S, hS⟩ : ∃ z, rdS f s b = z := ⟨_, rfl⟩
     obtain ⟨U, hU⟩ : ∃ z, ruleB (mx 0 b.w) (rdR f s) 0 = z := ⟨_, rfl⟩
     obtain ⟨Y, hYY⟩ : ∃ z, rdY f s b = z := ⟨_, rfl⟩
     obtain ⟨T, hTT⟩ : ∃ z, rdT f s b = z := ⟨_, rfl⟩
     have huf : U.fit := hU ▸ rule_fit _ _ _
     rw [hAT] at e1 e2 e3 bat
     rw [hS] at e1 e2 e3 e1' e2' e3' hsf sw1 sw2
     rw [hU] at e2 e2'
     rw [hYY] at e2 e2'
     rw [hTT] at e1 e1'
     clear hAT hS hU hYY hTT g1 g2 sg hk1 hk2
     have ha1 := rat_a x 0 (T - S.h)
     have ha2 := rat_a y S.w Y
     have ha3 := rat_a z S.w 0
     have q1 : x.at_ 0 (T - S.h) = x' := by rw [e1, e1', at_at]
     have q2 : y.at_ S.w Y = y' := by rw [e2, e2', at_at]
     have q3 : z.at_ S.w 0 = z' := by rw [e3, e3', at_at]
     rw [q1] at ha1
     rw [q2] at ha2
     rw [q3] at ha3
     have he1 := requal_a x' (by rw [e1']; exact at_fit _ _ hsf)
     have he2 := requal_a y' (by rw [e2']; exact at_fit _ _ huf)
     have he3 := requal_a z' (by rw [e3']; exact at_fit _ _ hc.hb)
     have x1 : x.x = AT := by rw [e1]; rfl
     have x2 : x.y = T - S.h := by rw [e1]; rfl
     have y1 : y.x = AT + S.w := by rw [e2]; rfl
     have y2 : y.y = Y := by rw [e2]; rfl
     have z1 : z.x = AT + S.w := by rw [e3]; rfl
     have z2 : z.y = 0 := by rw [e3]; rfl
     have m1 : x'.x = 0 := by rw [e1']; rfl
     have w0 : IntKind.i64.wrap 0 = 0 := wrap_i64 (by omega) (by omega)
     have w1 : IntKind.i64.wrap 1 = 1 := wrap_i64 (by omega) (by omega)
     have w2 : IntKind.i64.wrap 2 = 2 := wrap_i64 (by omega) (by omega)
     have w3 : IntKind.i64.wrap 3 = 3 := wrap_i64 (by omega) (by omega)
     have w4 : IntKind.i64.wrap S.w = S.w := wrap_i64 (by omega) (by omega)
     have w5 : AT + S.w - AT = S.w := by omega
     have bat1 := bat.1
     simp only [boxV_vs] at ha1 ha2 ha3 he1 he2 he3
     clear e1 e2 e3 e1' e2' e3' q1 q2 q3
     refine en Try.func13 Try.ntmps13 ?_
     refine go0 ?_
     refine gc0 (awake33_a) Try.func34 ?_
     refine go0 ?_
     refine gc0 (h1) Try.func39 ?_
     refine go0 ?_
     refine gc0 (h2) Try.func39 ?_
     refine go @x1 ?_
     refine LA.loop (LA.round ?_)
     refine go (cj @x1 <| cj @x2 <| @w0) ?_
     refine gc0 (ha1) Try.func43 ?_
     refine gc0 (he1) Try.func38 ?_
     refine go @w1 ?_
     refine LA.round ?_
     refine go (cj @y1 <| cj @y2 <| cj @w4 <| @w5) ?_
     refine gc0 (ha2) Try.func43 ?_
     refine gc0 (he2) Try.func38 ?_
     refine go @w2 ?_
     refine LA.round ?_
     refine go (cj @z1 <| cj @z2 <| cj @w4 <| @w5) ?_
     refine gc0 (ha3) Try.func43 ?_
     refine gc0 (he3) Try.func38 ?_
     refine go @w3 ?_
     refine LA.round ?_
     refine go (cj @bat1 <| @m1) ?_
     simp [aRet, ares, aresL, ares1, V.pub, V.pubs, ldV, Try.results13]
end Go.Proofs.Ythbcljjpmdfflaa
