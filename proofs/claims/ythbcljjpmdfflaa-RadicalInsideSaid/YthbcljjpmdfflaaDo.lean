/-
 Layer 33's laws: RadicalInside.
-/
import Derived.Test.YthbcljjpmdfflaaDl
import Derived.Test.YthbcljjpmdfflaaHa
namespace Go.Proofs.Ythbcljjpmdfflaa
open Go.RowKit
set_option linter.unusedSimpArgs false
set_option linter.unusedVariables false
set_option maxRecDepth 100000
structure KidIn (X k : Box) (hi : Prop) (last : Prop) : Prop where
 x0 : 0 ≤ k.x
 bx : k.x ≤ 100000000000
 bw : -100000000000 ≤ k.w ∧ k.w ≤ 100000000000
 by_ : -100000000000 ≤ k.y ∧ k.y ≤ 100000000000
 bh : -100000000000 ≤ k.h ∧ k.h ≤ 100000000000
 bd : -100000000000 ≤ k.d ∧ k.d ≤ 100000000000
 top : hi → k.y + k.h ≤ X.h
 bot : hi → k.d - k.y ≤ X.d
 end_ : last → k.x + k.w ≤ X.w
theorem params_nn {f : Font} (hv : f.valid = true) : 0 ≤ f.params.quad := by
 have hp : paramsOk f.params = true := by simp only [Font.valid, Bool.and_eq_true] at hv; exact hv.1.2.2
 simp [paramsOk, inB, Params.lens] at hp
 omega
theorem kids_in {f : Font} {s : Style} {b : Box} {deg : List Box} (hm : Made f s b deg) (hw : 0 ≤ b.w) (hg : ∀ g ∈ deg, 0 ≤ g.w) : ∀ (i : Nat) (k : Box), (rdBox f s b deg).kids[i]? = some k → KidIn (rdBox f s b deg) k (rdR f s ≤ (rdS f s b).h + (rdS f s b).d) (0 < i ∨ deg = []) := by
 obtain ⟨hv, ho, hb, hdl, hdv, _⟩ := hm
 obtain ⟨p1, p2, r1, r2, l1, l2, sg, g1, g2⟩ := rd_ok (b := b) hv ho
 obtain ⟨sd, sk, sf, sc, sh1, sh2, sd1, sd2, sw1, sw2⟩ := sg
 obtain ⟨bw, bh, bd, bc⟩ := valid_len hb
 have hY : rdY f s b = b.h + rdG f s b := rfl
 have hT : rdT f s b = rdY f s b + rdR f s := rfl
 have hB : rdB f s b = rdT f s b - (rdS f s b).h - (rdS f s b).d := rfl
 have hq : 0 ≤ rdQ f s := scale_nn (params_nn hv) (by omega)
 have k28 : 0 ≤ scale (rdQ f s) 28 := scale_nn hq (by omega)
 have k28b := scale_any (p := 28) (rdQ f s) (by omega) (by omega)
 have k56 : 0 ≤ scale (rdQ f s) 56 := scale_nn hq (by omega)
 have k56b := scale_any (p := 56) (rdQ f s) (by omega) (by omega)
 have z60 := scale_any (p := 60) (rdT f s b - rdB f s b) (by omega) (by omega)
 have hm1 : ∀ a c : Int, mx a c = max a c := mx_eq
 match deg, hdl, hdv, hg with
 | [], _, _, _ =>
   intro i k hk
   have hX : rdBox f s b [] = listB (0 + (rdS f s b).w + mx 0 b.w) (mx (rdT f s b) b.h) (mx (-(rdB f s b)) b.d) [(rdS f s b).at_ 0 (rdT f s b - (rdS f s b).h), (ruleB (mx 0 b.w) (rdR f s) 0).at_ (0 + (rdS f s b).w) (rdY f s b), b.at_ (0 + (rdS f s b).w) 0] := rfl
   rw [hX] at hk ⊢
   simp only [listB, hm1] at hk ⊢
   match i, hk with
   | 0, hk => simp only [List.getElem?_cons_zero, Option.some.injEq] at hk; subst hk; constructor <;> simp only [at_x, at_y, at_w, at_h, at_d] <;> omega
   | 1, hk => simp only [List.getElem?_cons_succ, List.getElem?_cons_zero, Option.some.injEq] at hk; subst hk; constructor <;> simp only [at_x, at_y, at_w, at_h, at_d, rule_w, rule_h, rule_d] <;> omega
   | 2, hk => simp only [List.getElem?_cons_succ, List.getElem?_cons_zero, Option.some.injEq] at hk; subst hk; constructor <;> simp only [at_x, at_y, at_w, at_h, at_d] <;> omega
   | i + 3, hk => simp at hk
 | [g], _, hdv, hg =>
   intro i k hk
   obtain ⟨gw, gh, gd, _⟩ := valid_len (hdv g List.mem_cons_self)
   have gw0 := hg g List.mem_cons_self
   have hA : rdA f s g = mx 0 (scale (rdQ f s) 28 + g.w - scale (rdQ f s) 56) := rfl
   have hV : rdV f s b g = rdB f s b + scale (rdT f s b - rdB f s b) 60 + mx 0 g.d := rfl
   have hX : rdBox f s b [g] = listB (rdA f s g + (rdS f s b).w + mx 0 b.w) (mx (mx (rdT f s b) b.h) (rdV f s b g + g.h)) (mx (mx (-(rdB f s b)) b.d) (g.d - rdV f s b g)) [g.at_ (rdA f s g + scale (rdQ f s) 56 - g.w) (rdV f s b g), (rdS f s b).at_ (rdA f s g) (rdT f s b - (rdS f s b).h), (ruleB (mx 0 b.w) (rdR f s) 0).at_ (rdA f s g + (rdS f s b).w) (rdY f s b), b.at_ (rdA f s g + (rdS f s b).w) 0] := rfl
   rw [hX] at hk ⊢
   rw [hm1] at hA hV
   simp only [listB, hm1] at hk ⊢
   match i, hk with
   | 0, hk => simp only [List.getElem?_cons_zero, Option.some.injEq] at hk; subst hk; constructor <;> simp only [at_x, at_y, at_w, at_h, at_d, Nat.lt_irrefl, reduceCtorEq, or_self, List.cons_ne_nil, false_or, false_implies] <;> omega
   | 1, hk => simp only [List.getElem?_cons_succ, List.getElem?_cons_zero, Option.some.injEq] at hk; subst hk; constructor <;> simp only [at_x, at_y, at_w, at_h, at_d] <;> omega
   | 2, hk => simp only [List.getElem?_cons_succ, List.getElem?_cons_zero, Option.some.injEq] at hk; subst hk; constructor <;> simp only [at_x, at_y, at_w, at_h, at_d, rule_w, rule_h, rule_d] <;> omega
   | 3, hk => simp only [List.getElem?_cons_succ, List.getElem?_cons_zero, Option.some.injEq] at hk; subst hk; constructor <;> simp only [at_x, at_y, at_w, at_h, at_d] <;> omega
   | i + 4, hk => simp at hk
 | _ :: _ :: _, hdl, _, _ => simp at hdl
set_option maxHeartbeats 6400000 in
theorem linside_y (f : Font) (s : Style) (b : Box) (deg : List Box) (hc : CaseOk f b deg) (X A1 A2 A3 : Box) (h : AC Try.prog 39 [.agg (caseVs f s b deg)] (.tup [.agg X.vs, .agg (triVs A1 A2 A3), .c (.bool true)])) (hb : ¬ b.w < 0) (hg : ∀ g ∈ deg, 0 ≤ g.w) (hdl : deg.length ≤ 1) (hxl : X.kids.length ≤ 4)
 (b1 : -100000000000 ≤ A1.h ∧ A1.h ≤ 100000000000) (b2 : -100000000000 ≤ A1.d ∧ A1.d ≤ 100000000000) (hK : ∀ (i : Nat) (k : Box), X.kids[i]? = some k → KidIn X k (A2.h ≤ A1.h + A1.d) (0 < i ∨ deg = [])) : AC Try.prog 14 [.agg (caseVs f s b deg)] (.c (.bool true)) := by
 obtain ⟨rs, hrs⟩ : ∃ rs, Box.rows X.kids = rs := ⟨_, rfl⟩
 have hrl : rs.length = X.kids.length := by rw [← hrs, rows_map]; simp
 match deg, hc, h, hg, hdl, hK with
 | [], hc, h, hg, hdl, hK =>
   refine en Try.func14 Try.ntmps14 ?_
   have ff := (cj @Box.rows.eq_1 <| cj @Box.rows.eq_2 <| Try.results14)
   repeat any_goals (first | refine stW ?_ | exact lfW ff | refine ruW ff ?_ | refine caW ff (awake33_a) ?_ | refine caW ff (h) ?_ | refine cdW ff ?_ | ((first | refine bdW ff ?_ ?_ | refine bxW ff ?_ ?_ | refine bnW ff ?_ ?_ | refine brW ff ?_ ?_) <;> intro h <;> try (exfalso; omega)))
   refine lp (ι := { k : Nat // k ≤ X.kids.length }) (fun k => [(2, .c (.bool false)), (6, .c (.int .i64 (k.1 : Int)))]) (fun k => [.box 70 (caseVs f s b []) false, .box 45 X.vs false, .box 73 (triVs A1 A2 A3) false]) (fun k => X.kids.length - k.1) ⟨0, by simp⟩ ?_ ?_
   all_goals simp only [puts, List.foldl_cons, List.foldl_nil, List.set_cons_zero, List.set_cons_succ]
   · refine Le.weak (by simp [subT])
   · rintro ⟨k, hk⟩
     simp only
     by_cases hlt : k < X.kids.length
     · obtain ⟨c, hcc⟩ : ∃ c, X.kids[k] = c := ⟨_, rfl⟩
       have hrk : rs[k]? = some c.row := by rw [← hrs, rows_map, List.getElem?_map, List.getElem?_eq_getElem hlt, hcc]; rfl
       have hltr : k < rs.length := by omega
       have hrk' : ∀ hx : k < rs.length, rs[k]'hx = c.row := by intro hx; rw [List.getElem?_eq_getElem hx] at hrk; exact Option.some.inj hrk
       obtain ⟨q1, q2, q3, q4, q5, q6, q7, q8, q9⟩ := hK k c (by rw [List.getElem?_eq_getElem hlt, hcc])
       have q9' := q9 (.inr rfl)
       have ff := (cj @hrs <| cj @hrl <| cj @hlt <| cj @hltr <| cj @hrk <| cj @hrk' <| cj @Box.rows.eq_1 <| cj @Box.rows.eq_2 <| Try.results14)
       repeat any_goals (first | refine stW ?_ | exact lfW ff | refine ruW ff ?_ | refine cdW ff ?_ | ((first | refine bdW ff ?_ ?_ | refine bxW ff ?_ ?_ | refine bnW ff ?_ ?_ | refine brW ff ?_ ?_) <;> intro h <;> try (exfalso; omega)))
       all_goals refine ⟨⟨k + 1, by omega⟩, by simp only; omega, ?_⟩
       all_goals exact wd 3
     · have ff := (cj @hrs <| cj @hrl <| cj @hlt <| Try.results14)
       repeat any_goals (first | refine stW ?_ | exact lfW ff | refine ruW ff ?_ | refine cdW ff ?_ | ((first | refine bdW ff ?_ ?_ | refine bxW ff ?_ ?_ | refine bnW ff ?_ ?_ | refine brW ff ?_ ?_) <;> intro h <;> try (exfalso; omega)))
 | [g], hc, h, hg, hdl, hK =>
   have hg0 := hg g List.mem_cons_self
   refine en Try.func14 Try.ntmps14 ?_
   have ff := (cj @Box.rows.eq_1 <| cj @Box.rows.eq_2 <| Try.results14)
   repeat any_goals (first | refine stW ?_ | exact lfW ff | refine ruW ff ?_ | refine caW ff (awake33_a) ?_ | refine caW ff (h) ?_ | refine cdW ff ?_ | ((first | refine bdW ff ?_ ?_ | refine bxW ff ?_ ?_ | refine bnW ff ?_ ?_ | refine brW ff ?_ ?_) <;> intro h <;> try (exfalso; omega)))
   refine lp (ι := { k : Nat // k ≤ X.kids.length }) (fun k => [(2, .c (.bool false)), (6, .c (.int .i64 (k.1 : Int)))]) (fun k => [.box 70 (caseVs f s b [g]) false, .box 45 X.vs false, .box 73 (triVs A1 A2 A3) false]) (fun k => X.kids.length - k.1) ⟨0, by simp⟩ ?_ ?_
   all_goals simp only [puts, List.foldl_cons, List.foldl_nil, List.set_cons_zero, List.set_cons_succ]
   · refine Le.weak (by simp [subT])
   · rintro ⟨k, hk⟩
     simp only
     by_cases hlt : k < X.kids.length
     · obtain ⟨c, hcc⟩ : ∃ c, X.kids[k] = c := ⟨_, rfl⟩
       have hrk : rs[k]? = some c.row := by rw [← hrs, rows_map, List.getElem?_map, List.getElem?_eq_getElem hlt, hcc]; rfl
       have hltr : k < rs.length := by omega
       have hrk' : ∀ hx : k < rs.length, rs[k]'hx = c.row := by intro hx; rw [List.getElem?_eq_getElem hx] at hrk; exact Option.some.inj hrk
       obtain ⟨q1, q2, q3, q4, q5, q6, q7, q8, q9⟩ := hK k c (by rw [List.getElem?_eq_getElem hlt, hcc])
       have q9' : 0 < k → c.x + c.w ≤ X.w := fun h => q9 (.inl h)
       have ff := (cj @hrs <| cj @hrl <| cj @hlt <| cj @hltr <| cj @hrk <| cj @hrk' <| cj @Box.rows.eq_1 <| cj @Box.rows.eq_2 <| Try.results14)
       repeat any_goals (first | refine stW ?_ | exact lfW ff | refine ruW ff ?_ | refine cdW ff ?_ | ((first | refine bdW ff ?_ ?_ | refine bxW ff ?_ ?_ | refine bnW ff ?_ ?_ | refine brW ff ?_ ?_) <;> intro h <;> try (exfalso; omega)))
       all_goals refine ⟨⟨k + 1, by omega⟩, by simp only; omega, ?_⟩
       all_goals exact wd 3
     · have ff := (cj @hrs <| cj @hrl <| cj @hlt <| Try.results14)
       repeat any_goals (first | refine stW ?_ | exact lfW ff | refine ruW ff ?_ | refine cdW ff ?_ | ((first | refine bdW ff ?_ ?_ | refine bxW ff ?_ ?_ | refine bnW ff ?_ ?_ | refine brW ff ?_ ?_) <;> intro h <;> try (exfalso; omega)))
 | _ :: _ :: _, _, _, _, hdl, _ => simp at hdl
theorem linside_a (f : Font) (s : Style) (b : Box) (deg : List Box) (hc : CaseOk f b deg) : AC Try.prog 14 [.agg (caseVs f s b deg)] (.c (.bool true)) := by
 cases hm : madeB f s b deg with
 | false =>
   have h := lno_a 0 f s b deg hc hm
   unfold noneV at h
   refine en Try.func14 Try.ntmps14 ?_
   refine go0 ?_
   refine gc0 (awake33_a) Try.func34 ?_
   refine go0 ?_
   refine gc0 (h) Try.func39 ?_
   refine go0 ?_
   simp [aRet, ares, aresL, ares1, V.pub, V.pubs, ldV, Try.results14]
 | true =>
   have h := lyes_a f s b deg hc hm
   have hmf := made_facts hm
   have hsg := (rd_ok (b := b) hmf.v hmf.o).sg
   unfold madeV at h
   by_cases hb : b.w < 0
   · refine en Try.func14 Try.ntmps14 ?_
     refine go0 ?_
     refine gc0 (awake33_a) Try.func34 ?_
     refine go0 ?_
     refine gc0 (h) Try.func39 ?_
     refine go @hb ?_
     simp [aRet, ares, aresL, ares1, V.pub, V.pubs, ldV, Try.results14]
   · by_cases hg : ∀ g ∈ deg, 0 ≤ g.w
     · refine linside_y f s b deg hc _ _ _ _ h hb hg hmf.dl ?_ ?_ ?_ (kids_in hmf (by omega) hg)
       · match deg, hmf.dl with
         | [], _ => show 3 ≤ 4; omega
         | [g], _ => show 4 ≤ 4; omega
         | _ :: _ :: _, hl => simp at hl
       · simp only [at_h]; have := hsg.h1; have := hsg.h2; omega
       · simp only [at_d]; have := hsg.d1; have := hsg.d2; omega
     · match deg, hmf.dl, hg, h with
       | [], _, hg, _ => simp at hg
       | [g], _, hg, h =>
         have hg0 : g.w < 0 := by simp at hg; omega
         refine en Try.func14 Try.ntmps14 ?_
         refine go0 ?_
         refine gc0 (awake33_a) Try.func34 ?_
         refine go0 ?_
         refine gc0 (h) Try.func39 ?_
         refine go (cj @hb <| cj @hg0 <| cj @Box.rows.eq_1 <| @Box.rows.eq_2) ?_
         simp [aRet, ares, aresL, ares1, V.pub, V.pubs, ldV, Try.results14]
       | _ :: _ :: _, hl, _, _ => simp at hl
end Go.Proofs.Ythbcljjpmdfflaa
