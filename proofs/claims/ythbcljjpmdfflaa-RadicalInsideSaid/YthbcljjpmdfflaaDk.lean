/-
 Layer 33's laws: the parts of a root (made).
-/
import Derived.Test.YthbcljjpmdfflaaDj
namespace Go.Proofs.Ythbcljjpmdfflaa
open Go.RowKit
set_option linter.unusedSimpArgs false
set_option linter.unusedVariables false
set_option maxRecDepth 100000
def madeB (f : Font) (s : Style) (b : Box) (deg : List Box) : Bool := (tameB f b deg && (modB b && (decide (deg.length ≤ 1) && deg.all modB))) && decide ((rdMake f s b deg).2 = 0)
def noneV : V := .tup [.agg Box.zero.vs, .agg (triVs Box.zero Box.zero Box.zero), .c (.bool false)]
def madeV (f : Font) (s : Style) (b : Box) (deg : List Box) : V := .tup [.agg (rdBox f s b deg).vs, .agg (triVs ((rdS f s b).at_ (rdAt f s deg) (rdT f s b - (rdS f s b).h)) ((ruleB (mx 0 b.w) (rdR f s) 0).at_ (rdAt f s deg + (rdS f s b).w) (rdY f s b)) (b.at_ (rdAt f s deg + (rdS f s b).w) 0)), .c (.bool true)]
theorem made_no (f : Font) (s : Style) (b : Box) (deg : List Box) (hf : f.Fit) (hb : b.fit) (hd : ∀ g ∈ deg, g.fit) (hl : deg.length ≤ maxLen) (hx : (tameB f b deg && (modB b && (decide (deg.length ≤ 1) && deg.all modB))) = false) : AC Try.prog 39 [.agg (caseVs f s b deg)] noneV := by
 have ht := tame_a f s b deg hf hb hd hl
 have hm := modest_a b hb
 rw [boxV_vs] at hm
 obtain ⟨rs, hrs⟩ : ∃ rs, Box.rows deg = rs := ⟨_, rfl⟩
 have hrl : rs.length = deg.length := by rw [← hrs, rows_map]; simp
 unfold noneV
 cases h1 : tameB f b deg with
 | false =>
   rw [h1] at ht
   refine en Try.func39 Try.ntmps39 ?_
   refine go0 ?_
   refine gc0 (ht) Try.func35 ?_
   refine go0 ?_
   simp [aRet, ares, aresL, ares1, V.pub, V.pubs, ldV, Try.results39, zero_vs, tri_zero]
 | true =>
   rw [h1] at ht hx
   cases h2 : modB b with
   | false =>
     rw [h2] at hm
     refine en Try.func39 Try.ntmps39 ?_
     refine go0 ?_
     refine gc0 (ht) Try.func35 ?_
     refine gc0 (hm) Try.func85 ?_
     refine go0 ?_
     simp [aRet, ares, aresL, ares1, V.pub, V.pubs, ldV, Try.results39, zero_vs, tri_zero]
   | true =>
     rw [h2] at hm hx
     match deg, hd, hrs, hrl, hx, ht with
     | [], hd, hrs, hrl, hx, ht => simp at hx
     | [g], hd, hrs, hrl, hx, ht =>
       have hgm := modest_a g (hd g List.mem_cons_self)
       rw [boxV_vs] at hgm
       have e : modB g = false := by simpa using hx
       rw [e] at hgm
       refine en Try.func39 Try.ntmps39 ?_
       refine go0 ?_
       refine gc0 (ht) Try.func35 ?_
       refine gc (cj @Box.rows.eq_1 <| @Box.rows.eq_2) (hm) Try.func85 ?_
       refine gc (cj @Box.rows.eq_1 <| @Box.rows.eq_2) (hgm) Try.func85 ?_
       refine go0 ?_
       simp [aRet, ares, aresL, ares1, V.pub, V.pubs, ldV, Try.results39, zero_vs, tri_zero]
     | g :: g' :: l, hd, hrs, hrl, hx, ht =>
       have hl1 : (1 : Int) < (rs.length : Int) := by rw [hrl]; simp; omega
       have hl2 : 1 < rs.length := by omega
       obtain ⟨n, hn⟩ : ∃ n : Nat, rs.length = n := ⟨_, rfl⟩
       rw [hn] at hl1 hl2
       refine en Try.func39 Try.ntmps39 ?_
       refine go0 ?_
       refine gc0 (ht) Try.func35 ?_
       refine gc (cj @hrs <| cj @hn <| cj @hl1 <| @hl2) (hm) Try.func85 ?_
       refine go0 ?_
       simp [aRet, ares, aresL, ares1, V.pub, V.pubs, ldV, Try.results39, zero_vs, tri_zero]
theorem tame_cnt {f : Font} {b : Box} {deg : List Box} (h : tameB f b deg = true) : b.cnt ≤ 200 ∧ fewB f = true ∧ (∀ g ∈ deg, g.cnt ≤ 200) ∧ deg.length ≤ 3 := by
 simp only [tameB, Bool.and_eq_true, decide_eq_true_eq, List.all_eq_true] at h
 exact ⟨h.1.2.2, h.1.2.1, h.2, h.1.1⟩
theorem putL_app : ∀ (vs cs pre post : List V), cs.length = vs.length → putL (pre ++ (cs ++ post)) pre.length vs = pre ++ (vs ++ post)
 | [], cs, pre, post, h => by
   have : cs = [] := List.eq_nil_of_length_eq_zero (by simpa using h)
   subst this; simp [putL]
 | v :: vs, c :: cs, pre, post, h => by
   simp only [putL, List.cons_append]
   have := putL_app vs cs (pre ++ [v]) post (by simpa using h)
   simp only [List.length_append, List.length_cons, List.length_nil, Nat.zero_add, List.append_assoc, List.cons_append, List.nil_append] at this
   rw [← this]
   congr 1
   simp
theorem tri_putY (a b c : Box) (Z : List V) (h : Z.length = 11) : putL (putL (putL (Z ++ (Z ++ Z)) 0 a.vs) 11 b.vs) 22 c.vs = triVs a b c := by
 have h1 := putL_app a.vs Z [] (Z ++ Z) (by simp [h])
 have h2 := putL_app b.vs Z a.vs Z (by simp [h])
 have h3 := putL_app c.vs Z (a.vs ++ b.vs) [] (by simp [h])
 simp only [List.nil_append, List.length_nil, Box.vs_len, List.length_append, Nat.reduceAdd, List.append_nil, List.append_assoc] at h1 h2 h3
 rw [h1, h2, h3]; rfl
theorem tri_putZ (a b c : Box) : putL (putL (putL [.c (.int .i64 0), .c (.str ⟨#[]⟩), .c (.int .i64 0), .c (.int .i64 0), .c (.int .i64 0), .c (.int .i64 0), .c (.int .i64 0), .c (.int .i64 0), .full [], .c (.int .i64 0), .full [], .c (.int .i64 0), .c (.str ⟨#[]⟩), .c (.int .i64 0), .c (.int .i64 0), .c (.int .i64 0), .c (.int .i64 0), .c (.int .i64 0), .c (.int .i64 0), .full [], .c (.int .i64 0), .full [], .c (.int .i64 0), .c (.str ⟨#[]⟩), .c (.int .i64 0), .c (.int .i64 0), .c (.int .i64 0), .c (.int .i64 0), .c (.int .i64 0), .c (.int .i64 0), .full [], .c (.int .i64 0), .full []] 0 a.vs) 11 b.vs) 22 c.vs = triVs a b c := tri_putY a b c [.c (.int .i64 0), .c (.str ⟨#[]⟩), .c (.int .i64 0), .c (.int .i64 0), .c (.int .i64 0), .c (.int .i64 0), .c (.int .i64 0), .c (.int .i64 0), .full [], .c (.int .i64 0), .full []] rfl
set_option maxHeartbeats 3200000 in
theorem made_one (f : Font) (s : Style) (b g : Box) (hf : f.Fit) (hb : b.fit) (ho : b.okk) (hg : g.fit) (hgo : g.okk) (hx : (tameB f b [g] && (modB b && (decide ([g].length ≤ 1) && [g].all modB))) = true) : AC Try.prog 39 [.agg (caseVs f s b [g])] (if (rdMake f s b [g]).2 = 0 then madeV f s b [g] else noneV) := by
 simp only [Bool.and_eq_true] at hx
 obtain ⟨h1, h2, _, h3⟩ := hx
 have h4 : modB g = true := by simpa using h3
 obtain ⟨c1, c2, c3, c4⟩ := tame_cnt h1
 have ht := tame_a f s b [g] hf hb (by intro x hx; rw [List.mem_singleton.1 hx]; exact hg) (by unfold maxLen; simp)
 have hm := modest_a b hb
 have hgm := modest_a g hg
 have hmk := pmake_a f s b [g] hf ho (by omega) (by intro x hx; rw [List.mem_singleton.1 hx]; exact ⟨hgo, by have := c3 g List.mem_cons_self; omega⟩)
 rw [h1] at ht
 rw [h2] at hm
 rw [h4] at hgm
 simp only [boxEV, boxV_vs, errV, styleV, Box.rows] at hm hgm hmk
 by_cases hz : (rdMake f s b [g]).2 = 0
 · rw [if_pos hz]
   have e : rdMake f s b [g] = (rdBox f s b [g], 0) := by
    unfold rdMake at hz ⊢
    split at hz
    · cases hz
    · rename_i hc
      rw [if_neg hc]
      unfold doneR at hz ⊢
      split at hz
      · rename_i hv; rw [if_pos hv]
      · cases hz
   rw [e] at hmk
   have hk : Box.rows (rdBox f s b [g]).kids = [(g.at_ (rdA f s g + scale (rdQ f s) 56 - g.w) (rdV f s b g)).row, ((rdS f s b).at_ (rdAt f s [g]) (rdT f s b - (rdS f s b).h)).row, ((ruleB (mx 0 b.w) (rdR f s) 0).at_ (rdAt f s [g] + (rdS f s b).w) (rdY f s b)).row, (b.at_ (rdAt f s [g] + (rdS f s b).w) 0).row] := rfl
   unfold madeV
   obtain ⟨X, hX⟩ : ∃ X, rdBox f s b [g] = X := ⟨_, rfl⟩
   obtain ⟨A0, hA0⟩ : ∃ X, g.at_ (rdA f s g + scale (rdQ f s) 56 - g.w) (rdV f s b g) = X := ⟨_, rfl⟩
   obtain ⟨A1, hA1⟩ : ∃ X, (rdS f s b).at_ (rdAt f s [g]) (rdT f s b - (rdS f s b).h) = X := ⟨_, rfl⟩
   obtain ⟨A2, hA2⟩ : ∃ X, (ruleB (mx 0 b.w) (rdR f s) 0).at_ (rdAt f s [g] + (rdS f s b).w) (rdY f s b) = X := ⟨_, rfl⟩
   obtain ⟨A3, hA3⟩ : ∃ X, b.at_ (rdAt f s [g] + (rdS f s b).w) 0 = X := ⟨_, rfl⟩
   rw [hX, hA0, hA1, hA2, hA3] at hk
   rw [hX, hA1, hA2, hA3]
   rw [hX] at hmk
   clear hX hA0 hA1 hA2 hA3 e
   have w1 : IntKind.i64.wrap 2 = 2 := wrap_i64 (by omega) (by omega)
   have w2 : IntKind.i64.wrap 3 = 3 := wrap_i64 (by omega) (by omega)
   have w3 : IntKind.i64.wrap 4 = 4 := wrap_i64 (by omega) (by omega)
   refine en Try.func39 Try.ntmps39 ?_
   refine go0 ?_
   refine gc0 (ht) Try.func35 ?_
   refine gc (cj @Box.rows.eq_1 <| @Box.rows.eq_2) (hm) Try.func85 ?_
   refine gc (cj @Box.rows.eq_1 <| @Box.rows.eq_2) (hgm) Try.func85 ?_
   refine go (cj @Box.rows.eq_1 <| @Box.rows.eq_2) ?_
   refine gc0 (hmk) Try.func36 ?_
   refine go (cj @hk <| cj @w1 <| cj @w2 <| cj @w3 <| cj @tri_putZ <| @putL_len) ?_
   simp [aRet, ares, aresL, ares1, V.pub, V.pubs, ldV, Try.results39]
 · rw [if_neg hz]
   unfold noneV
   obtain ⟨X, hX⟩ : ∃ X, rdMake f s b [g] = X := ⟨_, rfl⟩
   rw [hX] at hmk hz
   refine en Try.func39 Try.ntmps39 ?_
   refine go0 ?_
   refine gc0 (ht) Try.func35 ?_
   refine gc (cj @Box.rows.eq_1 <| @Box.rows.eq_2) (hm) Try.func85 ?_
   refine gc (cj @Box.rows.eq_1 <| @Box.rows.eq_2) (hgm) Try.func85 ?_
   refine go (cj @Box.rows.eq_1 <| @Box.rows.eq_2) ?_
   refine gc0 (hmk) Try.func36 ?_
   refine go @hz ?_
   simp [aRet, ares, aresL, ares1, V.pub, V.pubs, ldV, Try.results39, zero_vs, tri_zero]
set_option maxHeartbeats 3200000 in
theorem made_nil (f : Font) (s : Style) (b : Box) (hf : f.Fit) (hb : b.fit) (ho : b.okk) (hx : (tameB f b [] && (modB b && (decide (([] : List Box).length ≤ 1) && ([] : List Box).all modB))) = true) : AC Try.prog 39 [.agg (caseVs f s b [])] (if (rdMake f s b []).2 = 0 then madeV f s b [] else noneV) := by
 simp only [Bool.and_eq_true] at hx
 obtain ⟨h1, h2, _, h3⟩ := hx
 obtain ⟨c1, c2, c3, c4⟩ := tame_cnt h1
 have ht := tame_a f s b [] hf hb (by simp) (by unfold maxLen; simp)
 have hm := modest_a b hb
 have hmk := pmake_a f s b [] hf ho (by omega) (by simp)
 rw [h1] at ht
 rw [h2] at hm
 simp only [boxEV, boxV_vs, errV, styleV, Box.rows] at hm hmk
 by_cases hz : (rdMake f s b []).2 = 0
 · rw [if_pos hz]
   have e : rdMake f s b [] = (rdBox f s b [], 0) := by
    unfold rdMake at hz ⊢
    split at hz
    · cases hz
    · rename_i hc
      rw [if_neg hc]
      unfold doneR at hz ⊢
      split at hz
      · rename_i hv; rw [if_pos hv]
      · cases hz
   rw [e] at hmk
   have hk : Box.rows (rdBox f s b []).kids = [((rdS f s b).at_ (rdAt f s []) (rdT f s b - (rdS f s b).h)).row, ((ruleB (mx 0 b.w) (rdR f s) 0).at_ (rdAt f s [] + (rdS f s b).w) (rdY f s b)).row, (b.at_ (rdAt f s [] + (rdS f s b).w) 0).row] := rfl
   unfold madeV
   obtain ⟨X, hX⟩ : ∃ X, rdBox f s b [] = X := ⟨_, rfl⟩
   obtain ⟨A1, hA1⟩ : ∃ X, (rdS f s b).at_ (rdAt f s []) (rdT f s b - (rdS f s b).h) = X := ⟨_, rfl⟩
   obtain ⟨A2, hA2⟩ : ∃ X, (ruleB (mx 0 b.w) (rdR f s) 0).at_ (rdAt f s [] + (rdS f s b).w) (rdY f s b) = X := ⟨_, rfl⟩
   obtain ⟨A3, hA3⟩ : ∃ X, b.at_ (rdAt f s [] + (rdS f s b).w) 0 = X := ⟨_, rfl⟩
   rw [hX, hA1, hA2, hA3] at hk
   rw [hX, hA1, hA2, hA3]
   rw [hX] at hmk
   clear hX hA1 hA2 hA3 e
   have w1 : IntKind.i64.wrap 2 = 2 := wrap_i64 (by omega) (by omega)
   have w2 : IntKind.i64.wrap 3 = 3 := wrap_i64 (by omega) (by omega)
   have w4 : IntKind.i64.wrap 1 = 1 := wrap_i64 (by omega) (by omega)
   have w3 : IntKind.i64.wrap 4 = 4 := wrap_i64 (by omega) (by omega)
   refine en Try.func39 Try.ntmps39 ?_
   refine go0 ?_
   refine gc0 (ht) Try.func35 ?_
   refine gc (cj @Box.rows.eq_1 <| @Box.rows.eq_2) (hm) Try.func85 ?_
   refine go (cj @Box.rows.eq_1 <| @Box.rows.eq_2) ?_
   refine gc0 (hmk) Try.func36 ?_
   refine go (cj @hk <| cj @w1 <| cj @w2 <| cj @w3 <| cj @w4 <| cj @tri_putZ <| @putL_len) ?_
   simp [aRet, ares, aresL, ares1, V.pub, V.pubs, ldV, Try.results39]
 · rw [if_neg hz]
   unfold noneV
   obtain ⟨X, hX⟩ : ∃ X, rdMake f s b [] = X := ⟨_, rfl⟩
   rw [hX] at hmk hz
   refine en Try.func39 Try.ntmps39 ?_
   refine go0 ?_
   refine gc0 (ht) Try.func35 ?_
   refine gc (cj @Box.rows.eq_1 <| @Box.rows.eq_2) (hm) Try.func85 ?_
   refine go (cj @Box.rows.eq_1 <| @Box.rows.eq_2) ?_
   refine gc0 (hmk) Try.func36 ?_
   refine go @hz ?_
   simp [aRet, ares, aresL, ares1, V.pub, V.pubs, ldV, Try.results39, zero_vs, tri_zero]
theorem made_a (f : Font) (s : Style) (b : Box) (deg : List Box) (hf : f.Fit) (hb : b.fit) (ho : b.okk) (hd : ∀ g ∈ deg, g.fit) (hdo : ∀ g ∈ deg, g.okk) (hl : deg.length ≤ maxLen) : AC Try.prog 39 [.agg (caseVs f s b deg)] (if madeB f s b deg = true then madeV f s b deg else noneV) := by
 have hM : madeB f s b deg = ((tameB f b deg && (modB b && (decide (deg.length ≤ 1) && deg.all modB))) && decide ((rdMake f s b deg).2 = 0)) := rfl
 cases hx : (tameB f b deg && (modB b && (decide (deg.length ≤ 1) && deg.all modB))) with
 | false =>
   rw [hx, Bool.false_and] at hM
   rw [hM, if_neg (by simp)]
   exact made_no f s b deg hf hb hd hl hx
 | true =>
   rw [hx, Bool.true_and] at hM
   have hc : (if madeB f s b deg = true then madeV f s b deg else noneV) = if (rdMake f s b deg).2 = 0 then madeV f s b deg else noneV := by rw [hM]; simp
   rw [hc]
   match deg, hd, hdo, hx with
   | [], _, _, hx => exact made_nil f s b hf hb ho hx
   | [g], hd, hdo, hx => exact made_one f s b g hf hb ho (hd g List.mem_cons_self) (hdo g List.mem_cons_self) hx
   | g :: g' :: l, _, _, hx => simp at hx
end Go.Proofs.Ythbcljjpmdfflaa
