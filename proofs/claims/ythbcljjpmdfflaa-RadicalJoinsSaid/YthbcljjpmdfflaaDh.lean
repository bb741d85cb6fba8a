/-
 vinculumref33.Make on the abstract machine: valid arguments, a degree.
-/
import Derived.Test.YthbcljjpmdfflaaDd
namespace Go.Proofs.Ythbcljjpmdfflaa
open Go.RowKit
set_option linter.unusedSimpArgs false
set_option linter.unusedVariables false
set_option maxRecDepth 100000
set_option maxHeartbeats 12800000 in
theorem rmake_one (f : Font) (s : Style) (b g : Box) (hf : f.Fit) (hz : ∀ s ∈ f.stretches, s.sizes.length ≤ 1000) (hv : f.valid = true) (ho : s.ok = true) (hb : b.validB = true) (hbo : b.okk) (hg : g.validB = true) (hgo : g.okk) : AC Try.prog 37 [.agg f.vs, styleV s, boxV b, .c (.sl [g.row])] (boxEV (doneR (rdBox f s b [g]))) := by
 obtain ⟨p1, p2, r1, r2, l1, l2, sg, g1, g2⟩ := rd_ok (b := b) hv ho
 obtain ⟨bw, bh, bd, bc⟩ := valid_len hb
 obtain ⟨gw, gh, gd, gcn⟩ := valid_len hg
 have hsrc : b.src.length ≤ 1000000 := by have := valid_dok hb; cases b; simp only [Box.dok] at this; exact this.1
 have hsrg : g.src.length ≤ 1000000 := by have := valid_dok hg; cases g; simp only [Box.dok] at this; exact this.1
 have hck := rchk_a f s [b, g] hf (by intro c hc; simp only [List.mem_cons, List.not_mem_nil, or_false] at hc; rcases hc with rfl | rfl <;> first | exact ⟨hbo, by omega⟩ | exact ⟨hgo, by omega⟩) (by simp)
 have eC : chkR f s [b, g] = 0 := if_neg (by simp [hv, ho, hb, hg])
 rw [eC] at hck
 simp only [Box.rows] at hck
 clear eC
 have hL : rdL f s = if s.level = 0 then rdR f s + scale (scale f.params.xHeight (rdP f s)) 25 else rdR f s + scale (rdR f s) 25 := rfl
 have hN : rdN f s b = b.h + b.d + rdL f s + rdR f s := rfl
 have hsg := rsign_a f s b hf hz hv ho hb
 have hnd := rneed_a f s b hv ho hb
 have hle := rleast_a f s hv ho
 have hpq := rpar_a f s f.params.quad
 have hG : rdG f s b = if rdN f s b < (rdS f s b).h + (rdS f s b).d then rdL f s + half ((rdS f s b).h + (rdS f s b).d - rdN f s b) else rdL f s := rfl
 have hY : rdY f s b = b.h + rdG f s b := rfl
 have hT : rdT f s b = rdY f s b + rdR f s := rfl
 have hB : rdB f s b = rdT f s b - (rdS f s b).h - (rdS f s b).d := rfl
 have hV : rdV f s b g = rdB f s b + scale (rdT f s b - rdB f s b) 60 + mx 0 g.d := rfl
 have hA : rdA f s g = mx 0 (scale (scale f.params.quad (rdP f s)) 28 + g.w - scale (scale f.params.quad (rdP f s)) 56) := rfl
 have hX : rdBox f s b [g] = listB (rdA f s g + (rdS f s b).w + mx 0 b.w) (mx (mx (rdT f s b) b.h) (rdV f s b g + g.h)) (mx (mx (-(rdB f s b)) b.d) (g.d - rdV f s b g)) [g.at_ (rdA f s g + scale (scale f.params.quad (rdP f s)) 56 - g.w) (rdV f s b g), (rdS f s b).at_ (rdA f s g) (rdT f s b - (rdS f s b).h), (ruleB (mx 0 b.w) (rdR f s) 0).at_ (rdA f s g + (rdS f s b).w) (rdY f s b), b.at_ (rdA f s g + (rdS f s b).w) 0] := rfl
 have hsr := rpar_a f s f.params.rule
 have eR : scale f.params.rule (sizeOf_ f.params s) = rdR f s := rfl
 rw [eR] at hsr
 have eQ : scale f.params.quad (sizeOf_ f.params s) = scale f.params.quad (rdP f s) := rfl
 rw [eQ] at hpq
 have hq1 := rscale1_a (scale f.params.quad (rdP f s)) 56
 have hq2 := rscale1_a (scale f.params.quad (rdP f s)) 28
 rw [hX]
 obtain ⟨P, hP⟩ : ∃ z, rdP f s = z := ⟨_, rfl⟩
 obtain ⟨R, hR⟩ : ∃ z, rdR f s = z := ⟨_, rfl⟩
 obtain ⟨L, hLL⟩ : ∃ z, rdL f s = z := ⟨_, rfl⟩
 obtain ⟨N, hNN⟩ : ∃ z, rdN f s b = z := ⟨_, rfl⟩
 obtain ⟨S, hS⟩ : ∃ z, rdS f s b = z := ⟨_, rfl⟩
 obtain ⟨G, hGG⟩ : ∃ z, rdG f s b = z := ⟨_, rfl⟩
 obtain ⟨Y, hYY⟩ : ∃ z, rdY f s b = z := ⟨_, rfl⟩
 obtain ⟨T, hTT⟩ : ∃ z, rdT f s b = z := ⟨_, rfl⟩
 obtain ⟨B, hBB⟩ : ∃ z, rdB f s b = z := ⟨_, rfl⟩
 obtain ⟨V', hVV⟩ : ∃ z, rdV f s b g = z := ⟨_, rfl⟩
 obtain ⟨A, hAA⟩ : ∃ z, rdA f s g = z := ⟨_, rfl⟩
 rw [hP, hR, hLL] at hL
 rw [hNN, hLL, hR] at hN
 rw [hGG, hNN, hS, hLL] at hG
 rw [hYY, hGG] at hY
 rw [hTT, hYY, hR] at hT
 rw [hBB, hTT, hS] at hB
 rw [hVV, hBB, hTT] at hV
 rw [hAA, hP] at hA
 rw [hNN] at hnd
 rw [hLL] at hle
 rw [hS] at hsg
 rw [hP] at hpq hq1 hq2 p1 p2 ⊢
 rw [hR] at hsr r1 r2
 rw [hLL] at l1 l2
 rw [hS] at sg
 rw [hGG] at g1 g2
 rw [hTT, hBB, hYY, hR, hS, hVV, hAA]
 clear hP hR hLL hNN hS hGG hYY hTT hBB hX eR eQ hVV hAA
 obtain ⟨sd, sk, sf, sc, sh1, sh2, sd1, sd2, sw1, sw2⟩ := sg
 obtain ⟨K28, hK28⟩ : ∃ z, scale (scale f.params.quad P) 28 = z := ⟨_, rfl⟩
 obtain ⟨K56, hK56⟩ : ∃ z, scale (scale f.params.quad P) 56 = z := ⟨_, rfl⟩
 have k28 := scale_any (p := 28) (scale f.params.quad P) (by omega) (by omega)
 have k56 := scale_any (p := 56) (scale f.params.quad P) (by omega) (by omega)
 rw [hK28] at k28 hq2 hA
 rw [hK56] at k56 hq1 hA ⊢
 obtain ⟨Z60, hZ60⟩ : ∃ z, scale (T - B) 60 = z := ⟨_, rfl⟩
 have z60 := scale_any (p := 60) (T - B) (by omega) (by omega)
 have hs60 := rscale1_a (T - B) 60
 rw [hZ60] at z60 hV hs60
 have hA' : (if 0 < K28 + g.w - K56 then K28 + g.w - K56 else 0) = A := hA.symm
 have hA2 : (if K56 < K28 + g.w then K28 + g.w - K56 else 0) = A := by rw [← hA']; split <;> split <;> omega
 have hD0 : (if 0 < g.d then g.d else 0) = mx 0 g.d := rfl
 obtain ⟨D0, hDD⟩ : ∃ z, mx 0 g.d = z := ⟨_, rfl⟩
 rw [hDD] at hV hD0
 have bD : 0 ≤ D0 ∧ D0 ≤ 1073741824 := by rw [← hD0]; omega
 have bA : 0 ≤ A ∧ A ≤ 4294967296 := by rw [← hA']; omega
 have hat0 := rat_a g (A + K56 - g.w) V'
 have hat1 := rat_a S A (T - S.h)
 have hru := rrule_a (mx 0 b.w) R 0
 have hat2 := rat_a (ruleB (mx 0 b.w) R 0) (A + S.w) Y
 have hat3 := rat_a b (A + S.w) 0
 have hm1 : mx 0 b.w = if 0 < b.w then b.w else 0 := rfl
 obtain ⟨W, hW⟩ : ∃ z, mx 0 b.w = z := ⟨_, rfl⟩
 have bW : 0 ≤ W ∧ W ≤ 1073741824 := by rw [hW] at hm1; omega
 rw [hW] at hru hat2 ⊢
 have hl := rlist_a (A + S.w + W) (mx (mx T b.h) (V' + g.h)) (mx (mx (-B) b.d) (g.d - V')) [g.at_ (A + K56 - g.w) V', S.at_ A (T - S.h), (ruleB W R 0).at_ (A + S.w) Y, b.at_ (A + S.w) 0] (by simp)
 have hbx := rdone_a (listB (A + S.w + W) (mx (mx T b.h) (V' + g.h)) (mx (mx (-B) b.d) (g.d - V')) [g.at_ (A + K56 - g.w) V', S.at_ A (T - S.h), (ruleB W R 0).at_ (A + S.w) Y, b.at_ (A + S.w) 0]) ⟨(Nat.zero_le _ : 0 ≤ maxLen), (Nat.zero_le _ : 0 ≤ maxLen), at_okk _ _ hgo, at_okk _ _ sk, at_okk _ _ (rule_okk _ _ _), at_okk _ _ hbo, trivial⟩ (by simp only [listB, Box.cnt, Box.cnts, at_cnt, rule_cnt]; omega)
 obtain ⟨Z, hZ⟩ : ∃ z, listB (A + S.w + W) (mx (mx T b.h) (V' + g.h)) (mx (mx (-B) b.d) (g.d - V')) [g.at_ (A + K56 - g.w) V', S.at_ A (T - S.h), (ruleB W R 0).at_ (A + S.w) Y, b.at_ (A + S.w) 0] = z := ⟨_, rfl⟩
 rw [hZ] at hl hbx ⊢
 clear hZ
 simp only [Box.rows, boxV_vs] at hl hbx hat0 hat1 hat2 hat3 hru hsg hnd ⊢
 obtain ⟨A0, hA0⟩ : ∃ z, g.at_ (A + K56 - g.w) V' = z := ⟨_, rfl⟩
 obtain ⟨A1, hA1⟩ : ∃ z, S.at_ A (T - S.h) = z := ⟨_, rfl⟩
 obtain ⟨U, hU⟩ : ∃ z, ruleB W R 0 = z := ⟨_, rfl⟩
 rw [hU] at hl hat2 hru
 obtain ⟨A2, hA2'⟩ : ∃ z, U.at_ (A + S.w) Y = z := ⟨_, rfl⟩
 obtain ⟨A3, hA3⟩ : ∃ z, b.at_ (A + S.w) 0 = z := ⟨_, rfl⟩
 rw [hA0] at hl hat0
 rw [hA1] at hl hat1
 rw [hA2'] at hl hat2
 rw [hA3] at hl hat3
 clear hA0 hA1 hA2' hA3 hU
 have hh := half_any (S.h + S.d - N)
 have w4 : IntKind.i64.wrap (b.h + b.d + L) = b.h + b.d + L := wrap_i64 (by omega) (by omega)
 have w6 : IntKind.i64.wrap (S.h + S.d) = S.h + S.d := wrap_i64 (by omega) (by omega)
 have w7 : IntKind.i64.wrap (S.h + S.d - N) = S.h + S.d - N := wrap_i64 (by omega) (by omega)
 have w8 : IntKind.i64.wrap (L + half (S.h + S.d - N)) = L + half (S.h + S.d - N) := wrap_i64 (by omega) (by omega)
 have w9 : IntKind.i64.wrap (b.h + G) = Y := by rw [hY]; exact wrap_i64 (by omega) (by omega)
 have w10 : IntKind.i64.wrap (Y + R) = T := by rw [hT]; exact wrap_i64 (by omega) (by omega)
 have w11 : IntKind.i64.wrap (T - S.h) = T - S.h := wrap_i64 (by omega) (by omega)
 have w12 : IntKind.i64.wrap (T - S.h - S.d) = B := by rw [hB]; exact wrap_i64 (by omega) (by omega)
 have w13 : IntKind.i64.wrap (A + S.w) = A + S.w := wrap_i64 (by omega) (by omega)
 have w14 : IntKind.i64.wrap (A + S.w + W) = A + S.w + W := wrap_i64 (by omega) (by omega)
 have w15 : IntKind.i64.wrap (-B) = -B := wrap_i64 (by omega) (by omega)
 have w16 : IntKind.i64.wrap (K28 + g.w) = K28 + g.w := wrap_i64 (by omega) (by omega)
 have w17 : IntKind.i64.wrap (K28 + g.w - K56) = K28 + g.w - K56 := wrap_i64 (by omega) (by omega)
 have w18 : IntKind.i64.wrap (T - B) = T - B := wrap_i64 (by omega) (by omega)
 have w19 : IntKind.i64.wrap (B + Z60) = B + Z60 := wrap_i64 (by omega) (by omega)
 have w20 : IntKind.i64.wrap (B + Z60 + D0) = V' := by rw [hV]; exact wrap_i64 (by omega) (by omega)
 have w21 : IntKind.i64.wrap (A + K56) = A + K56 := wrap_i64 (by omega) (by omega)
 have w22 : IntKind.i64.wrap (A + K56 - g.w) = A + K56 - g.w := wrap_i64 (by omega) (by omega)
 have w23 : IntKind.i64.wrap (V' + g.h) = V' + g.h := wrap_i64 (by omega) (by omega)
 have w24 : IntKind.i64.wrap (g.d - V') = g.d - V' := wrap_i64 (by omega) (by omega)
 have w25 : IntKind.i64.wrap 1 = 1 := wrap_i64 (by omega) (by omega)
 have hm1' : (if 0 < b.w then b.w else 0) = W := by rw [← hm1]; exact hW
 unfold styleV at *
 simp only [boxEV, boxV_vs, errV] at hbx ⊢
 clear hm1
 have hc1 : 1 ≤ maxLen := by unfold maxLen; omega
 have hc2 : 2 ≤ maxLen := by unfold maxLen; omega
 refine en Try.func37 Try.ntmps37 ?_
 refine go (cj @hc1 <| @hc2) ?_
 refine gc0 (hck) Try.func79 ?_
 refine go0 ?_
 refine gc0 (hsr) Try.func42 ?_
 refine go0 ?_
 refine gc0 (hle) Try.func40 ?_
 refine go0 ?_
 refine gc0 (hsg) Try.func44 ?_
 refine go @w6 ?_
 refine gc @w7 (hnd) Try.func41 ?_
 refine go0 ?_
 refine jn (fun _ : Unit => [(12, .c (.int .i64 G))]) ?_ ?_
 all_goals simp only [puts, List.foldl_cons, List.foldl_nil, List.set_cons_zero, List.set_cons_succ]
 · by_cases h1 : N < S.h + S.d
   · have h1' : N < S.h + S.d ↔ True := iff_true_intro h1
     rw [if_pos h1] at hG
     refine go @h1' ?_
     refine gc @w8 (rhalf32_a (S.h + S.d - N)) Try.func80 ?_
     refine go0 ?_
     refine ⟨(), ?_⟩
     refine Le.weak (by simp [subT, hG, h1'])
   · rw [if_neg h1] at hG
     refine go @h1 ?_
     refine ⟨(), ?_⟩
     refine Le.weak (by simp [subT, hG, h1])
 · intro _
   have hmT : (if T < b.h then b.h else T) = mx T b.h := rfl
   have hmB : (if -B < b.d then b.d else -B) = mx (-B) b.d := rfl
   obtain ⟨MT, hMT⟩ : ∃ z, mx T b.h = z := ⟨_, rfl⟩
   obtain ⟨MB, hMB⟩ : ∃ z, mx (-B) b.d = z := ⟨_, rfl⟩
   rw [hMT] at hmT hl
   rw [hMB] at hmB hl
   have hmT2 : (if MT < V' + g.h then V' + g.h else MT) = mx MT (V' + g.h) := rfl
   have hmB2 : (if MB < g.d - V' then g.d - V' else MB) = mx MB (g.d - V') := rfl
   have hx0 : 1 ≤ maxLen := by unfold maxLen; omega
   have hx1 : 4 ≤ maxLen := by unfold maxLen; omega
   refine go (cj @w9 <| cj @w10 <| cj @w11 <| @w12) ?_
   refine gc0 (hpq) Try.func42 ?_
   refine go0 ?_
   refine gc0 (hq2) Try.func57 ?_
   refine gc0 (hq1) Try.func57 ?_
   refine go (cj @w10 <| cj @w15 <| cj @hmT <| cj @hmB <| cj @w16 <| cj @w17 <| cj @hA2 <| @w18) ?_
   refine gc (cj @w19 <| cj @hD0 <| @w20) (hs60) Try.func57 ?_
   refine go (cj @w21 <| @w22) ?_
   refine gc @hx0 (hat0) Try.func43 ?_
   refine go (cj @w23 <| cj @w24 <| cj @hmT2 <| cj @hmB2 <| cj @w13 <| cj @hm1' <| cj @w10 <| @w11) ?_
   refine gc0 (hat1) Try.func43 ?_
   refine gc0 (hru) Try.func81 ?_
   refine gc0 (hat2) Try.func43 ?_
   refine gc @hx1 (hat3) Try.func43 ?_
   refine go @w14 ?_
   refine gc0 (hl) Try.func83 ?_
   refine gc0 (hbx) Try.func82 ?_
   refine go0 ?_
   simp [aRet, ares, aresL, ares1, V.pub, V.pubs, ldV, Try.results37]
end Go.Proofs.Ythbcljjpmdfflaa
