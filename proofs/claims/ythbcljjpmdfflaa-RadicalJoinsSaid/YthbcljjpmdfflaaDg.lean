/-
 vinculumref33.Make on the abstract machine: valid arguments, no degree.
-/
import Derived.Test.YthbcljjpmdfflaaDd
namespace Go.Proofs.Ythbcljjpmdfflaa
open Go.RowKit
set_option linter.unusedSimpArgs false
set_option linter.unusedVariables false
set_option maxRecDepth 100000
set_option maxHeartbeats 12800000 in
theorem rmake_nil (f : Font) (s : Style) (b : Box) (hf : f.Fit) (hz : ∀ s ∈ f.stretches, s.sizes.length ≤ 1000) (hv : f.valid = true) (ho : s.ok = true) (hb : b.validB = true) (hbo : b.okk) : AC Try.prog 37 [.agg f.vs, styleV s, boxV b, .c (.sl [])] (boxEV (doneR (rdBox f s b []))) := by
 obtain ⟨p1, p2, r1, r2, l1, l2, sg, g1, g2⟩ := rd_ok (b := b) hv ho
 obtain ⟨bw, bh, bd, bc⟩ := valid_len hb
 have hsrc : b.src.length ≤ 1000000 := by have := valid_dok hb; cases b; simp only [Box.dok] at this; exact this.1
 have hck := rchk_a f s [b] hf (by intro c hc; simp only [List.mem_cons, List.not_mem_nil, or_false] at hc; subst hc; exact ⟨hbo, by omega⟩) (by simp)
 have eC : chkR f s [b] = 0 := if_neg (by simp [hv, ho, hb])
 rw [eC] at hck
 simp only [Box.rows] at hck
 clear eC
 have hL : rdL f s = if s.level = 0 then rdR f s + scale (scale f.params.xHeight (rdP f s)) 25 else rdR f s + scale (rdR f s) 25 := rfl
 have hN : rdN f s b = b.h + b.d + rdL f s + rdR f s := rfl
 have hsg := rsign_a f s b hf hz hv ho hb
 have hnd := rneed_a f s b hv ho hb
 have hle := rleast_a f s hv ho
 have hpq := rpar_a f s f.params.quad
 have hG : rdG f s b = if rdN f s b < (rdS f s b).h + (rdS f s b).d then rdL f s + half ((rdS f s b).h + (rdS f s b).d - rdN f s b) else rdL f s := rfl
 have hY : rdY f s b = b.h + rdG f s b := rfl
 have hT : rdT f s b = rdY f s b + rdR f s := rfl
 have hB : rdB f s b = rdT f s b - (rdS f s b).h - (rdS f s b).d := rfl
 have hX : rdBox f s b [] = listB (0 + (rdS f s b).w + mx 0 b.w) (mx (rdT f s b) b.h) (mx (-(rdB f s b)) b.d) [(rdS f s b).at_ (0) (rdT f s b - (rdS f s b).h), (ruleB (mx 0 b.w) (rdR f s) 0).at_ (0 + (rdS f s b).w) (rdY f s b), b.at_ (0 + (rdS f s b).w) 0] := rfl
 have hsr := rpar_a f s f.params.rule
 have eR : scale f.params.rule (sizeOf_ f.params s) = rdR f s := rfl
 rw [eR] at hsr
 have eQ : scale f.params.quad (sizeOf_ f.params s) = scale f.params.quad (rdP f s) := rfl
 rw [eQ] at hpq
 have hq1 := rscale1_a (scale f.params.quad (rdP f s)) 56
 have hq2 := rscale1_a (scale f.params.quad (rdP f s)) 28
 rw [hX]
 obtain ⟨P, hP⟩ : ∃ z, rdP f s = z := ⟨_, rfl⟩
 obtain ⟨R, hR⟩ : ∃ z, rdR f s = z := ⟨_, rfl⟩
 obtain ⟨L, hLL⟩ : ∃ z, rdL f s = z := ⟨_, rfl⟩
 obtain ⟨N, hNN⟩ : ∃ z, rdN f s b = z := ⟨_, rfl⟩
 obtain ⟨S, hS⟩ : ∃ z, rdS f s b = z := ⟨_, rfl⟩
 obtain ⟨G, hGG⟩ : ∃ z, rdG f s b = z := ⟨_, rfl⟩
 obtain ⟨Y, hYY⟩ : ∃ z, rdY f s b = z := ⟨_, rfl⟩
 obtain ⟨T, hTT⟩ : ∃ z, rdT f s b = z := ⟨_, rfl⟩
 obtain ⟨B, hBB⟩ : ∃ z, rdB f s b = z := ⟨_, rfl⟩
 rw [hP, hR, hLL] at hL
 rw [hNN, hLL, hR] at hN
 rw [hGG, hNN, hS, hLL] at hG
 rw [hYY, hGG] at hY
 rw [hTT, hYY, hR] at hT
 rw [hBB, hTT, hS] at hB
 rw [hNN] at hnd
 rw [hLL] at hle
 rw [hS] at hsg
 rw [hP] at hpq hq1 hq2 p1 p2
 rw [hR] at hsr r1 r2
 rw [hLL] at l1 l2
 rw [hS] at sg
 rw [hGG] at g1 g2
 rw [hTT, hBB, hYY, hR, hS]
 clear hP hR hLL hNN hS hGG hYY hTT hBB hX eR eQ
 obtain ⟨sd, sk, sf, sc, sh1, sh2, sd1, sd2, sw1, sw2⟩ := sg
 obtain ⟨K28, hK28⟩ : ∃ z, scale (scale f.params.quad P) 28 = z := ⟨_, rfl⟩
 obtain ⟨K56, hK56⟩ : ∃ z, scale (scale f.params.quad P) 56 = z := ⟨_, rfl⟩
 have k28 := scale_any (p := 28) (scale f.params.quad P) (by omega) (by omega)
 have k56 := scale_any (p := 56) (scale f.params.quad P) (by omega) (by omega)
 rw [hK28] at k28 hq2
 rw [hK56] at k56 hq1
 have hat1 := rat_a S 0 (T - S.h)
 have hru := rrule_a (mx 0 b.w) R 0
 have hat2 := rat_a (ruleB (mx 0 b.w) R 0) (0 + S.w) Y
 have hat3 := rat_a b (0 + S.w) 0
 have hm1 : mx 0 b.w = if 0 < b.w then b.w else 0 := rfl
 obtain ⟨W, hW⟩ : ∃ z, mx 0 b.w = z := ⟨_, rfl⟩
 have bW : 0 ≤ W ∧ W ≤ 1073741824 := by rw [hW] at hm1; omega
 rw [hW] at hru hat2 ⊢
 have hl := rlist_a (0 + S.w + W) (mx T b.h) (mx (-B) b.d) [S.at_ 0 (T - S.h), (ruleB W R 0).at_ (0 + S.w) Y, b.at_ (0 + S.w) 0] (by simp)
 have hbx := rdone_a (listB (0 + S.w + W) (mx T b.h) (mx (-B) b.d) [S.at_ 0 (T - S.h), (ruleB W R 0).at_ (0 + S.w) Y, b.at_ (0 + S.w) 0]) ⟨(Nat.zero_le _ : 0 ≤ maxLen), (Nat.zero_le _ : 0 ≤ maxLen), at_okk _ _ sk, at_okk _ _ (rule_okk _ _ _), at_okk _ _ hbo, trivial⟩ (by simp only [listB, Box.cnt, Box.cnts, at_cnt, rule_cnt]; omega)
 obtain ⟨Z, hZ⟩ : ∃ z, listB (0 + S.w + W) (mx T b.h) (mx (-B) b.d) [S.at_ 0 (T - S.h), (ruleB W R 0).at_ (0 + S.w) Y, b.at_ (0 + S.w) 0] = z := ⟨_, rfl⟩
 rw [hZ] at hl hbx ⊢
 clear hZ
 simp only [Box.rows, boxV_vs] at hl hbx hat1 hat2 hat3 hru hsg hnd ⊢
 obtain ⟨A1, hA1⟩ : ∃ z, S.at_ 0 (T - S.h) = z := ⟨_, rfl⟩
 obtain ⟨U, hU⟩ : ∃ z, ruleB W R 0 = z := ⟨_, rfl⟩
 rw [hU] at hl hat2 hru
 obtain ⟨A2, hA2'⟩ : ∃ z, U.at_ (0 + S.w) Y = z := ⟨_, rfl⟩
 obtain ⟨A3, hA3⟩ : ∃ z, b.at_ (0 + S.w) 0 = z := ⟨_, rfl⟩
 rw [hA1] at hl hat1
 rw [hA2'] at hl hat2
 rw [hA3] at hl hat3
 clear hA1 hA2' hA3 hU
 have hh := half_any (S.h + S.d - N)
 have w4 : IntKind.i64.wrap (b.h + b.d + L) = b.h + b.d + L := wrap_i64 (by omega) (by omega)
 have w6 : IntKind.i64.wrap (S.h + S.d) = S.h + S.d := wrap_i64 (by omega) (by omega)
 have w7 : IntKind.i64.wrap (S.h + S.d - N) = S.h + S.d - N := wrap_i64 (by omega) (by omega)
 have w8 : IntKind.i64.wrap (L + half (S.h + S.d - N)) = L + half (S.h + S.d - N) := wrap_i64 (by omega) (by omega)
 have w9 : IntKind.i64.wrap (b.h + G) = Y := by rw [hY]; exact wrap_i64 (by omega) (by omega)
 have w10 : IntKind.i64.wrap (Y + R) = T := by rw [hT]; exact wrap_i64 (by omega) (by omega)
 have w11 : IntKind.i64.wrap (T - S.h) = T - S.h := wrap_i64 (by omega) (by omega)
 have w12 : IntKind.i64.wrap (T - S.h - S.d) = B := by rw [hB]; exact wrap_i64 (by omega) (by omega)
 have w13 : IntKind.i64.wrap (0 + S.w) = 0 + S.w := wrap_i64 (by omega) (by omega)
 have w14 : IntKind.i64.wrap (0 + S.w + W) = 0 + S.w + W := wrap_i64 (by omega) (by omega)
 have w15 : IntKind.i64.wrap (-B) = -B := wrap_i64 (by omega) (by omega)
 have hm1' : (if 0 < b.w then b.w else 0) = W := by rw [← hm1]; exact hW
 unfold styleV at *
 simp only [boxEV, boxV_vs, errV] at hbx ⊢
 clear hm1
 simp only [Int.zero_add] at hl hat1 hat2 hat3 w13 w14
 have hc1 : 1 ≤ maxLen := by unfold maxLen; omega
 have hc2 : 2 ≤ maxLen := by unfold maxLen; omega
 refine en Try.func37 Try.ntmps37 ?_
 refine go (cj @hc1 <| @hc2) ?_
 refine gc0 (hck) Try.func79 ?_
 refine go0 ?_
 refine gc0 (hsr) Try.func42 ?_
 refine go0 ?_
 refine gc0 (hle) Try.func40 ?_
 refine go0 ?_
 refine gc0 (hsg) Try.func44 ?_
 refine go @w6 ?_
 refine gc @w7 (hnd) Try.func41 ?_
 refine go0 ?_
 refine jn (fun _ : Unit => [(12, .c (.int .i64 G))]) ?_ ?_
 all_goals simp only [puts, List.foldl_cons, List.foldl_nil, List.set_cons_zero, List.set_cons_succ]
 · by_cases h1 : N < S.h + S.d
   · have h1' : N < S.h + S.d ↔ True := iff_true_intro h1
     rw [if_pos h1] at hG
     refine go @h1' ?_
     refine gc @w8 (rhalf32_a (S.h + S.d - N)) Try.func80 ?_
     refine go0 ?_
     refine ⟨(), ?_⟩
     refine Le.weak (by simp [subT, hG, h1'])
   · rw [if_neg h1] at hG
     refine go @h1 ?_
     refine ⟨(), ?_⟩
     refine Le.weak (by simp [subT, hG, h1])
 · intro _
   have hmT : (if T < b.h then b.h else T) = mx T b.h := rfl
   have hmB : (if -B < b.d then b.d else -B) = mx (-B) b.d := rfl
   have hx1 : 3 ≤ maxLen := by unfold maxLen; omega
   refine go (cj @w9 <| cj @w10 <| cj @w11 <| @w12) ?_
   refine gc0 (hpq) Try.func42 ?_
   refine go0 ?_
   refine gc0 (hq2) Try.func57 ?_
   refine gc0 (hq1) Try.func57 ?_
   refine go (cj @w10 <| cj @w15 <| cj @hmT <| cj @hmB <| cj @w13 <| cj @hm1' <| @w11) ?_
   refine gc0 (hat1) Try.func43 ?_
   refine gc0 (hru) Try.func81 ?_
   refine gc0 (hat2) Try.func43 ?_
   refine gc @hx1 (hat3) Try.func43 ?_
   refine go @w14 ?_
   refine gc0 (hl) Try.func83 ?_
   refine gc0 (hbx) Try.func82 ?_
   refine go0 ?_
   simp [aRet, ares, aresL, ares1, V.pub, V.pubs, ldV, Try.results37]
end Go.Proofs.Ythbcljjpmdfflaa
