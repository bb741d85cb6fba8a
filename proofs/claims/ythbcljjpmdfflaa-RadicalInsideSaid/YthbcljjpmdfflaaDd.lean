/-
 radical.Make on the abstract machine: valid arguments, no degree.
-/
import Derived.Test.YthbcljjpmdfflaaDc
import Derived.Test.YthbcljjpmdfflaaGA
import Derived.Test.YthbcljjpmdfflaaG9
namespace Go.Proofs.Ythbcljjpmdfflaa
open Go.RowKit
set_option linter.unusedSimpArgs false
set_option linter.unusedVariables false
set_option maxRecDepth 100000
@[simp] theorem Box.vs_frzs (b : Box) (k : Nat) (row : List C) : V.frzs k row b.vs = b.vs := by cases b; simp [Box.vs, Box.row, V.frzs, V.frz]
theorem mxi (a b : Int) : (if a < b then b else a) = mx a b := rfl
set_option maxHeartbeats 12800000 in
theorem pmake_nil (f : Font) (s : Style) (b : Box) (hf : f.Fit) (hv : f.valid = true) (ho : s.ok = true) (hb : b.validB = true) (hbo : b.okk) : AC Try.prog 36 [.agg f.vs, styleV s, boxV b, .c (.sl [])] (boxEV (doneR (rdBox f s b []))) := by
 obtain ⟨p1, p2, r1, r2, l1, l2, sg, g1, g2⟩ := rd_ok (b := b) hv ho
 obtain ⟨bw, bh, bd, bc⟩ := valid_len hb
 have hsrc : b.src.length ≤ 1000000 := by have := valid_dok hb; cases b; simp only [Box.dok] at this; exact this.1
 have hpct := pct_a f s
 have e0 : pctR f s = (rdP f s, 0) := if_neg (by simp [ho, hv])
 rw [e0] at hpct
 have hbv := pValid_a b hbo (by omega)
 rw [hb] at hbv
 have hL : rdL f s = if s.level = 0 then rdR f s + scale (scale f.params.xHeight (rdP f s)) 25 else rdR f s + scale (rdR f s) 25 := rfl
 have hN : rdN f s b = b.h + b.d + rdL f s + rdR f s := rfl
 have hfind := vFind_a vasm_a f root_ (rdN f s b) (rdP f s) hf
 have hfo := (find_ok hv p1 p2 (name := root_) (by simp [root_, ByteArray.size]) (rdN f s b)).1
 have hfe : findR f root_ (rdN f s b) (rdP f s) = (rdS f s b, 0) := Prod.ext rfl hfo
 rw [hfe] at hfind
 have hG : rdG f s b = if rdN f s b < (rdS f s b).h + (rdS f s b).d then rdL f s + half ((rdS f s b).h + (rdS f s b).d - rdN f s b) else rdL f s := rfl
 have hY : rdY f s b = b.h + rdG f s b := rfl
 have hT : rdT f s b = rdY f s b + rdR f s := rfl
 have hB : rdB f s b = rdT f s b - (rdS f s b).h - (rdS f s b).d := rfl
 have hX : rdBox f s b [] = listB (0 + (rdS f s b).w + mx 0 b.w) (mx (rdT f s b) b.h) (mx (-(rdB f s b)) b.d) [(rdS f s b).at_ 0 (rdT f s b - (rdS f s b).h), (ruleB (mx 0 b.w) (rdR f s) 0).at_ (0 + (rdS f s b).w) (rdY f s b), b.at_ (0 + (rdS f s b).w) 0] := rfl
 have hsr := scale_a f.params.rule (rdP f s)
 have eR : scale f.params.rule (rdP f s) = rdR f s := rfl
 rw [eR] at hsr
 have hxx := part_a f.params.xHeight (rdP f s) 25
 rw [hX]
 obtain ⟨P, hP⟩ : ∃ z, rdP f s = z := ⟨_, rfl⟩
 obtain ⟨R, hR⟩ : ∃ z, rdR f s = z := ⟨_, rfl⟩
 obtain ⟨L, hLL⟩ : ∃ z, rdL f s = z := ⟨_, rfl⟩
 obtain ⟨N, hNN⟩ : ∃ z, rdN f s b = z := ⟨_, rfl⟩
 obtain ⟨S, hS⟩ : ∃ z, rdS f s b = z := ⟨_, rfl⟩
 obtain ⟨G, hGG⟩ : ∃ z, rdG f s b = z := ⟨_, rfl⟩
 obtain ⟨Y, hYY⟩ : ∃ z, rdY f s b = z := ⟨_, rfl⟩
 obtain ⟨T, hTT⟩ : ∃ z, rdT f s b = z := ⟨_, rfl⟩
 obtain ⟨B, hBB⟩ : ∃ z, rdB f s b = z := ⟨_, rfl⟩
 rw [hP, hR, hLL] at hL
 rw [hNN, hLL, hR] at hN
 rw [hGG, hNN, hS, hLL] at hG
 rw [hYY, hGG] at hY
 rw [hTT, hYY, hR] at hT
 rw [hBB, hTT, hS] at hB
 rw [hNN, hP, hS] at hfind
 rw [hP] at hpct hsr hxx p1 p2
 rw [hR] at hsr r1 r2
 rw [hLL] at l1 l2
 rw [hS] at sg
 rw [hGG] at g1 g2
 rw [hTT, hBB, hYY, hR, hS]
 clear hP hR hLL hNN hS hGG hYY hTT hBB hX e0 hfo hfe eR
 obtain ⟨sd, sk, sf, sc, sh1, sh2, sd1, sd2, sw1, sw2⟩ := sg
 have hat1 := pat_a S 0 (T - S.h) (by cases S; simp only [Box.dok] at sd; exact sd.1)
 have hru := prule_a (mx 0 b.w) R 0
 have hat2 := pat_a (ruleB (mx 0 b.w) R 0) (0 + S.w) Y (by simp [ruleB])
 have hat3 := pat_a b (0 + S.w) 0 hsrc
 have hm1 : mx 0 b.w = if 0 < b.w then b.w else 0 := rfl
 obtain ⟨W, hW⟩ : ∃ z, mx 0 b.w = z := ⟨_, rfl⟩
 have bW : 0 ≤ W ∧ W ≤ 1073741824 := by rw [hW] at hm1; omega
 rw [hW] at hru hat2 ⊢
 have hl := plist_a (0 + S.w + W) (mx T b.h) (mx (-B) b.d) [S.at_ 0 (T - S.h), (ruleB W R 0).at_ (0 + S.w) Y, b.at_ (0 + S.w) 0] ⟨at_dok _ _ sd, at_dok _ _ (rule_dok _ _ _), at_dok _ _ (valid_dok hb), trivial⟩ (by simp only [Box.cnts, at_cnt, rule_cnt]; omega)
 have hbx := pValid_a (listB (0 + S.w + W) (mx T b.h) (mx (-B) b.d) [S.at_ 0 (T - S.h), (ruleB W R 0).at_ (0 + S.w) Y, b.at_ (0 + S.w) 0]) ⟨(Nat.zero_le _ : 0 ≤ maxLen), (Nat.zero_le _ : 0 ≤ maxLen), at_okk _ _ sk, at_okk _ _ (rule_okk _ _ _), at_okk _ _ hbo, trivial⟩ (by simp only [listB, Box.cnt, Box.cnts, at_cnt, rule_cnt]; omega)
 obtain ⟨Z, hZ⟩ : ∃ z, listB (0 + S.w + W) (mx T b.h) (mx (-B) b.d) [S.at_ 0 (T - S.h), (ruleB W R 0).at_ (0 + S.w) Y, b.at_ (0 + S.w) 0] = z := ⟨_, rfl⟩
 rw [hZ] at hl hbx ⊢
 clear hZ
 simp only [Box.rows, boxV_vs] at hl hbx hat1 hat2 hat3 hru hbv ⊢
 obtain ⟨A1, hA1⟩ : ∃ z, S.at_ 0 (T - S.h) = z := ⟨_, rfl⟩
 obtain ⟨U, hU⟩ : ∃ z, ruleB W R 0 = z := ⟨_, rfl⟩
 rw [hU] at hl hat2 hru
 obtain ⟨A2, hA2⟩ : ∃ z, U.at_ (0 + S.w) Y = z := ⟨_, rfl⟩
 obtain ⟨A3, hA3⟩ : ∃ z, b.at_ (0 + S.w) 0 = z := ⟨_, rfl⟩
 rw [hA1] at hl hat1
 rw [hA2] at hl hat2
 rw [hA3] at hl hat3
 clear hA1 hA2 hA3 hU
 have b25 := scale_any (p := 25) R (by omega) (by omega)
 have bx25 := scale_any (p := 25) (scale f.params.xHeight P) (by omega) (by omega)
 have hh := half_any (S.h + S.d - N)
 have w1 : IntKind.i64.wrap (R + scale R 25) = R + scale R 25 := wrap_i64 (by omega) (by omega)
 have w2 : IntKind.i64.wrap (R + scale (scale f.params.xHeight P) 25) = R + scale (scale f.params.xHeight P) 25 := wrap_i64 (by omega) (by omega)
 have w3 : IntKind.i64.wrap (b.h + b.d) = b.h + b.d := wrap_i64 (by omega) (by omega)
 have w4 : IntKind.i64.wrap (b.h + b.d + L) = b.h + b.d + L := wrap_i64 (by omega) (by omega)
 have w5 : IntKind.i64.wrap (b.h + b.d + L + R) = N := by rw [hN]; exact wrap_i64 (by omega) (by omega)
 have w6 : IntKind.i64.wrap (S.h + S.d) = S.h + S.d := wrap_i64 (by omega) (by omega)
 have w7 : IntKind.i64.wrap (S.h + S.d - N) = S.h + S.d - N := wrap_i64 (by omega) (by omega)
 have w8 : IntKind.i64.wrap (L + half (S.h + S.d - N)) = L + half (S.h + S.d - N) := wrap_i64 (by omega) (by omega)
 have w9 : IntKind.i64.wrap (b.h + G) = Y := by rw [hY]; exact wrap_i64 (by omega) (by omega)
 have w10 : IntKind.i64.wrap (Y + R) = T := by rw [hT]; exact wrap_i64 (by omega) (by omega)
 have w11 : IntKind.i64.wrap (T - S.h) = T - S.h := wrap_i64 (by omega) (by omega)
 have w12 : IntKind.i64.wrap (T - S.h - S.d) = B := by rw [hB]; exact wrap_i64 (by omega) (by omega)
 have w13 : IntKind.i64.wrap (0 + S.w) = 0 + S.w := wrap_i64 (by omega) (by omega)
 have w14 : IntKind.i64.wrap (0 + S.w + W) = 0 + S.w + W := wrap_i64 (by omega) (by omega)
 have w15 : IntKind.i64.wrap (-B) = -B := wrap_i64 (by omega) (by omega)
 have hm1' : (if 0 < b.w then b.w else 0) = W := by rw [← hm1]; exact hW
 unfold styleV errV boxEV at *
 simp only [boxV_vs, errV] at hfind ⊢
 unfold root_ at hfind
 clear hm1
 simp only [Int.zero_add] at hl hat1 hat2 hat3 w13 w14
 refine en Try.func36 Try.ntmps36 ?_
 refine go0 ?_
 refine gc0 (hpct) Try.func71 ?_
 refine go0 ?_
 refine gc0 (hbv) Try.func72 ?_
 refine go0 ?_
 refine gc0 (hsr) Try.func74 ?_
 refine go0 ?_
 refine gc @w1 (scale_a R 25) Try.func74 ?_
 refine go0 ?_
 refine AW.frz 4 rfl (by simp [toCs, toC]; exact rfl) (by simp [V.frzs, V.frz]; exact rfl) (by simp [O.frz, V.frzs, V.frz]; exact rfl) ?_
 refine jn (fun _ : Unit => [(14, .c (.int .i64 L))]) ?_ ?_
 all_goals simp only [puts, List.foldl_cons, List.foldl_nil, List.set_cons_zero, List.set_cons_succ]
 · by_cases h0 : s.level = 0
   · have h0' : s.level = 0 ↔ True := iff_true_intro h0
     rw [if_pos h0] at hL
     refine go @h0' ?_
     refine gc @w2 (hxx) Try.func73 ?_
     refine go0 ?_
     refine ⟨(), ?_⟩
     refine Le.weak (by simp [subT, hL, h0'])
   · rw [if_neg h0] at hL
     refine go @h0 ?_
     refine ⟨(), ?_⟩
     refine Le.weak (by simp [subT, hL, h0])
 · intro _
   have hmT : (if T < b.h then b.h else T) = mx T b.h := rfl
   have hmB : (if -B < b.d then b.d else -B) = mx (-B) b.d := rfl
   refine go (cj @w3 <| cj @w4 <| @w5) ?_
   refine gc0 (hfind) Try.func30 ?_
   refine go @w6 ?_
   refine jn (fun _ : Unit => [(14, .c (.int .i64 G))]) ?_ ?_
   all_goals simp only [puts, List.foldl_cons, List.foldl_nil, List.set_cons_zero, List.set_cons_succ]
   · by_cases h1 : N < S.h + S.d
     · have h1' : N < S.h + S.d ↔ True := iff_true_intro h1
       rw [if_pos h1] at hG
       refine go (cj @h1' <| @w7) ?_
       refine gc @w8 (phalf_a (S.h + S.d - N)) Try.func75 ?_
       refine go0 ?_
       refine ⟨(), ?_⟩
       refine Le.weak (by simp [subT, hG, h1'])
     · rw [if_neg h1] at hG
       refine go @h1 ?_
       refine ⟨(), ?_⟩
       refine Le.weak (by simp [subT, hG, h1])
   · intro _
     refine go (cj @w9 <| cj @w10 <| cj @w11 <| cj @w12 <| cj @w15 <| cj @hmT <| @hmB) ?_
     refine AW.le (Le.tokSlot 21 45 11 rfl) ?_
     simp only [List.length_cons, List.length_nil, Nat.reduceAdd, List.set_cons_zero, List.set_cons_succ, List.cons_append, List.nil_append]
     refine LA.loop (LA.round ?_)
     refine go (cj @w13 <| cj @hm1' <| @w11) ?_
     refine gc0 (hat1) Try.func76 ?_
     refine gc0 (hru) Try.func77 ?_
     refine gc0 (hat2) Try.func76 ?_
     have hx1 : 3 ≤ maxLen := by unfold maxLen; omega
     refine gc @hx1 (hat3) Try.func76 ?_
     refine go @w14 ?_
     refine gc0 (hl) Try.func78 ?_
     refine go0 ?_
     cases hz : Z.validB with
     | false =>
       rw [hz] at hbx
       have e : doneR Z = (Box.zero, 6) := if_neg (by simp [hz])
       rw [e]
       refine gc0 (hbx) Try.func72 ?_
       refine go0 ?_
       simp [aRet, ares, aresL, ares1, V.pub, V.pubs, ldV, Try.results36, zero_vs]
     | true =>
       rw [hz] at hbx
       have e : doneR Z = (Z, 0) := if_pos hz
       rw [e]
       refine gc0 (hbx) Try.func72 ?_
       refine go0 ?_
       simp [aRet, ares, aresL, ares1, V.pub, V.pubs, ldV, Try.results36]
end Go.Proofs.Ythbcljjpmdfflaa
