/-
 Layer 33's laws: the example; the parts of a root.
-/
import Derived.Test.YthbcljjpmdfflaaDi
namespace Go.Proofs.Ythbcljjpmdfflaa
open Go.RowKit
set_option linter.unusedSimpArgs false
set_option linter.unusedVariables false
set_option maxRecDepth 100000
def modI (n : Int) : Bool := decide (-100000000 ≤ n) && decide (n ≤ 100000000)
def modB (b : Box) : Bool := b.lens.all modI && decide (b.cnt ≤ 200)
set_option maxHeartbeats 1600000 in
theorem modest_a (b : Box) (hb : b.fit) : AC Try.prog 85 [boxV b] (.c (.bool (modB b))) := by
 have hbf := rbfew_a b hb
 have hM : modB b = (b.lens.all modI && decide (b.cnt ≤ 200)) := rfl
 rw [boxV_vs] at hbf ⊢
 have hl : b.lens.length = 5 := rfl
 refine en Try.func85 Try.ntmps85 ?_
 refine go0 ?_
 refine lp (ι := { k : Nat // k ≤ b.lens.length ∧ b.lens.all modI = (b.lens.drop k).all modI }) (fun k => [(2, .c (.bool false)), (3, .full (b.lens.map fun n => [C.int .i64 n])), (4, .c (.int .i64 (k.1 : Int)))]) (fun k => [.box 45 b.vs false]) (fun k => b.lens.length - k.1) ⟨0, by simp⟩ ?_ ?_
 all_goals simp only [puts, List.foldl_cons, List.foldl_nil, List.set_cons_zero, List.set_cons_succ]
 · refine Le.weak (by simp [subT, Box.lens])
 · rintro ⟨k, hk, hI⟩
   simp only
   by_cases hlt : k < b.lens.length
   · obtain ⟨n, hn⟩ : ∃ n, b.lens[k] = n := ⟨_, rfl⟩
     rw [List.drop_eq_getElem_cons hlt, hn, List.all_cons] at hI
     have hw : IntKind.i64.wrap ((k : Int) + 1) = ((k + 1 : Nat) : Int) := by rw [wrap_i64 (by omega) (by omega)]; simp
     by_cases h1 : n < -100000000
     · have e : modI n = false := by unfold modI; rw [decide_eq_false (by omega)]; rfl
       rw [e, Bool.false_and] at hI
       rw [hI, Bool.false_and] at hM
       refine go (cj @hlt <| cj @hn <| @h1) ?_
       simp [aRet, ares, aresL, ares1, V.pub, V.pubs, ldV, Try.results85, hM]
     · by_cases h2 : 100000000 < n
       · have e : modI n = false := by unfold modI; rw [decide_eq_false (show ¬ n ≤ 100000000 by omega), Bool.and_false]
         rw [e, Bool.false_and] at hI
         rw [hI, Bool.false_and] at hM
         refine go (cj @hlt <| cj @hn <| cj @h1 <| @h2) ?_
         simp [aRet, ares, aresL, ares1, V.pub, V.pubs, ldV, Try.results85, hM]
       · have e : modI n = true := by unfold modI; rw [decide_eq_true (show -100000000 ≤ n by omega), decide_eq_true (show n ≤ 100000000 by omega)]; rfl
         rw [e, Bool.true_and] at hI
         refine go (cj @hlt <| cj @hn <| cj @h1 <| cj @h2 <| @hw) ?_
         refine ⟨⟨k + 1, by omega, hI⟩, by simp only; omega, ?_⟩
         exact wd 1
   · rw [List.drop_of_length_le (by omega), List.all_nil] at hI
     rw [hI, Bool.true_and] at hM
     refine go @hlt ?_
     refine gc0 (hbf) Try.func70 ?_
     refine go0 ?_
     simp [aRet, ares, aresL, ares1, V.pub, V.pubs, ldV, Try.results85, hM]
def triVs (a b c : Box) : List V := a.vs ++ (b.vs ++ c.vs)
section
variable (a b c : Box)
@[simp] theorem tri_len : (triVs a b c).length = 33 := by simp [triVs]
@[simp] theorem tri_flat : (triVs a b c).all V.one = true := by simp [triVs]
@[simp] theorem tri_take : (triVs a b c).take 33 = triVs a b c := List.take_of_length_le (by simp)
@[simp] theorem tri_a : (triVs a b c).take 11 = a.vs := by cases a; rfl
@[simp] theorem tri_b : ((triVs a b c).drop 11).take 11 = b.vs := by cases a; cases b; rfl
@[simp] theorem tri_c : ((triVs a b c).drop 22).take 11 = c.vs := by cases a; cases b; cases c; rfl
@[simp] theorem tri_ah : (triVs a b c)[4]? = some (.c (.int .i64 a.h)) := by cases a; rfl
@[simp] theorem tri_ahg (h : 4 < (triVs a b c).length) : (triVs a b c)[4]'h = .c (.int .i64 a.h) := by cases a; rfl
@[simp] theorem tri_ad : (triVs a b c)[5]? = some (.c (.int .i64 a.d)) := by cases a; rfl
@[simp] theorem tri_adg (h : 5 < (triVs a b c).length) : (triVs a b c)[5]'h = .c (.int .i64 a.d) := by cases a; rfl
@[simp] theorem tri_ax : (triVs a b c)[6]? = some (.c (.int .i64 a.x)) := by cases a; rfl
@[simp] theorem tri_axg (h : 6 < (triVs a b c).length) : (triVs a b c)[6]'h = .c (.int .i64 a.x) := by cases a; rfl
@[simp] theorem tri_ay : (triVs a b c)[7]? = some (.c (.int .i64 a.y)) := by cases a; rfl
@[simp] theorem tri_ayg (h : 7 < (triVs a b c).length) : (triVs a b c)[7]'h = .c (.int .i64 a.y) := by cases a; rfl
@[simp] theorem tri_bh : (triVs a b c)[15]? = some (.c (.int .i64 b.h)) := by cases a; cases b; rfl
@[simp] theorem tri_bhg (h : 15 < (triVs a b c).length) : (triVs a b c)[15]'h = .c (.int .i64 b.h) := by cases a; cases b; rfl
@[simp] theorem tri_bx : (triVs a b c)[17]? = some (.c (.int .i64 b.x)) := by cases a; cases b; rfl
@[simp] theorem tri_bxg (h : 17 < (triVs a b c).length) : (triVs a b c)[17]'h = .c (.int .i64 b.x) := by cases a; cases b; rfl
@[simp] theorem tri_by : (triVs a b c)[18]? = some (.c (.int .i64 b.y)) := by cases a; cases b; rfl
@[simp] theorem tri_byg (h : 18 < (triVs a b c).length) : (triVs a b c)[18]'h = .c (.int .i64 b.y) := by cases a; cases b; rfl
@[simp] theorem tri_cx : (triVs a b c)[28]? = some (.c (.int .i64 c.x)) := by cases a; cases b; cases c; rfl
@[simp] theorem tri_cxg (h : 28 < (triVs a b c).length) : (triVs a b c)[28]'h = .c (.int .i64 c.x) := by cases a; cases b; cases c; rfl
@[simp] theorem tri_cy : (triVs a b c)[29]? = some (.c (.int .i64 c.y)) := by cases a; cases b; cases c; rfl
@[simp] theorem tri_cyg (h : 29 < (triVs a b c).length) : (triVs a b c)[29]'h = .c (.int .i64 c.y) := by cases a; cases b; cases c; rfl
@[simp] theorem tri_pubs : V.pubs (triVs a b c) = some (triVs a b c) := by
 have : triVs a b c = (a.row ++ (b.row ++ c.row)).map V.c := by cases a; cases b; cases c; rfl
 rw [this]; exact pubs_c _
@[simp] theorem tri_put (cs : List V) (h : cs.length = 33) : putL cs 0 (triVs a b c) = triVs a b c := putL_all (by simp [h])
@[simp] theorem tri_bnds (n : Nat) : V.bnds n (triVs a b c) = true := by cases a; cases b; cases c; simp [triVs, Box.vs, Box.row, V.bnds, V.bnd, -Box.row_map]
end
theorem tri_zero : triVs Box.zero Box.zero Box.zero = Box.zero.vs ++ (Box.zero.vs ++ Box.zero.vs) := rfl
def exRf : Font := ⟨[⟨root_, 833, 790, 210, 0, 0⟩], [], ⟨1000, 431, 0, 40, 0, 0, 0, 0, 0, 0, 0, 0, 0, 0, 0, 70, 50, 90, 0, 0⟩⟩
def exRb : Box := ⟨2, ⟨#[]⟩, 0, 10, 431, 0, 0, 0, [], 0, []⟩
theorem exRf_fit : exRf.Fit := by
 refine ⟨by simp [exRf, maxLen], by simp [exRf, maxLen], ?_, ?_⟩
 · intro g hg
   simp only [exRf, List.mem_cons, List.not_mem_nil, or_false] at hg
   subst hg
   exact of_decide_eq_true (by kernel_rfl)
 · intro g hg
   simp only [exRf, List.not_mem_nil] at hg
theorem exR_r : ∃ B k0 k1 k2, rdMake exRf ⟨1, false⟩ exRb [] = (B, 0) ∧ B.kids = [k0, k1, k2] ∧ k0.y = -29 ∧ k1.y = 721 ∧ B.d = 239 :=
 ⟨(rdMake exRf ⟨1, false⟩ exRb []).1, (rdMake exRf ⟨1, false⟩ exRb []).1.kids.getD 0 Box.zero, (rdMake exRf ⟨1, false⟩ exRb []).1.kids.getD 1 Box.zero, (rdMake exRf ⟨1, false⟩ exRb []).1.kids.getD 2 Box.zero, by kernel_rfl, by kernel_rfl, by kernel_rfl, by kernel_rfl, by kernel_rfl⟩
set_option maxHeartbeats 3200000 in
theorem awake33_a : AC Try.prog 34 [] (.c (.bool true)) := by
 have h := pmake_a exRf ⟨1, false⟩ exRb [] exRf_fit ⟨(Nat.zero_le _ : 0 ≤ maxLen), (Nat.zero_le _ : 0 ≤ maxLen), trivial⟩ (by simp [exRb, Box.cnt, Box.cnts]) (by simp)
 obtain ⟨B, k0, k1, k2, e1, e2, e3, e4, e5⟩ := exR_r
 rw [e1] at h
 have hB : Box.rows B.kids = [k0.row, k1.row, k2.row] := by rw [e2]; rfl
 have hb : boxV exRb = .agg [.c (.int .i64 2), .c (.str ⟨#[]⟩), .c (.int .i64 0), .c (.int .i64 10), .c (.int .i64 431), .c (.int .i64 0), .c (.int .i64 0), .c (.int .i64 0), .c (.sl []), .c (.int .i64 0), .c (.sl [])] := rfl
 rw [hb] at h
 simp only [boxEV, errV, boxV_vs, styleV, Box.rows, Font.vs, Font.row, exRf, glyphsC, stretchesC, Params.list, List.map_cons, List.map_nil, Glyph.row, root_] at h
 obtain ⟨a0, a1, a2, a3, a4, a5, a6, a7, a8, a9, a10⟩ := k0
 obtain ⟨c0, c1, c2, c3, c4, c5, c6, c7, c8, c9, c10⟩ := k1
 obtain ⟨d0, d1, d2, d3, d4, d5, d6, d7, d8, d9, d10⟩ := k2
 simp only [Box.row] at hB e3 e4
 subst e3 e4
 refine en Try.func34 Try.ntmps34 ?_
 refine go0 ?_
 refine gc0 (h) Try.func36 ?_
 refine go (cj @hB <| @e5) ?_
 simp [aRet, ares, aresL, ares1, V.pub, V.pubs, ldV, Try.results34]
end Go.Proofs.Ythbcljjpmdfflaa
