import Derived.Test.YthbcljjpmdfflaaGreatG4
import Derived.Test.YthbcljjpmdfflaaGreatG7
import Derived.Test.YthbcljjpmdfflaaGreatG9
/-
 variant.pieces$1: what the iterator yields.
-/
namespace Go.Proofs.YthbcljjpmdfflaaGreat
open Go.RowKit
set_option linter.unusedSimpArgs false
set_option linter.unusedVariables false
set_option maxRecDepth 100000
def pcs (r : Int) (l : List Part) (i : Fin l.length) : List (Fin l.length) := List.replicate (times r l[i]).toNat i
def upto (r : Int) (l : List Part) (k : Nat) : List (Fin l.length) := ((List.finRange l.length).take k).flatMap (pcs r l)
def whole (r : Int) (l : List Part) : List (Fin l.length) := upto r l l.length
theorem upto_succ (r : Int) (l : List Part) (k : Nat) (h : k < l.length) : upto r l (k + 1) = upto r l k ++ pcs r l ⟨k, h⟩ := by
 unfold upto
 rw [List.take_succ_eq_append_getElem (by simpa using h), List.flatMap_append]
 simp
theorem upto_prefix (r : Int) (l : List Part) (k : Nat) (h : k ≤ l.length) : ∃ t, whole r l = upto r l k ++ t := by
 refine ⟨((List.finRange l.length).drop k).flatMap (pcs r l), ?_⟩
 unfold whole upto
 rw [← List.flatMap_append, List.take_append_drop, List.take_of_length_le (by simp)]
def encI (l : List Part) (i : Fin l.length) : Value := .int .i64 (i.val : Int)
def stO (y : Nat) (s : Stretch) (r : Int) (k : Nat) : List V := [.yl y, .cp s.row 0, .cp [.int .i64 r] 0, .any, .any, .any, .any, .cp s.row 2, .c (partsC s.parts), .c (.int .i64 s.parts.length), .c (.int .i64 k), .any, .any, .any, .any, .any, .any, .any, .any, .any, .any, .any, .any, .any, .any, .any, .any]
def stI (y : Nat) (s : Stretch) (r : Int) (k : Nat) (m : Int) (j : Nat) : List V := [.yl y, .cp s.row 0, .cp [.int .i64 r] 0, .any, .c (.int .i64 k), .any, .any, .cp s.row 2, .c (partsC s.parts), .c (.int .i64 s.parts.length), .c (.int .i64 k), .any, .any, .any, .any, .any, .any, .any, .c (.int .i64 m), .c (.int .i64 j), .any, .any, .any, .any, .any, .any, .any]
theorem pieces1_i (s : Stretch) (r : Int) (hp : s.parts.length ≤ 8) (hr1 : 1 ≤ r) (hr2 : r ≤ 1000) : ISeq Tryz.prog 112 [.cp s.row 0, .cp [.int .i64 r] 0] (fun y => #[encI s.parts y]) (fun xs => xs = whole r s.parts) (whole r s.parts).length := by
 refine ISeq.intro Tryz.func112 rfl rfl fun Y => ?_
 simp only [Tryz.ntmps112, List.length_cons, List.length_nil, Nat.reduceAdd, Nat.reduceSub, List.replicate_succ, List.replicate_zero, List.cons_append, List.nil_append]
 repeat (first
  | with_reducible refine IW.seq ?_
  | with_reducible refine IW.block ?_
  | with_reducible refine IW.skip ?_
  | with_reducible refine IW.ret ?_
  | with_reducible refine IW.exit ?_
  | with_reducible refine iThen_n ?_
  | with_reducible refine iThen_r ?_
  | with_reducible refine iThen_e ?_
  | with_reducible refine iBlk_n ?_
  | with_reducible refine iBlk_r ?_
  | with_reducible refine iBlk_hit ?_
  | with_reducible refine IL.nil ?_
  | ((with_reducible refine IW.region ?_); (with_reducible refine IL.run (by simp [List.replicate_succ, Stretch.row, partsC]; first | exact rfl | exact ⟨rfl, rfl⟩) ?_ ?_); (focus (first | exact rfl | decide)))
  | (with_reducible refine IW.cond (b := true) ?_ (fun _ => ?_) (fun e => nomatch e); (focus (simp [ev, Stretch.row, partsC]; done)))
  | (with_reducible refine IW.cond (b := false) ?_ (fun e => nomatch e) (fun _ => ?_); (focus (simp [ev, Stretch.row, partsC]; done))))
 refine IW.loop (ι := { k : Nat // k ≤ s.parts.length }) (fun k => (⟨upto r s.parts k.1, false⟩, ⟨stO Y.l s r k.1, []⟩)) (fun k => s.parts.length - k.1) ⟨0, by omega⟩ (by simp [upto]) ?_ ?_
 · refine LeS.drop (by simp [subT, stO, Stretch.row, partsC]) (by simp [V.bnds, V.bnd, stO])
 rintro ⟨k, hk⟩
 simp only [stO]
 by_cases hlt : k < s.parts.length
 · obtain ⟨q, hq⟩ : ∃ q, s.parts[k] = q := ⟨_, rfl⟩
   have hw : IntKind.i64.wrap ((k : Int) + 1) = ((k + 1 : Nat) : Int) := by rw [wrap_i64 (by omega) (by omega)]; simp
   cases hx : q.ext with
   | true =>
     have ht : times r q = r := by simp [times, hx]
     have hpc : pcs r s.parts ⟨k, hlt⟩ = List.replicate (r : Int).toNat ⟨k, hlt⟩ := by
      unfold pcs
      rw [show s.parts[(⟨k, hlt⟩ : Fin s.parts.length)] = q from hq, ht]
     repeat (first
      | with_reducible refine IW.seq ?_
      | with_reducible refine IW.block ?_
      | with_reducible refine IW.skip ?_
      | with_reducible refine IW.ret ?_
      | with_reducible refine IW.exit ?_
      | with_reducible refine iThen_n ?_
      | with_reducible refine iThen_r ?_
      | with_reducible refine iThen_e ?_
      | with_reducible refine iBlk_n ?_
      | with_reducible refine iBlk_r ?_
      | with_reducible refine iBlk_hit ?_
      | with_reducible refine IL.nil ?_
      | ((with_reducible refine IW.region ?_); (with_reducible refine IL.run (by simp [List.replicate_succ, hlt, hq, Stretch.row, partsC, Part.row, hx]; first | exact rfl | exact ⟨rfl, rfl⟩) ?_ ?_); (focus (first | exact rfl | decide)))
      | (with_reducible refine IW.cond (b := true) ?_ (fun _ => ?_) (fun e => nomatch e); (focus (simp [ev, hlt, hq, Stretch.row, partsC, Part.row, hx]; done)))
      | (with_reducible refine IW.cond (b := false) ?_ (fun e => nomatch e) (fun _ => ?_); (focus (simp [ev, hlt, hq, Stretch.row, partsC, Part.row, hx]; done))))
     refine IW.loop (ι := { j : Nat // (j : Int) ≤ r }) (fun j => (⟨upto r s.parts k ++ List.replicate j.1 ⟨k, hlt⟩, false⟩, ⟨stI Y.l s r k r j.1, []⟩)) (fun j => (r : Int).toNat - j.1) ⟨0, by simp only [Int.natCast_zero]; omega⟩ (by simp) ?_ ?_
     · refine LeS.drop (by simp [subT, stI, Stretch.row, partsC]) (by simp [V.bnds, V.bnd, stI])
     rintro ⟨j, hj⟩
     simp only [stI]
     by_cases hjl : (j : Int) < r
     · have hw2 : IntKind.i64.wrap ((j : Int) + 1) = ((j + 1 : Nat) : Int) := by rw [wrap_i64 (by omega) (by omega)]; simp
       repeat (first
        | with_reducible refine IW.seq ?_
        | with_reducible refine IW.block ?_
        | with_reducible refine IW.skip ?_
        | with_reducible refine IW.ret ?_
        | with_reducible refine IW.exit ?_
        | with_reducible refine iThen_n ?_
        | with_reducible refine iThen_r ?_
        | with_reducible refine iThen_e ?_
        | with_reducible refine iBlk_n ?_
        | with_reducible refine iBlk_r ?_
        | with_reducible refine iBlk_hit ?_
        | with_reducible refine IL.nil ?_
        | ((with_reducible refine IW.region ?_); (with_reducible refine IL.run (by simp [List.replicate_succ, hjl]; first | exact rfl | exact ⟨rfl, rfl⟩) ?_ ?_); (focus (first | exact rfl | decide)))
        | (with_reducible refine IW.cond (b := true) ?_ (fun _ => ?_) (fun e => nomatch e); (focus (simp [ev, hjl]; done)))
        | (with_reducible refine IW.cond (b := false) ?_ (fun e => nomatch e) (fun _ => ?_); (focus (simp [ev, hjl]; done))))
       refine IL.yield ⟨k, hlt⟩ (stI Y.l s r k r j) rfl rfl (by simp [ev]) (by first | (simp [ev]; exact ⟨rfl, rfl⟩) | (simp [ev]; done)) rfl ?_ (by simp [subT, stI]) (by simp [V.bnds, V.bnd, stI]) ?_ ?_
       · obtain ⟨t, ht2⟩ := upto_prefix r s.parts (k + 1) hlt
         rw [ht2, upto_succ r s.parts k hlt, hpc]
         simp only [List.length_append, List.length_replicate]
         omega
       · simp only [St.put, stI, List.set_cons_zero, List.set_cons_succ, List.length_cons, List.length_nil, Nat.reduceAdd, List.replicate_succ, List.replicate_zero]
         with_reducible refine IL.run (by simp [List.replicate_succ]; first | exact rfl | exact ⟨rfl, rfl⟩) ?_ ?_
         · first | exact rfl | decide
         repeat (first
          | with_reducible refine IW.seq ?_
          | with_reducible refine IW.block ?_
          | with_reducible refine IW.skip ?_
          | with_reducible refine IW.ret ?_
          | with_reducible refine IW.exit ?_
          | with_reducible refine iThen_n ?_
          | with_reducible refine iThen_r ?_
          | with_reducible refine iThen_e ?_
          | with_reducible refine iBlk_n ?_
          | with_reducible refine iBlk_r ?_
          | with_reducible refine iBlk_hit ?_
          | with_reducible refine IL.nil ?_
          | ((with_reducible refine IW.region ?_); (with_reducible refine IL.run (by simp [List.replicate_succ, hw2]; first | exact rfl | exact ⟨rfl, rfl⟩) ?_ ?_); (focus (first | exact rfl | decide)))
          | (with_reducible refine IW.cond (b := true) ?_ (fun _ => ?_) (fun e => nomatch e); (focus (simp [ev, hw2]; done)))
          | (with_reducible refine IW.cond (b := false) ?_ (fun e => nomatch e) (fun _ => ?_); (focus (simp [ev, hw2]; done))))
         refine ⟨⟨j + 1, by omega⟩, by simp only; omega, ?_, ?_⟩
         · simp [List.replicate_succ', List.append_assoc]
         · exact LeS.drop (by simp [subT]) (by simp [V.bnds, V.bnd])
       · simp only [St.put, stI, List.set_cons_zero, List.set_cons_succ, List.length_cons, List.length_nil, Nat.reduceAdd, List.replicate_succ, List.replicate_zero]
         with_reducible refine IL.run (by simp [List.replicate_succ]; first | exact rfl | exact ⟨rfl, rfl⟩) ?_ ?_
         · first | exact rfl | decide
         repeat (first
          | with_reducible refine IW.seq ?_
          | with_reducible refine IW.block ?_
          | with_reducible refine IW.skip ?_
          | with_reducible refine IW.ret ?_
          | with_reducible refine IW.exit ?_
          | with_reducible refine iThen_n ?_
          | with_reducible refine iThen_r ?_
          | with_reducible refine iThen_e ?_
          | with_reducible refine iBlk_n ?_
          | with_reducible refine iBlk_r ?_
          | with_reducible refine iBlk_hit ?_
          | with_reducible refine IL.nil ?_
          | ((with_reducible refine IW.region ?_); (with_reducible refine IL.run (by simp [List.replicate_succ]; first | exact rfl | exact ⟨rfl, rfl⟩) ?_ ?_); (focus (first | exact rfl | decide)))
          | (with_reducible refine IW.cond (b := true) ?_ (fun _ => ?_) (fun e => nomatch e); (focus (simp [ev]; done)))
          | (with_reducible refine IW.cond (b := false) ?_ (fun e => nomatch e) (fun _ => ?_); (focus (simp [ev]; done))))
         exact ⟨.inr rfl, fun h => nomatch h⟩
     · have hjm : j = (r : Int).toNat := by omega
       repeat (first
        | with_reducible refine IW.seq ?_
        | with_reducible refine IW.block ?_
        | with_reducible refine IW.skip ?_
        | with_reducible refine IW.ret ?_
        | with_reducible refine IW.exit ?_
        | with_reducible refine iThen_n ?_
        | with_reducible refine iThen_r ?_
        | with_reducible refine iThen_e ?_
        | with_reducible refine iBlk_n ?_
        | with_reducible refine iBlk_r ?_
        | with_reducible refine iBlk_hit ?_
        | with_reducible refine IL.nil ?_
        | ((with_reducible refine IW.region ?_); (with_reducible refine IL.run (by simp [List.replicate_succ, hjl, hw]; first | exact rfl | exact ⟨rfl, rfl⟩) ?_ ?_); (focus (first | exact rfl | decide)))
        | (with_reducible refine IW.cond (b := true) ?_ (fun _ => ?_) (fun e => nomatch e); (focus (simp [ev, hjl, hw]; done)))
        | (with_reducible refine IW.cond (b := false) ?_ (fun e => nomatch e) (fun _ => ?_); (focus (simp [ev, hjl, hw]; done))))
       refine ⟨⟨k + 1, hlt⟩, by simp only; omega, ?_, ?_⟩
       · simp only [upto_succ r s.parts k hlt, hpc, hjm]
       · exact LeS.drop (by simp [subT]) (by simp [V.bnds, V.bnd])
   | false =>
     have ht : times r q = 1 := by simp [times, hx]
     have hpc : pcs r s.parts ⟨k, hlt⟩ = List.replicate (1 : Int).toNat ⟨k, hlt⟩ := by
      unfold pcs
      rw [show s.parts[(⟨k, hlt⟩ : Fin s.parts.length)] = q from hq, ht]
     repeat (first
      | with_reducible refine IW.seq ?_
      | with_reducible refine IW.block ?_
      | with_reducible refine IW.skip ?_
      | with_reducible refine IW.ret ?_
      | with_reducible refine IW.exit ?_
      | with_reducible refine iThen_n ?_
      | with_reducible refine iThen_r ?_
      | with_reducible refine iThen_e ?_
      | with_reducible refine iBlk_n ?_
      | with_reducible refine iBlk_r ?_
      | with_reducible refine iBlk_hit ?_
      | with_reducible refine IL.nil ?_
      | ((with_reducible refine IW.region ?_); (with_reducible refine IL.run (by simp [List.replicate_succ, hlt, hq, Stretch.row, partsC, Part.row, hx]; first | exact rfl | exact ⟨rfl, rfl⟩) ?_ ?_); (focus (first | exact rfl | decide)))
      | (with_reducible refine IW.cond (b := true) ?_ (fun _ => ?_) (fun e => nomatch e); (focus (simp [ev, hlt, hq, Stretch.row, partsC, Part.row, hx]; done)))
      | (with_reducible refine IW.cond (b := false) ?_ (fun e => nomatch e) (fun _ => ?_); (focus (simp [ev, hlt, hq, Stretch.row, partsC, Part.row, hx]; done))))
     refine IW.loop (ι := { j : Nat // (j : Int) ≤ 1 }) (fun j => (⟨upto r s.parts k ++ List.replicate j.1 ⟨k, hlt⟩, false⟩, ⟨stI Y.l s r k 1 j.1, []⟩)) (fun j => (1 : Int).toNat - j.1) ⟨0, by simp only [Int.natCast_zero]; omega⟩ (by simp) ?_ ?_
     · refine LeS.drop (by simp [subT, stI, Stretch.row, partsC]) (by simp [V.bnds, V.bnd, stI])
     rintro ⟨j, hj⟩
     simp only [stI]
     by_cases hjl : (j : Int) < 1
     · have hw2 : IntKind.i64.wrap ((j : Int) + 1) = ((j + 1 : Nat) : Int) := by rw [wrap_i64 (by omega) (by omega)]; simp
       repeat (first
        | with_reducible refine IW.seq ?_
        | with_reducible refine IW.block ?_
        | with_reducible refine IW.skip ?_
        | with_reducible refine IW.ret ?_
        | with_reducible refine IW.exit ?_
        | with_reducible refine iThen_n ?_
        | with_reducible refine iThen_r ?_
        | with_reducible refine iThen_e ?_
        | with_reducible refine iBlk_n ?_
        | with_reducible refine iBlk_r ?_
        | with_reducible refine iBlk_hit ?_
        | with_reducible refine IL.nil ?_
        | ((with_reducible refine IW.region ?_); (with_reducible refine IL.run (by simp [List.replicate_succ, hjl]; first | exact rfl | exact ⟨rfl, rfl⟩) ?_ ?_); (focus (first | exact rfl | decide)))
        | (with_reducible refine IW.cond (b := true) ?_ (fun _ => ?_) (fun e => nomatch e); (focus (simp [ev, hjl]; done)))
        | (with_reducible refine IW.cond (b := false) ?_ (fun e => nomatch e) (fun _ => ?_); (focus (simp [ev, hjl]; done))))
       refine IL.yield ⟨k, hlt⟩ (stI Y.l s r k 1 j) rfl rfl (by simp [ev]) (by first | (simp [ev]; exact ⟨rfl, rfl⟩) | (simp [ev]; done)) rfl ?_ (by simp [subT, stI]) (by simp [V.bnds, V.bnd, stI]) ?_ ?_
       · obtain ⟨t, ht2⟩ := upto_prefix r s.parts (k + 1) hlt
         rw [ht2, upto_succ r s.parts k hlt, hpc]
         simp only [List.length_append, List.length_replicate]
         omega
       · simp only [St.put, stI, List.set_cons_zero, List.set_cons_succ, List.length_cons, List.length_nil, Nat.reduceAdd, List.replicate_succ, List.replicate_zero]
         with_reducible refine IL.run (by simp [List.replicate_succ]; first | exact rfl | exact ⟨rfl, rfl⟩) ?_ ?_
         · first | exact rfl | decide
         repeat (first
          | with_reducible refine IW.seq ?_
          | with_reducible refine IW.block ?_
          | with_reducible refine IW.skip ?_
          | with_reducible refine IW.ret ?_
          | with_reducible refine IW.exit ?_
          | with_reducible refine iThen_n ?_
          | with_reducible refine iThen_r ?_
          | with_reducible refine iThen_e ?_
          | with_reducible refine iBlk_n ?_
          | with_reducible refine iBlk_r ?_
          | with_reducible refine iBlk_hit ?_
          | with_reducible refine IL.nil ?_
          | ((with_reducible refine IW.region ?_); (with_reducible refine IL.run (by simp [List.replicate_succ, hw2]; first | exact rfl | exact ⟨rfl, rfl⟩) ?_ ?_); (focus (first | exact rfl | decide)))
          | (with_reducible refine IW.cond (b := true) ?_ (fun _ => ?_) (fun e => nomatch e); (focus (simp [ev, hw2]; done)))
          | (with_reducible refine IW.cond (b := false) ?_ (fun e => nomatch e) (fun _ => ?_); (focus (simp [ev, hw2]; done))))
         refine ⟨⟨j + 1, by omega⟩, by simp only; omega, ?_, ?_⟩
         · simp [List.replicate_succ', List.append_assoc]
         · exact LeS.drop (by simp [subT]) (by simp [V.bnds, V.bnd])
       · simp only [St.put, stI, List.set_cons_zero, List.set_cons_succ, List.length_cons, List.length_nil, Nat.reduceAdd, List.replicate_succ, List.replicate_zero]
         with_reducible refine IL.run (by simp [List.replicate_succ]; first | exact rfl | exact ⟨rfl, rfl⟩) ?_ ?_
         · first | exact rfl | decide
         repeat (first
          | with_reducible refine IW.seq ?_
          | with_reducible refine IW.block ?_
          | with_reducible refine IW.skip ?_
          | with_reducible refine IW.ret ?_
          | with_reducible refine IW.exit ?_
          | with_reducible refine iThen_n ?_
          | with_reducible refine iThen_r ?_
          | with_reducible refine iThen_e ?_
          | with_reducible refine iBlk_n ?_
          | with_reducible refine iBlk_r ?_
          | with_reducible refine iBlk_hit ?_
          | with_reducible refine IL.nil ?_
          | ((with_reducible refine IW.region ?_); (with_reducible refine IL.run (by simp [List.replicate_succ]; first | exact rfl | exact ⟨rfl, rfl⟩) ?_ ?_); (focus (first | exact rfl | decide)))
          | (with_reducible refine IW.cond (b := true) ?_ (fun _ => ?_) (fun e => nomatch e); (focus (simp [ev]; done)))
          | (with_reducible refine IW.cond (b := false) ?_ (fun e => nomatch e) (fun _ => ?_); (focus (simp [ev]; done))))
         exact ⟨.inr rfl, fun h => nomatch h⟩
     · have hjm : j = (1 : Int).toNat := by omega
       repeat (first
        | with_reducible refine IW.seq ?_
        | with_reducible refine IW.block ?_
        | with_reducible refine IW.skip ?_
        | with_reducible refine IW.ret ?_
        | with_reducible refine IW.exit ?_
        | with_reducible refine iThen_n ?_
        | with_reducible refine iThen_r ?_
        | with_reducible refine iThen_e ?_
        | with_reducible refine iBlk_n ?_
        | with_reducible refine iBlk_r ?_
        | with_reducible refine iBlk_hit ?_
        | with_reducible refine IL.nil ?_
        | ((with_reducible refine IW.region ?_); (with_reducible refine IL.run (by simp [List.replicate_succ, hjl, hw]; first | exact rfl | exact ⟨rfl, rfl⟩) ?_ ?_); (focus (first | exact rfl | decide)))
        | (with_reducible refine IW.cond (b := true) ?_ (fun _ => ?_) (fun e => nomatch e); (focus (simp [ev, hjl, hw]; done)))
        | (with_reducible refine IW.cond (b := false) ?_ (fun e => nomatch e) (fun _ => ?_); (focus (simp [ev, hjl, hw]; done))))
       refine ⟨⟨k + 1, hlt⟩, by simp only; omega, ?_, ?_⟩
       · simp only [upto_succ r s.parts k hlt, hpc, hjm]
       · exact LeS.drop (by simp [subT]) (by simp [V.bnds, V.bnd])
 · repeat (first
    | with_reducible refine IW.seq ?_
    | with_reducible refine IW.block ?_
    | with_reducible refine IW.skip ?_
    | with_reducible refine IW.ret ?_
    | with_reducible refine IW.exit ?_
    | with_reducible refine iThen_n ?_
    | with_reducible refine iThen_r ?_
    | with_reducible refine iThen_e ?_
    | with_reducible refine iBlk_n ?_
    | with_reducible refine iBlk_r ?_
    | with_reducible refine iBlk_hit ?_
    | with_reducible refine IL.nil ?_
    | ((with_reducible refine IW.region ?_); (with_reducible refine IL.run (by simp [List.replicate_succ, hlt]; first | exact rfl | exact ⟨rfl, rfl⟩) ?_ ?_); (focus (first | exact rfl | decide)))
    | (with_reducible refine IW.cond (b := true) ?_ (fun _ => ?_) (fun e => nomatch e); (focus (simp [ev, hlt]; done)))
    | (with_reducible refine IW.cond (b := false) ?_ (fun e => nomatch e) (fun _ => ?_); (focus (simp [ev, hlt]; done))))
   have hkl : k = s.parts.length := by omega
   subst hkl
   exact ⟨.inl rfl, fun _ => rfl⟩
end Go.Proofs.YthbcljjpmdfflaaGreat
namespace Go.Proofs.YthbcljjpmdfflaaGreat
open Go.RowKit
set_option linter.unusedSimpArgs false
set_option linter.unusedVariables false
set_option maxRecDepth 100000
theorem putL_mid : ∀ (vs cs pre post : List V), cs.length = vs.length → putL (pre ++ cs ++ post) pre.length vs = pre ++ vs ++ post
 | [], cs, pre, post, h => by have : cs = [] := List.eq_nil_of_length_eq_zero h; subst this; simp [putL]
 | v :: vs, [], pre, post, h => by simp at h
 | v :: vs, c :: cs, pre, post, h => by
   have ih := putL_mid vs cs (pre ++ [v]) post (by simpa using h)
   simp only [List.length_append, List.length_cons, List.length_nil, Nat.zero_add] at ih
   simp only [putL]
   rw [show (pre ++ c :: cs ++ post).set pre.length v = pre ++ [v] ++ cs ++ post by simp, ih]
   simp
def bxC (f : Font) (p : Int) (l : List Part) (k : Nat) : List V := ((l.take k).map fun q => (sizedR f q.name p).1.row.map V.c).flatten ++ (List.replicate (l.length - k) zboxC).flatten
def htC (f : Font) (l : List Part) (k : Nat) : List V := ((l.take k).map fun q => [V.c (.int .i64 (f.pick q.name).height)]).flatten ++ (List.replicate (l.length - k) [V.c (.int .i64 0)]).flatten
theorem row_len : ∀ b : Box, b.row.length = 11 := by rintro ⟨_, _, _, _, _, _, _, _, _, _, _⟩; rfl
theorem bxC_len (f : Font) (p : Int) (l : List Part) (k : Nat) (h : k ≤ l.length) : (bxC f p l k).length = l.length * 11 := by
 unfold bxC
 rw [List.length_append, flat_len (es := 11), flat_len (es := 11)]
 · simp only [List.length_map, List.length_take, List.length_replicate, Nat.min_eq_left h, ← Nat.add_mul]
   congr 1
   omega
 · intro r hr; rw [List.eq_of_mem_replicate hr]; rfl
 · intro r hr
   obtain ⟨q, _, rfl⟩ := List.mem_map.1 hr
   rw [List.length_map, row_len]
theorem htC_len (f : Font) (l : List Part) (k : Nat) (h : k ≤ l.length) : (htC f l k).length = l.length := by
 unfold htC
 rw [List.length_append, flat_len (es := 1), flat_len (es := 1)]
 · simp only [List.length_map, List.length_take, List.length_replicate, Nat.min_eq_left h]
   omega
 · intro r hr; rw [List.eq_of_mem_replicate hr]; rfl
 · intro r hr
   obtain ⟨q, _, rfl⟩ := List.mem_map.1 hr
   rfl
theorem bxC_put (f : Font) (p : Int) (l : List Part) (k : Nat) (h : k < l.length) : putL (bxC f p l k) (k * 11) ((sizedR f l[k].name p).1.row.map V.c) = bxC f p l (k + 1) := by
 have hpl : (((l.take k).map fun q => (sizedR f q.name p).1.row.map V.c).flatten).length = k * 11 := by
  rw [flat_len (es := 11)]
  · simp only [List.length_map, List.length_take, Nat.min_eq_left (Nat.le_of_lt h)]
  · intro r hr
    obtain ⟨q, _, rfl⟩ := List.mem_map.1 hr
    rw [List.length_map, row_len]
 have e : l.length - k = (l.length - (k + 1)) + 1 := by omega
 unfold bxC
 rw [e, List.replicate_succ, List.flatten_cons, ← List.append_assoc, ← hpl, putL_mid _ _ _ _ (by rw [List.length_map, row_len]; rfl), List.take_succ_eq_append_getElem h, List.map_append, List.flatten_append]
 simp
theorem htC_put (f : Font) (l : List Part) (k : Nat) (h : k < l.length) : putL (htC f l k) k [V.c (.int .i64 (f.pick l[k].name).height)] = htC f l (k + 1) := by
 have hpl : (((l.take k).map fun q => [V.c (.int .i64 (f.pick q.name).height)]).flatten).length = k := by
  rw [flat_len (es := 1)]
  · simp only [List.length_map, List.length_take, Nat.min_eq_left (Nat.le_of_lt h), Nat.mul_one]
  · intro r hr
    obtain ⟨q, _, rfl⟩ := List.mem_map.1 hr
    rfl
 have e : l.length - k = (l.length - (k + 1)) + 1 := by omega
 unfold htC
 rw [e, List.replicate_succ, List.flatten_cons, ← List.append_assoc]
 conv => lhs; arg 2; rw [← hpl]
 rw [putL_mid _ [V.c (.int .i64 0)] _ _ (by simp), List.take_succ_eq_append_getElem h, List.map_append, List.flatten_append]
 simp
theorem scale_nn {n p : Int} (h1 : 0 ≤ n) (h2 : 0 ≤ p) : 0 ≤ scale n p := by
 unfold scale
 split
 · unfold rnd
   rw [if_pos (Int.mul_nonneg h1 h2)]
   have := Int.mul_nonneg h1 h2
   omega
 · omega
theorem pick_w {f : Font} (h : f.valid = true) (name : ByteArray) : 0 ≤ (f.pick name).w := by
 have key : ∀ g ∈ f.glyphs, 0 ≤ g.w := by
  intro g hg
  have := valid_glyphs h g hg
  simp [glyphOk, inB] at this
  omega
 unfold Font.pick
 cases h1 : f.find name with
 | some g => exact key g (findO_mem h1)
 | none =>
   cases h2 : f.find ⟨#[63]⟩ with
   | some g => exact key g (findO_mem h2)
   | none => simp [Glyph.zero]
theorem width_b {f : Font} (hv : f.valid = true) {p : Int} (h1 : 1 ≤ p) (h2 : p ≤ 100) (name : ByteArray) : 0 ≤ (sizedR f name p).1.w ∧ (sizedR f name p).1.w ≤ 400000 ∧ -200000 ≤ (sizedR f name p).1.d ∧ (sizedR f name p).1.d ≤ 200000 := by
 rw [(sizedR_eq hv h1 h2 name).1]
 have h3 := scaled_b hv h1 h2 name
 have h4 := pick_w hv name
 have h5 : 0 ≤ ((f.pick name).scaled p).w := scale_nn h4 (by omega)
 have hs := pick_small hv name
 unfold Glyph.Small at hs
 have h6 := scale_small (f.pick name).italic p (by omega) (by omega) h1 (by omega)
 simp only [glyphBox, mx]
 have e : ((f.pick name).scaled p).italic = scale (f.pick name).italic p := rfl
 rw [e]
 split <;> omega
theorem bnds_all (n : Nat) : ∀ l : List V, V.bnds n l = true ↔ ∀ v ∈ l, v.bnd n = true
 | [] => by simp [V.bnds]
 | v :: l => by simp [V.bnds, bnds_all n l]
theorem bxC_bnd (n : Nat) (f : Font) (p : Int) (l : List Part) (k : Nat) : V.bnds n (bxC f p l k) = true := by
 rw [bnds_all]
 intro v hv
 unfold bxC at hv
 rcases List.mem_append.1 hv with h | h
 · obtain ⟨r, hr, hv⟩ := List.mem_flatten.1 h
   obtain ⟨q, _, rfl⟩ := List.mem_map.1 hr
   obtain ⟨c, _, rfl⟩ := List.mem_map.1 hv
   rfl
 · obtain ⟨r, hr, hv⟩ := List.mem_flatten.1 h
   rw [List.eq_of_mem_replicate hr] at hv
   simp only [zboxC, List.mem_cons, List.not_mem_nil, or_false] at hv
   rcases hv with rfl | rfl | rfl | rfl | rfl | rfl | rfl | rfl | rfl | rfl | rfl <;> rfl
theorem htC_bnd (n : Nat) (f : Font) (l : List Part) (k : Nat) : V.bnds n (htC f l k) = true := by
 rw [bnds_all]
 intro v hv
 unfold htC at hv
 rcases List.mem_append.1 hv with h | h
 · obtain ⟨r, hr, hv⟩ := List.mem_flatten.1 h
   obtain ⟨q, _, rfl⟩ := List.mem_map.1 hr
   simp only [List.mem_singleton] at hv
   subst hv
   rfl
 · obtain ⟨r, hr, hv⟩ := List.mem_flatten.1 h
   rw [List.eq_of_mem_replicate hr] at hv
   simp only [List.mem_singleton] at hv
   subst hv
   rfl
def bxs (f : Font) (p : Int) (l : List Part) : List (List C) := l.map fun q => (sizedR f q.name p).1.row
def hts (f : Font) (l : List Part) : List (List C) := l.map fun q => [.int .i64 (f.pick q.name).height]
theorem toCs_mapV : ∀ l : List C, toCs (l.map V.c) = some l
 | [] => rfl
 | c :: l => by simp only [List.map_cons, toCs, toC, toCs_mapV l]
theorem flat_map_c : ∀ l : List (List C), (l.map (List.map V.c)).flatten = l.flatten.map V.c
 | [] => rfl
 | r :: l => by simp only [List.map_cons, List.flatten_cons, List.map_append, flat_map_c l]
theorem bxC_all (f : Font) (p : Int) (l : List Part) : toCs (bxC f p l l.length) = some (bxs f p l).flatten := by
 have e : bxC f p l l.length = (bxs f p l).flatten.map V.c := by
  unfold bxC bxs
  rw [List.take_length, Nat.sub_self, List.replicate_zero, List.flatten_nil, List.append_nil, ← flat_map_c, List.map_map]
  rfl
 rw [e, toCs_mapV]
theorem htC_all (f : Font) (l : List Part) : toCs (htC f l l.length) = some (hts f l).flatten := by
 have e : htC f l l.length = (hts f l).flatten.map V.c := by
  unfold htC hts
  rw [List.take_length, Nat.sub_self, List.replicate_zero, List.flatten_nil, List.append_nil, ← flat_map_c, List.map_map]
  rfl
 rw [e, toCs_mapV]
theorem bxs_chop (f : Font) (p : Int) (l : List Part) : chop 11 l.length (bxs f p l).flatten = bxs f p l := by
 have := chop_rows_eq (es := 11) (bxs f p l) (by intro r hr; obtain ⟨q, _, rfl⟩ := List.mem_map.1 hr; exact row_len _)
 rwa [show (bxs f p l).length = l.length by simp [bxs]] at this
theorem hts_chop (f : Font) (l : List Part) : chop 1 l.length (hts f l).flatten = hts f l := by
 have := chop_rows_eq (es := 1) (hts f l) (by intro r hr; obtain ⟨q, _, rfl⟩ := List.mem_map.1 hr; rfl)
 rwa [show (hts f l).length = l.length by simp [hts]] at this
theorem frzs_vs (k : Nat) (row : List C) : ∀ l : List C, V.frzs k row (l.map V.c) = l.map V.c
 | [] => rfl
 | c :: l => by simp only [List.map_cons, V.frzs, V.frz, frzs_vs k row l]
@[simp] theorem frzs_font (k : Nat) (row : List C) (f : Font) : V.frzs k row f.vs = f.vs := frzs_vs k row f.row
theorem frzs_bx (k : Nat) (row : List C) (f : Font) (p : Int) (l : List Part) : V.frzs k row (bxC f p l l.length) = bxC f p l l.length := by
 have e : bxC f p l l.length = (bxs f p l).flatten.map V.c := by
  unfold bxC bxs
  rw [List.take_length, Nat.sub_self, List.replicate_zero, List.flatten_nil, List.append_nil, ← flat_map_c, List.map_map]
  rfl
 rw [e, frzs_vs]
theorem frzs_ht (k : Nat) (row : List C) (f : Font) (l : List Part) : V.frzs k row (htC f l l.length) = htC f l l.length := by
 have e : htC f l l.length = (hts f l).flatten.map V.c := by
  unfold htC hts
  rw [List.take_length, Nat.sub_self, List.replicate_zero, List.flatten_nil, List.append_nil, ← flat_map_c, List.map_map]
  rfl
 rw [e, frzs_vs]
def bot (f : Font) (ov : Int) : Int → List Part → Int
 | b, [] => b
 | b, q :: l => bot f ov (b + ((f.pick q.name).height - ov)) l
theorem bot_snoc (f : Font) (ov : Int) : ∀ (l : List Part) (b : Int) (q : Part), bot f ov b (l ++ [q]) = bot f ov b l + ((f.pick q.name).height - ov)
 | [], b, q => rfl
 | x :: l, b, q => by simp only [List.cons_append, bot]; exact bot_snoc f ov l _ q
theorem kids_snoc (f : Font) (ov p : Int) : ∀ (l : List Part) (b : Int) (q : Part), asmKids f ov p b (l ++ [q]) = asmKids f ov p b l ++ [pieceBox f p (bot f ov b l) q]
 | [], b, q => rfl
 | x :: l, b, q => by simp only [List.cons_append, asmKids, bot]; rw [kids_snoc f ov p l _ q]
theorem kids_len (f : Font) (ov p : Int) : ∀ (l : List Part) (b : Int), (asmKids f ov p b l).length = l.length
 | [], b => rfl
 | x :: l, b => by simp only [asmKids, List.length_cons, kids_len f ov p l]
theorem bot_bound (f : Font) (ov : Int) (A : Int) : ∀ (l : List Part) (b : Int), (∀ q ∈ l, 0 ≤ (f.pick q.name).height - ov ∧ (f.pick q.name).height - ov ≤ A) → b ≤ bot f ov b l ∧ bot f ov b l ≤ b + A * (l.length : Int)
 | [], b, _ => by simp [bot]
 | q :: l, b, h => by
   have h1 := h q (by simp)
   have ih := bot_bound f ov A l (b + ((f.pick q.name).height - ov)) fun q hq => h q (by simp [hq])
   simp only [bot, List.length_cons]
   have : A * ((l.length + 1 : Nat) : Int) = A * (l.length : Int) + A := by rw [Int.natCast_add, Int.mul_add]; simp
   omega
theorem pieces_flat (r : Int) : ∀ l : List Part, piecesL r l = l.flatMap fun q => List.replicate (times r q).toNat q
 | [] => rfl
 | q :: l => by simp only [piecesL, List.flatMap_cons, pieces_flat r l]
theorem whole_map (r : Int) (l : List Part) : (whole r l).map (fun i => l[i]) = piecesL r l := by
 rw [pieces_flat]
 unfold whole upto
 rw [List.take_of_length_le (by simp), List.map_flatMap]
 have e : (List.finRange l.length).map (fun i => l[i]) = l := by
  apply List.ext_getElem
  · simp
  · intro i h1 h2; simp
 conv => rhs; rw [← e]
 rw [List.flatMap_map]
 congr 1
 funext i
 simp [pcs]
theorem maxW_le : ∀ (l : List Box) (m : Int), m ≤ maxW m l ∧ ∀ b ∈ l, b.w ≤ maxW m l
 | [], m => by simp [maxW]
 | b :: l, m => by
   have ih := maxW_le l (mx m b.w)
   have h1 : m ≤ mx m b.w ∧ b.w ≤ mx m b.w := by unfold mx; split <;> omega
   simp only [maxW]
   refine ⟨by omega, fun x hx => ?_⟩
   rcases List.mem_cons.1 hx with rfl | hx
   · omega
   · exact ih.2 x hx
theorem maxW_from : ∀ (l : List Box) (m k : Int), k ≤ m → (m = k ∨ ∃ b ∈ l, m ≤ b.w) → maxW m l = maxW k l
 | [], m, k, h, hm => by
   rcases hm with rfl | ⟨b, hb, _⟩
   · rfl
   · cases hb
 | b :: l, m, k, h, hm => by
   simp only [maxW]
   refine maxW_from l _ _ (by unfold mx; split <;> split <;> omega) ?_
   by_cases h1 : m ≤ b.w
   · left; unfold mx; split <;> split <;> omega
   · rcases hm with rfl | ⟨c, hc, hw⟩
     · exact .inl rfl
     · rcases List.mem_cons.1 hc with rfl | hc
       · omega
       · right; exact ⟨c, hc, by unfold mx; split <;> omega⟩
theorem kids_w (f : Font) (ov p : Int) : ∀ (l : List Part) (b : Int) (q : Part), q ∈ l → ∃ k ∈ asmKids f ov p b l, k.w = (sizedR f q.name p).1.w
 | [], b, q, h => by cases h
 | x :: l, b, q, h => by
   simp only [asmKids]
   rcases List.mem_cons.1 h with rfl | h
   · exact ⟨_, List.mem_cons_self, rfl⟩
   · obtain ⟨k, hk, e⟩ := kids_w f ov p l _ q h
     exact ⟨k, List.mem_cons_of_mem _ hk, e⟩
theorem mem_pieces {r : Int} (h1 : 1 ≤ r) : ∀ {l : List Part} {q : Part}, q ∈ l → q ∈ piecesL r l
 | x :: l, q, h => by
   simp only [piecesL, List.mem_append]
   rcases List.mem_cons.1 h with rfl | h
   · left
     rw [List.mem_replicate]
     refine ⟨?_, rfl⟩
     unfold times
     split <;> omega
   · exact .inr (mem_pieces h1 h)
theorem bxs_get {f : Font} {p : Int} {l : List Part} {i : Nat} (h : i < l.length) : ∀ h', (bxs f p l)[i]'h' = (sizedR f l[i].name p).1.row := by simp [bxs]
theorem hts_get {f : Font} {l : List Part} {i : Nat} (h : i < l.length) : ∀ h', (hts f l)[i]'h' = [.int .i64 (f.pick l[i].name).height] := by simp [hts]
@[simp] theorem bxs_len (f : Font) (p : Int) (l : List Part) : (bxs f p l).length = l.length := by simp [bxs]
@[simp] theorem hts_len (f : Font) (l : List Part) : (hts f l).length = l.length := by simp [hts]
theorem subT_any : ∀ t : List V, subT t (List.replicate t.length .any)
 | [] => rfl
 | v :: t => ⟨.inl rfl, subT_any t⟩
theorem bnds_any (n : Nat) : ∀ k : Nat, V.bnds n (List.replicate k .any) = true
 | 0 => rfl
 | k + 1 => by simp only [List.replicate_succ, V.bnds, V.bnd, Bool.true_and, bnds_any n k]
theorem Le.hide {m : Mo} {t : List V} {h h' : List O} (n : Nat) (hn : m.n0 ≤ n) (hh : h.take n = h') (ho : (h'.all (O.bnd n)) = true) : Le m ⟨t, h⟩ ⟨List.replicate t.length .any, h'⟩ := Le.wdrop n hn (subT_any t) hh (bnds_any n _) ho
theorem adraw_nil {P : Program} {ops : List Oper} {K : List Ef → St → Prop} {acc : List Ef} {s : St} (h : K acc s) : adraw P ops K [] acc s := h
def zrowC : List C := [.int .i64 0, .str ⟨#[]⟩, .int .i64 0, .int .i64 0, .int .i64 0, .int .i64 0, .int .i64 0, .int .i64 0, .sl [], .int .i64 0, .sl []]
theorem cool_c (k es n : Nat) (row : List C) (l : List C) : (l.map V.c).map (V.cool k es n row) = l.map V.c := by
 rw [List.map_map]; rfl
theorem vs_cool (k es n : Nat) (row : List C) (f : Font) : f.vs.map (V.cool k es n row) = f.vs := cool_c k es n row f.row
theorem bxC_cool (k es n : Nat) (row : List C) (f : Font) (p : Int) (l : List Part) : (bxC f p l l.length).map (V.cool k es n row) = bxC f p l l.length := by
 have e : bxC f p l l.length = (bxs f p l).flatten.map V.c := by
  unfold bxC bxs
  rw [List.take_length, Nat.sub_self, List.replicate_zero, List.flatten_nil, List.append_nil, ← flat_map_c, List.map_map]
  rfl
 rw [e, cool_c]
theorem htC_cool (k es n : Nat) (row : List C) (f : Font) (l : List Part) : (htC f l l.length).map (V.cool k es n row) = htC f l l.length := by
 have e : htC f l l.length = (hts f l).flatten.map V.c := by
  unfold htC hts
  rw [List.take_length, Nat.sub_self, List.replicate_zero, List.flatten_nil, List.append_nil, ← flat_map_c, List.map_map]
  rfl
 rw [e, cool_c]
end Go.Proofs.YthbcljjpmdfflaaGreat
namespace Go.Proofs.YthbcljjpmdfflaaGreat
open Go.RowKit
set_option linter.unusedSimpArgs false
set_option linter.unusedVariables false
set_option maxRecDepth 100000
set_option maxHeartbeats 3200000 in
theorem vasm_a : AsmOk := by
 intro f s r p hf hv hs hr1 hr2 hp1 hp2 hp
 obtain ⟨_, _, g3, g4, g5, g6⟩ := good_of hv hs
 have hpl : 0 < s.parts.length := List.length_pos_iff.2 hp
 obtain ⟨tb1, tb2⟩ := tallI_bound hv hs hr1 hr2
 have hTA := vtall_a f s r hf hv hs hr1 hr2
 obtain ⟨T, hT⟩ : ∃ T, tallI f s r = T := ⟨_, rfl⟩
 rw [hT] at hTA tb1 tb2
 have hm1 : 128 * (s.parts.length : Int) ≤ 281474976710656 := by omega
 have hm2 : 8 * (s.parts.length : Int) ≤ 281474976710656 := by omega
 have hm3 : (s.parts.length : Int) ≤ 9223372036854775807 := by omega
 unfold stretchV at hTA ⊢
 refine AC.intro Tryz.func84 rfl ?_
 simp only [Tryz.ntmps84, List.map_cons, List.map_nil, List.length_cons, List.length_nil, Nat.reduceAdd, Nat.reduceSub, List.replicate_succ, List.replicate_zero, List.cons_append, List.nil_append, Stretch.row]
 refine go (cj @partsC.eq_1 <| cj @hm1 <| cj @hm2 <| @hm3) ?_
 refine gc (cj @Stretch.row.eq_1 <| @partsC.eq_1) (hTA) Tryz.func86 ?_
 refine gc0 (scale_a T p) Tryz.func33 ?_
 refine go @partsC.eq_1 ?_
 have e4 : (List.replicate s.parts.length zboxC).flatten = bxC f p s.parts 0 := by simp [bxC]
 have e6 : List.replicate s.parts.length (V.c (.int .i64 0)) = htC f s.parts 0 := by simp [htC]
 simp only [zboxC] at e4
 rw [e4, e6]
 refine lp (ι := { q : Nat × Int // q.1 ≤ s.parts.length ∧ 0 ≤ q.2 ∧ q.2 ≤ 400000 ∧ (q.1 ≠ 0 → ∃ pt ∈ s.parts, q.2 = (sizedR f pt.name p).1.w) }) (fun q => [(38, .c (.int .i64 (q.1.1 : Int)))]) (fun q => [O.box 27 f.vs false, O.box 61 [.c (.str s.name), .c (sizesC s.sizes), .c (.sl (s.parts.map Part.row)), .c (.int .i64 s.overlap)] false, O.box 3 [.c (.int .i64 p)] false, O.box 33 zboxC false, O.box 33 (bxC f p s.parts q.1.1) false, O.box 30 [.own 4 0 s.parts.length 11] false, O.box 3 (htC f s.parts q.1.1) false, O.box 31 [.own 6 0 s.parts.length 1] false, O.box 33 (lstC q.1.2 (scale T p) (.full [])) false]) (fun q => s.parts.length - q.1.1) ⟨(0, 0), Nat.zero_le _, by simp, by simp, by simp⟩ ?_ ?_
 all_goals simp only [puts, List.foldl_cons, List.foldl_nil, List.set_cons_zero, List.set_cons_succ]
 · refine Le.weak (by simp [subT, lstC, zboxC])
 · rintro ⟨⟨k, wl⟩, hk, w1, w2, w3⟩
   simp only at hk w1 w2 w3 ⊢
   by_cases hlt : k < s.parts.length
   · obtain ⟨q, hq⟩ : ∃ q, s.parts[k] = q := ⟨_, rfl⟩
     have hmem : q ∈ s.parts := hq ▸ List.getElem_mem hlt
     have hw : IntKind.i64.wrap ((k : Int) + 1) = ((k + 1 : Nat) : Int) := by rw [wrap_i64 (by omega) (by omega)]; simp
     have hc := fbox_a f q.name p hf.gl
     have hput4 := bxC_put f p s.parts k hlt
     have hput6 := htC_put f s.parts k hlt
     have hfit4 : k * 11 + 11 ≤ (bxC f p s.parts k).length := by rw [bxC_len _ _ _ _ hk]; omega
     have hfit6 : k + 1 ≤ (htC f s.parts k).length := by rw [htC_len _ _ _ hk]; omega
     rw [hq] at hput4 hput6
     have hwid := width_b hv hp1 hp2 q.name
     have hfb : fboxR f q.name p = ((sizedR f q.name p).1, 0) := by
      unfold fboxR
      rw [if_pos hv, (sizedR_eq hv hp1 hp2 q.name).1]
     rw [hfb] at hc
     obtain ⟨B, hB⟩ : ∃ B, (sizedR f q.name p).1 = B := ⟨_, rfl⟩
     have hw3 : ∃ pt ∈ s.parts, B.w = (sizedR f pt.name p).1.w := ⟨q, hmem, by rw [hB]⟩
     rw [hB] at hc hput4 hwid
     obtain ⟨bk, bn, bs, bw, bh, bd, bx, by_, bkids, bo, bsrc⟩ := B
     simp only [boxEV, errV, boxV, Box.row, List.map_cons, List.map_nil] at hc hput4 hwid hw3
     have hsm := pick_small hv q.name
     unfold Glyph.Small at hsm
     have hpa := pick_a f q.name hf.gl
     obtain ⟨g, hg⟩ : ∃ g, f.pick q.name = g := ⟨_, rfl⟩
     rw [hg] at hsm hpa hput6
     have e3 : IntKind.i64.wrap (g.h + g.d) = g.height := wrap_i64 (by omega) (by omega)
     refine go (cj @hlt <| cj @hq <| @Part.row.eq_1) ?_
     refine gc0 (hc) Tryz.func82 ?_
     refine go0 ?_
     refine gc (cj @glyphV.eq_1 <| @Glyph.row.eq_1) (hpa) Tryz.func104 ?_
     (with_reducible first | refine aops_c (fheight_a g) Tryz.func105 (by kernel_rfl) (by kernel_rfl) ?_ ?_ ?_ | refine adraw_c (fheight_a g) Tryz.func105 (by kernel_rfl) (by kernel_rfl) ?_ ?_ ?_)
     focus (simp [gate, glyphV, Glyph.row, e3, hput4, hput6, hfit4, hfit6, hlt]; done)
     focus (simp [pubCall, glyphV, Glyph.row, e3, hput4, hput6, hfit4, hfit6, hlt]; done)
     first | (with_reducible refine aops_run (by simp [List.replicate_succ, -putL, glyphV, Glyph.row, e3, hput4, hput6, hfit4, hfit6, hlt]; first | exact rfl | exact ⟨rfl, rfl⟩) ?_) | (with_reducible refine adraw_go (by simp [List.replicate_succ, -putL, glyphV, Glyph.row, e3, hput4, hput6, hfit4, hfit6, hlt]; first | exact rfl | exact ⟨rfl, rfl, rfl⟩) ?_)
     refine go (cj @lstC.eq_1 <| @hw) ?_
     refine ⟨⟨(k + 1, bw), by simp only; omega, by simp only; omega, by simp only; omega, fun _ => hw3⟩, by simp only; omega, ?_⟩
     refine Le.wdrop 9 (Nat.le_of_ble_eq_true rfl) (by simp [subT, lstC, zboxC, bxC_bnd, htC_bnd]) (by simp [lstC, zboxC, bxC_bnd, htC_bnd]) (by simp [V.bnds, V.bnd]) (by simp [O.bnd, V.bnds, V.bnd, lstC, zboxC, bxC_bnd, htC_bnd])
   · obtain rfl : k = s.parts.length := by omega
     have w3 := w3 (by omega)
     refine go0 ?_
     refine gc (cj @stretchV.eq_1 <| cj @Stretch.row.eq_1 <| @partsC.eq_1) (pieces_a s r) Tryz.func106 ?_
     refine go0 ?_
     refine AW.frz 4 rfl (bxC_all f p s.parts) (by simp [V.frzs, V.frz, bxs_chop]; exact rfl) (by simp [O.frz, V.frzs, V.frz, bxs_chop, frzs_bx, frzs_ht, lstC, zboxC]; exact rfl) ?_
     refine AW.frz 6 rfl (htC_all f s.parts) (by simp [V.frzs, V.frz, hts_chop]; exact rfl) (by simp [O.frz, V.frzs, V.frz, hts_chop, frzs_bx, frzs_ht, lstC, zboxC]; exact rfl) ?_
     refine AW.le (Le.tokCell 8 8 33 11 rfl rfl) ?_
     simp only [List.length_cons, List.length_nil, Nat.reduceAdd, List.set_cons_zero, List.set_cons_succ, List.cons_append, List.nil_append]
     have hwl : (whole r s.parts).length ≤ 8000 := by
      have h1 := pieces_len hr1 hr2 s.parts
      rw [← whole_map, List.length_map] at h1
      omega
     refine AW.range (α := Fin s.parts.length) rfl rfl rfl (caps := [.cp s.row 0, .cp [.int .i64 r] 0]) rfl rfl Tryz.func112 (by kernel_rfl) (by kernel_rfl) (encI s.parts) (fun y => .c (.int .i64 ((y.val : Nat) : Int))) ?_ (fun xs => xs = whole r s.parts) (whole r s.parts).length (pieces1_i s r g3 hr1 hr2)
      (fun pre => [O.box 27 f.vs false, O.box 61 [.c (.str s.name), .c (sizesC s.sizes), .c (.sl (s.parts.map Part.row)), .c (.int .i64 s.overlap)] false, O.box 3 [.c (.int .i64 p)] false, O.box 33 zboxC false, O.box 33 (bxC f p s.parts s.parts.length) true, O.box 30 [.c (.sl (bxs f p s.parts))] false, O.box 3 (htC f s.parts s.parts.length) true, O.box 31 [.c (.sl (hts f s.parts))] false, O.box 33 (lstC (maxW wl (asmKids f s.overlap p 0 (pre.map fun i => s.parts[i]))) (scale T p) (.gr 10 11 (Box.rows (asmKids f s.overlap p 0 (pre.map fun i => s.parts[i]))))) false, O.box 3 [.c (.int .i64 (bot f s.overlap 0 (pre.map fun i => s.parts[i])))] false, O.tok 33 11 (asmKids f s.overlap p 0 (pre.map fun i => s.parts[i])).length]) ?_ 11 (fun _ => rfl) (by simp) ?_ ?_
     · intro x' W y
       simp only [CV, RdC, encI]
       exact ⟨trivial, wf_len (by have := y.isLt; unfold maxLen; omega)⟩
     · simp [asmKids, maxW, Box.rows, bot, lstC, zboxC]
     · rintro lp pre ⟨i, hi⟩ hN
       simp only [List.map_append, List.map_cons, List.map_nil, kids_snoc, bot_snoc, List.set_cons_zero, List.set_cons_succ]
       obtain ⟨L, hL⟩ : ∃ L, (pre.map fun i => s.parts[i]) = L := ⟨_, rfl⟩
       have hLl : L.length < 8000 := by rw [← hL, List.length_map]; omega
       have hLm : ∀ q ∈ L, q ∈ s.parts := by
        intro q hq
        rw [← hL] at hq
        obtain ⟨j, _, rfl⟩ := List.mem_map.1 hq
        exact List.getElem_mem j.isLt
       have hbb := bot_bound f s.overlap 40000 L 0 (fun q hq => by
        have h1 := g6 q (hLm q hq)
        have hsm := pick_small hv q.name
        unfold Glyph.Small at hsm
        unfold Glyph.height at h1 ⊢
        omega)
       rw [hL]
       obtain ⟨b, hb⟩ : ∃ b, bot f s.overlap 0 L = b := ⟨_, rfl⟩
       have hkl : (asmKids f s.overlap p 0 L).length = L.length := kids_len _ _ _ _ _
       obtain ⟨kids, hkids⟩ : ∃ l, asmKids f s.overlap p 0 L = l := ⟨_, rfl⟩
       rw [hb] at hbb
       rw [hkids] at hkl
       simp only [hb, hkids]
       obtain ⟨q, hq⟩ : ∃ q, s.parts[i] = q := ⟨_, rfl⟩
       have hmem : q ∈ s.parts := hq ▸ List.getElem_mem hi
       have hg6 := g6 q hmem
       have hbx := bxs_get (f := f) (p := p) hi
       have hht := hts_get (f := f) hi
       have hwid := width_b hv hp1 hp2 q.name
       rw [hq] at hbx hht
       have hfi : s.parts[(⟨i, hi⟩ : Fin s.parts.length)] = q := hq
       simp only [hfi]
       have hPB : pieceBox f p b q = { (sizedR f q.name p).1 with y := scale b p + (sizedR f q.name p).1.d } := rfl
       obtain ⟨B, hB⟩ : ∃ B, (sizedR f q.name p).1 = B := ⟨_, rfl⟩
       rw [hB] at hbx hwid hPB
       obtain ⟨bk, bn, bs, bw, bh, bd, bx, by_, bkids, bo, bsrc⟩ := B
       simp only [Box.row] at hbx hwid hPB
       have hsm := pick_small hv q.name
       unfold Glyph.Small at hsm
       obtain ⟨g, hg⟩ : ∃ g, f.pick q.name = g := ⟨_, rfl⟩
       rw [hg] at hsm hg6 hht
       simp only [hPB, hg]
       have hgh : g.height = g.h + g.d := rfl
       have wov : IntKind.i64.wrap (g.height - s.overlap) = g.height - s.overlap := wrap_i64 (by omega) (by omega)
       have wb : IntKind.i64.wrap (b + (g.height - s.overlap)) = b + (g.height - s.overlap) := wrap_i64 (by omega) (by omega)
       have hsb := scale_lb (n := b) (p := p) (by omega) (by omega) (by omega) (by omega)
       have hwy : IntKind.i64.wrap (scale b p + bd) = scale b p + bd := wrap_i64 (by omega) (by omega)
       have hl1 : kids.length + 1 ≤ maxLen := by unfold maxLen; omega
       have hl2 : (kids.length + 1) * 128 ≤ 140737488355328 := by omega
       have hrow : Box.rows (kids ++ [⟨bk, bn, bs, bw, bh, bd, bx, scale b p + bd, bkids, bo, bsrc⟩]) = Box.rows kids ++ [[.int .i64 bk, .str bn, .int .i64 bs, .int .i64 bw, .int .i64 bh, .int .i64 bd, .int .i64 bx, .int .i64 (scale b p + bd), .sl (Box.rows bkids), .int .i64 bo, intsC bsrc]] := by rw [rows_snoc]; rfl
       have hmw : maxW wl (kids ++ [⟨bk, bn, bs, bw, bh, bd, bx, scale b p + bd, bkids, bo, bsrc⟩]) = if maxW wl kids < bw then bw else maxW wl kids := by rw [maxW_snoc]; rfl
       refine go (cj @hi <| cj @hbx <| @lstC.eq_1) ?_
       refine gc @hwy (scale_a b p) Tryz.func33 ?_
       refine go @lstC.eq_1 ?_
       have hl1' : (Box.rows kids).length + 1 ≤ maxLen := by rw [rows_len]; exact hl1
       have hl2' : ((Box.rows kids).length + 1) * 128 ≤ 140737488355328 := by rw [rows_len]; exact hl2
       refine AW.drawS mixedP (.inr (by decide)) ?_
       refine TW.take 5 (adraw_go (by simp [List.replicate_succ]; exact ⟨rfl, rfl⟩) (adraw_nil ?_))
       simp only [List.drop_succ_cons, List.drop_zero]
       refine TW.op ⟨.hot 10 11 (Box.rows kids), some (10, .hot 33 11 ((Box.rows kids).length + 1) (zrowC.map V.c)), some 10⟩ rfl (by intro k ob h; cases h; simp) ?_ ?_
       · intro S0 w0 x a w H g hop hrk
         have hY : CV x w (.gr 10 11 (Box.rows kids)) (a.eval (.tmp 93)) := hop (.tmp 93) (by simp [Op.operands, Call.operands])
         have hZ : CV x w (.full [zrowC]) (a.eval (.tmp 96)) := hop (.tmp 96) (by simp [Op.operands, Call.operands])
         simp only [CV] at hZ
         obtain ⟨_, _, hZ⟩ := hZ
         exact ok_append_hot g rfl tye_30 hY hZ (by omega) rfl hl1' hl2' (by rw [hrk 10 rfl, rows_len]; rfl)
       simp only [St.step, St.put, updH, List.length_cons, List.length_nil, Nat.reduceAdd, Nat.reduceLT, if_true, List.set_cons_zero, List.set_cons_succ, List.nil_append, List.cons_append]
       refine TW.op ⟨.hp 10 ((Box.rows kids).length + 1) ((Box.rows kids).length * 11), none, some 10⟩ rfl (by intro k ob h; cases h) ?_ ?_
       · intro S0 w0 x a w H g hop hrk
         have hY : CV x w (.hot 10 11 (Box.rows kids)) (a.eval (.tmp 97)) := hop (.tmp 97) (by simp [Op.operands])
         have hZ : CV x w (.c (.int .i64 (kids.length : Int))) (a.eval (.tmp 95)) := hop (.tmp 95) (by simp [Op.operands])
         exact ok_index_hot g rfl hY (by rw [rows_len]; exact hZ) tye_30 (hrk 10 rfl)
       simp only [St.step, St.put, updH, List.length_cons, List.length_nil, Nat.reduceAdd, Nat.reduceLT, if_true, List.set_cons_zero, List.set_cons_succ, List.nil_append, List.cons_append]
       refine TW.op ⟨.any, some (10, .hot 33 11 ((Box.rows kids).length + 1) [.c (.int .i64 bk), .c (.str bn), .c (.int .i64 bs), .c (.int .i64 bw), .c (.int .i64 bh), .c (.int .i64 bd), .c (.int .i64 bx), .c (.int .i64 (scale b p + bd)), .c (.sl (Box.rows bkids)), .c (.int .i64 bo), .c (intsC bsrc)]), some 10⟩ rfl (by intro k ob h; cases h; simp) ?_ ?_
       · intro S0 w0 x a w H g hop hrk
         have hY : CV x w (.hp 10 ((Box.rows kids).length + 1) ((Box.rows kids).length * 11)) (a.eval (.tmp 98)) := hop (.tmp 98) (by simp [Op.operands])
         have hZ := hop (.tmp 94) (by simp [Op.operands])
         exact ok_store_hot g (q := (true, 11)) rfl ty1_33 hY hZ (hrk 10 rfl) rfl rfl rfl rfl
       simp only [St.step, St.put, updH, List.length_cons, List.length_nil, Nat.reduceAdd, Nat.reduceLT, if_true, List.set_cons_zero, List.set_cons_succ, List.nil_append, List.cons_append]
       refine TW.take 2 (adraw_go (by simp [List.replicate_succ]; exact ⟨rfl, rfl⟩) (adraw_nil (TW.nil ⟨by kernel_rfl, ?_⟩)))
       refine aThen_n ?_
       refine AW.le (Le.cool 10 (ty := 33) (es := 11) (n := kids.length) (cs := List.map V.c [.int .i64 bk, .str bn, .int .i64 bs, .int .i64 bw, .int .i64 bh, .int .i64 bd, .int .i64 bx, .int .i64 (scale b p + bd), .sl (Box.rows bkids), .int .i64 bo, intsC bsrc]) (row := [.int .i64 bk, .str bn, .int .i64 bs, .int .i64 bw, .int .i64 bh, .int .i64 bd, .int .i64 bx, .int .i64 (scale b p + bd), .sl (Box.rows bkids), .int .i64 bo, intsC bsrc]) rfl (toCs_mapV _) ?_) ?_
       · intro j ty es cur cs h
         iterate 10 (rcases j with _ | j; · simp at h)
         rcases j with _ | j
         · rfl
         rcases j with _ | j
         · simp at h
         · simp at h
       simp only [List.map_cons, List.map_nil, V.cool, O.cool, rows_len, and_self, if_true, bxC_cool, htC_cool, vs_cool, zboxC]
       refine go (cj @hi <| cj @hht <| cj @wov <| @wb) ?_
       refine ⟨rfl, _, Le.hide 11 (Nat.le_of_ble_eq_true rfl) ?_ ?_⟩
       · simp [hrow, hmw, lstC, zboxC]
       · simp [O.bnd, V.bnds, V.bnd, lstC, zboxC, bxC_bnd, htC_bnd]
     · rintro xs rfl
       rw [whole_map]
       obtain ⟨kids, hkids⟩ : ∃ l, asmKids f s.overlap p 0 (piecesL r s.parts) = l := ⟨_, rfl⟩
       have hmx : maxW wl kids = maxW 0 kids := by
        obtain ⟨pt, hpt, e⟩ := w3
        obtain ⟨b, hb, e2⟩ := kids_w f s.overlap p (piecesL r s.parts) 0 pt (mem_pieces hr1 hpt)
        rw [hkids] at hb
        exact maxW_from kids wl 0 w1 (.inr ⟨b, hb, by omega⟩)
       have hR : boxEV (asmBox f s r p, 0) = .tup [.agg [.c (.int .i64 3), .c (.str ⟨#[]⟩), .c (.int .i64 0), .c (.int .i64 (maxW 0 kids)), .c (.int .i64 (scale T p)), .c (.int .i64 0), .c (.int .i64 0), .c (.int .i64 0), .c (.sl (Box.rows kids)), .c (.int .i64 0), .c (.sl [])], .c (.int .i64 0)] := by
        unfold boxEV boxV asmBox
        rw [hkids, hT]
        rfl
       rw [hR]
       simp only [hkids, hmx]
       refine go (cj @lstC.eq_1 <| @zboxC.eq_1) ?_
       simp [aRet, ares, aresL, ares1, V.pub, V.pubs, ldV, Tryz.results84]
end Go.Proofs.YthbcljjpmdfflaaGreat
namespace Go.Proofs.YthbcljjpmdfflaaGreat
open Go.RowKit
set_option linter.unusedSimpArgs false
set_option linter.unusedVariables false
set_option maxRecDepth 100000
def exF : Font := ⟨[⟨⟨#[40]⟩, 3, 6, 2, 0, 0⟩, ⟨⟨#[40, 66]⟩, 4, 10, 4, 0, 0⟩, ⟨⟨#[112]⟩, 4, 3, 1, 0, 0⟩], [⟨⟨#[40]⟩, [⟨#[40]⟩, ⟨#[40, 66]⟩], [⟨⟨#[112]⟩, true⟩], 1⟩], ⟨0, 0, 0, 0, 0, 0, 0, 0, 0, 0, 0, 0, 0, 0, 0, 1, 1, 1, 0, 0⟩⟩
theorem exF_fit : exF.Fit := by
 refine ⟨by simp [exF, maxLen], by simp [exF, maxLen], ?_, ?_⟩
 · intro g hg
   simp only [exF, List.mem_cons, List.not_mem_nil, or_false] at hg
   rcases hg with rfl | rfl | rfl <;> exact of_decide_eq_true (by kernel_rfl)
 · intro g hg
   simp only [exF, List.mem_cons, List.not_mem_nil, or_false] at hg
   subst hg
   exact of_decide_eq_true (by kernel_rfl)
theorem ex1 : chooseR exF ⟨#[40]⟩ 9 100 = (⟨⟨#[40, 66]⟩, 0⟩, 0) := by kernel_rfl
theorem ex2 : chooseR exF ⟨#[40]⟩ 20 100 = (⟨⟨#[]⟩, 7⟩, 0) := by kernel_rfl
theorem ex3 : ∃ k0 rest, findR exF ⟨#[40]⟩ 20 100 = (⟨3, ⟨#[]⟩, 0, 4, 22, 0, 0, 0, k0 :: rest, 0, []⟩, 0) ∧ k0.y = 1 ∧ rest.length = 6 := ⟨(findR exF ⟨#[40]⟩ 20 100).1.kids.headD Box.zero, (findR exF ⟨#[40]⟩ 20 100).1.kids.tail, by kernel_rfl, by kernel_rfl, by kernel_rfl⟩
theorem ex4 : (boxR exF ⟨#[40]⟩ ⟨⟨#[]⟩, 7⟩ 50).1.h + (boxR exF ⟨#[40]⟩ ⟨⟨#[]⟩, 7⟩ 50).1.d = 11 := by kernel_rfl
theorem ex5 : (boxR exF ⟨#[40]⟩ ⟨⟨#[]⟩, 7⟩ 50).2 = 0 := by kernel_rfl
end Go.Proofs.YthbcljjpmdfflaaGreat
namespace Go.Proofs.YthbcljjpmdfflaaGreat
open Go.RowKit
set_option linter.unusedSimpArgs false
set_option linter.unusedVariables false
set_option maxRecDepth 100000
theorem boxR_err (f : Font) (name : ByteArray) (c : Choice) (p : Int) : (boxR f name c p).2 = if checkR f p ≠ 0 then checkR f p else if isR f name c = false then 8 else 0 := by
 unfold boxR
 split
 · rfl
 · split
   · rfl
   · split <;> rfl
theorem scale_bd {n p : Int} (h1 : -1000000000 ≤ n) (h2 : n ≤ 1000000000) (h3 : 0 ≤ p) (h4 : p ≤ 100) : -1000000001 ≤ scale n p ∧ scale n p ≤ 1000000001 := by
 rw [← rnd_scale (by omega) (by omega) h3 (by omega)]
 have m := mul_bound n p 1000000000 100 (by omega) (by omega) h3 h4
 unfold rnd
 split <;> omega
theorem boxR_height (f : Font) (name : ByteArray) (c : Choice) (p : Int) : (boxR f name c p).1.h + (boxR f name c p).1.d = (if checkR f p ≠ 0 then 0 else if isR f name c = false then 0 else heightI f name c p) ∧ -2000000000 ≤ (boxR f name c p).1.h + (boxR f name c p).1.d ∧ (boxR f name c p).1.h + (boxR f name c p).1.d ≤ 2000000000 := by
 unfold boxR
 by_cases hc : checkR f p = 0
 · obtain ⟨hv, hp1, hp2⟩ := check_zero hc
   simp only [hc, ne_eq, not_true_eq_false, if_false]
   cases hi : isR f name c with
   | false => simp [Box.zero]
   | true =>
     simp only [Bool.true_eq_false, if_false]
     obtain ⟨cg, cr⟩ := c
     by_cases h0 : cr = 0
     · subst h0
       obtain ⟨e1, e2⟩ := sizedR_eq hv hp1 hp2 cg
       have hb := scaled_b hv hp1 hp2 cg
       simp only [if_true, heightI, sizeH, e1, e2, glyphBox]
       refine ⟨trivial, by omega, by omega⟩
     · obtain ⟨s, hst, hpn, r1, r2, _⟩ := isR_rep h0 hi
       have hs := (stretchO_mem hst).1
       obtain ⟨tb1, tb2⟩ := tallI_bound hv hs r1 r2
       have := scale_bd (n := tallI f s cr) (p := p) tb1 tb2 (by omega) hp2
       simp only [h0, if_false, heightI, hst, Option.getD_some, asmBox]
       refine ⟨by omega, by omega, by omega⟩
 · simp [hc, Box.zero]
theorem boxR_wrap (f : Font) (name : ByteArray) (c : Choice) (p : Int) : IntKind.i64.wrap ((boxR f name c p).1.h + (boxR f name c p).1.d) = (if checkR f p ≠ 0 then 0 else if isR f name c = false then 0 else heightI f name c p) := by
 obtain ⟨h1, h2, h3⟩ := boxR_height f name c p
 rw [wrap_i64 (by omega) (by omega), h1]
theorem fs_some {f : Font} {p need : Int} : ∀ {l : List ByteArray} {n : ByteArray}, firstSize f p need l = some n → ∃ j : Nat, l[j]? = some n ∧ need ≤ sizeH f n p ∧ ∀ (i : Nat) (m : ByteArray), i < j → l[i]? = some m → sizeH f m p < need
 | [], n, h => by simp [firstSize] at h
 | x :: r, n, h => by
   simp only [firstSize] at h
   split at h
   · simp only [Option.some.injEq] at h
     subst h
     exact ⟨0, rfl, by assumption, fun i m hi => by omega⟩
   · rename_i hx
     obtain ⟨j, h1, h2, h3⟩ := fs_some h
     refine ⟨j + 1, by simpa using h1, h2, fun i m hi hm => ?_⟩
     match i, hm with
     | 0, hm => simp at hm; subst hm; omega
     | i + 1, hm => exact h3 i m (by omega) (by simpa using hm)
theorem fs_none {f : Font} {p need : Int} : ∀ {l : List ByteArray}, firstSize f p need l = none → ∀ m ∈ l, sizeH f m p < need
 | [], _, m, hm => by cases hm
 | x :: r, h, m, hm => by
   simp only [firstSize] at h
   split at h
   · cases h
   · rcases List.mem_cons.1 hm with rfl | hm
     · omega
     · exact fs_none h m hm
theorem srch_ok (f : Font) (s : Stretch) (p need : Int) : ∀ k : Nat, 1000 - (k : Int) ≤ srch f s p need k ∧ srch f s p need k ≤ 1000 ∧ (∀ r : Int, 1000 - (k : Int) ≤ r → r < srch f s p need k → scale (tallI f s r) p < need) ∧ (srch f s p need k < 1000 → need ≤ scale (tallI f s (srch f s p need k)) p)
 | 0 => by simp [srch]; intro r h1 h2; omega
 | k + 1 => by
   obtain ⟨h1, h2, h3, h4⟩ := srch_ok f s p need k
   simp only [srch]
   split
   · rename_i h
     refine ⟨by push_cast; omega, by omega, fun r h5 h6 => by push_cast at h5; omega, fun _ => h⟩
   · rename_i h
     refine ⟨by push_cast; omega, h2, fun r h5 h6 => ?_, h4⟩
     by_cases e : r = 1000 - ((k : Int) + 1)
     · subst e; omega
     · exact h3 r (by push_cast at h5; omega) h6
theorem hasS_mem {x : ByteArray} : ∀ {l : List ByteArray}, x ∈ l → hasS x l = true
 | y :: r, h => by
   simp only [hasS]
   split
   · rfl
   · rename_i hne
     rcases List.mem_cons.1 h with rfl | h
     · exact absurd rfl hne
     · exact hasS_mem h
theorem mem_of_get {α : Type} {l : List α} {i : Nat} {x : α} (h : l[i]? = some x) : x ∈ l := List.mem_of_getElem? h
theorem choose_is {f : Font} (hv : f.valid = true) (name : ByteArray) (need p : Int) : isR f name (chooseI f name need p) = true := by
 cases hst : f.stretch name with
 | none =>
   have e : chooseI f name need p = ⟨name, 0⟩ := by unfold chooseI; rw [hst]
   rw [e]
   unfold isR
   rw [hst]
   simp
 | some s =>
   obtain ⟨g1, _⟩ := good_of hv (stretchO_mem hst).1
   cases hf : firstSize f p need s.sizes with
   | some n =>
     have e : chooseI f name need p = ⟨n, 0⟩ := by unfold chooseI; rw [hst]; simp only [chooseS]; rw [hf]
     obtain ⟨j, h1, _⟩ := fs_some hf
     rw [e]
     unfold isR
     rw [hst]
     simp only [if_true]
     exact hasS_mem (mem_of_get h1)
   | none =>
     by_cases hp : s.parts = []
     · have hlt : s.sizes.length - 1 < s.sizes.length := by omega
       have e : chooseI f name need p = ⟨s.sizes[s.sizes.length - 1], 0⟩ := by
        unfold chooseI
        rw [hst]
        simp only [chooseS]
        rw [hf]
        simp only [hp, if_true]
        rw [List.getD_eq_getElem?_getD, List.getElem?_eq_getElem hlt]
        rfl
       rw [e]
       unfold isR
       rw [hst]
       simp only [if_true]
       exact hasS_mem (List.getElem_mem hlt)
     · have e : chooseI f name need p = ⟨⟨#[]⟩, srch f s p need 999⟩ := by unfold chooseI; rw [hst]; simp only [chooseS]; rw [hf]; simp only [hp, if_false]
       obtain ⟨h1, h2, _⟩ := srch_ok f s p need 999
       have hl : 0 < s.parts.length := List.length_pos_iff.2 hp
       have h1' : 1 ≤ srch f s p need 999 := by omega
       have h0 : ¬ srch f s p need 999 = 0 := by omega
       rw [e]
       unfold isR
       rw [hst]
       simp [h0, hl, h1', h2]
def foundH (f : Font) (name : ByteArray) (need p : Int) : Int := heightI f name (chooseI f name need p) p
theorem find_height {f : Font} {p : Int} (hc : checkR f p = 0) (name : ByteArray) (need : Int) : (findR f name need p).2 = 0 ∧ (findR f name need p).1.h + (findR f name need p).1.d = foundH f name need p ∧ -2000000000 ≤ foundH f name need p ∧ foundH f name need p ≤ 2000000000 := by
 obtain ⟨hv, _, _⟩ := check_zero hc
 have e : findR f name need p = boxR f name (chooseI f name need p) p := by unfold findR; rw [if_neg (by simp [hc])]
 obtain ⟨h1, h2, h3⟩ := boxR_height f name (chooseI f name need p) p
 have he := boxR_err f name (chooseI f name need p) p
 rw [if_neg (by simp [hc]), if_neg (by simp [choose_is hv])] at h1 he
 rw [e]
 unfold foundH
 exact ⟨he, h1, by omega, by omega⟩
theorem covers {f : Font} (hv : f.valid = true) {name : ByteArray} {need p : Int} {s : Stretch} (hst : f.stretch name = some s) (h : foundH f name need p < need) : (∀ m ∈ s.sizes, sizeH f m p < need) ∧ (s.parts ≠ [] → scale (tallI f s 1000) p < need) := by
 unfold foundH chooseI at h
 rw [hst] at h
 simp only [chooseS] at h
 cases hf : firstSize f p need s.sizes with
 | some n =>
   rw [hf] at h
   obtain ⟨j, h1, h2, _⟩ := fs_some hf
   simp only [heightI, if_true] at h
   omega
 | none =>
   rw [hf] at h
   refine ⟨fs_none hf, fun hp => ?_⟩
   obtain ⟨h1, h2, h3, h4⟩ := srch_ok f s p need 999
   have h0 : ¬ srch f s p need 999 = 0 := by push_cast at h1; omega
   simp only [hp, if_false, heightI, h0, hst, Option.getD_some] at h
   by_cases e : srch f s p need 999 = 1000
   · rw [e] at h; exact h
   · have := h4 (by omega); omega
theorem grows {f : Font} (hv : f.valid = true) (name : ByteArray) {lo hi p : Int} (hle : lo ≤ hi) (h : hi ≤ foundH f name hi p) : foundH f name lo p ≤ foundH f name hi p := by
 unfold foundH chooseI at h ⊢
 cases hst : f.stretch name with
 | none => simp [heightI]
 | some s =>
   rw [hst] at h
   simp only [chooseS] at h ⊢
   have key : ∀ m ∈ s.sizes, firstSize f p hi s.sizes = none → sizeH f m p < hi := fun m hm hn => fs_none hn m hm
   cases hl : firstSize f p lo s.sizes with
   | some n =>
     obtain ⟨j, h1, h2, h3⟩ := fs_some hl
     simp only [heightI, if_true]
     cases hh : firstSize f p hi s.sizes with
     | some m =>
       obtain ⟨i, k1, k2, k3⟩ := fs_some hh
       simp only [if_true]
       rcases Nat.lt_trichotomy i j with hij | hij | hij
       · have := h3 i m hij k1; omega
       · subst hij; rw [h1] at k1; cases k1; omega
       · have := k3 j n hij h1; omega
     | none =>
       rw [hh] at h
       have h5 := key n (mem_of_get h1) hh
       simp only [heightI] at h ⊢
       omega
   | none =>
     have hh : firstSize f p hi s.sizes = none := by
      cases hh : firstSize f p hi s.sizes with
      | none => rfl
      | some m =>
        obtain ⟨i, k1, k2, k3⟩ := fs_some hh
        have := fs_none hl m (mem_of_get k1)
        omega
     rw [hh] at h ⊢
     by_cases hp : s.parts = []
     · simp [hp]
     · obtain ⟨a1, a2, a3, a4⟩ := srch_ok f s p lo 999
       obtain ⟨b1, b2, b3, b4⟩ := srch_ok f s p hi 999
       have h0 : ¬ srch f s p lo 999 = 0 := by push_cast at a1; omega
       have h0' : ¬ srch f s p hi 999 = 0 := by push_cast at b1; omega
       simp only [hp, if_false, heightI, h0, h0', hst, Option.getD_some] at h ⊢
       rcases Int.lt_trichotomy (srch f s p lo 999) (srch f s p hi 999) with e | e | e
       · have := b3 _ a1 e; omega
       · rw [e]; omega
       · have := a3 _ b1 e; omega
end Go.Proofs.YthbcljjpmdfflaaGreat
