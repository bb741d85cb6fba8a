/-
  variant.pieces$1: what the iterator yields.
-/
import Derived.Test.YthbcljjpmdfflaaG4
import Derived.Test.YthbcljjpmdfflaaVs
namespace Go.Proofs.Ythbcljjpmdfflaa
open Go.RowKit
set_option linter.unusedSimpArgs false
set_option linter.unusedVariables false
set_option maxRecDepth 100000

/-- the numbers of the parts, as often as each stands -/
def pcs (r : Int) (l : List Part) (i : Fin l.length) : List (Fin l.length) := List.replicate (times r l[i]).toNat i
def upto (r : Int) (l : List Part) (k : Nat) : List (Fin l.length) := ((List.finRange l.length).take k).flatMap (pcs r l)
def whole (r : Int) (l : List Part) : List (Fin l.length) := upto r l l.length
theorem upto_succ (r : Int) (l : List Part) (k : Nat) (h : k < l.length) : upto r l (k + 1) = upto r l k ++ pcs r l ⟨k, h⟩ := by
  unfold upto
  rw [List.take_succ_eq_append_getElem (by simpa using h), List.flatMap_append]
  simp
theorem upto_prefix (r : Int) (l : List Part) (k : Nat) (h : k ≤ l.length) : ∃ t, whole r l = upto r l k ++ t := by
  refine ⟨((List.finRange l.length).drop k).flatMap (pcs r l), ?_⟩
  unfold whole upto
  rw [← List.flatMap_append, List.take_append_drop, List.take_of_length_le (by simp)]
def encI (l : List Part) (i : Fin l.length) : Value := .int .i64 (i.val : Int)
def stO (y : Nat) (s : Stretch) (r : Int) (k : Nat) : List V := [.yl y, .cp s.row 0, .cp [.int .i64 r] 0, .any, .any, .any, .any, .cp s.row 2, .c (partsC s.parts), .c (.int .i64 s.parts.length), .c (.int .i64 k), .any, .any, .any, .any, .any, .any, .any, .any, .any, .any, .any, .any, .any, .any, .any, .any]
def stI (y : Nat) (s : Stretch) (r : Int) (k : Nat) (m : Int) (j : Nat) : List V := [.yl y, .cp s.row 0, .cp [.int .i64 r] 0, .any, .c (.int .i64 k), .any, .any, .cp s.row 2, .c (partsC s.parts), .c (.int .i64 s.parts.length), .c (.int .i64 k), .any, .any, .any, .any, .any, .any, .any, .c (.int .i64 m), .c (.int .i64 j), .any, .any, .any, .any, .any, .any, .any]

theorem pieces1_i (s : Stretch) (r : Int) (hp : s.parts.length ≤ 8) (hr1 : 1 ≤ r) (hr2 : r ≤ 1000) : ISeq Try.prog 147 [.cp s.row 0, .cp [.int .i64 r] 0] (fun y => #[encI s.parts y]) (fun xs => xs = whole r s.parts) (whole r s.parts).length := by
  refine ISeq.intro Try.func147 rfl rfl fun Y => ?_
  simp only [Try.ntmps147, List.length_cons, List.length_nil, Nat.reduceAdd, Nat.reduceSub, List.replicate_succ, List.replicate_zero, List.cons_append, List.nil_append]
  repeat (first
    | with_reducible refine IW.seq ?_
    | with_reducible refine IW.block ?_
    | with_reducible refine IW.skip ?_
    | with_reducible refine IW.ret ?_
    | with_reducible refine IW.exit ?_
    | with_reducible refine iThen_n ?_
    | with_reducible refine iThen_r ?_
    | with_reducible refine iThen_e ?_
    | with_reducible refine iBlk_n ?_
    | with_reducible refine iBlk_r ?_
    | with_reducible refine iBlk_hit ?_
    | with_reducible refine IL.nil ?_
    | ((with_reducible refine IW.region ?_); (with_reducible refine IL.run (by simp [List.replicate_succ, Stretch.row, partsC]; first | exact rfl | exact ⟨rfl, rfl⟩) ?_ ?_); (focus (first | exact rfl | decide)))
    | (with_reducible refine IW.cond (b := true) ?_ (fun _ => ?_) (fun e => nomatch e); (focus (simp [ev, Stretch.row, partsC]; done)))
    | (with_reducible refine IW.cond (b := false) ?_ (fun e => nomatch e) (fun _ => ?_); (focus (simp [ev, Stretch.row, partsC]; done))))
  refine IW.loop (ι := { k : Nat // k ≤ s.parts.length }) (fun k => (⟨upto r s.parts k.1, false⟩, ⟨stO Y.l s r k.1, []⟩)) (fun k => s.parts.length - k.1) ⟨0, by omega⟩ (by simp [upto]) ?_ ?_
  · refine LeS.drop (by simp [subT, stO, Stretch.row, partsC]) (by simp [V.bnds, V.bnd, stO])
  rintro ⟨k, hk⟩
  simp only [stO]
  by_cases hlt : k < s.parts.length
  · obtain ⟨q, hq⟩ : ∃ q, s.parts[k] = q := ⟨_, rfl⟩
    have hw : IntKind.i64.wrap ((k : Int) + 1) = ((k + 1 : Nat) : Int) := by rw [wrap_i64 (by omega) (by omega)]; simp
    cases hx : q.ext with
    | true =>
      have ht : times r q = r := by simp [times, hx]
      have hpc : pcs r s.parts ⟨k, hlt⟩ = List.replicate (r : Int).toNat ⟨k, hlt⟩ := by
        unfold pcs
        rw [show s.parts[(⟨k, hlt⟩ : Fin s.parts.length)] = q from hq, ht]
      repeat (first
        | with_reducible refine IW.seq ?_
        | with_reducible refine IW.block ?_
        | with_reducible refine IW.skip ?_
        | with_reducible refine IW.ret ?_
        | with_reducible refine IW.exit ?_
        | with_reducible refine iThen_n ?_
        | with_reducible refine iThen_r ?_
        | with_reducible refine iThen_e ?_
        | with_reducible refine iBlk_n ?_
        | with_reducible refine iBlk_r ?_
        | with_reducible refine iBlk_hit ?_
        | with_reducible refine IL.nil ?_
        | ((with_reducible refine IW.region ?_); (with_reducible refine IL.run (by simp [List.replicate_succ, hlt, hq, Stretch.row, partsC, Part.row, hx]; first | exact rfl | exact ⟨rfl, rfl⟩) ?_ ?_); (focus (first | exact rfl | decide)))
        | (with_reducible refine IW.cond (b := true) ?_ (fun _ => ?_) (fun e => nomatch e); (focus (simp [ev, hlt, hq, Stretch.row, partsC, Part.row, hx]; done)))
        | (with_reducible refine IW.cond (b := false) ?_ (fun e => nomatch e) (fun _ => ?_); (focus (simp [ev, hlt, hq, Stretch.row, partsC, Part.row, hx]; done))))
      refine IW.loop (ι := { j : Nat // (j : Int) ≤ r }) (fun j => (⟨upto r s.parts k ++ List.replicate j.1 ⟨k, hlt⟩, false⟩, ⟨stI Y.l s r k r j.1, []⟩)) (fun j => (r : Int).toNat - j.1) ⟨0, by simp only [Int.natCast_zero]; omega⟩ (by simp) ?_ ?_
      · refine LeS.drop (by simp [subT, stI, Stretch.row, partsC]) (by simp [V.bnds, V.bnd, stI])
      rintro ⟨j, hj⟩
      simp only [stI]
      by_cases hjl : (j : Int) < r
      · have hw2 : IntKind.i64.wrap ((j : Int) + 1) = ((j + 1 : Nat) : Int) := by rw [wrap_i64 (by omega) (by omega)]; simp
        repeat (first
          | with_reducible refine IW.seq ?_
          | with_reducible refine IW.block ?_
          | with_reducible refine IW.skip ?_
          | with_reducible refine IW.ret ?_
          | with_reducible refine IW.exit ?_
          | with_reducible refine iThen_n ?_
          | with_reducible refine iThen_r ?_
          | with_reducible refine iThen_e ?_
          | with_reducible refine iBlk_n ?_
          | with_reducible refine iBlk_r ?_
          | with_reducible refine iBlk_hit ?_
          | with_reducible refine IL.nil ?_
          | ((with_reducible refine IW.region ?_); (with_reducible refine IL.run (by simp [List.replicate_succ, hjl]; first | exact rfl | exact ⟨rfl, rfl⟩) ?_ ?_); (focus (first | exact rfl | decide)))
          | (with_reducible refine IW.cond (b := true) ?_ (fun _ => ?_) (fun e => nomatch e); (focus (simp [ev, hjl]; done)))
          | (with_reducible refine IW.cond (b := false) ?_ (fun e => nomatch e) (fun _ => ?_); (focus (simp [ev, hjl]; done))))
        refine IL.yield ⟨k, hlt⟩ (stI Y.l s r k r j) rfl rfl (by simp [ev]) (by first | (simp [ev]; exact ⟨rfl, rfl⟩) | (simp [ev]; done)) rfl ?_ (by simp [subT, stI]) (by simp [V.bnds, V.bnd, stI]) ?_ ?_
        · obtain ⟨t, ht2⟩ := upto_prefix r s.parts (k + 1) hlt
          rw [ht2, upto_succ r s.parts k hlt, hpc]
          simp only [List.length_append, List.length_replicate]
          omega
        · simp only [St.put, stI, List.set_cons_zero, List.set_cons_succ, List.length_cons, List.length_nil, Nat.reduceAdd, List.replicate_succ, List.replicate_zero]
          with_reducible refine IL.run (by simp [List.replicate_succ]; first | exact rfl | exact ⟨rfl, rfl⟩) ?_ ?_
          · first | exact rfl | decide
          repeat (first
            | with_reducible refine IW.seq ?_
            | with_reducible refine IW.block ?_
            | with_reducible refine IW.skip ?_
            | with_reducible refine IW.ret ?_
            | with_reducible refine IW.exit ?_
            | with_reducible refine iThen_n ?_
            | with_reducible refine iThen_r ?_
            | with_reducible refine iThen_e ?_
            | with_reducible refine iBlk_n ?_
            | with_reducible refine iBlk_r ?_
            | with_reducible refine iBlk_hit ?_
            | with_reducible refine IL.nil ?_
            | ((with_reducible refine IW.region ?_); (with_reducible refine IL.run (by simp [List.replicate_succ, hw2]; first | exact rfl | exact ⟨rfl, rfl⟩) ?_ ?_); (focus (first | exact rfl | decide)))
            | (with_reducible refine IW.cond (b := true) ?_ (fun _ => ?_) (fun e => nomatch e); (focus (simp [ev, hw2]; done)))
            | (with_reducible refine IW.cond (b := false) ?_ (fun e => nomatch e) (fun _ => ?_); (focus (simp [ev, hw2]; done))))
          refine ⟨⟨j + 1, by omega⟩, by simp only; omega, ?_, ?_⟩
          · simp [List.replicate_succ', List.append_assoc]
          · exact LeS.drop (by simp [subT]) (by simp [V.bnds, V.bnd])
        · simp only [St.put, stI, List.set_cons_zero, List.set_cons_succ, List.length_cons, List.length_nil, Nat.reduceAdd, List.replicate_succ, List.replicate_zero]
          with_reducible refine IL.run (by simp [List.replicate_succ]; first | exact rfl | exact ⟨rfl, rfl⟩) ?_ ?_
          · first | exact rfl | decide
          repeat (first
            | with_reducible refine IW.seq ?_
            | with_reducible refine IW.block ?_
            | with_reducible refine IW.skip ?_
            | with_reducible refine IW.ret ?_
            | with_reducible refine IW.exit ?_
            | with_reducible refine iThen_n ?_
            | with_reducible refine iThen_r ?_
            | with_reducible refine iThen_e ?_
            | with_reducible refine iBlk_n ?_
            | with_reducible refine iBlk_r ?_
            | with_reducible refine iBlk_hit ?_
            | with_reducible refine IL.nil ?_
            | ((with_reducible refine IW.region ?_); (with_reducible refine IL.run (by simp [List.replicate_succ]; first | exact rfl | exact ⟨rfl, rfl⟩) ?_ ?_); (focus (first | exact rfl | decide)))
            | (with_reducible refine IW.cond (b := true) ?_ (fun _ => ?_) (fun e => nomatch e); (focus (simp [ev]; done)))
            | (with_reducible refine IW.cond (b := false) ?_ (fun e => nomatch e) (fun _ => ?_); (focus (simp [ev]; done))))
          exact ⟨.inr rfl, fun h => nomatch h⟩
      · have hjm : j = (r : Int).toNat := by omega
        repeat (first
          | with_reducible refine IW.seq ?_
          | with_reducible refine IW.block ?_
          | with_reducible refine IW.skip ?_
          | with_reducible refine IW.ret ?_
          | with_reducible refine IW.exit ?_
          | with_reducible refine iThen_n ?_
          | with_reducible refine iThen_r ?_
          | with_reducible refine iThen_e ?_
          | with_reducible refine iBlk_n ?_
          | with_reducible refine iBlk_r ?_
          | with_reducible refine iBlk_hit ?_
          | with_reducible refine IL.nil ?_
          | ((with_reducible refine IW.region ?_); (with_reducible refine IL.run (by simp [List.replicate_succ, hjl, hw]; first | exact rfl | exact ⟨rfl, rfl⟩) ?_ ?_); (focus (first | exact rfl | decide)))
          | (with_reducible refine IW.cond (b := true) ?_ (fun _ => ?_) (fun e => nomatch e); (focus (simp [ev, hjl, hw]; done)))
          | (with_reducible refine IW.cond (b := false) ?_ (fun e => nomatch e) (fun _ => ?_); (focus (simp [ev, hjl, hw]; done))))
        refine ⟨⟨k + 1, hlt⟩, by simp only; omega, ?_, ?_⟩
        · simp only [upto_succ r s.parts k hlt, hpc, hjm]
        · exact LeS.drop (by simp [subT]) (by simp [V.bnds, V.bnd])
    | false =>
      have ht : times r q = 1 := by simp [times, hx]
      have hpc : pcs r s.parts ⟨k, hlt⟩ = List.replicate (1 : Int).toNat ⟨k, hlt⟩ := by
        unfold pcs
        rw [show s.parts[(⟨k, hlt⟩ : Fin s.parts.length)] = q from hq, ht]
      repeat (first
        | with_reducible refine IW.seq ?_
        | with_reducible refine IW.block ?_
        | with_reducible refine IW.skip ?_
        | with_reducible refine IW.ret ?_
        | with_reducible refine IW.exit ?_
        | with_reducible refine iThen_n ?_
        | with_reducible refine iThen_r ?_
        | with_reducible refine iThen_e ?_
        | with_reducible refine iBlk_n ?_
        | with_reducible refine iBlk_r ?_
        | with_reducible refine iBlk_hit ?_
        | with_reducible refine IL.nil ?_
        | ((with_reducible refine IW.region ?_); (with_reducible refine IL.run (by simp [List.replicate_succ, hlt, hq, Stretch.row, partsC, Part.row, hx]; first | exact rfl | exact ⟨rfl, rfl⟩) ?_ ?_); (focus (first | exact rfl | decide)))
        | (with_reducible refine IW.cond (b := true) ?_ (fun _ => ?_) (fun e => nomatch e); (focus (simp [ev, hlt, hq, Stretch.row, partsC, Part.row, hx]; done)))
        | (with_reducible refine IW.cond (b := false) ?_ (fun e => nomatch e) (fun _ => ?_); (focus (simp [ev, hlt, hq, Stretch.row, partsC, Part.row, hx]; done))))
      refine IW.loop (ι := { j : Nat // (j : Int) ≤ 1 }) (fun j => (⟨upto r s.parts k ++ List.replicate j.1 ⟨k, hlt⟩, false⟩, ⟨stI Y.l s r k 1 j.1, []⟩)) (fun j => (1 : Int).toNat - j.1) ⟨0, by simp only [Int.natCast_zero]; omega⟩ (by simp) ?_ ?_
      · refine LeS.drop (by simp [subT, stI, Stretch.row, partsC]) (by simp [V.bnds, V.bnd, stI])
      rintro ⟨j, hj⟩
      simp only [stI]
      by_cases hjl : (j : Int) < 1
      · have hw2 : IntKind.i64.wrap ((j : Int) + 1) = ((j + 1 : Nat) : Int) := by rw [wrap_i64 (by omega) (by omega)]; simp
        repeat (first
          | with_reducible refine IW.seq ?_
          | with_reducible refine IW.block ?_
          | with_reducible refine IW.skip ?_
          | with_reducible refine IW.ret ?_
          | with_reducible refine IW.exit ?_
          | with_reducible refine iThen_n ?_
          | with_reducible refine iThen_r ?_
          | with_reducible refine iThen_e ?_
          | with_reducible refine iBlk_n ?_
          | with_reducible refine iBlk_r ?_
          | with_reducible refine iBlk_hit ?_
          | with_reducible refine IL.nil ?_
          | ((with_reducible refine IW.region ?_); (with_reducible refine IL.run (by simp [List.replicate_succ, hjl]; first | exact rfl | exact ⟨rfl, rfl⟩) ?_ ?_); (focus (first | exact rfl | decide)))
          | (with_reducible refine IW.cond (b := true) ?_ (fun _ => ?_) (fun e => nomatch e); (focus (simp [ev, hjl]; done)))
          | (with_reducible refine IW.cond (b := false) ?_ (fun e => nomatch e) (fun _ => ?_); (focus (simp [ev, hjl]; done))))
        refine IL.yield ⟨k, hlt⟩ (stI Y.l s r k 1 j) rfl rfl (by simp [ev]) (by first | (simp [ev]; exact ⟨rfl, rfl⟩) | (simp [ev]; done)) rfl ?_ (by simp [subT, stI]) (by simp [V.bnds, V.bnd, stI]) ?_ ?_
        · obtain ⟨t, ht2⟩ := upto_prefix r s.parts (k + 1) hlt
          rw [ht2, upto_succ r s.parts k hlt, hpc]
          simp only [List.length_append, List.length_replicate]
          omega
        · simp only [St.put, stI, List.set_cons_zero, List.set_cons_succ, List.length_cons, List.length_nil, Nat.reduceAdd, List.replicate_succ, List.replicate_zero]
          with_reducible refine IL.run (by simp [List.replicate_succ]; first | exact rfl | exact ⟨rfl, rfl⟩) ?_ ?_
          · first | exact rfl | decide
          repeat (first
            | with_reducible refine IW.seq ?_
            | with_reducible refine IW.block ?_
            | with_reducible refine IW.skip ?_
            | with_reducible refine IW.ret ?_
            | with_reducible refine IW.exit ?_
            | with_reducible refine iThen_n ?_
            | with_reducible refine iThen_r ?_
            | with_reducible refine iThen_e ?_
            | with_reducible refine iBlk_n ?_
            | with_reducible refine iBlk_r ?_
            | with_reducible refine iBlk_hit ?_
            | with_reducible refine IL.nil ?_
            | ((with_reducible refine IW.region ?_); (with_reducible refine IL.run (by simp [List.replicate_succ, hw2]; first | exact rfl | exact ⟨rfl, rfl⟩) ?_ ?_); (focus (first | exact rfl | decide)))
            | (with_reducible refine IW.cond (b := true) ?_ (fun _ => ?_) (fun e => nomatch e); (focus (simp [ev, hw2]; done)))
            | (with_reducible refine IW.cond (b := false) ?_ (fun e => nomatch e) (fun _ => ?_); (focus (simp [ev, hw2]; done))))
          refine ⟨⟨j + 1, by omega⟩, by simp only; omega, ?_, ?_⟩
          · simp [List.replicate_succ', List.append_assoc]
          · exact LeS.drop (by simp [subT]) (by simp [V.bnds, V.bnd])
        · simp only [St.put, stI, List.set_cons_zero, List.set_cons_succ, List.length_cons, List.length_nil, Nat.reduceAdd, List.replicate_succ, List.replicate_zero]
          with_reducible refine IL.run (by simp [List.replicate_succ]; first | exact rfl | exact ⟨rfl, rfl⟩) ?_ ?_
          · first | exact rfl | decide
          repeat (first
            | with_reducible refine IW.seq ?_
            | with_reducible refine IW.block ?_
            | with_reducible refine IW.skip ?_
            | with_reducible refine IW.ret ?_
            | with_reducible refine IW.exit ?_
            | with_reducible refine iThen_n ?_
            | with_reducible refine iThen_r ?_
            | with_reducible refine iThen_e ?_
            | with_reducible refine iBlk_n ?_
            | with_reducible refine iBlk_r ?_
            | with_reducible refine iBlk_hit ?_
            | with_reducible refine IL.nil ?_
            | ((with_reducible refine IW.region ?_); (with_reducible refine IL.run (by simp [List.replicate_succ]; first | exact rfl | exact ⟨rfl, rfl⟩) ?_ ?_); (focus (first | exact rfl | decide)))
            | (with_reducible refine IW.cond (b := true) ?_ (fun _ => ?_) (fun e => nomatch e); (focus (simp [ev]; done)))
            | (with_reducible refine IW.cond (b := false) ?_ (fun e => nomatch e) (fun _ => ?_); (focus (simp [ev]; done))))
          exact ⟨.inr rfl, fun h => nomatch h⟩
      · have hjm : j = (1 : Int).toNat := by omega
        repeat (first
          | with_reducible refine IW.seq ?_
          | with_reducible refine IW.block ?_
          | with_reducible refine IW.skip ?_
          | with_reducible refine IW.ret ?_
          | with_reducible refine IW.exit ?_
          | with_reducible refine iThen_n ?_
          | with_reducible refine iThen_r ?_
          | with_reducible refine iThen_e ?_
          | with_reducible refine iBlk_n ?_
          | with_reducible refine iBlk_r ?_
          | with_reducible refine iBlk_hit ?_
          | with_reducible refine IL.nil ?_
          | ((with_reducible refine IW.region ?_); (with_reducible refine IL.run (by simp [List.replicate_succ, hjl, hw]; first | exact rfl | exact ⟨rfl, rfl⟩) ?_ ?_); (focus (first | exact rfl | decide)))
          | (with_reducible refine IW.cond (b := true) ?_ (fun _ => ?_) (fun e => nomatch e); (focus (simp [ev, hjl, hw]; done)))
          | (with_reducible refine IW.cond (b := false) ?_ (fun e => nomatch e) (fun _ => ?_); (focus (simp [ev, hjl, hw]; done))))
        refine ⟨⟨k + 1, hlt⟩, by simp only; omega, ?_, ?_⟩
        · simp only [upto_succ r s.parts k hlt, hpc, hjm]
        · exact LeS.drop (by simp [subT]) (by simp [V.bnds, V.bnd])
  · repeat (first
      | with_reducible refine IW.seq ?_
      | with_reducible refine IW.block ?_
      | with_reducible refine IW.skip ?_
      | with_reducible refine IW.ret ?_
      | with_reducible refine IW.exit ?_
      | with_reducible refine iThen_n ?_
      | with_reducible refine iThen_r ?_
      | with_reducible refine iThen_e ?_
      | with_reducible refine iBlk_n ?_
      | with_reducible refine iBlk_r ?_
      | with_reducible refine iBlk_hit ?_
      | with_reducible refine IL.nil ?_
      | ((with_reducible refine IW.region ?_); (with_reducible refine IL.run (by simp [List.replicate_succ, hlt]; first | exact rfl | exact ⟨rfl, rfl⟩) ?_ ?_); (focus (first | exact rfl | decide)))
      | (with_reducible refine IW.cond (b := true) ?_ (fun _ => ?_) (fun e => nomatch e); (focus (simp [ev, hlt]; done)))
      | (with_reducible refine IW.cond (b := false) ?_ (fun e => nomatch e) (fun _ => ?_); (focus (simp [ev, hlt]; done))))
    have hkl : k = s.parts.length := by omega
    subst hkl
    exact ⟨.inl rfl, fun _ => rfl⟩
end Go.Proofs.Ythbcljjpmdfflaa
