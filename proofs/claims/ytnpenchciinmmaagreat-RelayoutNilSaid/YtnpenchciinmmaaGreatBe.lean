/-
  deep.Box on the abstract machine: a round with kids.
-/
import Derived.Test.YtnpenchciinmmaaGreatBd
namespace Go.Proofs.YtnpenchciinmmaaGreat
open Go.RowKit
set_option linter.unusedSimpArgs false
set_option linter.unusedVariables false
set_option maxRecDepth 100000

theorem deep_node {K : Exit → St → Prop} (H : List O) (n k off : Nat) (ty : TypeId) (cs : List V) (src : List Int) (rows : List (List C)) (st : List V) (j : Nat) (hst : st.length = n) (h2 : H[2]? = some (stk (st ++ [.ptr k off]) j)) (hk : H[k]? = some (.box ty cs false)) (hk2 : k ≠ 2) (hn : n < 1000000) (hs : src.length ≤ 1000000) (hc8 : cs[off + 8]? = some (.c (.sl rows))) (hc10 : cs[off + 10]? = some (.c (intsC src)))
    (hr0 : 0 < rows.length) (hr1 : rows.length ≤ 1000000) (hrr : ∀ r ∈ rows, r.length = 11)
    (hSf : Sfo H) (hsf : V.sfs H.length st = true) (hb : n + rows.length < 1000000)
    (hK : ∀ j', LA ⟨none, 0⟩ Tryz.prog deepBody K ⟨(TI n rows.length rows.length k off).set 58 (.c (.bool false)), (H.set k (O.box ty (cs.set (off + 8) (.own H.length 0 rows.length 11)) false) ++ [O.box 36 (rows.flatten.map V.c) false]).set 2 (stk (st ++ ptrs H.length rows.length) j')⟩) :
    AW ⟨none, 0⟩ Tryz.prog deepBody (aThen (LA ⟨none, 0⟩ Tryz.prog deepBody K) K) ⟨dT (n + 1), H⟩ := by
  have hp : (st ++ [V.ptr k off] ++ List.replicate j .any)[n]? = some (.ptr k off) := by rw [List.append_assoc, List.getElem?_append_right (by omega), hst]; simp
  obtain ⟨cs2, hcs2⟩ : ∃ cs2, cs2 = st ++ [V.ptr k off] ++ List.replicate j .any := ⟨_, rfl⟩
  unfold stk at h2
  rw [← hcs2] at hp h2
  have hkl : k < H.length := (List.getElem?_eq_some_iff.1 hk).1
  have h2l : 2 < H.length := (List.getElem?_eq_some_iff.1 h2).1
  have hw : IntKind.i64.wrap (n : Int) = (n : Int) := wrap_i64 (by omega) (by omega)
  have ho8 : off + 8 < cs.length := (List.getElem?_eq_some_iff.1 hc8).1
  have ho10 : off + 10 < cs.length := (List.getElem?_eq_some_iff.1 hc10).1
  have hkg : H[k]'hkl = .box ty cs false := (List.getElem?_eq_some_iff.1 hk).2
  have ho10' : off + 10 + 1 ≤ cs.length := ho10
  have ho8' : off + 8 + 1 ≤ cs.length := ho8
  have hset : cs.set (off + 10) (.c (intsC src)) = cs := set_same hc10
  have hHset : H.set k (.box ty cs false) = H := set_same hk
  have hH1 : (H.set k (.box ty (cs.set (off + 8) (.full [])) false))[k]? = some (.box ty (cs.set (off + 8) (.full [])) false) := by rw [List.getElem?_set_self hkl]
  have hc8' : (cs.set (off + 8) (.full []))[off + 8]? = some (.full []) := by rw [List.getElem?_set_self ho8]
  conv => arg 3; unfold deepBody
  simp only [codeOf, Tryz.f22, dT, List.replicate_succ, List.replicate_zero, List.cons_append, List.nil_append]
  have hlt : (0 : Int) < (n : Int) + 1 := by omega
  have hnn : (n : Int) < (n : Int) + 1 := by omega
  refine go (cj @hw <| cj @h2 <| cj @hp <| cj @hn <| cj @hlt <| @hnn) ?_
  with_reducible refine AW.regionS ?_
  refine SW.take 4 ?_
  with_reducible refine aops_run (by simp [List.replicate_succ, hw]; first | exact rfl | exact ⟨rfl, rfl⟩) ?_
  refine aops_done ?_
  simp only [List.drop_succ_cons, List.drop_zero]
  refine SW.opX (fun v t => t = none ∧ v = .own 2 0 n 1) (by simp [gate]) ?_ ?_
  · intro S0 w0 x a w g ht hkk
    exact ⟨_, _, fun _ _ h => (by cases h), ⟨rfl, rfl⟩, ok_slice_own (P := Tryz.prog) (n := n) (len := n + 1) g rfl (by simp; exact ⟨rfl, rfl⟩) (eval_of ht rfl) (eval_of ht rfl) (by omega)⟩
  rintro v t ⟨rfl, rfl⟩
  refine SW.take 1 ?_
  with_reducible refine aops_run (by simp [List.replicate_succ]; first | exact rfl | exact ⟨rfl, rfl⟩) ?_
  refine aops_done ?_
  simp only [List.drop_succ_cons, List.drop_zero]
  refine SW.nil ?_
  refine go (cj @hk <| cj @hc8 <| @hc10) ?_
  refine gc (cj @hkg <| cj @hkl <| cj @ho10' <| cj @hset <| @hHset) (clone_a src hs) Tryz.func37 ?_
  have hr0' : (0 : Int) < (rows.length : Int) := by omega
  have hr1' : 128 * (rows.length : Int) ≤ 281474976710656 := by omega
  have hr2' : (rows.length : Int) ≤ 9223372036854775807 := by omega
  refine go (cj @hkg <| cj @hkl <| cj @ho8' <| cj @hr0 <| @hr0') ?_
  with_reducible refine AW.regionS ?_
  refine SW.take 4 ?_
  with_reducible refine aops_run (by simp [List.replicate_succ, hr1', hr2']; first | exact rfl | exact ⟨rfl, rfl⟩) ?_
  refine aops_done ?_
  simp only [List.drop_succ_cons, List.drop_zero]
  have hite : ∀ a b : List O, (if k < H.length + 1 then a else b) = a := fun a b => if_pos (by omega)
  have hget : ∀ (o : O) (X : O), (H.set k o ++ [X])[k]? = some o := fun o X => by rw [List.getElem?_append_left (by simpa using hkl), List.getElem?_set_self hkl]
  have hsetk : ∀ (o o' : O) (X : O), (H.set k o ++ [X]).set k o' = H.set k o' ++ [X] := fun o o' X => by rw [List.set_append_left _ _ (by simpa using hkl), List.set_set]
  have hss : ∀ a b : V, (cs.set (off + 8) a).set (off + 8) b = cs.set (off + 8) b := fun a b => List.set_set ..
  refine SW.take 3 ?_
  with_reducible refine aops_run (by simp [List.replicate_succ, hite, hget, hsetk, hss, ho8']; first | exact rfl | exact ⟨rfl, rfl⟩) ?_
  refine aops_done ?_
  simp only [List.drop_succ_cons, List.drop_zero]
  refine SW.nil ?_
  obtain ⟨Z, hZ⟩ : ∃ Z : List V, Z = (List.replicate rows.length [V.c (C.int IntKind.i64 0), V.c (C.str { data := #[] }), V.c (C.int IntKind.i64 0), V.c (C.int IntKind.i64 0), V.c (C.int IntKind.i64 0), V.c (C.int IntKind.i64 0), V.c (C.int IntKind.i64 0), V.c (C.int IntKind.i64 0), V.full [], V.c (C.int IntKind.i64 0), V.full []]).flatten := ⟨_, rfl⟩
  rw [← hZ]
  have hZl : Z.length = rows.length * 11 := by rw [hZ]; simp [List.length_flatten]
  have hc3 : (cs.set (off + 8) (.own H.length 0 rows.length 11))[off + 8]? = some (.own H.length 0 rows.length 11) := by rw [List.getElem?_set_self ho8]
  refine go0 ?_
  with_reducible refine AW.regionS ?_
  refine SW.take 5 ?_
  with_reducible refine aops_run (by simp [List.replicate_succ, hget, hc3]; first | exact rfl | exact ⟨rfl, rfl⟩) ?_
  refine aops_done ?_
  simp only [List.drop_succ_cons, List.drop_zero]
  obtain ⟨H3, hH3⟩ : ∃ H3, H3 = H.set k (O.box ty (cs.set (off + 8) (.own H.length 0 rows.length 11)) false) ++ [O.box 36 Z false] := ⟨_, rfl⟩
  rw [← hH3]
  have h3L : H3[H.length]? = some (.box 36 Z false) := by rw [hH3, List.getElem?_append_right (by simp)]; simp
  have h3l : H3.length = H.length + 1 := by rw [hH3]; simp
  refine SW.opX (fun v t => v = .c (.int .i64 rows.length) ∧ t = some (H.length, .box 36 (rows.flatten.map V.c) false)) (by simp [gate]) ?_ ?_
  · intro S0 w0 x a w g ht hkk
    exact ⟨_, _, fun _ _ h => (by cases h; show H.length ≤ H3.length; omega), ⟨rfl, rfl⟩, ok_copy_own (P := Tryz.prog) (by_ := 128) (es := 11) g rfl (by simp; exact rfl) (eval_of ht (i := 49) rfl) (eval_c ht (i := 50) rfl) hrr h3L hZl⟩
  rintro v t ⟨rfl, rfl⟩
  have hu : updH H3 (some (H.length, .box 36 (rows.flatten.map V.c) false)) = H.set k (O.box ty (cs.set (off + 8) (.own H.length 0 rows.length 11)) false) ++ [O.box 36 (rows.flatten.map V.c) false] := by
    simp only [updH]
    rw [if_pos (by omega), hH3, List.set_append_right _ _ (by simp)]
    simp
  simp only [St.step, St.put, hu, List.set_cons_succ, List.set_cons_zero]
  refine SW.nil ?_
  obtain ⟨D, hD⟩ : ∃ D, D = rows.flatten.map V.c := ⟨_, rfl⟩
  have hDs : V.sfs H.length D = true := by rw [hD]; exact sfs_c _
  rw [← hD] at hK ⊢
  refine go (cj @hget <| @hc3) ?_
  obtain ⟨H4, hH4⟩ : ∃ H4, H4 = H.set k (O.box ty (cs.set (off + 8) (.own H.length 0 rows.length 11)) false) ++ [O.box 36 D false] := ⟨_, rfl⟩
  rw [← hH4] at hK ⊢
  have e4 : H4 = (H ++ [O.box 36 D false]).set k (O.box ty (cs.set (off + 8) (.own H.length 0 rows.length 11)) false) := by rw [hH4, List.set_append_left _ _ hkl]
  have l4 : H4.length = H.length + 1 := by rw [hH4]; simp
  obtain ⟨_, _, _, hob, hcsf⟩ := hSf k _ hk2 hk
  cases hob
  have s4 : Sfo H4 := by
    rw [e4]
    refine Sfo.set (Sfo.push hSf hDs) (sfs_set ?_ ?_)
    · exact (sfs_bnd (by simp) cs hcsf).2
    · simp [V.sf]; omega
  have k4 : H4[k]? = some (.box ty (cs.set (off + 8) (.own H.length 0 rows.length 11)) false) := by rw [hH4]; exact hget _ _
  have g4 : H4[2]? = some (.box 97 cs2 false) := by rw [e4, List.getElem?_set_ne hk2, List.getElem?_append_left h2l]; exact h2
  have sf4 : V.sfs H4.length st = true := (sfs_bnd (by omega) st hsf).2
  refine AW.le (s' := ⟨TI n rows.length 0 k off, H4.set 2 (stk st (j + 1))⟩) ?_ ?_
  · refine Le.stk 2 (.inl rfl) ?_ ⟨_, _, g4, List.getElem?_set_self (by omega), ?_⟩ (fun a o' ha ho => ?_)
    · rw [List.length_set]
      simp [Wks, Wk, V.ren, V.bnd, TI, rho, hk2, l4]
      omega
    · rw [List.length_set, hcs2, List.append_assoc]
      exact ⟨rfl, rfl, Wks.append (Wks_sf sf4 (Nat.le_refl _)) (by have := Wks.any (ρ := rho 2) (N := H4.length) ([V.ptr k off] ++ List.replicate j .any); simpa [Nat.add_comm] using this)⟩
    · rw [List.getElem?_set_ne (fun e => ha e.symm)] at ho
      exact ⟨o', ho, by rw [List.length_set]; exact Wo_sf (s4 a o' ha ho) (Nat.le_refl _)⟩
  · refine deep_push (H4.set 2 (stk st (j + 1))) n k off H.length rows.length (j + 1) ty (cs.set (off + 8) (.own H.length 0 rows.length 11)) st (List.getElem?_set_self (by omega)) hst (by rw [List.getElem?_set_ne (fun e => hk2 e.symm)]; exact k4) hk2 hc3 (by rw [List.length_set]; omega) (by omega) ?_ (by rw [List.length_set]; exact sf4) hb (fun j' => ?_)
    · intro a o ha ho
      rw [List.getElem?_set_ne (fun e => ha e.symm)] at ho
      rw [List.length_set]
      exact s4 a o ha ho
    · rw [List.set_set]
      with_reducible refine aBlk_hit ?_
      refine go0 ?_
      exact hK j'
end Go.Proofs.YtnpenchciinmmaaGreat
