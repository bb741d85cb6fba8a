/-
  deep.Node on the abstract machine: a round without kids, the loop over the kids (printed by mkdn.py).
-/
import Derived.Test.YtnpenchciinmmaaGreatBb
import Derived.Test.YtnpenchciinmmaaGreatPb
namespace Go.Proofs.YtnpenchciinmmaaGreat
namespace DN
open Go.RowKit
set_option linter.unusedSimpArgs false
set_option linter.unusedVariables false
set_option maxRecDepth 100000

theorem set_same {α : Type} {l : List α} {i : Nat} {v : α} (h : l[i]? = some v) : l.set i v = l := by
  apply List.ext_getElem?
  intro j
  rw [List.getElem?_set]
  by_cases e : i = j
  · subst e
    have hl := (List.getElem?_eq_some_iff.1 h).1
    simp only [if_true, hl]
    exact h.symm
  · simp [e]
/-- the code of a loop in such a place -/
def codeOf : Option Code → Code
  | some (.seq _ (.seq _ (.seq (.loop c) _))) => c
  | some (.seq _ (.seq _ (.seq (.block _ (.loop c)) _))) => c
  | some (.seq _ (.seq _ (.seq c _))) => c
  | _ => .skip
def stk (st : List V) (j : Nat) : O := .box 95 (st ++ List.replicate j .any) false
def dT (n : Nat) : List V := [.any, .ptr 0 0, .ptr 1 0, .own 2 0 n 1] ++ List.replicate 59 .any
def dS (h : List O) (st : List V) (j : Nat) : St := ⟨dT st.length, h.set 2 (stk st j)⟩

noncomputable def deepBody : Code := codeOf (Tryz.f21).body
noncomputable def deepIn : Code := match deepBody with
  | .seq _ (.block _ (.seq _ (.seq _ (.seq _ (.seq _ (.seq _ (.seq _ (.seq _ (.block _ (.loop c)))))))))) => c
  | _ => .skip

/-- a round, up to the loop over the kids: without kids -/
theorem deep_leaf {K : Exit → St → Prop} (H : List O) (n k off : Nat) (ty : TypeId) (cs cs2 : List V) (h2 : H[2]? = some (.box 95 cs2 false)) (hk : H[k]? = some (.box ty cs false)) (hk2 : k ≠ 2) (hp : cs2[n]? = some (.ptr k off)) (hn : n < 1000000) (hc8 : cs[off + 3]? = some (.c (.sl [])))
    (hK : ∀ t, t.length = 63 → t.take 4 = [.any, .ptr 0 0, .ptr 1 0, .own 2 0 n 1] → LA ⟨none, 0⟩ Tryz.prog deepBody K ⟨t, H.set k (.box ty (cs.set (off + 3) (.full [])) false)⟩) :
    AW ⟨none, 0⟩ Tryz.prog deepBody (aThen (LA ⟨none, 0⟩ Tryz.prog deepBody K) K) ⟨dT (n + 1), H⟩ := by
  have hkl : k < H.length := (List.getElem?_eq_some_iff.1 hk).1
  have h2l : 2 < H.length := (List.getElem?_eq_some_iff.1 h2).1
  have hw : IntKind.i64.wrap (n : Int) = (n : Int) := wrap_i64 (by omega) (by omega)
  have ho8 : off + 3 < cs.length := (List.getElem?_eq_some_iff.1 hc8).1
  have hkg : H[k]'hkl = .box ty cs false := (List.getElem?_eq_some_iff.1 hk).2
  have ho8' : off + 3 + 1 ≤ cs.length := ho8
  have hH1 : (H.set k (.box ty (cs.set (off + 3) (.full [])) false))[k]? = some (.box ty (cs.set (off + 3) (.full [])) false) := by rw [List.getElem?_set_self hkl]
  have hc8' : (cs.set (off + 3) (.full []))[off + 3]? = some (.full []) := by rw [List.getElem?_set_self ho8]
  conv => arg 3; unfold deepBody
  simp only [codeOf, Tryz.f21, dT, List.replicate_succ, List.replicate_zero, List.cons_append, List.nil_append]
  have hlt : (0 : Int) < (n : Int) + 1 := by omega
  have hnn : (n : Int) < (n : Int) + 1 := by omega
  refine go (cj @hw <| cj @h2 <| cj @hp <| cj @hn <| cj @hlt <| @hnn) ?_
  with_reducible refine AW.regionS ?_
  refine SW.take 4 ?_
  with_reducible refine aops_run (by simp [List.replicate_succ, hw]; first | exact rfl | exact ⟨rfl, rfl⟩) ?_
  refine aops_done ?_
  simp only [List.drop_succ_cons, List.drop_zero]
  refine SW.opX (fun v t => t = none ∧ v = .own 2 0 n 1) (by simp [gate]) ?_ ?_
  · intro S0 w0 x a w g ht hkk
    exact ⟨_, _, fun _ _ h => (by cases h), ⟨rfl, rfl⟩, ok_slice_own (P := Tryz.prog) (n := n) (len := n + 1) g rfl (by simp; exact ⟨rfl, rfl⟩) (eval_of ht rfl) (eval_of ht rfl) (by omega)⟩
  rintro v t ⟨rfl, rfl⟩
  refine SW.take 1 ?_
  with_reducible refine aops_run (by simp [List.replicate_succ]; first | exact rfl | exact ⟨rfl, rfl⟩) ?_
  refine aops_done ?_
  simp only [List.drop_succ_cons, List.drop_zero]
  refine SW.nil ?_
  refine go (cj @hk <| @hc8) ?_
  refine go (cj @hkg <| cj @hkl <| @ho8') ?_
  with_reducible refine AW.regionS ?_
  refine SW.take 5 ?_
  with_reducible refine aops_run (by simp [List.replicate_succ, hH1, hc8']; first | exact rfl | exact ⟨rfl, rfl⟩) ?_
  refine aops_done ?_
  simp only [List.drop_succ_cons, List.drop_zero]
  refine SW.opX (fun v t => t = none ∧ v = .c (.int .i64 0)) (by simp [gate]) ?_ ?_
  · intro S0 w0 x a w g ht hkk
    exact ⟨_, _, fun _ _ h => (by cases h), ⟨rfl, rfl⟩, ok_copy_none (P := Tryz.prog) g rfl (by simp; exact ⟨rfl, rfl, rfl⟩) (by have := eval_of (v := .full []) ht (i := 41) rfl; simp only [CV] at this; obtain ⟨_, _, h⟩ := this; exact h) (eval_c ht rfl)⟩
  rintro v t ⟨rfl, rfl⟩
  refine SW.nil ?_
  refine go (cj @hH1 <| @hc8') ?_
  with_reducible refine LA.loop ?_
  with_reducible refine LA.round ?_
  refine go0 ?_
  exact hK _ rfl rfl

def TI (n m i k off : Nat) : List V := [.any, .ptr 0 0, .ptr 1 0, .own 2 0 (n + i) 1, .ptr k off] ++ List.replicate 43 .any ++ [.c (.int .i64 (m : Int)), .c (.int .i64 (i : Int))] ++ List.replicate 13 .any
def ptrs (L m : Nat) : List V := (List.range m).map fun i => .ptr L (i * 4)
theorem ptrs_succ (L m : Nat) : ptrs L (m + 1) = ptrs L m ++ [.ptr L (m * 4)] := by simp [ptrs, List.range_succ]
theorem ptrs_len (L m : Nat) : (ptrs L m).length = m := by simp [ptrs]
theorem ptrs_sf {L N : Nat} (m : Nat) (h : L < N) (h2 : L ≠ 2) : V.sfs N (ptrs L m) = true := by
  rw [sfs_iff]
  intro v hv
  simp only [ptrs, List.mem_map] at hv
  obtain ⟨i, _, rfl⟩ := hv
  simp [V.sf, h, h2]

/-- what a round leaves: the stack in the array q -/
theorem push_le {G h' : List O} {t : List V} {n m i k off L q : Nat} {st : List V} {c' : List V} (hG : Sfo G) (h2 : 2 < G.length) (hkG : k < G.length) (hk2 : k ≠ 2) (hLG : L < G.length) (hL2 : L ≠ 2) (hst : V.sfs G.length st = true) (hn : st.length = n)
    (hq : q = 2 ∨ G.length ≤ q) (hq' : h'[q]? = some (.box 95 (st ++ ptrs L (i + 1) ++ c') false)) (hh : ∀ a, a < G.length → a ≠ 2 → h'[a]? = G[a]?)
    (ht : Wks (rho q) G.length t (TI n m (i + 1) k off)) : Le ⟨none, 0⟩ ⟨t, h'⟩ ⟨TI n m (i + 1) k off, G.set 2 (stk (st ++ ptrs L (i + 1)) c'.length)⟩ := by
  have hl : (G.set 2 (stk (st ++ ptrs L (i + 1)) c'.length)).length = G.length := List.length_set ..
  refine Le.stk q (by rw [hl]; exact hq) (by rw [hl]; exact ht) ⟨_, _, hq', List.getElem?_set_self h2, ?_⟩ (fun a o' ha ho => ?_)
  · rw [hl]
    refine ⟨rfl, rfl, ?_⟩
    refine Wks.append ?_ (Wks.any c')
    exact Wks_sf (N := G.length) (sfs_append.2 ⟨hst, ptrs_sf _ hLG hL2⟩) (Nat.le_refl _)
  · rw [List.getElem?_set_ne (fun e => ha e.symm)] at ho
    have hal : a < G.length := (List.getElem?_eq_some_iff.1 ho).1
    exact ⟨o', by rw [hh a hal ha]; exact ho, by rw [hl]; exact Wo_sf (hG a o' ha ho) (Nat.le_refl _)⟩

theorem set_mid {α : Type} {l : List α} {n j : Nat} {x v : α} (h : l.length = n) : (l ++ List.replicate (j + 1) x).set n v = l ++ [v] ++ List.replicate j x := by
  subst h
  rw [List.set_append_right _ _ (Nat.le_refl _), Nat.sub_self, List.replicate_succ, List.set_cons_zero]
  simp
theorem deep_push {K : Exit → St → Prop} (H : List O) (n k off L m j : Nat) (ty : TypeId) (cs st : List V) (h2 : H[2]? = some (stk st j)) (hst : st.length = n) (hk : H[k]? = some (.box ty cs false)) (hk2 : k ≠ 2) (hc : cs[off + 3]? = some (.own L 0 m 4)) (hL : L < H.length) (hL2 : L ≠ 2) (hSf : Sfo H) (hsf : V.sfs H.length st = true) (hb : n + m < 1000000)
    (hK : ∀ j', K (.exit 2) ⟨(TI n m m k off).set 50 (.c (.bool false)), H.set 2 (stk (st ++ ptrs L m) j')⟩) : AW ⟨none, 0⟩ Tryz.prog (.loop deepIn) K ⟨TI n m 0 k off, H⟩ := by
  have hkl : k < H.length := (List.getElem?_eq_some_iff.1 hk).1
  have h2l : 2 < H.length := (List.getElem?_eq_some_iff.1 h2).1
  refine AW.loop (ι := { p : Nat × Nat // p.1 ≤ m }) (fun p => ⟨TI n m p.1.1 k off, H.set 2 (stk (st ++ ptrs L p.1.1) p.1.2)⟩) (fun p => m - p.1.1) ⟨(0, j), Nat.zero_le _⟩ ?_ ?_
  · have e : H.set 2 (stk (st ++ ptrs L 0) j) = H := by
      have : ptrs L 0 = [] := rfl
      rw [this, List.append_nil]
      exact set_same h2
    simp only [e]
    exact Le.refl _
  rintro ⟨⟨i, j⟩, hi⟩
  simp only at hi ⊢
  obtain ⟨G, hG⟩ : ∃ G, G = H.set 2 (stk (st ++ ptrs L i) j) := ⟨_, rfl⟩
  have g2 : G[2]? = some (stk (st ++ ptrs L i) j) := by rw [hG, List.getElem?_set_self h2l]
  have gk : G[k]? = some (.box ty cs false) := by rw [hG, List.getElem?_set_ne (fun e => hk2 e.symm)]; exact hk
  have gl : G.length = H.length := by rw [hG, List.length_set]
  rw [← hG]
  conv => arg 3; unfold deepIn
  simp only [deepBody, codeOf, Tryz.f21, TI, List.replicate_succ, List.replicate_zero, List.cons_append, List.nil_append]
  by_cases hlt : i < m
  · have hlt' : (i : Int) < (m : Int) := by omega
    have hw : IntKind.i64.wrap ((i : Int) + 1) = ((i + 1 : Nat) : Int) := by rw [wrap_i64 (by omega) (by omega)]; simp
    with_reducible refine AW.seq ?_
    refine go @hlt' ?_
    with_reducible refine AW.regionS ?_
    refine SW.take 7 ?_
    with_reducible refine aops_run (by simp [List.replicate_succ, gk, hc, hlt]; first | exact rfl | exact ⟨rfl, rfl⟩) ?_
    refine aops_done ?_
    simp only [List.drop_succ_cons, List.drop_zero]
    refine SW.opX (fun v t => v = .own G.length 0 1 1 ∧ t = some (G.length, .box 95 [.ptr L (i * 4)] false)) (by simp [gate]) ?_ ?_
    · intro S0 w0 x a w g ht hkk
      exact ⟨_, _, fun _ _ h => (by cases h; exact Nat.le_refl _), ⟨rfl, rfl⟩, ok_build_own (P := Tryz.prog) (by_ := 8) g rfl (by simp) (eval_of ht (i := 58) rfl) rfl _ hkk⟩
    rintro v t ⟨rfl, rfl⟩
    simp only [St.step, St.put, updH, Nat.lt_irrefl, if_false, List.set_cons_succ, List.set_cons_zero]
    have hGs : ∀ X, H.set 2 X = G.set 2 X := by intro X; rw [hG, List.set_set]
    have h2G : 2 < G.length := by omega
    have h1G : 1 < G.length := by omega
    have h0G : 0 < G.length := by omega
    have hkG : k < G.length := by omega
    have hLG : L < G.length := by omega
    have hSG : Sfo G := by rw [hG]; intro a o ha ho; rw [List.getElem?_set_ne (fun e => ha e.symm)] at ho; rw [List.length_set]; exact hSf a o ha ho
    have hsG : V.sfs G.length st = true := by rw [gl]; exact hsf
    obtain ⟨G', hG'⟩ : ∃ G', G' = G ++ [.box 95 [.ptr L (i * 4)] false] := ⟨_, rfl⟩
    have g2' : G'[2]? = some (.box 95 (st ++ ptrs L i ++ List.replicate j V.any) false) := by rw [hG', List.getElem?_append_left h2G]; exact g2
    have gq' : G'[G.length]? = some (.box 95 [.ptr L (i * 4)] false) := by rw [hG', List.getElem?_append_right (Nat.le_refl _)]; simp
    have gl' : G'.length = G.length + 1 := by rw [hG']; simp
    have ga' : ∀ a, a < G.length → G'[a]? = G[a]? := fun a ha => by rw [hG', List.getElem?_append_left ha]
    have hni : (st ++ ptrs L i).length = n + i := by rw [List.length_append, hst, ptrs_len]
    rw [← hG']
    refine SW.opX (fun (v : V) (t : Option (Nat × O)) => (n + i < (st ++ ptrs L i ++ List.replicate j V.any).length ∧ v = .own 2 0 (n + i + 1) 1 ∧ t = some (2, .box 95 ((st ++ ptrs L i ++ List.replicate j V.any).set (n + i) (.ptr L (i * 4))) false)) ∨ ∃ j', v = .own G'.length 0 (n + i + 1) 1 ∧ t = some (G'.length, .box 95 ((st ++ ptrs L i ++ List.replicate j V.any).take (n + i) ++ .ptr L (i * 4) :: List.replicate j' V.any) false)) (by simp [gate]) ?_ ?_
    · intro S0 w0 x a w g ht hkk
      exact ok_append_ownX (P := Tryz.prog) (by_ := 8) g _ rfl (by simp) (eval_of ht (i := 52) rfl) (eval_of ht (i := 59) rfl) g2' gq' rfl (by unfold maxLen; omega) (by omega) (by rw [List.length_append, hni]; omega) hkk (by show 2 ≤ G'.length; omega)
    rintro v t (⟨hlt2, rfl, rfl⟩ | ⟨j', rfl, rfl⟩)
    · have hu : updH G' (some (2, .box 95 ((st ++ ptrs L i ++ List.replicate j V.any).set (n + i) (.ptr L (i * 4))) false)) = G'.set 2 (.box 95 ((st ++ ptrs L i ++ List.replicate j V.any).set (n + i) (.ptr L (i * 4))) false) := by simp only [updH]; rw [if_pos (by omega)]
      obtain ⟨G2, hG2⟩ : ∃ G2, G2 = G'.set 2 (.box 95 ((st ++ ptrs L i ++ List.replicate j V.any).set (n + i) (.ptr L (i * 4))) false) := ⟨_, rfl⟩
      simp only [St.step, St.put, hu, ← hG2, List.set_cons_succ, List.set_cons_zero]
      have hj : ∃ jj, j = jj + 1 := by rw [List.length_append, hni, List.length_replicate] at hlt2; exact ⟨j - 1, by omega⟩
      obtain ⟨jj, rfl⟩ := hj
      refine SW.take 1 ?_
      with_reducible refine aops_run (by simp [List.replicate_succ]; first | exact rfl | exact ⟨rfl, rfl⟩) ?_
      refine aops_done ?_
      simp only [List.drop_succ_cons, List.drop_zero]
      refine SW.nil ?_
      refine go @hw ?_
      refine ⟨⟨(i + 1, (List.replicate jj (V.any)).length), by omega⟩, by simp only; omega, ?_⟩
      simp only [hGs]
      refine push_le (q := 2) hSG h2G hkG hk2 hLG hL2 hsG hst (.inl rfl) ?_ ?_ ?_
      · rw [hG2, List.getElem?_set_self (by omega), ptrs_succ, set_mid hni]
        simp
      · intro a ha ha2
        rw [hG2, List.getElem?_set_ne (fun e => ha2 e.symm)]
        exact ga' a ha
      · simp [Wks, Wk, V.ren, V.bnd, TI, rho, hkG, hk2, h2G, h0G, h1G]
        omega
    · have hu : updH G' (some (G'.length, .box 95 ((st ++ ptrs L i ++ List.replicate j V.any).take (n + i) ++ .ptr L (i * 4) :: List.replicate j' V.any) false)) = G' ++ [.box 95 ((st ++ ptrs L i ++ List.replicate j V.any).take (n + i) ++ .ptr L (i * 4) :: List.replicate j' V.any) false] := by simp only [updH]; rw [if_neg (by omega)]
      obtain ⟨G2, hG2⟩ : ∃ G2, G2 = G' ++ [.box 95 ((st ++ ptrs L i ++ List.replicate j V.any).take (n + i) ++ .ptr L (i * 4) :: List.replicate j' V.any) false] := ⟨_, rfl⟩
      obtain ⟨q, hq⟩ : ∃ q, q = G'.length := ⟨_, rfl⟩
      simp only [St.step, St.put, hu, ← hG2, List.set_cons_succ, List.set_cons_zero]
      rw [← hq]
      refine SW.take 1 ?_
      with_reducible refine aops_run (by simp [List.replicate_succ]; first | exact rfl | exact ⟨rfl, rfl⟩) ?_
      refine aops_done ?_
      simp only [List.drop_succ_cons, List.drop_zero]
      refine SW.nil ?_
      refine go @hw ?_
      refine ⟨⟨(i + 1, (List.replicate j' (V.any)).length), by omega⟩, by simp only; omega, ?_⟩
      simp only [hGs]
      refine push_le (q := q) hSG h2G hkG hk2 hLG hL2 hsG hst (.inr (by omega)) ?_ ?_ ?_
      · rw [hG2, hq, List.getElem?_append_right (Nat.le_refl _), ptrs_succ, List.take_left' hni]
        simp
      · intro a ha ha2
        rw [hG2, List.getElem?_append_left (by omega)]
        exact ga' a ha
      · simp [Wks, Wk, V.ren, V.bnd, TI, rho, hkG, hk2, h2G, h0G, h1G]
        omega
  · have hlt' : ¬ (i : Int) < (m : Int) := by omega
    have him : i = m := by omega
    subst him
    refine go @hlt' ?_
    rw [hG]
    exact hK j
end DN
end Go.Proofs.YtnpenchciinmmaaGreat
