/-
  Trees of nodes on the abstract machine: the program's check of a tree, node by node.
-/
import Derived.Test.YtnpenchciinmmaaGreatPg
namespace Go.Proofs.YtnpenchciinmmaaGreat
open Go.RowKit
set_option linter.unusedSimpArgs false
set_option linter.unusedVariables false
set_option maxRecDepth 100000

@[simp] theorem ck_bnds (k n : Nat) : V.bnds k (ckV n) = true := rfl
set_option maxHeartbeats 6400000 in
theorem pnode_step (b : Nd) (hok : b.okk) (dep c : Nat) (hd : dep ≤ 25) (hc : c + b.cnt ≤ 1000000) (ih : ∀ k ∈ b.kids, ∀ (dep c : Nat), dep ≤ 25 → c + k.cnt ≤ 1000000 → AY Tryz.prog 39 [.ptr 0 0, .cp k.row 0, .c (.int .i64 (dep : Int))] 107 (ckV c) (ckV (k.pv dep c).2) (.c (.bool (k.pv dep c).1))) : AY Tryz.prog 39 [.ptr 0 0, .cp b.row 0, .c (.int .i64 (dep : Int))] 107 (ckV c) (ckV (b.pv dep c).2) (.c (.bool (b.pv dep c).1)) := by
  have hcn := ncnt_at b
  have hkl := ncnts_len b.kids
  have hown := pown9_a b (c + 1) hok
  have hl := nrows_len b.kids
  obtain ⟨rs, hrs⟩ : ∃ rs, Nd.rows b.kids = rs := ⟨_, rfl⟩
  rw [hrs] at hl
  have hR : b.pv dep c = if 1000 < c + 1 ∨ 24 < dep ∨ b.ownB = false then (false, c + 1) else Nd.pvs (dep + 1) b.kind b.kids (c + 1) := by cases b; rw [Nd.pv]; rfl
  obtain ⟨OB, hOB⟩ : ∃ OB, b.ownB = OB := ⟨_, rfl⟩
  rw [hOB] at hown hR
  have hwc : IntKind.i64.wrap ((c : Int) + 1) = ((c + 1 : Nat) : Int) := by rw [wrap_i64 (by omega) (by omega)]; simp
  obtain ⟨C1, hC1⟩ : ∃ C1, c + 1 = C1 := ⟨_, rfl⟩
  rw [hC1] at hwc hown hR
  obtain ⟨K, hK⟩ : ∃ K, b.kind = K := ⟨_, rfl⟩
  rw [hK] at hR
  have e1 : ((1000 : Int) < (C1 : Int)) = (1000 < C1) := by rw [eq_iff_iff]; omega
  have e2 : ((24 : Int) < (dep : Int)) = (24 < dep) := by rw [eq_iff_iff]; omega
  rw [hR]
  by_cases h1 : 1000 < C1
  · rw [if_pos (.inl h1)]
    refine AY.intro Tryz.func39 rfl ?_
    simp only [Tryz.ntmps39, List.map_cons, List.map_nil, List.length_cons, List.length_nil, Nat.reduceAdd, Nat.reduceSub, List.replicate_succ, List.replicate_zero, List.cons_append, List.nil_append]
    have ff := (cj @hwc <| cj @e1 <| cj @h1 <| Tryz.results39)
    repeat any_goals (first | refine stW ?_ | exact lfW ff | refine ruW ff ?_ | refine cdW ff ?_ | ((first | refine bdW ff ?_ ?_ | refine bxW ff ?_ ?_ | refine bnW ff ?_ ?_ | refine brW ff ?_ ?_) <;> intro h <;> try (exfalso; first | omega | contradiction)))
    all_goals simp [aRetY, ares, aresL, ares1, V.pub, V.pubs, ldV, Tryz.results39, *]
  by_cases h2 : 24 < dep
  · rw [if_pos (.inr (.inl h2))]
    refine AY.intro Tryz.func39 rfl ?_
    simp only [Tryz.ntmps39, List.map_cons, List.map_nil, List.length_cons, List.length_nil, Nat.reduceAdd, Nat.reduceSub, List.replicate_succ, List.replicate_zero, List.cons_append, List.nil_append]
    have ff := (cj @hwc <| cj @e1 <| cj @e2 <| cj @h1 <| cj @h2 <| Tryz.results39)
    repeat any_goals (first | refine stW ?_ | exact lfW ff | refine ruW ff ?_ | refine cdW ff ?_ | ((first | refine bdW ff ?_ ?_ | refine bxW ff ?_ ?_ | refine bnW ff ?_ ?_ | refine brW ff ?_ ?_) <;> intro h <;> try (exfalso; first | omega | contradiction)))
    all_goals simp [aRetY, ares, aresL, ares1, V.pub, V.pubs, ldV, Tryz.results39, *]
  refine AY.intro Tryz.func39 rfl ?_
  simp only [Tryz.ntmps39, List.map_cons, List.map_nil, List.length_cons, List.length_nil, Nat.reduceAdd, Nat.reduceSub, List.replicate_succ, List.replicate_zero, List.cons_append, List.nil_append]
  have ff := (cj @hwc <| Tryz.results39)
  repeat any_goals (first | refine stN (RegN.mk 2) ?_ | exact lfW ff | refine ruW ff ?_ | refine cdW ff ?_ | ((first | refine bdW ff ?_ ?_ | refine bxW ff ?_ ?_ | refine bnW ff ?_ ?_ | refine brW ff ?_ ?_) <;> intro h <;> try (exfalso; first | omega | contradiction)))
  refine AW.regionS ?_
  refine SW.take 12 ?_
  with_reducible refine aops_run (by simp [List.replicate_succ, e1, e2, h1, h2]; first | exact rfl | exact ⟨rfl, rfl⟩) ?_
  refine aops_done ?_
  simp only [List.drop_succ_cons, List.drop_zero]
  refine SW.cally 0 hown Tryz.func61 (by kernel_rfl) (by kernel_rfl) (by simp [gate]) (by simp [callOf]; first | exact rfl | exact ⟨rfl, rfl⟩) (by simp [V.pub1s, V.pub1]; try exact rfl) (by rfl) (ck_pub1 _) (ck_pub1 _) (ck_tame _) ?_
  simp only [St.step, St.put, updH, List.length_cons, List.length_nil, Nat.reduceAdd, Nat.reduceLT, if_true, List.set_cons_succ, List.set_cons_zero]
  cases OB with
  | false =>
    rw [if_pos (.inr (.inr rfl))]
    refine SW.take 2 ?_
    with_reducible refine aops_run (by simp [List.replicate_succ]; first | exact rfl | exact ⟨rfl, rfl⟩) ?_
    refine aops_done ?_
    simp only [List.drop_succ_cons, List.drop_zero]
    refine SW.nil ?_
    have ff := (Tryz.results39)
    repeat any_goals (first | refine stW ?_ | exact lfW ff | refine ruW ff ?_ | refine cdW ff ?_ | ((first | refine bdW ff ?_ ?_ | refine bxW ff ?_ ?_ | refine bnW ff ?_ ?_ | refine brW ff ?_ ?_) <;> intro h <;> try (exfalso; first | omega | contradiction)))
    all_goals simp [aRetY, ares, aresL, ares1, V.pub, V.pubs, ldV, Tryz.results39, *]
  | true =>
    rw [if_neg (by rintro (h | h | h) <;> first | omega | cases h)]
    refine SW.take 2 ?_
    with_reducible refine aops_run (by simp [List.replicate_succ]; first | exact rfl | exact ⟨rfl, rfl⟩) ?_
    refine aops_done ?_
    simp only [List.drop_succ_cons, List.drop_zero]
    refine SW.nil ?_
    have hwd : IntKind.i64.wrap ((dep : Int) + 1) = ((dep + 1 : Nat) : Int) := by rw [wrap_i64 (by omega) (by omega)]; simp
    obtain ⟨Q, hQ⟩ : ∃ Q, Nd.pvs (dep + 1) K b.kids C1 = Q := ⟨_, rfl⟩
    rw [hQ]
    have ff := (cj @hrs <| cj @hl <| Tryz.results39)
    repeat any_goals (first | refine stW ?_ | exact lfW ff | refine ruW ff ?_ | refine cdW ff ?_ | ((first | refine bdW ff ?_ ?_ | refine bxW ff ?_ ?_ | refine bnW ff ?_ ?_ | refine brW ff ?_ ?_) <;> intro h <;> try (exfalso; first | omega | contradiction)))
    refine lp (ι := { k : Nat × Nat // k.1 ≤ b.kids.length ∧ k.2 + Nd.cnts (b.kids.drop k.1) ≤ 1000000 ∧ Q = Nd.pvs (dep + 1) K (b.kids.drop k.1) k.2 }) (fun k => [(35, .c (.int .i64 (k.1.1 : Int))), (6, .c (.bool false))]) (fun k => [.box 107 (ckV k.1.2) false]) (fun k => b.kids.length - k.1.1) ⟨(0, C1), by simp, by simp; omega, by simp [hQ]⟩ ?_ ?_
    all_goals simp only [puts, List.foldl_cons, List.foldl_nil, List.set_cons_zero, List.set_cons_succ]
    · refine Le.weak (by simp [subT])
    · rintro ⟨⟨j, n⟩, hj, hb, hI⟩
      simp only at hj hb hI ⊢
      by_cases hlt : j < b.kids.length
      · obtain ⟨k, hkk⟩ : ∃ k, b.kids[j]? = some k := ⟨_, List.getElem?_eq_getElem hlt⟩
        have hrk : rs[j]? = some k.row := by rw [← hrs]; exact nrows_get hkk
        have hltr : j < rs.length := by omega
        have hrk' := gx hrk
        rw [List.drop_eq_getElem_cons hlt, gx hkk] at hI hb
        simp only [Nd.cnts] at hb
        simp only [Nd.pvs] at hI
        have ihk := ih k (List.mem_of_getElem? hkk) (dep + 1) n (by omega) (by omega)
        have hpb := (npv_eq (dep + 1) k n).1
        have hw : IntKind.i64.wrap ((j : Int) + 1) = ((j + 1 : Nat) : Int) := by rw [wrap_i64 (by omega) (by omega)]; simp
        obtain ⟨⟨r, n'⟩, hr⟩ : ∃ r, Nd.pv (dep + 1) k n = r := ⟨_, rfl⟩
        rw [hr] at ihk hI hpb
        simp only at ihk hI hpb
        obtain ⟨D, hD⟩ : ∃ D : Int, ((dep + 1 : Nat) : Int) = D := ⟨_, rfl⟩
        rw [hD] at ihk hwd
        cases em : mixB K k.kind with
        | true =>
          rw [em, if_pos rfl] at hI
          have em' : (decide (K = 1) == decide (k.kind = 1)) = true := by unfold mixB at em; rw [← em]; cases decide (K = 1) <;> cases decide (k.kind = 1) <;> rfl
          have ff := (cj @hrs <| cj @hl <| cj @hlt <| cj @hltr <| cj @hrk <| cj @hrk' <| cj @hK <| cj @em' <| cj @hI <| Tryz.results39)
          repeat any_goals (first | refine stW ?_ | exact lfW ff | refine ruW ff ?_ | refine cdW ff ?_ | ((first | refine bdW ff ?_ ?_ | refine bxW ff ?_ ?_ | refine bnW ff ?_ ?_ | refine brW ff ?_ ?_) <;> intro h <;> try (exfalso; first | omega | contradiction)))
          all_goals simp [aRetY, ares, aresL, ares1, V.pub, V.pubs, ldV, Tryz.results39, *]
        | false =>
          rw [em, if_neg (by simp)] at hI
          have em' : (decide (K = 1) == decide (k.kind = 1)) = false := by unfold mixB at em; rw [← em]; cases decide (K = 1) <;> cases decide (k.kind = 1) <;> rfl
          have ff := (cj @hrs <| cj @hl <| cj @hlt <| cj @hltr <| cj @hrk <| cj @hrk' <| cj @hK <| Tryz.results39)
          repeat any_goals (first | refine stN (RegN.mk 7) ?_ | exact lfW ff | refine ruW ff ?_ | refine cdW ff ?_ | ((first | refine bdW ff ?_ ?_ | refine bxW ff ?_ ?_ | refine bnW ff ?_ ?_ | refine brW ff ?_ ?_) <;> intro h <;> try (exfalso; first | omega | contradiction)))
          refine AW.drawS mixedP (.inl rfl) ?_
          refine TW.take 25 (adraw_go (by simp [hrs, hl, hlt, hltr, hrk, hrk', hK, em', hwd]; first | exact rfl | exact ⟨rfl, rfl⟩ | exact ⟨rfl, rfl, rfl⟩) (adr_nil ?_))
          simp only [List.drop_succ_cons, List.drop_zero]
          refine TW.cally 0 ihk Tryz.func39 (by kernel_rfl) (by kernel_rfl) (by simp [gate]) (by simp [callOf]; first | exact rfl | exact ⟨rfl, rfl⟩) (by simp [V.pub1s, V.pub1]; try exact rfl) (by rfl) (ck_pub1 _) (ck_pub1 _) (ck_tame _) ?_
          simp only [St.step, St.put, updH, List.length_cons, List.length_nil, Nat.reduceAdd, Nat.reduceLT, if_true, List.set_cons_succ, List.set_cons_zero]
          cases r with
          | false =>
            rw [if_neg (by simp)] at hI
            refine TW.take 2 (adraw_go (by simp; first | exact rfl | exact ⟨rfl, rfl⟩ | exact ⟨rfl, rfl, rfl⟩) (adr_nil (TW.nil ⟨by kernel_rfl, ?_⟩)))
            have ff := (Tryz.results39)
            repeat any_goals (first | refine stW ?_ | exact lfW ff | refine ruW ff ?_ | refine cdW ff ?_ | ((first | refine bdW ff ?_ ?_ | refine bxW ff ?_ ?_ | refine bnW ff ?_ ?_ | refine brW ff ?_ ?_) <;> intro h <;> try (exfalso; first | omega | contradiction)))
            all_goals simp [aRetY, ares, aresL, ares1, V.pub, V.pubs, ldV, Tryz.results39, *]
          | true =>
            rw [if_pos rfl] at hI
            refine TW.take 2 (adraw_go (by simp; first | exact rfl | exact ⟨rfl, rfl⟩ | exact ⟨rfl, rfl, rfl⟩) (adr_nil (TW.nil ⟨by kernel_rfl, ?_⟩)))
            have ff := (cj @hw <| Tryz.results39)
            repeat any_goals (first | refine stW ?_ | exact lfW ff | refine ruW ff ?_ | refine cdW ff ?_ | ((first | refine bdW ff ?_ ?_ | refine bxW ff ?_ ?_ | refine bnW ff ?_ ?_ | refine brW ff ?_ ?_) <;> intro h <;> try (exfalso; first | omega | contradiction)))
            exact ⟨⟨(j + 1, n'), by simp only; omega, by simp only; omega, hI⟩, by simp only; omega, wd 1⟩
      · rw [List.drop_of_length_le (by omega)] at hI
        simp only [Nd.pvs] at hI
        have ff := (cj @hrs <| cj @hl <| cj @hlt <| cj @hI <| Tryz.results39)
        repeat any_goals (first | refine stW ?_ | exact lfW ff | refine ruW ff ?_ | refine cdW ff ?_ | ((first | refine bdW ff ?_ ?_ | refine bxW ff ?_ ?_ | refine bnW ff ?_ ?_ | refine brW ff ?_ ?_) <;> intro h <;> try (exfalso; first | omega | contradiction)))
        all_goals simp [aRetY, ares, aresL, ares1, V.pub, V.pubs, ldV, Tryz.results39, *]
theorem pnode_a : ∀ b : Nd, b.okk → ∀ (dep c : Nat), dep ≤ 25 → c + b.cnt ≤ 1000000 → AY Tryz.prog 39 [.ptr 0 0, .cp b.row 0, .c (.int .i64 (dep : Int))] 107 (ckV c) (ckV (b.pv dep c).2) (.c (.bool (b.pv dep c).1)) := nd_ind fun b ih hok dep c hd hc => pnode_step b hok dep c hd hc fun k hk => ih k hk (nokks_mem (nokk_at b hok).2.2 k hk)
theorem pvalid9_a (b : Nd) (hok : b.okk) (hc : b.cnt ≤ 900000) : AC Tryz.prog 27 [ndV b] (.c (.bool b.validB)) := by
  have hn := pnode_a b hok 1 0 (by omega) (by omega)
  have hk := pkinds_a
  unfold kindsV at hk
  unfold ndV
  by_cases k1 : b.kind = 1
  · rw [← npv_valid b k1]
    obtain ⟨⟨r, n⟩, hr⟩ : ∃ r, b.pv 1 0 = r := ⟨_, rfl⟩
    rw [hr] at hn ⊢
    simp only at hn ⊢
    refine en Tryz.func27 Tryz.ntmps27 ?_
    have ff := (Tryz.results27)
    repeat any_goals (first | refine stN (RegN.mk 2) ?_ | exact lfW ff | refine ruW ff ?_ | refine caW ff (hk) ?_ | refine cdW ff ?_ | ((first | refine bdW ff ?_ ?_ | refine bxW ff ?_ ?_ | refine bnW ff ?_ ?_ | refine brW ff ?_ ?_) <;> intro h <;> try (exfalso; first | omega | contradiction)))
    refine AW.frz 0 rfl (by simp [toCs, toC]; exact rfl) (by simp [V.frzs, V.frz]; exact rfl) (by simp [O.frz, V.frzs, V.frz]; exact rfl) ?_
    refine AW.regionS ?_
    refine SW.take 5 ?_
    with_reducible refine aops_run (by simp [List.replicate_succ, k1]; first | exact rfl | exact ⟨rfl, rfl⟩) ?_
    refine aops_done ?_
    simp only [List.drop_succ_cons, List.drop_zero]
    refine SW.cally 1 hn Tryz.func39 (by kernel_rfl) (by kernel_rfl) (by simp [gate]) (by simp [callOf]; first | exact rfl | exact ⟨rfl, rfl⟩) (by simp [V.pub1s, V.pub1]; try exact rfl) (by rfl) (by rfl) (cs' := ckV n) (by rfl) (by rfl) ?_
    simp only [St.step, St.put, updH, List.length_cons, List.length_nil, Nat.reduceAdd, Nat.reduceLT, if_true, List.set_cons_succ, List.set_cons_zero]
    refine SW.take 2 ?_
    with_reducible refine aops_run (by simp [List.replicate_succ]; first | exact rfl | exact ⟨rfl, rfl⟩) ?_
    refine aops_done ?_
    simp only [List.drop_succ_cons, List.drop_zero]
    refine SW.nil ?_
    have ff := (Tryz.results27)
    repeat any_goals (first | refine stW ?_ | exact lfW ff | refine ruW ff ?_ | refine cdW ff ?_ | ((first | refine bdW ff ?_ ?_ | refine bxW ff ?_ ?_ | refine bnW ff ?_ ?_ | refine brW ff ?_ ?_) <;> intro h <;> try (exfalso; first | omega | contradiction)))
  · have e : b.validB = false := by unfold Nd.validB; rw [decide_eq_false k1, Bool.false_and]
    rw [e]
    refine en Tryz.func27 Tryz.ntmps27 ?_
    have ff := (cj @k1 <| Tryz.results27)
    repeat any_goals (first | refine stW ?_ | exact lfW ff | refine ruW ff ?_ | refine caW ff (hk) ?_ | refine cdW ff ?_ | ((first | refine bdW ff ?_ ?_ | refine bxW ff ?_ ?_ | refine bnW ff ?_ ?_ | refine brW ff ?_ ?_) <;> intro h <;> try (exfalso; first | omega | contradiction)))
theorem pvalidItems_a (l : List Nd) (hok : (rowN l).okk) (hc : (rowN l).cnt ≤ 900000) : AC Tryz.prog 40 [.c (.sl (Nd.rows l))] (.c (.bool (rowN l).validB)) := by
  have h2 := pvalid9_a (rowN l) hok hc
  have e : ndV (rowN l) = .agg [.c (.int .i64 1), .c (.str ⟨#[]⟩), .c (.int .i64 0), .c (.sl (Nd.rows l))] := rfl
  rw [e] at h2
  refine en Tryz.func40 Tryz.ntmps40 ?_
  have ff := (Tryz.results40)
  repeat any_goals (first | refine stW ?_ | exact lfW ff | refine ruW ff ?_ | refine caW ff (h2) ?_ | refine cdW ff ?_ | ((first | refine bdW ff ?_ ?_ | refine bxW ff ?_ ?_ | refine bnW ff ?_ ?_ | refine brW ff ?_ ?_) <;> intro h <;> try (exfalso; first | omega | contradiction)))
end Go.Proofs.YtnpenchciinmmaaGreat
