/-
  Classes of nodes (layer 26) on the abstract machine: the own class of a node.
-/
import Derived.Test.YtmlabapfjliaeaaPi
namespace Go.Proofs.Ytmlabapfjliaeaa
open Go.RowKit
set_option linter.unusedSimpArgs false
set_option linter.unusedVariables false
set_option maxRecDepth 100000

def clsN (l : List En) : Nd → Int
  | ⟨k, t, _, kids⟩ =>
    if k = 2 then (findE l t).cls
    else if k = 7 ∨ k = 8 ∨ k = 9 then (match kids with
      | ⟨_, _, _, [x]⟩ :: _ => clsN l x
      | _ => 0)
    else if k = 5 ∨ k = 11 ∨ k = 12 then 7 else 0
termination_by b => SizeOf.sizeOf b
def clsK (l : List En) : List Nd → Int
  | b :: _ => match b.kids with
    | [x] => clsN l x
    | _ => 0
  | [] => 0
theorem clsN_eq (l : List En) (b : Nd) : clsN l b = if b.kind = 2 then (findE l b.text).cls else if b.kind = 7 ∨ b.kind = 8 ∨ b.kind = 9 then clsK l b.kids else if b.kind = 5 ∨ b.kind = 11 ∨ b.kind = 12 then 7 else 0 := by
  obtain ⟨k, t, c, kids⟩ := b
  unfold clsN
  have e : (match kids with
      | ⟨_, _, _, [x]⟩ :: _ => clsN l x
      | _ => 0) = clsK l kids := by
    match kids with
    | [] => rfl
    | ⟨_, _, _, []⟩ :: _ => rfl
    | ⟨_, _, _, [x]⟩ :: _ => rfl
    | ⟨_, _, _, x :: y :: r⟩ :: _ => rfl
  rw [e]
theorem nd_ind2 {Q : Nd → Prop} (h : ∀ b : Nd, (∀ k ∈ b.kids, ∀ j ∈ k.kids, Q j) → Q b) : ∀ b : Nd, Q b := by
  have : ∀ (n : Nat) (b : Nd), SizeOf.sizeOf b < n → Q b := by
    intro n
    induction n with
    | zero => intro b hb; omega
    | succ n ih =>
      intro b hb
      refine h b fun k hk j hj => ih j ?_
      have h1 := List.sizeOf_lt_of_mem hk
      have h2 := List.sizeOf_lt_of_mem hj
      cases b
      cases k
      simp only [Nd.mk.sizeOf_spec] at hb h1 h2
      omega
  exact fun b => this _ b (Nat.lt_succ_self _)
theorem clsK_0 (l : List En) : clsK l [] = 0 := rfl
theorem clsK_1 (l : List En) (b x : Nd) (r : List Nd) (h : b.kids = [x]) : clsK l (b :: r) = clsN l x := by
  show (match b.kids with | [x] => clsN l x | _ => 0) = _
  rw [h]
theorem clsK_n (l : List En) (b : Nd) (r : List Nd) (h : ¬ b.kids.length = 1) : clsK l (b :: r) = 0 := by
  show (match b.kids with | [x] => clsN l x | _ => 0) = _
  match hk : b.kids with
  | [] => rfl
  | [x] => rw [hk] at h; exact absurd rfl h
  | x :: y :: q => rfl
set_option maxHeartbeats 3200000 in
theorem rclass_a (l : List En) (hl : l.length ≤ 1000000) : ∀ b : Nd, b.okk → AC Try.prog 19 [.c (ensC l), ndV b] (.c (.int .i64 (clsN l b))) := nd_ind2 fun b ih hok => by
  obtain ⟨_, hlen, hoks⟩ := nokk_at b hok
  have hfi := rfind8_a l b.text hl
  have hll := nrows_len b.kids
  rw [clsN_eq]
  unfold ndV at *
  unfold enV at hfi
  obtain ⟨R, hR⟩ : ∃ R, findE l b.text = R := ⟨_, rfl⟩
  rw [hR] at hfi ⊢
  obtain ⟨k, hk⟩ : ∃ k, b.kind = k := ⟨_, rfl⟩
  rw [hk]
  by_cases k2 : k = 2
  · rw [if_pos k2]
    refine en Try.func19 Try.ntmps19 ?_
    have ff := (cj @hk <| cj @k2 <| Try.results19)
    repeat any_goals (first | refine stW ?_ | exact lfW ff | refine ruW ff ?_ | refine caW ff (hfi) ?_ | refine cdW ff ?_ | ((first | refine bdW ff ?_ ?_ | refine bxW ff ?_ ?_ | refine bnW ff ?_ ?_ | refine brW ff ?_ ?_) <;> intro h <;> try (exfalso; first | omega | contradiction)))
  rw [if_neg k2]
  by_cases k7 : k = 7 ∨ k = 8 ∨ k = 9
  · rw [if_pos k7]
    have hkk : ∀ (n : Int), (n = 7 ∨ n = 8 ∨ n = 9) → k = n → AC Try.prog 19 [.c (ensC l), .agg b.vs] (.c (.int .i64 (clsK l b.kids))) := by
      intro n hn hkn
      subst hkn
      obtain ⟨rs, hrs⟩ : ∃ rs, Nd.rows b.kids = rs := ⟨_, rfl⟩
      rw [hrs] at hll
      cases hks : b.kids with
      | nil =>
        rw [hks] at hll
        have e0 : rs = [] := List.eq_nil_of_length_eq_zero hll
        rw [clsK_0]
        rw [e0] at hrs
        clear ih hfi
        refine en Try.func19 Try.ntmps19 ?_
        rcases hn with hn | hn | hn
        · have ff := (cj @hk <| cj @hn <| cj @hrs <| Try.results19)
          repeat any_goals (first | refine stW ?_ | exact lfW ff | refine ruW ff ?_ | refine cdW ff ?_ | ((first | refine bdW ff ?_ ?_ | refine bxW ff ?_ ?_ | refine bnW ff ?_ ?_ | refine brW ff ?_ ?_) <;> intro h <;> try (exfalso; first | omega | contradiction)))
        · have ff := (cj @hk <| cj @hn <| cj @hrs <| Try.results19)
          repeat any_goals (first | refine stW ?_ | exact lfW ff | refine ruW ff ?_ | refine cdW ff ?_ | ((first | refine bdW ff ?_ ?_ | refine bxW ff ?_ ?_ | refine bnW ff ?_ ?_ | refine brW ff ?_ ?_) <;> intro h <;> try (exfalso; first | omega | contradiction)))
        · have ff := (cj @hk <| cj @hn <| cj @hrs <| Try.results19)
          repeat any_goals (first | refine stW ?_ | exact lfW ff | refine ruW ff ?_ | refine cdW ff ?_ | ((first | refine bdW ff ?_ ?_ | refine bxW ff ?_ ?_ | refine bnW ff ?_ ?_ | refine brW ff ?_ ?_) <;> intro h <;> try (exfalso; first | omega | contradiction)))
      | cons kd r =>
        rw [hks] at hll hoks
        have hr0 : rs[0]? = some kd.row := by rw [← hrs, hks]; rfl
        have hr0' := gx hr0
        have hlt : 0 < rs.length := by rw [hll]; simp
        have hokd : kd.okk := hoks.1
        have hl2 := nrows_len kd.kids
        obtain ⟨rs2, hrs2⟩ : ∃ rs, Nd.rows kd.kids = rs := ⟨_, rfl⟩
        rw [hrs2] at hl2
        have hlp : (0 : Int) < (rs.length : Int) := by omega
        by_cases h1 : kd.kids.length = 1
        · obtain ⟨x, hx⟩ : ∃ x, kd.kids = [x] := List.length_eq_one_iff.1 h1
          rw [clsK_1 l kd x r hx]
          have hr2 : rs2[0]? = some x.row := by rw [← hrs2, hx]; rfl
          have hr2' := gx hr2
          have hlt2 : 0 < rs2.length := by omega
          have hl2' : rs2.length = 1 := by omega
          have hca := ih kd (by rw [hks]; exact List.mem_cons_self) x (by rw [hx]; exact List.mem_cons_self) (nokks_mem (nokk_at kd hokd).2.2 x (by rw [hx]; exact List.mem_cons_self))
          clear ih hfi
          refine en Try.func19 Try.ntmps19 ?_
          rcases hn with hn | hn | hn
          · have ff := (cj @hk <| cj @hn <| cj @hrs <| cj @hr0 <| cj @hr0' <| cj @hlt <| cj @hlp <| cj @hrs2 <| cj @hr2 <| cj @hr2' <| cj @hlt2 <| cj @hl2' <| Try.results19)
            repeat any_goals (first | refine stW ?_ | exact lfW ff | refine ruW ff ?_ | refine caW ff (hca) ?_ | refine cdW ff ?_ | ((first | refine bdW ff ?_ ?_ | refine bxW ff ?_ ?_ | refine bnW ff ?_ ?_ | refine brW ff ?_ ?_) <;> intro h <;> try (exfalso; first | omega | contradiction)))
          · have ff := (cj @hk <| cj @hn <| cj @hrs <| cj @hr0 <| cj @hr0' <| cj @hlt <| cj @hlp <| cj @hrs2 <| cj @hr2 <| cj @hr2' <| cj @hlt2 <| cj @hl2' <| Try.results19)
            repeat any_goals (first | refine stW ?_ | exact lfW ff | refine ruW ff ?_ | refine caW ff (hca) ?_ | refine cdW ff ?_ | ((first | refine bdW ff ?_ ?_ | refine bxW ff ?_ ?_ | refine bnW ff ?_ ?_ | refine brW ff ?_ ?_) <;> intro h <;> try (exfalso; first | omega | contradiction)))
          · have ff := (cj @hk <| cj @hn <| cj @hrs <| cj @hr0 <| cj @hr0' <| cj @hlt <| cj @hlp <| cj @hrs2 <| cj @hr2 <| cj @hr2' <| cj @hlt2 <| cj @hl2' <| Try.results19)
            repeat any_goals (first | refine stW ?_ | exact lfW ff | refine ruW ff ?_ | refine caW ff (hca) ?_ | refine cdW ff ?_ | ((first | refine bdW ff ?_ ?_ | refine bxW ff ?_ ?_ | refine bnW ff ?_ ?_ | refine brW ff ?_ ?_) <;> intro h <;> try (exfalso; first | omega | contradiction)))
        · rw [clsK_n l kd r h1]
          have hl2' : ¬ rs2.length = 1 := by omega
          have hl2i : ¬ (rs2.length : Int) = 1 := by omega
          clear ih hfi
          refine en Try.func19 Try.ntmps19 ?_
          rcases hn with hn | hn | hn
          · have ff := (cj @hk <| cj @hn <| cj @hrs <| cj @hr0 <| cj @hr0' <| cj @hlt <| cj @hlp <| cj @hrs2 <| cj @hl2' <| cj @hl2i <| Try.results19)
            repeat any_goals (first | refine stW ?_ | exact lfW ff | refine ruW ff ?_ | refine cdW ff ?_ | ((first | refine bdW ff ?_ ?_ | refine bxW ff ?_ ?_ | refine bnW ff ?_ ?_ | refine brW ff ?_ ?_) <;> intro h <;> try (exfalso; first | omega | contradiction)))
          · have ff := (cj @hk <| cj @hn <| cj @hrs <| cj @hr0 <| cj @hr0' <| cj @hlt <| cj @hlp <| cj @hrs2 <| cj @hl2' <| cj @hl2i <| Try.results19)
            repeat any_goals (first | refine stW ?_ | exact lfW ff | refine ruW ff ?_ | refine cdW ff ?_ | ((first | refine bdW ff ?_ ?_ | refine bxW ff ?_ ?_ | refine bnW ff ?_ ?_ | refine brW ff ?_ ?_) <;> intro h <;> try (exfalso; first | omega | contradiction)))
          · have ff := (cj @hk <| cj @hn <| cj @hrs <| cj @hr0 <| cj @hr0' <| cj @hlt <| cj @hlp <| cj @hrs2 <| cj @hl2' <| cj @hl2i <| Try.results19)
            repeat any_goals (first | refine stW ?_ | exact lfW ff | refine ruW ff ?_ | refine cdW ff ?_ | ((first | refine bdW ff ?_ ?_ | refine bxW ff ?_ ?_ | refine bnW ff ?_ ?_ | refine brW ff ?_ ?_) <;> intro h <;> try (exfalso; first | omega | contradiction)))
    exact hkk k k7 rfl
  rw [if_neg k7]
  simp only [not_or] at k7
  obtain ⟨x1, x2, x3⟩ := k7
  by_cases k5 : k = 5 ∨ k = 11 ∨ k = 12
  · rw [if_pos k5]
    refine en Try.func19 Try.ntmps19 ?_
    rcases k5 with k5 | k5 | k5
    · have ff := (cj @hk <| cj @k5 <| Try.results19)
      repeat any_goals (first | refine stW ?_ | exact lfW ff | refine ruW ff ?_ | refine cdW ff ?_ | ((first | refine bdW ff ?_ ?_ | refine bxW ff ?_ ?_ | refine bnW ff ?_ ?_ | refine brW ff ?_ ?_) <;> intro h <;> try (exfalso; first | omega | contradiction)))
    · have ff := (cj @hk <| cj @k5 <| Try.results19)
      repeat any_goals (first | refine stW ?_ | exact lfW ff | refine ruW ff ?_ | refine cdW ff ?_ | ((first | refine bdW ff ?_ ?_ | refine bxW ff ?_ ?_ | refine bnW ff ?_ ?_ | refine brW ff ?_ ?_) <;> intro h <;> try (exfalso; first | omega | contradiction)))
    · have ff := (cj @hk <| cj @k5 <| Try.results19)
      repeat any_goals (first | refine stW ?_ | exact lfW ff | refine ruW ff ?_ | refine cdW ff ?_ | ((first | refine bdW ff ?_ ?_ | refine bxW ff ?_ ?_ | refine bnW ff ?_ ?_ | refine brW ff ?_ ?_) <;> intro h <;> try (exfalso; first | omega | contradiction)))
  · rw [if_neg k5]
    simp only [not_or] at k5
    obtain ⟨y1, y2, y3⟩ := k5
    refine en Try.func19 Try.ntmps19 ?_
    have ff := (cj @hk <| cj @k2 <| cj @x1 <| cj @x2 <| cj @x3 <| cj @y1 <| cj @y2 <| cj @y3 <| Try.results19)
    repeat any_goals (first | refine stW ?_ | exact lfW ff | refine ruW ff ?_ | refine cdW ff ?_ | ((first | refine bdW ff ?_ ?_ | refine bxW ff ?_ ?_ | refine bnW ff ?_ ?_ | refine brW ff ?_ ?_) <;> intro h <;> try (exfalso; first | omega | contradiction)))
/-! the program: a closure that calls itself -/
def selfV (l : List En) : List V := [.fn 41 [.cp [ensC l] 0, .ptr 0 0]]
set_option maxHeartbeats 3200000 in
theorem pclass1_a (l : List En) (hl : l.length ≤ 1000000) : ∀ b : Nd, b.okk → AY Try.prog 41 [.cp b.row 0, .cp [ensC l] 0, .ptr 0 0] 63 (selfV l) (selfV l) (.c (.int .i64 (clsN l b))) := nd_ind2 fun b ih hok => by
  obtain ⟨_, hlen, hoks⟩ := nokk_at b hok
  have hfi := pfind8_a l b.text hl
  have hll := nrows_len b.kids
  rw [clsN_eq]
  unfold enV at hfi
  obtain ⟨R, hR⟩ : ∃ R, findE l b.text = R := ⟨_, rfl⟩
  rw [hR] at hfi ⊢
  obtain ⟨k, hk⟩ : ∃ k, b.kind = k := ⟨_, rfl⟩
  rw [hk]
  by_cases k2 : k = 2
  · rw [if_pos k2]
    unfold selfV
    refine AY.intro Try.func41 rfl ?_
    simp only [Try.ntmps41, List.map_cons, List.map_nil, List.length_cons, List.length_nil, Nat.reduceAdd, Nat.reduceSub, List.replicate_succ, List.replicate_zero, List.cons_append, List.nil_append]
    have ff := (cj @hk <| cj @k2 <| Try.results41)
    repeat any_goals (first | refine stW ?_ | exact lfW ff | refine ruW ff ?_ | refine caW ff (hfi) ?_ | refine cdW ff ?_ | ((first | refine bdW ff ?_ ?_ | refine bxW ff ?_ ?_ | refine bnW ff ?_ ?_ | refine brW ff ?_ ?_) <;> intro h <;> try (exfalso; first | omega | contradiction)))
    simp [aRetY, ares, aresL, ares1, V.pub, V.pubs, V.pub1, V.pub1s, ldV, Try.results41]
  rw [if_neg k2]
  by_cases k7 : k = 7 ∨ k = 8 ∨ k = 9
  · rw [if_pos k7]
    obtain ⟨rs, hrs⟩ : ∃ rs, Nd.rows b.kids = rs := ⟨_, rfl⟩
    rw [hrs] at hll
    have k79 : ∀ (Q : Prop), (k = 7 → Q) → (k = 8 → Q) → (k = 9 → Q) → Q := fun Q a b c => by rcases k7 with h | h | h; exact a h; exact b h; exact c h
    cases hks : b.kids with
    | nil =>
      rw [hks] at hll
      have e0 : rs = [] := List.eq_nil_of_length_eq_zero hll
      rw [clsK_0]
      rw [e0] at hrs
      clear ih hfi
      unfold selfV
      refine AY.intro Try.func41 rfl ?_
      simp only [Try.ntmps41, List.map_cons, List.map_nil, List.length_cons, List.length_nil, Nat.reduceAdd, Nat.reduceSub, List.replicate_succ, List.replicate_zero, List.cons_append, List.nil_append]
      refine k79 _ (fun hn => ?_) (fun hn => ?_) (fun hn => ?_)
      · have ff := (cj @hk <| cj @hn <| cj @hrs <| Try.results41)
        repeat any_goals (first | refine stW ?_ | exact lfW ff | refine ruW ff ?_ | refine cdW ff ?_ | ((first | refine bdW ff ?_ ?_ | refine bxW ff ?_ ?_ | refine bnW ff ?_ ?_ | refine brW ff ?_ ?_) <;> intro h <;> try (exfalso; first | omega | contradiction)))
        simp [aRetY, ares, aresL, ares1, V.pub, V.pubs, V.pub1, V.pub1s, ldV, Try.results41]
      · have ff := (cj @hk <| cj @hn <| cj @hrs <| Try.results41)
        repeat any_goals (first | refine stW ?_ | exact lfW ff | refine ruW ff ?_ | refine cdW ff ?_ | ((first | refine bdW ff ?_ ?_ | refine bxW ff ?_ ?_ | refine bnW ff ?_ ?_ | refine brW ff ?_ ?_) <;> intro h <;> try (exfalso; first | omega | contradiction)))
        simp [aRetY, ares, aresL, ares1, V.pub, V.pubs, V.pub1, V.pub1s, ldV, Try.results41]
      · have ff := (cj @hk <| cj @hn <| cj @hrs <| Try.results41)
        repeat any_goals (first | refine stW ?_ | exact lfW ff | refine ruW ff ?_ | refine cdW ff ?_ | ((first | refine bdW ff ?_ ?_ | refine bxW ff ?_ ?_ | refine bnW ff ?_ ?_ | refine brW ff ?_ ?_) <;> intro h <;> try (exfalso; first | omega | contradiction)))
        simp [aRetY, ares, aresL, ares1, V.pub, V.pubs, V.pub1, V.pub1s, ldV, Try.results41]
    | cons kd r =>
      rw [hks] at hll hoks
      have hr0 : rs[0]? = some kd.row := by rw [← hrs, hks]; rfl
      have hr0' := gx hr0
      have hlt : 0 < rs.length := by rw [hll]; simp
      have hokd : kd.okk := hoks.1
      have hl2 := nrows_len kd.kids
      obtain ⟨rs2, hrs2⟩ : ∃ rs, Nd.rows kd.kids = rs := ⟨_, rfl⟩
      rw [hrs2] at hl2
      have hlp : (0 : Int) < (rs.length : Int) := by omega
      by_cases h1 : kd.kids.length = 1
      · obtain ⟨x, hx⟩ : ∃ x, kd.kids = [x] := List.length_eq_one_iff.1 h1
        rw [clsK_1 l kd x r hx]
        have hr2 : rs2[0]? = some x.row := by rw [← hrs2, hx]; rfl
        have hr2' := gx hr2
        have hlt2 : 0 < rs2.length := by omega
        have hl2' : rs2.length = 1 := by omega
        have hca := ih kd (by rw [hks]; exact List.mem_cons_self) x (by rw [hx]; exact List.mem_cons_self) (nokks_mem (nokk_at kd hokd).2.2 x (by rw [hx]; exact List.mem_cons_self))
        clear ih hfi
        unfold selfV at *
        refine AY.intro Try.func41 rfl ?_
        simp only [Try.ntmps41, List.map_cons, List.map_nil, List.length_cons, List.length_nil, Nat.reduceAdd, Nat.reduceSub, List.replicate_succ, List.replicate_zero, List.cons_append, List.nil_append]
        refine k79 _ (fun hn => ?_) (fun hn => ?_) (fun hn => ?_)
        · have ff := (cj @hk <| cj @hn <| cj @hrs <| cj @hr0 <| cj @hr0' <| cj @hlt <| cj @hlp <| cj @hrs2 <| cj @hr2 <| cj @hr2' <| cj @hlt2 <| cj @hl2' <| Try.results41)
          repeat any_goals (first | refine stN (RegN.mk 8) ?_ | exact lfW ff | refine ruW ff ?_ | refine cdW ff ?_ | ((first | refine bdW ff ?_ ?_ | refine bxW ff ?_ ?_ | refine bnW ff ?_ ?_ | refine brW ff ?_ ?_) <;> intro h <;> try (exfalso; first | omega | contradiction)))
          refine AW.drawS mixedP (.inl rfl) ?_
          refine TW.take 9 (adraw_go (by simp [hrs, hr0, hr0', hlt, hrs2, hr2, hr2', hlt2]; first | exact rfl | exact ⟨rfl, rfl⟩ | exact ⟨rfl, rfl, rfl⟩) (adr_nil ?_))
          simp only [List.drop_succ_cons, List.drop_zero]
          refine TW.cally 0 hca Try.func41 (by kernel_rfl) (by kernel_rfl) (by simp [gate]) (by simp [callOf]; first | exact rfl | exact ⟨rfl, rfl⟩) (by simp [V.pub1s, V.pub1]; try exact rfl) (by rfl) (by rfl) (cs' := [.fn 41 [.cp [ensC l] 0, .ptr 0 0]]) (by rfl) (by rfl) ?_
          simp only [St.step, St.put, updH, List.length_cons, List.length_nil, Nat.reduceAdd, Nat.reduceLT, if_true, List.set_cons_succ, List.set_cons_zero]
          refine TW.take 1 (adraw_go (by simp; first | exact rfl | exact ⟨rfl, rfl⟩ | exact ⟨rfl, rfl, rfl⟩) (adr_nil (TW.nil ⟨by kernel_rfl, ?_⟩)))
          have ff := (Try.results41)
          repeat any_goals (first | refine stW ?_ | exact lfW ff | refine ruW ff ?_ | refine cdW ff ?_ | ((first | refine bdW ff ?_ ?_ | refine bxW ff ?_ ?_ | refine bnW ff ?_ ?_ | refine brW ff ?_ ?_) <;> intro h <;> try (exfalso; first | omega | contradiction)))
          simp [aRetY, ares, aresL, ares1, V.pub, V.pubs, V.pub1, V.pub1s, ldV, Try.results41]
        · have ff := (cj @hk <| cj @hn <| cj @hrs <| cj @hr0 <| cj @hr0' <| cj @hlt <| cj @hlp <| cj @hrs2 <| cj @hr2 <| cj @hr2' <| cj @hlt2 <| cj @hl2' <| Try.results41)
          repeat any_goals (first | refine stN (RegN.mk 8) ?_ | exact lfW ff | refine ruW ff ?_ | refine cdW ff ?_ | ((first | refine bdW ff ?_ ?_ | refine bxW ff ?_ ?_ | refine bnW ff ?_ ?_ | refine brW ff ?_ ?_) <;> intro h <;> try (exfalso; first | omega | contradiction)))
          refine AW.drawS mixedP (.inl rfl) ?_
          refine TW.take 9 (adraw_go (by simp [hrs, hr0, hr0', hlt, hrs2, hr2, hr2', hlt2]; first | exact rfl | exact ⟨rfl, rfl⟩ | exact ⟨rfl, rfl, rfl⟩) (adr_nil ?_))
          simp only [List.drop_succ_cons, List.drop_zero]
          refine TW.cally 0 hca Try.func41 (by kernel_rfl) (by kernel_rfl) (by simp [gate]) (by simp [callOf]; first | exact rfl | exact ⟨rfl, rfl⟩) (by simp [V.pub1s, V.pub1]; try exact rfl) (by rfl) (by rfl) (cs' := [.fn 41 [.cp [ensC l] 0, .ptr 0 0]]) (by rfl) (by rfl) ?_
          simp only [St.step, St.put, updH, List.length_cons, List.length_nil, Nat.reduceAdd, Nat.reduceLT, if_true, List.set_cons_succ, List.set_cons_zero]
          refine TW.take 1 (adraw_go (by simp; first | exact rfl | exact ⟨rfl, rfl⟩ | exact ⟨rfl, rfl, rfl⟩) (adr_nil (TW.nil ⟨by kernel_rfl, ?_⟩)))
          have ff := (Try.results41)
          repeat any_goals (first | refine stW ?_ | exact lfW ff | refine ruW ff ?_ | refine cdW ff ?_ | ((first | refine bdW ff ?_ ?_ | refine bxW ff ?_ ?_ | refine bnW ff ?_ ?_ | refine brW ff ?_ ?_) <;> intro h <;> try (exfalso; first | omega | contradiction)))
          simp [aRetY, ares, aresL, ares1, V.pub, V.pubs, V.pub1, V.pub1s, ldV, Try.results41]
        · have ff := (cj @hk <| cj @hn <| cj @hrs <| cj @hr0 <| cj @hr0' <| cj @hlt <| cj @hlp <| cj @hrs2 <| cj @hr2 <| cj @hr2' <| cj @hlt2 <| cj @hl2' <| Try.results41)
          repeat any_goals (first | refine stN (RegN.mk 8) ?_ | exact lfW ff | refine ruW ff ?_ | refine cdW ff ?_ | ((first | refine bdW ff ?_ ?_ | refine bxW ff ?_ ?_ | refine bnW ff ?_ ?_ | refine brW ff ?_ ?_) <;> intro h <;> try (exfalso; first | omega | contradiction)))
          refine AW.drawS mixedP (.inl rfl) ?_
          refine TW.take 9 (adraw_go (by simp [hrs, hr0, hr0', hlt, hrs2, hr2, hr2', hlt2]; first | exact rfl | exact ⟨rfl, rfl⟩ | exact ⟨rfl, rfl, rfl⟩) (adr_nil ?_))
          simp only [List.drop_succ_cons, List.drop_zero]
          refine TW.cally 0 hca Try.func41 (by kernel_rfl) (by kernel_rfl) (by simp [gate]) (by simp [callOf]; first | exact rfl | exact ⟨rfl, rfl⟩) (by simp [V.pub1s, V.pub1]; try exact rfl) (by rfl) (by rfl) (cs' := [.fn 41 [.cp [ensC l] 0, .ptr 0 0]]) (by rfl) (by rfl) ?_
          simp only [St.step, St.put, updH, List.length_cons, List.length_nil, Nat.reduceAdd, Nat.reduceLT, if_true, List.set_cons_succ, List.set_cons_zero]
          refine TW.take 1 (adraw_go (by simp; first | exact rfl | exact ⟨rfl, rfl⟩ | exact ⟨rfl, rfl, rfl⟩) (adr_nil (TW.nil ⟨by kernel_rfl, ?_⟩)))
          have ff := (Try.results41)
          repeat any_goals (first | refine stW ?_ | exact lfW ff | refine ruW ff ?_ | refine cdW ff ?_ | ((first | refine bdW ff ?_ ?_ | refine bxW ff ?_ ?_ | refine bnW ff ?_ ?_ | refine brW ff ?_ ?_) <;> intro h <;> try (exfalso; first | omega | contradiction)))
          simp [aRetY, ares, aresL, ares1, V.pub, V.pubs, V.pub1, V.pub1s, ldV, Try.results41]
      · rw [clsK_n l kd r h1]
        have hl2' : ¬ rs2.length = 1 := by omega
        have hl2i : ¬ (rs2.length : Int) = 1 := by omega
        clear ih hfi
        unfold selfV
        refine AY.intro Try.func41 rfl ?_
        simp only [Try.ntmps41, List.map_cons, List.map_nil, List.length_cons, List.length_nil, Nat.reduceAdd, Nat.reduceSub, List.replicate_succ, List.replicate_zero, List.cons_append, List.nil_append]
        refine k79 _ (fun hn => ?_) (fun hn => ?_) (fun hn => ?_)
        · have ff := (cj @hk <| cj @hn <| cj @hrs <| cj @hr0 <| cj @hr0' <| cj @hlt <| cj @hlp <| cj @hrs2 <| cj @hl2' <| cj @hl2i <| Try.results41)
          repeat any_goals (first | refine stW ?_ | exact lfW ff | refine ruW ff ?_ | refine cdW ff ?_ | ((first | refine bdW ff ?_ ?_ | refine bxW ff ?_ ?_ | refine bnW ff ?_ ?_ | refine brW ff ?_ ?_) <;> intro h <;> try (exfalso; first | omega | contradiction)))
          simp [aRetY, ares, aresL, ares1, V.pub, V.pubs, V.pub1, V.pub1s, ldV, Try.results41]
        · have ff := (cj @hk <| cj @hn <| cj @hrs <| cj @hr0 <| cj @hr0' <| cj @hlt <| cj @hlp <| cj @hrs2 <| cj @hl2' <| cj @hl2i <| Try.results41)
          repeat any_goals (first | refine stW ?_ | exact lfW ff | refine ruW ff ?_ | refine cdW ff ?_ | ((first | refine bdW ff ?_ ?_ | refine bxW ff ?_ ?_ | refine bnW ff ?_ ?_ | refine brW ff ?_ ?_) <;> intro h <;> try (exfalso; first | omega | contradiction)))
          simp [aRetY, ares, aresL, ares1, V.pub, V.pubs, V.pub1, V.pub1s, ldV, Try.results41]
        · have ff := (cj @hk <| cj @hn <| cj @hrs <| cj @hr0 <| cj @hr0' <| cj @hlt <| cj @hlp <| cj @hrs2 <| cj @hl2' <| cj @hl2i <| Try.results41)
          repeat any_goals (first | refine stW ?_ | exact lfW ff | refine ruW ff ?_ | refine cdW ff ?_ | ((first | refine bdW ff ?_ ?_ | refine bxW ff ?_ ?_ | refine bnW ff ?_ ?_ | refine brW ff ?_ ?_) <;> intro h <;> try (exfalso; first | omega | contradiction)))
          simp [aRetY, ares, aresL, ares1, V.pub, V.pubs, V.pub1, V.pub1s, ldV, Try.results41]
  rw [if_neg k7]
  simp only [not_or] at k7
  obtain ⟨x1, x2, x3⟩ := k7
  unfold selfV
  clear ih hfi
  by_cases k5 : k = 5 ∨ k = 11 ∨ k = 12
  · rw [if_pos k5]
    refine AY.intro Try.func41 rfl ?_
    simp only [Try.ntmps41, List.map_cons, List.map_nil, List.length_cons, List.length_nil, Nat.reduceAdd, Nat.reduceSub, List.replicate_succ, List.replicate_zero, List.cons_append, List.nil_append]
    rcases k5 with k5 | k5 | k5
    · have ff := (cj @hk <| cj @k5 <| Try.results41)
      repeat any_goals (first | refine stW ?_ | exact lfW ff | refine ruW ff ?_ | refine cdW ff ?_ | ((first | refine bdW ff ?_ ?_ | refine bxW ff ?_ ?_ | refine bnW ff ?_ ?_ | refine brW ff ?_ ?_) <;> intro h <;> try (exfalso; first | omega | contradiction)))
      simp [aRetY, ares, aresL, ares1, V.pub, V.pubs, V.pub1, V.pub1s, ldV, Try.results41]
    · have ff := (cj @hk <| cj @k5 <| Try.results41)
      repeat any_goals (first | refine stW ?_ | exact lfW ff | refine ruW ff ?_ | refine cdW ff ?_ | ((first | refine bdW ff ?_ ?_ | refine bxW ff ?_ ?_ | refine bnW ff ?_ ?_ | refine brW ff ?_ ?_) <;> intro h <;> try (exfalso; first | omega | contradiction)))
      simp [aRetY, ares, aresL, ares1, V.pub, V.pubs, V.pub1, V.pub1s, ldV, Try.results41]
    · have ff := (cj @hk <| cj @k5 <| Try.results41)
      repeat any_goals (first | refine stW ?_ | exact lfW ff | refine ruW ff ?_ | refine cdW ff ?_ | ((first | refine bdW ff ?_ ?_ | refine bxW ff ?_ ?_ | refine bnW ff ?_ ?_ | refine brW ff ?_ ?_) <;> intro h <;> try (exfalso; first | omega | contradiction)))
      simp [aRetY, ares, aresL, ares1, V.pub, V.pubs, V.pub1, V.pub1s, ldV, Try.results41]
  · rw [if_neg k5]
    simp only [not_or] at k5
    obtain ⟨y1, y2, y3⟩ := k5
    refine AY.intro Try.func41 rfl ?_
    simp only [Try.ntmps41, List.map_cons, List.map_nil, List.length_cons, List.length_nil, Nat.reduceAdd, Nat.reduceSub, List.replicate_succ, List.replicate_zero, List.cons_append, List.nil_append]
    have ff := (cj @hk <| cj @k2 <| cj @x1 <| cj @x2 <| cj @x3 <| cj @y1 <| cj @y2 <| cj @y3 <| Try.results41)
    repeat any_goals (first | refine stW ?_ | exact lfW ff | refine ruW ff ?_ | refine cdW ff ?_ | ((first | refine bdW ff ?_ ?_ | refine bxW ff ?_ ?_ | refine bnW ff ?_ ?_ | refine brW ff ?_ ?_) <;> intro h <;> try (exfalso; first | omega | contradiction)))
    simp [aRetY, ares, aresL, ares1, V.pub, V.pubs, V.pub1, V.pub1s, ldV, Try.results41]
theorem pclass_a (l : List En) (hl : l.length ≤ 1000000) (b : Nd) (hok : b.okk) : AC Try.prog 35 [.c (ensC l), ndV b] (.c (.int .i64 (clsN l b))) := by
  have hca := pclass1_a l hl b hok
  unfold ndV
  unfold selfV at hca
  refine en Try.func35 Try.ntmps35 ?_
  have ff := (Try.results35)
  repeat any_goals (first | refine stN (RegN.mk 1) ?_ | exact lfW ff | refine ruW ff ?_ | refine cdW ff ?_ | ((first | refine bdW ff ?_ ?_ | refine bxW ff ?_ ?_ | refine bnW ff ?_ ?_ | refine brW ff ?_ ?_) <;> intro h <;> try (exfalso; first | omega | contradiction)))
  refine AW.frz 0 rfl (by simp [toCs, toC]; exact rfl) (by simp [V.frzs, V.frz]; exact rfl) (by simp [O.frz, V.frzs, V.frz]; exact rfl) ?_
  refine AW.frz 1 rfl (by simp [toCs, toC]; exact rfl) (by simp [V.frzs, V.frz]; exact rfl) (by simp [O.frz, V.frzs, V.frz]; exact rfl) ?_
  have ff := (Try.results35)
  repeat any_goals (first | refine stN (RegN.mk 3) ?_ | exact lfW ff | refine ruW ff ?_ | refine cdW ff ?_ | ((first | refine bdW ff ?_ ?_ | refine bxW ff ?_ ?_ | refine bnW ff ?_ ?_ | refine brW ff ?_ ?_) <;> intro h <;> try (exfalso; first | omega | contradiction)))
  refine AW.regionS ?_
  refine SW.take 1 ?_
  with_reducible refine aops_run (by simp [List.replicate_succ]; first | exact rfl | exact ⟨rfl, rfl⟩) ?_
  refine aops_done ?_
  simp only [List.drop_succ_cons, List.drop_zero]
  refine SW.cally 2 hca Try.func41 (by kernel_rfl) (by kernel_rfl) (by simp [gate]) (by simp [callOf]; first | exact rfl | exact ⟨rfl, rfl⟩) (by simp [V.pub1s, V.pub1]; try exact rfl) (by rfl) (by rfl) (cs' := [.fn 41 [.cp [ensC l] 0, .ptr 2 0]]) (by rfl) (by rfl) ?_
  simp only [St.step, St.put, updH, List.length_cons, List.length_nil, Nat.reduceAdd, Nat.reduceLT, if_true, List.set_cons_succ, List.set_cons_zero]
  refine SW.take 1 ?_
  with_reducible refine aops_run (by simp [List.replicate_succ]; first | exact rfl | exact ⟨rfl, rfl⟩) ?_
  refine aops_done ?_
  simp only [List.drop_succ_cons, List.drop_zero]
  refine SW.nil ?_
  have ff := (Try.results35)
  repeat any_goals (first | refine stW ?_ | exact lfW ff | refine ruW ff ?_ | refine cdW ff ?_ | ((first | refine bdW ff ?_ ?_ | refine bxW ff ?_ ?_ | refine bnW ff ?_ ?_ | refine brW ff ?_ ?_) <;> intro h <;> try (exfalso; first | omega | contradiction)))
end Go.Proofs.Ytmlabapfjliaeaa
