/-
  RelayoutNil (layer 39), as a contract.
-/
import Derived.Test.YtnpenchciinmmaaGreatKp
import Derived.Test.YtnpenchciinmmaaGreatPe
namespace Go.Proofs.YtnpenchciinmmaaGreat
open Go.RowKit
set_option linter.unusedSimpArgs false
set_option linter.unusedVariables false
set_option maxRecDepth 100000

section
variable {P : Program} {K : Exit → St → Prop} {ops : List Oper} {s : St}
/-- a nil pointer against nil -/
theorem SW.pnil0 {o : Oper} {r : List Oper} {t t' : TypeId} {j : Nat} (ho : o.op = .binOp .eql t (.tmp j) (.const (.pointer none)) t') (ht : tPtr P t = true) (hg : gate ops s.t o.guard = some true) (hc : isCall o.op = false) (hv : s.t[j]? = some (.c .nilp)) (h : SW P ops K r (s.step o.dst (.c (.bool true)) none)) : SW P ops K (o :: r) s := by
  refine SW.op (.c (.bool true)) hg hc ?_ h
  intro S0 w0 x a w hA
  have hy := eval_of hA.2 hv
  simp only [CV, RdC] at hy
  have := ok_pnil (b := false) hA.1 ho (.inl ⟨rfl, rfl⟩) ht hy rfl
  simpa using this
end
theorem AC.sub {P : Program} {f : FuncId} {args args' : List V} {res : V} (h : ∀ x w us, CVs x w args us → CVs x w args' us) (hac : AC P f args' res) : AC P f args res := fun S w us h1 h2 => hac S w us h1 (h _ _ _ h2)
structure OpI where
  kind : Int
  row : List Int
  at_ : Int
  n : Int
  nodes : List Nd
  slot : Int
  old : ByteArray
  text : ByteArray
def OpI.row_ (q : OpI) : List C := [.int .i64 q.kind, intsC q.row, .int .i64 q.at_, .int .i64 q.n, .sl (Nd.rows q.nodes), .int .i64 q.slot, .str q.old, .str q.text]
def OpI.vs (q : OpI) : List V := q.row_.map V.c
theorem rfewop_a (q : OpI) (hok : q.nodes.length ≤ maxLen ∧ Nd.okks q.nodes) : ∃ b : Bool, AC Tryz.prog 5 [.agg q.vs] (.c (.bool b)) := by
  have hr := rtoRow_a q.nodes
  have hf := rfew9_a (rowN q.nodes) 100 ⟨by decide, hok⟩ (by omega) (by omega)
  obtain ⟨B, hB⟩ : ∃ B, decide (((rowN q.nodes).cnt : Int) ≤ 100) = B := ⟨_, rfl⟩
  rw [hB] at hf
  refine ⟨B && decide ((q.row.length : Int) ≤ 60), ?_⟩
  obtain ⟨k, row, at_, n, nodes, sl, old, text⟩ := q
  simp only [OpI.vs, OpI.row_, List.map_cons, List.map_nil, intsC, ndV] at hr hf ⊢
  obtain ⟨rs, hrs⟩ : ∃ rs, row.map (fun n => [C.int .i64 n]) = rs := ⟨_, rfl⟩
  have hrl : rs.length = row.length := by rw [← hrs, List.length_map]
  rw [hrs]
  cases B with
  | false =>
    rw [Bool.false_and]
    refine en Tryz.func5 Tryz.ntmps5 ?_
    have ff := (cj @errV.eq_1 <| Tryz.results5)
    repeat any_goals (first | refine stW ?_ | exact lfW ff | refine ruW ff ?_ | refine caW ff (hr) ?_ | refine caW ff (hf) ?_ | refine cdW ff ?_ | ((first | refine bdW ff ?_ ?_ | refine bxW ff ?_ ?_ | refine bnW ff ?_ ?_ | refine brW ff ?_ ?_) <;> intro h <;> try (exfalso; first | omega | contradiction)))
  | true =>
    rw [Bool.true_and]
    refine en Tryz.func5 Tryz.ntmps5 ?_
    have ff := (cj @errV.eq_1 <| cj @hrl <| Tryz.results5)
    repeat any_goals (first | refine stW ?_ | exact lfW ff | refine ruW ff ?_ | refine caW ff (hr) ?_ | refine caW ff (hf) ?_ | refine cdW ff ?_ | ((first | refine bdW ff ?_ ?_ | refine bxW ff ?_ ?_ | refine bnW ff ?_ ?_ | refine brW ff ?_ ?_) <;> intro h <;> try (exfalso; first | omega | contradiction)))
theorem napply_a (q : OpI) : AC Tryz.prog 6 [.c .nilp, .agg q.vs] (.c (.int .i64 7)) := by
  obtain ⟨k, row, at_, n, nodes, sl, old, text⟩ := q
  simp only [OpI.vs, OpI.row_, List.map_cons, List.map_nil, intsC]
  refine en Tryz.func6 Tryz.ntmps6 ?_
  have ff := (Tryz.results6)
  repeat any_goals (first | refine stN (RegN.mk 1) ?_ | exact lfW ff | refine ruW ff ?_ | refine cdW ff ?_ | ((first | refine bdW ff ?_ ?_ | refine bxW ff ?_ ?_ | refine bnW ff ?_ ?_ | refine brW ff ?_ ?_) <;> intro h <;> try (exfalso; first | omega | contradiction)))
  refine AW.regionS ?_
  refine SW.take 1 ?_
  with_reducible refine aops_run (by simp [List.replicate_succ]; first | exact rfl | exact ⟨rfl, rfl⟩) ?_
  refine aops_done ?_
  simp only [List.drop_succ_cons, List.drop_zero]
  refine SW.pnil0 rfl (by kernel_rfl) rfl rfl rfl ?_
  simp only [St.step, St.put, updH, List.set_cons_succ, List.set_cons_zero]
  refine SW.nil ?_
  have ff := (Tryz.results6)
  repeat any_goals (first | refine stW ?_ | exact lfW ff | refine ruW ff ?_ | refine cdW ff ?_ | ((first | refine bdW ff ?_ ?_ | refine bxW ff ?_ ?_ | refine bnW ff ?_ ?_ | refine brW ff ?_ ?_) <;> intro h <;> try (exfalso; first | omega | contradiction)))
theorem lnil39_a (q : OpI) (hok : q.nodes.length ≤ maxLen ∧ Nd.okks q.nodes) : AC Tryz.prog 3 [.agg q.vs] (.c (.bool true)) := by
  have haw := awake39_a
  obtain ⟨b, hf⟩ := rfewop_a q hok
  have hap := napply_a q
  have hcl := nclone_a
  have hto := ntouched_a
  have hbo := nbox_a
  have htr := ntree_a
  have hzb := zbox_a
  have hzn := znode_a
  unfold zBoxV zNodeV at *
  obtain ⟨k, row, at_, n, nodes, sl, old, text⟩ := q
  simp only [OpI.vs, OpI.row_, List.map_cons, List.map_nil, intsC] at hf hap ⊢
  cases b with
  | false =>
    refine en Tryz.func3 Tryz.ntmps3 ?_
    have ff := (cj @errV.eq_1 <| Tryz.results3)
    repeat any_goals (first | refine stW ?_ | exact lfW ff | refine ruW ff ?_ | refine caW ff (haw) ?_ | refine caW ff (hf) ?_ | refine cdW ff ?_ | ((first | refine bdW ff ?_ ?_ | refine bxW ff ?_ ?_ | refine bnW ff ?_ ?_ | refine brW ff ?_ ?_) <;> intro h <;> try (exfalso; first | omega | contradiction)))
  | true =>
    refine en Tryz.func3 Tryz.ntmps3 ?_
    have ff := (cj @errV.eq_1 <| Tryz.results3)
    repeat any_goals (first | refine stN (RegN.mk 6) ?_ | exact lfW ff | refine ruW ff ?_ | refine caW ff (haw) ?_ | refine caW ff (hf) ?_ | refine cdW ff ?_ | ((first | refine bdW ff ?_ ?_ | refine bxW ff ?_ ?_ | refine bnW ff ?_ ?_ | refine brW ff ?_ ?_) <;> intro h <;> try (exfalso; first | omega | contradiction)))
    with_reducible refine AW.regionS ?_
    refine SW.take 7 (AH.out ?_)
    simp only [List.take_succ_cons, List.take_zero]
    have ff := (cj @errV.eq_1 <| Tryz.results3)
    repeat any_goals (first | refine stW ?_ | exact lfW ff | refine ruW ff ?_ | refine caW ff (hap) ?_ | refine caW ff (hcl) ?_ | refine cdW ff ?_)
    simp only [List.drop_succ_cons, List.drop_zero]
    refine SW.pnil0 rfl (by kernel_rfl) rfl rfl rfl ?_
    simp only [St.step, St.put, updH, List.set_cons_succ, List.set_cons_zero]
    refine SW.take 19 (AH.out ?_)
    simp only [List.take_succ_cons, List.take_zero]
    have ff := (cj @errV.eq_1 <| Tryz.results3)
    repeat any_goals (first | refine stW ?_ | exact lfW ff | refine ruW ff ?_ | refine caW ff (hto) ?_ | refine caW ff (hbo) ?_ | refine caW ff (htr) ?_ | refine caW ff (hzb) ?_ | refine caW ff (hzn) ?_ | refine cdW ff ?_)
    simp only [List.drop_succ_cons, List.drop_zero]
    refine SW.nil ?_
    have ff := (cj @errV.eq_1 <| Tryz.results3)
    repeat any_goals (first | refine stW ?_ | exact lfW ff | refine ruW ff ?_ | refine cdW ff ?_ | ((first | refine bdW ff ?_ ?_ | refine bxW ff ?_ ?_ | refine bnW ff ?_ ?_ | refine brW ff ?_ ?_) <;> intro h <;> try (exfalso; first | omega | contradiction)))
end Go.Proofs.YtnpenchciinmmaaGreat
