/-
  The evaluator's laws: maps, operations.
-/
import Derived.Test.YtnpenchciinmmaaGreatKd
import Derived.MapKept
namespace Go.Proofs.YtnpenchciinmmaaGreat
open Go.RowKit
set_option linter.unusedSimpArgs false
set_option linter.unusedVariables false

section
variable {P : Program} {S0 : Area} {w0 : Bs} {x : Cx} {w : World} {H : Heap} {a : Act} {o : Oper} {e : Operand → V} {v : V}
theorem ok_newmap (g : Good S0 w0 x w H) {R : Nat → Obj → Prop} (hR : ∀ b, R b (.map #[] 0)) {t : TypeId} {r : Option Operand} (ho : o.op = .makeMap t r) (hr : (Instr.makeMap t (r.map a.eval)).run P w = .ok (.map (some w.heap.size)) (w.alloc (.map #[] 0))) (k : Nat) (hk : ¬ x.dom k) : RunOk P o a S0 w0 x w H (.mp k) (some (k, .mp R)) := by
  have hal : Keep w (w.alloc (.map #[] 0)) := (Keep.refl w).alloc _
  have he : Ext x (x.mk1 k ⟨w.heap.size, 0, false, 0, false⟩) w (w.alloc (.map #[] 0)) := Good.ext1 k _ hk fun b j v _ hc => hal.cell hc
  have g' := g.stepB k (.mp R) he (.of_keep hal) (fun i => Iff.rfl) (fun i hi => by simp [Cx.mk1, hi]) (fun _ => .inr (by simp [Cx.mk1])) ⟨by simp [Cx.mk1], by simp [Cx.mk1], _, by simp only [Cx.mk1, if_true]; exact heap_alloc_new w _, rfl, hR _⟩ (fun b j h => .inl h) (fun j hx hs => hx)
  refine ⟨_, _, _, .map (some w.heap.size), ?_, .inl rfl, ?_, g', he, fun k' h => h.elim .inl fun e => .inr ⟨.mp R, by rw [e]⟩, fun _ => rfl⟩
  · simp only [execOp, ho, Sem.run_bind, hr, Result.andThen_ok]; rfl
  · simp only [CV, Cx.mk1, if_true]
    exact ⟨.inr trivial, trivial, trivial⟩
theorem run_mkmap_none (t : TypeId) (w : World) : (Instr.makeMap t none).run P w = .ok (.map (some w.heap.size)) (w.alloc (.map #[] 0)) := by simp [Instr.makeMap]
theorem run_mkmap_some {t : TypeId} {k e : TypeId} (hu : P.underlying t = some (.map k e)) (kd : IntKind) (n : Int) (w : World) : (Instr.makeMap t (some (.int kd n))).run P w = .ok (.map (some w.heap.size)) (w.alloc (.map #[] 0)) := by
  simp [Instr.makeMap, run_underlying hu, asInt, asIntOf]
theorem tMapS_ok {t et : TypeId} (h : tMapS P t = some et) : ∃ kt, P.underlying t = some (.map kt et) ∧ P.underlying kt = some .string := by
  unfold tMapS at h
  split at h
  · rename_i k e hu
    split at h
    · rename_i hk; cases h; exact ⟨k, hu, hk⟩
    · cases h
  · cases h
theorem mm_keys {l : List (ByteArray × C)} {es : List MapEntry} (h : es.map (fun e => (e.key, e.val)) = mval l) : ∀ x ∈ es, MapKept.IsKey .string x.key := by
  intro x hx
  have : (x.key, x.val) ∈ mval l := by rw [← h]; exact List.mem_map.2 ⟨x, hx, rfl⟩
  obtain ⟨p, _, hp⟩ := List.mem_map.1 this
  simp only [Prod.mk.injEq] at hp
  rw [← hp.1]
  trivial
theorem mfind_none {s : ByteArray} : ∀ {l : List (ByteArray × C)}, mfind s l = none → ∀ p ∈ l, p.1 ≠ s
  | [], _, p, hp => by cases hp
  | (k, c) :: l, h, p, hp => by
    simp only [mfind] at h
    split at h
    · cases h
    · rename_i hne
      rcases List.mem_cons.1 hp with rfl | hp
      · exact fun e => hne ((MapKept.bytes_beq _ _).2 e.symm)
      · exact mfind_none h p hp
theorem findNow_mm {s : ByteArray} : ∀ {l : List (ByteArray × C)} {es : List MapEntry} (i : Nat), es.map (fun e => (e.key, e.val)) = mval l → (mfind s l = none → Instr.findNow .string (.string s) es i = some none) ∧ ∀ c, mfind s l = some c → ∃ j, Instr.findNow .string (.string s) es i = some (some (j, c.val))
  | [], [], i, _ => ⟨fun _ => rfl, fun c h => by cases h⟩
  | [], e :: es, i, h => by simp [mval] at h
  | p :: l, [], i, h => by simp [mval] at h
  | (k, c) :: l, e :: es, i, h => by
    simp only [mval, List.map_cons, List.cons.injEq, Prod.mk.injEq] at h
    obtain ⟨⟨h1, h2⟩, h3⟩ := h
    have ih := findNow_mm (s := s) (l := l) (es := es) (i + 1) h3
    simp only [mfind, Instr.findNow, h1, h2, Instr.sameNow]
    cases hk : (s == k) with
    | true => exact ⟨fun h => by simp at h, fun c' h => by simp at h; subst h; exact ⟨i, by simp⟩⟩
    | false => exact ⟨fun h => by simpa using ih.1 (by simpa using h), fun c' h => by simpa using ih.2 c' (by simpa using h)⟩
theorem CV.val {c : C} (h : c.wfv = true) : CV x w (.c c) c.val := by
  cases c <;> simp [C.wfv] at h
  · simp only [CV, RdC, C.val]; exact ⟨trivial, by simpa [C.wfv] using h⟩
  · simp only [CV, RdC, C.val]
theorem mfind_wf {s : ByteArray} {c : C} : ∀ {l : List (ByteArray × C)}, mfind s l = some c → (∀ p ∈ l, p.2.wfv = true) → c.wfv = true
  | [], h, _ => by cases h
  | (k, c') :: l, h, hw => by
    simp only [mfind] at h
    split at h
    · cases h; exact hw _ (List.mem_cons_self)
    · exact mfind_wf h fun p hp => hw p (List.mem_cons_of_mem _ hp)
theorem run_look {t et kt : TypeId} (hu : P.underlying t = some (.map kt et)) (hk : P.underlying kt = some .string) {b : Nat} {es : Array MapEntry} {cl : Nat} (hb : w.heap[b]? = some (.map es cl)) (s : ByteArray) (ok : Bool) {r : Option (Nat × Value)} (hf : Instr.findNow .string (.string s) es.toList 0 = some r) {v : Value} (hv : match r with
      | some (_, u) => v = u
      | none => (zeroValue et).run P w = .ok v w) : (Instr.lookup t (.map (some b)) (.string s) ok).run P w = .ok (if ok then .tuple #[v, .bool r.isSome] else v) w := by
  cases r with
  | none =>
    simp only at hv
    simp [Instr.lookup, run_underlying hu, MapKept.run_getObj_map hb, MapKept.run_checkKey hk (k := .string s) trivial, MapKept.run_findKey hk hf, hv]
  | some p =>
    obtain ⟨j, u⟩ := p
    simp only at hv
    subst hv
    simp [Instr.lookup, run_underlying hu, MapKept.run_getObj_map hb, MapKept.run_checkKey hk (k := .string s) trivial, MapKept.run_findKey hk hf]
theorem zero1_ok {t : TypeId} {c : C} (h : zero1 P t = some c) (x : Cx) (w : World) : ∃ z, (zeroValue t).run P w = .ok z w ∧ CV x w (.c c) z := by
  unfold zero1 at h
  split at h
  · rename_i i hi
    split at h
    · rename_i z hz
      split at h
      · rename_i c' hv
        cases h
        exact ⟨z, by simp [zeroValue, typeInfo, hi, hz], by rw [← hv]; exact v1_ok x w z⟩
      · cases h
    · cases h
  · cases h
theorem cv_pair {c : C} {u : Value} {b : Bool} (h : CV x w (.c c) u) : CV x w (.tup [.c c, .c (.bool b)]) (.tuple #[u, .bool b]) := by
  simp only [CV] at h ⊢
  exact ⟨_, rfl, by simp only [CVs]; exact ⟨_, _, rfl, by simpa only [CV] using h, _, _, rfl, by simp only [CV, RdC], rfl⟩⟩
theorem ok_mmlook (g : Good S0 w0 x w H) {t et : TypeId} {y z : Operand} {ok : Bool} (ho : o.op = .lookup t y z ok) (ht : tMapS P t = some et) {k : Nat} {l : List (ByteArray × C)} {s : ByteArray} (hy : CV x w (.mp k) (a.eval y)) (hz : CV x w (.c (.str s)) (a.eval z)) (hk : H k = some (.mp (MmOb l))) {c : C} {b : Bool}
    (hc : (mfind s l = some c ∧ b = true) ∨ (mfind s l = none ∧ zero1 P et = some c ∧ b = false)) : RunOk P o a S0 w0 x w H (if ok then .tup [.c c, .c (.bool b)] else .c c) none := by
  obtain ⟨kt, hu, hkt⟩ := tMapS_ok ht
  simp only [CV, RdC] at hy hz
  obtain ⟨hd, htk, hy⟩ := hy
  obtain ⟨hz, hs⟩ := hz
  obtain ⟨_, _, _, ob, hb, _, es, cl, rfl, hm, hwf⟩ := g.ok k _ hk
  have key : ∃ u, (Instr.lookup t (.map (some (x.loc k).b)) (.string s) ok).run P w = .ok (if ok then .tuple #[u, .bool b] else u) w ∧ CV x w (.c c) u := by
    rcases hc with ⟨h1, rfl⟩ | ⟨h1, h2, rfl⟩
    · obtain ⟨j, hf⟩ := (findNow_mm 0 hm).2 c h1
      exact ⟨c.val, run_look hu hkt hb s ok hf rfl, CV.val (mfind_wf h1 hwf)⟩
    · have hf := (findNow_mm 0 hm).1 h1
      obtain ⟨zv, hz1, hz2⟩ := zero1_ok h2 x w
      exact ⟨zv, run_look hu hkt hb s ok hf hz1, hz2⟩
  obtain ⟨u, hrun, hcv⟩ := key
  refine RunOk.pure g (u := if ok then .tuple #[u, .bool b] else u) (by simp [execOp, ho, hy, hz, hrun]) ?_
  cases ok with
  | true => exact cv_pair hcv
  | false => exact hcv
theorem ok_setmap (g : Good S0 w0 x w H) {t : TypeId} {y z q : Operand} (ho : o.op = .mapUpdate t y z q) {k : Nat} {R R' : Nat → Obj → Prop} (hy : CV x w (.mp k) (a.eval y)) (hk : H k = some (.mp R))
    (hrun : ∀ ob, w.heap[(x.loc k).b]? = some ob → R (x.loc k).b ob → ∃ es cl ob', ob = .map es cl ∧ (Instr.mapUpdate t (.map (some (x.loc k).b)) (a.eval z) (a.eval q)).run P w = .ok () (w.putObj (x.loc k).b ob') ∧ still ob' = false ∧ R' (x.loc k).b ob') : RunOk P o a S0 w0 x w H .any (some (k, .mp R')) := by
  simp only [CV] at hy
  obtain ⟨hd, ht, hy⟩ := hy
  obtain ⟨_, h1, h2, ob, hb, hst, hR⟩ := g.ok k _ hk
  obtain ⟨es, cl, ob', rfl, hr, hst', hR'⟩ := hrun ob hb hR
  have hg : w.grownBy (w.putObj (x.loc k).b ob') (some (x.loc k).b) := grownBy_putObj' w _ _
  have hlt := (Array.getElem?_eq_some_iff.1 hb).1
  have hb' : (w.putObj (x.loc k).b ob').heap[(x.loc k).b]? = some ob' := World.putObj_heap_same hlt
  have ar : Ar x.S x.S w (w.putObj (x.loc k).b ob') := ⟨fun _ _ h => h, fun b j v hS hc => by
    have hne : b ≠ (x.loc k).b := fun e => by
      subst e
      unfold World.cell? at hc
      simp [hb] at hc
    exact (World.cell?_of_block (hg.block b (g.ex b j hS) fun e => hne (Option.some.inj e))).trans hc⟩
  have he : Ext x x w (w.putObj (x.loc k).b ob') := ⟨ar, fun _ h => h, fun _ _ => LocLe.refl _⟩
  have g' := g.stepB k (.mp R') he ⟨hg.os, hg.tape, hg.output, hg.size, fun b hb2 hn2 => hg.block b hb2 fun e => hn2 ⟨hd, h2, (Option.some.inj e).symm⟩⟩ (fun i => ⟨.inl, fun h => h.elim id fun e => e ▸ hd⟩) (fun _ _ => rfl) (fun _ => .inl ⟨hd, h2, rfl⟩) ⟨h1, h2, ob', hb', hst', hR'⟩ (fun b j h => .inl h) (fun j hx => hx.elim)
  refine ⟨.skip, _, x, undef, ?_, .inr ⟨rfl, rfl⟩, by simp only [CV], g', he, fun _ h => .inl h, fun _ => rfl⟩
  simp [execOp, ho, hy, hr]
theorem ok_mmset (g : Good S0 w0 x w H) {t et : TypeId} {y z q : Operand} (ho : o.op = .mapUpdate t y z q) (ht : tMapS P t = some et) {k : Nat} {l : List (ByteArray × C)} {s : ByteArray} {c : C} (hy : CV x w (.mp k) (a.eval y)) (hz : CV x w (.c (.str s)) (a.eval z)) (hq : CV x w (.c c) (a.eval q)) (hc : c.isVal = true) (hf : mfind s l = none) (hk : H k = some (.mp (MmOb l))) : RunOk P o a S0 w0 x w H .any (some (k, .mp (MmOb (l ++ [(s, c)])))) := by
  obtain ⟨kt, hu, hkt⟩ := tMapS_ok ht
  simp only [CV, RdC] at hz
  have hcv : a.eval q = c.val ∧ c.wfv = true := by
    cases c <;> simp [C.isVal] at hc
    · simp only [CV, RdC] at hq; exact ⟨hq.1, hq.2⟩
    · simp only [CV, RdC] at hq; exact ⟨hq, rfl⟩
  refine ok_setmap g ho hy hk fun ob hb hR => ?_
  obtain ⟨es, cl, rfl, hm, hwf⟩ := hR
  have hf' := (findNow_mm (i := 0) hm).1 hf
  refine ⟨es, cl, .map (es.push { key := .string s, val := c.val, born := cl }) (cl + 1), rfl, ?_, rfl, _, _, rfl, ?_, ?_⟩
  · simp [Instr.mapUpdate, run_underlying hu, MapKept.run_getObj_map hb, hz.1, hcv.1, MapKept.run_checkKey hkt (k := .string s) trivial, MapKept.run_findKey hkt hf', MapKept.run_setObj_map _ hb]
    rfl
  · simp only [Array.toList_push, List.map_append, List.map_cons, List.map_nil, hm, mval]
  · intro p hp
    rcases List.mem_append.1 hp with hp | hp
    · exact hwf p hp
    · simp only [List.mem_singleton] at hp; subst hp; exact hcv.2
theorem tPtr_ok {t : TypeId} (h : tPtr P t = true) : ∃ te, P.underlying t = some (.pointer te) := by
  unfold tPtr at h
  split at h
  · rename_i te e; exact ⟨te, e⟩
  · cases h
theorem ok_pnil (g : Good S0 w0 x w H) {op : BinOp} {t t' : TypeId} {y z : Operand} {b : Bool} (ho : o.op = .binOp op t y z t') (hop : op = .eql ∧ b = false ∨ op = .neq ∧ b = true) (ht : tPtr P t = true) {A : Option Addr} (hy : a.eval y = .pointer A) (hz : a.eval z = .pointer none) : RunOk P o a S0 w0 x w H (.c (.bool (b ^^ A.isNone))) none := by
  obtain ⟨te, hu⟩ := tPtr_ok ht
  have he : (Op.equal t (.pointer A) (.pointer none)).run P w = .ok A.isNone w := by
    have e : Op.equal t (.pointer A) (.pointer none) = Op.equalIn (9999 + 1) t (.pointer A) (.pointer none) := rfl
    rw [e]
    unfold Op.equalIn
    cases A <;> simp [run_underlying hu]
  refine RunOk.pure g (u := .bool (b ^^ A.isNone)) ?_ (by simp only [CV, RdC])
  rcases hop with ⟨rfl, rfl⟩ | ⟨rfl, rfl⟩
  · have hq : (eqGuard .eql t y z (.pointer A) (.pointer none)).run P w = .ok () w := rfl
    have hb : binOp .eql t (.pointer A) (.pointer none) = (do pure (.bool (← Op.equal t (.pointer A) (.pointer none)))) := rfl
    simp [execOp, ho, hy, hz, Sem.run_bind, hq, hb, he]
  · have hq : (eqGuard .neq t y z (.pointer A) (.pointer none)).run P w = .ok () w := rfl
    have hb : binOp .neq t (.pointer A) (.pointer none) = (do pure (.bool (!(← Op.equal t (.pointer A) (.pointer none))))) := rfl
    simp [execOp, ho, hy, hz, Sem.run_bind, hq, hb, he]
end
section
variable {S0 : Area} {w0 : Bs} {x : Cx} {w : World} {H : Heap} {a : Act} {o : Oper} {e : Operand → V} {v : V}
theorem run_gkey (em : Bool) (s : ByteArray) (n : Int) (w : World) : (Instr.checkKey em 10000 191 (.agg #[.string s, .int .i64 n])).run Tryz.prog w = .ok () w := by
  have h : (10000 : Nat) = 9999 + 1 := rfl
  rw [h]
  unfold Instr.checkKey
  have h1 : ∀ w, (Instr.checkKey em 9999 9 (.string s)).run Tryz.prog w = .ok () w := fun w => MapKept.run_checkKey (k := .string s) Tryz.underlying9 trivial em 9998
  have h2 : ∀ w, (Instr.checkKey em 9999 3 (.int .i64 n)).run Tryz.prog w = .ok () w := fun w => MapKept.run_checkKey (k := .int .i64 n) Tryz.underlying3 (by simp [MapKept.IsKey]) em 9998
  have p1 : ∀ w, (part 9 #[.string s, .int .i64 n] 0).run Tryz.prog w = .ok (.string s) w := fun w => by
    have : (isAgg 9).run Tryz.prog w = .ok false w := by kernel_rfl
    simp [part, this]
  have p2 : ∀ w, (part 3 #[.string s, .int .i64 n] 1).run Tryz.prog w = .ok (.int .i64 n) w := fun w => by
    have : (isAgg 3).run Tryz.prog w = .ok false w := by kernel_rfl
    simp [part, this]
  simp [run_underlying Tryz.underlying191, h1, h2, p1, p2]
theorem gkey_val {s : ByteArray} {n : Int} {u : Value} (h : CV x w (.agg [.c (.str s), .c (.int .i64 n)]) u) : u = .agg #[.string s, .int .i64 n] := by
  simp only [CV, CVs, RdC] at h
  obtain ⟨vs, rfl, u1, r1, e1, ⟨rfl, _⟩, u2, r2, rfl, ⟨rfl, _⟩, rfl⟩ := h
  congr 1
  exact Array.toList_inj.1 e1
theorem ok_glook (g : Good S0 w0 x w H) {y z : Operand} (ho : o.op = .lookup 128 y z true) {k : Nat} {s : ByteArray} {n : Int} (hy : CV x w (.mp k) (a.eval y)) (hz : CV x w (.agg [.c (.str s), .c (.int .i64 n)]) (a.eval z)) (hk : H k = some (.mp (MgOb true))) {zl : List V} (hzl : tZero Tryz.prog 36 = some zl) :
    RunOk Tryz.prog o a S0 w0 x w H (.tup [.agg zl, .c (.bool false)]) none := by
  have hz := gkey_val hz
  simp only [CV] at hy
  obtain ⟨hd, htk, hy⟩ := hy
  obtain ⟨_, _, _, ob, hb, _, es, cl, rfl, he⟩ := g.ok k _ hk
  have he := he rfl
  subst he
  obtain ⟨zv, hz1, hz2, i, hi, hzi⟩ := tZero_run (x := x) (w := w) hzl
  have hagg : ∃ cs, zv = .agg cs := by
    have h0 : (zeroValue 36).run Tryz.prog w = .ok (.agg #[.int .i64 0, .string ⟨#[]⟩, .int .i64 0, .int .i64 0, .int .i64 0, .int .i64 0, .int .i64 0, .int .i64 0, .slice none 0 0, .int .i64 0, .slice none 0 0]) w := by kernel_rfl
    rw [h0] at hz1
    cases hz1
    exact ⟨_, rfl⟩
  obtain ⟨cs, rfl⟩ := hagg
  have hfk : (Instr.findKey 191 (.agg #[.string s, .int .i64 n]) []).run Tryz.prog w = .ok none w := by
    simp [Instr.findKey, run_underlying Tryz.underlying191, Instr.findNow]
  refine RunOk.pure g (u := .tuple #[.agg cs, .bool false]) ?_ ?_
  · have hrun : (Instr.lookup 128 (.map (some (x.loc k).b)) (.agg #[.string s, .int .i64 n]) true).run Tryz.prog w = .ok (.tuple #[.agg cs, .bool false]) w := by
      simp [Instr.lookup, run_underlying Tryz.underlying128, MapKept.run_getObj_map hb, run_gkey, hfk, hz1]
    simp [execOp, ho, hy, hz, hrun]
  · simp only [CV, CVs, RdC]
    exact ⟨_, rfl, _, _, rfl, ⟨cs, rfl, hz2⟩, _, _, rfl, rfl, rfl⟩
theorem ok_gset (g : Good S0 w0 x w H) {y z q : Operand} (ho : o.op = .mapUpdate 128 y z q) {k : Nat} {s : ByteArray} {n : Int} (hy : CV x w (.mp k) (a.eval y)) (hz : CV x w (.agg [.c (.str s), .c (.int .i64 n)]) (a.eval z)) (hk : H k = some (.mp (MgOb true))) :
    RunOk Tryz.prog o a S0 w0 x w H .any (some (k, .mp (MgOb false))) := by
  have hz := gkey_val hz
  refine ok_setmap g ho hy hk fun ob hb hR => ?_
  obtain ⟨es, cl, rfl, he⟩ := hR
  have he := he rfl
  subst he
  have hfk : (Instr.findKey 191 (.agg #[.string s, .int .i64 n]) []).run Tryz.prog w = .ok none w := by
    simp [Instr.findKey, run_underlying Tryz.underlying191, Instr.findNow]
  refine ⟨_, _, .map (#[].push { key := .agg #[.string s, .int .i64 n], val := a.eval q, born := cl }) (cl + 1), rfl, ?_, rfl, _, _, rfl, fun h => by cases h⟩
  simp [Instr.mapUpdate, run_underlying Tryz.underlying128, MapKept.run_getObj_map hb, run_gkey, hfk, hz, MapKept.run_setObj_map _ hb]
  rfl
end
end Go.Proofs.YtnpenchciinmmaaGreat
