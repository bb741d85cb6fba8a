/-
  Trees of nodes: what they are, their texts, what is valid (plain; layer 9).
-/
import Derived.Test.YtnpenchciinmmaaGreatHa
import Derived.Test.YtnpenchciinmmaaGreatRow
import Derived.Lib.Bytealg
namespace Go.Proofs.YtnpenchciinmmaaGreat
open Go.RowKit
set_option linter.unusedSimpArgs false
set_option linter.unusedVariables false
set_option maxRecDepth 100000

structure Nd where
  kind : Int
  text : ByteArray
  cols : Int
  kids : List Nd
mutual
def Nd.row : Nd → List C
  | ⟨k, t, c, kids⟩ => [.int .i64 k, .str t, .int .i64 c, .sl (Nd.rows kids)]
def Nd.rows : List Nd → List (List C)
  | [] => []
  | n :: l => n.row :: Nd.rows l
end
theorem nrows_map : ∀ l : List Nd, Nd.rows l = l.map Nd.row
  | [] => rfl
  | n :: l => by simp only [Nd.rows, List.map_cons, nrows_map l]
mutual
def Nd.cnt : Nd → Nat
  | ⟨_, _, _, kids⟩ => 1 + Nd.cnts kids
def Nd.cnts : List Nd → Nat
  | [] => 0
  | n :: l => n.cnt + Nd.cnts l
end
mutual
def Nd.dep : Nd → Nat
  | ⟨_, _, _, kids⟩ => Nd.deps kids + 1
def Nd.deps : List Nd → Nat
  | [] => 0
  | n :: l => max n.dep (Nd.deps l)
end
mutual
def Nd.okk : Nd → Prop
  | ⟨_, t, _, kids⟩ => t.size ≤ maxLen ∧ kids.length ≤ maxLen ∧ Nd.okks kids
def Nd.okks : List Nd → Prop
  | [] => True
  | n :: l => n.okk ∧ Nd.okks l
end
theorem ncnt_pos (b : Nd) : 0 < b.cnt := by cases b; simp only [Nd.cnt]; omega
theorem ncnts_len : ∀ l : List Nd, l.length ≤ Nd.cnts l
  | [] => Nat.le_refl _
  | b :: l => by have := ncnts_len l; have := ncnt_pos b; simp only [Nd.cnts, List.length_cons]; omega
theorem ncnts_get : ∀ (l : List Nd) (i : Nat) (b : Nd), l[i]? = some b → i + b.cnt ≤ Nd.cnts l
  | [], i, b, h => by simp at h
  | x :: l, 0, b, h => by simp at h; subst h; simp only [Nd.cnts]; omega
  | x :: l, i + 1, b, h => by have := ncnts_get l i b (by simpa using h); have := ncnt_pos x; simp only [Nd.cnts]; omega
theorem nokks_mem : ∀ {l : List Nd}, Nd.okks l → ∀ b ∈ l, b.okk
  | _ :: _, h, b, hb => by
    rcases List.mem_cons.1 hb with rfl | hb
    · exact h.1
    · exact nokks_mem h.2 b hb
theorem ndep_le : ∀ n : Nat, ∀ b : Nd, SizeOf.sizeOf b < n → b.dep ≤ b.cnt
  | 0, b, h => absurd h (by omega)
  | n + 1, ⟨k, t, c, kids⟩, h => by
    have hk : ∀ l : List Nd, SizeOf.sizeOf l < n → Nd.deps l ≤ Nd.cnts l := by
      intro l
      induction l with
      | nil => intro _; exact Nat.le_refl _
      | cons x l ih =>
        intro hl
        simp only [List.cons.sizeOf_spec] at hl
        have h1 := ndep_le n x (by omega)
        have h2 := ih (by omega)
        simp only [Nd.deps, Nd.cnts]
        omega
    simp only [Nd.mk.sizeOf_spec] at h
    have := hk kids (by omega)
    simp only [Nd.dep, Nd.cnt]
    omega
/-- a node's cells: kept shut -/
def Nd.vs (b : Nd) : List V := b.row.map V.c
def ndV (b : Nd) : V := .agg b.vs
section
variable (b : Nd)
@[simp] theorem Nd.vs_len : b.vs.length = 4 := by cases b; rfl
@[simp] theorem Nd.vs_flat : b.vs.all V.one = true := by cases b; rfl
@[simp] theorem Nd.vs_take : b.vs.take 4 = b.vs := List.take_of_length_le (by simp)
@[simp] theorem Nd.vs_0 : b.vs[0]? = some (.c (.int .i64 b.kind)) := by cases b; rfl
@[simp] theorem Nd.vg_0 (h : 0 < b.vs.length) : b.vs[0]'h = .c (.int .i64 b.kind) := by cases b; rfl
@[simp] theorem Nd.vs_1 : b.vs[1]? = some (.c (.str b.text)) := by cases b; rfl
@[simp] theorem Nd.vg_1 (h : 1 < b.vs.length) : b.vs[1]'h = .c (.str b.text) := by cases b; rfl
@[simp] theorem Nd.vs_2 : b.vs[2]? = some (.c (.int .i64 b.cols)) := by cases b; rfl
@[simp] theorem Nd.vg_2 (h : 2 < b.vs.length) : b.vs[2]'h = .c (.int .i64 b.cols) := by cases b; rfl
@[simp] theorem Nd.vs_3 : b.vs[3]? = some (.c (.sl (Nd.rows b.kids))) := by cases b; rfl
@[simp] theorem Nd.vg_3 (h : 3 < b.vs.length) : b.vs[3]'h = .c (.sl (Nd.rows b.kids)) := by cases b; rfl
@[simp] theorem Nd.vs_pubs : V.pubs b.vs = some b.vs := pubs_c b.row
@[simp] theorem Nd.vs_toCs : toCs b.vs = some b.row := toCs_c b.row
@[simp] theorem Nd.vs_put (cs : List V) (h : cs.length = 4) : putL cs 0 b.vs = b.vs := putL_all (by simp [h])
@[simp] theorem Nd.row_len : b.row.length = 4 := by cases b; rfl
@[simp] theorem Nd.row_map : b.row.map V.c = b.vs := rfl
@[simp] theorem Nd.row_take : b.row.take 4 = b.row := List.take_of_length_le (by simp)
@[simp] theorem Nd.row_0 : b.row[0]? = some (.int .i64 b.kind) := by cases b; rfl
@[simp] theorem Nd.row_1 : b.row[1]? = some (.str b.text) := by cases b; rfl
@[simp] theorem Nd.row_2 : b.row[2]? = some (.int .i64 b.cols) := by cases b; rfl
@[simp] theorem Nd.row_3 : b.row[3]? = some (.sl (Nd.rows b.kids)) := by cases b; rfl
@[simp] theorem Nd.vs_bnds (n : Nat) : V.bnds n b.vs = true := by cases b; simp [Nd.vs, Nd.row, V.bnds, V.bnd]
@[simp] theorem Nd.vs_frzs (k : Nat) (row : List C) : V.frzs k row b.vs = b.vs := by cases b; simp [Nd.vs, Nd.row, V.frzs, V.frz]
end
theorem nrows_len (l : List Nd) : (Nd.rows l).length = l.length := by rw [nrows_map, List.length_map]
theorem nrows_get {l : List Nd} {i : Nat} {b : Nd} (h : l[i]? = some b) : (Nd.rows l)[i]? = some b.row := by rw [nrows_map, List.getElem?_map, h]; rfl
theorem nokk_at (b : Nd) (h : b.okk) : b.text.size ≤ maxLen ∧ b.kids.length ≤ maxLen ∧ Nd.okks b.kids := by cases b; simpa only [Nd.okk] using h
theorem ncnt_at (b : Nd) : b.cnt = 1 + Nd.cnts b.kids := by cases b; rfl
theorem ndep_at (b : Nd) : b.dep = Nd.deps b.kids + 1 := by cases b; rfl
/-! what is left of a number of nodes -/
mutual
def Nd.leftI : Nd → Int → Int
  | ⟨_, _, _, kids⟩, m => Nd.leftsI kids (m - 1)
def Nd.leftsI : List Nd → Int → Int
  | [], m => m
  | b :: l, m => if 0 ≤ m then Nd.leftsI l (b.leftI m) else m
end
mutual
theorem leftI_eq : ∀ (b : Nd) (m : Int), 0 ≤ m → -1 ≤ b.leftI m ∧ b.leftI m ≤ m ∧ (0 ≤ b.leftI m → b.leftI m = m - b.cnt) ∧ ((b.cnt : Int) ≤ m → 0 ≤ b.leftI m)
  | ⟨_, _, _, kids⟩, m, hm => by
    have := leftsI_eq kids (m - 1)
    simp only [Nd.leftI, Nd.cnt]
    have h1 := this (by omega)
    refine ⟨by omega, by omega, fun h => ?_, fun h => ?_⟩
    · have := h1.2.2.1 h; omega
    · exact h1.2.2.2 (by omega) (by omega)
theorem leftsI_eq : ∀ (l : List Nd) (m : Int), -1 ≤ m → -1 ≤ Nd.leftsI l m ∧ Nd.leftsI l m ≤ m ∧ (0 ≤ Nd.leftsI l m → Nd.leftsI l m = m - Nd.cnts l) ∧ ((Nd.cnts l : Int) ≤ m → 0 ≤ m → 0 ≤ Nd.leftsI l m)
  | [], m, hm => by simp only [Nd.leftsI, Nd.cnts]; omega
  | b :: l, m, hm => by
    simp only [Nd.leftsI, Nd.cnts]
    split
    · rename_i h0
      have h1 := leftI_eq b m h0
      have h2 := leftsI_eq l (b.leftI m) h1.1
      refine ⟨by omega, by omega, fun h => ?_, fun h _ => ?_⟩
      · have h3 := h2.2.2.1 h
        have h4 := h1.2.2.1 (by omega)
        omega
      · have h3 := h1.2.2.2 (by omega)
        have h4 := h1.2.2.1 h3
        exact h2.2.2.2 (by omega) h3
    · refine ⟨by omega, by omega, fun h => by omega, fun h h0 => by omega⟩
end
theorem nfew_iff (b : Nd) (m : Int) (hm : 0 ≤ m) : decide (0 ≤ b.leftI m) = decide ((b.cnt : Int) ≤ m) := by
  have h := leftI_eq b m hm
  rw [decide_eq_decide]
  constructor
  · intro h1; have := h.2.2.1 h1; omega
  · exact h.2.2.2
/-! texts -/
def letI_ (c : Int) : Bool := decide (97 ≤ c ∧ c ≤ 122) || decide (65 ≤ c ∧ c ≤ 90)
def digI (c : Int) : Bool := decide (48 ≤ c ∧ c ≤ 57)
def prtI (c : Int) : Bool := decide (32 ≤ c ∧ c ≤ 126)
def hasB (s : ByteArray) (c : Int) : Bool := s.data.toList.any fun b => decide ((b.toNat : Int) = c)
def signsD : ByteArray := ⟨#[43, 45, 42, 47, 61, 60, 62, 44, 59, 58, 33, 124, 39, 63, 126, 64]⟩
def delimR : ByteArray := ⟨#[40, 41, 91, 93, 123, 125, 124, 60, 62, 47, 46]⟩
def delimP : ByteArray := ⟨#[40, 41, 91, 93, 123, 125, 60, 62, 47, 124, 46]⟩
def charI (c : Int) : Bool := letI_ c || hasB signsD c
def allB (p : Int → Bool) (s : ByteArray) : Bool := s.data.toList.all fun b => p b.toNat
def keywL : List ByteArray := [⟨#[102, 114, 97, 99]⟩, ⟨#[114, 111, 111, 116]⟩, ⟨#[109, 97, 116, 114, 105, 120]⟩, ⟨#[102, 101, 110, 99, 101]⟩]
def accL : List ByteArray := [⟨#[104, 97, 116]⟩, ⟨#[98, 97, 114]⟩, ⟨#[118, 101, 99]⟩, ⟨#[100, 111, 116]⟩, ⟨#[116, 105, 108, 100, 101]⟩, ⟨#[99, 104, 101, 99, 107]⟩]
def inT (l : List ByteArray) (s : ByteArray) : Bool := l.any fun t => decide (t = s)
def symB (s : ByteArray) : Bool := if s.size = 1 then allB charI s else allB letI_ s && (decide (2 ≤ s.size) && (decide (s.size ≤ 16) && (!inT keywL s && !inT accL s)))
/-- the reference's number: the points; none if a character is wrong -/
def numF (n : Nat) : List UInt8 → Nat → Int → Option Int
  | [], _, p => some p
  | b :: l, k, p => if (b.toNat : Int) = 46 ∧ 0 < k ∧ k + 1 < n then numF n l (k + 1) (p + 1) else if digI b.toNat = true then numF n l (k + 1) p else none
def numR (s : ByteArray) : Bool := match numF s.size s.data.toList 0 0 with
  | none => false
  | some p => decide (0 < s.size) && (decide (s.size ≤ 20) && decide (p ≤ 1))
def digitsB (s : ByteArray) : Bool := allB digI s && !decide (s.size = 0)
def numP (s : ByteArray) : Bool :=
  decide (s.size ≤ 20) && (if 0 ≤ Lib.indexByte s.data.toList 46 then digitsB (s.extract 0 (Lib.indexByte s.data.toList 46).toNat) && digitsB (s.extract ((Lib.indexByte s.data.toList 46).toNat + 1) s.size) else digitsB s)
def textB (k : Int) (s : ByteArray) : Bool :=
  if k = 2 then symB s
  else if k = 3 then numR s
  else if k = 4 then decide (s.size ≤ 200) && allB prtI s
  else if k = 10 then inT accL s
  else if k = 11 then decide (s.size = 2) && allB (hasB delimR) s
  else decide (s = ⟨#[]⟩)
def kidsB (k c : Int) (n : Nat) : Bool :=
  if k = 12 then decide (1 ≤ c) && (decide (c ≤ 16) && (decide (1 ≤ n) && (decide (n ≤ 256) && decide ((n : Int).tmod c = 0))))
  else if c ≠ 0 then false
  else if k = 1 then decide (n ≤ 200)
  else if k = 2 ∨ k = 3 ∨ k = 4 then decide (n = 0)
  else if k = 5 ∨ k = 6 ∨ k = 7 ∨ k = 8 then decide (n = 2)
  else if k = 9 then decide (n = 3)
  else if k = 10 ∨ k = 11 then decide (n = 1)
  else false
def Nd.ownB (b : Nd) : Bool := textB b.kind b.text && kidsB b.kind b.cols b.kids.length
/-- a kid's kind does not fit -/
def mixB (k k' : Int) : Bool := decide (k' = 1) == decide (k = 1)
mutual
def Nd.formB : Nd → Bool
  | ⟨k, t, c, kids⟩ => (textB k t && kidsB k c kids.length) && Nd.formsB k kids
def Nd.formsB (k : Int) : List Nd → Bool
  | [] => true
  | b :: l => (!mixB k b.kind && b.formB) && Nd.formsB k l
end
def Nd.validB (b : Nd) : Bool := decide (b.kind = 1) && (b.formB && (decide (b.cnt ≤ 1000) && decide (b.dep ≤ 24)))
theorem nform_at (b : Nd) : b.formB = (b.ownB && Nd.formsB b.kind b.kids) := by cases b; simp only [Nd.formB, Nd.ownB]
mutual
/-- the program's check, as its text has it: the answer, and the count then -/
def Nd.pv (dep : Nat) : Nd → Nat → Bool × Nat
  | ⟨k, t, c, kids⟩, n => if 1000 < n + 1 ∨ 24 < dep ∨ (textB k t && kidsB k c kids.length) = false then (false, n + 1) else Nd.pvs (dep + 1) k kids (n + 1)
def Nd.pvs (dep : Nat) (k : Int) : List Nd → Nat → Bool × Nat
  | [], n => (true, n)
  | b :: l, n => if mixB k b.kind = true then (false, n) else if (b.pv dep n).1 = true then Nd.pvs dep k l (b.pv dep n).2 else (false, (b.pv dep n).2)
end
mutual
theorem npv_eq (dep : Nat) : ∀ (b : Nd) (n : Nat), (b.pv dep n).2 ≤ n + b.cnt ∧ ((b.pv dep n).1 = true → (b.pv dep n).2 = n + b.cnt) ∧ ((b.pv dep n).1 = true ↔ b.formB = true ∧ n + b.cnt ≤ 1000 ∧ dep + b.dep ≤ 25)
  | ⟨k, t, c, kids⟩, n => by
    have hk := npvs_eq (dep + 1) k kids (n + 1)
    simp only [Nd.pv, Nd.cnt, Nd.formB, Nd.dep]
    obtain ⟨B, hB⟩ : ∃ B, (textB k t && kidsB k c kids.length) = B := ⟨_, rfl⟩
    rw [hB]
    have hc := ncnts_len kids
    split
    · rename_i hq
      refine ⟨by simp only; omega, fun h => (by cases h), ⟨fun h => (by cases h), fun h => ?_⟩⟩
      simp only [Bool.and_eq_true] at h
      rcases hq with hq | hq | hq
      · omega
      · omega
      · rw [hq] at h; cases h.1.1
    · rename_i hq
      have h1 : B = true := by cases B with
        | true => rfl
        | false => exact absurd (.inr (.inr rfl)) hq
      refine ⟨by omega, fun h => by have := hk.2.1 h; omega, ?_⟩
      rw [hk.2.2, h1, Bool.true_and]
      have hdep : dep ≤ 24 := Nat.le_of_not_lt fun h => hq (.inr (.inl h))
      have hcc : n + 1 ≤ 1000 := Nat.le_of_not_lt fun h => hq (.inl h)
      constructor
      · rintro ⟨a1, a2, a3⟩
        refine ⟨a1, ?_, ?_⟩
        · rcases a2 with a2 | rfl
          · omega
          · simp only [Nd.cnts]; omega
        · rcases a3 with rfl | a3
          · simp only [Nd.deps]; omega
          · omega
      · rintro ⟨a1, a2, a3⟩
        exact ⟨a1, .inl (by omega), .inr (by omega)⟩
theorem npvs_eq (dep : Nat) (k : Int) : ∀ (l : List Nd) (n : Nat), (Nd.pvs dep k l n).2 ≤ n + Nd.cnts l ∧ ((Nd.pvs dep k l n).1 = true → (Nd.pvs dep k l n).2 = n + Nd.cnts l) ∧ ((Nd.pvs dep k l n).1 = true ↔ Nd.formsB k l = true ∧ (n + Nd.cnts l ≤ 1000 ∨ l = []) ∧ (l = [] ∨ dep + Nd.deps l ≤ 25))
  | [], n => by simp [Nd.pvs, Nd.cnts, Nd.formsB]
  | b :: l, n => by
    have h1 := npv_eq dep b n
    have h2 := npvs_eq dep k l (b.pv dep n).2
    have hp := ncnt_pos b
    simp only [Nd.pvs, Nd.cnts, Nd.formsB, Nd.deps]
    by_cases hm : mixB k b.kind = true
    · rw [if_pos hm, hm]
      refine ⟨by simp only; omega, fun h => (by cases h), ⟨fun h => (by cases h), fun h => ?_⟩⟩
      simp at h
    rw [if_neg hm]
    have hm' : mixB k b.kind = false := by simpa using hm
    rw [hm', Bool.not_false, Bool.true_and]
    split
    · rename_i hq
      have e := h1.2.1 hq
      rw [e] at h2
      obtain ⟨p1, p2, p3⟩ := h1.2.2.1 hq
      rw [e]
      refine ⟨by omega, fun h => by have := h2.2.1 h; omega, ?_⟩
      rw [h2.2.2, p1, Bool.true_and]
      constructor
      · rintro ⟨a1, a2, a3⟩
        refine ⟨a1, .inl ?_, .inr ?_⟩
        · rcases a2 with a2 | rfl
          · omega
          · simp only [Nd.cnts]; omega
        · rcases a3 with rfl | a3
          · simp only [Nd.deps]; omega
          · omega
      · rintro ⟨a1, a2, a3⟩
        simp only [reduceCtorEq, or_false, false_or] at a2 a3
        exact ⟨a1, .inl (by omega), .inr (by omega)⟩
    · rename_i hq
      refine ⟨by simp only; omega, fun h => (by cases h), ⟨fun h => (by cases h), fun h => ?_⟩⟩
      simp only [Bool.and_eq_true, reduceCtorEq, or_false, false_or] at h
      exact absurd (h1.2.2.2 ⟨h.1.1, by omega, by omega⟩) hq
end
theorem npv_valid (b : Nd) (h1 : b.kind = 1) : (b.pv 1 0).1 = b.validB := by
  have h := (npv_eq 1 b 0).2.2
  unfold Nd.validB
  rw [Bool.eq_iff_iff, h]
  simp only [Bool.and_eq_true, decide_eq_true_eq]
  constructor
  · rintro ⟨a, b, c⟩; exact ⟨h1, a, by omega, by omega⟩
  · rintro ⟨_, a, b, c⟩; exact ⟨a, by omega, by omega⟩
/-! numbers: both say the same -/
theorem numF_no (n : Nat) : ∀ (w r : List UInt8) (k : Nat) (p : Int), (∀ b ∈ w, ¬ (b.toNat : Int) = 46) → numF n (w ++ r) k p = if w.all (fun b => digI b.toNat) = true then numF n r (k + w.length) p else none
  | [], r, k, p, _ => by simp
  | b :: w, r, k, p, h => by
    have hb := h b List.mem_cons_self
    simp only [List.cons_append, numF]
    rw [if_neg (fun e => hb e.1)]
    rw [numF_no n w r (k + 1) p (fun x hx => h x (List.mem_cons_of_mem _ hx))]
    rw [List.length_cons, show k + 1 + w.length = k + (w.length + 1) by omega]
    by_cases hd : digI b.toNat = true
    · rw [if_pos hd]; simp only [List.all_cons, hd, Bool.true_and]
    · rw [if_neg hd]; simp [hd]
theorem dig_46 : digI 46 = false := by decide
theorem numF_cnt (n : Nat) : ∀ (l : List UInt8) (k : Nat) (p q : Int), numF n l k p = some q → p ≤ q ∧ ((∃ b ∈ l, (b.toNat : Int) = 46) → p + 1 ≤ q)
  | [], k, p, q, h => by simp [numF] at h; subst h; simp
  | b :: l, k, p, q, h => by
    simp only [numF] at h
    split at h
    · rename_i hb
      have := (numF_cnt n l (k + 1) (p + 1) q h).1
      exact ⟨by omega, fun _ => by omega⟩
    · split at h
      · rename_i hd
        have := numF_cnt n l (k + 1) p q h
        refine ⟨this.1, fun ⟨x, hx, e⟩ => ?_⟩
        rcases List.mem_cons.1 hx with rfl | hx
        · rw [e, dig_46] at hd; cases hd
        · exact this.2 ⟨x, hx, e⟩
      · cases h
theorem idx_split : ∀ (l : List UInt8) (c : UInt8), (Lib.indexByte l c = -1 ∧ ∀ b ∈ l, b ≠ c) ∨ ∃ w r, l = w ++ c :: r ∧ Lib.indexByte l c = w.length ∧ ∀ b ∈ w, b ≠ c
  | [], c => .inl ⟨rfl, by simp⟩
  | b :: l, c => by
    by_cases h : b = c
    · subst h
      exact .inr ⟨[], l, rfl, by simp [Lib.indexByte], by simp⟩
    · rcases idx_split l c with ⟨h1, h2⟩ | ⟨w, r, h1, h2, h3⟩
      · refine .inl ⟨by simp [Lib.indexByte, h, h1], fun x hx => ?_⟩
        rcases List.mem_cons.1 hx with rfl | hx
        · exact h
        · exact h2 x hx
      · refine .inr ⟨b :: w, r, by rw [h1]; rfl, ?_, fun x hx => ?_⟩
        · simp only [Lib.indexByte, beq_iff_eq, h, if_false, h2]
          rw [if_neg (by omega)]
          simp
        · rcases List.mem_cons.1 hx with rfl | hx
          · exact h
          · exact h3 x hx
theorem n46 {b : UInt8} (h : b ≠ 46) : ¬ (b.toNat : Int) = 46 := fun e => h (UInt8.toNat_inj.1 (by have : (46 : UInt8).toNat = 46 := rfl; omega))
theorem allB_ex (p : Int → Bool) (s : ByteArray) (a e : Nat) : allB p (s.extract a e) = ((s.data.toList.drop a).take (e - a)).all fun b => p b.toNat := by
  unfold allB
  rw [ByteArray.data_extract, Array.toList_extract]
theorem numP_eq (s : ByteArray) : numP s = numR s := by
  obtain ⟨l, hl⟩ : ∃ l, s.data.toList = l := ⟨_, rfl⟩
  have hs : s.size = l.length := by rw [← hl]; simp
  unfold numP numR
  rw [hl]
  rcases idx_split l 46 with ⟨h1, h2⟩ | ⟨w, r, h1, h2, h3⟩
  · rw [h1, if_neg (by omega)]
    have hn := numF_no s.size l [] 0 0 (fun b hb => n46 (h2 b hb))
    rw [List.append_nil] at hn
    rw [hn]
    unfold digitsB allB
    rw [hl]
    cases l.all (fun b => digI b.toNat) with
    | false => simp
    | true =>
      simp only [if_true, numF, Bool.true_and]
      rw [Bool.eq_iff_iff]
      simp only [Bool.and_eq_true, decide_eq_true_eq, Bool.not_eq_true', decide_eq_false_iff_not, Bool.true_and, List.length_append, List.length_cons]
      omega
  · rw [h2, if_pos (by omega)]
    have hw : ∀ b ∈ w, ¬ (b.toNat : Int) = 46 := fun b hb => n46 (h3 b hb)
    have hlen : l.length = w.length + (r.length + 1) := by rw [h1]; simp
    rw [h1, numF_no s.size w (46 :: r) 0 0 hw]
    unfold digitsB
    rw [allB_ex, allB_ex, hl, h1]
    have e1 : (((w ++ 46 :: r).drop 0).take ((w.length : Int).toNat - 0)) = w := by simp
    have e2 : (((w ++ 46 :: r).drop ((w.length : Int).toNat + 1)).take (s.size - ((w.length : Int).toNat + 1))) = r := by
      rw [hs, hlen]
      have : (w ++ 46 :: r).drop ((w.length : Int).toNat + 1) = r := by
        rw [show (w.length : Int).toNat + 1 = w.length + 1 by simp, List.drop_append]
        simp
      rw [this]
      exact List.take_of_length_le (by simp; omega)
    rw [e1, e2]
    have z1 : (s.extract 0 (w.length : Int).toNat).size = w.length := by rw [ByteArray.size_extract]; simp; omega
    have z2 : (s.extract ((w.length : Int).toNat + 1) s.size).size = r.length := by rw [ByteArray.size_extract]; simp; omega
    rw [z1, z2]
    cases hwd : w.all (fun b => digI b.toNat) with
    | false => simp
    | true =>
      rw [if_pos rfl]
      simp only [numF, Nat.zero_add, Bool.true_and]
      by_cases c1 : 0 < w.length ∧ w.length + 1 < s.size
      · rw [if_pos ⟨by decide, c1⟩]
        have hr0 : 0 < r.length := by omega
        by_cases hr : ∀ b ∈ r, b ≠ 46
        · have hn := numF_no s.size r [] (w.length + 1) 1 (fun b hb => n46 (hr b hb))
          rw [List.append_nil] at hn
          rw [show (0 : Int) + 1 = 1 from rfl, hn]
          cases r.all (fun b => digI b.toNat) with
          | false => simp
          | true =>
            simp only [if_true, numF]
            rw [Bool.eq_iff_iff]
            simp only [Bool.and_eq_true, decide_eq_true_eq, Bool.not_eq_true', decide_eq_false_iff_not, Bool.true_and, List.length_append, List.length_cons]
            omega
        · have hx : ∃ b ∈ r, (b.toNat : Int) = 46 := by
            simp only [ne_eq, Classical.not_forall, Classical.not_not] at hr
            obtain ⟨b, hb, rfl⟩ := hr
            exact ⟨_, hb, rfl⟩
          have hd : r.all (fun b => digI b.toNat) = false := by
            obtain ⟨b, hb, e⟩ := hx
            rw [List.all_eq_false]
            exact ⟨b, hb, by rw [e, dig_46]; simp⟩
          rw [hd]
          simp only [Bool.false_and, Bool.and_false]
          cases hf : numF s.size r (w.length + 1) (0 + 1) with
          | none => rfl
          | some q =>
            have := (numF_cnt _ _ _ _ _ hf).2 hx
            simp
            omega
      · rw [if_neg (fun h => c1 h.2)]
        have e46 : ((46 : UInt8).toNat : Int) = 46 := rfl
        rw [e46, dig_46]
        have hz : w.length = 0 ∨ r.length = 0 := by omega
        rcases hz with hz | hz <;> simp only [hz, Bool.false_eq_true, if_false, decide_true, Bool.not_true, Bool.and_false, Bool.false_and]
end Go.Proofs.YtnpenchciinmmaaGreat
