/-
  variant.assembly on the abstract machine: plain lemmas.
-/
import Derived.Test.YthbcljjpmdfflaaVm
import Derived.Test.YthbcljjpmdfflaaVl
namespace Go.Proofs.Ythbcljjpmdfflaa
open Go.RowKit
set_option linter.unusedSimpArgs false
set_option linter.unusedVariables false
set_option maxRecDepth 100000

theorem putL_mid : ∀ (vs cs pre post : List V), cs.length = vs.length → putL (pre ++ cs ++ post) pre.length vs = pre ++ vs ++ post
  | [], cs, pre, post, h => by have : cs = [] := List.eq_nil_of_length_eq_zero h; subst this; simp [putL]
  | v :: vs, [], pre, post, h => by simp at h
  | v :: vs, c :: cs, pre, post, h => by
    have ih := putL_mid vs cs (pre ++ [v]) post (by simpa using h)
    simp only [List.length_append, List.length_cons, List.length_nil, Nat.zero_add] at ih
    simp only [putL]
    rw [show (pre ++ c :: cs ++ post).set pre.length v = pre ++ [v] ++ cs ++ post by simp, ih]
    simp
/-- the boxes of the parts, k of them laid -/
def bxC (f : Font) (p : Int) (l : List Part) (k : Nat) : List V := ((l.take k).map fun q => (sizedR f q.name p).1.row.map V.c).flatten ++ (List.replicate (l.length - k) zboxC).flatten
def htC (f : Font) (l : List Part) (k : Nat) : List V := ((l.take k).map fun q => [V.c (.int .i64 (f.pick q.name).height)]).flatten ++ (List.replicate (l.length - k) [V.c (.int .i64 0)]).flatten
theorem row_len : ∀ b : Box, b.row.length = 11 := by rintro ⟨_, _, _, _, _, _, _, _, _, _, _⟩; rfl
theorem bxC_len (f : Font) (p : Int) (l : List Part) (k : Nat) (h : k ≤ l.length) : (bxC f p l k).length = l.length * 11 := by
  unfold bxC
  rw [List.length_append, flat_len (es := 11), flat_len (es := 11)]
  · simp only [List.length_map, List.length_take, List.length_replicate, Nat.min_eq_left h, ← Nat.add_mul]
    congr 1
    omega
  · intro r hr; rw [List.eq_of_mem_replicate hr]; rfl
  · intro r hr
    obtain ⟨q, _, rfl⟩ := List.mem_map.1 hr
    rw [List.length_map, row_len]
theorem htC_len (f : Font) (l : List Part) (k : Nat) (h : k ≤ l.length) : (htC f l k).length = l.length := by
  unfold htC
  rw [List.length_append, flat_len (es := 1), flat_len (es := 1)]
  · simp only [List.length_map, List.length_take, List.length_replicate, Nat.min_eq_left h]
    omega
  · intro r hr; rw [List.eq_of_mem_replicate hr]; rfl
  · intro r hr
    obtain ⟨q, _, rfl⟩ := List.mem_map.1 hr
    rfl
theorem bxC_put (f : Font) (p : Int) (l : List Part) (k : Nat) (h : k < l.length) : putL (bxC f p l k) (k * 11) ((sizedR f l[k].name p).1.row.map V.c) = bxC f p l (k + 1) := by
  have hpl : (((l.take k).map fun q => (sizedR f q.name p).1.row.map V.c).flatten).length = k * 11 := by
    rw [flat_len (es := 11)]
    · simp only [List.length_map, List.length_take, Nat.min_eq_left (Nat.le_of_lt h)]
    · intro r hr
      obtain ⟨q, _, rfl⟩ := List.mem_map.1 hr
      rw [List.length_map, row_len]
  have e : l.length - k = (l.length - (k + 1)) + 1 := by omega
  unfold bxC
  rw [e, List.replicate_succ, List.flatten_cons, ← List.append_assoc, ← hpl, putL_mid _ _ _ _ (by rw [List.length_map, row_len]; rfl), List.take_succ_eq_append_getElem h, List.map_append, List.flatten_append]
  simp
theorem htC_put (f : Font) (l : List Part) (k : Nat) (h : k < l.length) : putL (htC f l k) k [V.c (.int .i64 (f.pick l[k].name).height)] = htC f l (k + 1) := by
  have hpl : (((l.take k).map fun q => [V.c (.int .i64 (f.pick q.name).height)]).flatten).length = k := by
    rw [flat_len (es := 1)]
    · simp only [List.length_map, List.length_take, Nat.min_eq_left (Nat.le_of_lt h), Nat.mul_one]
    · intro r hr
      obtain ⟨q, _, rfl⟩ := List.mem_map.1 hr
      rfl
  have e : l.length - k = (l.length - (k + 1)) + 1 := by omega
  unfold htC
  rw [e, List.replicate_succ, List.flatten_cons, ← List.append_assoc]
  conv => lhs; arg 2; rw [← hpl]
  rw [putL_mid _ [V.c (.int .i64 0)] _ _ (by simp), List.take_succ_eq_append_getElem h, List.map_append, List.flatten_append]
  simp

theorem scale_nn {n p : Int} (h1 : 0 ≤ n) (h2 : 0 ≤ p) : 0 ≤ scale n p := by
  unfold scale
  split
  · unfold rnd
    rw [if_pos (Int.mul_nonneg h1 h2)]
    have := Int.mul_nonneg h1 h2
    omega
  · omega
theorem pick_w {f : Font} (h : f.valid = true) (name : ByteArray) : 0 ≤ (f.pick name).w := by
  have key : ∀ g ∈ f.glyphs, 0 ≤ g.w := by
    intro g hg
    have := valid_glyphs h g hg
    simp [glyphOk, inB] at this
    omega
  unfold Font.pick
  cases h1 : f.find name with
  | some g => exact key g (findO_mem h1)
  | none =>
    cases h2 : f.find ⟨#[63]⟩ with
    | some g => exact key g (findO_mem h2)
    | none => simp [Glyph.zero]
theorem width_b {f : Font} (hv : f.valid = true) {p : Int} (h1 : 1 ≤ p) (h2 : p ≤ 100) (name : ByteArray) : 0 ≤ (sizedR f name p).1.w ∧ (sizedR f name p).1.w ≤ 400000 ∧ -200000 ≤ (sizedR f name p).1.d ∧ (sizedR f name p).1.d ≤ 200000 := by
  rw [(sizedR_eq hv h1 h2 name).1]
  have h3 := scaled_b hv h1 h2 name
  have h4 := pick_w hv name
  have h5 : 0 ≤ ((f.pick name).scaled p).w := scale_nn h4 (by omega)
  have hs := pick_small hv name
  unfold Glyph.Small at hs
  have h6 := scale_small (f.pick name).italic p (by omega) (by omega) h1 (by omega)
  simp only [glyphBox, mx]
  have e : ((f.pick name).scaled p).italic = scale (f.pick name).italic p := rfl
  rw [e]
  split <;> omega
theorem bnds_all (n : Nat) : ∀ l : List V, V.bnds n l = true ↔ ∀ v ∈ l, v.bnd n = true
  | [] => by simp [V.bnds]
  | v :: l => by simp [V.bnds, bnds_all n l]
theorem bxC_bnd (n : Nat) (f : Font) (p : Int) (l : List Part) (k : Nat) : V.bnds n (bxC f p l k) = true := by
  rw [bnds_all]
  intro v hv
  unfold bxC at hv
  rcases List.mem_append.1 hv with h | h
  · obtain ⟨r, hr, hv⟩ := List.mem_flatten.1 h
    obtain ⟨q, _, rfl⟩ := List.mem_map.1 hr
    obtain ⟨c, _, rfl⟩ := List.mem_map.1 hv
    rfl
  · obtain ⟨r, hr, hv⟩ := List.mem_flatten.1 h
    rw [List.eq_of_mem_replicate hr] at hv
    simp only [zboxC, List.mem_cons, List.not_mem_nil, or_false] at hv
    rcases hv with rfl | rfl | rfl | rfl | rfl | rfl | rfl | rfl | rfl | rfl | rfl <;> rfl
theorem htC_bnd (n : Nat) (f : Font) (l : List Part) (k : Nat) : V.bnds n (htC f l k) = true := by
  rw [bnds_all]
  intro v hv
  unfold htC at hv
  rcases List.mem_append.1 hv with h | h
  · obtain ⟨r, hr, hv⟩ := List.mem_flatten.1 h
    obtain ⟨q, _, rfl⟩ := List.mem_map.1 hr
    simp only [List.mem_singleton] at hv
    subst hv
    rfl
  · obtain ⟨r, hr, hv⟩ := List.mem_flatten.1 h
    rw [List.eq_of_mem_replicate hr] at hv
    simp only [List.mem_singleton] at hv
    subst hv
    rfl
/-- all boxes are laid: data -/
def bxs (f : Font) (p : Int) (l : List Part) : List (List C) := l.map fun q => (sizedR f q.name p).1.row
def hts (f : Font) (l : List Part) : List (List C) := l.map fun q => [.int .i64 (f.pick q.name).height]
theorem toCs_map : ∀ l : List C, toCs (l.map V.c) = some l
  | [] => rfl
  | c :: l => by simp only [List.map_cons, toCs, toC, toCs_map l]
theorem flat_map_c : ∀ l : List (List C), (l.map (List.map V.c)).flatten = l.flatten.map V.c
  | [] => rfl
  | r :: l => by simp only [List.map_cons, List.flatten_cons, List.map_append, flat_map_c l]
theorem bxC_all (f : Font) (p : Int) (l : List Part) : toCs (bxC f p l l.length) = some (bxs f p l).flatten := by
  have e : bxC f p l l.length = (bxs f p l).flatten.map V.c := by
    unfold bxC bxs
    rw [List.take_length, Nat.sub_self, List.replicate_zero, List.flatten_nil, List.append_nil, ← flat_map_c, List.map_map]
    rfl
  rw [e, toCs_map]
theorem htC_all (f : Font) (l : List Part) : toCs (htC f l l.length) = some (hts f l).flatten := by
  have e : htC f l l.length = (hts f l).flatten.map V.c := by
    unfold htC hts
    rw [List.take_length, Nat.sub_self, List.replicate_zero, List.flatten_nil, List.append_nil, ← flat_map_c, List.map_map]
    rfl
  rw [e, toCs_map]
theorem bxs_chop (f : Font) (p : Int) (l : List Part) : chop 11 l.length (bxs f p l).flatten = bxs f p l := by
  have := chop_rows_eq (es := 11) (bxs f p l) (by intro r hr; obtain ⟨q, _, rfl⟩ := List.mem_map.1 hr; exact row_len _)
  rwa [show (bxs f p l).length = l.length by simp [bxs]] at this
theorem hts_chop (f : Font) (l : List Part) : chop 1 l.length (hts f l).flatten = hts f l := by
  have := chop_rows_eq (es := 1) (hts f l) (by intro r hr; obtain ⟨q, _, rfl⟩ := List.mem_map.1 hr; rfl)
  rwa [show (hts f l).length = l.length by simp [hts]] at this
theorem frzs_vs (k : Nat) (row : List C) : ∀ l : List C, V.frzs k row (l.map V.c) = l.map V.c
  | [] => rfl
  | c :: l => by simp only [List.map_cons, V.frzs, V.frz, frzs_vs k row l]
@[simp] theorem frzs_font (k : Nat) (row : List C) (f : Font) : V.frzs k row f.vs = f.vs := frzs_vs k row f.row
theorem frzs_bx (k : Nat) (row : List C) (f : Font) (p : Int) (l : List Part) : V.frzs k row (bxC f p l l.length) = bxC f p l l.length := by
  have e : bxC f p l l.length = (bxs f p l).flatten.map V.c := by
    unfold bxC bxs
    rw [List.take_length, Nat.sub_self, List.replicate_zero, List.flatten_nil, List.append_nil, ← flat_map_c, List.map_map]
    rfl
  rw [e, frzs_vs]
theorem frzs_ht (k : Nat) (row : List C) (f : Font) (l : List Part) : V.frzs k row (htC f l l.length) = htC f l l.length := by
  have e : htC f l l.length = (hts f l).flatten.map V.c := by
    unfold htC hts
    rw [List.take_length, Nat.sub_self, List.replicate_zero, List.flatten_nil, List.append_nil, ← flat_map_c, List.map_map]
    rfl
  rw [e, frzs_vs]
/-- where the next piece begins -/
def bot (f : Font) (ov : Int) : Int → List Part → Int
  | b, [] => b
  | b, q :: l => bot f ov (b + ((f.pick q.name).height - ov)) l
theorem bot_snoc (f : Font) (ov : Int) : ∀ (l : List Part) (b : Int) (q : Part), bot f ov b (l ++ [q]) = bot f ov b l + ((f.pick q.name).height - ov)
  | [], b, q => rfl
  | x :: l, b, q => by simp only [List.cons_append, bot]; exact bot_snoc f ov l _ q
theorem kids_snoc (f : Font) (ov p : Int) : ∀ (l : List Part) (b : Int) (q : Part), asmKids f ov p b (l ++ [q]) = asmKids f ov p b l ++ [pieceBox f p (bot f ov b l) q]
  | [], b, q => rfl
  | x :: l, b, q => by simp only [List.cons_append, asmKids, bot]; rw [kids_snoc f ov p l _ q]
theorem kids_len (f : Font) (ov p : Int) : ∀ (l : List Part) (b : Int), (asmKids f ov p b l).length = l.length
  | [], b => rfl
  | x :: l, b => by simp only [asmKids, List.length_cons, kids_len f ov p l]
theorem bot_bound (f : Font) (ov : Int) (A : Int) : ∀ (l : List Part) (b : Int), (∀ q ∈ l, 0 ≤ (f.pick q.name).height - ov ∧ (f.pick q.name).height - ov ≤ A) → b ≤ bot f ov b l ∧ bot f ov b l ≤ b + A * (l.length : Int)
  | [], b, _ => by simp [bot]
  | q :: l, b, h => by
    have h1 := h q (by simp)
    have ih := bot_bound f ov A l (b + ((f.pick q.name).height - ov)) fun q hq => h q (by simp [hq])
    simp only [bot, List.length_cons]
    have : A * ((l.length + 1 : Nat) : Int) = A * (l.length : Int) + A := by rw [Int.natCast_add, Int.mul_add]; simp
    omega
theorem pieces_flat (r : Int) : ∀ l : List Part, piecesL r l = l.flatMap fun q => List.replicate (times r q).toNat q
  | [] => rfl
  | q :: l => by simp only [piecesL, List.flatMap_cons, pieces_flat r l]
theorem whole_map (r : Int) (l : List Part) : (whole r l).map (fun i => l[i]) = piecesL r l := by
  rw [pieces_flat]
  unfold whole upto
  rw [List.take_of_length_le (by simp), List.map_flatMap]
  have e : (List.finRange l.length).map (fun i => l[i]) = l := by
    apply List.ext_getElem
    · simp
    · intro i h1 h2; simp
  conv => rhs; rw [← e]
  rw [List.flatMap_map]
  congr 1
  funext i
  simp [pcs]
theorem maxW_le : ∀ (l : List Box) (m : Int), m ≤ maxW m l ∧ ∀ b ∈ l, b.w ≤ maxW m l
  | [], m => by simp [maxW]
  | b :: l, m => by
    have ih := maxW_le l (mx m b.w)
    have h1 : m ≤ mx m b.w ∧ b.w ≤ mx m b.w := by unfold mx; split <;> omega
    simp only [maxW]
    refine ⟨by omega, fun x hx => ?_⟩
    rcases List.mem_cons.1 hx with rfl | hx
    · omega
    · exact ih.2 x hx
theorem maxW_from : ∀ (l : List Box) (m k : Int), k ≤ m → (m = k ∨ ∃ b ∈ l, m ≤ b.w) → maxW m l = maxW k l
  | [], m, k, h, hm => by
    rcases hm with rfl | ⟨b, hb, _⟩
    · rfl
    · cases hb
  | b :: l, m, k, h, hm => by
    simp only [maxW]
    refine maxW_from l _ _ (by unfold mx; split <;> split <;> omega) ?_
    by_cases h1 : m ≤ b.w
    · left; unfold mx; split <;> split <;> omega
    · rcases hm with rfl | ⟨c, hc, hw⟩
      · exact .inl rfl
      · rcases List.mem_cons.1 hc with rfl | hc
        · omega
        · right; exact ⟨c, hc, by unfold mx; split <;> omega⟩
theorem kids_w (f : Font) (ov p : Int) : ∀ (l : List Part) (b : Int) (q : Part), q ∈ l → ∃ k ∈ asmKids f ov p b l, k.w = (sizedR f q.name p).1.w
  | [], b, q, h => by cases h
  | x :: l, b, q, h => by
    simp only [asmKids]
    rcases List.mem_cons.1 h with rfl | h
    · exact ⟨_, List.mem_cons_self, rfl⟩
    · obtain ⟨k, hk, e⟩ := kids_w f ov p l _ q h
      exact ⟨k, List.mem_cons_of_mem _ hk, e⟩
theorem mem_pieces {r : Int} (h1 : 1 ≤ r) : ∀ {l : List Part} {q : Part}, q ∈ l → q ∈ piecesL r l
  | x :: l, q, h => by
    simp only [piecesL, List.mem_append]
    rcases List.mem_cons.1 h with rfl | h
    · left
      rw [List.mem_replicate]
      refine ⟨?_, rfl⟩
      unfold times
      split <;> omega
    · exact .inr (mem_pieces h1 h)
theorem bxs_get {f : Font} {p : Int} {l : List Part} {i : Nat} (h : i < l.length) : ∀ h', (bxs f p l)[i]'h' = (sizedR f l[i].name p).1.row := by simp [bxs]
theorem hts_get {f : Font} {l : List Part} {i : Nat} (h : i < l.length) : ∀ h', (hts f l)[i]'h' = [.int .i64 (f.pick l[i].name).height] := by simp [hts]
@[simp] theorem bxs_len (f : Font) (p : Int) (l : List Part) : (bxs f p l).length = l.length := by simp [bxs]
@[simp] theorem hts_len (f : Font) (l : List Part) : (hts f l).length = l.length := by simp [hts]
/-- all slots are forgotten -/
theorem subT_any : ∀ t : List V, subT t (List.replicate t.length .any)
  | [] => rfl
  | v :: t => ⟨.inl rfl, subT_any t⟩
theorem bnds_any (n : Nat) : ∀ k : Nat, V.bnds n (List.replicate k .any) = true
  | 0 => rfl
  | k + 1 => by simp only [List.replicate_succ, V.bnds, V.bnd, Bool.true_and, bnds_any n k]
theorem Le.hide {m : Mo} {t : List V} {h h' : List O} (n : Nat) (hn : m.n0 ≤ n) (hh : h.take n = h') (ho : (h'.all (O.bnd n)) = true) : Le m ⟨t, h⟩ ⟨List.replicate t.length .any, h'⟩ := Le.wdrop n hn (subT_any t) hh (bnds_any n _) ho
theorem adraw_nil {P : Program} {ops : List Oper} {K : List Ef → St → Prop} {acc : List Ef} {s : St} (h : K acc s) : adraw P ops K [] acc s := h
def zrowC : List C := [.int .i64 0, .str ⟨#[]⟩, .int .i64 0, .int .i64 0, .int .i64 0, .int .i64 0, .int .i64 0, .int .i64 0, .sl [], .int .i64 0, .sl []]
theorem cool_c (k es n : Nat) (row : List C) (l : List C) : (l.map V.c).map (V.cool k es n row) = l.map V.c := by
  rw [List.map_map]; rfl
theorem vs_cool (k es n : Nat) (row : List C) (f : Font) : f.vs.map (V.cool k es n row) = f.vs := cool_c k es n row f.row
theorem bxC_cool (k es n : Nat) (row : List C) (f : Font) (p : Int) (l : List Part) : (bxC f p l l.length).map (V.cool k es n row) = bxC f p l l.length := by
  have e : bxC f p l l.length = (bxs f p l).flatten.map V.c := by
    unfold bxC bxs
    rw [List.take_length, Nat.sub_self, List.replicate_zero, List.flatten_nil, List.append_nil, ← flat_map_c, List.map_map]
    rfl
  rw [e, cool_c]
theorem htC_cool (k es n : Nat) (row : List C) (f : Font) (l : List Part) : (htC f l l.length).map (V.cool k es n row) = htC f l l.length := by
  have e : htC f l l.length = (hts f l).flatten.map V.c := by
    unfold htC hts
    rw [List.take_length, Nat.sub_self, List.replicate_zero, List.flatten_nil, List.append_nil, ← flat_map_c, List.map_map]
    rfl
  rw [e, cool_c]
end Go.Proofs.Ythbcljjpmdfflaa
