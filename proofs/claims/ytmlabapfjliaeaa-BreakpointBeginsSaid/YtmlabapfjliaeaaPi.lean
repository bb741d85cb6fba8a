/-
  Dictionaries (layer 8) on the abstract machine: what is valid, the entry of a text.
-/
import Derived.Test.YtmlabapfjliaeaaPb
import Derived.Test.YtmlabapfjliaeaaPm
namespace Go.Proofs.Ytmlabapfjliaeaa
open Go.RowKit
set_option linter.unusedSimpArgs false
set_option linter.unusedVariables false
set_option maxRecDepth 100000

structure En where
  text : ByteArray
  cls : Int
  lim : Bool
  str : Bool
def En.row (e : En) : List C := [.str e.text, .int .i64 e.cls, .bool e.lim, .bool e.str]
def En.vs (e : En) : List V := e.row.map V.c
def enV (e : En) : V := .agg e.vs
def ensC (l : List En) : C := .sl (l.map En.row)
section
variable (b : En)
@[simp] theorem En.vs_len : b.vs.length = 4 := rfl
@[simp] theorem En.vs_flat : b.vs.all V.one = true := rfl
@[simp] theorem En.vs_take : b.vs.take 4 = b.vs := rfl
@[simp] theorem En.vs_0 : b.vs[0]? = some (.c (.str b.text)) := rfl
@[simp] theorem En.vg_0 (h : 0 < b.vs.length) : b.vs[0]'h = .c (.str b.text) := rfl
@[simp] theorem En.vs_1 : b.vs[1]? = some (.c (.int .i64 b.cls)) := rfl
@[simp] theorem En.vg_1 (h : 1 < b.vs.length) : b.vs[1]'h = .c (.int .i64 b.cls) := rfl
@[simp] theorem En.vs_pubs : V.pubs b.vs = some b.vs := pubs_c b.row
@[simp] theorem En.vs_toCs : toCs b.vs = some b.row := toCs_c b.row
@[simp] theorem En.vs_put (cs : List V) (h : cs.length = 4) : putL cs 0 b.vs = b.vs := putL_all (by simp [h])
@[simp] theorem En.row_len : b.row.length = 4 := rfl
@[simp] theorem En.row_map : b.row.map V.c = b.vs := rfl
@[simp] theorem En.row_take : b.row.take 4 = b.row := rfl
@[simp] theorem En.row_0 : b.row[0]? = some (.str b.text) := rfl
@[simp] theorem En.row_1 : b.row[1]? = some (.int .i64 b.cls) := rfl
@[simp] theorem En.vs_bnds (n : Nat) : V.bnds n b.vs = true := rfl
@[simp] theorem En.vs_frzs (k : Nat) (row : List C) : V.frzs k row b.vs = b.vs := rfl
end
def visI (c : Int) : Bool := decide (33 ≤ c ∧ c ≤ 126)
def En.ok (e : En) : Bool := allB visI e.text && (decide (1 ≤ e.text.size) && (decide (e.text.size ≤ 16) && (decide (0 ≤ e.cls) && decide (e.cls ≤ 7))))
def hasT (l : List En) (t : ByteArray) : Bool := l.any fun e => decide (e.text = t)
def freshB : List En → List En → Bool
  | _, [] => true
  | pre, e :: r => e.ok && (!hasT pre e.text && freshB (pre ++ [e]) r)
def dictB (l : List En) : Bool := freshB [] l && decide (l.length ≤ 200)
def findE (l : List En) (t : ByteArray) : En := match l with
  | [] => ⟨t, 0, false, false⟩
  | e :: r => if e.text = t then e else findE r t
def idxE : List En → ByteArray → Int
  | [], _ => -1
  | e :: r, t => if e.text = t then 0 else if idxE r t = -1 then -1 else idxE r t + 1
theorem idxE_find : ∀ (l : List En) (t : ByteArray), (idxE l t = -1 ∧ findE l t = ⟨t, 0, false, false⟩) ∨ ∃ k : Nat, idxE l t = k ∧ l[k]? = some (findE l t)
  | [], t => .inl ⟨rfl, rfl⟩
  | e :: r, t => by
    simp only [idxE, findE]
    by_cases h : e.text = t
    · rw [if_pos h, if_pos h]; exact .inr ⟨0, rfl, rfl⟩
    · rw [if_neg h, if_neg h]
      rcases idxE_find r t with ⟨h1, h2⟩ | ⟨k, h1, h2⟩
      · rw [if_pos h1]; exact .inl ⟨rfl, h2⟩
      · rw [h1, if_neg (by omega)]
        exact .inr ⟨k + 1, by omega, by simpa using h2⟩
/-- the first index of a text, from the k-th entry on -/
theorem idxE_drop : ∀ (l : List En) (t : ByteArray) (k : Nat), (∀ (j : Nat) (e : En), j < k → l[j]? = some e → ¬ e.text = t) → idxE l t = if idxE (l.drop k) t = -1 then -1 else idxE (l.drop k) t + k
  | l, t, 0, _ => by simp only [List.drop_zero]; split <;> omega
  | [], t, k + 1, _ => by simp [idxE]
  | e :: r, t, k + 1, h => by
    have h0 : ¬ e.text = t := h 0 e (by omega) rfl
    have ih := idxE_drop r t k (fun j x hj hx => h (j + 1) x (by omega) (by simpa using hx))
    simp only [idxE, if_neg h0, List.drop_succ_cons]
    rw [ih]
    split
    · simp
    · rename_i h1
      have h2 : -1 ≤ idxE (r.drop k) t := by
        rcases idxE_find (r.drop k) t with ⟨h3, _⟩ | ⟨n, h3, _⟩ <;> omega
      rw [if_neg (by omega)]
      omega
theorem byte_at3 {s : ByteArray} {k : Nat} (h : k < s.size) : ∃ b, s.data.toList[k]? = some b ∧ s.data[k]? = some b ∧ s.data.toList.drop k = b :: s.data.toList.drop (k + 1) ∧ (k : Int) < (s.size : Int) ∧ (b.toNat < 256) := by
  have hl : k < s.data.toList.length := by simpa using h
  refine ⟨s.data.toList[k], List.getElem?_eq_getElem hl, ?_, List.drop_eq_getElem_cons hl, by omega, UInt8.toNat_lt _⟩
  rw [← Array.getElem?_toList]; exact List.getElem?_eq_getElem hl
theorem byte_end3 {s : ByteArray} {k : Nat} (h : ¬ k < s.size) : s.data.toList.drop k = [] := List.drop_of_length_le (by simp; omega)
theorem pentry_a (e : En) (hs : e.text.size ≤ maxLen) : AC Try.prog 33 [enV e] (.c (.bool e.ok)) := by
  unfold maxLen at hs
  obtain ⟨s, hs'⟩ : ∃ s, e.text = s := ⟨_, rfl⟩
  obtain ⟨cl, hcl⟩ : ∃ s, e.cls = s := ⟨_, rfl⟩
  unfold enV En.ok
  rw [hs', hcl]
  rw [hs'] at hs
  refine en Try.func33 Try.ntmps33 ?_
  have ff := (cj @hs' <| Try.results33)
  repeat any_goals (first | refine stW ?_ | exact lfW ff | refine ruW ff ?_ | refine cdW ff ?_ | ((first | refine bdW ff ?_ ?_ | refine bxW ff ?_ ?_ | refine bnW ff ?_ ?_ | refine brW ff ?_ ?_) <;> intro h <;> try (exfalso; first | omega | contradiction)))
  refine lp (ι := { k : Nat // k ≤ s.size ∧ allB visI s = (s.data.toList.drop k).all fun b => visI b.toNat }) (fun k => [(2, .c (.bool false)), (3, .c (.int .i64 (k.1 : Int)))]) (fun _ => [.box 36 e.vs false]) (fun k => s.size - k.1) ⟨0, by simp [allB]⟩ ?_ ?_
  all_goals simp only [puts, List.foldl_cons, List.foldl_nil, List.set_cons_zero, List.set_cons_succ]
  · refine Le.weak (by simp [subT])
  · rintro ⟨k, hk, hI⟩
    simp only
    by_cases hlt : k < s.size
    · obtain ⟨b, hb, hb', hd, hlt', _⟩ := byte_at3 hlt
      rw [hd, List.all_cons] at hI
      obtain ⟨c, hc⟩ : ∃ c : Int, (b.toNat : Int) = c := ⟨_, rfl⟩
      rw [hc] at hI
      cases ev1 : visI c with
      | true =>
        rw [ev1, Bool.true_and] at hI
        simp [visI] at ev1
        have ff := (cj @hs' <| cj @hlt <| cj @hlt' <| cj @hb <| cj @hb' <| cj @hc <| cj (ev1.1) <| cj (ev1.2) <| Try.results33)
        repeat any_goals (first | refine stW ?_ | exact lfW ff | refine ruW ff ?_ | refine cdW ff ?_ | ((first | refine bdW ff ?_ ?_ | refine bxW ff ?_ ?_ | refine bnW ff ?_ ?_ | refine brW ff ?_ ?_) <;> intro h <;> try (exfalso; first | omega | contradiction)))
        exact ⟨⟨k + 1, by omega, hI⟩, by simp only; omega, wd 1⟩
      | false =>
        rw [ev1, Bool.false_and] at hI
        simp [visI] at ev1
        rw [hI, Bool.false_and]
        have ff := (cj @hs' <| cj @hlt <| cj @hlt' <| cj @hb <| cj @hb' <| cj @hc <| Try.results33)
        repeat any_goals (first | refine stW ?_ | exact lfW ff | refine ruW ff ?_ | refine cdW ff ?_ | ((first | refine bdW ff ?_ ?_ | refine bxW ff ?_ ?_ | refine bnW ff ?_ ?_ | refine brW ff ?_ ?_) <;> intro h <;> try (exfalso; first | omega | contradiction)))
    · rw [byte_end3 hlt, List.all_nil] at hI
      rw [hI, Bool.true_and]
      have hlt' : ¬ (k : Int) < (s.size : Int) := by omega
      have e1 : ((s.size : Int) ≤ 16) = (s.size ≤ 16) := by rw [eq_iff_iff]; omega
      have e2 : ((1 : Int) ≤ (s.size : Int)) = (1 ≤ s.size) := by rw [eq_iff_iff]; omega
      have ff := (cj @hs' <| cj @hcl <| cj @hlt <| cj @hlt' <| cj @e1 <| cj @e2 <| Try.results33)
      repeat any_goals (first | refine stW ?_ | exact lfW ff | refine ruW ff ?_ | refine cdW ff ?_ | ((first | refine bdW ff ?_ ?_ | refine bxW ff ?_ ?_ | refine bnW ff ?_ ?_ | refine brW ff ?_ ?_) <;> intro h <;> try (exfalso; first | omega | contradiction)))
theorem rproper8_a (e : En) (hs : e.text.size ≤ maxLen) : AC Try.prog 26 [enV e] (.c (.bool e.ok)) := by
  unfold maxLen at hs
  obtain ⟨s, hs'⟩ : ∃ s, e.text = s := ⟨_, rfl⟩
  obtain ⟨cl, hcl⟩ : ∃ s, e.cls = s := ⟨_, rfl⟩
  unfold enV En.ok
  rw [hs', hcl]
  rw [hs'] at hs
  refine en Try.func26 Try.ntmps26 ?_
  have ff := (cj @hs' <| Try.results26)
  repeat any_goals (first | refine stW ?_ | exact lfW ff | refine ruW ff ?_ | refine cdW ff ?_ | ((first | refine bdW ff ?_ ?_ | refine bxW ff ?_ ?_ | refine bnW ff ?_ ?_ | refine brW ff ?_ ?_) <;> intro h <;> try (exfalso; first | omega | contradiction)))
  refine lp (ι := { k : Nat // k ≤ s.size ∧ allB visI s = (s.data.toList.drop k).all fun b => visI b.toNat }) (fun k => [(2, .c (.bool false)), (3, .c (.int .i64 (k.1 : Int)))]) (fun _ => [.box 36 e.vs false]) (fun k => s.size - k.1) ⟨0, by simp [allB]⟩ ?_ ?_
  all_goals simp only [puts, List.foldl_cons, List.foldl_nil, List.set_cons_zero, List.set_cons_succ]
  · refine Le.weak (by simp [subT])
  · rintro ⟨k, hk, hI⟩
    simp only
    by_cases hlt : k < s.size
    · obtain ⟨b, hb, hb', hd, hlt', _⟩ := byte_at3 hlt
      rw [hd, List.all_cons] at hI
      obtain ⟨c, hc⟩ : ∃ c : Int, (b.toNat : Int) = c := ⟨_, rfl⟩
      rw [hc] at hI
      cases ev1 : visI c with
      | true =>
        rw [ev1, Bool.true_and] at hI
        simp [visI] at ev1
        have ff := (cj @hs' <| cj @hlt <| cj @hlt' <| cj @hb <| cj @hb' <| cj @hc <| cj (ev1.1) <| cj (ev1.2) <| Try.results26)
        repeat any_goals (first | refine stW ?_ | exact lfW ff | refine ruW ff ?_ | refine cdW ff ?_ | ((first | refine bdW ff ?_ ?_ | refine bxW ff ?_ ?_ | refine bnW ff ?_ ?_ | refine brW ff ?_ ?_) <;> intro h <;> try (exfalso; first | omega | contradiction)))
        exact ⟨⟨k + 1, by omega, hI⟩, by simp only; omega, wd 1⟩
      | false =>
        rw [ev1, Bool.false_and] at hI
        simp [visI] at ev1
        rw [hI, Bool.false_and]
        have ff := (cj @hs' <| cj @hlt <| cj @hlt' <| cj @hb <| cj @hb' <| cj @hc <| Try.results26)
        repeat any_goals (first | refine stW ?_ | exact lfW ff | refine ruW ff ?_ | refine cdW ff ?_ | ((first | refine bdW ff ?_ ?_ | refine bxW ff ?_ ?_ | refine bnW ff ?_ ?_ | refine brW ff ?_ ?_) <;> intro h <;> try (exfalso; first | omega | contradiction)))
    · rw [byte_end3 hlt, List.all_nil] at hI
      rw [hI, Bool.true_and]
      have hlt' : ¬ (k : Int) < (s.size : Int) := by omega
      have e1 : ((s.size : Int) ≤ 16) = (s.size ≤ 16) := by rw [eq_iff_iff]; omega
      have e2 : ((1 : Int) ≤ (s.size : Int)) = (1 ≤ s.size) := by rw [eq_iff_iff]; omega
      have ff := (cj @hs' <| cj @hcl <| cj @hlt <| cj @hlt' <| cj @e1 <| cj @e2 <| Try.results26)
      repeat any_goals (first | refine stW ?_ | exact lfW ff | refine ruW ff ?_ | refine cdW ff ?_ | ((first | refine bdW ff ?_ ?_ | refine bxW ff ?_ ?_ | refine bnW ff ?_ ?_ | refine brW ff ?_ ?_) <;> intro h <;> try (exfalso; first | omega | contradiction)))
theorem hasT_take (l : List En) (t : ByteArray) : hasT l t = false ↔ ∀ (j : Nat) (e : En), l[j]? = some e → ¬ e.text = t := by
  unfold hasT
  rw [List.any_eq_false]
  constructor
  · intro h j e he
    simpa using h e (List.mem_of_getElem? he)
  · intro h e he
    obtain ⟨j, hj⟩ := List.getElem?_of_mem he
    simpa using h j e hj
set_option maxHeartbeats 1600000 in
theorem rvalid8_a (l : List En) (hl : l.length ≤ 1000000) (hs : ∀ e ∈ l, e.text.size ≤ maxLen) : AC Try.prog 18 [.c (ensC l)] (.c (.bool (dictB l))) := by
  obtain ⟨rs, hrs⟩ : ∃ rs, l.map En.row = rs := ⟨_, rfl⟩
  have hrl : rs.length = l.length := by rw [← hrs, List.length_map]
  unfold ensC dictB
  rw [hrs]
  refine en Try.func18 Try.ntmps18 ?_
  have ff := (cj @hrl <| Try.results18)
  repeat any_goals (first | refine stW ?_ | exact lfW ff | refine ruW ff ?_ | refine cdW ff ?_ | ((first | refine bdW ff ?_ ?_ | refine bxW ff ?_ ?_ | refine bnW ff ?_ ?_ | refine brW ff ?_ ?_) <;> intro h <;> try (exfalso; first | omega | contradiction)))
  refine lp (ι := { k : Nat // k ≤ l.length ∧ freshB [] l = freshB (l.take k) (l.drop k) }) (fun k => [(2, .c (.bool false)), (3, .c (.int .i64 (k.1 : Int)))]) (fun _ => []) (fun k => l.length - k.1) ⟨0, by simp⟩ ?_ ?_
  all_goals simp only [puts, List.foldl_cons, List.foldl_nil, List.set_cons_zero, List.set_cons_succ]
  · refine Le.weak (by simp [subT])
  · rintro ⟨k, hk, hI⟩
    simp only
    by_cases hlt : k < l.length
    · obtain ⟨e, he⟩ : ∃ e, l[k]? = some e := ⟨_, List.getElem?_eq_getElem hlt⟩
      have hrk : rs[k]? = some e.row := by rw [← hrs, List.getElem?_map, he]; rfl
      have hltr : k < rs.length := by omega
      have hrk' := gx hrk
      rw [List.drop_eq_getElem_cons hlt, gx he] at hI
      simp only [freshB] at hI
      have hp := rproper8_a e (hs e (List.mem_of_getElem? he))
      unfold enV at hp
      have htk : l.take k ++ [e] = l.take (k + 1) := by rw [List.take_add_one, he]; rfl
      rw [htk] at hI
      cases ho : e.ok with
      | false =>
        rw [ho] at hp hI
        rw [hI, Bool.false_and, Bool.false_and]
        have ff := (cj @hrl <| cj @hlt <| cj @hltr <| cj @hrk <| cj @hrk' <| Try.results18)
        repeat any_goals (first | refine stW ?_ | exact lfW ff | refine ruW ff ?_ | refine caW ff (hp) ?_ | refine cdW ff ?_ | ((first | refine bdW ff ?_ ?_ | refine bxW ff ?_ ?_ | refine bnW ff ?_ ?_ | refine brW ff ?_ ?_) <;> intro h <;> try (exfalso; first | omega | contradiction)))
      | true =>
        rw [ho] at hp hI
        rw [Bool.true_and] at hI
        have ff := (cj @hrl <| cj @hlt <| cj @hltr <| cj @hrk <| cj @hrk' <| Try.results18)
        repeat any_goals (first | refine stW ?_ | exact lfW ff | refine ruW ff ?_ | refine caW ff (hp) ?_ | refine cdW ff ?_ | ((first | refine bdW ff ?_ ?_ | refine bxW ff ?_ ?_ | refine bnW ff ?_ ?_ | refine brW ff ?_ ?_) <;> intro h <;> try (exfalso; first | omega | contradiction)))
        refine lp (ι := { j : Nat // j ≤ k ∧ ∀ (i : Nat) (x : En), i < j → l[i]? = some x → ¬ x.text = e.text }) (fun j => [(2, .c (.bool false)), (4, .c (.int .i64 (j.1 : Int)))]) (fun _ => []) (fun j => k - j.1) ⟨0, by simp⟩ ?_ ?_
        all_goals simp only [puts, List.foldl_cons, List.foldl_nil, List.set_cons_zero, List.set_cons_succ]
        · refine Le.weak (by simp [subT])
        · rintro ⟨j, hj, hJ⟩
          simp only
          by_cases hjk : j < k
          · obtain ⟨x, hx⟩ : ∃ x, l[j]? = some x := ⟨_, List.getElem?_eq_getElem (by omega)⟩
            have hrj : rs[j]? = some x.row := by rw [← hrs, List.getElem?_map, hx]; rfl
            have hltj : j < rs.length := by omega
            have hrj' := gx hrj
            by_cases hq : x.text = e.text
            · have hT : hasT (l.take k) e.text = true := by
                cases hc : hasT (l.take k) e.text with
                | true => rfl
                | false => exact absurd hq ((hasT_take _ _).1 hc j x (by rw [List.getElem?_take, if_pos hjk]; exact hx))
              rw [hT, Bool.not_true, Bool.false_and] at hI
              rw [hI, Bool.false_and]
              have ff := (cj @hrl <| cj @hlt <| cj @hltr <| cj @hrk <| cj @hrk' <| cj @hjk <| cj @hltj <| cj @hrj <| cj @hrj' <| cj @hq <| Try.results18)
              repeat any_goals (first | refine stW ?_ | exact lfW ff | refine ruW ff ?_ | refine cdW ff ?_ | ((first | refine bdW ff ?_ ?_ | refine bxW ff ?_ ?_ | refine bnW ff ?_ ?_ | refine brW ff ?_ ?_) <;> intro h <;> try (exfalso; first | omega | contradiction)))
            · have ff := (cj @hrl <| cj @hlt <| cj @hltr <| cj @hrk <| cj @hrk' <| cj @hjk <| cj @hltj <| cj @hrj <| cj @hrj' <| cj @hq <| Try.results18)
              repeat any_goals (first | refine stW ?_ | exact lfW ff | refine ruW ff ?_ | refine cdW ff ?_ | ((first | refine bdW ff ?_ ?_ | refine bxW ff ?_ ?_ | refine bnW ff ?_ ?_ | refine brW ff ?_ ?_) <;> intro h <;> try (exfalso; first | omega | contradiction)))
              refine ⟨⟨j + 1, by omega, fun i y hi hy => ?_⟩, by simp only; omega, wd 0⟩
              by_cases e' : i = j
              · subst e'; rw [hx] at hy; cases hy; exact hq
              · exact hJ i y (by omega) hy
          · have hT : hasT (l.take k) e.text = false := (hasT_take _ _).2 fun i x hx => by
              rw [List.getElem?_take] at hx
              split at hx
              · exact hJ i x (by omega) hx
              · cases hx
            rw [hT, Bool.not_false, Bool.true_and] at hI
            have ff := (cj @hjk <| Try.results18)
            repeat any_goals (first | refine stW ?_ | exact lfW ff | refine ruW ff ?_ | refine cdW ff ?_ | ((first | refine bdW ff ?_ ?_ | refine bxW ff ?_ ?_ | refine bnW ff ?_ ?_ | refine brW ff ?_ ?_) <;> intro h <;> try (exfalso; first | omega | contradiction)))
            exact ⟨⟨k + 1, by omega, hI⟩, by simp only; omega, wd 0⟩
    · rw [List.drop_of_length_le (by omega)] at hI
      simp only [freshB] at hI
      rw [hI, Bool.true_and]
      have e1 : ((l.length : Int) ≤ 200) = (l.length ≤ 200) := by rw [eq_iff_iff]; omega
      have ff := (cj @hrl <| cj @hlt <| cj @e1 <| Try.results18)
      repeat any_goals (first | refine stW ?_ | exact lfW ff | refine ruW ff ?_ | refine cdW ff ?_ | ((first | refine bdW ff ?_ ?_ | refine bxW ff ?_ ?_ | refine bnW ff ?_ ?_ | refine brW ff ?_ ?_) <;> intro h <;> try (exfalso; first | omega | contradiction)))
theorem rfind8_a (l : List En) (t : ByteArray) (hl : l.length ≤ 1000000) : AC Try.prog 27 [.c (ensC l), .c (.str t)] (enV (findE l t)) := by
  obtain ⟨rs, hrs⟩ : ∃ rs, l.map En.row = rs := ⟨_, rfl⟩
  have hrl : rs.length = l.length := by rw [← hrs, List.length_map]
  obtain ⟨R, hR⟩ : ∃ R, findE l t = R := ⟨_, rfl⟩
  unfold ensC enV
  rw [hrs, hR]
  refine en Try.func27 Try.ntmps27 ?_
  have ff := (cj @hrl <| Try.results27)
  repeat any_goals (first | refine stW ?_ | exact lfW ff | refine ruW ff ?_ | refine cdW ff ?_ | ((first | refine bdW ff ?_ ?_ | refine bxW ff ?_ ?_ | refine bnW ff ?_ ?_ | refine brW ff ?_ ?_) <;> intro h <;> try (exfalso; first | omega | contradiction)))
  refine lp (ι := { k : Nat // k ≤ l.length ∧ R = findE (l.drop k) t }) (fun k => [(5, .c (.int .i64 (k.1 : Int)))]) (fun _ => [.box 36 [.c (.str ⟨#[]⟩), .c (.int .i64 0), .c (.bool false), .c (.bool false)] false]) (fun k => l.length - k.1) ⟨0, by simp [hR]⟩ ?_ ?_
  all_goals simp only [puts, List.foldl_cons, List.foldl_nil, List.set_cons_zero, List.set_cons_succ]
  · refine Le.weak (by simp [subT])
  · rintro ⟨k, hk, hI⟩
    simp only
    by_cases hlt : k < l.length
    · obtain ⟨e, he⟩ : ∃ e, l[k]? = some e := ⟨_, List.getElem?_eq_getElem hlt⟩
      have hrk : rs[k]? = some e.row := by rw [← hrs, List.getElem?_map, he]; rfl
      have hltr : k < rs.length := by omega
      have hrk' := gx hrk
      rw [List.drop_eq_getElem_cons hlt, gx he] at hI
      simp only [findE] at hI
      by_cases hq : e.text = t
      · rw [if_pos hq] at hI
        have ff := (cj @hrl <| cj @hlt <| cj @hltr <| cj @hrk <| cj @hrk' <| cj @hq <| Try.results27)
        repeat any_goals (first | refine stW ?_ | exact lfW ff | refine ruW ff ?_ | refine cdW ff ?_ | ((first | refine bdW ff ?_ ?_ | refine bxW ff ?_ ?_ | refine bnW ff ?_ ?_ | refine brW ff ?_ ?_) <;> intro h <;> try (exfalso; first | omega | contradiction)))
      · rw [if_neg hq] at hI
        have ff := (cj @hrl <| cj @hlt <| cj @hltr <| cj @hrk <| cj @hrk' <| cj @hq <| Try.results27)
        repeat any_goals (first | refine stW ?_ | exact lfW ff | refine ruW ff ?_ | refine cdW ff ?_ | ((first | refine bdW ff ?_ ?_ | refine bxW ff ?_ ?_ | refine bnW ff ?_ ?_ | refine brW ff ?_ ?_) <;> intro h <;> try (exfalso; first | omega | contradiction)))
        exact ⟨⟨k + 1, by omega, hI⟩, by simp only; omega, wd 1⟩
    · rw [List.drop_of_length_le (by omega)] at hI
      simp only [findE] at hI
      subst hI
      have ff := (cj @hrl <| cj @hlt <| cj @En.vs.eq_1 <| cj @En.row.eq_1 <| Try.results27)
      repeat any_goals (first | refine stW ?_ | exact lfW ff | refine ruW ff ?_ | refine cdW ff ?_ | ((first | refine bdW ff ?_ ?_ | refine bxW ff ?_ ?_ | refine bnW ff ?_ ?_ | refine brW ff ?_ ?_) <;> intro h <;> try (exfalso; first | omega | contradiction)))
def keyB (l : List En) (k : Nat) : ByteArray → Bool := hasT (l.take k)
theorem keyB_0 (l : List En) : keyB l 0 = fun _ => false := by funext s; simp [keyB, hasT]
theorem keyB_s (l : List En) (k : Nat) (e : En) (h : l[k]? = some e) : updB (keyB l k) e.text = keyB l (k + 1) := by
  funext s
  unfold updB keyB
  rw [List.take_add_one, h]
  simp only [Option.toList_some, hasT, List.any_append, List.any_cons, List.any_nil, Bool.or_false]
  rw [Bool.or_comm]
  congr 1
  simp only [decide_eq_decide]
  exact eq_comm
set_option maxHeartbeats 3200000 in
theorem pvalid8_a (l : List En) (hl : l.length ≤ 1000000) (hs : ∀ e ∈ l, e.text.size ≤ maxLen) : AC Try.prog 23 [.c (ensC l)] (.c (.bool (dictB l))) := by
  obtain ⟨rs, hrs⟩ : ∃ rs, l.map En.row = rs := ⟨_, rfl⟩
  have hrl : rs.length = l.length := by rw [← hrs, List.length_map]
  unfold ensC dictB
  rw [hrs]
  by_cases h200 : l.length ≤ 200
  · rw [decide_eq_true h200, Bool.and_true]
    have e1 : ¬ (200 : Int) < (l.length : Int) := by omega
    refine en Try.func23 Try.ntmps23 ?_
    have ff := (cj @hrl <| cj @e1 <| Try.results23)
    repeat any_goals (first | refine stN (RegN.mk 3) ?_ | exact lfW ff | refine ruW ff ?_ | refine cdW ff ?_ | ((first | refine bdW ff ?_ ?_ | refine bxW ff ?_ ?_ | refine bnW ff ?_ ?_ | refine brW ff ?_ ?_) <;> intro h <;> try (exfalso; first | omega | contradiction)))
    refine AW.regionS ?_
    refine SW.take 2 ?_
    with_reducible refine aops_run (by simp [List.replicate_succ, hrl]; first | exact rfl | exact ⟨rfl, rfl⟩) ?_
    refine aops_done ?_
    simp only [List.drop_succ_cons, List.drop_zero]
    refine SW.opE (.mp 0) (some (0, .mp (MapOb 0 (keyB l 0)))) (fun k ob e => by cases e; exact Nat.le_refl _) rfl (fun S0 w0 x a w g ht => ?_) ?_
    · rw [keyB_0]
      exact ok_mkmap g rfl (ev_ok ht (.tmp 10)) 0 (fun hd => by obtain ⟨o, ho⟩ := g.dom 0 hd; simp at ho)
    simp only [St.step, St.put, updH, List.length_nil, List.nil_append, Nat.lt_irrefl, if_false, List.set_cons_succ, List.set_cons_zero]
    refine SW.take 1 ?_
    with_reducible refine aops_run (by simp [List.replicate_succ]; first | exact rfl | exact ⟨rfl, rfl⟩) ?_
    refine aops_done ?_
    simp only [List.drop_succ_cons, List.drop_zero]
    refine SW.nil ?_
    have ff := (cj @hrl <| Try.results23)
    repeat any_goals (first | refine stW ?_ | exact lfW ff | refine ruW ff ?_ | refine cdW ff ?_ | ((first | refine bdW ff ?_ ?_ | refine bxW ff ?_ ?_ | refine bnW ff ?_ ?_ | refine brW ff ?_ ?_) <;> intro h <;> try (exfalso; first | omega | contradiction)))
    refine lp (ι := { k : Nat // k ≤ l.length ∧ freshB [] l = freshB (l.take k) (l.drop k) }) (fun k => [(2, .c (.bool false)), (14, .c (.int .i64 (k.1 : Int)))]) (fun k => [.mp (MapOb k.1 (keyB l k.1))]) (fun k => l.length - k.1) ⟨0, by simp⟩ ?_ ?_
    all_goals simp only [puts, List.foldl_cons, List.foldl_nil, List.set_cons_zero, List.set_cons_succ]
    · refine Le.weak (by simp [subT])
    · rintro ⟨k, hk, hI⟩
      simp only
      by_cases hlt : k < l.length
      · obtain ⟨e, he⟩ : ∃ e, l[k]? = some e := ⟨_, List.getElem?_eq_getElem hlt⟩
        have hrk : rs[k]? = some e.row := by rw [← hrs, List.getElem?_map, he]; rfl
        have hltr : k < rs.length := by omega
        have hrk' := gx hrk
        rw [List.drop_eq_getElem_cons hlt, gx he] at hI
        simp only [freshB] at hI
        have hp := pentry_a e (hs e (List.mem_of_getElem? he))
        unfold enV at hp
        have htk : l.take k ++ [e] = l.take (k + 1) := by rw [List.take_add_one, he]; rfl
        have hks := keyB_s l k e he
        have hkt : keyB l k e.text = hasT (l.take k) e.text := rfl
        rw [htk, ← hkt] at hI
        cases ho : e.ok with
        | false =>
          rw [ho] at hp hI
          rw [Bool.false_and] at hI
          rw [hI]
          have ff := (cj @hrl <| cj @hlt <| cj @hltr <| cj @hrk <| cj @hrk' <| Try.results23)
          repeat any_goals (first | refine stW ?_ | exact lfW ff | refine ruW ff ?_ | refine caW ff (hp) ?_ | refine cdW ff ?_ | ((first | refine bdW ff ?_ ?_ | refine bxW ff ?_ ?_ | refine bnW ff ?_ ?_ | refine brW ff ?_ ?_) <;> intro h <;> try (exfalso; first | omega | contradiction)))
        | true =>
          rw [ho] at hp hI
          rw [Bool.true_and] at hI
          have ff := (cj @hrl <| cj @hlt <| cj @hltr <| cj @hrk <| cj @hrk' <| Try.results23)
          repeat any_goals (first | refine stN (RegN.mk 7) ?_ | exact lfW ff | refine ruW ff ?_ | refine cdW ff ?_ | ((first | refine bdW ff ?_ ?_ | refine bxW ff ?_ ?_ | refine bnW ff ?_ ?_ | refine brW ff ?_ ?_) <;> intro h <;> try (exfalso; first | omega | contradiction)))
          refine AW.regionS ?_
          refine SW.take 2 (AH.out ?_)
          simp only [List.take_succ_cons, List.take_zero]
          have ff := (cj @hrl <| Try.results23)
          repeat any_goals (first | refine stW ?_ | exact lfW ff | refine ruW ff ?_ | refine caW ff (hp) ?_ | refine cdW ff ?_)
          simp only [List.drop_succ_cons, List.drop_zero]
          refine SW.take 5 ?_
          with_reducible refine aops_run (by simp [List.replicate_succ]; first | exact rfl | exact ⟨rfl, rfl⟩) ?_
          refine aops_done ?_
          simp only [List.drop_succ_cons, List.drop_zero]
          refine SW.opE (.c (.bool (keyB l k e.text))) none (fun _ _ e => nomatch e) (by simp [gate]) (fun S0 w0 x a w g ht => ?_) ?_
          · exact ok_look g rfl (ev_ok ht (.tmp 22)) (ev_ok ht (.tmp 24)) rfl
          simp only [St.step, St.put, updH, List.set_cons_succ, List.set_cons_zero]
          obtain ⟨B, hB⟩ : ∃ B, keyB l k e.text = B := ⟨_, rfl⟩
          rw [hB] at hI ⊢
          refine SW.take 1 ?_
          with_reducible refine aops_run (by simp [List.replicate_succ]; first | exact rfl | exact ⟨rfl, rfl⟩) ?_
          refine aops_done ?_
          simp only [List.drop_succ_cons, List.drop_zero]
          refine SW.nil ?_
          cases B with
          | true =>
            rw [Bool.not_true, Bool.false_and] at hI
            rw [hI]
            have ff := (Try.results23)
            repeat any_goals (first | refine stW ?_ | exact lfW ff | refine ruW ff ?_ | refine cdW ff ?_ | ((first | refine bdW ff ?_ ?_ | refine bxW ff ?_ ?_ | refine bnW ff ?_ ?_ | refine brW ff ?_ ?_) <;> intro h <;> try (exfalso; first | omega | contradiction)))
          | false =>
            rw [Bool.not_false, Bool.true_and] at hI
            have ff := (Try.results23)
            repeat any_goals (first | refine stN (RegN.mk 9) ?_ | exact lfW ff | refine ruW ff ?_ | refine cdW ff ?_ | ((first | refine bdW ff ?_ ?_ | refine bxW ff ?_ ?_ | refine bnW ff ?_ ?_ | refine brW ff ?_ ?_) <;> intro h <;> try (exfalso; first | omega | contradiction)))
            refine AW.regionS ?_
            refine SW.take 3 ?_
            with_reducible refine aops_run (by simp [List.replicate_succ]; first | exact rfl | exact ⟨rfl, rfl⟩) ?_
            refine aops_done ?_
            simp only [List.drop_succ_cons, List.drop_zero]
            refine SW.opE .any (some (0, .mp (MapOb (k + 1) (keyB l (k + 1))))) (fun k ob e => by cases e; exact Nat.zero_le _) rfl (fun S0 w0 x a w g ht => ?_) ?_
            · rw [← hks]
              exact ok_mapset g rfl (ev_ok ht (.tmp 27)) (ev_ok ht (.tmp 29)) rfl rfl (by unfold maxLen; omega)
            simp only [St.step, St.put, updH, List.length_cons, List.length_nil, Nat.reduceAdd, Nat.reduceLT, if_true, List.set_cons_succ, List.set_cons_zero]
            refine SW.nil ?_
            have ff := (Try.results23)
            repeat any_goals (first | refine stW ?_ | exact lfW ff | refine ruW ff ?_ | refine cdW ff ?_ | ((first | refine bdW ff ?_ ?_ | refine bxW ff ?_ ?_ | refine bnW ff ?_ ?_ | refine brW ff ?_ ?_) <;> intro h <;> try (exfalso; first | omega | contradiction)))
            exact ⟨⟨k + 1, by omega, hI⟩, by simp only; omega, wd 1⟩
      · rw [List.drop_of_length_le (by omega)] at hI
        simp only [freshB] at hI
        rw [hI]
        have ff := (cj @hrl <| cj @hlt <| Try.results23)
        repeat any_goals (first | refine stW ?_ | exact lfW ff | refine ruW ff ?_ | refine cdW ff ?_ | ((first | refine bdW ff ?_ ?_ | refine bxW ff ?_ ?_ | refine bnW ff ?_ ?_ | refine brW ff ?_ ?_) <;> intro h <;> try (exfalso; first | omega | contradiction)))
  · rw [decide_eq_false h200, Bool.and_false]
    have e1 : (200 : Int) < (l.length : Int) := by omega
    refine en Try.func23 Try.ntmps23 ?_
    have ff := (cj @hrl <| cj @e1 <| Try.results23)
    repeat any_goals (first | refine stW ?_ | exact lfW ff | refine ruW ff ?_ | refine cdW ff ?_ | ((first | refine bdW ff ?_ ?_ | refine bxW ff ?_ ?_ | refine bnW ff ?_ ?_ | refine brW ff ?_ ?_) <;> intro h <;> try (exfalso; first | omega | contradiction)))
theorem pindex1_a (e : En) (t : ByteArray) : AC Try.prog 68 [.agg e.vs, .cp [.str t] 0] (.c (.bool (decide (e.text = t)))) := by
  refine en Try.func68 Try.ntmps68 ?_
  have ff := (Try.results68)
  repeat any_goals (first | refine stW ?_ | exact lfW ff | refine ruW ff ?_ | refine cdW ff ?_ | ((first | refine bdW ff ?_ ?_ | refine bxW ff ?_ ?_ | refine bnW ff ?_ ?_ | refine brW ff ?_ ?_) <;> intro h <;> try (exfalso; first | omega | contradiction)))
theorem pindexFunc_a (l : List En) (t : ByteArray) (hl : l.length ≤ 1000000) : AC Try.prog 67 [.c (ensC l), .fn 68 [.cp [.str t] 0]] (.c (.int .i64 (idxE l t))) := by
  obtain ⟨rs, hrs⟩ : ∃ rs, l.map En.row = rs := ⟨_, rfl⟩
  have hrl : rs.length = l.length := by rw [← hrs, List.length_map]
  obtain ⟨R, hR⟩ : ∃ R, idxE l t = R := ⟨_, rfl⟩
  unfold ensC
  rw [hrs, hR]
  refine en Try.func67 Try.ntmps67 ?_
  have ff := (cj @hrl <| Try.results67)
  repeat any_goals (first | refine stW ?_ | exact lfW ff | refine ruW ff ?_ | refine cdW ff ?_ | ((first | refine bdW ff ?_ ?_ | refine bxW ff ?_ ?_ | refine bnW ff ?_ ?_ | refine brW ff ?_ ?_) <;> intro h <;> try (exfalso; first | omega | contradiction)))
  refine lp (ι := { k : Nat // k ≤ l.length ∧ ∀ (i : Nat) (x : En), i < k → l[i]? = some x → ¬ x.text = t }) (fun k => [(4, .c (.int .i64 0)), (8, .c (.int .i64 (k.1 : Int)))]) (fun _ => []) (fun k => l.length - k.1) ⟨0, by simp⟩ ?_ ?_
  all_goals simp only [puts, List.foldl_cons, List.foldl_nil, List.set_cons_zero, List.set_cons_succ]
  · refine Le.weak (by simp [subT])
  · rintro ⟨k, hk, hI⟩
    simp only
    have hd := idxE_drop l t k hI
    rw [hR] at hd
    by_cases hlt : k < l.length
    · obtain ⟨e, he⟩ : ∃ e, l[k]? = some e := ⟨_, List.getElem?_eq_getElem hlt⟩
      have hrk : rs[k]? = some e.row := by rw [← hrs, List.getElem?_map, he]; rfl
      have hltr : k < rs.length := by omega
      have hrk' := gx hrk
      have hc := pindex1_a e t
      rw [List.drop_eq_getElem_cons hlt, gx he] at hd
      by_cases hq : e.text = t
      · rw [decide_eq_true hq] at hc
        have hd' : R = (k : Int) := by simpa [idxE, hq] using hd
        rw [hd']
        clear hd hd' hR
        have ff := (cj @hrl <| cj @hlt <| cj @hltr <| cj @hrk <| cj @hrk' <| Try.results67)
        repeat any_goals (first | refine stW ?_ | exact lfW ff | refine ruW ff ?_ | refine caW ff (hc) ?_ | refine cdW ff ?_ | ((first | refine bdW ff ?_ ?_ | refine bxW ff ?_ ?_ | refine bnW ff ?_ ?_ | refine brW ff ?_ ?_) <;> intro h <;> try (exfalso; first | omega | contradiction)))
      · rw [decide_eq_false hq] at hc
        have ff := (cj @hrl <| cj @hlt <| cj @hltr <| cj @hrk <| cj @hrk' <| Try.results67)
        repeat any_goals (first | refine stW ?_ | exact lfW ff | refine ruW ff ?_ | refine caW ff (hc) ?_ | refine cdW ff ?_ | ((first | refine bdW ff ?_ ?_ | refine bxW ff ?_ ?_ | refine bnW ff ?_ ?_ | refine brW ff ?_ ?_) <;> intro h <;> try (exfalso; first | omega | contradiction)))
        refine ⟨⟨k + 1, by omega, fun i x hi hx => ?_⟩, by simp only; omega, wd 0⟩
        by_cases e' : i = k
        · subst e'; rw [he] at hx; cases hx; exact hq
        · exact hI i x (by omega) hx
    · rw [List.drop_of_length_le (by omega)] at hd
      simp only [idxE] at hd
      rw [if_pos trivial] at hd
      have ff := (cj @hrl <| cj @hlt <| cj @hd <| Try.results67)
      repeat any_goals (first | refine stW ?_ | exact lfW ff | refine ruW ff ?_ | refine cdW ff ?_ | ((first | refine bdW ff ?_ ?_ | refine bxW ff ?_ ?_ | refine bnW ff ?_ ?_ | refine brW ff ?_ ?_) <;> intro h <;> try (exfalso; first | omega | contradiction)))
theorem pindex_a (l : List En) (t : ByteArray) (hl : l.length ≤ 1000000) : AC Try.prog 56 [.c (ensC l), .c (.str t)] (.c (.int .i64 (idxE l t))) := by
  have h := pindexFunc_a l t hl
  refine en Try.func56 Try.ntmps56 ?_
  have ff := (Try.results56)
  repeat any_goals (first | refine stN (RegN.mk 1) ?_ | exact lfW ff | refine ruW ff ?_ | refine cdW ff ?_ | ((first | refine bdW ff ?_ ?_ | refine bxW ff ?_ ?_ | refine bnW ff ?_ ?_ | refine brW ff ?_ ?_) <;> intro h <;> try (exfalso; first | omega | contradiction)))
  refine AW.frz 0 rfl (by simp [toCs, toC]; exact rfl) (by simp [V.frzs, V.frz]; exact rfl) (by simp [O.frz, V.frzs, V.frz]; exact rfl) ?_
  have ff := (Try.results56)
  repeat any_goals (first | refine stW ?_ | exact lfW ff | refine ruW ff ?_ | refine caW ff (h) ?_ | refine cdW ff ?_ | ((first | refine bdW ff ?_ ?_ | refine bxW ff ?_ ?_ | refine bnW ff ?_ ?_ | refine brW ff ?_ ?_) <;> intro h <;> try (exfalso; first | omega | contradiction)))
theorem pfind8_a (l : List En) (t : ByteArray) (hl : l.length ≤ 1000000) : AC Try.prog 42 [.c (ensC l), .c (.str t)] (enV (findE l t)) := by
  have h := pindex_a l t hl
  obtain ⟨rs, hrs⟩ : ∃ rs, l.map En.row = rs := ⟨_, rfl⟩
  have hrl : rs.length = l.length := by rw [← hrs, List.length_map]
  unfold ensC at *
  rw [hrs] at h ⊢
  unfold enV
  rcases idxE_find l t with ⟨h1, h2⟩ | ⟨k, h1, h2⟩
  · rw [h1] at h
    rw [h2]
    simp only [En.vs, En.row, List.map_cons, List.map_nil]
    refine en Try.func42 Try.ntmps42 ?_
    have ff := (Try.results42)
    repeat any_goals (first | refine stW ?_ | exact lfW ff | refine ruW ff ?_ | refine caW ff (h) ?_ | refine cdW ff ?_ | ((first | refine bdW ff ?_ ?_ | refine bxW ff ?_ ?_ | refine bnW ff ?_ ?_ | refine brW ff ?_ ?_) <;> intro h <;> try (exfalso; first | omega | contradiction)))
  · rw [h1] at h
    obtain ⟨R, hR⟩ : ∃ R, findE l t = R := ⟨_, rfl⟩
    rw [hR] at h2 ⊢
    have hlt : k < l.length := (List.getElem?_eq_some_iff.1 h2).1
    have hrk : rs[k]? = some R.row := by rw [← hrs, List.getElem?_map, h2]; rfl
    have hltr : k < rs.length := by omega
    have hrk' := gx hrk
    have h0 : (0 : Int) ≤ (k : Int) := by omega
    refine en Try.func42 Try.ntmps42 ?_
    have ff := (cj @hrl <| cj @hlt <| cj @hltr <| cj @hrk <| cj @hrk' <| cj @h0 <| Try.results42)
    repeat any_goals (first | refine stW ?_ | exact lfW ff | refine ruW ff ?_ | refine caW ff (h) ?_ | refine cdW ff ?_ | ((first | refine bdW ff ?_ ?_ | refine bxW ff ?_ ?_ | refine bnW ff ?_ ?_ | refine brW ff ?_ ?_) <;> intro h <;> try (exfalso; first | omega | contradiction)))
end Go.Proofs.Ytmlabapfjliaeaa
