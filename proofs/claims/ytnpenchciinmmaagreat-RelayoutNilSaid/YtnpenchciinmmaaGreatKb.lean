/-
  The abstract machine: regions that draw their order, with calls that work on all objects.
-/
import Derived.Test.YtnpenchciinmmaaGreatQa
namespace Go.Proofs.YtnpenchciinmmaaGreat
open Go.RowKit
set_option linter.unusedSimpArgs false
set_option linter.unusedVariables false

/-- what an operation leaves: a value and at most one object, or a value and all objects -/
inductive Eff where
  | one (v : V) (t : Option (Nat × O)) (rk : Option Nat)
  | all (v : V) (h : List O)
def Eff.v : Eff → V
  | .one v _ _ => v
  | .all v _ => v
/-- what object k becomes -/
def Eff.w : Eff → Nat → Option (Option O)
  | .one _ (some (k', ob)) _, k => if k = k' then some (some ob) else none
  | .one _ none _, _ => none
  | .all _ h, k => some (h[k]?)
/-- whether it looks at object k -/
def Eff.rd : Eff → Nat → Prop
  | .one _ t rk, k => rk = some k ∨ t.map (·.1) = some k
  | .all _ _, _ => True
def Eff.app (e : Eff) (H : Heap) : Heap := fun k => match e.w k with
  | some r => r
  | none => H k
def Eff.appL : Eff → List O → List O
  | .one _ t _, h => updH h t
  | .all _ h', _ => h'
def Eff.fits (e : Eff) (n : Nat) : Prop := match e with
  | .one _ t _ => ∀ k ob, t = some (k, ob) → k ≤ n
  | .all _ _ => True
theorem Eff.appL_get {e : Eff} {h : List O} (he : e.fits h.length) (k : Nat) : (e.appL h)[k]? = e.app (fun k => h[k]?) k := by
  cases e with
  | all v h' => rfl
  | one v t rk =>
    have e := congrFun (updH_eq h t he) k
    simp only [Eff.appL]
    rw [e]
    cases t with
    | none => rfl
    | some p =>
      obtain ⟨k', ob⟩ := p
      simp only [Heap.upd, Heap.set, Eff.app, Eff.w]
      split <;> rfl
inductive EK where
  | one (w r : Option Nat)
  | all
def Eff.ek : Eff → EK
  | .one _ t rk => .one (t.map (·.1)) rk
  | .all _ _ => .all
def EK.apart : EK → EK → Bool
  | .one w r, .one w' r' => ksApart (w, r) (w', r')
  | .all, .one none none => true
  | .one none none, .all => true
  | _, _ => false
theorem Eff.apart_ok {a b : Eff} (h : a.ek.apart b.ek = true) (k : Nat) : ((a.w k).isSome = true → ¬ b.rd k) ∧ ((b.w k).isSome = true → ¬ a.rd k) := by
  cases a with
  | one v t rk =>
    cases b with
    | one v' t' rk' =>
      simp only [Eff.ek, EK.apart] at h
      obtain ⟨h1, h2⟩ := ksApart_ok h
      simp only at h1 h2
      constructor
      · intro hw hr
        cases t with
        | none => simp [Eff.w] at hw
        | some p =>
          obtain ⟨k', ob⟩ := p
          simp only [Eff.w] at hw
          split at hw
          · rename_i e
            subst e
            rcases hr with hr | hr
            · exact (h1 k rfl).2 hr
            · exact (h1 k rfl).1 hr
          · cases hw
      · intro hw hr
        cases t' with
        | none => simp [Eff.w] at hw
        | some p =>
          obtain ⟨k', ob⟩ := p
          simp only [Eff.w] at hw
          split at hw
          · rename_i e
            subst e
            rcases hr with hr | hr
            · exact h2 k rfl hr
            · exact (h1 k hr).1 rfl
          · cases hw
    | all v' h' =>
      cases t with
      | some p => cases rk <;> simp [Eff.ek, EK.apart] at h
      | none =>
        cases rk with
        | some _ => simp [Eff.ek, EK.apart] at h
        | none => exact ⟨fun hw => (by simp [Eff.w] at hw), fun _ hr => (by rcases hr with hr | hr <;> cases hr)⟩
  | all v h' =>
    cases b with
    | one v' t' rk' =>
      cases t' with
      | some p => cases rk' <;> simp [Eff.ek, EK.apart] at h
      | none =>
        cases rk' with
        | some _ => simp [Eff.ek, EK.apart] at h
        | none => exact ⟨fun _ hr => (by rcases hr with hr | hr <;> cases hr), fun hw => (by simp [Eff.w] at hw)⟩
    | all v' h'' => simp [Eff.ek, EK.apart] at h
def St.steE (s : St) (d : Option Tmp) (e : Eff) : St := St.put { s with h := e.appL s.h } d e.v
/-- an operation, whatever ran ahead of it -/
def EOkE (P : Program) (ops : List Oper) (o : Oper) (s : St) (e : Eff) : Prop :=
  ∀ (S0 : Area) (w0 : Bs) (x : Cx) (w : World) (a : Act) (H : Heap), Good S0 w0 x w H → (∀ t ∈ o.looksAt ops.toArray, CV x w (s.t.getD t .any) (a.tmps.getD t undef)) → (∀ k, e.rd k → H k = s.h[k]?) →
    ∀ (Q : Exit → Act → World → Prop) (next : Act → World → Prop), (∀ u x' w', Good S0 w0 x' w' (e.app H) → Ext x x' w w' → CV x' w' e.v u → next (a.put o.dst u) w') →
      if Region.wanted o (yielded ops.toArray a.tmps) then o.wp P a w next Q else next (a.put o.dst undef) w
def TrunE (P : Program) (ops : List Oper) : List Oper → St → List Eff → St → Prop
  | [], s, es, s' => es = [] ∧ s' = s
  | o :: r, s, es, s' => ∃ e er, es = e :: er ∧ EOkE P ops o s e ∧ e.fits s.h.length ∧ TrunE P ops r (s.steE o.dst e) er s'
variable {P : Program}
theorem trunE_states {ops : List Oper} : ∀ {r : List Oper} {s : St} {es : List Eff} {s' : St}, TrunE P ops r s es s' →
    ∃ ss : Nat → St, ss 0 = s ∧ ss r.length = s' ∧ es.length = r.length ∧ ∀ i o, r[i]? = some o → ∃ e, es[i]? = some e ∧ EOkE P ops o (ss i) e ∧ e.fits (ss i).h.length ∧ ss (i + 1) = (ss i).steE o.dst e
  | [], s, es, s', h => by
    obtain ⟨rfl, rfl⟩ := h
    exact ⟨fun _ => s', rfl, rfl, rfl, fun i o h => by simp at h⟩
  | o :: r, s, es, s', h => by
    obtain ⟨e, er, rfl, h1, h2, h3⟩ := h
    obtain ⟨ss, k1, k2, k3, k4⟩ := trunE_states h3
    refine ⟨fun i => match i with | 0 => s | i + 1 => ss i, rfl, k2, by simp [k3], fun i o' hi => ?_⟩
    match i, hi with
    | 0, hi =>
      simp only [List.getElem?_cons_zero, Option.some.injEq] at hi
      subst hi
      exact ⟨e, rfl, h1, h2, k1⟩
    | i + 1, hi =>
      simp only [List.getElem?_cons_succ] at hi ⊢
      exact k4 i o' hi
/-- all that an operation waits for, also by others, as bits -/
def bitsOf (acc : List Nat) : List Nat → Nat
  | [] => 0
  | j :: r => Nat.lor (Nat.lor (acc.getD j 0) (Nat.pow 2 j)) (bitsOf acc r)
def predsN (l : List Oper) : List Nat := l.foldl (fun acc o => acc ++ [bitsOf acc (edgesOf o)]) []
theorem bitsOf_ok (X : Nat → Prop) (acc : List Nat) (ha : ∀ i r, acc[i]? = some r → X i → ∀ j, r.testBit j = true → X j) : ∀ (l : List Nat), (∀ j ∈ l, X j) → ∀ j, (bitsOf acc l).testBit j = true → X j
  | [], _, j, h => by simp [bitsOf] at h
  | i :: l, hl, j, h => by
    have h' : ((acc.getD i 0 ||| 2 ^ i) ||| bitsOf acc l).testBit j = true := h
    rw [Nat.testBit_or, Nat.testBit_or, Bool.or_eq_true, Bool.or_eq_true, Nat.testBit_two_pow] at h'
    rcases h' with (h' | h') | h'
    · rw [List.getD_eq_getElem?_getD] at h'
      cases hq : acc[i]? with
      | none => rw [hq] at h'; simp at h'
      | some r => rw [hq] at h'; exact ha i r hq (hl i (by simp)) j h'
    · have : i = j := by simpa using h'
      subst this
      exact hl i (by simp)
    · exact bitsOf_ok X acc ha l (fun j hj => hl j (by simp [hj])) j h'
theorem predsN_ok (X : Nat → Prop) : ∀ (l pre : List Oper) (acc : List Nat), acc.length = pre.length → (∀ i o, (pre ++ l)[i]? = some o → X i → ∀ j ∈ edgesOf o, X j) → (∀ i r, acc[i]? = some r → X i → ∀ j, r.testBit j = true → X j) →
    ∀ i r, (l.foldl (fun acc o => acc ++ [bitsOf acc (edgesOf o)]) acc)[i]? = some r → X i → ∀ j, r.testBit j = true → X j
  | [], pre, acc, _, _, h => by simpa using h
  | o :: l, pre, acc, hl, hX, h => by
    simp only [List.foldl_cons]
    refine predsN_ok X l (pre ++ [o]) _ (by simp [hl]) (by simpa using hX) fun i r hi hx j hj => ?_
    rcases Nat.lt_or_ge i acc.length with hlt | hge
    · rw [List.getElem?_append_left hlt] at hi
      exact h i r hi hx j hj
    · rw [List.getElem?_append_right hge] at hi
      have hi0 : i - acc.length = 0 := by
        rcases Nat.eq_zero_or_pos (i - acc.length) with h | h
        · exact h
        · have := (List.getElem?_eq_some_iff.1 hi).1
          simp at this
          omega
      rw [hi0] at hi
      simp only [List.getElem?_cons_zero, Option.some.injEq] at hi
      subst hi
      have hio : (pre ++ o :: l)[i]? = some o := by
        rw [List.getElem?_append_right (by omega), show i - pre.length = 0 by omega]
        rfl
      exact bitsOf_ok X acc h _ (fun k hk => hX i o hio hx k hk) j hj
/-- the j-th bit -/
def bitN (n j : Nat) : Bool := Nat.beq (Nat.mod (Nat.div n (Nat.pow 2 j)) 2) 1
theorem bitN_ok {n j : Nat} (h : bitN n j = true) : n.testBit j = true := by
  have h : n / 2 ^ j % 2 = 1 := Nat.eq_of_beq_eq_true h
  rw [Nat.testBit_eq_decide_div_mod_eq]
  exact decide_eq_true h
def commRowE (A : Array Oper) (l : List Oper) (ks : List EK) (T : List Nat) (i : Nat) : Bool :=
  match l[i]?, ks[i]? with
  | some o, some q => let m := T.getD i 0
    ((edgesOf o).all (fun j => Nat.blt j i) && Nat.blt m (Nat.pow 2 i)) && (List.range i).all fun j => bitN m j ||
      match l[j]?, ks[j]? with
      | some p, some r => p.apart A o && r.apart q
      | _, _ => false
  | _, _ => false
def commE (l : List Oper) (ks : List EK) : Bool := (List.range l.length).all (commRowE l.toArray l ks (predsN l))
theorem comm_okE {l : List Oper} {ks : List EK} (h : commE l ks = true) {i : Nat} {o : Oper} (ho : l[i]? = some o) : ∃ q r, ks[i]? = some q ∧ (predsN l).getD i 0 = r ∧ ((∀ j ∈ edgesOf o, j < i) ∧ ∀ j, r.testBit j = true → j < i) ∧ ∀ j p, j < i → l[j]? = some p → r.testBit j = true ∨ ∃ q', ks[j]? = some q' ∧ p.apart l.toArray o = true ∧ q'.apart q = true := by
  have hlt : i < l.length := (List.getElem?_eq_some_iff.1 ho).1
  unfold commE at h
  rw [List.all_eq_true] at h
  have := h i (List.mem_range.2 hlt)
  unfold commRowE at this
  rw [ho] at this
  cases hk : ks[i]? with
  | none => rw [hk] at this; cases this
  | some q =>
    rw [hk] at this
    simp only [Bool.and_eq_true, List.all_eq_true, List.mem_range, Bool.or_eq_true] at this
    obtain ⟨⟨h1, h2⟩, h3⟩ := this
    have h2' : (predsN l).getD i 0 < 2 ^ i := by
      have h2 : Nat.blt ((predsN l).getD i 0) (2 ^ i) = true := h2
      exact Nat.blt_eq.mp h2
    refine ⟨q, _, rfl, rfl, ⟨fun j hj => Nat.blt_eq.mp (h1 j hj), fun j hj => ?_⟩, fun j p hj hp => ?_⟩
    · rcases Nat.lt_or_ge j i with h | h
      · exact h
      · have : ((predsN l).getD i 0).testBit j = false := Nat.testBit_lt_two_pow (Nat.lt_of_lt_of_le h2' (Nat.pow_le_pow_right (by decide) h))
        rw [this] at hj; cases hj
    · rcases h3 j hj with h | h
      · exact .inl (bitN_ok h)
      · rw [hp] at h
        cases hq : ks[j]? with
        | none => rw [hq] at h; cases h
        | some q' => rw [hq] at h; simp only [Bool.and_eq_true] at h; exact .inr ⟨q', rfl, h.1, h.2⟩
section
variable {l : List Oper} {es : List Eff} {n : Nat}
def fTE (l : List Oper) (es : List Eff) (n τ : Nat) (i : Nat) : Option V :=
  match l[i]?, es[i]? with
  | some o, some e => if o.dst = some τ ∧ τ < n then some e.v else none
  | _, _ => none
def fHE (es : List Eff) (k : Nat) (i : Nat) : Option (Option O) :=
  match es[i]? with
  | some e => e.w k
  | none => none
theorem steE_len (s : St) (d : Option Tmp) (e : Eff) : (s.steE d e).t.length = s.t.length := by cases d <;> simp [St.steE, St.put]
theorem steE_t (s : St) (d : Option Tmp) (e : Eff) (τ : Nat) : (s.steE d e).t.getD τ .any = if d = some τ ∧ τ < s.t.length then e.v else s.t.getD τ .any := by
  cases d with
  | none => simp [St.steE, St.put]
  | some d =>
    simp only [St.steE, St.put, List.getD_eq_getElem?_getD, List.getElem?_set, Option.some.injEq]
    by_cases e : d = τ
    · subst e
      by_cases hl : d < s.t.length
      · simp [hl]
      · simp [hl, List.getElem?_eq_none (Nat.le_of_not_lt hl)]
    · simp [e]
theorem steE_h (s : St) (d : Option Tmp) (e : Eff) (he : e.fits s.h.length) (k : Nat) : (s.steE d e).h[k]? = (e.w k).getD (s.h[k]?) := by
  have e2 : (s.steE d e).h = e.appL s.h := by cases d <;> rfl
  rw [e2, Eff.appL_get he]
  unfold Eff.app
  cases e.w k <;> rfl
/-- THE LAW of a region that draws its order -/
theorem draw_okE {Q : Exit → Act → World → Prop} {K : St → Prop} {S0 : Area} {w0 : Bs} {s s' : St} (ht : TrunE P l l s es s') (hc : commE l (es.map Eff.ek) = true) (hK : K s') (hQ : ∀ x s a w, K s → Abs S0 w0 x s a w → Q .normal a w)
    {x : Cx} {a : Act} {w : World} (hA : Abs S0 w0 x s a w) : wpAny P .any l.toArray Q l.toArray.size (Array.replicate l.toArray.size false) a w := by
  obtain ⟨ss, s0, sN, hel, hst⟩ := trunE_states ht
  have hslen : ∀ i, i ≤ l.length → (ss i).t.length = s.t.length := by
    intro i
    induction i with
    | zero => intro _; rw [s0]
    | succ i ih =>
      intro hi
      obtain ⟨e, _, _, _, h4⟩ := hst i l[i] (List.getElem?_eq_getElem (by omega))
      rw [h4, steE_len, ih (by omega)]
  -- the text's states, by last writers
  have hT : ∀ i τ, i ≤ l.length → (ss i).t.getD τ .any = lastW (fTE l es s.t.length τ) (fun _ => true) i (s.t.getD τ .any) := by
    intro i τ
    induction i with
    | zero => intro _; rw [s0]; rfl
    | succ i ih =>
      intro hi
      have hli : l[i]? = some l[i] := List.getElem?_eq_getElem (by omega)
      obtain ⟨e, he, _, _, h4⟩ := hst i l[i] hli
      rw [h4, steE_t, hslen i (by omega), ih (by omega)]
      simp only [lastW, if_true, fTE, hli, he]
      split <;> rfl
  have hHt : ∀ i k, i ≤ l.length → (ss i).h[k]? = lastW (fHE es k) (fun _ => true) i (s.h[k]?) := by
    intro i k
    induction i with
    | zero => intro _; rw [s0]; rfl
    | succ i ih =>
      intro hi
      have hli : l[i]? = some l[i] := List.getElem?_eq_getElem (by omega)
      obtain ⟨e, he, _, h3, h4⟩ := hst i l[i] hli
      rw [h4, steE_h _ _ _ h3, ih (by omega)]
      simp only [lastW, if_true, fHE, he]
      cases e.w k <;> rfl
  -- the invariant
  have base : ∀ (listed : Array Bool) (x : Cx) (a : Act) (w : World), (List.range l.length).countP (fun i => !listed.getD i false) ≤ 0 → listed.size = l.length →
      (∀ (i : Nat) (o : Oper), l[i]? = some o → listed.getD i false = true → ∀ j ∈ edgesOf o, listed.getD j false = true) → a.tmps.size = s.t.length → Marks w0 a.defers w →
      (∀ τ, τ < s.t.length → CV x w (lastW (fTE l es s.t.length τ) (fun i => listed.getD i false) l.length (s.t.getD τ .any)) (a.tmps.getD τ undef)) →
      Good S0 w0 x w (fun k => lastW (fHE es k) (fun i => listed.getD i false) l.length (s.h[k]?)) → wpAny P .any l.toArray Q 0 listed a w := by
    intro listed x a w hcount hsz hcl hts hdf htm hg
    have hall : ∀ i, i < l.length → listed.getD i false = true := by
      intro i hi
      have h0 := List.countP_eq_zero.1 (Nat.le_zero.1 hcount) i (List.mem_range.2 hi)
      simpa using h0
    have hnil : Region.ready .any l.toArray listed = [] := by
      rw [List.eq_nil_iff_forall_not_mem]
      intro j hj
      rw [mem_ready] at hj
      obtain ⟨h0, o, ho, _⟩ := hj
      have hlt : j < l.length := (List.getElem?_eq_some_iff.1 (show l[j]? = some o by simpa using ho)).1
      rw [getD_tf _ _ (by omega), hall j hlt] at h0
      cases h0
    refine ⟨hnil, hQ x s' a w hK ⟨?_, ?_, hdf⟩⟩
    · have e : (fun k => s'.h[k]?) = fun k => lastW (fHE es k) (fun i => listed.getD i false) l.length (s.h[k]?) := by
        funext k
        rw [← sN, hHt l.length k (Nat.le_refl _)]
        exact lastW_congr _ fun j hj _ => by rw [hall j hj]
      rw [e]
      exact hg
    · refine CVs.of_get (by simp [hts, ← sN, hslen l.length (Nat.le_refl _)]) fun τ v u hv hu => ?_
      have hτ : τ < s.t.length := by have := (List.getElem?_eq_some_iff.1 hv).1; rw [← sN, hslen l.length (Nat.le_refl _)] at this; exact this
      have h1 := htm τ hτ
      have e : lastW (fTE l es s.t.length τ) (fun i => listed.getD i false) l.length (s.t.getD τ .any) = v := by
        have : s'.t.getD τ .any = v := by rw [List.getD_eq_getElem?_getD, hv]; rfl
        rw [← this, ← sN, hT l.length τ (Nat.le_refl _)]
        exact lastW_congr _ fun j hj _ => by rw [hall j hj]
      rw [e] at h1
      have : a.tmps.getD τ undef = u := by
        have hu' : a.tmps[τ]? = some u := by simpa using hu
        rw [Array.getD_eq_getD_getElem?, hu']
        rfl
      rwa [this] at h1
  have key : ∀ (fuel : Nat) (listed : Array Bool) (x : Cx) (a : Act) (w : World), (List.range l.length).countP (fun i => !listed.getD i false) ≤ fuel → listed.size = l.length →
      (∀ (i : Nat) (o : Oper), l[i]? = some o → listed.getD i false = true → ∀ j ∈ edgesOf o, listed.getD j false = true) → a.tmps.size = s.t.length → Marks w0 a.defers w →
      (∀ τ, τ < s.t.length → CV x w (lastW (fTE l es s.t.length τ) (fun i => listed.getD i false) l.length (s.t.getD τ .any)) (a.tmps.getD τ undef)) →
      Good S0 w0 x w (fun k => lastW (fHE es k) (fun i => listed.getD i false) l.length (s.h[k]?)) → wpAny P .any l.toArray Q fuel listed a w := by
    intro fuel
    induction fuel with
    | zero => exact base
    | succ fuel ih =>
      intro listed x a w hcount hsz hcl hts hdf htm hg
      refine ⟨fun hnil => ?_, fun i hi => ?_⟩
      · -- nothing is ready: all have run
        have hall : ∀ i, i < l.length → listed.getD i false = true := by
          intro i
          induction i using Nat.strongRecOn with
          | _ i ihi =>
            intro hi
            cases hx : listed.getD i false with
            | true => rfl
            | false =>
              have hli : l[i]? = some l[i] := List.getElem?_eq_getElem hi
              obtain ⟨_, _, _, _, ⟨hb, _⟩, _⟩ := comm_okE hc hli
              have : i ∈ Region.ready .any l.toArray listed := by
                rw [mem_ready]
                refine ⟨by rw [getD_tf _ _ (by omega)]; exact hx, l[i], by simp, fun e he hbn => ?_⟩
                have hj := hb e.on (mem_edges.2 ⟨e, he, hbn, rfl⟩)
                exact ihi e.on hj (by omega)
              rw [hnil] at this
              cases this
        have hz : (List.range l.length).countP (fun i => !listed.getD i false) ≤ 0 := by
          rw [Nat.le_zero, List.countP_eq_zero]
          intro i hi
          simp [hall i (List.mem_range.1 hi)]
        exact (base listed x a w hz hsz hcl hts hdf htm hg).2
      · rw [mem_ready] at hi
        obtain ⟨h0, o, ho, hall⟩ := hi
        have ho : l[i]? = some o := by simpa using ho
        have hlt : i < l.length := (List.getElem?_eq_some_iff.1 ho).1
        rw [getD_tf _ _ (by omega)] at h0
        have hedge : ∀ j ∈ edgesOf o, listed.getD j false = true := by
          intro j hj
          rw [mem_edges] at hj
          obtain ⟨e, he1, he2, he3⟩ := hj
          rw [← he3]
          exact hall e he1 he2
        obtain ⟨e, he, hok, hkb, hnext⟩ := hst i o ho
        obtain ⟨q, r, hq, hr, ⟨_, hrlt⟩, hpair⟩ := comm_okE hc ho
        have hqe : q = e.ek := by rw [List.getElem?_map, he] at hq; simpa using hq.symm
        subst hqe
        -- what it waits for has run
        have hpre : ∀ j, r.testBit j = true → listed.getD j false = true := by
          intro j hj
          have := predsN_ok (fun j => listed.getD j false = true ∨ j = i) l [] [] rfl (fun i' o' hi' hx j hj => by
            rcases hx with hx | rfl
            · exact .inl (hcl i' o' hi' hx j hj)
            · simp only [List.nil_append] at hi'
              rw [ho] at hi'; cases hi'
              exact .inl (hedge j hj)) (fun i' r' h => by simp at h) i r (by
            have : (predsN l)[i]? = some r ∨ r = 0 := by
              rw [List.getD_eq_getElem?_getD] at hr
              cases hx : (predsN l)[i]? with
              | none => rw [hx] at hr; exact .inr hr.symm
              | some y => rw [hx] at hr; exact .inl (by rw [← hr]; rfl)
            rcases this with h | h
            · exact h
            · subst h; simp at hj) (.inr rfl) j hj
          exact this.resolve_right fun e => by have := hrlt j hj; omega
        -- two operations of which one has run ahead of its turn
        have hA' : ∀ j p, j < i → l[j]? = some p → listed.getD j false = false → ∃ ej, es[j]? = some ej ∧ p.apart l.toArray o = true ∧ ej.ek.apart e.ek = true := by
          intro j p hj hp hx
          rcases hpair j p hj hp with h | ⟨q', h1, h2, h3⟩
          · rw [hpre j h] at hx; cases hx
          · rw [List.getElem?_map, Option.map_eq_some_iff] at h1
            obtain ⟨ej, h4, rfl⟩ := h1
            exact ⟨ej, h4, h2, h3⟩
        have hB' : ∀ j p, i < j → l[j]? = some p → listed.getD j false = true → ∃ ej, es[j]? = some ej ∧ o.apart l.toArray p = true ∧ e.ek.apart ej.ek = true := by
          intro j p hj hp hx
          obtain ⟨qj, rj, hqj, hrj, _, hpj⟩ := comm_okE hc hp
          rw [List.getElem?_map, Option.map_eq_some_iff] at hqj
          obtain ⟨ej, h4, rfl⟩ := hqj
          rcases hpj i o hj ho with h | ⟨q', h1, h2, h3⟩
          · have := predsN_ok (fun j => listed.getD j false = true) l [] [] rfl (fun i' o' hi' hx j hj => hcl i' o' (by simpa using hi') hx j hj) (fun i' r' h => by simp at h) j rj (by
              rw [List.getD_eq_getElem?_getD] at hrj
              cases hx : (predsN l)[j]? with
              | none => rw [hx] at hrj; simp only [Option.getD_none] at hrj; subst hrj; simp at h
              | some y => rw [hx] at hrj; simp only [Option.getD_some] at hrj; rw [← hrj]; exact hx) hx i h
            rw [h0] at this; cases this
          · rw [List.getElem?_map, he] at h1
            simp only [Option.map_some, Option.some.injEq] at h1
            subst h1
            exact ⟨ej, h4, h2, h3⟩
        -- the writers of what it looks at
        have hlook : ∀ τ ∈ o.looksAt l.toArray, ∀ j, j < l.length → (fTE l es s.t.length τ j).isSome = true → listed.getD j false = decide (j < i) := by
          intro τ hτ j hj hw
          have hp : l[j]? = some l[j] := List.getElem?_eq_getElem hj
          have hdst : l[j].dst = some τ := by
            unfold fTE at hw
            rw [hp] at hw
            cases hx : es[j]? with
            | none => rw [hx] at hw; cases hw
            | some ej => rw [hx] at hw; simp only at hw; split at hw; (· (rename_i h; exact h.1)); (· cases hw)
          rcases Nat.lt_trichotomy j i with h | h | h
          · cases hx : listed.getD j false with
            | true => simp [h]
            | false =>
              obtain ⟨ej, _, h2, _⟩ := hA' j l[j] h hp hx
              exact absurd hτ ((Oper.apart_spec h2).1 τ hdst)
          · subst h; simp [h0]
          · cases hx : listed.getD j false with
            | false => simp; omega
            | true =>
              obtain ⟨ej, _, h2, _⟩ := hB' j l[j] h hp hx
              exact absurd hτ ((Oper.apart_spec h2).2.2 τ hdst)
        have hkey : ∀ k, e.rd k → ∀ j, j < l.length → (fHE es k j).isSome = true → j ≠ i → listed.getD j false = decide (j < i) := by
          intro k hk j hj hw hne
          have hp : l[j]? = some l[j] := List.getElem?_eq_getElem hj
          obtain ⟨ej, hej, hwk⟩ : ∃ ej, es[j]? = some ej ∧ (ej.w k).isSome = true := by
            unfold fHE at hw
            cases hx : es[j]? with
            | none => rw [hx] at hw; cases hw
            | some ej => rw [hx] at hw; exact ⟨ej, rfl, hw⟩
          rcases Nat.lt_trichotomy j i with h | h | h
          · cases hx : listed.getD j false with
            | true => simp [h]
            | false =>
              obtain ⟨ej', he', _, h3⟩ := hA' j l[j] h hp hx
              rw [hej] at he'; cases he'
              exact absurd hk ((Eff.apart_ok h3 k).1 hwk)
          · exact absurd h hne
          · cases hx : listed.getD j false with
            | false => simp; omega
            | true =>
              obtain ⟨ej', he', _, h3⟩ := hB' j l[j] h hp hx
              rw [hej] at he'; cases he'
              exact absurd hk ((Eff.apart_ok h3 k).2 hwk)
        have hHX : ∀ k, e.rd k → lastW (fHE es k) (fun j => listed.getD j false) l.length (s.h[k]?) = (ss i).h[k]? := by
          intro k hk
          rw [hHt i k (by omega), ← lastW_below l.length i (by omega)]
          refine lastW_congr _ fun j hj hw => ?_
          by_cases hne : j = i
          · subst hne; simp [h0]
          · exact hkey k hk j hj hw hne
        show wpOp P l.toArray Q i _ a w
        unfold wpOp
        have hoa : l.toArray[i]? = some o := by simpa using ho
        rw [hoa]
        simp only
        have hfin := hok x.S (w0.re w hg.keep.size) x w a _ hg.rebase (fun τ hτ => ?_) hHX Q (wpAny P .any l.toArray Q fuel (listed.setIfInBounds i true)) (fun u x' w' g' hext hcv => ?_)
        · split
          · rename_i hw; rw [if_pos hw] at hfin; exact .inl hfin
          · rename_i hw; rw [if_neg hw] at hfin; exact hfin
        · -- slots
          rcases Nat.lt_or_ge τ s.t.length with hτl | hτl
          · rw [hT i τ (by omega), ← lastW_below l.length i (by omega), ← lastW_congr l.length (hlook τ hτ)]
            exact htm τ hτl
          · have : (ss i).t.getD τ .any = .any := by
              rw [List.getD_eq_getElem?_getD, List.getElem?_eq_none (by rw [hslen i (by omega)]; exact hτl)]
              rfl
            rw [this]
            simp only [CV]
        · -- on
          have hgd : ∀ j, (listed.setIfInBounds i true).getD j false = if i = j then true else listed.getD j false := fun j => getD_set listed i j (by omega)
          refine ih _ x' _ w' ?_ (by simpa using hsz) (fun i' o' hi' hx j hj => ?_) (by rw [put_size]; exact hts) (by rw [put_defers']; exact hdf.mono (hg.unbase hext g').2) (fun τ hτ => ?_) ?_
          · have := countP_lt (p := fun j => !listed.getD j false) (p' := fun j => !(listed.setIfInBounds i true).getD j false) (List.range l.length) (fun j _ h => by
              simp only [hgd] at h
              split at h
              · cases h
              · exact h) i (List.mem_range.2 hlt) (by simp [h0]) (by simp only [hgd]; simp)
            omega
          · rw [hgd] at hx ⊢
            split
            · rfl
            · split at hx
              · rename_i e1; subst e1
                rw [ho] at hi'; cases hi'
                exact hedge j hj
              · exact hcl i' o' hi' hx j hj
          · by_cases hd : o.dst = some τ
            · have e1 : lastW (fTE l es s.t.length τ) (fun j => (listed.setIfInBounds i true).getD j false) l.length (s.t.getD τ .any) = e.v := by
                refine lastW_at l.length hlt (by simp [hgd]) (by simp [fTE, ho, he, hd, hτ]) fun j hij hj hx => ?_
                rw [hgd, if_neg (by omega)] at hx
                have hp : l[j]? = some l[j] := List.getElem?_eq_getElem hj
                obtain ⟨ej, hej, h2, _⟩ := hB' j l[j] hij hp hx
                unfold fTE
                rw [hp, hej]
                simp only
                rw [if_neg]
                rintro ⟨h5, _⟩
                exact (Oper.apart_spec h2).2.1 τ hd h5
              rw [e1, hd, getD_put, if_pos rfl, if_pos (by rw [hts]; exact hτ)]
              exact hcv
            · have e1 : lastW (fTE l es s.t.length τ) (fun j => (listed.setIfInBounds i true).getD j false) l.length (s.t.getD τ .any) = lastW (fTE l es s.t.length τ) (fun j => listed.getD j false) l.length (s.t.getD τ .any) := by
                refine lastW_congr _ fun j hj hw => ?_
                rw [hgd]
                split
                · rename_i e2; subst e2
                  simp [fTE, ho, he, hd] at hw
                · rfl
              rw [e1]
              have e2 : (a.put o.dst u).tmps.getD τ undef = a.tmps.getD τ undef := by
                cases hdd : o.dst with
                | none => rfl
                | some d => rw [getD_put, if_neg (fun e => hd (by rw [hdd, e]))]
              rw [e2]
              exact CV.mono hext _ _ (htm τ hτ)
          · have e1 : (fun k => lastW (fHE es k) (fun j => (listed.setIfInBounds i true).getD j false) l.length (s.h[k]?)) = e.app (fun k => lastW (fHE es k) (fun j => listed.getD j false) l.length (s.h[k]?)) := by
              funext k
              cases hwk : e.w k with
              | none =>
                simp only [Eff.app, hwk]
                refine lastW_congr _ fun j hj hw => ?_
                rw [hgd]
                split
                · rename_i e2; subst e2; simp [fHE, he, hwk] at hw
                · rfl
              | some y =>
                simp only [Eff.app, hwk]
                refine lastW_at l.length hlt (by simp [hgd]) (by simp [fHE, he, hwk]) fun j hij hj hx => ?_
                rw [hgd, if_neg (by omega)] at hx
                cases hfj : fHE es k j with
                | none => rfl
                | some y' =>
                  have hp : l[j]? = some l[j] := List.getElem?_eq_getElem hj
                  obtain ⟨ej, hej, _, h3⟩ := hB' j l[j] hij hp hx
                  have hw : (ej.w k).isSome = true := by
                    unfold fHE at hfj
                    rw [hej] at hfj
                    simp only at hfj
                    rw [hfj]; rfl
                  have hr : e.rd k := by
                    cases e with
                    | all v h' => exact trivial
                    | one v tt rk =>
                      cases tt with
                      | none => simp [Eff.w] at hwk
                      | some p =>
                        obtain ⟨k', ob⟩ := p
                        simp only [Eff.w] at hwk
                        split at hwk
                        · rename_i e; subst e; exact .inr rfl
                        · cases hwk
                  exact absurd hr ((Eff.apart_ok h3 k).2 hw)
            rw [e1]
            exact (hg.unbase hext g').1
  refine key _ _ x a w ?_ (by simp) (fun i o hi hx => by rw [none_yet] at hx; cases hx) (by have := hA.tm.len; simpa using this) hA.df (fun τ hτ => ?_) ?_
  · have := List.countP_le_length (p := fun i => !(Array.replicate l.toArray.size false).getD i false) (l := List.range l.length)
    simpa using this
  · rw [lastW_none l.length fun j _ hx => by rw [none_yet] at hx; cases hx]
    have := hA.tm.getD τ undef
    simpa [Array.getD_eq_getD_getElem?, List.getD_eq_getElem?_getD] using this
  · have e : (fun k => lastW (fHE es k) (fun i => (Array.replicate l.toArray.size false).getD i false) l.length (s.h[k]?)) = fun k => s.h[k]? := by
      funext k
      exact lastW_none l.length fun j _ hx => by rw [none_yet] at hx; cases hx
    rw [e]
    exact hA.good
end

/-- a region that draws its order -/
theorem AW.drawE {m : Mo} {id : Nat} {ops : List Oper} {K : Exit → St → Prop} {s s' : St} {es : List Eff} (hm : P.follows .mixedOrders = true) (hd : m.rd = none) (ht : TrunE P ops ops s es s') (hc : commE ops (es.map Eff.ek) = true) (hK : K .normal s') : AW m P (.region id ops.toArray true) K s := fun n S0 w0 x a w hm' hA => by
  have e : ({ w with drawn := w.drawn + 1 } : World) = w.drew := rfl
  have hA' : Abs S0 w0 x s a w.drew := by
    obtain ⟨g, he⟩ := hA.good.stepA (x' := x) (w' := w.drew) (Keep.refl w).drew ⟨fun _ _ h => h, fun b j v _ hc => (Keep.refl w).drew.cell hc⟩ rfl rfl (fun b j h => .inl h)
    exact ⟨g, CVs.mono he _ _ hA.tm, hA.df.mono (.of_keep (Keep.refl w).drew)⟩
  obtain ⟨rd, n0⟩ := m
  cases hd
  refine wpIn_wide.2 (wp_region_any hm ?_)
  rw [e]
  exact draw_okE (K := K .normal) ht hc hK (fun x s a w h hA => ⟨x, s, hA, h⟩) hA'
end Go.Proofs.YtnpenchciinmmaaGreat
