import Derived.Test.YthbcljjpmdfflaaGreatG1
/-
 What the small functions of package font return: named, within, Find, Pick, Height.
-/
namespace Go.Proofs.YthbcljjpmdfflaaGreat
open Go.RowKit
set_option linter.unusedSimpArgs false
set_option linter.unusedVariables false
def Ints (w : World) (v : Value) (zs : List Int) : Prop :=
 ∃ A c, v = .slice A zs.length c ∧ ∀ i (h : i < zs.length), ∃ b off, A = some ⟨b, off, none⟩ ∧ w.cell? ⟨b, off + i, none⟩ = some (.int .i64 zs[i])
theorem Ints.keep {w w' : World} {v : Value} {zs : List Int} (h : Ints w v zs) (hk : Keep w w') : Ints w' v zs := by
 obtain ⟨A, c, e, h⟩ := h
 exact ⟨A, c, e, fun i hi => by obtain ⟨b, off, hA, hc⟩ := h i hi; exact ⟨b, off, hA, hk.cell hc⟩⟩
theorem Ints.of_row {w : World} {b off : Nat} {zs : List Int} (c : Nat) (h : RowAt w b off (zs.map (Value.int .i64)).toArray) : Ints w (.slice (some ⟨b, off, none⟩) zs.length c) zs :=
 ⟨_, c, rfl, fun i hi => ⟨b, off, rfl, by rw [h i (by simpa using hi)]; simp [hi]⟩⟩
theorem within_c (lo hi : Int) (v : Value) (zs : List Int) (w : World) (hl : zs.length ≤ 1000000) (hz : Ints w v zs) :
 Calls Tryz.prog 40 #[.int .i64 lo, .int .i64 hi, v] w fun r w' => r = .returned (.bool (inB lo hi zs)) ∧ w = w' := by
 obtain ⟨A, c, rfl, hz⟩ := hz
 have HZ := Lib.hid hz
 clear hz
 go_enter Tryz.func40, Tryz.ntmps40
 go_wp2
 go_loop [11] (fun i => ∃ k : Nat, k ≤ zs.length ∧ i = .int .i64 k ∧ Hid (inB lo hi zs = inB lo hi (zs.drop k))) (fun i => zs.length - (intOf i).toNat)
 case atStart => exact ⟨0, Nat.zero_le _, rfl, rfl⟩
 case round =>
  obtain ⟨k, hk, rfl, HI⟩ := hrel
  by_cases hlt : k < zs.length
  · obtain ⟨b, off, rfl, hc⟩ := HZ.out k hlt
    have hd : zs.drop k = zs[k] :: zs.drop (k + 1) := List.drop_eq_getElem_cons hlt
    have HD := Lib.hid hd
    clear hd
    generalize zs[k] = z at *
    by_cases h1 : z < lo
    · go_wp2
      go_ret
      exact ⟨by rw [HI.out, HD.out]; simp [inB]; omega, rfl⟩
    · by_cases h2 : hi < z
      · go_wp2
        go_ret
        exact ⟨by rw [HI.out, HD.out]; simp [inB]; omega, rfl⟩
      · go_wp2
        go_round
        case rel => exact ⟨k + 1, by omega, by go_num, by unfold Hid; rw [HI.out, HD.out]; simp [inB]; omega⟩
        case measure => simp [intOf]; omega
  · go_wp2
    go_ret
    exact ⟨by rw [HI.out, List.drop_of_length_le (by omega)]; rfl, rfl⟩
theorem named_c (s : ByteArray) (w : World) (hs : s.size ≤ maxLen) :
 Calls Tryz.prog 39 #[.string s] w fun r w' => r = .returned (.bool (nameB s)) ∧ w = w' := by
 unfold maxLen at hs
 have HF : Hid (nameB s = (s.data.toList.all byteOk && (decide (1 ≤ s.size) && decide (s.size ≤ 16)))) := rfl
 have hsz : s.data.toList.length = s.size := by rw [Array.length_toList]; rfl
 have HS := Lib.hid hsz
 clear hsz
 go_enter Tryz.func39, Tryz.ntmps39
 go_wp2
 go_loop [3] (fun i => ∃ k : Nat, k ≤ s.size ∧ i = .int .i64 k ∧ Hid (s.data.toList.all byteOk = (s.data.toList.drop k).all byteOk)) (fun i => s.size - (intOf i).toNat)
 case atStart => exact ⟨0, Nat.zero_le _, rfl, rfl⟩
 case round =>
  obtain ⟨k, hk, rfl, HI⟩ := hrel
  by_cases hlt : k < s.size
  · have hd : s.data.toList.drop k = s[k] :: s.data.toList.drop (k + 1) := List.drop_eq_getElem_cons (by rw [HS.out]; exact hlt)
    have HD := Lib.hid hd
    clear hd
    by_cases h1 : (s[k].toNat : Int) < 32
    · go_wp2
      go_ret
      exact ⟨by rw [HF.out, HI.out, HD.out]; simp [byteOk]; omega, rfl⟩
    · by_cases h2 : 126 < (s[k].toNat : Int)
      · go_wp2
        go_ret
        exact ⟨by rw [HF.out, HI.out, HD.out]; simp [byteOk]; omega, rfl⟩
      · go_wp2
        go_round
        case rel => exact ⟨k + 1, by omega, by go_num, by unfold Hid; rw [HI.out, HD.out]; simp [byteOk]; omega⟩
        case measure => simp [intOf]; omega
  · have hall : s.data.toList.all byteOk = true := by rw [HI.out, List.drop_of_length_le (by rw [HS.out]; omega)]; rfl
    have HA := Lib.hid hall
    clear hall
    go_wp2
    all_goals go_ret
    · exact ⟨by rw [HF.out, HA.out]; simp; rw [Bool.eq_iff_iff]; simp; omega, rfl⟩
    · exact ⟨by rw [HF.out, HA.out]; simp; omega, rfl⟩
def found : Option Glyph → Glyph × Bool
 | some g => (g, true)
 | none => (Glyph.zero, false)
def Font.findR (f : Font) (name : ByteArray) : Glyph × Bool := found (f.find name)
end Go.Proofs.YthbcljjpmdfflaaGreat
namespace Go.Proofs.YthbcljjpmdfflaaGreat
open Go.RowKit
set_option linter.unusedSimpArgs false
set_option linter.unusedVariables false
def zGlyph : Array Value := #[.string ⟨#[]⟩, .int .i64 0, .int .i64 0, .int .i64 0, .int .i64 0, .int .i64 0]
def Glyph.Small (g : Glyph) : Prop := (-20000 ≤ g.w ∧ g.w ≤ 20000) ∧ (-20000 ≤ g.h ∧ g.h ≤ 20000) ∧ (-20000 ≤ g.d ∧ g.d ≤ 20000) ∧ (-20000 ≤ g.italic ∧ g.italic ≤ 20000) ∧ (-20000 ≤ g.attach ∧ g.attach ≤ 20000)
end Go.Proofs.YthbcljjpmdfflaaGreat
namespace Go.Proofs.YthbcljjpmdfflaaGreat
open Go.RowKit
set_option linter.unusedSimpArgs false
set_option linter.unusedVariables false
end Go.Proofs.YthbcljjpmdfflaaGreat
namespace Go.Proofs.YthbcljjpmdfflaaGreat
open Go.RowKit
set_option linter.unusedSimpArgs false
set_option linter.unusedVariables false
set_option maxHeartbeats 1600000 in
theorem validParams_c (p : Params) (w : World) :
 Calls Tryz.prog 38 #[.agg p.cells] w fun r w' => r = .returned (.bool (paramsOk p)) ∧ Keep w w' := by
 have c0 : p.cells[0]? = some (.int .i64 p.quad) := rfl
 have c1 : p.cells[1]? = some (.int .i64 p.xHeight) := rfl
 have c2 : p.cells[2]? = some (.int .i64 p.axis) := rfl
 have c3 : p.cells[3]? = some (.int .i64 p.rule) := rfl
 have c4 : p.cells[4]? = some (.int .i64 p.num1) := rfl
 have c5 : p.cells[5]? = some (.int .i64 p.num2) := rfl
 have c6 : p.cells[6]? = some (.int .i64 p.denom1) := rfl
 have c7 : p.cells[7]? = some (.int .i64 p.denom2) := rfl
 have c8 : p.cells[8]? = some (.int .i64 p.sup1) := rfl
 have c9 : p.cells[9]? = some (.int .i64 p.sup2) := rfl
 have c10 : p.cells[10]? = some (.int .i64 p.sup3) := rfl
 have c11 : p.cells[11]? = some (.int .i64 p.sub1) := rfl
 have c12 : p.cells[12]? = some (.int .i64 p.sub2) := rfl
 have c13 : p.cells[13]? = some (.int .i64 p.supDrop) := rfl
 have c14 : p.cells[14]? = some (.int .i64 p.subDrop) := rfl
 have c15 : p.cells[15]? = some (.int .i64 p.script) := rfl
 have c16 : p.cells[16]? = some (.int .i64 p.scriptScript) := rfl
 have c17 : p.cells[17]? = some (.int .i64 p.delimPercent) := rfl
 have c18 : p.cells[18]? = some (.int .i64 p.delimShort) := rfl
 have c19 : p.cells[19]? = some (.int .i64 p.accentHeight) := rfl
 cases hb : inB 1 100 p.perc with
 | false =>
   have HS : Hid (paramsOk p = false) := by unfold Hid paramsOk; rw [hb]; rfl
   go_enter Tryz.func38, Tryz.ntmps38
   go_wp2_with fail
   refine (within_c 1 100 _ p.perc _ (by simp [Params.perc]) (Ints.of_row (b := w.heap.size + 1) (off := 0) 3 (Blk.row (Blk.at_ _ 3 _ (by simp))))).mono ?_
   rintro e w1 ⟨rfl, rfl⟩
   go_wp2_with fail
   go_ret
   exact ⟨by rw [HS.out]; rfl, (by repeat (with_reducible first | exact Keep.refl _ | assumption | apply Keep.alloc | apply Keep.drew | apply Keep.drewN | (refine Keep.setRow ?_ (by omega) _) | refine Keep.trans ?_ (by assumption)))⟩
 | true =>
   have HS : Hid (paramsOk p = inB 0 20000 p.lens) := by unfold Hid paramsOk; rw [hb]; rfl
   go_enter Tryz.func38, Tryz.ntmps38
   go_wp2_with fail
   refine (within_c 1 100 _ p.perc _ (by simp [Params.perc]) (Ints.of_row (b := w.heap.size + 1) (off := 0) 3 (Blk.row (Blk.at_ _ 3 _ (by simp))))).mono ?_
   rintro e w1 ⟨rfl, rfl⟩
   go_wp2_with fail
   refine (within_c 0 20000 _ p.lens _ (by simp [Params.lens]) (Ints.of_row (b := w.heap.size + 2) (off := 0) 17 (Blk.row (Blk.at_ _ 3 _ (by simp))))).mono ?_
   rintro e w1 ⟨rfl, rfl⟩
   go_wp2_with fail
   go_ret
   exact ⟨by rw [HS.out]; rfl, (by repeat (with_reducible first | exact Keep.refl _ | assumption | apply Keep.alloc | apply Keep.drew | apply Keep.drewN | (refine Keep.setRow ?_ (by omega) _) | refine Keep.trans ?_ (by assumption)))⟩
theorem valid1_c (name : ByteArray) (hb mb n : Nat) (M : ByteArray → Option Int) (w : World) (hs : name.size ≤ maxLen) (hc : w.cell? ⟨hb, 0, none⟩ = some (.map (some mb))) (hm : MapN w mb n M) :
 Calls Tryz.prog 41 #[.string name, .pointer (some ⟨hb, 0, none⟩)] w fun r w' => r = .returned (.tuple #[.int .i64 ((M name).getD 0), .bool (M name).isSome]) ∧ w = w' := by
 have hl := hm.look hs
 clear hm
 go_enter Tryz.func41, Tryz.ntmps41
 go_wp2
 go_ret2
 exact ⟨rfl, rfl⟩
end Go.Proofs.YthbcljjpmdfflaaGreat
namespace Go.Proofs.YthbcljjpmdfflaaGreat
open Go.RowKit
set_option linter.unusedSimpArgs false
set_option linter.unusedVariables false
theorem agg_part (p : Part) : AggTy Tryz.prog 92 p.cells.size := AggTy.mk' Tryz.underlying92 rfl (by kernel_rfl)
theorem ones_part (p : Part) : Ones p.cells := by intro v hv; simp [Part.cells] at hv; rcases hv with rfl | rfl <;> rfl
set_option maxHeartbeats 3200000 in
theorem validStretch_c (s : Stretch) (cs : Array Value) (hb mb n : Nat) (M : ByteArray → Option Int) (w : World) (hs : Rd w s.ds cs.toList) (hc : w.cell? ⟨hb, 0, none⟩ = some (.map (some mb))) (hm : MapN w mb n M)
 (hM : ∀ x h, M x = some h → -60000 ≤ h ∧ h ≤ 60000) :
 Calls Tryz.prog 42 #[.agg cs, .func (.func 41) #[] #[.pointer (some ⟨hb, 0, none⟩)]] w fun r w' => r = .returned (.bool (stretchOk M s)) ∧ Keep w w' := by
 obtain ⟨zv, pv, hz, h0, h1, h2, h3, hn, hzv, hpv, hov⟩ := stretch_cells hs
 obtain ⟨A, c, rfl, hlc, hcm, hZ⟩ := sl_strs hzv
 obtain ⟨B, d, rfl, hld, hdm, hP⟩ := sl_parts hpv
 have HC := Lib.hid hc
 have HM := Lib.hid hm
 have HMb := Lib.hid hM
 have HZ := Lib.hid hZ
 have HP := Lib.hid hP
 have hbl := block_lt_of_cell hc
 simp only at hbl
 obtain ⟨o1, o2⟩ := hov
 unfold maxLen at hcm hdm
 clear hs hc hm hzv hpv hz hZ hP hM
 cases hb1 : nameB s.name with
 | false =>
   have HS : Hid (stretchOk M s = false) := by unfold Hid stretchOk; rw [hb1]; rfl
   go_enter Tryz.func42, Tryz.ntmps42
   go_wp2_with fail
   refine (named_c _ _ hn).mono ?_
   rintro e w1 ⟨rfl, rfl⟩
   go_wp2_with fail
   go_ret
   exact ⟨by rw [HS.out]; rfl, (by repeat (with_reducible first | exact Keep.refl _ | assumption | apply Keep.alloc | apply Keep.drew | apply Keep.drewN | (refine Keep.setRow ?_ (by omega) _) | refine Keep.trans ?_ (by assumption)))⟩
 | true =>
 cases hb2 : inB 1 16 [(s.sizes.length : Int)] with
 | false =>
   have HS : Hid (stretchOk M s = false) := by unfold Hid stretchOk; rw [hb1, hb2]; rfl
   go_enter Tryz.func42, Tryz.ntmps42
   go_wp2_with fail
   refine (named_c _ _ hn).mono ?_
   rintro e w1 ⟨rfl, rfl⟩
   go_wp2_with fail
   refine (within_c 1 16 _ [(s.sizes.length : Int)] _ (by simp) (Ints.of_row (b := w.heap.size + 1) (off := 0) 1 (Blk.row (Blk.at_ _ 3 _ (by simp))))).mono ?_
   rintro e w1 ⟨rfl, rfl⟩
   go_wp2_with fail
   go_ret
   exact ⟨by rw [HS.out]; rfl, (by repeat (with_reducible first | exact Keep.refl _ | assumption | apply Keep.alloc | apply Keep.drew | apply Keep.drewN | (refine Keep.setRow ?_ (by omega) _) | refine Keep.trans ?_ (by assumption)))⟩
 | true =>
 by_cases hb3 : s.parts.length ≤ 8
 case neg =>
  have HS : Hid (stretchOk M s = false) := by unfold Hid stretchOk; rw [hb1, hb2]; simp [hb3]
  go_enter Tryz.func42, Tryz.ntmps42
  go_wp2_with fail
  refine (named_c _ _ hn).mono ?_
  rintro e w1 ⟨rfl, rfl⟩
  go_wp2_with fail
  refine (within_c 1 16 _ [(s.sizes.length : Int)] _ (by simp) (Ints.of_row (b := w.heap.size + 1) (off := 0) 1 (Blk.row (Blk.at_ _ 3 _ (by simp))))).mono ?_
  rintro e w1 ⟨rfl, rfl⟩
  go_wp2_with fail
  go_ret
  exact ⟨by rw [HS.out]; rfl, (by repeat (with_reducible first | exact Keep.refl _ | assumption | apply Keep.alloc | apply Keep.drew | apply Keep.drewN | (refine Keep.setRow ?_ (by omega) _) | refine Keep.trans ?_ (by assumption)))⟩
 have HS : Hid (stretchOk M s = (sizesOk M (-60000) s.sizes && (if s.parts = [] then decide (s.overlap = 0) else partsOk M s))) := by unfold Hid stretchOk; rw [hb1, hb2]; simp [hb3]
 have h8 : decide ((8 : Int) < (s.parts.length : Int)) = false := by simp; omega
 go_enter Tryz.func42, Tryz.ntmps42
 go_wp2_with fail
 refine (named_c _ _ hn).mono ?_
 rintro e w1 ⟨rfl, rfl⟩
 go_wp2_with fail
 refine (within_c 1 16 _ [(s.sizes.length : Int)] _ (by simp) (Ints.of_row (b := w.heap.size + 1) (off := 0) 1 (Blk.row (Blk.at_ _ 3 _ (by simp))))).mono ?_
 rintro e w1 ⟨rfl, rfl⟩
 go_wp2_with fail
 clear h8
 have kw : Keep w ((w.alloc (.cells cs 61)).alloc (.cells #[.int .i64 (s.sizes.length : Int)] 3)) := (by repeat (with_reducible first | exact Keep.refl _ | assumption | apply Keep.alloc | apply Keep.drew | apply Keep.drewN | (refine Keep.setRow ?_ (by omega) _) | refine Keep.trans ?_ (by assumption)))
 have hcW := kw.cell HC.out
 have HMW := Lib.hid (HM.out.keep kw)
 have HCW := Lib.hid hcW
 have b0 : Blk ((w.alloc (.cells cs 61)).alloc (.cells #[.int .i64 (s.sizes.length : Int)] 3)) w.heap.size 61 cs := (Blk.new _ _ _).alloc _
 have KW := Lib.hid kw
 have B0 := Lib.hid b0
 clear hcW kw b0
 go_loop [5, 37] (fun last i => ∃ (k : Nat) (z : Int), k ≤ s.sizes.length ∧ i = .int .i64 k ∧ last = .int .i64 z ∧ -60000 ≤ z ∧ z ≤ 60000 ∧ Hid (sizesOk M (-60000) s.sizes = sizesOk M z (s.sizes.drop k))) (fun _ i => s.sizes.length - (intOf i).toNat)
 case atStart => exact ⟨0, -60000, Nat.zero_le _, rfl, rfl, by omega, by omega, rfl⟩
 case round =>
  obtain ⟨k, z, hk, rfl, rfl, z1, z2, HI⟩ := hrel
  by_cases hlt : k < s.sizes.length
  · obtain ⟨hsz, b, off, rfl, hbb, hcc⟩ := HZ.out k hlt
    have hd : s.sizes.drop k = s.sizes[k] :: s.sizes.drop (k + 1) := List.drop_eq_getElem_cons hlt
    have HD := Lib.hid hd
    clear hd
    generalize s.sizes[k] = x at *
    cases hMx : M x with
    | none =>
      have HF : Hid (sizesOk M (-60000) s.sizes = false) := by unfold Hid; rw [HI.out, HD.out]; simp [sizesOk, hMx]
      have HX := Lib.hid hMx
      clear hMx
      go_wp2_with (go_at_call 41; refine (valid1_c x hb mb n M _ hsz HCW.out HMW.out).mono ?_; rintro e w1 ⟨rfl, rfl⟩; rw [HX.out]; simp only [Option.getD_none, Option.isSome_none])
      go_ret
      exact ⟨by rw [HS.out, HF.out]; rfl, KW.out⟩
    | some h =>
      obtain ⟨m1, m2⟩ := HMb.out x h hMx
      have HX := Lib.hid hMx
      by_cases hle : h ≤ z
      · have HF : Hid (sizesOk M (-60000) s.sizes = false) := by unfold Hid; rw [HI.out, HD.out]; simp [sizesOk, hMx]; omega
        clear hMx
        go_wp2_with (go_at_call 41; refine (valid1_c x hb mb n M _ hsz HCW.out HMW.out).mono ?_; rintro e w1 ⟨rfl, rfl⟩; rw [HX.out]; simp only [Option.getD_some, Option.isSome_some])
        go_ret
        exact ⟨by rw [HS.out, HF.out]; rfl, KW.out⟩
      · have HF : Hid (sizesOk M (-60000) s.sizes = sizesOk M h (s.sizes.drop (k + 1))) := by unfold Hid; rw [HI.out, HD.out]; simp [sizesOk, hMx]; omega
        clear hMx
        go_wp2_with (go_at_call 41; refine (valid1_c x hb mb n M _ hsz HCW.out HMW.out).mono ?_; rintro e w1 ⟨rfl, rfl⟩; rw [HX.out]; simp only [Option.getD_some, Option.isSome_some])
        go_round
        case rel => exact ⟨k + 1, h, by omega, by go_num, rfl, m1, m2, HF⟩
        case measure => simp [intOf]; omega
  · have HT : Hid (sizesOk M (-60000) s.sizes = true) := by unfold Hid; rw [HI.out, List.drop_of_length_le (by omega)]; rfl
    by_cases hp0 : s.parts.length = 0
    · have hpn : s.parts = [] := List.eq_nil_of_length_eq_zero hp0
      have HF : Hid (stretchOk M s = decide (s.overlap = 0)) := by unfold Hid; rw [HS.out, HT.out, if_pos hpn]; rfl
      clear hpn
      go_wp2_with fail
      go_ret
      refine ⟨?_, KW.out⟩
      rw [HF.out]
      show Ending.returned (Value.bool (s.overlap == 0)) = _
      by_cases ho : s.overlap = 0 <;> simp [ho]
    · have hpn : ¬ s.parts = [] := fun e => hp0 (by rw [e]; rfl)
      have HF : Hid (stretchOk M s = partsOk M s) := by unfold Hid; rw [HS.out, HT.out, if_neg hpn]; rfl
      have hp1 : ((s.parts.length : Int) == 0) = false := by rw [beq_eq_false_iff_ne]; omega
      clear hpn HI
      go_wp2_with fail
      go_loopw [10, 11, 66] (fun least ext i wr => ∃ (j : Nat) (l : Int) (x : Bool), j ≤ s.parts.length ∧ i = .int .i64 j ∧ least = .int .i64 l ∧ ext = .bool x ∧ -60000 ≤ l ∧ l ≤ 60000 ∧ Hid (partsFold M 60000 false s.parts = partsFold M l x (s.parts.drop j)) ∧
       Keep ((w.alloc (.cells cs 61)).alloc (.cells #[.int .i64 (s.sizes.length : Int)] 3)) wr) (fun _ _ i _ => s.parts.length - (intOf i).toNat)
      case atStart => exact ⟨0, 60000, false, Nat.zero_le _, rfl, rfl, rfl, by omega, by omega, rfl, Keep.refl _⟩
      case round =>
       obtain ⟨j, l, x, hj, rfl, rfl, rfl, l1, l2, HI, hkr⟩ := hrel
       have kwr := KW.out.trans hkr
       have hzr := kwr.size
       have KR := Lib.hid hkr
       have KWR := Lib.hid kwr
       clear hkr kwr
       by_cases hjl : j < s.parts.length
       · obtain ⟨hps, b, off, rfl, hbb, hrr⟩ := HP.out j hjl
         have hd : s.parts.drop j = s.parts[j] :: s.parts.drop (j + 1) := List.drop_eq_getElem_cons hjl
         have HD := Lib.hid hd
         have HR := Lib.hid (KWR.out.row hrr)
         clear hd hrr
         generalize s.parts[j] = p at *
         have q0 : p.cells[0]? = some (.string p.name) := rfl
         have q1 : p.cells[1]? = some (.bool p.ext) := rfl
         cases hMx : M p.name with
         | none =>
           have HF2 : Hid (partsOk M s = false) := by unfold Hid partsOk; rw [HI.out, HD.out]; simp [partsFold, hMx]
           have HX := Lib.hid hMx
           clear hMx
           go_wp2_with (first
            | (with_reducible refine wl_load (ty := 92) (b) (off + j * 2) (p.cells) ?_ ?_ ?_ ?_ ?_
               · rfl
               · exact HR.out
               · exact agg_part p
               · rfl)
            | (with_reducible refine wl_store_last (ty := 92) (wr.heap.size) (p.cells) ?_ ?_ ?_ ?_ ?_ ?_ ?_ ?_
               · rfl
               · rfl
               · simp
               · first | rfl | simp [*]
               · exact ones_part p
               · exact agg_part p
               · rfl)
            | (go_at_call 41; refine (valid1_c p.name hb mb n M _ hps ((KR.out.alloc _).cell HCW.out) (HMW.out.keep (KR.out.alloc _))).mono ?_; rintro e w1 ⟨rfl, rfl⟩; rw [HX.out]; simp only [Option.getD_none, Option.isSome_none]))
           go_ret
           exact ⟨by rw [HF.out, HF2.out]; rfl, KWR.out.alloc _⟩
         | some h =>
           obtain ⟨m1, m2⟩ := HMb.out p.name h hMx
           have HF2 : Hid (partsFold M 60000 false s.parts = partsFold M (if h < l then h else l) (x || p.ext) (s.parts.drop (j + 1))) := by unfold Hid; rw [HI.out, HD.out]; simp [partsFold, hMx]
           have HX := Lib.hid hMx
           clear hMx
           go_wp2_with (first
            | (with_reducible refine wl_load (ty := 92) (b) (off + j * 2) (p.cells) ?_ ?_ ?_ ?_ ?_
               · rfl
               · exact HR.out
               · exact agg_part p
               · rfl)
            | (with_reducible refine wl_store_last (ty := 92) (wr.heap.size) (p.cells) ?_ ?_ ?_ ?_ ?_ ?_ ?_ ?_
               · rfl
               · rfl
               · simp
               · first | rfl | simp [*]
               · exact ones_part p
               · exact agg_part p
               · rfl)
            | (go_at_call 41; refine (valid1_c p.name hb mb n M _ hps ((KR.out.alloc _).cell HCW.out) (HMW.out.keep (KR.out.alloc _))).mono ?_; rintro e w1 ⟨rfl, rfl⟩; rw [HX.out]; simp only [Option.getD_some, Option.isSome_some]))
           · go_roundw
             case rel => exact ⟨j + 1, _, true, by omega, by go_num, rfl, rfl, by split <;> omega, by split <;> omega, by unfold Hid; rw [HF2.out]; simp [*], KR.out.alloc _⟩
             case measure => simp [intOf]; omega
           · go_roundw
             case rel => exact ⟨j + 1, _, p.ext, by omega, by go_num, rfl, rfl, by split <;> omega, by split <;> omega, by unfold Hid; rw [HF2.out]; simp [*], KR.out.alloc _⟩
             case measure => simp [intOf]; omega
       · have HE : Hid (partsOk M s = (x && inB 0 (l - 1) [s.overlap])) := by unfold Hid partsOk; rw [HI.out, List.drop_of_length_le (by omega)]; rfl
         have hcell := (KR.out.blk B0.out).cell
         cases x with
         | false =>
           go_wp2_with fail
           go_ret
           exact ⟨by rw [HF.out, HE.out]; rfl, KWR.out⟩
         | true =>
           go_wp2_with fail
           refine (within_c 0 (l - 1) _ [s.overlap] _ (by simp) (Ints.of_row (b := wr.heap.size) (off := 0) 1 (Blk.row (Blk.at_ _ 3 _ (by simp))))).mono ?_
           rintro e w1 ⟨rfl, rfl⟩
           go_wp2_with fail
           go_ret
           exact ⟨by rw [HF.out, HE.out]; rfl, KWR.out.alloc _⟩
end Go.Proofs.YthbcljjpmdfflaaGreat
namespace Go.Proofs.YthbcljjpmdfflaaGreat
open Go.RowKit
set_option linter.unusedSimpArgs false
set_option linter.unusedVariables false
theorem agg_params (p : Params) : AggTy Tryz.prog 25 p.cells.size := AggTy.mk' Tryz.underlying25 rfl (by kernel_rfl)
theorem run_makeMap_hint {P : Program} (t k e : TypeId) (kd : IntKind) (n : Int) (ht : P.underlying t = some (.map k e)) (w : World) :
 (Instr.makeMap t (some (.int kd n))).run P w = .ok (.map (some w.heap.size)) (w.alloc (.map #[] 0)) := by
 simp [Instr.makeMap, run_underlying ht]; rfl
theorem wl_mapUpdate {P : Program} {ops : Array Oper} {rest : List Oper} {a : Act} {w : World} {Q : Exit → Act → World → Prop} {dst : Option Tmp} {tyo : TypeId} {pos : String} {after : Array Edge} {t : TypeId} {m x v : Operand} (M X V : Value) (w' : World)
 (hm : a.eval m = M) (hx : a.eval x = X) (hv : a.eval v = V) (hrun : (Instr.mapUpdate t M X V).run P w = .ok () w') (h : wpList P ops Q rest (a.put dst undef) w') : wpList P ops Q (⟨dst, .mapUpdate t m x v, tyo, pos, after, none⟩ :: rest) a w :=
 wpList_plain rfl fun _ hK => by
  unfold Oper.wp execOp
  simp only [hm, hx, hv, Sem.run_bind, Sem.run_pure, Result.andThen_ok, hrun]
  exact hK _ _ h
theorem ints_stable (zs : List Int) : Stable (fun v W => Ints W v zs) := fun _ _ _ hk h => h.keep hk
theorem eq_stable (E : Value) : Stable (fun v _ => v = E) := fun _ _ _ _ h => h
def htOf (l : List Glyph) (name : ByteArray) : Option Int := (findO name l).map Glyph.height
theorem hasName_find (name : ByteArray) : ∀ l : List Glyph, hasName name l = (findO name l).isSome
 | [] => rfl
 | g :: r => by
   simp only [hasName, findO]
   by_cases h : g.name = name
   · simp [h]
   · simp [h, hasName_find name r]
theorem htOf_snoc (l : List Glyph) (g : Glyph) (h : htOf l g.name = none) (x : ByteArray) : upd (htOf l) g.name g.height x = htOf (l ++ [g]) x := by
 have hap : ∀ l : List Glyph, findO x (l ++ [g]) = (findO x l).or (if g.name = x then some g else none) := by
  intro l
  induction l with
  | nil => simp [findO]
  | cons y r ih => simp only [List.cons_append, findO, ih]; split <;> simp
 simp only [upd, htOf, hap]
 by_cases hx : x = g.name
 · subst hx
   simp only [htOf, Option.map_eq_none_iff] at h
   simp [h]
 · have : ¬ g.name = x := fun e => hx e.symm
   simp [hx, this]
theorem Blk.grown {w w' : World} {g : Nat} {t : TypeId} {cs : Array Value} {row : Option Nat} (h : Blk w g t cs) (hb : w.grownBy w' row) (hg : some g ≠ row) : Blk w' g t cs := (hb.block g h.lt hg).trans h
theorem agg_stretch {row : Array Value} (h : row.size = 4) : AggTy Tryz.prog 61 row.size := by rw [h]; exact AggTy.mk' Tryz.underlying61 rfl (by kernel_rfl)
theorem findO_mem {name : ByteArray} {g : Glyph} : ∀ {l : List Glyph}, findO name l = some g → g ∈ l
 | [], h => by simp [findO] at h
 | x :: r, h => by
   simp only [findO] at h
   split at h
   · simp only [Option.some.injEq] at h; subst h; simp
   · exact List.mem_cons_of_mem _ (findO_mem h)
theorem ht_small (f : Font) (h : ∀ g ∈ f.glyphs, glyphOk g = true) (x : ByteArray) (y : Int) (hy : f.ht x = some y) : -60000 ≤ y ∧ y ≤ 60000 := by
 simp only [Font.ht, Font.find, Option.map_eq_some_iff] at hy
 obtain ⟨g, hg, rfl⟩ := hy
 have := h g (findO_mem hg)
 simp [glyphOk, inB] at this
 simp only [Glyph.height]
 omega
set_option maxRecDepth 100000 in
set_option maxHeartbeats 16000000 in
theorem valid_c (f : Font) (cs : Array Value) (w : World) (hf : Rd w f.ds cs.toList) :
 Calls Tryz.prog 17 #[.agg cs] w fun r w' => r = .returned (.bool f.valid) ∧ Keep w w' := by
 obtain ⟨gv, sv, hz, h0, h1, hp, hgv, hsv, hi⟩ := font_cells hf
 obtain ⟨A, c, rfl, hlc, hcm, hG⟩ := sl_glyphs hgv
 obtain ⟨B, d, rfl, hld, hdm, hS⟩ := sl_stretches hsv
 have HG := Lib.hid hG
 have HSt := Lib.hid hS
 have b0 : Blk (w.alloc (.cells cs 27)) w.heap.size 27 cs := Blk.new _ _ _
 have rp : RowAt (w.alloc (.cells cs 27)) w.heap.size 2 f.params.cells := by
  have := b0.row.sub 2 20 (by rw [hz]; decide)
  rw [show (2 + 20 : Nat) = 22 from rfl, hp] at this
  exact this
 have B0 := Lib.hid b0
 have RP := Lib.hid rp
 unfold maxLen at hcm hdm
 clear hf hG hS hgv hsv hp hz hi b0 rp
 by_cases hg1 : f.glyphs.length ≤ 400
 case neg =>
  have HS : Hid (f.valid = false) := by unfold Hid Font.valid; simp [hg1]
  go_enter Tryz.func17, Tryz.ntmps17
  go_wp2_with fail
  go_ret
  exact ⟨by rw [HS.out]; rfl, (by repeat (with_reducible first | exact Keep.refl _ | assumption | apply Keep.alloc | apply Keep.drew | apply Keep.drewN | (refine Keep.setRow ?_ (by omega) _) | refine Keep.trans ?_ (by assumption)))⟩
 by_cases hg2 : f.stretches.length ≤ 40
 case neg =>
  have HS : Hid (f.valid = false) := by unfold Hid Font.valid; simp [hg2]
  go_enter Tryz.func17, Tryz.ntmps17
  go_wp2_with fail
  go_ret
  exact ⟨by rw [HS.out]; rfl, (by repeat (with_reducible first | exact Keep.refl _ | assumption | apply Keep.alloc | apply Keep.drew | apply Keep.drewN | (refine Keep.setRow ?_ (by omega) _) | refine Keep.trans ?_ (by assumption)))⟩
 have ha1 : decide ((400 : Int) < (f.glyphs.length : Int)) = false := by simp; omega
 have ha2 : decide ((40 : Int) < (f.stretches.length : Int)) = false := by simp; omega
 cases hg3 : paramsOk f.params with
 | false =>
   have HS : Hid (f.valid = false) := by unfold Hid Font.valid; simp [hg3]
   go_enter Tryz.func17, Tryz.ntmps17
   go_wp2_with (first
    | (with_reducible refine wl_load (ty := 25) (w.heap.size) (2) (f.params.cells) ?_ ?_ ?_ ?_ ?_
       · rfl
       · exact RP.out
       · exact agg_params _
       · rfl))
   refine (validParams_c f.params _).mono ?_
   rintro e w1 ⟨rfl, hk1⟩
   rw [hg3]
   go_wp2_with fail
   go_ret
   exact ⟨by rw [HS.out]; rfl, (by repeat (with_reducible first | exact Keep.refl _ | assumption | apply Keep.alloc | apply Keep.drew | apply Keep.drewN | (refine Keep.setRow ?_ (by omega) _) | refine Keep.trans ?_ (by assumption)))⟩
 | true =>
 have HS : Hid (f.valid = (glyphsOk [] f.glyphs && stretchesOk f.ht [] f.stretches)) := by unfold Hid Font.valid; simp [hg1, hg2, hg3]
 have hmk := fun (n : Int) (W : World) => run_makeMap_hint (P := Tryz.prog) 65 _ _ .i64 n Tryz.underlying65 W
 go_enter Tryz.func17, Tryz.ntmps17
 go_wp2_with (first
  | (with_reducible refine wl_load (ty := 25) (w.heap.size) (2) (f.params.cells) ?_ ?_ ?_ ?_ ?_
     · rfl
     · exact RP.out
     · exact agg_params _
     · rfl))
 refine (validParams_c f.params _).mono ?_
 rintro e w1 ⟨rfl, hk1⟩
 rw [hg3]
 have hz1 := hk1.size
 simp only [World.size_alloc] at hz1
 have hcf := (hk1.blk B0.out).cell
 have hl1 : w.heap.size < w1.heap.size := by omega
 have hl2 : w.heap.size < w1.heap.size + 1 := by omega
 go_wp2_with fail
 have kw : Keep w ((w1.alloc (.map #[] 0)).alloc (.cells #[.map (some w1.heap.size)] 65)) := (by repeat (with_reducible first | exact Keep.refl _ | assumption | apply Keep.alloc | apply Keep.drew | apply Keep.drewN | (refine Keep.setRow ?_ (by omega) _) | refine Keep.trans ?_ (by assumption)))
 have mm : MapN ((w1.alloc (.map #[] 0)).alloc (.cells #[.map (some w1.heap.size)] 65)) w1.heap.size 0 (htOf (f.glyphs.take 0)) := ((MapN.made w1).keep (by repeat (with_reducible first | exact Keep.refl _ | assumption | apply Keep.alloc | apply Keep.drew | apply Keep.drewN | (refine Keep.setRow ?_ (by omega) _) | refine Keep.trans ?_ (by assumption)))).congr fun _ => rfl
 have bm : Blk ((w1.alloc (.map #[] 0)).alloc (.cells #[.map (some w1.heap.size)] 65)) (w1.heap.size + 1) 65 #[.map (some w1.heap.size)] := Blk.at_ _ _ _ (by simp)
 have bf : Blk ((w1.alloc (.map #[] 0)).alloc (.cells #[.map (some w1.heap.size)] 65)) w.heap.size 27 cs := ((hk1.blk B0.out).alloc _).alloc _
 clear hmk hl2 hcf ha1 ha2
 go_loopw [36] (fun i wr => ∃ k : Nat, k ≤ f.glyphs.length ∧ i = .int .i64 k ∧ Keep w wr ∧ Blk wr w.heap.size 27 cs ∧ Blk wr (w1.heap.size + 1) 65 #[.map (some w1.heap.size)] ∧
  MapN wr w1.heap.size k (htOf (f.glyphs.take k)) ∧ Hid (glyphsOk [] f.glyphs = glyphsOk (f.glyphs.take k) (f.glyphs.drop k)) ∧ Hid (∀ g ∈ f.glyphs.take k, glyphOk g = true)) (fun i _ => f.glyphs.length - (intOf i).toNat)
 case atStart => exact ⟨0, Nat.zero_le _, rfl, kw, bf, bm, mm, rfl, by intro g hg; simp at hg⟩
 case round =>
  obtain ⟨k, hk, rfl, hkr, hbf, hbm, hmm, HI, HA⟩ := hrel
  have KR := Lib.hid hkr
  have kwr := hkr
  have BF := Lib.hid hbf
  have BM := Lib.hid hbm
  have MM := Lib.hid hmm
  have hcf := hbf.cell
  have hzr := hkr.size
  clear hkr kwr hbf hbm hmm kw mm bm bf
  by_cases hlt : k < f.glyphs.length
  · obtain ⟨hok, b, off, rfl, hb, hr⟩ := HG.out k hlt
    have hd : f.glyphs.drop k = f.glyphs[k] :: f.glyphs.drop (k + 1) := List.drop_eq_getElem_cons hlt
    have ht : f.glyphs.take (k + 1) = f.glyphs.take k ++ [f.glyphs[k]] := List.take_succ_eq_append_getElem hlt
    have HD := Lib.hid hd
    have HT := Lib.hid ht
    have HR := Lib.hid (KR.out.row hr)
    clear hd ht hr
    generalize f.glyphs[k] = g at *
    have hlk : (k : Int) < (f.glyphs.length : Int) := by omega
    go_wp2_with fail
    refine wp_region_rg 36 mixed (by kernel_rfl) rfl ?_
    intro w2 hk2
    simp only [List.take_succ_cons, List.take_zero, List.take_nil]
    have e0 : ∀ W, Keep w2 W → W.cell? ⟨b, off + k * 6, none⟩ = some (.string g.name) := fun W h => h.cell (hk2.cell (HR.out.at_ (j := 0) rfl))
    have e1 : ∀ W, Keep w2 W → W.cell? ⟨b, off + k * 6 + 1, none⟩ = some (.int .i64 g.w) := fun W h => h.cell (hk2.cell (HR.out.at_ (j := 1) rfl))
    have e2 : ∀ W, Keep w2 W → W.cell? ⟨b, off + k * 6 + 2, none⟩ = some (.int .i64 g.h) := fun W h => h.cell (hk2.cell (HR.out.at_ (j := 2) rfl))
    have e3 : ∀ W, Keep w2 W → W.cell? ⟨b, off + k * 6 + 3, none⟩ = some (.int .i64 g.d) := fun W h => h.cell (hk2.cell (HR.out.at_ (j := 3) rfl))
    have e4 : ∀ W, Keep w2 W → W.cell? ⟨b, off + k * 6 + 4, none⟩ = some (.int .i64 g.italic) := fun W h => h.cell (hk2.cell (HR.out.at_ (j := 4) rfl))
    have e5 : ∀ W, Keep w2 W → W.cell? ⟨b, off + k * 6 + 5, none⟩ = some (.int .i64 g.attach) := fun W h => h.cell (hk2.cell (HR.out.at_ (j := 5) rfl))
    repeat (with_reducible apply rg_det rfl; · (intro a W hk hf; (try simp [looks, Oper.looksAt, Op.operands, Call.operands, know] at hf); go_simp; rfl))
    with_reducible apply rg_call rfl
    · intro a W hk hf; simp [looks, Oper.looksAt, Op.operands, Call.operands, know] at hf; go_simp; exact ⟨rfl, rfl⟩
    · intro W hk; exact (named_c _ _ hok.1).mono fun e W' h => ⟨h.1, h.2 ▸ Keep.refl _⟩
    repeat (with_reducible apply rg_det rfl; · (intro a W hk hf; (try simp [looks, Oper.looksAt, Op.operands, Call.operands, know] at hf); go_simp; rfl))
    repeat (with_reducible apply rg_gdet rfl rfl; (· (intro v W h; simp [know] at h; exact h)); · (intro hBw a W hk hf; simp [looks, Oper.looksAt, Op.operands, Call.operands, know, hBw] at hf; go_simp; rfl))
    with_reducible apply rg_gop (fun v W => Ints W v [g.w]) (ints_stable _) rfl rfl
    · intro v W h; simp [know] at h; exact h
    · intro hBw a W hk hf; simp [looks, Oper.looksAt, Op.operands, Call.operands, know, hBw] at hf; refine ⟨_, _, by go_simp; exact ⟨rfl, rfl⟩, ?_, ?_⟩
      · exact Ints.of_row (zs := [g.w]) (off := 0) 1 (Blk.new _ _ _).row
      · exact (Keep.refl _).alloc _
    with_reducible apply rg_gcall (fun v _ => v = .bool (inB 0 20000 [g.w])) (eq_stable _) rfl rfl
    · intro v W h; simp [know] at h; exact h
    · intro hBw a W hk hf; simp [looks, Oper.looksAt, Op.operands, Call.operands, know, hBw] at hf; refine ⟨_, _, by go_simp; exact ⟨rfl, rfl⟩, ?_⟩
      exact (within_c _ _ _ [g.w] W (by simp) hf.1).mono fun e W' h => ⟨_, h.1, rfl, h.2 ▸ Keep.refl _⟩
    repeat (with_reducible apply rg_gdet rfl rfl; (· (intro v W h; simp [know] at h; exact h)); · (intro hBw a W hk hf; simp [looks, Oper.looksAt, Op.operands, Call.operands, know, hBw] at hf; go_simp; rfl))
    with_reducible apply rg_or
    · (intro v W h; simp [know] at h; exact h)
    · (intro v W h hBw; simp [know, hBw] at h; exact h)
    repeat (with_reducible apply rg_det rfl; · (intro a W hk hf; (try simp [looks, Oper.looksAt, Op.operands, Call.operands, know] at hf); go_simp; rfl))
    repeat (with_reducible apply rg_gdet rfl rfl; (· (intro v W h; simp [know] at h; exact h)); · (intro hBw a W hk hf; simp [looks, Oper.looksAt, Op.operands, Call.operands, know, hBw] at hf; go_simp; rfl))
    with_reducible apply rg_gop (fun v W => Ints W v [g.h, g.d, g.italic, g.attach]) (ints_stable _) rfl rfl
    · intro v W h; simp [know] at h; exact h
    · intro hBw a W hk hf; simp [looks, Oper.looksAt, Op.operands, Call.operands, know, hBw] at hf; refine ⟨_, _, by go_simp; exact ⟨rfl, rfl⟩, ?_, ?_⟩
      · exact Ints.of_row (zs := [g.h, g.d, g.italic, g.attach]) (off := 0) 4 (Blk.new _ _ _).row
      · exact (Keep.refl _).alloc _
    with_reducible apply rg_gcall (fun v _ => v = .bool (inB (-20000) 20000 [g.h, g.d, g.italic, g.attach])) (eq_stable _) rfl rfl
    · intro v W h; simp [know] at h; exact h
    · intro hBw a W hk hf; simp [looks, Oper.looksAt, Op.operands, Call.operands, know, hBw] at hf; refine ⟨_, _, by go_simp; exact ⟨rfl, rfl⟩, ?_⟩
      exact (within_c _ _ _ [g.h, g.d, g.italic, g.attach] W (by simp) hf.1).mono fun e W' h => ⟨_, h.1, rfl, h.2 ▸ Keep.refl _⟩
    repeat (with_reducible apply rg_gdet rfl rfl; (· (intro v W h; simp [know] at h; exact h)); · (intro hBw a W hk hf; simp [looks, Oper.looksAt, Op.operands, Call.operands, know, hBw] at hf; go_simp; rfl))
    with_reducible apply rg_or
    · (intro v W h; simp [know] at h; exact h)
    · (intro v W h hBw; simp [know, hBw] at h; exact h)
    with_reducible apply rg_nil
    intro W3 hkW
    simp only [List.reverse_cons, List.reverse_nil, List.nil_append, List.cons_append, List.drop_succ_cons, List.drop_zero, List.drop_nil]
    repeat (first | with_reducible apply fin_det | (with_reducible apply fin_dyn; intro v _))
    with_reducible apply fin_nil
    simp only [Act.put, List.setIfInBounds_toArray, List.set_cons_succ, List.set_cons_zero]
    clear e0 e1 e2 e3 e4 e5
    cases hgo : glyphOk g with
    | false =>
      have hq : (!nameB g.name || !inB 0 20000 [g.w] || !inB (-20000) 20000 [g.h, g.d, g.italic, g.attach]) = true := by
       simp only [glyphOk] at hgo
       cases h1 : nameB g.name <;> cases h2 : inB 0 20000 [g.w] <;> cases h3 : inB (-20000) 20000 [g.h, g.d, g.italic, g.attach] <;> simp_all
      have HF : Hid (f.valid = false) := by unfold Hid; rw [HS.out, HI.out, HD.out]; simp [glyphsOk, hgo]
      simp only [hq]
      clear hq hgo
      go_wp2_with fail
      go_ret
      exact ⟨by rw [HF.out]; rfl, KR.out.trans (hk2.trans hkW)⟩
    | true =>
      have hq : (!nameB g.name || !inB 0 20000 [g.w] || !inB (-20000) 20000 [g.h, g.d, g.italic, g.attach]) = false := by
       simp only [glyphOk] at hgo
       cases h1 : nameB g.name <;> cases h2 : inB 0 20000 [g.w] <;> cases h3 : inB (-20000) 20000 [g.h, g.d, g.italic, g.attach] <;> simp_all
      simp only [hq]
      clear hq
      have HGO := Lib.hid hgo
      clear hgo
      go_wp2_with fail
      have hkr3 : Keep wr W3 := hk2.trans hkW
      have HKR3 := Lib.hid hkr3
      clear hk2 hkW hkr3
      cases hM : htOf (f.glyphs.take k) g.name with
      | some v =>
        have HF : Hid (f.valid = false) := by
         unfold Hid; rw [HS.out, HI.out, HD.out]
         have : hasName g.name (f.glyphs.take k) = true := by rw [hasName_find]; simp only [htOf, Option.map_eq_some_iff] at hM; obtain ⟨y, hy, _⟩ := hM; simp [hy]
         simp [glyphsOk, this]
        have HMM := Lib.hid hM
        clear hM
        refine wp_region_rg 11 mixed (by kernel_rfl) rfl ?_
        intro w4 hk4
        simp only [List.take_succ_cons, List.take_zero, List.take_nil]
        have kr4 := HKR3.out.trans hk4
        have e0 : ∀ W, Keep w4 W → W.cell? ⟨b, off + k * 6, none⟩ = some (.string g.name) := fun W h => (kr4.trans h).cell (HR.out.at_ (j := 0) rfl)
        have em : ∀ W, Keep w4 W → W.cell? ⟨w1.heap.size + 1, 0, none⟩ = some (.map (some w1.heap.size)) := fun W h => (kr4.trans h).cell (BM.out.cell 0)
        have el : ∀ W, Keep w4 W → (Instr.lookup 65 (.map (some w1.heap.size)) (.string g.name) true).run Tryz.prog W = .ok (.tuple #[.int .i64 v, .bool true]) W := fun W h => by
         have := (MM.out.keep (kr4.trans h)).look hok.1
         rw [HMM.out] at this
         exact this
        repeat (with_reducible apply rg_det rfl; · (intro a W hk hf; (try simp [looks, Oper.looksAt, Op.operands, Call.operands, know] at hf); go_simp; rfl))
        with_reducible apply rg_nil
        intro W5 hk5
        simp only [List.reverse_cons, List.reverse_nil, List.nil_append, List.cons_append, List.drop_succ_cons, List.drop_zero, List.drop_nil]
        repeat (with_reducible apply fin_det)
        with_reducible apply fin_nil
        simp only [Act.put, List.setIfInBounds_toArray, List.set_cons_succ, List.set_cons_zero]
        clear e0 em el
        go_wp2_with fail
        go_ret
        exact ⟨by rw [HF.out]; rfl, KR.out.trans (kr4.trans hk5)⟩
      | none =>
        have HMM := Lib.hid hM
        clear hM
        refine wp_region_rg 11 mixed (by kernel_rfl) rfl ?_
        intro w4 hk4
        simp only [List.take_succ_cons, List.take_zero, List.take_nil]
        have kr4 := HKR3.out.trans hk4
        have e0 : ∀ W, Keep w4 W → W.cell? ⟨b, off + k * 6, none⟩ = some (.string g.name) := fun W h => (kr4.trans h).cell (HR.out.at_ (j := 0) rfl)
        have em : ∀ W, Keep w4 W → W.cell? ⟨w1.heap.size + 1, 0, none⟩ = some (.map (some w1.heap.size)) := fun W h => (kr4.trans h).cell (BM.out.cell 0)
        have el : ∀ W, Keep w4 W → (Instr.lookup 65 (.map (some w1.heap.size)) (.string g.name) true).run Tryz.prog W = .ok (.tuple #[.int .i64 0, .bool false]) W := fun W h => by
         have := (MM.out.keep (kr4.trans h)).look hok.1
         rw [HMM.out] at this
         exact this
        repeat (with_reducible apply rg_det rfl; · (intro a W hk hf; (try simp [looks, Oper.looksAt, Op.operands, Call.operands, know] at hf); go_simp; rfl))
        with_reducible apply rg_nil
        intro W5 hk5
        simp only [List.reverse_cons, List.reverse_nil, List.nil_append, List.cons_append, List.drop_succ_cons, List.drop_zero, List.drop_nil]
        repeat (with_reducible apply fin_det)
        with_reducible apply fin_nil
        simp only [Act.put, List.setIfInBounds_toArray, List.set_cons_succ, List.set_cons_zero]
        clear e0 em el
        have kr5 := Lib.hid (kr4.trans hk5)
        clear kr4 hk4 hk5
        go_wp2_with fail
        have hsm : -40000 ≤ g.h + g.d ∧ g.h + g.d ≤ 40000 := by
         have := HGO.out
         simp [glyphOk, inB] at this
         omega
        obtain ⟨hs1, hs2⟩ := hsm
        have hwrap := wrap_id (n := g.h + g.d) (by omega) (by omega)
        refine wp_region_rg 14 mixed (by kernel_rfl) rfl ?_
        intro w6 hk6
        simp only [List.take_succ_cons, List.take_zero, List.take_nil]
        have kr6 := kr5.out.trans hk6
        have e0 : ∀ W, Keep w6 W → W.cell? ⟨b, off + k * 6, none⟩ = some (.string g.name) := fun W h => (kr6.trans h).cell (HR.out.at_ (j := 0) rfl)
        have e2 : ∀ W, Keep w6 W → W.cell? ⟨b, off + k * 6 + 2, none⟩ = some (.int .i64 g.h) := fun W h => (kr6.trans h).cell (HR.out.at_ (j := 2) rfl)
        have e3 : ∀ W, Keep w6 W → W.cell? ⟨b, off + k * 6 + 3, none⟩ = some (.int .i64 g.d) := fun W h => (kr6.trans h).cell (HR.out.at_ (j := 3) rfl)
        have em : ∀ W, Keep w6 W → W.cell? ⟨w1.heap.size + 1, 0, none⟩ = some (.map (some w1.heap.size)) := fun W h => (kr6.trans h).cell (BM.out.cell 0)
        repeat (with_reducible apply rg_det rfl; · (intro a W hk hf; (try simp [looks, Oper.looksAt, Op.operands, Call.operands, know] at hf); go_simp; rfl))
        with_reducible apply rg_nil
        intro W7 hk7
        simp only [List.reverse_cons, List.reverse_nil, List.nil_append, List.cons_append, List.drop_succ_cons, List.drop_zero, List.drop_nil]
        repeat (with_reducible apply fin_det)
        with_reducible apply fin_nil
        simp only [Act.put, List.setIfInBounds_toArray, List.set_cons_succ, List.set_cons_zero]
        clear e0 e2 e3 em hwrap
        have kr7 := kr6.trans hk7
        have mm7 := MM.out.keep kr7
        obtain ⟨w8, hrun, hgr, hm8⟩ := mm7.store (by unfold maxLen; omega) hok.1 (v := g.h + g.d) (i64_wf.2 ⟨by omega, by omega⟩)
        have HRUN := Lib.hid hrun
        have HGR := Lib.hid hgr
        have HM8 := Lib.hid hm8
        have KR7 := Lib.hid kr7
        clear hrun hgr hm8 mm7 kr7 kr6 hk6 hk7
        go_wp2_with (first
         | (with_reducible refine wl_mapUpdate (.map (some w1.heap.size)) (.string g.name) (.int .i64 (g.h + g.d)) w8 ?_ ?_ ?_ HRUN.out ?_
            · rfl
            · rfl
            · rfl))
        go_roundw
        case rel =>
         have hnn : hasName g.name (f.glyphs.take k) = false := by
          rw [hasName_find]
          have := HMM.out
          simp only [htOf, Option.map_eq_none_iff] at this
          simp [this]
         refine ⟨k + 1, by omega, by go_num, Keep.of_grown (KR.out.trans KR7.out) HGR.out (fun j e => by cases e; omega), (KR7.out.blk BF.out).grown HGR.out (fun e => by injection e with e; omega), (KR7.out.blk BM.out).grown HGR.out (fun e => by injection e with e; omega),
          HM8.out.congr fun x => by rw [HT.out]; exact htOf_snoc _ _ HMM.out x, ?_, ?_⟩
         · unfold Hid
           rw [HI.out, HD.out, HT.out]
           simp [glyphsOk, HGO.out, hnn]
         · intro x hx
           rw [HT.out] at hx
           rcases List.mem_append.1 hx with hx | hx
           · exact HA.out x hx
           · simp only [List.mem_singleton] at hx
             rw [hx]
             exact HGO.out
        case measure => simp [intOf]; omega
  · have hkl : k = f.glyphs.length := by omega
    subst hkl
    have HGT : Hid (glyphsOk [] f.glyphs = true) := by unfold Hid; rw [HI.out, List.drop_of_length_le (Nat.le_refl _)]; rfl
    have htk : f.glyphs.take f.glyphs.length = f.glyphs := List.take_length
    have HAA : Hid (∀ g ∈ f.glyphs, glyphOk g = true) := by have := HA.out; rw [htk] at this; exact this
    have MMM : Hid (MapN wr w1.heap.size f.glyphs.length f.ht) := by have := MM.out; rw [htk] at this; exact this
    clear htk HI HA MM
    have HMb : Hid (∀ x h, f.ht x = some h → -60000 ≤ h ∧ h ≤ 60000) := ht_small f HAA.out
    have HV : Hid (f.valid = stretchesOk f.ht [] f.stretches) := by unfold Hid; rw [HS.out, HGT.out]; rfl
    go_wp2_with fail
    obtain ⟨wa, rfl⟩ : ∃ wa : World, wa = wr := ⟨_, rfl⟩
    go_loopw [108] (fun i wq => ∃ k : Nat, k ≤ f.stretches.length ∧ i = .int .i64 k ∧ Keep wa wq ∧ Hid (stretchesOk f.ht [] f.stretches = stretchesOk f.ht (f.stretches.take k) (f.stretches.drop k))) (fun i _ => f.stretches.length - (intOf i).toNat)
    case atStart => exact ⟨0, Nat.zero_le _, rfl, Keep.refl _, rfl⟩
    case round =>
     obtain ⟨k, hk, rfl, hkq, HI⟩ := hrel
     have KQ := Lib.hid hkq
     have hzq := hkq.size
     clear hkq
     by_cases hlt : k < f.stretches.length
     · obtain ⟨b, off, row, rfl, hb, hs4, hrow, hrd⟩ := HSt.out k hlt
       have hd : f.stretches.drop k = f.stretches[k] :: f.stretches.drop (k + 1) := List.drop_eq_getElem_cons hlt
       have ht : f.stretches.take (k + 1) = f.stretches.take k ++ [f.stretches[k]] := List.take_succ_eq_append_getElem hlt
       have HD := Lib.hid hd
       have HT := Lib.hid ht
       have hkwq := KR.out.trans KQ.out
       have HR := Lib.hid (hkwq.row hrow)
       have HRD := Lib.hid (Rd.keep hkwq _ _ hrd)
       have AG := agg_stretch hs4
       have ON := ones_of hrd
       have HZ1 := Lib.hid hs4
       clear hd ht hrow hrd hs4
       generalize f.stretches[k] = s at *
       obtain ⟨zv, pv, -, q0, q1, q2, q3, hn, -, -, -⟩ := stretch_cells HRD.out
       go_wp2_with (first
        | (with_reducible refine wl_load (ty := 61) (b) (off + k * 4) (row) ?_ ?_ ?_ ?_ ?_
           · rfl
           · exact HR.out
           · exact AG
           · rfl)
        | (with_reducible refine wl_store_last (ty := 61) (wr.heap.size) (row) ?_ ?_ ?_ ?_ ?_ ?_ ?_ ?_
           · rfl
           · rfl
           · simp
           · exact Eq.symm (HZ1.out)
           · exact ON
           · exact AG
           · rfl)
        | (with_reducible refine wl_load (ty := 61) (wr.heap.size) (0) (row) ?_ ?_ ?_ ?_ ?_
           · rfl
           · exact (Blk.new _ _ _).row
           · exact AG
           · rfl))
       refine (validStretch_c s row (w1.heap.size + 1) w1.heap.size f.glyphs.length f.ht _ (Rd.keep (by repeat (with_reducible first | exact Keep.refl _ | assumption | apply Keep.alloc | apply Keep.drew | apply Keep.drewN | (refine Keep.setRow ?_ (by omega) _) | refine Keep.trans ?_ (by assumption))) _ _ HRD.out) ((KQ.out.alloc _).cell (BM.out.cell 0)) (MMM.out.keep (KQ.out.alloc _)) HMb.out).mono ?_
       rintro e wz ⟨rfl, hkz⟩
       have hzz := hkz.size
       simp only [World.size_alloc] at hzz
       cases hso : stretchOk f.ht s with
       | false =>
         have HF : Hid (f.valid = false) := by unfold Hid; rw [HV.out, HI.out, HD.out]; simp [stretchesOk, hso]
         clear hso
         go_wp2_with fail
         go_ret
         exact ⟨by rw [HF.out]; rfl, KR.out.trans (KQ.out.trans (((Keep.refl _).alloc _).trans hkz))⟩
       | true =>
         have HSO := Lib.hid hso
         clear hso
         have hcf := ((((KQ.out.alloc _).trans hkz)).blk BF.out).cell
         have hkd : k ≤ d := by omega
         have HB := Lib.hid (hkz.blk (Blk.new _ _ _))
         go_wp2_with fail
         obtain ⟨wb, rfl⟩ : ∃ wb : World, wb = wr := ⟨_, rfl⟩
         have hcs0 := HB.out.cell
         have KZ := Lib.hid hkz
         clear hkz hcf
         go_loopw [122] (fun i wy => ∃ j : Nat, j ≤ k ∧ i = .int .i64 j ∧ Keep wz wy ∧ Hid (hasStretch s.name (f.stretches.take k) = hasStretch s.name ((f.stretches.take k).drop j))) (fun i _ => k - (intOf i).toNat)
         case atStart => exact ⟨0, Nat.zero_le _, rfl, Keep.refl _, rfl⟩
         case round =>
          obtain ⟨j, hj, rfl, hky, HJ⟩ := hrel
          have KY := Lib.hid hky
          have hzy := hky.size
          have hcy := (hky.blk HB.out).cell
          have hlb : wb.heap.size < wr.heap.size := by omega
          clear hky hcs0
          have hlen : (f.stretches.take k).length = k := by rw [List.length_take]; omega
          have HL := Lib.hid hlen
          clear hlen
          by_cases hjk : j < k
          · obtain ⟨b2, off2, row2, hB2, hb2, hs42, hrow2, hrd2⟩ := HSt.out j (by omega)
            simp only [Option.some.injEq, Addr.mk.injEq, and_true] at hB2
            obtain ⟨rfl, rfl⟩ := hB2
            have hd : (f.stretches.take k).drop j = f.stretches[j] :: (f.stretches.take k).drop (j + 1) := by
             rw [List.drop_eq_getElem_cons (by rw [HL.out]; exact hjk), List.getElem_take]
            have HD2 := Lib.hid hd
            have hkwy := KR.out.trans (KQ.out.trans (((Keep.refl _).alloc _).trans (KZ.out.trans KY.out)))
            have HR2 := Lib.hid (hkwy.row hrow2)
            have HRD2 := Lib.hid (Rd.keep hkwy _ _ hrd2)
            have AG2 := agg_stretch hs42
            have ON2 := ones_of hrd2
            have HZ2 := Lib.hid hs42
            clear hd hrow2 hrd2 hkwy hs42
            generalize f.stretches[j] = s2 at *
            obtain ⟨zv2, pv2, -, p0, -, -, -, -, -, -, -⟩ := stretch_cells HRD2.out
            by_cases hnm : s2.name = s.name
            · have HF : Hid (f.valid = false) := by
               unfold Hid; rw [HV.out, HI.out, HD.out]
               have : hasStretch s.name (f.stretches.take k) = true := by rw [HJ.out, HD2.out]; simp [hasStretch, hnm]
               simp [stretchesOk, this]
              go_wp2_with (first
               | (with_reducible refine wl_load (ty := 61) (b) (off + j * 4) (row2) ?_ ?_ ?_ ?_ ?_
                  · rfl
                  · exact HR2.out
                  · exact AG2
                  · rfl)
               | (with_reducible refine wl_store_last (ty := 61) (wr.heap.size) (row2) ?_ ?_ ?_ ?_ ?_ ?_ ?_ ?_
                  · rfl
                  · rfl
                  · simp
                  · exact Eq.symm (HZ2.out)
                  · exact ON2
                  · exact AG2
                  · rfl))
              go_ret
              exact ⟨by rw [HF.out]; rfl, (KR.out.trans (KQ.out.trans (((Keep.refl _).alloc _).trans (KZ.out.trans KY.out)))).alloc _⟩
            · have hne := str_ne hnm
              go_wp2_with (first
               | (with_reducible refine wl_load (ty := 61) (b) (off + j * 4) (row2) ?_ ?_ ?_ ?_ ?_
                  · rfl
                  · exact HR2.out
                  · exact AG2
                  · rfl)
               | (with_reducible refine wl_store_last (ty := 61) (wr.heap.size) (row2) ?_ ?_ ?_ ?_ ?_ ?_ ?_ ?_
                  · rfl
                  · rfl
                  · simp
                  · exact Eq.symm (HZ2.out)
                  · exact ON2
                  · exact AG2
                  · rfl))
              go_roundw
              case rel => exact ⟨j + 1, by omega, by go_num, KY.out.alloc _, by unfold Hid; rw [HJ.out, HD2.out]; simp [hasStretch, hnm]⟩
              case measure => simp [intOf]; omega
          · have HNS : Hid (hasStretch s.name (f.stretches.take k) = false) := by unfold Hid; rw [HJ.out, List.drop_of_length_le (by rw [HL.out]; omega)]; rfl
            go_wp2_with fail
            go_roundw
            case rel => exact ⟨k + 1, by omega, by go_num, KQ.out.trans (((Keep.refl _).alloc _).trans (KZ.out.trans KY.out)), by unfold Hid; rw [HI.out, HD.out, HT.out]; simp [stretchesOk, HSO.out, HNS.out]⟩
            case measure => simp [intOf]; omega
     · have HF : Hid (f.valid = true) := by unfold Hid; rw [HV.out, HI.out, List.drop_of_length_le (by omega)]; rfl
       go_wp2_with fail
       go_ret
       exact ⟨by rw [HF.out]; rfl, KR.out.trans KQ.out⟩
end Go.Proofs.YthbcljjpmdfflaaGreat
