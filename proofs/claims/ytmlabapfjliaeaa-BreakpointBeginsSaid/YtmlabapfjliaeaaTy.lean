/- Facts on the table of types of this seat's program, printed by a program (gentypes.py); each is reckoned by the kernel. -/
import Derived.Test.YtmlabapfjliaeaaG3
import Derived.Test.YtmlabapfjliaeaaProg
import Derived.KernelRfl
namespace Go.Proofs.Ytmlabapfjliaeaa
@[simp] theorem ty1_1 : tOne Try.prog 1 = some (false, 1) := by kernel_rfl
@[simp] theorem tyz_1 : tZero Try.prog 1 = some [.c .nilf] := by kernel_rfl
@[simp] theorem ty1_2 : tOne Try.prog 2 = some (false, 1) := by kernel_rfl
@[simp] theorem tyz_2 : tZero Try.prog 2 = some [.c (.int .i64 0)] := by kernel_rfl
@[simp] theorem tyi_2 : tInt Try.prog 2 = some .i64 := by kernel_rfl
@[simp] theorem ty1_3 : tOne Try.prog 3 = some (false, 1) := by kernel_rfl
@[simp] theorem tyz_3 : tZero Try.prog 3 = some [.c (.int .i64 0)] := by kernel_rfl
@[simp] theorem tyi_3 : tInt Try.prog 3 = some .i64 := by kernel_rfl
@[simp] theorem ty1_4 : tOne Try.prog 4 = some (false, 1) := by kernel_rfl
@[simp] theorem tyz_4 : tZero Try.prog 4 = some [.c (.bool false)] := by kernel_rfl
@[simp] theorem tyb_4 : tBool Try.prog 4 = true := by kernel_rfl
@[simp] theorem ty1_5 : tOne Try.prog 5 = some (false, 1) := by kernel_rfl
@[simp] theorem tyz_5 : tZero Try.prog 5 = some [.c (.int .u8 0)] := by kernel_rfl
@[simp] theorem tyi_5 : tInt Try.prog 5 = some .u8 := by kernel_rfl
@[simp] theorem ty1_6 : tOne Try.prog 6 = some (false, 1) := by kernel_rfl
@[simp] theorem tyz_6 : tZero Try.prog 6 = some [.c (.int .u8 0)] := by kernel_rfl
@[simp] theorem tyi_6 : tInt Try.prog 6 = some .u8 := by kernel_rfl
@[simp] theorem ty1_7 : tOne Try.prog 7 = some (true, 4) := by kernel_rfl
@[simp] theorem tyz_7 : tZero Try.prog 7 = some [.c (.int .i64 0), .c (.int .i64 0), .c (.bool false), .c (.int .u8 0)] := by kernel_rfl
@[simp] theorem typ_7 : tPlaces Try.prog 7 = some fun i => ([(0, 1), (1, 1), (2, 1), (3, 1)] : List (Nat × Nat))[i]? := by kernel_rfl
@[simp] theorem tyf_7_0 : tField Try.prog 7 0 = some (0, 1, false) := by kernel_rfl
@[simp] theorem tyf_7_1 : tField Try.prog 7 1 = some (1, 1, false) := by kernel_rfl
@[simp] theorem tyf_7_2 : tField Try.prog 7 2 = some (2, 1, false) := by kernel_rfl
@[simp] theorem tyf_7_3 : tField Try.prog 7 3 = some (3, 1, false) := by kernel_rfl
@[simp] theorem ty1_8 : tOne Try.prog 8 = some (true, 4) := by kernel_rfl
@[simp] theorem tyz_8 : tZero Try.prog 8 = some [.c (.int .i64 0), .c (.int .i64 0), .c (.bool false), .c (.int .u8 0)] := by kernel_rfl
@[simp] theorem typ_8 : tPlaces Try.prog 8 = some fun i => ([(0, 1), (1, 1), (2, 1), (3, 1)] : List (Nat × Nat))[i]? := by kernel_rfl
@[simp] theorem tyf_8_0 : tField Try.prog 8 0 = some (0, 1, false) := by kernel_rfl
@[simp] theorem tyf_8_1 : tField Try.prog 8 1 = some (1, 1, false) := by kernel_rfl
@[simp] theorem tyf_8_2 : tField Try.prog 8 2 = some (2, 1, false) := by kernel_rfl
@[simp] theorem tyf_8_3 : tField Try.prog 8 3 = some (3, 1, false) := by kernel_rfl
@[simp] theorem ty1_9 : tOne Try.prog 9 = some (false, 1) := by kernel_rfl
@[simp] theorem tyz_9 : tZero Try.prog 9 = some [.c (.str ⟨#[]⟩)] := by kernel_rfl
@[simp] theorem tys_9 : tStr Try.prog 9 = true := by kernel_rfl
@[simp] theorem ty1_10 : tOne Try.prog 10 = some (false, 1) := by kernel_rfl
@[simp] theorem tyz_10 : tZero Try.prog 10 = some [.c (.str ⟨#[]⟩)] := by kernel_rfl
@[simp] theorem tys_10 : tStr Try.prog 10 = true := by kernel_rfl
@[simp] theorem ty1_11 : tOne Try.prog 11 = some (false, 1) := by kernel_rfl
@[simp] theorem tyz_11 : tZero Try.prog 11 = some [.c (.str ⟨#[]⟩)] := by kernel_rfl
@[simp] theorem tys_11 : tStr Try.prog 11 = true := by kernel_rfl
@[simp] theorem ty1_12 : tOne Try.prog 12 = some (false, 1) := by kernel_rfl
@[simp] theorem tyz_12 : tZero Try.prog 12 = some [.c (.int .u64 0)] := by kernel_rfl
@[simp] theorem tyi_12 : tInt Try.prog 12 = some .u64 := by kernel_rfl
@[simp] theorem ty1_13 : tOne Try.prog 13 = some (true, 2) := by kernel_rfl
@[simp] theorem tyz_13 : tZero Try.prog 13 = some [.c (.str ⟨#[]⟩), .c (.int .u64 0)] := by kernel_rfl
@[simp] theorem typ_13 : tPlaces Try.prog 13 = some fun i => ([(0, 1), (1, 1)] : List (Nat × Nat))[i]? := by kernel_rfl
@[simp] theorem tyf_13_0 : tField Try.prog 13 0 = some (0, 1, false) := by kernel_rfl
@[simp] theorem tyf_13_1 : tField Try.prog 13 1 = some (1, 1, false) := by kernel_rfl
@[simp] theorem ty1_14 : tOne Try.prog 14 = some (true, 2) := by kernel_rfl
@[simp] theorem tyz_14 : tZero Try.prog 14 = some [.c (.str ⟨#[]⟩), .c (.int .u64 0)] := by kernel_rfl
@[simp] theorem typ_14 : tPlaces Try.prog 14 = some fun i => ([(0, 1), (1, 1)] : List (Nat × Nat))[i]? := by kernel_rfl
@[simp] theorem tyf_14_0 : tField Try.prog 14 0 = some (0, 1, false) := by kernel_rfl
@[simp] theorem tyf_14_1 : tField Try.prog 14 1 = some (1, 1, false) := by kernel_rfl
@[simp] theorem ty1_15 : tOne Try.prog 15 = some (false, 1) := by kernel_rfl
@[simp] theorem tyz_15 : tZero Try.prog 15 = some [.c .nilp] := by kernel_rfl
@[simp] theorem ty1_16 : tOne Try.prog 16 = some (false, 1) := by kernel_rfl
@[simp] theorem tyz_16 : tZero Try.prog 16 = some [.c .nilp] := by kernel_rfl
@[simp] theorem ty1_17 : tOne Try.prog 17 = some (false, 1) := by kernel_rfl
@[simp] theorem tyz_17 : tZero Try.prog 17 = some [.c .nilp] := by kernel_rfl
@[simp] theorem ty1_18 : tOne Try.prog 18 = some (true, 1) := by kernel_rfl
@[simp] theorem tyz_18 : tZero Try.prog 18 = some [.c .nilp] := by kernel_rfl
@[simp] theorem typ_18 : tPlaces Try.prog 18 = some fun i => ([(0, 1)] : List (Nat × Nat))[i]? := by kernel_rfl
@[simp] theorem tyf_18_0 : tField Try.prog 18 0 = some (0, 1, false) := by kernel_rfl
@[simp] theorem ty1_19 : tOne Try.prog 19 = some (true, 1) := by kernel_rfl
@[simp] theorem tyz_19 : tZero Try.prog 19 = some [.c .nilp] := by kernel_rfl
@[simp] theorem typ_19 : tPlaces Try.prog 19 = some fun i => ([(0, 1)] : List (Nat × Nat))[i]? := by kernel_rfl
@[simp] theorem tyf_19_0 : tField Try.prog 19 0 = some (0, 1, false) := by kernel_rfl
@[simp] theorem ty1_20 : tOne Try.prog 20 = some (false, 1) := by kernel_rfl
@[simp] theorem tyz_20 : tZero Try.prog 20 = some [.any] := by kernel_rfl
@[simp] theorem ty1_21 : tOne Try.prog 21 = some (false, 1) := by kernel_rfl
@[simp] theorem tyz_21 : tZero Try.prog 21 = some [.c (.int .i32 0)] := by kernel_rfl
@[simp] theorem tyi_21 : tInt Try.prog 21 = some .i32 := by kernel_rfl
@[simp] theorem ty1_22 : tOne Try.prog 22 = some (false, 1) := by kernel_rfl
@[simp] theorem tyz_22 : tZero Try.prog 22 = some [.full []] := by kernel_rfl
@[simp] theorem tyl_22 : tSl Try.prog 22 = true := by kernel_rfl
@[simp] theorem tye_22 : tElem Try.prog 22 = some (36, 4, 32) := by kernel_rfl
@[simp] theorem ty1_23 : tOne Try.prog 23 = some (false, 1) := by kernel_rfl
@[simp] theorem tyz_23 : tZero Try.prog 23 = some [.full []] := by kernel_rfl
@[simp] theorem tyl_23 : tSl Try.prog 23 = true := by kernel_rfl
@[simp] theorem tye_23 : tElem Try.prog 23 = some (38, 4, 56) := by kernel_rfl
@[simp] theorem ty1_24 : tOne Try.prog 24 = some (false, 1) := by kernel_rfl
@[simp] theorem tyz_24 : tZero Try.prog 24 = some [.c .nilf] := by kernel_rfl
@[simp] theorem ty1_25 : tOne Try.prog 25 = some (false, 1) := by kernel_rfl
@[simp] theorem tyz_25 : tZero Try.prog 25 = some [.c .nilf] := by kernel_rfl
@[simp] theorem ty1_26 : tOne Try.prog 26 = some (false, 1) := by kernel_rfl
@[simp] theorem tyz_26 : tZero Try.prog 26 = some [.full []] := by kernel_rfl
@[simp] theorem tyl_26 : tSl Try.prog 26 = true := by kernel_rfl
@[simp] theorem tye_26 : tElem Try.prog 26 = some (3, 1, 8) := by kernel_rfl
@[simp] theorem ty1_27 : tOne Try.prog 27 = some (false, 1) := by kernel_rfl
@[simp] theorem tyz_27 : tZero Try.prog 27 = some [.c (.int .i64 0)] := by kernel_rfl
@[simp] theorem tyi_27 : tInt Try.prog 27 = some .i64 := by kernel_rfl
@[simp] theorem ty1_29 : tOne Try.prog 29 = some (false, 1) := by kernel_rfl
@[simp] theorem tyz_29 : tZero Try.prog 29 = some [.c .nilf] := by kernel_rfl
@[simp] theorem ty1_30 : tOne Try.prog 30 = some (false, 1) := by kernel_rfl
@[simp] theorem tyz_30 : tZero Try.prog 30 = some [.c .nilf] := by kernel_rfl
@[simp] theorem ty1_31 : tOne Try.prog 31 = some (false, 1) := by kernel_rfl
@[simp] theorem tyz_31 : tZero Try.prog 31 = some [.c .nilf] := by kernel_rfl
@[simp] theorem ty1_32 : tOne Try.prog 32 = some (false, 1) := by kernel_rfl
@[simp] theorem tyz_32 : tZero Try.prog 32 = some [.c .nilf] := by kernel_rfl
@[simp] theorem ty1_33 : tOne Try.prog 33 = some (false, 1) := by kernel_rfl
@[simp] theorem tyz_33 : tZero Try.prog 33 = some [.c .nilf] := by kernel_rfl
@[simp] theorem ty1_34 : tOne Try.prog 34 = some (false, 1) := by kernel_rfl
@[simp] theorem tyz_34 : tZero Try.prog 34 = some [.c .nilf] := by kernel_rfl
@[simp] theorem ty1_35 : tOne Try.prog 35 = some (true, 4) := by kernel_rfl
@[simp] theorem tyz_35 : tZero Try.prog 35 = some [.c (.str ⟨#[]⟩), .c (.int .i64 0), .c (.bool false), .c (.bool false)] := by kernel_rfl
@[simp] theorem typ_35 : tPlaces Try.prog 35 = some fun i => ([(0, 1), (1, 1), (2, 1), (3, 1)] : List (Nat × Nat))[i]? := by kernel_rfl
@[simp] theorem tyf_35_0 : tField Try.prog 35 0 = some (0, 1, false) := by kernel_rfl
@[simp] theorem tyf_35_1 : tField Try.prog 35 1 = some (1, 1, false) := by kernel_rfl
@[simp] theorem tyf_35_2 : tField Try.prog 35 2 = some (2, 1, false) := by kernel_rfl
@[simp] theorem tyf_35_3 : tField Try.prog 35 3 = some (3, 1, false) := by kernel_rfl
@[simp] theorem ty1_36 : tOne Try.prog 36 = some (true, 4) := by kernel_rfl
@[simp] theorem tyz_36 : tZero Try.prog 36 = some [.c (.str ⟨#[]⟩), .c (.int .i64 0), .c (.bool false), .c (.bool false)] := by kernel_rfl
@[simp] theorem typ_36 : tPlaces Try.prog 36 = some fun i => ([(0, 1), (1, 1), (2, 1), (3, 1)] : List (Nat × Nat))[i]? := by kernel_rfl
@[simp] theorem tyf_36_0 : tField Try.prog 36 0 = some (0, 1, false) := by kernel_rfl
@[simp] theorem tyf_36_1 : tField Try.prog 36 1 = some (1, 1, false) := by kernel_rfl
@[simp] theorem tyf_36_2 : tField Try.prog 36 2 = some (2, 1, false) := by kernel_rfl
@[simp] theorem tyf_36_3 : tField Try.prog 36 3 = some (3, 1, false) := by kernel_rfl
@[simp] theorem ty1_37 : tOne Try.prog 37 = some (true, 4) := by kernel_rfl
@[simp] theorem tyz_37 : tZero Try.prog 37 = some [.c (.int .i64 0), .c (.str ⟨#[]⟩), .c (.int .i64 0), .full []] := by kernel_rfl
@[simp] theorem typ_37 : tPlaces Try.prog 37 = some fun i => ([(0, 1), (1, 1), (2, 1), (3, 1)] : List (Nat × Nat))[i]? := by kernel_rfl
@[simp] theorem tyf_37_0 : tField Try.prog 37 0 = some (0, 1, false) := by kernel_rfl
@[simp] theorem tyf_37_1 : tField Try.prog 37 1 = some (1, 1, false) := by kernel_rfl
@[simp] theorem tyf_37_2 : tField Try.prog 37 2 = some (2, 1, false) := by kernel_rfl
@[simp] theorem tyf_37_3 : tField Try.prog 37 3 = some (3, 1, false) := by kernel_rfl
@[simp] theorem ty1_38 : tOne Try.prog 38 = some (true, 4) := by kernel_rfl
@[simp] theorem tyz_38 : tZero Try.prog 38 = some [.c (.int .i64 0), .c (.str ⟨#[]⟩), .c (.int .i64 0), .full []] := by kernel_rfl
@[simp] theorem typ_38 : tPlaces Try.prog 38 = some fun i => ([(0, 1), (1, 1), (2, 1), (3, 1)] : List (Nat × Nat))[i]? := by kernel_rfl
@[simp] theorem tyf_38_0 : tField Try.prog 38 0 = some (0, 1, false) := by kernel_rfl
@[simp] theorem tyf_38_1 : tField Try.prog 38 1 = some (1, 1, false) := by kernel_rfl
@[simp] theorem tyf_38_2 : tField Try.prog 38 2 = some (2, 1, false) := by kernel_rfl
@[simp] theorem tyf_38_3 : tField Try.prog 38 3 = some (3, 1, false) := by kernel_rfl
@[simp] theorem ty1_39 : tOne Try.prog 39 = some (false, 1) := by kernel_rfl
@[simp] theorem tyz_39 : tZero Try.prog 39 = some [.c .nilf] := by kernel_rfl
@[simp] theorem ty1_40 : tOne Try.prog 40 = some (false, 1) := by kernel_rfl
@[simp] theorem tyz_40 : tZero Try.prog 40 = some [.c .nilf] := by kernel_rfl
@[simp] theorem ty1_41 : tOne Try.prog 41 = some (false, 1) := by kernel_rfl
@[simp] theorem tyz_41 : tZero Try.prog 41 = some [.c .nilf] := by kernel_rfl
@[simp] theorem ty1_42 : tOne Try.prog 42 = some (false, 1) := by kernel_rfl
@[simp] theorem tyz_42 : tZero Try.prog 42 = some [.c .nilf] := by kernel_rfl
@[simp] theorem ty1_43 : tOne Try.prog 43 = some (false, 1) := by kernel_rfl
@[simp] theorem tyz_43 : tZero Try.prog 43 = some [.c .nilf] := by kernel_rfl
@[simp] theorem ty1_44 : tOne Try.prog 44 = some (false, 1) := by kernel_rfl
@[simp] theorem tyz_44 : tZero Try.prog 44 = some [.c .nilf] := by kernel_rfl
@[simp] theorem ty1_45 : tOne Try.prog 45 = some (false, 1) := by kernel_rfl
@[simp] theorem tyz_45 : tZero Try.prog 45 = some [.c .nilf] := by kernel_rfl
@[simp] theorem ty1_46 : tOne Try.prog 46 = some (false, 1) := by kernel_rfl
@[simp] theorem tyz_46 : tZero Try.prog 46 = some [.c .nilf] := by kernel_rfl
@[simp] theorem ty1_47 : tOne Try.prog 47 = some (false, 1) := by kernel_rfl
@[simp] theorem tyz_47 : tZero Try.prog 47 = some [.c .nilf] := by kernel_rfl
@[simp] theorem ty1_48 : tOne Try.prog 48 = some (false, 1) := by kernel_rfl
@[simp] theorem tyz_48 : tZero Try.prog 48 = some [.c .nilf] := by kernel_rfl
@[simp] theorem ty1_49 : tOne Try.prog 49 = some (false, 1) := by kernel_rfl
@[simp] theorem tyz_49 : tZero Try.prog 49 = some [.c .nilf] := by kernel_rfl
@[simp] theorem ty1_50 : tOne Try.prog 50 = some (false, 1) := by kernel_rfl
@[simp] theorem tyz_50 : tZero Try.prog 50 = some [.c .nilf] := by kernel_rfl
@[simp] theorem ty1_51 : tOne Try.prog 51 = some (false, 1) := by kernel_rfl
@[simp] theorem tyz_51 : tZero Try.prog 51 = some [.c .nilf] := by kernel_rfl
@[simp] theorem ty1_52 : tOne Try.prog 52 = some (false, 1) := by kernel_rfl
@[simp] theorem tyz_52 : tZero Try.prog 52 = some [.any] := by kernel_rfl
@[simp] theorem ty1_53 : tOne Try.prog 53 = some (false, 1) := by kernel_rfl
@[simp] theorem tyz_53 : tZero Try.prog 53 = some [.c .nilp] := by kernel_rfl
@[simp] theorem ty1_54 : tOne Try.prog 54 = some (false, 1) := by kernel_rfl
@[simp] theorem tyz_54 : tZero Try.prog 54 = some [.c .nilf] := by kernel_rfl
@[simp] theorem ty1_55 : tOne Try.prog 55 = some (true, 3) := by kernel_rfl
@[simp] theorem tyz_55 : tZero Try.prog 55 = some [.c (.str ⟨#[]⟩), .c (.int .i64 0), .c .nilf] := by kernel_rfl
@[simp] theorem typ_55 : tPlaces Try.prog 55 = some fun i => ([(0, 1), (1, 1), (2, 1)] : List (Nat × Nat))[i]? := by kernel_rfl
@[simp] theorem tyf_55_0 : tField Try.prog 55 0 = some (0, 1, false) := by kernel_rfl
@[simp] theorem tyf_55_1 : tField Try.prog 55 1 = some (1, 1, false) := by kernel_rfl
@[simp] theorem tyf_55_2 : tField Try.prog 55 2 = some (2, 1, false) := by kernel_rfl
@[simp] theorem ty1_56 : tOne Try.prog 56 = some (true, 3) := by kernel_rfl
@[simp] theorem tyz_56 : tZero Try.prog 56 = some [.c (.str ⟨#[]⟩), .c (.int .i64 0), .c .nilf] := by kernel_rfl
@[simp] theorem typ_56 : tPlaces Try.prog 56 = some fun i => ([(0, 1), (1, 1), (2, 1)] : List (Nat × Nat))[i]? := by kernel_rfl
@[simp] theorem tyf_56_0 : tField Try.prog 56 0 = some (0, 1, false) := by kernel_rfl
@[simp] theorem tyf_56_1 : tField Try.prog 56 1 = some (1, 1, false) := by kernel_rfl
@[simp] theorem tyf_56_2 : tField Try.prog 56 2 = some (2, 1, false) := by kernel_rfl
@[simp] theorem ty1_57 : tOne Try.prog 57 = some (true, 39) := by kernel_rfl
@[simp] theorem tyz_57 : tZero Try.prog 57 = some [.c (.str ⟨#[]⟩), .c (.int .i64 0), .c .nilf, .c (.str ⟨#[]⟩), .c (.int .i64 0), .c .nilf, .c (.str ⟨#[]⟩), .c (.int .i64 0), .c .nilf, .c (.str ⟨#[]⟩), .c (.int .i64 0), .c .nilf, .c (.str ⟨#[]⟩), .c (.int .i64 0), .c .nilf, .c (.str ⟨#[]⟩), .c (.int .i64 0), .c .nilf, .c (.str ⟨#[]⟩), .c (.int .i64 0), .c .nilf, .c (.str ⟨#[]⟩), .c (.int .i64 0), .c .nilf, .c (.str ⟨#[]⟩), .c (.int .i64 0), .c .nilf, .c (.str ⟨#[]⟩), .c (.int .i64 0), .c .nilf, .c (.str ⟨#[]⟩), .c (.int .i64 0), .c .nilf, .c (.str ⟨#[]⟩), .c (.int .i64 0), .c .nilf, .c (.str ⟨#[]⟩), .c (.int .i64 0), .c .nilf] := by kernel_rfl
@[simp] theorem typ_57 : tPlaces Try.prog 57 = some fun i => some (i * 3, 3) := by kernel_rfl
@[simp] theorem tya_57 : tArr Try.prog 57 = some (13, 3, true) := by kernel_rfl
@[simp] theorem ty1_58 : tOne Try.prog 58 = some (false, 1) := by kernel_rfl
@[simp] theorem tyz_58 : tZero Try.prog 58 = some [.c .nilf] := by kernel_rfl
@[simp] theorem ty1_59 : tOne Try.prog 59 = some (true, 40) := by kernel_rfl
@[simp] theorem tyz_59 : tZero Try.prog 59 = some [.c (.str ⟨#[]⟩), .c (.int .i64 0), .c .nilf, .c (.str ⟨#[]⟩), .c (.int .i64 0), .c .nilf, .c (.str ⟨#[]⟩), .c (.int .i64 0), .c .nilf, .c (.str ⟨#[]⟩), .c (.int .i64 0), .c .nilf, .c (.str ⟨#[]⟩), .c (.int .i64 0), .c .nilf, .c (.str ⟨#[]⟩), .c (.int .i64 0), .c .nilf, .c (.str ⟨#[]⟩), .c (.int .i64 0), .c .nilf, .c (.str ⟨#[]⟩), .c (.int .i64 0), .c .nilf, .c (.str ⟨#[]⟩), .c (.int .i64 0), .c .nilf, .c (.str ⟨#[]⟩), .c (.int .i64 0), .c .nilf, .c (.str ⟨#[]⟩), .c (.int .i64 0), .c .nilf, .c (.str ⟨#[]⟩), .c (.int .i64 0), .c .nilf, .c (.str ⟨#[]⟩), .c (.int .i64 0), .c .nilf, .c (.int .i64 0)] := by kernel_rfl
@[simp] theorem typ_59 : tPlaces Try.prog 59 = some fun i => ([(0, 39), (39, 1)] : List (Nat × Nat))[i]? := by kernel_rfl
@[simp] theorem tyf_59_0 : tField Try.prog 59 0 = some (0, 39, true) := by kernel_rfl
@[simp] theorem tyf_59_1 : tField Try.prog 59 1 = some (39, 1, false) := by kernel_rfl
@[simp] theorem ty1_60 : tOne Try.prog 60 = some (true, 40) := by kernel_rfl
@[simp] theorem tyz_60 : tZero Try.prog 60 = some [.c (.str ⟨#[]⟩), .c (.int .i64 0), .c .nilf, .c (.str ⟨#[]⟩), .c (.int .i64 0), .c .nilf, .c (.str ⟨#[]⟩), .c (.int .i64 0), .c .nilf, .c (.str ⟨#[]⟩), .c (.int .i64 0), .c .nilf, .c (.str ⟨#[]⟩), .c (.int .i64 0), .c .nilf, .c (.str ⟨#[]⟩), .c (.int .i64 0), .c .nilf, .c (.str ⟨#[]⟩), .c (.int .i64 0), .c .nilf, .c (.str ⟨#[]⟩), .c (.int .i64 0), .c .nilf, .c (.str ⟨#[]⟩), .c (.int .i64 0), .c .nilf, .c (.str ⟨#[]⟩), .c (.int .i64 0), .c .nilf, .c (.str ⟨#[]⟩), .c (.int .i64 0), .c .nilf, .c (.str ⟨#[]⟩), .c (.int .i64 0), .c .nilf, .c (.str ⟨#[]⟩), .c (.int .i64 0), .c .nilf, .c (.int .i64 0)] := by kernel_rfl
@[simp] theorem typ_60 : tPlaces Try.prog 60 = some fun i => ([(0, 39), (39, 1)] : List (Nat × Nat))[i]? := by kernel_rfl
@[simp] theorem tyf_60_0 : tField Try.prog 60 0 = some (0, 39, true) := by kernel_rfl
@[simp] theorem tyf_60_1 : tField Try.prog 60 1 = some (39, 1, false) := by kernel_rfl
@[simp] theorem ty1_61 : tOne Try.prog 61 = some (false, 1) := by kernel_rfl
@[simp] theorem tyz_61 : tZero Try.prog 61 = some [.c .nilf] := by kernel_rfl
@[simp] theorem ty1_62 : tOne Try.prog 62 = some (false, 1) := by kernel_rfl
@[simp] theorem tyz_62 : tZero Try.prog 62 = some [.c .nilp] := by kernel_rfl
@[simp] theorem ty1_63 : tOne Try.prog 63 = some (false, 1) := by kernel_rfl
@[simp] theorem tyz_63 : tZero Try.prog 63 = some [.c .nilf] := by kernel_rfl
@[simp] theorem ty1_64 : tOne Try.prog 64 = some (false, 1) := by kernel_rfl
@[simp] theorem tyz_64 : tZero Try.prog 64 = some [.c .nilf] := by kernel_rfl
@[simp] theorem ty1_65 : tOne Try.prog 65 = some (false, 1) := by kernel_rfl
@[simp] theorem tyz_65 : tZero Try.prog 65 = some [.full []] := by kernel_rfl
@[simp] theorem tyl_65 : tSl Try.prog 65 = true := by kernel_rfl
@[simp] theorem tye_65 : tElem Try.prog 65 = some (9, 1, 16) := by kernel_rfl
@[simp] theorem ty1_66 : tOne Try.prog 66 = some (false, 1) := by kernel_rfl
@[simp] theorem tyz_66 : tZero Try.prog 66 = some [.c .nilf] := by kernel_rfl
@[simp] theorem ty1_67 : tOne Try.prog 67 = some (false, 1) := by kernel_rfl
@[simp] theorem tyz_67 : tZero Try.prog 67 = some [.c .nilf] := by kernel_rfl
@[simp] theorem ty1_68 : tOne Try.prog 68 = some (false, 1) := by kernel_rfl
@[simp] theorem tyz_68 : tZero Try.prog 68 = some [.c .nilf] := by kernel_rfl
@[simp] theorem ty1_69 : tOne Try.prog 69 = some (false, 1) := by kernel_rfl
@[simp] theorem tyz_69 : tZero Try.prog 69 = some [.c .nilf] := by kernel_rfl
@[simp] theorem ty1_70 : tOne Try.prog 70 = some (false, 1) := by kernel_rfl
@[simp] theorem tyz_70 : tZero Try.prog 70 = some [.c .nilf] := by kernel_rfl
@[simp] theorem ty1_71 : tOne Try.prog 71 = some (false, 1) := by kernel_rfl
@[simp] theorem tyz_71 : tZero Try.prog 71 = some [.c .nilf] := by kernel_rfl
@[simp] theorem ty1_73 : tOne Try.prog 73 = some (false, 1) := by kernel_rfl
@[simp] theorem tyz_73 : tZero Try.prog 73 = some [.c .nilf] := by kernel_rfl
@[simp] theorem ty1_74 : tOne Try.prog 74 = some (false, 1) := by kernel_rfl
@[simp] theorem tyz_74 : tZero Try.prog 74 = some [.c .nilf] := by kernel_rfl
@[simp] theorem ty1_75 : tOne Try.prog 75 = some (false, 1) := by kernel_rfl
@[simp] theorem tyz_75 : tZero Try.prog 75 = some [.c .nilf] := by kernel_rfl
@[simp] theorem ty1_76 : tOne Try.prog 76 = some (false, 1) := by kernel_rfl
@[simp] theorem tyz_76 : tZero Try.prog 76 = some [.c .nilf] := by kernel_rfl
@[simp] theorem ty1_77 : tOne Try.prog 77 = some (false, 1) := by kernel_rfl
@[simp] theorem tyz_77 : tZero Try.prog 77 = some [.c .nilf] := by kernel_rfl
@[simp] theorem ty1_78 : tOne Try.prog 78 = some (false, 1) := by kernel_rfl
@[simp] theorem tyz_78 : tZero Try.prog 78 = some [.c (.int .u64 0)] := by kernel_rfl
@[simp] theorem tyi_78 : tInt Try.prog 78 = some .u64 := by kernel_rfl
@[simp] theorem ty1_79 : tOne Try.prog 79 = some (false, 1) := by kernel_rfl
@[simp] theorem tyz_79 : tZero Try.prog 79 = some [.c (.int .u32 0)] := by kernel_rfl
@[simp] theorem tyi_79 : tInt Try.prog 79 = some .u32 := by kernel_rfl
@[simp] theorem ty1_81 : tOne Try.prog 81 = some (false, 1) := by kernel_rfl
@[simp] theorem tyz_81 : tZero Try.prog 81 = some [.c .nilf] := by kernel_rfl
@[simp] theorem ty1_82 : tOne Try.prog 82 = some (false, 1) := by kernel_rfl
@[simp] theorem tyz_82 : tZero Try.prog 82 = some [.c .nilf] := by kernel_rfl
@[simp] theorem ty1_83 : tOne Try.prog 83 = some (true, 4) := by kernel_rfl
@[simp] theorem tyz_83 : tZero Try.prog 83 = some [.c .nilp, .c .nilp, .c .nilp, .c (.str ⟨#[]⟩)] := by kernel_rfl
@[simp] theorem typ_83 : tPlaces Try.prog 83 = some fun i => ([(0, 1), (1, 1), (2, 1), (3, 1)] : List (Nat × Nat))[i]? := by kernel_rfl
@[simp] theorem tyf_83_0 : tField Try.prog 83 0 = some (0, 1, false) := by kernel_rfl
@[simp] theorem tyf_83_1 : tField Try.prog 83 1 = some (1, 1, false) := by kernel_rfl
@[simp] theorem tyf_83_2 : tField Try.prog 83 2 = some (2, 1, false) := by kernel_rfl
@[simp] theorem tyf_83_3 : tField Try.prog 83 3 = some (3, 1, false) := by kernel_rfl
@[simp] theorem ty1_84 : tOne Try.prog 84 = some (true, 4) := by kernel_rfl
@[simp] theorem tyz_84 : tZero Try.prog 84 = some [.c .nilp, .c .nilp, .c .nilp, .c (.str ⟨#[]⟩)] := by kernel_rfl
@[simp] theorem typ_84 : tPlaces Try.prog 84 = some fun i => ([(0, 1), (1, 1), (2, 1), (3, 1)] : List (Nat × Nat))[i]? := by kernel_rfl
@[simp] theorem tyf_84_0 : tField Try.prog 84 0 = some (0, 1, false) := by kernel_rfl
@[simp] theorem tyf_84_1 : tField Try.prog 84 1 = some (1, 1, false) := by kernel_rfl
@[simp] theorem tyf_84_2 : tField Try.prog 84 2 = some (2, 1, false) := by kernel_rfl
@[simp] theorem tyf_84_3 : tField Try.prog 84 3 = some (3, 1, false) := by kernel_rfl
@[simp] theorem ty1_85 : tOne Try.prog 85 = some (true, 0) := by kernel_rfl
@[simp] theorem tyz_85 : tZero Try.prog 85 = some [] := by kernel_rfl
@[simp] theorem typ_85 : tPlaces Try.prog 85 = some fun i => some (i * 1, 1) := by kernel_rfl
@[simp] theorem tya_85 : tArr Try.prog 85 = some (0, 1, false) := by kernel_rfl
@[simp] theorem ty1_86 : tOne Try.prog 86 = some (true, 0) := by kernel_rfl
@[simp] theorem tyz_86 : tZero Try.prog 86 = some [] := by kernel_rfl
@[simp] theorem typ_86 : tPlaces Try.prog 86 = some fun i => ([(0, 0)] : List (Nat × Nat))[i]? := by kernel_rfl
@[simp] theorem tyf_86_0 : tField Try.prog 86 0 = some (0, 0, true) := by kernel_rfl
@[simp] theorem ty1_87 : tOne Try.prog 87 = some (true, 0) := by kernel_rfl
@[simp] theorem tyz_87 : tZero Try.prog 87 = some [] := by kernel_rfl
@[simp] theorem typ_87 : tPlaces Try.prog 87 = some fun i => ([(0, 0)] : List (Nat × Nat))[i]? := by kernel_rfl
@[simp] theorem tyf_87_0 : tField Try.prog 87 0 = some (0, 0, true) := by kernel_rfl
@[simp] theorem ty1_88 : tOne Try.prog 88 = some (false, 1) := by kernel_rfl
@[simp] theorem tyz_88 : tZero Try.prog 88 = some [.c .nilf] := by kernel_rfl
@[simp] theorem ty1_89 : tOne Try.prog 89 = some (false, 1) := by kernel_rfl
@[simp] theorem tyz_89 : tZero Try.prog 89 = some [.c (.int .u8 0)] := by kernel_rfl
@[simp] theorem tyi_89 : tInt Try.prog 89 = some .u8 := by kernel_rfl
@[simp] theorem ty1_90 : tOne Try.prog 90 = some (false, 1) := by kernel_rfl
@[simp] theorem tyz_90 : tZero Try.prog 90 = some [.c (.int .u8 0)] := by kernel_rfl
@[simp] theorem tyi_90 : tInt Try.prog 90 = some .u8 := by kernel_rfl
@[simp] theorem ty1_91 : tOne Try.prog 91 = some (false, 1) := by kernel_rfl
@[simp] theorem tyz_91 : tZero Try.prog 91 = some [.c .nilf] := by kernel_rfl
@[simp] theorem ty1_92 : tOne Try.prog 92 = some (false, 1) := by kernel_rfl
@[simp] theorem tyz_92 : tZero Try.prog 92 = some [.c .nilp] := by kernel_rfl
@[simp] theorem ty1_93 : tOne Try.prog 93 = some (false, 1) := by kernel_rfl
@[simp] theorem tyz_93 : tZero Try.prog 93 = some [.c (.int .i32 0)] := by kernel_rfl
@[simp] theorem tyi_93 : tInt Try.prog 93 = some .i32 := by kernel_rfl
@[simp] theorem ty1_94 : tOne Try.prog 94 = some (false, 1) := by kernel_rfl
@[simp] theorem tyz_94 : tZero Try.prog 94 = some [.c (.int .i32 0)] := by kernel_rfl
@[simp] theorem tyi_94 : tInt Try.prog 94 = some .i32 := by kernel_rfl
@[simp] theorem ty1_95 : tOne Try.prog 95 = some (true, 11) := by kernel_rfl
@[simp] theorem tyz_95 : tZero Try.prog 95 = some [.c (.int .u64 0), .c (.int .u64 0), .c (.int .u32 0), .c (.int .u8 0), .c (.int .u8 0), .c (.int .u8 0), .c (.int .u8 0), .c .nilf, .c .nilp, .c (.int .i32 0), .c (.int .i32 0)] := by kernel_rfl
@[simp] theorem typ_95 : tPlaces Try.prog 95 = some fun i => ([(0, 1), (1, 1), (2, 1), (3, 1), (4, 1), (5, 1), (6, 1), (7, 1), (8, 1), (9, 1), (10, 1)] : List (Nat × Nat))[i]? := by kernel_rfl
@[simp] theorem tyf_95_0 : tField Try.prog 95 0 = some (0, 1, false) := by kernel_rfl
@[simp] theorem tyf_95_1 : tField Try.prog 95 1 = some (1, 1, false) := by kernel_rfl
@[simp] theorem tyf_95_2 : tField Try.prog 95 2 = some (2, 1, false) := by kernel_rfl
@[simp] theorem tyf_95_3 : tField Try.prog 95 3 = some (3, 1, false) := by kernel_rfl
@[simp] theorem tyf_95_4 : tField Try.prog 95 4 = some (4, 1, false) := by kernel_rfl
@[simp] theorem tyf_95_5 : tField Try.prog 95 5 = some (5, 1, false) := by kernel_rfl
@[simp] theorem tyf_95_6 : tField Try.prog 95 6 = some (6, 1, false) := by kernel_rfl
@[simp] theorem tyf_95_7 : tField Try.prog 95 7 = some (7, 1, false) := by kernel_rfl
@[simp] theorem tyf_95_8 : tField Try.prog 95 8 = some (8, 1, false) := by kernel_rfl
@[simp] theorem tyf_95_9 : tField Try.prog 95 9 = some (9, 1, false) := by kernel_rfl
@[simp] theorem tyf_95_10 : tField Try.prog 95 10 = some (10, 1, false) := by kernel_rfl
@[simp] theorem ty1_96 : tOne Try.prog 96 = some (true, 11) := by kernel_rfl
@[simp] theorem tyz_96 : tZero Try.prog 96 = some [.c (.int .u64 0), .c (.int .u64 0), .c (.int .u32 0), .c (.int .u8 0), .c (.int .u8 0), .c (.int .u8 0), .c (.int .u8 0), .c .nilf, .c .nilp, .c (.int .i32 0), .c (.int .i32 0)] := by kernel_rfl
@[simp] theorem typ_96 : tPlaces Try.prog 96 = some fun i => ([(0, 1), (1, 1), (2, 1), (3, 1), (4, 1), (5, 1), (6, 1), (7, 1), (8, 1), (9, 1), (10, 1)] : List (Nat × Nat))[i]? := by kernel_rfl
@[simp] theorem tyf_96_0 : tField Try.prog 96 0 = some (0, 1, false) := by kernel_rfl
@[simp] theorem tyf_96_1 : tField Try.prog 96 1 = some (1, 1, false) := by kernel_rfl
@[simp] theorem tyf_96_2 : tField Try.prog 96 2 = some (2, 1, false) := by kernel_rfl
@[simp] theorem tyf_96_3 : tField Try.prog 96 3 = some (3, 1, false) := by kernel_rfl
@[simp] theorem tyf_96_4 : tField Try.prog 96 4 = some (4, 1, false) := by kernel_rfl
@[simp] theorem tyf_96_5 : tField Try.prog 96 5 = some (5, 1, false) := by kernel_rfl
@[simp] theorem tyf_96_6 : tField Try.prog 96 6 = some (6, 1, false) := by kernel_rfl
@[simp] theorem tyf_96_7 : tField Try.prog 96 7 = some (7, 1, false) := by kernel_rfl
@[simp] theorem tyf_96_8 : tField Try.prog 96 8 = some (8, 1, false) := by kernel_rfl
@[simp] theorem tyf_96_9 : tField Try.prog 96 9 = some (9, 1, false) := by kernel_rfl
@[simp] theorem tyf_96_10 : tField Try.prog 96 10 = some (10, 1, false) := by kernel_rfl
@[simp] theorem ty1_97 : tOne Try.prog 97 = some (false, 1) := by kernel_rfl
@[simp] theorem tyz_97 : tZero Try.prog 97 = some [.c .nilp] := by kernel_rfl
end Go.Proofs.Ytmlabapfjliaeaa
