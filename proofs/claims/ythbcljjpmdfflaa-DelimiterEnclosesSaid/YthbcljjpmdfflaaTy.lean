/- Facts on the table of types of this seat's program, printed by a program (gentypes.py); each is reckoned by the kernel. -/
import Derived.Test.YthbcljjpmdfflaaG3
import Derived.Test.YthbcljjpmdfflaaProg
import Derived.KernelRfl
namespace Go.Proofs.Ythbcljjpmdfflaa
@[simp] theorem ty1_1 : tOne Try.prog 1 = some (false, 1) := by kernel_rfl
@[simp] theorem tyz_1 : tZero Try.prog 1 = some [.any] := by kernel_rfl
@[simp] theorem ty1_2 : tOne Try.prog 2 = some (false, 1) := by kernel_rfl
@[simp] theorem tyz_2 : tZero Try.prog 2 = some [.c (.int .i64 0)] := by kernel_rfl
@[simp] theorem tyi_2 : tInt Try.prog 2 = some .i64 := by kernel_rfl
@[simp] theorem ty1_3 : tOne Try.prog 3 = some (false, 1) := by kernel_rfl
@[simp] theorem tyz_3 : tZero Try.prog 3 = some [.c (.int .i64 0)] := by kernel_rfl
@[simp] theorem tyi_3 : tInt Try.prog 3 = some .i64 := by kernel_rfl
@[simp] theorem ty1_4 : tOne Try.prog 4 = some (false, 1) := by kernel_rfl
@[simp] theorem tyz_4 : tZero Try.prog 4 = some [.c (.bool false)] := by kernel_rfl
@[simp] theorem ty1_5 : tOne Try.prog 5 = some (false, 1) := by kernel_rfl
@[simp] theorem tyz_5 : tZero Try.prog 5 = some [.c (.int .u8 0)] := by kernel_rfl
@[simp] theorem tyi_5 : tInt Try.prog 5 = some .u8 := by kernel_rfl
@[simp] theorem ty1_6 : tOne Try.prog 6 = some (false, 1) := by kernel_rfl
@[simp] theorem tyz_6 : tZero Try.prog 6 = some [.c (.int .u8 0)] := by kernel_rfl
@[simp] theorem tyi_6 : tInt Try.prog 6 = some .u8 := by kernel_rfl
@[simp] theorem ty1_7 : tOne Try.prog 7 = some (true, 4) := by kernel_rfl
@[simp] theorem tyz_7 : tZero Try.prog 7 = some [.c (.int .i64 0), .c (.int .i64 0), .c (.bool false), .c (.int .u8 0)] := by kernel_rfl
@[simp] theorem typ_7 : tPlaces Try.prog 7 = some fun i => ([(0, 1), (1, 1), (2, 1), (3, 1)] : List (Nat × Nat))[i]? := by kernel_rfl
@[simp] theorem tyf_7_0 : tField Try.prog 7 0 = some (0, 1, false) := by kernel_rfl
@[simp] theorem tyf_7_1 : tField Try.prog 7 1 = some (1, 1, false) := by kernel_rfl
@[simp] theorem tyf_7_2 : tField Try.prog 7 2 = some (2, 1, false) := by kernel_rfl
@[simp] theorem tyf_7_3 : tField Try.prog 7 3 = some (3, 1, false) := by kernel_rfl
@[simp] theorem ty1_8 : tOne Try.prog 8 = some (true, 4) := by kernel_rfl
@[simp] theorem tyz_8 : tZero Try.prog 8 = some [.c (.int .i64 0), .c (.int .i64 0), .c (.bool false), .c (.int .u8 0)] := by kernel_rfl
@[simp] theorem typ_8 : tPlaces Try.prog 8 = some fun i => ([(0, 1), (1, 1), (2, 1), (3, 1)] : List (Nat × Nat))[i]? := by kernel_rfl
@[simp] theorem tyf_8_0 : tField Try.prog 8 0 = some (0, 1, false) := by kernel_rfl
@[simp] theorem tyf_8_1 : tField Try.prog 8 1 = some (1, 1, false) := by kernel_rfl
@[simp] theorem tyf_8_2 : tField Try.prog 8 2 = some (2, 1, false) := by kernel_rfl
@[simp] theorem tyf_8_3 : tField Try.prog 8 3 = some (3, 1, false) := by kernel_rfl
@[simp] theorem ty1_9 : tOne Try.prog 9 = some (false, 1) := by kernel_rfl
@[simp] theorem tyz_9 : tZero Try.prog 9 = some [.c (.str ⟨#[]⟩)] := by kernel_rfl
@[simp] theorem tys_9 : tStr Try.prog 9 = true := by kernel_rfl
@[simp] theorem ty1_10 : tOne Try.prog 10 = some (false, 1) := by kernel_rfl
@[simp] theorem tyz_10 : tZero Try.prog 10 = some [.c (.str ⟨#[]⟩)] := by kernel_rfl
@[simp] theorem tys_10 : tStr Try.prog 10 = true := by kernel_rfl
@[simp] theorem ty1_11 : tOne Try.prog 11 = some (false, 1) := by kernel_rfl
@[simp] theorem tyz_11 : tZero Try.prog 11 = some [.c (.str ⟨#[]⟩)] := by kernel_rfl
@[simp] theorem tys_11 : tStr Try.prog 11 = true := by kernel_rfl
@[simp] theorem ty1_12 : tOne Try.prog 12 = some (false, 1) := by kernel_rfl
@[simp] theorem tyz_12 : tZero Try.prog 12 = some [.c (.int .u64 0)] := by kernel_rfl
@[simp] theorem tyi_12 : tInt Try.prog 12 = some .u64 := by kernel_rfl
@[simp] theorem ty1_13 : tOne Try.prog 13 = some (true, 2) := by kernel_rfl
@[simp] theorem tyz_13 : tZero Try.prog 13 = some [.c (.str ⟨#[]⟩), .c (.int .u64 0)] := by kernel_rfl
@[simp] theorem typ_13 : tPlaces Try.prog 13 = some fun i => ([(0, 1), (1, 1)] : List (Nat × Nat))[i]? := by kernel_rfl
@[simp] theorem tyf_13_0 : tField Try.prog 13 0 = some (0, 1, false) := by kernel_rfl
@[simp] theorem tyf_13_1 : tField Try.prog 13 1 = some (1, 1, false) := by kernel_rfl
@[simp] theorem ty1_14 : tOne Try.prog 14 = some (true, 2) := by kernel_rfl
@[simp] theorem tyz_14 : tZero Try.prog 14 = some [.c (.str ⟨#[]⟩), .c (.int .u64 0)] := by kernel_rfl
@[simp] theorem typ_14 : tPlaces Try.prog 14 = some fun i => ([(0, 1), (1, 1)] : List (Nat × Nat))[i]? := by kernel_rfl
@[simp] theorem tyf_14_0 : tField Try.prog 14 0 = some (0, 1, false) := by kernel_rfl
@[simp] theorem tyf_14_1 : tField Try.prog 14 1 = some (1, 1, false) := by kernel_rfl
@[simp] theorem ty1_15 : tOne Try.prog 15 = some (false, 1) := by kernel_rfl
@[simp] theorem tyz_15 : tZero Try.prog 15 = some [.c .nilp] := by kernel_rfl
@[simp] theorem ty1_16 : tOne Try.prog 16 = some (false, 1) := by kernel_rfl
@[simp] theorem tyz_16 : tZero Try.prog 16 = some [.c .nilp] := by kernel_rfl
@[simp] theorem ty1_17 : tOne Try.prog 17 = some (false, 1) := by kernel_rfl
@[simp] theorem tyz_17 : tZero Try.prog 17 = some [.c .nilp] := by kernel_rfl
@[simp] theorem ty1_18 : tOne Try.prog 18 = some (true, 1) := by kernel_rfl
@[simp] theorem tyz_18 : tZero Try.prog 18 = some [.c .nilp] := by kernel_rfl
@[simp] theorem typ_18 : tPlaces Try.prog 18 = some fun i => ([(0, 1)] : List (Nat × Nat))[i]? := by kernel_rfl
@[simp] theorem tyf_18_0 : tField Try.prog 18 0 = some (0, 1, false) := by kernel_rfl
@[simp] theorem ty1_19 : tOne Try.prog 19 = some (true, 1) := by kernel_rfl
@[simp] theorem tyz_19 : tZero Try.prog 19 = some [.c .nilp] := by kernel_rfl
@[simp] theorem typ_19 : tPlaces Try.prog 19 = some fun i => ([(0, 1)] : List (Nat × Nat))[i]? := by kernel_rfl
@[simp] theorem tyf_19_0 : tField Try.prog 19 0 = some (0, 1, false) := by kernel_rfl
@[simp] theorem ty1_20 : tOne Try.prog 20 = some (false, 1) := by kernel_rfl
@[simp] theorem tyz_20 : tZero Try.prog 20 = some [.any] := by kernel_rfl
@[simp] theorem ty1_21 : tOne Try.prog 21 = some (false, 1) := by kernel_rfl
@[simp] theorem tyz_21 : tZero Try.prog 21 = some [.c (.int .i32 0)] := by kernel_rfl
@[simp] theorem tyi_21 : tInt Try.prog 21 = some .i32 := by kernel_rfl
@[simp] theorem ty1_22 : tOne Try.prog 22 = some (false, 1) := by kernel_rfl
@[simp] theorem tyz_22 : tZero Try.prog 22 = some [.full []] := by kernel_rfl
@[simp] theorem tyl_22 : tSl Try.prog 22 = true := by kernel_rfl
@[simp] theorem tye_22 : tElem Try.prog 22 = some (102, 6, 56) := by kernel_rfl
@[simp] theorem ty1_23 : tOne Try.prog 23 = some (false, 1) := by kernel_rfl
@[simp] theorem tyz_23 : tZero Try.prog 23 = some [.full []] := by kernel_rfl
@[simp] theorem tyl_23 : tSl Try.prog 23 = true := by kernel_rfl
@[simp] theorem tye_23 : tElem Try.prog 23 = some (59, 4, 72) := by kernel_rfl
@[simp] theorem ty1_24 : tOne Try.prog 24 = some (true, 20) := by kernel_rfl
@[simp] theorem tyz_24 : tZero Try.prog 24 = some [.c (.int .i64 0), .c (.int .i64 0), .c (.int .i64 0), .c (.int .i64 0), .c (.int .i64 0), .c (.int .i64 0), .c (.int .i64 0), .c (.int .i64 0), .c (.int .i64 0), .c (.int .i64 0), .c (.int .i64 0), .c (.int .i64 0), .c (.int .i64 0), .c (.int .i64 0), .c (.int .i64 0), .c (.int .i64 0), .c (.int .i64 0), .c (.int .i64 0), .c (.int .i64 0), .c (.int .i64 0)] := by kernel_rfl
@[simp] theorem typ_24 : tPlaces Try.prog 24 = some fun i => ([(0, 1), (1, 1), (2, 1), (3, 1), (4, 1), (5, 1), (6, 1), (7, 1), (8, 1), (9, 1), (10, 1), (11, 1), (12, 1), (13, 1), (14, 1), (15, 1), (16, 1), (17, 1), (18, 1), (19, 1)] : List (Nat × Nat))[i]? := by kernel_rfl
@[simp] theorem tyf_24_0 : tField Try.prog 24 0 = some (0, 1, false) := by kernel_rfl
@[simp] theorem tyf_24_1 : tField Try.prog 24 1 = some (1, 1, false) := by kernel_rfl
@[simp] theorem tyf_24_2 : tField Try.prog 24 2 = some (2, 1, false) := by kernel_rfl
@[simp] theorem tyf_24_3 : tField Try.prog 24 3 = some (3, 1, false) := by kernel_rfl
@[simp] theorem tyf_24_4 : tField Try.prog 24 4 = some (4, 1, false) := by kernel_rfl
@[simp] theorem tyf_24_5 : tField Try.prog 24 5 = some (5, 1, false) := by kernel_rfl
@[simp] theorem tyf_24_6 : tField Try.prog 24 6 = some (6, 1, false) := by kernel_rfl
@[simp] theorem tyf_24_7 : tField Try.prog 24 7 = some (7, 1, false) := by kernel_rfl
@[simp] theorem tyf_24_8 : tField Try.prog 24 8 = some (8, 1, false) := by kernel_rfl
@[simp] theorem tyf_24_9 : tField Try.prog 24 9 = some (9, 1, false) := by kernel_rfl
@[simp] theorem tyf_24_10 : tField Try.prog 24 10 = some (10, 1, false) := by kernel_rfl
@[simp] theorem tyf_24_11 : tField Try.prog 24 11 = some (11, 1, false) := by kernel_rfl
@[simp] theorem tyf_24_12 : tField Try.prog 24 12 = some (12, 1, false) := by kernel_rfl
@[simp] theorem tyf_24_13 : tField Try.prog 24 13 = some (13, 1, false) := by kernel_rfl
@[simp] theorem tyf_24_14 : tField Try.prog 24 14 = some (14, 1, false) := by kernel_rfl
@[simp] theorem tyf_24_15 : tField Try.prog 24 15 = some (15, 1, false) := by kernel_rfl
@[simp] theorem tyf_24_16 : tField Try.prog 24 16 = some (16, 1, false) := by kernel_rfl
@[simp] theorem tyf_24_17 : tField Try.prog 24 17 = some (17, 1, false) := by kernel_rfl
@[simp] theorem tyf_24_18 : tField Try.prog 24 18 = some (18, 1, false) := by kernel_rfl
@[simp] theorem tyf_24_19 : tField Try.prog 24 19 = some (19, 1, false) := by kernel_rfl
@[simp] theorem ty1_25 : tOne Try.prog 25 = some (true, 20) := by kernel_rfl
@[simp] theorem tyz_25 : tZero Try.prog 25 = some [.c (.int .i64 0), .c (.int .i64 0), .c (.int .i64 0), .c (.int .i64 0), .c (.int .i64 0), .c (.int .i64 0), .c (.int .i64 0), .c (.int .i64 0), .c (.int .i64 0), .c (.int .i64 0), .c (.int .i64 0), .c (.int .i64 0), .c (.int .i64 0), .c (.int .i64 0), .c (.int .i64 0), .c (.int .i64 0), .c (.int .i64 0), .c (.int .i64 0), .c (.int .i64 0), .c (.int .i64 0)] := by kernel_rfl
@[simp] theorem typ_25 : tPlaces Try.prog 25 = some fun i => ([(0, 1), (1, 1), (2, 1), (3, 1), (4, 1), (5, 1), (6, 1), (7, 1), (8, 1), (9, 1), (10, 1), (11, 1), (12, 1), (13, 1), (14, 1), (15, 1), (16, 1), (17, 1), (18, 1), (19, 1)] : List (Nat × Nat))[i]? := by kernel_rfl
@[simp] theorem tyf_25_0 : tField Try.prog 25 0 = some (0, 1, false) := by kernel_rfl
@[simp] theorem tyf_25_1 : tField Try.prog 25 1 = some (1, 1, false) := by kernel_rfl
@[simp] theorem tyf_25_2 : tField Try.prog 25 2 = some (2, 1, false) := by kernel_rfl
@[simp] theorem tyf_25_3 : tField Try.prog 25 3 = some (3, 1, false) := by kernel_rfl
@[simp] theorem tyf_25_4 : tField Try.prog 25 4 = some (4, 1, false) := by kernel_rfl
@[simp] theorem tyf_25_5 : tField Try.prog 25 5 = some (5, 1, false) := by kernel_rfl
@[simp] theorem tyf_25_6 : tField Try.prog 25 6 = some (6, 1, false) := by kernel_rfl
@[simp] theorem tyf_25_7 : tField Try.prog 25 7 = some (7, 1, false) := by kernel_rfl
@[simp] theorem tyf_25_8 : tField Try.prog 25 8 = some (8, 1, false) := by kernel_rfl
@[simp] theorem tyf_25_9 : tField Try.prog 25 9 = some (9, 1, false) := by kernel_rfl
@[simp] theorem tyf_25_10 : tField Try.prog 25 10 = some (10, 1, false) := by kernel_rfl
@[simp] theorem tyf_25_11 : tField Try.prog 25 11 = some (11, 1, false) := by kernel_rfl
@[simp] theorem tyf_25_12 : tField Try.prog 25 12 = some (12, 1, false) := by kernel_rfl
@[simp] theorem tyf_25_13 : tField Try.prog 25 13 = some (13, 1, false) := by kernel_rfl
@[simp] theorem tyf_25_14 : tField Try.prog 25 14 = some (14, 1, false) := by kernel_rfl
@[simp] theorem tyf_25_15 : tField Try.prog 25 15 = some (15, 1, false) := by kernel_rfl
@[simp] theorem tyf_25_16 : tField Try.prog 25 16 = some (16, 1, false) := by kernel_rfl
@[simp] theorem tyf_25_17 : tField Try.prog 25 17 = some (17, 1, false) := by kernel_rfl
@[simp] theorem tyf_25_18 : tField Try.prog 25 18 = some (18, 1, false) := by kernel_rfl
@[simp] theorem tyf_25_19 : tField Try.prog 25 19 = some (19, 1, false) := by kernel_rfl
@[simp] theorem ty1_26 : tOne Try.prog 26 = some (true, 22) := by kernel_rfl
@[simp] theorem tyz_26 : tZero Try.prog 26 = some [.full [], .full [], .c (.int .i64 0), .c (.int .i64 0), .c (.int .i64 0), .c (.int .i64 0), .c (.int .i64 0), .c (.int .i64 0), .c (.int .i64 0), .c (.int .i64 0), .c (.int .i64 0), .c (.int .i64 0), .c (.int .i64 0), .c (.int .i64 0), .c (.int .i64 0), .c (.int .i64 0), .c (.int .i64 0), .c (.int .i64 0), .c (.int .i64 0), .c (.int .i64 0), .c (.int .i64 0), .c (.int .i64 0)] := by kernel_rfl
@[simp] theorem typ_26 : tPlaces Try.prog 26 = some fun i => ([(0, 1), (1, 1), (2, 20)] : List (Nat × Nat))[i]? := by kernel_rfl
@[simp] theorem tyf_26_0 : tField Try.prog 26 0 = some (0, 1, false) := by kernel_rfl
@[simp] theorem tyf_26_1 : tField Try.prog 26 1 = some (1, 1, false) := by kernel_rfl
@[simp] theorem tyf_26_2 : tField Try.prog 26 2 = some (2, 20, true) := by kernel_rfl
@[simp] theorem ty1_27 : tOne Try.prog 27 = some (true, 22) := by kernel_rfl
@[simp] theorem tyz_27 : tZero Try.prog 27 = some [.full [], .full [], .c (.int .i64 0), .c (.int .i64 0), .c (.int .i64 0), .c (.int .i64 0), .c (.int .i64 0), .c (.int .i64 0), .c (.int .i64 0), .c (.int .i64 0), .c (.int .i64 0), .c (.int .i64 0), .c (.int .i64 0), .c (.int .i64 0), .c (.int .i64 0), .c (.int .i64 0), .c (.int .i64 0), .c (.int .i64 0), .c (.int .i64 0), .c (.int .i64 0), .c (.int .i64 0), .c (.int .i64 0)] := by kernel_rfl
@[simp] theorem typ_27 : tPlaces Try.prog 27 = some fun i => ([(0, 1), (1, 1), (2, 20)] : List (Nat × Nat))[i]? := by kernel_rfl
@[simp] theorem tyf_27_0 : tField Try.prog 27 0 = some (0, 1, false) := by kernel_rfl
@[simp] theorem tyf_27_1 : tField Try.prog 27 1 = some (1, 1, false) := by kernel_rfl
@[simp] theorem tyf_27_2 : tField Try.prog 27 2 = some (2, 20, true) := by kernel_rfl
@[simp] theorem ty1_28 : tOne Try.prog 28 = some (true, 2) := by kernel_rfl
@[simp] theorem tyz_28 : tZero Try.prog 28 = some [.c (.int .i64 0), .c (.int .i64 0)] := by kernel_rfl
@[simp] theorem typ_28 : tPlaces Try.prog 28 = some fun i => some (i * 1, 1) := by kernel_rfl
@[simp] theorem tya_28 : tArr Try.prog 28 = some (2, 1, false) := by kernel_rfl
@[simp] theorem ty1_29 : tOne Try.prog 29 = some (false, 1) := by kernel_rfl
@[simp] theorem tyz_29 : tZero Try.prog 29 = some [.any] := by kernel_rfl
@[simp] theorem ty1_30 : tOne Try.prog 30 = some (false, 1) := by kernel_rfl
@[simp] theorem tyz_30 : tZero Try.prog 30 = some [.any] := by kernel_rfl
@[simp] theorem ty1_31 : tOne Try.prog 31 = some (true, 2) := by kernel_rfl
@[simp] theorem tyz_31 : tZero Try.prog 31 = some [.c (.str ⟨#[]⟩), .c (.int .i64 0)] := by kernel_rfl
@[simp] theorem typ_31 : tPlaces Try.prog 31 = some fun i => ([(0, 1), (1, 1)] : List (Nat × Nat))[i]? := by kernel_rfl
@[simp] theorem tyf_31_0 : tField Try.prog 31 0 = some (0, 1, false) := by kernel_rfl
@[simp] theorem tyf_31_1 : tField Try.prog 31 1 = some (1, 1, false) := by kernel_rfl
@[simp] theorem ty1_32 : tOne Try.prog 32 = some (true, 2) := by kernel_rfl
@[simp] theorem tyz_32 : tZero Try.prog 32 = some [.c (.str ⟨#[]⟩), .c (.int .i64 0)] := by kernel_rfl
@[simp] theorem typ_32 : tPlaces Try.prog 32 = some fun i => ([(0, 1), (1, 1)] : List (Nat × Nat))[i]? := by kernel_rfl
@[simp] theorem tyf_32_0 : tField Try.prog 32 0 = some (0, 1, false) := by kernel_rfl
@[simp] theorem tyf_32_1 : tField Try.prog 32 1 = some (1, 1, false) := by kernel_rfl
@[simp] theorem ty1_33 : tOne Try.prog 33 = some (false, 1) := by kernel_rfl
@[simp] theorem tyz_33 : tZero Try.prog 33 = some [.c (.int .i64 0)] := by kernel_rfl
@[simp] theorem tyi_33 : tInt Try.prog 33 = some .i64 := by kernel_rfl
@[simp] theorem ty1_35 : tOne Try.prog 35 = some (false, 1) := by kernel_rfl
@[simp] theorem tyz_35 : tZero Try.prog 35 = some [.any] := by kernel_rfl
@[simp] theorem ty1_36 : tOne Try.prog 36 = some (true, 2) := by kernel_rfl
@[simp] theorem tyz_36 : tZero Try.prog 36 = some [.c (.str ⟨#[]⟩), .c (.int .i64 0)] := by kernel_rfl
@[simp] theorem typ_36 : tPlaces Try.prog 36 = some fun i => ([(0, 1), (1, 1)] : List (Nat × Nat))[i]? := by kernel_rfl
@[simp] theorem tyf_36_0 : tField Try.prog 36 0 = some (0, 1, false) := by kernel_rfl
@[simp] theorem tyf_36_1 : tField Try.prog 36 1 = some (1, 1, false) := by kernel_rfl
@[simp] theorem ty1_38 : tOne Try.prog 38 = some (false, 1) := by kernel_rfl
@[simp] theorem tyz_38 : tZero Try.prog 38 = some [.any] := by kernel_rfl
@[simp] theorem ty1_39 : tOne Try.prog 39 = some (false, 1) := by kernel_rfl
@[simp] theorem tyz_39 : tZero Try.prog 39 = some [.any] := by kernel_rfl
@[simp] theorem ty1_40 : tOne Try.prog 40 = some (true, 4) := by kernel_rfl
@[simp] theorem tyz_40 : tZero Try.prog 40 = some [.c (.str ⟨#[]⟩), .c (.str ⟨#[]⟩), .c (.int .i64 0), .c (.int .i64 0)] := by kernel_rfl
@[simp] theorem typ_40 : tPlaces Try.prog 40 = some fun i => ([(0, 1), (1, 1), (2, 1), (3, 1)] : List (Nat × Nat))[i]? := by kernel_rfl
@[simp] theorem tyf_40_0 : tField Try.prog 40 0 = some (0, 1, false) := by kernel_rfl
@[simp] theorem tyf_40_1 : tField Try.prog 40 1 = some (1, 1, false) := by kernel_rfl
@[simp] theorem tyf_40_2 : tField Try.prog 40 2 = some (2, 1, false) := by kernel_rfl
@[simp] theorem tyf_40_3 : tField Try.prog 40 3 = some (3, 1, false) := by kernel_rfl
@[simp] theorem ty1_41 : tOne Try.prog 41 = some (true, 4) := by kernel_rfl
@[simp] theorem tyz_41 : tZero Try.prog 41 = some [.c (.str ⟨#[]⟩), .c (.str ⟨#[]⟩), .c (.int .i64 0), .c (.int .i64 0)] := by kernel_rfl
@[simp] theorem typ_41 : tPlaces Try.prog 41 = some fun i => ([(0, 1), (1, 1), (2, 1), (3, 1)] : List (Nat × Nat))[i]? := by kernel_rfl
@[simp] theorem tyf_41_0 : tField Try.prog 41 0 = some (0, 1, false) := by kernel_rfl
@[simp] theorem tyf_41_1 : tField Try.prog 41 1 = some (1, 1, false) := by kernel_rfl
@[simp] theorem tyf_41_2 : tField Try.prog 41 2 = some (2, 1, false) := by kernel_rfl
@[simp] theorem tyf_41_3 : tField Try.prog 41 3 = some (3, 1, false) := by kernel_rfl
@[simp] theorem ty1_42 : tOne Try.prog 42 = some (false, 1) := by kernel_rfl
@[simp] theorem tyz_42 : tZero Try.prog 42 = some [.full []] := by kernel_rfl
@[simp] theorem tyl_42 : tSl Try.prog 42 = true := by kernel_rfl
@[simp] theorem tye_42 : tElem Try.prog 42 = some (45, 11, 128) := by kernel_rfl
@[simp] theorem ty1_43 : tOne Try.prog 43 = some (false, 1) := by kernel_rfl
@[simp] theorem tyz_43 : tZero Try.prog 43 = some [.full []] := by kernel_rfl
@[simp] theorem tyl_43 : tSl Try.prog 43 = true := by kernel_rfl
@[simp] theorem tye_43 : tElem Try.prog 43 = some (3, 1, 8) := by kernel_rfl
@[simp] theorem ty1_44 : tOne Try.prog 44 = some (true, 11) := by kernel_rfl
@[simp] theorem tyz_44 : tZero Try.prog 44 = some [.c (.int .i64 0), .c (.str ⟨#[]⟩), .c (.int .i64 0), .c (.int .i64 0), .c (.int .i64 0), .c (.int .i64 0), .c (.int .i64 0), .c (.int .i64 0), .full [], .c (.int .i64 0), .full []] := by kernel_rfl
@[simp] theorem typ_44 : tPlaces Try.prog 44 = some fun i => ([(0, 1), (1, 1), (2, 1), (3, 1), (4, 1), (5, 1), (6, 1), (7, 1), (8, 1), (9, 1), (10, 1)] : List (Nat × Nat))[i]? := by kernel_rfl
@[simp] theorem tyf_44_0 : tField Try.prog 44 0 = some (0, 1, false) := by kernel_rfl
@[simp] theorem tyf_44_1 : tField Try.prog 44 1 = some (1, 1, false) := by kernel_rfl
@[simp] theorem tyf_44_2 : tField Try.prog 44 2 = some (2, 1, false) := by kernel_rfl
@[simp] theorem tyf_44_3 : tField Try.prog 44 3 = some (3, 1, false) := by kernel_rfl
@[simp] theorem tyf_44_4 : tField Try.prog 44 4 = some (4, 1, false) := by kernel_rfl
@[simp] theorem tyf_44_5 : tField Try.prog 44 5 = some (5, 1, false) := by kernel_rfl
@[simp] theorem tyf_44_6 : tField Try.prog 44 6 = some (6, 1, false) := by kernel_rfl
@[simp] theorem tyf_44_7 : tField Try.prog 44 7 = some (7, 1, false) := by kernel_rfl
@[simp] theorem tyf_44_8 : tField Try.prog 44 8 = some (8, 1, false) := by kernel_rfl
@[simp] theorem tyf_44_9 : tField Try.prog 44 9 = some (9, 1, false) := by kernel_rfl
@[simp] theorem tyf_44_10 : tField Try.prog 44 10 = some (10, 1, false) := by kernel_rfl
@[simp] theorem ty1_45 : tOne Try.prog 45 = some (true, 11) := by kernel_rfl
@[simp] theorem tyz_45 : tZero Try.prog 45 = some [.c (.int .i64 0), .c (.str ⟨#[]⟩), .c (.int .i64 0), .c (.int .i64 0), .c (.int .i64 0), .c (.int .i64 0), .c (.int .i64 0), .c (.int .i64 0), .full [], .c (.int .i64 0), .full []] := by kernel_rfl
@[simp] theorem typ_45 : tPlaces Try.prog 45 = some fun i => ([(0, 1), (1, 1), (2, 1), (3, 1), (4, 1), (5, 1), (6, 1), (7, 1), (8, 1), (9, 1), (10, 1)] : List (Nat × Nat))[i]? := by kernel_rfl
@[simp] theorem tyf_45_0 : tField Try.prog 45 0 = some (0, 1, false) := by kernel_rfl
@[simp] theorem tyf_45_1 : tField Try.prog 45 1 = some (1, 1, false) := by kernel_rfl
@[simp] theorem tyf_45_2 : tField Try.prog 45 2 = some (2, 1, false) := by kernel_rfl
@[simp] theorem tyf_45_3 : tField Try.prog 45 3 = some (3, 1, false) := by kernel_rfl
@[simp] theorem tyf_45_4 : tField Try.prog 45 4 = some (4, 1, false) := by kernel_rfl
@[simp] theorem tyf_45_5 : tField Try.prog 45 5 = some (5, 1, false) := by kernel_rfl
@[simp] theorem tyf_45_6 : tField Try.prog 45 6 = some (6, 1, false) := by kernel_rfl
@[simp] theorem tyf_45_7 : tField Try.prog 45 7 = some (7, 1, false) := by kernel_rfl
@[simp] theorem tyf_45_8 : tField Try.prog 45 8 = some (8, 1, false) := by kernel_rfl
@[simp] theorem tyf_45_9 : tField Try.prog 45 9 = some (9, 1, false) := by kernel_rfl
@[simp] theorem tyf_45_10 : tField Try.prog 45 10 = some (10, 1, false) := by kernel_rfl
@[simp] theorem ty1_47 : tOne Try.prog 47 = some (false, 1) := by kernel_rfl
@[simp] theorem tyz_47 : tZero Try.prog 47 = some [.any] := by kernel_rfl
@[simp] theorem ty1_48 : tOne Try.prog 48 = some (false, 1) := by kernel_rfl
@[simp] theorem tyz_48 : tZero Try.prog 48 = some [.any] := by kernel_rfl
@[simp] theorem ty1_50 : tOne Try.prog 50 = some (false, 1) := by kernel_rfl
@[simp] theorem tyz_50 : tZero Try.prog 50 = some [.any] := by kernel_rfl
@[simp] theorem ty1_51 : tOne Try.prog 51 = some (false, 1) := by kernel_rfl
@[simp] theorem tyz_51 : tZero Try.prog 51 = some [.any] := by kernel_rfl
@[simp] theorem ty1_52 : tOne Try.prog 52 = some (false, 1) := by kernel_rfl
@[simp] theorem tyz_52 : tZero Try.prog 52 = some [.any] := by kernel_rfl
@[simp] theorem ty1_53 : tOne Try.prog 53 = some (false, 1) := by kernel_rfl
@[simp] theorem tyz_53 : tZero Try.prog 53 = some [.any] := by kernel_rfl
@[simp] theorem ty1_54 : tOne Try.prog 54 = some (false, 1) := by kernel_rfl
@[simp] theorem tyz_54 : tZero Try.prog 54 = some [.any] := by kernel_rfl
@[simp] theorem ty1_55 : tOne Try.prog 55 = some (false, 1) := by kernel_rfl
@[simp] theorem tyz_55 : tZero Try.prog 55 = some [.any] := by kernel_rfl
@[simp] theorem ty1_56 : tOne Try.prog 56 = some (false, 1) := by kernel_rfl
@[simp] theorem tyz_56 : tZero Try.prog 56 = some [.full []] := by kernel_rfl
@[simp] theorem tyl_56 : tSl Try.prog 56 = true := by kernel_rfl
@[simp] theorem tye_56 : tElem Try.prog 56 = some (9, 1, 16) := by kernel_rfl
@[simp] theorem ty1_57 : tOne Try.prog 57 = some (false, 1) := by kernel_rfl
@[simp] theorem tyz_57 : tZero Try.prog 57 = some [.full []] := by kernel_rfl
@[simp] theorem tyl_57 : tSl Try.prog 57 = true := by kernel_rfl
@[simp] theorem tye_57 : tElem Try.prog 57 = some (66, 2, 24) := by kernel_rfl
@[simp] theorem ty1_58 : tOne Try.prog 58 = some (true, 4) := by kernel_rfl
@[simp] theorem tyz_58 : tZero Try.prog 58 = some [.c (.str ⟨#[]⟩), .full [], .full [], .c (.int .i64 0)] := by kernel_rfl
@[simp] theorem typ_58 : tPlaces Try.prog 58 = some fun i => ([(0, 1), (1, 1), (2, 1), (3, 1)] : List (Nat × Nat))[i]? := by kernel_rfl
@[simp] theorem tyf_58_0 : tField Try.prog 58 0 = some (0, 1, false) := by kernel_rfl
@[simp] theorem tyf_58_1 : tField Try.prog 58 1 = some (1, 1, false) := by kernel_rfl
@[simp] theorem tyf_58_2 : tField Try.prog 58 2 = some (2, 1, false) := by kernel_rfl
@[simp] theorem tyf_58_3 : tField Try.prog 58 3 = some (3, 1, false) := by kernel_rfl
@[simp] theorem ty1_59 : tOne Try.prog 59 = some (true, 4) := by kernel_rfl
@[simp] theorem tyz_59 : tZero Try.prog 59 = some [.c (.str ⟨#[]⟩), .full [], .full [], .c (.int .i64 0)] := by kernel_rfl
@[simp] theorem typ_59 : tPlaces Try.prog 59 = some fun i => ([(0, 1), (1, 1), (2, 1), (3, 1)] : List (Nat × Nat))[i]? := by kernel_rfl
@[simp] theorem tyf_59_0 : tField Try.prog 59 0 = some (0, 1, false) := by kernel_rfl
@[simp] theorem tyf_59_1 : tField Try.prog 59 1 = some (1, 1, false) := by kernel_rfl
@[simp] theorem tyf_59_2 : tField Try.prog 59 2 = some (2, 1, false) := by kernel_rfl
@[simp] theorem tyf_59_3 : tField Try.prog 59 3 = some (3, 1, false) := by kernel_rfl
@[simp] theorem ty1_61 : tOne Try.prog 61 = some (false, 1) := by kernel_rfl
@[simp] theorem tyz_61 : tZero Try.prog 61 = some [.any] := by kernel_rfl
@[simp] theorem ty1_62 : tOne Try.prog 62 = some (false, 1) := by kernel_rfl
@[simp] theorem tyz_62 : tZero Try.prog 62 = some [.c (.int .i16 0)] := by kernel_rfl
@[simp] theorem tyi_62 : tInt Try.prog 62 = some .i16 := by kernel_rfl
@[simp] theorem ty1_63 : tOne Try.prog 63 = some (true, 2) := by kernel_rfl
@[simp] theorem tyz_63 : tZero Try.prog 63 = some [.c (.int .i16 0), .c (.int .i16 0)] := by kernel_rfl
@[simp] theorem typ_63 : tPlaces Try.prog 63 = some fun i => some (i * 1, 1) := by kernel_rfl
@[simp] theorem tya_63 : tArr Try.prog 63 = some (2, 1, false) := by kernel_rfl
@[simp] theorem ty1_64 : tOne Try.prog 64 = some (false, 1) := by kernel_rfl
@[simp] theorem tyz_64 : tZero Try.prog 64 = some [.any] := by kernel_rfl
@[simp] theorem ty1_65 : tOne Try.prog 65 = some (true, 2) := by kernel_rfl
@[simp] theorem tyz_65 : tZero Try.prog 65 = some [.c (.str ⟨#[]⟩), .c (.bool false)] := by kernel_rfl
@[simp] theorem typ_65 : tPlaces Try.prog 65 = some fun i => ([(0, 1), (1, 1)] : List (Nat × Nat))[i]? := by kernel_rfl
@[simp] theorem tyf_65_0 : tField Try.prog 65 0 = some (0, 1, false) := by kernel_rfl
@[simp] theorem tyf_65_1 : tField Try.prog 65 1 = some (1, 1, false) := by kernel_rfl
@[simp] theorem ty1_66 : tOne Try.prog 66 = some (true, 2) := by kernel_rfl
@[simp] theorem tyz_66 : tZero Try.prog 66 = some [.c (.str ⟨#[]⟩), .c (.bool false)] := by kernel_rfl
@[simp] theorem typ_66 : tPlaces Try.prog 66 = some fun i => ([(0, 1), (1, 1)] : List (Nat × Nat))[i]? := by kernel_rfl
@[simp] theorem tyf_66_0 : tField Try.prog 66 0 = some (0, 1, false) := by kernel_rfl
@[simp] theorem tyf_66_1 : tField Try.prog 66 1 = some (1, 1, false) := by kernel_rfl
@[simp] theorem ty1_67 : tOne Try.prog 67 = some (true, 2) := by kernel_rfl
@[simp] theorem tyz_67 : tZero Try.prog 67 = some [.c (.int .i64 0), .c (.bool false)] := by kernel_rfl
@[simp] theorem typ_67 : tPlaces Try.prog 67 = some fun i => ([(0, 1), (1, 1)] : List (Nat × Nat))[i]? := by kernel_rfl
@[simp] theorem tyf_67_0 : tField Try.prog 67 0 = some (0, 1, false) := by kernel_rfl
@[simp] theorem tyf_67_1 : tField Try.prog 67 1 = some (1, 1, false) := by kernel_rfl
@[simp] theorem ty1_68 : tOne Try.prog 68 = some (true, 2) := by kernel_rfl
@[simp] theorem tyz_68 : tZero Try.prog 68 = some [.c (.int .i64 0), .c (.bool false)] := by kernel_rfl
@[simp] theorem typ_68 : tPlaces Try.prog 68 = some fun i => ([(0, 1), (1, 1)] : List (Nat × Nat))[i]? := by kernel_rfl
@[simp] theorem tyf_68_0 : tField Try.prog 68 0 = some (0, 1, false) := by kernel_rfl
@[simp] theorem tyf_68_1 : tField Try.prog 68 1 = some (1, 1, false) := by kernel_rfl
@[simp] theorem ty1_69 : tOne Try.prog 69 = some (true, 36) := by kernel_rfl
@[simp] theorem tyz_69 : tZero Try.prog 69 = some [.full [], .full [], .c (.int .i64 0), .c (.int .i64 0), .c (.int .i64 0), .c (.int .i64 0), .c (.int .i64 0), .c (.int .i64 0), .c (.int .i64 0), .c (.int .i64 0), .c (.int .i64 0), .c (.int .i64 0), .c (.int .i64 0), .c (.int .i64 0), .c (.int .i64 0), .c (.int .i64 0), .c (.int .i64 0), .c (.int .i64 0), .c (.int .i64 0), .c (.int .i64 0), .c (.int .i64 0), .c (.int .i64 0), .c (.int .i64 0), .c (.bool false), .c (.int .i64 0), .c (.str ⟨#[]⟩), .c (.int .i64 0), .c (.int .i64 0), .c (.int .i64 0), .c (.int .i64 0), .c (.int .i64 0), .c (.int .i64 0), .full [], .c (.int .i64 0), .full [], .full []] := by kernel_rfl
@[simp] theorem typ_69 : tPlaces Try.prog 69 = some fun i => ([(0, 22), (22, 2), (24, 11), (35, 1)] : List (Nat × Nat))[i]? := by kernel_rfl
@[simp] theorem tyf_69_0 : tField Try.prog 69 0 = some (0, 22, true) := by kernel_rfl
@[simp] theorem tyf_69_1 : tField Try.prog 69 1 = some (22, 2, true) := by kernel_rfl
@[simp] theorem tyf_69_2 : tField Try.prog 69 2 = some (24, 11, true) := by kernel_rfl
@[simp] theorem tyf_69_3 : tField Try.prog 69 3 = some (35, 1, false) := by kernel_rfl
@[simp] theorem ty1_70 : tOne Try.prog 70 = some (true, 36) := by kernel_rfl
@[simp] theorem tyz_70 : tZero Try.prog 70 = some [.full [], .full [], .c (.int .i64 0), .c (.int .i64 0), .c (.int .i64 0), .c (.int .i64 0), .c (.int .i64 0), .c (.int .i64 0), .c (.int .i64 0), .c (.int .i64 0), .c (.int .i64 0), .c (.int .i64 0), .c (.int .i64 0), .c (.int .i64 0), .c (.int .i64 0), .c (.int .i64 0), .c (.int .i64 0), .c (.int .i64 0), .c (.int .i64 0), .c (.int .i64 0), .c (.int .i64 0), .c (.int .i64 0), .c (.int .i64 0), .c (.bool false), .c (.int .i64 0), .c (.str ⟨#[]⟩), .c (.int .i64 0), .c (.int .i64 0), .c (.int .i64 0), .c (.int .i64 0), .c (.int .i64 0), .c (.int .i64 0), .full [], .c (.int .i64 0), .full [], .full []] := by kernel_rfl
@[simp] theorem typ_70 : tPlaces Try.prog 70 = some fun i => ([(0, 22), (22, 2), (24, 11), (35, 1)] : List (Nat × Nat))[i]? := by kernel_rfl
@[simp] theorem tyf_70_0 : tField Try.prog 70 0 = some (0, 22, true) := by kernel_rfl
@[simp] theorem tyf_70_1 : tField Try.prog 70 1 = some (22, 2, true) := by kernel_rfl
@[simp] theorem tyf_70_2 : tField Try.prog 70 2 = some (24, 11, true) := by kernel_rfl
@[simp] theorem tyf_70_3 : tField Try.prog 70 3 = some (35, 1, false) := by kernel_rfl
@[simp] theorem ty1_71 : tOne Try.prog 71 = some (false, 1) := by kernel_rfl
@[simp] theorem tyz_71 : tZero Try.prog 71 = some [.any] := by kernel_rfl
@[simp] theorem ty1_72 : tOne Try.prog 72 = some (false, 1) := by kernel_rfl
@[simp] theorem tyz_72 : tZero Try.prog 72 = some [.any] := by kernel_rfl
@[simp] theorem ty1_73 : tOne Try.prog 73 = some (true, 33) := by kernel_rfl
@[simp] theorem tyz_73 : tZero Try.prog 73 = some [.c (.int .i64 0), .c (.str ⟨#[]⟩), .c (.int .i64 0), .c (.int .i64 0), .c (.int .i64 0), .c (.int .i64 0), .c (.int .i64 0), .c (.int .i64 0), .full [], .c (.int .i64 0), .full [], .c (.int .i64 0), .c (.str ⟨#[]⟩), .c (.int .i64 0), .c (.int .i64 0), .c (.int .i64 0), .c (.int .i64 0), .c (.int .i64 0), .c (.int .i64 0), .full [], .c (.int .i64 0), .full [], .c (.int .i64 0), .c (.str ⟨#[]⟩), .c (.int .i64 0), .c (.int .i64 0), .c (.int .i64 0), .c (.int .i64 0), .c (.int .i64 0), .c (.int .i64 0), .full [], .c (.int .i64 0), .full []] := by kernel_rfl
@[simp] theorem typ_73 : tPlaces Try.prog 73 = some fun i => some (i * 11, 11) := by kernel_rfl
@[simp] theorem tya_73 : tArr Try.prog 73 = some (3, 11, true) := by kernel_rfl
@[simp] theorem ty1_75 : tOne Try.prog 75 = some (false, 1) := by kernel_rfl
@[simp] theorem tyz_75 : tZero Try.prog 75 = some [.any] := by kernel_rfl
@[simp] theorem ty1_76 : tOne Try.prog 76 = some (false, 1) := by kernel_rfl
@[simp] theorem tyz_76 : tZero Try.prog 76 = some [.any] := by kernel_rfl
@[simp] theorem ty1_77 : tOne Try.prog 77 = some (false, 1) := by kernel_rfl
@[simp] theorem tyz_77 : tZero Try.prog 77 = some [.any] := by kernel_rfl
@[simp] theorem ty1_78 : tOne Try.prog 78 = some (false, 1) := by kernel_rfl
@[simp] theorem tyz_78 : tZero Try.prog 78 = some [.any] := by kernel_rfl
@[simp] theorem ty1_79 : tOne Try.prog 79 = some (false, 1) := by kernel_rfl
@[simp] theorem tyz_79 : tZero Try.prog 79 = some [.any] := by kernel_rfl
@[simp] theorem ty1_80 : tOne Try.prog 80 = some (false, 1) := by kernel_rfl
@[simp] theorem tyz_80 : tZero Try.prog 80 = some [.any] := by kernel_rfl
@[simp] theorem ty1_81 : tOne Try.prog 81 = some (true, 23) := by kernel_rfl
@[simp] theorem tyz_81 : tZero Try.prog 81 = some [.full [], .full [], .c (.int .i64 0), .c (.int .i64 0), .c (.int .i64 0), .c (.int .i64 0), .c (.int .i64 0), .c (.int .i64 0), .c (.int .i64 0), .c (.int .i64 0), .c (.int .i64 0), .c (.int .i64 0), .c (.int .i64 0), .c (.int .i64 0), .c (.int .i64 0), .c (.int .i64 0), .c (.int .i64 0), .c (.int .i64 0), .c (.int .i64 0), .c (.int .i64 0), .c (.int .i64 0), .c (.int .i64 0), .c (.int .i64 0)] := by kernel_rfl
@[simp] theorem typ_81 : tPlaces Try.prog 81 = some fun i => ([(0, 22), (22, 1)] : List (Nat × Nat))[i]? := by kernel_rfl
@[simp] theorem tyf_81_0 : tField Try.prog 81 0 = some (0, 22, true) := by kernel_rfl
@[simp] theorem tyf_81_1 : tField Try.prog 81 1 = some (22, 1, false) := by kernel_rfl
@[simp] theorem ty1_82 : tOne Try.prog 82 = some (true, 23) := by kernel_rfl
@[simp] theorem tyz_82 : tZero Try.prog 82 = some [.full [], .full [], .c (.int .i64 0), .c (.int .i64 0), .c (.int .i64 0), .c (.int .i64 0), .c (.int .i64 0), .c (.int .i64 0), .c (.int .i64 0), .c (.int .i64 0), .c (.int .i64 0), .c (.int .i64 0), .c (.int .i64 0), .c (.int .i64 0), .c (.int .i64 0), .c (.int .i64 0), .c (.int .i64 0), .c (.int .i64 0), .c (.int .i64 0), .c (.int .i64 0), .c (.int .i64 0), .c (.int .i64 0), .c (.int .i64 0)] := by kernel_rfl
@[simp] theorem typ_82 : tPlaces Try.prog 82 = some fun i => ([(0, 22), (22, 1)] : List (Nat × Nat))[i]? := by kernel_rfl
@[simp] theorem tyf_82_0 : tField Try.prog 82 0 = some (0, 22, true) := by kernel_rfl
@[simp] theorem tyf_82_1 : tField Try.prog 82 1 = some (22, 1, false) := by kernel_rfl
@[simp] theorem ty1_83 : tOne Try.prog 83 = some (false, 1) := by kernel_rfl
@[simp] theorem tyz_83 : tZero Try.prog 83 = some [.any] := by kernel_rfl
@[simp] theorem ty1_84 : tOne Try.prog 84 = some (false, 1) := by kernel_rfl
@[simp] theorem tyz_84 : tZero Try.prog 84 = some [.any] := by kernel_rfl
@[simp] theorem ty1_85 : tOne Try.prog 85 = some (false, 1) := by kernel_rfl
@[simp] theorem tyz_85 : tZero Try.prog 85 = some [.any] := by kernel_rfl
@[simp] theorem ty1_86 : tOne Try.prog 86 = some (false, 1) := by kernel_rfl
@[simp] theorem tyz_86 : tZero Try.prog 86 = some [.any] := by kernel_rfl
@[simp] theorem ty1_87 : tOne Try.prog 87 = some (false, 1) := by kernel_rfl
@[simp] theorem tyz_87 : tZero Try.prog 87 = some [.any] := by kernel_rfl
@[simp] theorem ty1_88 : tOne Try.prog 88 = some (false, 1) := by kernel_rfl
@[simp] theorem tyz_88 : tZero Try.prog 88 = some [.any] := by kernel_rfl
@[simp] theorem ty1_89 : tOne Try.prog 89 = some (false, 1) := by kernel_rfl
@[simp] theorem tyz_89 : tZero Try.prog 89 = some [.any] := by kernel_rfl
@[simp] theorem ty1_90 : tOne Try.prog 90 = some (false, 1) := by kernel_rfl
@[simp] theorem tyz_90 : tZero Try.prog 90 = some [.any] := by kernel_rfl
@[simp] theorem ty1_91 : tOne Try.prog 91 = some (false, 1) := by kernel_rfl
@[simp] theorem tyz_91 : tZero Try.prog 91 = some [.any] := by kernel_rfl
@[simp] theorem ty1_92 : tOne Try.prog 92 = some (false, 1) := by kernel_rfl
@[simp] theorem tyz_92 : tZero Try.prog 92 = some [.any] := by kernel_rfl
@[simp] theorem ty1_93 : tOne Try.prog 93 = some (false, 1) := by kernel_rfl
@[simp] theorem tyz_93 : tZero Try.prog 93 = some [.any] := by kernel_rfl
@[simp] theorem ty1_94 : tOne Try.prog 94 = some (false, 1) := by kernel_rfl
@[simp] theorem tyz_94 : tZero Try.prog 94 = some [.any] := by kernel_rfl
@[simp] theorem ty1_95 : tOne Try.prog 95 = some (false, 1) := by kernel_rfl
@[simp] theorem tyz_95 : tZero Try.prog 95 = some [.any] := by kernel_rfl
@[simp] theorem ty1_96 : tOne Try.prog 96 = some (false, 1) := by kernel_rfl
@[simp] theorem tyz_96 : tZero Try.prog 96 = some [.any] := by kernel_rfl
@[simp] theorem ty1_97 : tOne Try.prog 97 = some (false, 1) := by kernel_rfl
@[simp] theorem tyz_97 : tZero Try.prog 97 = some [.any] := by kernel_rfl
@[simp] theorem ty1_98 : tOne Try.prog 98 = some (false, 1) := by kernel_rfl
@[simp] theorem tyz_98 : tZero Try.prog 98 = some [.any] := by kernel_rfl
@[simp] theorem ty1_99 : tOne Try.prog 99 = some (false, 1) := by kernel_rfl
@[simp] theorem tyz_99 : tZero Try.prog 99 = some [.any] := by kernel_rfl
@[simp] theorem ty1_100 : tOne Try.prog 100 = some (false, 1) := by kernel_rfl
@[simp] theorem tyz_100 : tZero Try.prog 100 = some [.any] := by kernel_rfl
@[simp] theorem ty1_101 : tOne Try.prog 101 = some (true, 6) := by kernel_rfl
@[simp] theorem tyz_101 : tZero Try.prog 101 = some [.c (.str ⟨#[]⟩), .c (.int .i64 0), .c (.int .i64 0), .c (.int .i64 0), .c (.int .i64 0), .c (.int .i64 0)] := by kernel_rfl
@[simp] theorem typ_101 : tPlaces Try.prog 101 = some fun i => ([(0, 1), (1, 1), (2, 1), (3, 1), (4, 1), (5, 1)] : List (Nat × Nat))[i]? := by kernel_rfl
@[simp] theorem tyf_101_0 : tField Try.prog 101 0 = some (0, 1, false) := by kernel_rfl
@[simp] theorem tyf_101_1 : tField Try.prog 101 1 = some (1, 1, false) := by kernel_rfl
@[simp] theorem tyf_101_2 : tField Try.prog 101 2 = some (2, 1, false) := by kernel_rfl
@[simp] theorem tyf_101_3 : tField Try.prog 101 3 = some (3, 1, false) := by kernel_rfl
@[simp] theorem tyf_101_4 : tField Try.prog 101 4 = some (4, 1, false) := by kernel_rfl
@[simp] theorem tyf_101_5 : tField Try.prog 101 5 = some (5, 1, false) := by kernel_rfl
@[simp] theorem ty1_102 : tOne Try.prog 102 = some (true, 6) := by kernel_rfl
@[simp] theorem tyz_102 : tZero Try.prog 102 = some [.c (.str ⟨#[]⟩), .c (.int .i64 0), .c (.int .i64 0), .c (.int .i64 0), .c (.int .i64 0), .c (.int .i64 0)] := by kernel_rfl
@[simp] theorem typ_102 : tPlaces Try.prog 102 = some fun i => ([(0, 1), (1, 1), (2, 1), (3, 1), (4, 1), (5, 1)] : List (Nat × Nat))[i]? := by kernel_rfl
@[simp] theorem tyf_102_0 : tField Try.prog 102 0 = some (0, 1, false) := by kernel_rfl
@[simp] theorem tyf_102_1 : tField Try.prog 102 1 = some (1, 1, false) := by kernel_rfl
@[simp] theorem tyf_102_2 : tField Try.prog 102 2 = some (2, 1, false) := by kernel_rfl
@[simp] theorem tyf_102_3 : tField Try.prog 102 3 = some (3, 1, false) := by kernel_rfl
@[simp] theorem tyf_102_4 : tField Try.prog 102 4 = some (4, 1, false) := by kernel_rfl
@[simp] theorem tyf_102_5 : tField Try.prog 102 5 = some (5, 1, false) := by kernel_rfl
@[simp] theorem ty1_103 : tOne Try.prog 103 = some (false, 1) := by kernel_rfl
@[simp] theorem tyz_103 : tZero Try.prog 103 = some [.any] := by kernel_rfl
@[simp] theorem ty1_104 : tOne Try.prog 104 = some (false, 1) := by kernel_rfl
@[simp] theorem tyz_104 : tZero Try.prog 104 = some [.any] := by kernel_rfl
@[simp] theorem ty1_105 : tOne Try.prog 105 = some (false, 1) := by kernel_rfl
@[simp] theorem tyz_105 : tZero Try.prog 105 = some [.any] := by kernel_rfl
@[simp] theorem ty1_106 : tOne Try.prog 106 = some (false, 1) := by kernel_rfl
@[simp] theorem tyz_106 : tZero Try.prog 106 = some [.any] := by kernel_rfl
@[simp] theorem ty1_107 : tOne Try.prog 107 = some (false, 1) := by kernel_rfl
@[simp] theorem tyz_107 : tZero Try.prog 107 = some [.any] := by kernel_rfl
@[simp] theorem ty1_108 : tOne Try.prog 108 = some (false, 1) := by kernel_rfl
@[simp] theorem tyz_108 : tZero Try.prog 108 = some [.any] := by kernel_rfl
@[simp] theorem ty1_109 : tOne Try.prog 109 = some (false, 1) := by kernel_rfl
@[simp] theorem tyz_109 : tZero Try.prog 109 = some [.any] := by kernel_rfl
@[simp] theorem ty1_110 : tOne Try.prog 110 = some (false, 1) := by kernel_rfl
@[simp] theorem tyz_110 : tZero Try.prog 110 = some [.any] := by kernel_rfl
@[simp] theorem ty1_111 : tOne Try.prog 111 = some (false, 1) := by kernel_rfl
@[simp] theorem tyz_111 : tZero Try.prog 111 = some [.any] := by kernel_rfl
@[simp] theorem ty1_112 : tOne Try.prog 112 = some (false, 1) := by kernel_rfl
@[simp] theorem tyz_112 : tZero Try.prog 112 = some [.any] := by kernel_rfl
@[simp] theorem ty1_113 : tOne Try.prog 113 = some (false, 1) := by kernel_rfl
@[simp] theorem tyz_113 : tZero Try.prog 113 = some [.any] := by kernel_rfl
@[simp] theorem ty1_114 : tOne Try.prog 114 = some (false, 1) := by kernel_rfl
@[simp] theorem tyz_114 : tZero Try.prog 114 = some [.any] := by kernel_rfl
@[simp] theorem ty1_115 : tOne Try.prog 115 = some (false, 1) := by kernel_rfl
@[simp] theorem tyz_115 : tZero Try.prog 115 = some [.any] := by kernel_rfl
@[simp] theorem ty1_116 : tOne Try.prog 116 = some (false, 1) := by kernel_rfl
@[simp] theorem tyz_116 : tZero Try.prog 116 = some [.any] := by kernel_rfl
@[simp] theorem ty1_117 : tOne Try.prog 117 = some (false, 1) := by kernel_rfl
@[simp] theorem tyz_117 : tZero Try.prog 117 = some [.any] := by kernel_rfl
@[simp] theorem ty1_118 : tOne Try.prog 118 = some (false, 1) := by kernel_rfl
@[simp] theorem tyz_118 : tZero Try.prog 118 = some [.any] := by kernel_rfl
@[simp] theorem ty1_119 : tOne Try.prog 119 = some (false, 1) := by kernel_rfl
@[simp] theorem tyz_119 : tZero Try.prog 119 = some [.any] := by kernel_rfl
@[simp] theorem ty1_120 : tOne Try.prog 120 = some (false, 1) := by kernel_rfl
@[simp] theorem tyz_120 : tZero Try.prog 120 = some [.any] := by kernel_rfl
@[simp] theorem ty1_122 : tOne Try.prog 122 = some (false, 1) := by kernel_rfl
@[simp] theorem tyz_122 : tZero Try.prog 122 = some [.any] := by kernel_rfl
@[simp] theorem ty1_123 : tOne Try.prog 123 = some (false, 1) := by kernel_rfl
@[simp] theorem tyz_123 : tZero Try.prog 123 = some [.any] := by kernel_rfl
@[simp] theorem ty1_124 : tOne Try.prog 124 = some (false, 1) := by kernel_rfl
@[simp] theorem tyz_124 : tZero Try.prog 124 = some [.any] := by kernel_rfl
@[simp] theorem ty1_125 : tOne Try.prog 125 = some (false, 1) := by kernel_rfl
@[simp] theorem tyz_125 : tZero Try.prog 125 = some [.any] := by kernel_rfl
@[simp] theorem ty1_126 : tOne Try.prog 126 = some (false, 1) := by kernel_rfl
@[simp] theorem tyz_126 : tZero Try.prog 126 = some [.any] := by kernel_rfl
@[simp] theorem ty1_127 : tOne Try.prog 127 = some (false, 1) := by kernel_rfl
@[simp] theorem tyz_127 : tZero Try.prog 127 = some [.any] := by kernel_rfl
@[simp] theorem ty1_128 : tOne Try.prog 128 = some (false, 1) := by kernel_rfl
@[simp] theorem tyz_128 : tZero Try.prog 128 = some [.any] := by kernel_rfl
@[simp] theorem ty1_129 : tOne Try.prog 129 = some (false, 1) := by kernel_rfl
@[simp] theorem tyz_129 : tZero Try.prog 129 = some [.any] := by kernel_rfl
@[simp] theorem ty1_130 : tOne Try.prog 130 = some (false, 1) := by kernel_rfl
@[simp] theorem tyz_130 : tZero Try.prog 130 = some [.c .nilp] := by kernel_rfl
@[simp] theorem ty1_131 : tOne Try.prog 131 = some (false, 1) := by kernel_rfl
@[simp] theorem tyz_131 : tZero Try.prog 131 = some [.c .nilp] := by kernel_rfl
@[simp] theorem ty1_132 : tOne Try.prog 132 = some (false, 1) := by kernel_rfl
@[simp] theorem tyz_132 : tZero Try.prog 132 = some [.any] := by kernel_rfl
@[simp] theorem ty1_133 : tOne Try.prog 133 = some (false, 1) := by kernel_rfl
@[simp] theorem tyz_133 : tZero Try.prog 133 = some [.any] := by kernel_rfl
@[simp] theorem ty1_134 : tOne Try.prog 134 = some (false, 1) := by kernel_rfl
@[simp] theorem tyz_134 : tZero Try.prog 134 = some [.any] := by kernel_rfl
@[simp] theorem ty1_135 : tOne Try.prog 135 = some (false, 1) := by kernel_rfl
@[simp] theorem tyz_135 : tZero Try.prog 135 = some [.c .nilp] := by kernel_rfl
@[simp] theorem ty1_136 : tOne Try.prog 136 = some (false, 1) := by kernel_rfl
@[simp] theorem tyz_136 : tZero Try.prog 136 = some [.any] := by kernel_rfl
@[simp] theorem ty1_138 : tOne Try.prog 138 = some (false, 1) := by kernel_rfl
@[simp] theorem tyz_138 : tZero Try.prog 138 = some [.any] := by kernel_rfl
@[simp] theorem ty1_139 : tOne Try.prog 139 = some (false, 1) := by kernel_rfl
@[simp] theorem tyz_139 : tZero Try.prog 139 = some [.any] := by kernel_rfl
@[simp] theorem ty1_140 : tOne Try.prog 140 = some (false, 1) := by kernel_rfl
@[simp] theorem tyz_140 : tZero Try.prog 140 = some [.any] := by kernel_rfl
@[simp] theorem ty1_141 : tOne Try.prog 141 = some (false, 1) := by kernel_rfl
@[simp] theorem tyz_141 : tZero Try.prog 141 = some [.any] := by kernel_rfl
@[simp] theorem ty1_142 : tOne Try.prog 142 = some (false, 1) := by kernel_rfl
@[simp] theorem tyz_142 : tZero Try.prog 142 = some [.any] := by kernel_rfl
@[simp] theorem ty1_143 : tOne Try.prog 143 = some (false, 1) := by kernel_rfl
@[simp] theorem tyz_143 : tZero Try.prog 143 = some [.any] := by kernel_rfl
@[simp] theorem ty1_144 : tOne Try.prog 144 = some (false, 1) := by kernel_rfl
@[simp] theorem tyz_144 : tZero Try.prog 144 = some [.any] := by kernel_rfl
@[simp] theorem ty1_145 : tOne Try.prog 145 = some (false, 1) := by kernel_rfl
@[simp] theorem tyz_145 : tZero Try.prog 145 = some [.any] := by kernel_rfl
@[simp] theorem ty1_147 : tOne Try.prog 147 = some (false, 1) := by kernel_rfl
@[simp] theorem tyz_147 : tZero Try.prog 147 = some [.any] := by kernel_rfl
@[simp] theorem ty1_148 : tOne Try.prog 148 = some (false, 1) := by kernel_rfl
@[simp] theorem tyz_148 : tZero Try.prog 148 = some [.any] := by kernel_rfl
@[simp] theorem ty1_149 : tOne Try.prog 149 = some (false, 1) := by kernel_rfl
@[simp] theorem tyz_149 : tZero Try.prog 149 = some [.any] := by kernel_rfl
@[simp] theorem ty1_150 : tOne Try.prog 150 = some (false, 1) := by kernel_rfl
@[simp] theorem tyz_150 : tZero Try.prog 150 = some [.any] := by kernel_rfl
end Go.Proofs.Ythbcljjpmdfflaa
