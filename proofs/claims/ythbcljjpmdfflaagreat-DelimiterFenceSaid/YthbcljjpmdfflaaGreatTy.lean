/- Facts on the table of types of this seat's program, printed by a program (gentypes.py); each is reckoned by the kernel. -/
import Derived.Test.YthbcljjpmdfflaaGreatG3
import Derived.Test.YthbcljjpmdfflaaGreatProg
import Derived.KernelRfl
namespace Go.Proofs.YthbcljjpmdfflaaGreat
@[simp] theorem ty1_1 : tOne Tryz.prog 1 = some (false, 1) := by kernel_rfl
@[simp] theorem tyz_1 : tZero Tryz.prog 1 = some [.any] := by kernel_rfl
@[simp] theorem ty1_2 : tOne Tryz.prog 2 = some (false, 1) := by kernel_rfl
@[simp] theorem tyz_2 : tZero Tryz.prog 2 = some [.c (.int .i64 0)] := by kernel_rfl
@[simp] theorem tyi_2 : tInt Tryz.prog 2 = some .i64 := by kernel_rfl
@[simp] theorem ty1_3 : tOne Tryz.prog 3 = some (false, 1) := by kernel_rfl
@[simp] theorem tyz_3 : tZero Tryz.prog 3 = some [.c (.int .i64 0)] := by kernel_rfl
@[simp] theorem tyi_3 : tInt Tryz.prog 3 = some .i64 := by kernel_rfl
@[simp] theorem ty1_4 : tOne Tryz.prog 4 = some (false, 1) := by kernel_rfl
@[simp] theorem tyz_4 : tZero Tryz.prog 4 = some [.c (.bool false)] := by kernel_rfl
@[simp] theorem ty1_5 : tOne Tryz.prog 5 = some (false, 1) := by kernel_rfl
@[simp] theorem tyz_5 : tZero Tryz.prog 5 = some [.c (.int .u8 0)] := by kernel_rfl
@[simp] theorem tyi_5 : tInt Tryz.prog 5 = some .u8 := by kernel_rfl
@[simp] theorem ty1_6 : tOne Tryz.prog 6 = some (false, 1) := by kernel_rfl
@[simp] theorem tyz_6 : tZero Tryz.prog 6 = some [.c (.int .u8 0)] := by kernel_rfl
@[simp] theorem tyi_6 : tInt Tryz.prog 6 = some .u8 := by kernel_rfl
@[simp] theorem ty1_7 : tOne Tryz.prog 7 = some (true, 4) := by kernel_rfl
@[simp] theorem tyz_7 : tZero Tryz.prog 7 = some [.c (.int .i64 0), .c (.int .i64 0), .c (.bool false), .c (.int .u8 0)] := by kernel_rfl
@[simp] theorem typ_7 : tPlaces Tryz.prog 7 = some fun i => ([(0, 1), (1, 1), (2, 1), (3, 1)] : List (Nat × Nat))[i]? := by kernel_rfl
@[simp] theorem tyf_7_0 : tField Tryz.prog 7 0 = some (0, 1, false) := by kernel_rfl
@[simp] theorem tyf_7_1 : tField Tryz.prog 7 1 = some (1, 1, false) := by kernel_rfl
@[simp] theorem tyf_7_2 : tField Tryz.prog 7 2 = some (2, 1, false) := by kernel_rfl
@[simp] theorem tyf_7_3 : tField Tryz.prog 7 3 = some (3, 1, false) := by kernel_rfl
@[simp] theorem ty1_8 : tOne Tryz.prog 8 = some (true, 4) := by kernel_rfl
@[simp] theorem tyz_8 : tZero Tryz.prog 8 = some [.c (.int .i64 0), .c (.int .i64 0), .c (.bool false), .c (.int .u8 0)] := by kernel_rfl
@[simp] theorem typ_8 : tPlaces Tryz.prog 8 = some fun i => ([(0, 1), (1, 1), (2, 1), (3, 1)] : List (Nat × Nat))[i]? := by kernel_rfl
@[simp] theorem tyf_8_0 : tField Tryz.prog 8 0 = some (0, 1, false) := by kernel_rfl
@[simp] theorem tyf_8_1 : tField Tryz.prog 8 1 = some (1, 1, false) := by kernel_rfl
@[simp] theorem tyf_8_2 : tField Tryz.prog 8 2 = some (2, 1, false) := by kernel_rfl
@[simp] theorem tyf_8_3 : tField Tryz.prog 8 3 = some (3, 1, false) := by kernel_rfl
@[simp] theorem ty1_9 : tOne Tryz.prog 9 = some (false, 1) := by kernel_rfl
@[simp] theorem tyz_9 : tZero Tryz.prog 9 = some [.c (.str ⟨#[]⟩)] := by kernel_rfl
@[simp] theorem tys_9 : tStr Tryz.prog 9 = true := by kernel_rfl
@[simp] theorem ty1_10 : tOne Tryz.prog 10 = some (false, 1) := by kernel_rfl
@[simp] theorem tyz_10 : tZero Tryz.prog 10 = some [.c (.str ⟨#[]⟩)] := by kernel_rfl
@[simp] theorem tys_10 : tStr Tryz.prog 10 = true := by kernel_rfl
@[simp] theorem ty1_11 : tOne Tryz.prog 11 = some (false, 1) := by kernel_rfl
@[simp] theorem tyz_11 : tZero Tryz.prog 11 = some [.c (.str ⟨#[]⟩)] := by kernel_rfl
@[simp] theorem tys_11 : tStr Tryz.prog 11 = true := by kernel_rfl
@[simp] theorem ty1_12 : tOne Tryz.prog 12 = some (false, 1) := by kernel_rfl
@[simp] theorem tyz_12 : tZero Tryz.prog 12 = some [.c (.int .u64 0)] := by kernel_rfl
@[simp] theorem tyi_12 : tInt Tryz.prog 12 = some .u64 := by kernel_rfl
@[simp] theorem ty1_13 : tOne Tryz.prog 13 = some (true, 2) := by kernel_rfl
@[simp] theorem tyz_13 : tZero Tryz.prog 13 = some [.c (.str ⟨#[]⟩), .c (.int .u64 0)] := by kernel_rfl
@[simp] theorem typ_13 : tPlaces Tryz.prog 13 = some fun i => ([(0, 1), (1, 1)] : List (Nat × Nat))[i]? := by kernel_rfl
@[simp] theorem tyf_13_0 : tField Tryz.prog 13 0 = some (0, 1, false) := by kernel_rfl
@[simp] theorem tyf_13_1 : tField Tryz.prog 13 1 = some (1, 1, false) := by kernel_rfl
@[simp] theorem ty1_14 : tOne Tryz.prog 14 = some (true, 2) := by kernel_rfl
@[simp] theorem tyz_14 : tZero Tryz.prog 14 = some [.c (.str ⟨#[]⟩), .c (.int .u64 0)] := by kernel_rfl
@[simp] theorem typ_14 : tPlaces Tryz.prog 14 = some fun i => ([(0, 1), (1, 1)] : List (Nat × Nat))[i]? := by kernel_rfl
@[simp] theorem tyf_14_0 : tField Tryz.prog 14 0 = some (0, 1, false) := by kernel_rfl
@[simp] theorem tyf_14_1 : tField Tryz.prog 14 1 = some (1, 1, false) := by kernel_rfl
@[simp] theorem ty1_15 : tOne Tryz.prog 15 = some (false, 1) := by kernel_rfl
@[simp] theorem tyz_15 : tZero Tryz.prog 15 = some [.c .nilp] := by kernel_rfl
@[simp] theorem ty1_16 : tOne Tryz.prog 16 = some (false, 1) := by kernel_rfl
@[simp] theorem tyz_16 : tZero Tryz.prog 16 = some [.c .nilp] := by kernel_rfl
@[simp] theorem ty1_17 : tOne Tryz.prog 17 = some (false, 1) := by kernel_rfl
@[simp] theorem tyz_17 : tZero Tryz.prog 17 = some [.c .nilp] := by kernel_rfl
@[simp] theorem ty1_18 : tOne Tryz.prog 18 = some (true, 1) := by kernel_rfl
@[simp] theorem tyz_18 : tZero Tryz.prog 18 = some [.c .nilp] := by kernel_rfl
@[simp] theorem typ_18 : tPlaces Tryz.prog 18 = some fun i => ([(0, 1)] : List (Nat × Nat))[i]? := by kernel_rfl
@[simp] theorem tyf_18_0 : tField Tryz.prog 18 0 = some (0, 1, false) := by kernel_rfl
@[simp] theorem ty1_19 : tOne Tryz.prog 19 = some (true, 1) := by kernel_rfl
@[simp] theorem tyz_19 : tZero Tryz.prog 19 = some [.c .nilp] := by kernel_rfl
@[simp] theorem typ_19 : tPlaces Tryz.prog 19 = some fun i => ([(0, 1)] : List (Nat × Nat))[i]? := by kernel_rfl
@[simp] theorem tyf_19_0 : tField Tryz.prog 19 0 = some (0, 1, false) := by kernel_rfl
@[simp] theorem ty1_20 : tOne Tryz.prog 20 = some (false, 1) := by kernel_rfl
@[simp] theorem tyz_20 : tZero Tryz.prog 20 = some [.any] := by kernel_rfl
@[simp] theorem ty1_21 : tOne Tryz.prog 21 = some (false, 1) := by kernel_rfl
@[simp] theorem tyz_21 : tZero Tryz.prog 21 = some [.c (.int .i32 0)] := by kernel_rfl
@[simp] theorem tyi_21 : tInt Tryz.prog 21 = some .i32 := by kernel_rfl
@[simp] theorem ty1_22 : tOne Tryz.prog 22 = some (false, 1) := by kernel_rfl
@[simp] theorem tyz_22 : tZero Tryz.prog 22 = some [.full []] := by kernel_rfl
@[simp] theorem tyl_22 : tSl Tryz.prog 22 = true := by kernel_rfl
@[simp] theorem tye_22 : tElem Tryz.prog 22 = some (57, 6, 56) := by kernel_rfl
@[simp] theorem ty1_23 : tOne Tryz.prog 23 = some (false, 1) := by kernel_rfl
@[simp] theorem tyz_23 : tZero Tryz.prog 23 = some [.full []] := by kernel_rfl
@[simp] theorem tyl_23 : tSl Tryz.prog 23 = true := by kernel_rfl
@[simp] theorem tye_23 : tElem Tryz.prog 23 = some (61, 4, 72) := by kernel_rfl
@[simp] theorem ty1_24 : tOne Tryz.prog 24 = some (true, 20) := by kernel_rfl
@[simp] theorem tyz_24 : tZero Tryz.prog 24 = some [.c (.int .i64 0), .c (.int .i64 0), .c (.int .i64 0), .c (.int .i64 0), .c (.int .i64 0), .c (.int .i64 0), .c (.int .i64 0), .c (.int .i64 0), .c (.int .i64 0), .c (.int .i64 0), .c (.int .i64 0), .c (.int .i64 0), .c (.int .i64 0), .c (.int .i64 0), .c (.int .i64 0), .c (.int .i64 0), .c (.int .i64 0), .c (.int .i64 0), .c (.int .i64 0), .c (.int .i64 0)] := by kernel_rfl
@[simp] theorem typ_24 : tPlaces Tryz.prog 24 = some fun i => ([(0, 1), (1, 1), (2, 1), (3, 1), (4, 1), (5, 1), (6, 1), (7, 1), (8, 1), (9, 1), (10, 1), (11, 1), (12, 1), (13, 1), (14, 1), (15, 1), (16, 1), (17, 1), (18, 1), (19, 1)] : List (Nat × Nat))[i]? := by kernel_rfl
@[simp] theorem tyf_24_0 : tField Tryz.prog 24 0 = some (0, 1, false) := by kernel_rfl
@[simp] theorem tyf_24_1 : tField Tryz.prog 24 1 = some (1, 1, false) := by kernel_rfl
@[simp] theorem tyf_24_2 : tField Tryz.prog 24 2 = some (2, 1, false) := by kernel_rfl
@[simp] theorem tyf_24_3 : tField Tryz.prog 24 3 = some (3, 1, false) := by kernel_rfl
@[simp] theorem tyf_24_4 : tField Tryz.prog 24 4 = some (4, 1, false) := by kernel_rfl
@[simp] theorem tyf_24_5 : tField Tryz.prog 24 5 = some (5, 1, false) := by kernel_rfl
@[simp] theorem tyf_24_6 : tField Tryz.prog 24 6 = some (6, 1, false) := by kernel_rfl
@[simp] theorem tyf_24_7 : tField Tryz.prog 24 7 = some (7, 1, false) := by kernel_rfl
@[simp] theorem tyf_24_8 : tField Tryz.prog 24 8 = some (8, 1, false) := by kernel_rfl
@[simp] theorem tyf_24_9 : tField Tryz.prog 24 9 = some (9, 1, false) := by kernel_rfl
@[simp] theorem tyf_24_10 : tField Tryz.prog 24 10 = some (10, 1, false) := by kernel_rfl
@[simp] theorem tyf_24_11 : tField Tryz.prog 24 11 = some (11, 1, false) := by kernel_rfl
@[simp] theorem tyf_24_12 : tField Tryz.prog 24 12 = some (12, 1, false) := by kernel_rfl
@[simp] theorem tyf_24_13 : tField Tryz.prog 24 13 = some (13, 1, false) := by kernel_rfl
@[simp] theorem tyf_24_14 : tField Tryz.prog 24 14 = some (14, 1, false) := by kernel_rfl
@[simp] theorem tyf_24_15 : tField Tryz.prog 24 15 = some (15, 1, false) := by kernel_rfl
@[simp] theorem tyf_24_16 : tField Tryz.prog 24 16 = some (16, 1, false) := by kernel_rfl
@[simp] theorem tyf_24_17 : tField Tryz.prog 24 17 = some (17, 1, false) := by kernel_rfl
@[simp] theorem tyf_24_18 : tField Tryz.prog 24 18 = some (18, 1, false) := by kernel_rfl
@[simp] theorem tyf_24_19 : tField Tryz.prog 24 19 = some (19, 1, false) := by kernel_rfl
@[simp] theorem ty1_25 : tOne Tryz.prog 25 = some (true, 20) := by kernel_rfl
@[simp] theorem tyz_25 : tZero Tryz.prog 25 = some [.c (.int .i64 0), .c (.int .i64 0), .c (.int .i64 0), .c (.int .i64 0), .c (.int .i64 0), .c (.int .i64 0), .c (.int .i64 0), .c (.int .i64 0), .c (.int .i64 0), .c (.int .i64 0), .c (.int .i64 0), .c (.int .i64 0), .c (.int .i64 0), .c (.int .i64 0), .c (.int .i64 0), .c (.int .i64 0), .c (.int .i64 0), .c (.int .i64 0), .c (.int .i64 0), .c (.int .i64 0)] := by kernel_rfl
@[simp] theorem typ_25 : tPlaces Tryz.prog 25 = some fun i => ([(0, 1), (1, 1), (2, 1), (3, 1), (4, 1), (5, 1), (6, 1), (7, 1), (8, 1), (9, 1), (10, 1), (11, 1), (12, 1), (13, 1), (14, 1), (15, 1), (16, 1), (17, 1), (18, 1), (19, 1)] : List (Nat × Nat))[i]? := by kernel_rfl
@[simp] theorem tyf_25_0 : tField Tryz.prog 25 0 = some (0, 1, false) := by kernel_rfl
@[simp] theorem tyf_25_1 : tField Tryz.prog 25 1 = some (1, 1, false) := by kernel_rfl
@[simp] theorem tyf_25_2 : tField Tryz.prog 25 2 = some (2, 1, false) := by kernel_rfl
@[simp] theorem tyf_25_3 : tField Tryz.prog 25 3 = some (3, 1, false) := by kernel_rfl
@[simp] theorem tyf_25_4 : tField Tryz.prog 25 4 = some (4, 1, false) := by kernel_rfl
@[simp] theorem tyf_25_5 : tField Tryz.prog 25 5 = some (5, 1, false) := by kernel_rfl
@[simp] theorem tyf_25_6 : tField Tryz.prog 25 6 = some (6, 1, false) := by kernel_rfl
@[simp] theorem tyf_25_7 : tField Tryz.prog 25 7 = some (7, 1, false) := by kernel_rfl
@[simp] theorem tyf_25_8 : tField Tryz.prog 25 8 = some (8, 1, false) := by kernel_rfl
@[simp] theorem tyf_25_9 : tField Tryz.prog 25 9 = some (9, 1, false) := by kernel_rfl
@[simp] theorem tyf_25_10 : tField Tryz.prog 25 10 = some (10, 1, false) := by kernel_rfl
@[simp] theorem tyf_25_11 : tField Tryz.prog 25 11 = some (11, 1, false) := by kernel_rfl
@[simp] theorem tyf_25_12 : tField Tryz.prog 25 12 = some (12, 1, false) := by kernel_rfl
@[simp] theorem tyf_25_13 : tField Tryz.prog 25 13 = some (13, 1, false) := by kernel_rfl
@[simp] theorem tyf_25_14 : tField Tryz.prog 25 14 = some (14, 1, false) := by kernel_rfl
@[simp] theorem tyf_25_15 : tField Tryz.prog 25 15 = some (15, 1, false) := by kernel_rfl
@[simp] theorem tyf_25_16 : tField Tryz.prog 25 16 = some (16, 1, false) := by kernel_rfl
@[simp] theorem tyf_25_17 : tField Tryz.prog 25 17 = some (17, 1, false) := by kernel_rfl
@[simp] theorem tyf_25_18 : tField Tryz.prog 25 18 = some (18, 1, false) := by kernel_rfl
@[simp] theorem tyf_25_19 : tField Tryz.prog 25 19 = some (19, 1, false) := by kernel_rfl
@[simp] theorem ty1_26 : tOne Tryz.prog 26 = some (true, 22) := by kernel_rfl
@[simp] theorem tyz_26 : tZero Tryz.prog 26 = some [.full [], .full [], .c (.int .i64 0), .c (.int .i64 0), .c (.int .i64 0), .c (.int .i64 0), .c (.int .i64 0), .c (.int .i64 0), .c (.int .i64 0), .c (.int .i64 0), .c (.int .i64 0), .c (.int .i64 0), .c (.int .i64 0), .c (.int .i64 0), .c (.int .i64 0), .c (.int .i64 0), .c (.int .i64 0), .c (.int .i64 0), .c (.int .i64 0), .c (.int .i64 0), .c (.int .i64 0), .c (.int .i64 0)] := by kernel_rfl
@[simp] theorem typ_26 : tPlaces Tryz.prog 26 = some fun i => ([(0, 1), (1, 1), (2, 20)] : List (Nat × Nat))[i]? := by kernel_rfl
@[simp] theorem tyf_26_0 : tField Tryz.prog 26 0 = some (0, 1, false) := by kernel_rfl
@[simp] theorem tyf_26_1 : tField Tryz.prog 26 1 = some (1, 1, false) := by kernel_rfl
@[simp] theorem tyf_26_2 : tField Tryz.prog 26 2 = some (2, 20, true) := by kernel_rfl
@[simp] theorem ty1_27 : tOne Tryz.prog 27 = some (true, 22) := by kernel_rfl
@[simp] theorem tyz_27 : tZero Tryz.prog 27 = some [.full [], .full [], .c (.int .i64 0), .c (.int .i64 0), .c (.int .i64 0), .c (.int .i64 0), .c (.int .i64 0), .c (.int .i64 0), .c (.int .i64 0), .c (.int .i64 0), .c (.int .i64 0), .c (.int .i64 0), .c (.int .i64 0), .c (.int .i64 0), .c (.int .i64 0), .c (.int .i64 0), .c (.int .i64 0), .c (.int .i64 0), .c (.int .i64 0), .c (.int .i64 0), .c (.int .i64 0), .c (.int .i64 0)] := by kernel_rfl
@[simp] theorem typ_27 : tPlaces Tryz.prog 27 = some fun i => ([(0, 1), (1, 1), (2, 20)] : List (Nat × Nat))[i]? := by kernel_rfl
@[simp] theorem tyf_27_0 : tField Tryz.prog 27 0 = some (0, 1, false) := by kernel_rfl
@[simp] theorem tyf_27_1 : tField Tryz.prog 27 1 = some (1, 1, false) := by kernel_rfl
@[simp] theorem tyf_27_2 : tField Tryz.prog 27 2 = some (2, 20, true) := by kernel_rfl
@[simp] theorem ty1_28 : tOne Tryz.prog 28 = some (true, 23) := by kernel_rfl
@[simp] theorem tyz_28 : tZero Tryz.prog 28 = some [.full [], .full [], .c (.int .i64 0), .c (.int .i64 0), .c (.int .i64 0), .c (.int .i64 0), .c (.int .i64 0), .c (.int .i64 0), .c (.int .i64 0), .c (.int .i64 0), .c (.int .i64 0), .c (.int .i64 0), .c (.int .i64 0), .c (.int .i64 0), .c (.int .i64 0), .c (.int .i64 0), .c (.int .i64 0), .c (.int .i64 0), .c (.int .i64 0), .c (.int .i64 0), .c (.int .i64 0), .c (.int .i64 0), .c (.int .i64 0)] := by kernel_rfl
@[simp] theorem typ_28 : tPlaces Tryz.prog 28 = some fun i => ([(0, 22), (22, 1)] : List (Nat × Nat))[i]? := by kernel_rfl
@[simp] theorem tyf_28_0 : tField Tryz.prog 28 0 = some (0, 22, true) := by kernel_rfl
@[simp] theorem tyf_28_1 : tField Tryz.prog 28 1 = some (22, 1, false) := by kernel_rfl
@[simp] theorem ty1_29 : tOne Tryz.prog 29 = some (true, 23) := by kernel_rfl
@[simp] theorem tyz_29 : tZero Tryz.prog 29 = some [.full [], .full [], .c (.int .i64 0), .c (.int .i64 0), .c (.int .i64 0), .c (.int .i64 0), .c (.int .i64 0), .c (.int .i64 0), .c (.int .i64 0), .c (.int .i64 0), .c (.int .i64 0), .c (.int .i64 0), .c (.int .i64 0), .c (.int .i64 0), .c (.int .i64 0), .c (.int .i64 0), .c (.int .i64 0), .c (.int .i64 0), .c (.int .i64 0), .c (.int .i64 0), .c (.int .i64 0), .c (.int .i64 0), .c (.int .i64 0)] := by kernel_rfl
@[simp] theorem typ_29 : tPlaces Tryz.prog 29 = some fun i => ([(0, 22), (22, 1)] : List (Nat × Nat))[i]? := by kernel_rfl
@[simp] theorem tyf_29_0 : tField Tryz.prog 29 0 = some (0, 22, true) := by kernel_rfl
@[simp] theorem tyf_29_1 : tField Tryz.prog 29 1 = some (22, 1, false) := by kernel_rfl
@[simp] theorem ty1_30 : tOne Tryz.prog 30 = some (false, 1) := by kernel_rfl
@[simp] theorem tyz_30 : tZero Tryz.prog 30 = some [.full []] := by kernel_rfl
@[simp] theorem tyl_30 : tSl Tryz.prog 30 = true := by kernel_rfl
@[simp] theorem tye_30 : tElem Tryz.prog 30 = some (33, 11, 128) := by kernel_rfl
@[simp] theorem ty1_31 : tOne Tryz.prog 31 = some (false, 1) := by kernel_rfl
@[simp] theorem tyz_31 : tZero Tryz.prog 31 = some [.full []] := by kernel_rfl
@[simp] theorem tyl_31 : tSl Tryz.prog 31 = true := by kernel_rfl
@[simp] theorem tye_31 : tElem Tryz.prog 31 = some (3, 1, 8) := by kernel_rfl
@[simp] theorem ty1_32 : tOne Tryz.prog 32 = some (true, 11) := by kernel_rfl
@[simp] theorem tyz_32 : tZero Tryz.prog 32 = some [.c (.int .i64 0), .c (.str ⟨#[]⟩), .c (.int .i64 0), .c (.int .i64 0), .c (.int .i64 0), .c (.int .i64 0), .c (.int .i64 0), .c (.int .i64 0), .full [], .c (.int .i64 0), .full []] := by kernel_rfl
@[simp] theorem typ_32 : tPlaces Tryz.prog 32 = some fun i => ([(0, 1), (1, 1), (2, 1), (3, 1), (4, 1), (5, 1), (6, 1), (7, 1), (8, 1), (9, 1), (10, 1)] : List (Nat × Nat))[i]? := by kernel_rfl
@[simp] theorem tyf_32_0 : tField Tryz.prog 32 0 = some (0, 1, false) := by kernel_rfl
@[simp] theorem tyf_32_1 : tField Tryz.prog 32 1 = some (1, 1, false) := by kernel_rfl
@[simp] theorem tyf_32_2 : tField Tryz.prog 32 2 = some (2, 1, false) := by kernel_rfl
@[simp] theorem tyf_32_3 : tField Tryz.prog 32 3 = some (3, 1, false) := by kernel_rfl
@[simp] theorem tyf_32_4 : tField Tryz.prog 32 4 = some (4, 1, false) := by kernel_rfl
@[simp] theorem tyf_32_5 : tField Tryz.prog 32 5 = some (5, 1, false) := by kernel_rfl
@[simp] theorem tyf_32_6 : tField Tryz.prog 32 6 = some (6, 1, false) := by kernel_rfl
@[simp] theorem tyf_32_7 : tField Tryz.prog 32 7 = some (7, 1, false) := by kernel_rfl
@[simp] theorem tyf_32_8 : tField Tryz.prog 32 8 = some (8, 1, false) := by kernel_rfl
@[simp] theorem tyf_32_9 : tField Tryz.prog 32 9 = some (9, 1, false) := by kernel_rfl
@[simp] theorem tyf_32_10 : tField Tryz.prog 32 10 = some (10, 1, false) := by kernel_rfl
@[simp] theorem ty1_33 : tOne Tryz.prog 33 = some (true, 11) := by kernel_rfl
@[simp] theorem tyz_33 : tZero Tryz.prog 33 = some [.c (.int .i64 0), .c (.str ⟨#[]⟩), .c (.int .i64 0), .c (.int .i64 0), .c (.int .i64 0), .c (.int .i64 0), .c (.int .i64 0), .c (.int .i64 0), .full [], .c (.int .i64 0), .full []] := by kernel_rfl
@[simp] theorem typ_33 : tPlaces Tryz.prog 33 = some fun i => ([(0, 1), (1, 1), (2, 1), (3, 1), (4, 1), (5, 1), (6, 1), (7, 1), (8, 1), (9, 1), (10, 1)] : List (Nat × Nat))[i]? := by kernel_rfl
@[simp] theorem tyf_33_0 : tField Tryz.prog 33 0 = some (0, 1, false) := by kernel_rfl
@[simp] theorem tyf_33_1 : tField Tryz.prog 33 1 = some (1, 1, false) := by kernel_rfl
@[simp] theorem tyf_33_2 : tField Tryz.prog 33 2 = some (2, 1, false) := by kernel_rfl
@[simp] theorem tyf_33_3 : tField Tryz.prog 33 3 = some (3, 1, false) := by kernel_rfl
@[simp] theorem tyf_33_4 : tField Tryz.prog 33 4 = some (4, 1, false) := by kernel_rfl
@[simp] theorem tyf_33_5 : tField Tryz.prog 33 5 = some (5, 1, false) := by kernel_rfl
@[simp] theorem tyf_33_6 : tField Tryz.prog 33 6 = some (6, 1, false) := by kernel_rfl
@[simp] theorem tyf_33_7 : tField Tryz.prog 33 7 = some (7, 1, false) := by kernel_rfl
@[simp] theorem tyf_33_8 : tField Tryz.prog 33 8 = some (8, 1, false) := by kernel_rfl
@[simp] theorem tyf_33_9 : tField Tryz.prog 33 9 = some (9, 1, false) := by kernel_rfl
@[simp] theorem tyf_33_10 : tField Tryz.prog 33 10 = some (10, 1, false) := by kernel_rfl
@[simp] theorem ty1_34 : tOne Tryz.prog 34 = some (false, 1) := by kernel_rfl
@[simp] theorem tyz_34 : tZero Tryz.prog 34 = some [.any] := by kernel_rfl
@[simp] theorem ty1_35 : tOne Tryz.prog 35 = some (false, 1) := by kernel_rfl
@[simp] theorem tyz_35 : tZero Tryz.prog 35 = some [.any] := by kernel_rfl
@[simp] theorem ty1_36 : tOne Tryz.prog 36 = some (false, 1) := by kernel_rfl
@[simp] theorem tyz_36 : tZero Tryz.prog 36 = some [.any] := by kernel_rfl
@[simp] theorem ty1_37 : tOne Tryz.prog 37 = some (false, 1) := by kernel_rfl
@[simp] theorem tyz_37 : tZero Tryz.prog 37 = some [.c (.int .i64 0)] := by kernel_rfl
@[simp] theorem tyi_37 : tInt Tryz.prog 37 = some .i64 := by kernel_rfl
@[simp] theorem ty1_39 : tOne Tryz.prog 39 = some (false, 1) := by kernel_rfl
@[simp] theorem tyz_39 : tZero Tryz.prog 39 = some [.any] := by kernel_rfl
@[simp] theorem ty1_40 : tOne Tryz.prog 40 = some (false, 1) := by kernel_rfl
@[simp] theorem tyz_40 : tZero Tryz.prog 40 = some [.any] := by kernel_rfl
@[simp] theorem ty1_41 : tOne Tryz.prog 41 = some (false, 1) := by kernel_rfl
@[simp] theorem tyz_41 : tZero Tryz.prog 41 = some [.any] := by kernel_rfl
@[simp] theorem ty1_42 : tOne Tryz.prog 42 = some (false, 1) := by kernel_rfl
@[simp] theorem tyz_42 : tZero Tryz.prog 42 = some [.any] := by kernel_rfl
@[simp] theorem ty1_43 : tOne Tryz.prog 43 = some (false, 1) := by kernel_rfl
@[simp] theorem tyz_43 : tZero Tryz.prog 43 = some [.any] := by kernel_rfl
@[simp] theorem ty1_44 : tOne Tryz.prog 44 = some (false, 1) := by kernel_rfl
@[simp] theorem tyz_44 : tZero Tryz.prog 44 = some [.any] := by kernel_rfl
@[simp] theorem ty1_45 : tOne Tryz.prog 45 = some (false, 1) := by kernel_rfl
@[simp] theorem tyz_45 : tZero Tryz.prog 45 = some [.any] := by kernel_rfl
@[simp] theorem ty1_46 : tOne Tryz.prog 46 = some (false, 1) := by kernel_rfl
@[simp] theorem tyz_46 : tZero Tryz.prog 46 = some [.any] := by kernel_rfl
@[simp] theorem ty1_47 : tOne Tryz.prog 47 = some (false, 1) := by kernel_rfl
@[simp] theorem tyz_47 : tZero Tryz.prog 47 = some [.any] := by kernel_rfl
@[simp] theorem ty1_48 : tOne Tryz.prog 48 = some (false, 1) := by kernel_rfl
@[simp] theorem tyz_48 : tZero Tryz.prog 48 = some [.any] := by kernel_rfl
@[simp] theorem ty1_49 : tOne Tryz.prog 49 = some (false, 1) := by kernel_rfl
@[simp] theorem tyz_49 : tZero Tryz.prog 49 = some [.any] := by kernel_rfl
@[simp] theorem ty1_50 : tOne Tryz.prog 50 = some (false, 1) := by kernel_rfl
@[simp] theorem tyz_50 : tZero Tryz.prog 50 = some [.any] := by kernel_rfl
@[simp] theorem ty1_51 : tOne Tryz.prog 51 = some (false, 1) := by kernel_rfl
@[simp] theorem tyz_51 : tZero Tryz.prog 51 = some [.any] := by kernel_rfl
@[simp] theorem ty1_52 : tOne Tryz.prog 52 = some (false, 1) := by kernel_rfl
@[simp] theorem tyz_52 : tZero Tryz.prog 52 = some [.any] := by kernel_rfl
@[simp] theorem ty1_53 : tOne Tryz.prog 53 = some (false, 1) := by kernel_rfl
@[simp] theorem tyz_53 : tZero Tryz.prog 53 = some [.any] := by kernel_rfl
@[simp] theorem ty1_54 : tOne Tryz.prog 54 = some (false, 1) := by kernel_rfl
@[simp] theorem tyz_54 : tZero Tryz.prog 54 = some [.any] := by kernel_rfl
@[simp] theorem ty1_55 : tOne Tryz.prog 55 = some (false, 1) := by kernel_rfl
@[simp] theorem tyz_55 : tZero Tryz.prog 55 = some [.any] := by kernel_rfl
@[simp] theorem ty1_56 : tOne Tryz.prog 56 = some (true, 6) := by kernel_rfl
@[simp] theorem tyz_56 : tZero Tryz.prog 56 = some [.c (.str ⟨#[]⟩), .c (.int .i64 0), .c (.int .i64 0), .c (.int .i64 0), .c (.int .i64 0), .c (.int .i64 0)] := by kernel_rfl
@[simp] theorem typ_56 : tPlaces Tryz.prog 56 = some fun i => ([(0, 1), (1, 1), (2, 1), (3, 1), (4, 1), (5, 1)] : List (Nat × Nat))[i]? := by kernel_rfl
@[simp] theorem tyf_56_0 : tField Tryz.prog 56 0 = some (0, 1, false) := by kernel_rfl
@[simp] theorem tyf_56_1 : tField Tryz.prog 56 1 = some (1, 1, false) := by kernel_rfl
@[simp] theorem tyf_56_2 : tField Tryz.prog 56 2 = some (2, 1, false) := by kernel_rfl
@[simp] theorem tyf_56_3 : tField Tryz.prog 56 3 = some (3, 1, false) := by kernel_rfl
@[simp] theorem tyf_56_4 : tField Tryz.prog 56 4 = some (4, 1, false) := by kernel_rfl
@[simp] theorem tyf_56_5 : tField Tryz.prog 56 5 = some (5, 1, false) := by kernel_rfl
@[simp] theorem ty1_57 : tOne Tryz.prog 57 = some (true, 6) := by kernel_rfl
@[simp] theorem tyz_57 : tZero Tryz.prog 57 = some [.c (.str ⟨#[]⟩), .c (.int .i64 0), .c (.int .i64 0), .c (.int .i64 0), .c (.int .i64 0), .c (.int .i64 0)] := by kernel_rfl
@[simp] theorem typ_57 : tPlaces Tryz.prog 57 = some fun i => ([(0, 1), (1, 1), (2, 1), (3, 1), (4, 1), (5, 1)] : List (Nat × Nat))[i]? := by kernel_rfl
@[simp] theorem tyf_57_0 : tField Tryz.prog 57 0 = some (0, 1, false) := by kernel_rfl
@[simp] theorem tyf_57_1 : tField Tryz.prog 57 1 = some (1, 1, false) := by kernel_rfl
@[simp] theorem tyf_57_2 : tField Tryz.prog 57 2 = some (2, 1, false) := by kernel_rfl
@[simp] theorem tyf_57_3 : tField Tryz.prog 57 3 = some (3, 1, false) := by kernel_rfl
@[simp] theorem tyf_57_4 : tField Tryz.prog 57 4 = some (4, 1, false) := by kernel_rfl
@[simp] theorem tyf_57_5 : tField Tryz.prog 57 5 = some (5, 1, false) := by kernel_rfl
@[simp] theorem ty1_58 : tOne Tryz.prog 58 = some (false, 1) := by kernel_rfl
@[simp] theorem tyz_58 : tZero Tryz.prog 58 = some [.full []] := by kernel_rfl
@[simp] theorem tyl_58 : tSl Tryz.prog 58 = true := by kernel_rfl
@[simp] theorem tye_58 : tElem Tryz.prog 58 = some (9, 1, 16) := by kernel_rfl
@[simp] theorem ty1_59 : tOne Tryz.prog 59 = some (false, 1) := by kernel_rfl
@[simp] theorem tyz_59 : tZero Tryz.prog 59 = some [.full []] := by kernel_rfl
@[simp] theorem tyl_59 : tSl Tryz.prog 59 = true := by kernel_rfl
@[simp] theorem tye_59 : tElem Tryz.prog 59 = some (92, 2, 24) := by kernel_rfl
@[simp] theorem ty1_60 : tOne Tryz.prog 60 = some (true, 4) := by kernel_rfl
@[simp] theorem tyz_60 : tZero Tryz.prog 60 = some [.c (.str ⟨#[]⟩), .full [], .full [], .c (.int .i64 0)] := by kernel_rfl
@[simp] theorem typ_60 : tPlaces Tryz.prog 60 = some fun i => ([(0, 1), (1, 1), (2, 1), (3, 1)] : List (Nat × Nat))[i]? := by kernel_rfl
@[simp] theorem tyf_60_0 : tField Tryz.prog 60 0 = some (0, 1, false) := by kernel_rfl
@[simp] theorem tyf_60_1 : tField Tryz.prog 60 1 = some (1, 1, false) := by kernel_rfl
@[simp] theorem tyf_60_2 : tField Tryz.prog 60 2 = some (2, 1, false) := by kernel_rfl
@[simp] theorem tyf_60_3 : tField Tryz.prog 60 3 = some (3, 1, false) := by kernel_rfl
@[simp] theorem ty1_61 : tOne Tryz.prog 61 = some (true, 4) := by kernel_rfl
@[simp] theorem tyz_61 : tZero Tryz.prog 61 = some [.c (.str ⟨#[]⟩), .full [], .full [], .c (.int .i64 0)] := by kernel_rfl
@[simp] theorem typ_61 : tPlaces Tryz.prog 61 = some fun i => ([(0, 1), (1, 1), (2, 1), (3, 1)] : List (Nat × Nat))[i]? := by kernel_rfl
@[simp] theorem tyf_61_0 : tField Tryz.prog 61 0 = some (0, 1, false) := by kernel_rfl
@[simp] theorem tyf_61_1 : tField Tryz.prog 61 1 = some (1, 1, false) := by kernel_rfl
@[simp] theorem tyf_61_2 : tField Tryz.prog 61 2 = some (2, 1, false) := by kernel_rfl
@[simp] theorem tyf_61_3 : tField Tryz.prog 61 3 = some (3, 1, false) := by kernel_rfl
@[simp] theorem ty1_62 : tOne Tryz.prog 62 = some (false, 1) := by kernel_rfl
@[simp] theorem tyz_62 : tZero Tryz.prog 62 = some [.any] := by kernel_rfl
@[simp] theorem ty1_63 : tOne Tryz.prog 63 = some (false, 1) := by kernel_rfl
@[simp] theorem tyz_63 : tZero Tryz.prog 63 = some [.any] := by kernel_rfl
@[simp] theorem ty1_64 : tOne Tryz.prog 64 = some (false, 1) := by kernel_rfl
@[simp] theorem tyz_64 : tZero Tryz.prog 64 = some [.any] := by kernel_rfl
@[simp] theorem ty1_65 : tOne Tryz.prog 65 = some (false, 1) := by kernel_rfl
@[simp] theorem tyz_65 : tZero Tryz.prog 65 = some [.any] := by kernel_rfl
@[simp] theorem ty1_66 : tOne Tryz.prog 66 = some (false, 1) := by kernel_rfl
@[simp] theorem tyz_66 : tZero Tryz.prog 66 = some [.c .nilp] := by kernel_rfl
@[simp] theorem ty1_67 : tOne Tryz.prog 67 = some (false, 1) := by kernel_rfl
@[simp] theorem tyz_67 : tZero Tryz.prog 67 = some [.any] := by kernel_rfl
@[simp] theorem ty1_69 : tOne Tryz.prog 69 = some (false, 1) := by kernel_rfl
@[simp] theorem tyz_69 : tZero Tryz.prog 69 = some [.any] := by kernel_rfl
@[simp] theorem ty1_70 : tOne Tryz.prog 70 = some (false, 1) := by kernel_rfl
@[simp] theorem tyz_70 : tZero Tryz.prog 70 = some [.any] := by kernel_rfl
@[simp] theorem ty1_71 : tOne Tryz.prog 71 = some (false, 1) := by kernel_rfl
@[simp] theorem tyz_71 : tZero Tryz.prog 71 = some [.any] := by kernel_rfl
@[simp] theorem ty1_72 : tOne Tryz.prog 72 = some (false, 1) := by kernel_rfl
@[simp] theorem tyz_72 : tZero Tryz.prog 72 = some [.c .nilp] := by kernel_rfl
@[simp] theorem ty1_73 : tOne Tryz.prog 73 = some (false, 1) := by kernel_rfl
@[simp] theorem tyz_73 : tZero Tryz.prog 73 = some [.c .nilp] := by kernel_rfl
@[simp] theorem ty1_74 : tOne Tryz.prog 74 = some (false, 1) := by kernel_rfl
@[simp] theorem tyz_74 : tZero Tryz.prog 74 = some [.any] := by kernel_rfl
@[simp] theorem ty1_75 : tOne Tryz.prog 75 = some (false, 1) := by kernel_rfl
@[simp] theorem tyz_75 : tZero Tryz.prog 75 = some [.any] := by kernel_rfl
@[simp] theorem ty1_76 : tOne Tryz.prog 76 = some (false, 1) := by kernel_rfl
@[simp] theorem tyz_76 : tZero Tryz.prog 76 = some [.any] := by kernel_rfl
@[simp] theorem ty1_77 : tOne Tryz.prog 77 = some (false, 1) := by kernel_rfl
@[simp] theorem tyz_77 : tZero Tryz.prog 77 = some [.any] := by kernel_rfl
@[simp] theorem ty1_78 : tOne Tryz.prog 78 = some (false, 1) := by kernel_rfl
@[simp] theorem tyz_78 : tZero Tryz.prog 78 = some [.any] := by kernel_rfl
@[simp] theorem ty1_79 : tOne Tryz.prog 79 = some (false, 1) := by kernel_rfl
@[simp] theorem tyz_79 : tZero Tryz.prog 79 = some [.any] := by kernel_rfl
@[simp] theorem ty1_80 : tOne Tryz.prog 80 = some (false, 1) := by kernel_rfl
@[simp] theorem tyz_80 : tZero Tryz.prog 80 = some [.any] := by kernel_rfl
@[simp] theorem ty1_81 : tOne Tryz.prog 81 = some (false, 1) := by kernel_rfl
@[simp] theorem tyz_81 : tZero Tryz.prog 81 = some [.any] := by kernel_rfl
@[simp] theorem ty1_82 : tOne Tryz.prog 82 = some (false, 1) := by kernel_rfl
@[simp] theorem tyz_82 : tZero Tryz.prog 82 = some [.any] := by kernel_rfl
@[simp] theorem ty1_83 : tOne Tryz.prog 83 = some (false, 1) := by kernel_rfl
@[simp] theorem tyz_83 : tZero Tryz.prog 83 = some [.any] := by kernel_rfl
@[simp] theorem ty1_84 : tOne Tryz.prog 84 = some (false, 1) := by kernel_rfl
@[simp] theorem tyz_84 : tZero Tryz.prog 84 = some [.any] := by kernel_rfl
@[simp] theorem ty1_85 : tOne Tryz.prog 85 = some (false, 1) := by kernel_rfl
@[simp] theorem tyz_85 : tZero Tryz.prog 85 = some [.any] := by kernel_rfl
@[simp] theorem ty1_86 : tOne Tryz.prog 86 = some (false, 1) := by kernel_rfl
@[simp] theorem tyz_86 : tZero Tryz.prog 86 = some [.any] := by kernel_rfl
@[simp] theorem ty1_87 : tOne Tryz.prog 87 = some (true, 2) := by kernel_rfl
@[simp] theorem tyz_87 : tZero Tryz.prog 87 = some [.c (.str ⟨#[]⟩), .c (.int .i64 0)] := by kernel_rfl
@[simp] theorem typ_87 : tPlaces Tryz.prog 87 = some fun i => ([(0, 1), (1, 1)] : List (Nat × Nat))[i]? := by kernel_rfl
@[simp] theorem tyf_87_0 : tField Tryz.prog 87 0 = some (0, 1, false) := by kernel_rfl
@[simp] theorem tyf_87_1 : tField Tryz.prog 87 1 = some (1, 1, false) := by kernel_rfl
@[simp] theorem ty1_88 : tOne Tryz.prog 88 = some (true, 2) := by kernel_rfl
@[simp] theorem tyz_88 : tZero Tryz.prog 88 = some [.c (.str ⟨#[]⟩), .c (.int .i64 0)] := by kernel_rfl
@[simp] theorem typ_88 : tPlaces Tryz.prog 88 = some fun i => ([(0, 1), (1, 1)] : List (Nat × Nat))[i]? := by kernel_rfl
@[simp] theorem tyf_88_0 : tField Tryz.prog 88 0 = some (0, 1, false) := by kernel_rfl
@[simp] theorem tyf_88_1 : tField Tryz.prog 88 1 = some (1, 1, false) := by kernel_rfl
@[simp] theorem ty1_89 : tOne Tryz.prog 89 = some (false, 1) := by kernel_rfl
@[simp] theorem tyz_89 : tZero Tryz.prog 89 = some [.any] := by kernel_rfl
@[simp] theorem ty1_90 : tOne Tryz.prog 90 = some (false, 1) := by kernel_rfl
@[simp] theorem tyz_90 : tZero Tryz.prog 90 = some [.any] := by kernel_rfl
@[simp] theorem ty1_91 : tOne Tryz.prog 91 = some (true, 2) := by kernel_rfl
@[simp] theorem tyz_91 : tZero Tryz.prog 91 = some [.c (.str ⟨#[]⟩), .c (.bool false)] := by kernel_rfl
@[simp] theorem typ_91 : tPlaces Tryz.prog 91 = some fun i => ([(0, 1), (1, 1)] : List (Nat × Nat))[i]? := by kernel_rfl
@[simp] theorem tyf_91_0 : tField Tryz.prog 91 0 = some (0, 1, false) := by kernel_rfl
@[simp] theorem tyf_91_1 : tField Tryz.prog 91 1 = some (1, 1, false) := by kernel_rfl
@[simp] theorem ty1_92 : tOne Tryz.prog 92 = some (true, 2) := by kernel_rfl
@[simp] theorem tyz_92 : tZero Tryz.prog 92 = some [.c (.str ⟨#[]⟩), .c (.bool false)] := by kernel_rfl
@[simp] theorem typ_92 : tPlaces Tryz.prog 92 = some fun i => ([(0, 1), (1, 1)] : List (Nat × Nat))[i]? := by kernel_rfl
@[simp] theorem tyf_92_0 : tField Tryz.prog 92 0 = some (0, 1, false) := by kernel_rfl
@[simp] theorem tyf_92_1 : tField Tryz.prog 92 1 = some (1, 1, false) := by kernel_rfl
@[simp] theorem ty1_93 : tOne Tryz.prog 93 = some (false, 1) := by kernel_rfl
@[simp] theorem tyz_93 : tZero Tryz.prog 93 = some [.any] := by kernel_rfl
@[simp] theorem ty1_94 : tOne Tryz.prog 94 = some (false, 1) := by kernel_rfl
@[simp] theorem tyz_94 : tZero Tryz.prog 94 = some [.any] := by kernel_rfl
@[simp] theorem ty1_95 : tOne Tryz.prog 95 = some (false, 1) := by kernel_rfl
@[simp] theorem tyz_95 : tZero Tryz.prog 95 = some [.any] := by kernel_rfl
@[simp] theorem ty1_96 : tOne Tryz.prog 96 = some (false, 1) := by kernel_rfl
@[simp] theorem tyz_96 : tZero Tryz.prog 96 = some [.any] := by kernel_rfl
@[simp] theorem ty1_98 : tOne Tryz.prog 98 = some (false, 1) := by kernel_rfl
@[simp] theorem tyz_98 : tZero Tryz.prog 98 = some [.any] := by kernel_rfl
@[simp] theorem ty1_99 : tOne Tryz.prog 99 = some (false, 1) := by kernel_rfl
@[simp] theorem tyz_99 : tZero Tryz.prog 99 = some [.any] := by kernel_rfl
@[simp] theorem ty1_100 : tOne Tryz.prog 100 = some (true, 2) := by kernel_rfl
@[simp] theorem tyz_100 : tZero Tryz.prog 100 = some [.c (.str ⟨#[]⟩), .c (.int .i64 0)] := by kernel_rfl
@[simp] theorem typ_100 : tPlaces Tryz.prog 100 = some fun i => ([(0, 1), (1, 1)] : List (Nat × Nat))[i]? := by kernel_rfl
@[simp] theorem tyf_100_0 : tField Tryz.prog 100 0 = some (0, 1, false) := by kernel_rfl
@[simp] theorem tyf_100_1 : tField Tryz.prog 100 1 = some (1, 1, false) := by kernel_rfl
@[simp] theorem ty1_102 : tOne Tryz.prog 102 = some (false, 1) := by kernel_rfl
@[simp] theorem tyz_102 : tZero Tryz.prog 102 = some [.any] := by kernel_rfl
@[simp] theorem ty1_103 : tOne Tryz.prog 103 = some (false, 1) := by kernel_rfl
@[simp] theorem tyz_103 : tZero Tryz.prog 103 = some [.any] := by kernel_rfl
@[simp] theorem ty1_104 : tOne Tryz.prog 104 = some (false, 1) := by kernel_rfl
@[simp] theorem tyz_104 : tZero Tryz.prog 104 = some [.full []] := by kernel_rfl
@[simp] theorem tyl_104 : tSl Tryz.prog 104 = true := by kernel_rfl
@[simp] theorem tye_104 : tElem Tryz.prog 104 = some (72, 1, 8) := by kernel_rfl
@[simp] theorem ty1_105 : tOne Tryz.prog 105 = some (false, 1) := by kernel_rfl
@[simp] theorem tyz_105 : tZero Tryz.prog 105 = some [.any] := by kernel_rfl
@[simp] theorem ty1_106 : tOne Tryz.prog 106 = some (false, 1) := by kernel_rfl
@[simp] theorem tyz_106 : tZero Tryz.prog 106 = some [.any] := by kernel_rfl
@[simp] theorem ty1_108 : tOne Tryz.prog 108 = some (false, 1) := by kernel_rfl
@[simp] theorem tyz_108 : tZero Tryz.prog 108 = some [.any] := by kernel_rfl
@[simp] theorem ty1_109 : tOne Tryz.prog 109 = some (false, 1) := by kernel_rfl
@[simp] theorem tyz_109 : tZero Tryz.prog 109 = some [.any] := by kernel_rfl
@[simp] theorem ty1_110 : tOne Tryz.prog 110 = some (false, 1) := by kernel_rfl
@[simp] theorem tyz_110 : tZero Tryz.prog 110 = some [.any] := by kernel_rfl
@[simp] theorem ty1_111 : tOne Tryz.prog 111 = some (false, 1) := by kernel_rfl
@[simp] theorem tyz_111 : tZero Tryz.prog 111 = some [.any] := by kernel_rfl
@[simp] theorem ty1_112 : tOne Tryz.prog 112 = some (true, 5) := by kernel_rfl
@[simp] theorem tyz_112 : tZero Tryz.prog 112 = some [.c (.int .i64 0), .c (.int .i64 0), .c (.int .i64 0), .c (.int .i64 0), .c (.int .i64 0)] := by kernel_rfl
@[simp] theorem typ_112 : tPlaces Tryz.prog 112 = some fun i => some (i * 1, 1) := by kernel_rfl
@[simp] theorem tya_112 : tArr Tryz.prog 112 = some (5, 1, false) := by kernel_rfl
@[simp] theorem ty1_113 : tOne Tryz.prog 113 = some (false, 1) := by kernel_rfl
@[simp] theorem tyz_113 : tZero Tryz.prog 113 = some [.any] := by kernel_rfl
@[simp] theorem ty1_114 : tOne Tryz.prog 114 = some (false, 1) := by kernel_rfl
@[simp] theorem tyz_114 : tZero Tryz.prog 114 = some [.any] := by kernel_rfl
@[simp] theorem ty1_115 : tOne Tryz.prog 115 = some (false, 1) := by kernel_rfl
@[simp] theorem tyz_115 : tZero Tryz.prog 115 = some [.c (.int .u64 0)] := by kernel_rfl
@[simp] theorem tyi_115 : tInt Tryz.prog 115 = some .u64 := by kernel_rfl
@[simp] theorem ty1_116 : tOne Tryz.prog 116 = some (false, 1) := by kernel_rfl
@[simp] theorem tyz_116 : tZero Tryz.prog 116 = some [.any] := by kernel_rfl
@[simp] theorem ty1_117 : tOne Tryz.prog 117 = some (false, 1) := by kernel_rfl
@[simp] theorem tyz_117 : tZero Tryz.prog 117 = some [.any] := by kernel_rfl
@[simp] theorem ty1_118 : tOne Tryz.prog 118 = some (false, 1) := by kernel_rfl
@[simp] theorem tyz_118 : tZero Tryz.prog 118 = some [.any] := by kernel_rfl
end Go.Proofs.YthbcljjpmdfflaaGreat
