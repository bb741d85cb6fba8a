/- Facts on the table of types of this seat's program, printed by a program (gentypes.py); each is reckoned by the kernel. -/
import Derived.Test.YtnpenchciinmmaaGreatG3
import Derived.Test.YtnpenchciinmmaaGreatProg
import Derived.KernelRfl
namespace Go.Proofs.YtnpenchciinmmaaGreat
@[simp] theorem ty1_1 : tOne Tryz.prog 1 = some (false, 1) := by kernel_rfl
@[simp] theorem tyz_1 : tZero Tryz.prog 1 = some [.c .nilf] := by kernel_rfl
@[simp] theorem ty1_2 : tOne Tryz.prog 2 = some (false, 1) := by kernel_rfl
@[simp] theorem tyz_2 : tZero Tryz.prog 2 = some [.c (.int .i64 0)] := by kernel_rfl
@[simp] theorem tyi_2 : tInt Tryz.prog 2 = some .i64 := by kernel_rfl
@[simp] theorem ty1_3 : tOne Tryz.prog 3 = some (false, 1) := by kernel_rfl
@[simp] theorem tyz_3 : tZero Tryz.prog 3 = some [.c (.int .i64 0)] := by kernel_rfl
@[simp] theorem tyi_3 : tInt Tryz.prog 3 = some .i64 := by kernel_rfl
@[simp] theorem ty1_4 : tOne Tryz.prog 4 = some (false, 1) := by kernel_rfl
@[simp] theorem tyz_4 : tZero Tryz.prog 4 = some [.c (.bool false)] := by kernel_rfl
@[simp] theorem tyb_4 : tBool Tryz.prog 4 = true := by kernel_rfl
@[simp] theorem ty1_5 : tOne Tryz.prog 5 = some (false, 1) := by kernel_rfl
@[simp] theorem tyz_5 : tZero Tryz.prog 5 = some [.c (.int .u8 0)] := by kernel_rfl
@[simp] theorem tyi_5 : tInt Tryz.prog 5 = some .u8 := by kernel_rfl
@[simp] theorem ty1_6 : tOne Tryz.prog 6 = some (false, 1) := by kernel_rfl
@[simp] theorem tyz_6 : tZero Tryz.prog 6 = some [.c (.int .u8 0)] := by kernel_rfl
@[simp] theorem tyi_6 : tInt Tryz.prog 6 = some .u8 := by kernel_rfl
@[simp] theorem ty1_7 : tOne Tryz.prog 7 = some (true, 4) := by kernel_rfl
@[simp] theorem tyz_7 : tZero Tryz.prog 7 = some [.c (.int .i64 0), .c (.int .i64 0), .c (.bool false), .c (.int .u8 0)] := by kernel_rfl
@[simp] theorem typ_7 : tPlaces Tryz.prog 7 = some fun i => ([(0, 1), (1, 1), (2, 1), (3, 1)] : List (Nat × Nat))[i]? := by kernel_rfl
@[simp] theorem tyf_7_0 : tField Tryz.prog 7 0 = some (0, 1, false) := by kernel_rfl
@[simp] theorem tyf_7_1 : tField Tryz.prog 7 1 = some (1, 1, false) := by kernel_rfl
@[simp] theorem tyf_7_2 : tField Tryz.prog 7 2 = some (2, 1, false) := by kernel_rfl
@[simp] theorem tyf_7_3 : tField Tryz.prog 7 3 = some (3, 1, false) := by kernel_rfl
@[simp] theorem ty1_8 : tOne Tryz.prog 8 = some (true, 4) := by kernel_rfl
@[simp] theorem tyz_8 : tZero Tryz.prog 8 = some [.c (.int .i64 0), .c (.int .i64 0), .c (.bool false), .c (.int .u8 0)] := by kernel_rfl
@[simp] theorem typ_8 : tPlaces Tryz.prog 8 = some fun i => ([(0, 1), (1, 1), (2, 1), (3, 1)] : List (Nat × Nat))[i]? := by kernel_rfl
@[simp] theorem tyf_8_0 : tField Tryz.prog 8 0 = some (0, 1, false) := by kernel_rfl
@[simp] theorem tyf_8_1 : tField Tryz.prog 8 1 = some (1, 1, false) := by kernel_rfl
@[simp] theorem tyf_8_2 : tField Tryz.prog 8 2 = some (2, 1, false) := by kernel_rfl
@[simp] theorem tyf_8_3 : tField Tryz.prog 8 3 = some (3, 1, false) := by kernel_rfl
@[simp] theorem ty1_9 : tOne Tryz.prog 9 = some (false, 1) := by kernel_rfl
@[simp] theorem tyz_9 : tZero Tryz.prog 9 = some [.c (.str ⟨#[]⟩)] := by kernel_rfl
@[simp] theorem tys_9 : tStr Tryz.prog 9 = true := by kernel_rfl
@[simp] theorem ty1_10 : tOne Tryz.prog 10 = some (false, 1) := by kernel_rfl
@[simp] theorem tyz_10 : tZero Tryz.prog 10 = some [.c (.str ⟨#[]⟩)] := by kernel_rfl
@[simp] theorem tys_10 : tStr Tryz.prog 10 = true := by kernel_rfl
@[simp] theorem ty1_11 : tOne Tryz.prog 11 = some (false, 1) := by kernel_rfl
@[simp] theorem tyz_11 : tZero Tryz.prog 11 = some [.c (.str ⟨#[]⟩)] := by kernel_rfl
@[simp] theorem tys_11 : tStr Tryz.prog 11 = true := by kernel_rfl
@[simp] theorem ty1_12 : tOne Tryz.prog 12 = some (false, 1) := by kernel_rfl
@[simp] theorem tyz_12 : tZero Tryz.prog 12 = some [.c (.int .u64 0)] := by kernel_rfl
@[simp] theorem tyi_12 : tInt Tryz.prog 12 = some .u64 := by kernel_rfl
@[simp] theorem ty1_13 : tOne Tryz.prog 13 = some (true, 2) := by kernel_rfl
@[simp] theorem tyz_13 : tZero Tryz.prog 13 = some [.c (.str ⟨#[]⟩), .c (.int .u64 0)] := by kernel_rfl
@[simp] theorem typ_13 : tPlaces Tryz.prog 13 = some fun i => ([(0, 1), (1, 1)] : List (Nat × Nat))[i]? := by kernel_rfl
@[simp] theorem tyf_13_0 : tField Tryz.prog 13 0 = some (0, 1, false) := by kernel_rfl
@[simp] theorem tyf_13_1 : tField Tryz.prog 13 1 = some (1, 1, false) := by kernel_rfl
@[simp] theorem ty1_14 : tOne Tryz.prog 14 = some (true, 2) := by kernel_rfl
@[simp] theorem tyz_14 : tZero Tryz.prog 14 = some [.c (.str ⟨#[]⟩), .c (.int .u64 0)] := by kernel_rfl
@[simp] theorem typ_14 : tPlaces Tryz.prog 14 = some fun i => ([(0, 1), (1, 1)] : List (Nat × Nat))[i]? := by kernel_rfl
@[simp] theorem tyf_14_0 : tField Tryz.prog 14 0 = some (0, 1, false) := by kernel_rfl
@[simp] theorem tyf_14_1 : tField Tryz.prog 14 1 = some (1, 1, false) := by kernel_rfl
@[simp] theorem ty1_15 : tOne Tryz.prog 15 = some (false, 1) := by kernel_rfl
@[simp] theorem tyz_15 : tZero Tryz.prog 15 = some [.c .nilp] := by kernel_rfl
@[simp] theorem ty1_16 : tOne Tryz.prog 16 = some (false, 1) := by kernel_rfl
@[simp] theorem tyz_16 : tZero Tryz.prog 16 = some [.c .nilp] := by kernel_rfl
@[simp] theorem ty1_17 : tOne Tryz.prog 17 = some (false, 1) := by kernel_rfl
@[simp] theorem tyz_17 : tZero Tryz.prog 17 = some [.c .nilp] := by kernel_rfl
@[simp] theorem ty1_18 : tOne Tryz.prog 18 = some (true, 1) := by kernel_rfl
@[simp] theorem tyz_18 : tZero Tryz.prog 18 = some [.c .nilp] := by kernel_rfl
@[simp] theorem typ_18 : tPlaces Tryz.prog 18 = some fun i => ([(0, 1)] : List (Nat × Nat))[i]? := by kernel_rfl
@[simp] theorem tyf_18_0 : tField Tryz.prog 18 0 = some (0, 1, false) := by kernel_rfl
@[simp] theorem ty1_19 : tOne Tryz.prog 19 = some (true, 1) := by kernel_rfl
@[simp] theorem tyz_19 : tZero Tryz.prog 19 = some [.c .nilp] := by kernel_rfl
@[simp] theorem typ_19 : tPlaces Tryz.prog 19 = some fun i => ([(0, 1)] : List (Nat × Nat))[i]? := by kernel_rfl
@[simp] theorem tyf_19_0 : tField Tryz.prog 19 0 = some (0, 1, false) := by kernel_rfl
@[simp] theorem ty1_20 : tOne Tryz.prog 20 = some (false, 1) := by kernel_rfl
@[simp] theorem tyz_20 : tZero Tryz.prog 20 = some [.any] := by kernel_rfl
@[simp] theorem ty1_21 : tOne Tryz.prog 21 = some (false, 1) := by kernel_rfl
@[simp] theorem tyz_21 : tZero Tryz.prog 21 = some [.c (.int .i32 0)] := by kernel_rfl
@[simp] theorem tyi_21 : tInt Tryz.prog 21 = some .i32 := by kernel_rfl
@[simp] theorem ty1_22 : tOne Tryz.prog 22 = some (false, 1) := by kernel_rfl
@[simp] theorem tyz_22 : tZero Tryz.prog 22 = some [.full []] := by kernel_rfl
@[simp] theorem tyl_22 : tSl Tryz.prog 22 = true := by kernel_rfl
@[simp] theorem tye_22 : tElem Tryz.prog 22 = some (3, 1, 8) := by kernel_rfl
@[simp] theorem ty1_23 : tOne Tryz.prog 23 = some (false, 1) := by kernel_rfl
@[simp] theorem tyz_23 : tZero Tryz.prog 23 = some [.full []] := by kernel_rfl
@[simp] theorem tyl_23 : tSl Tryz.prog 23 = true := by kernel_rfl
@[simp] theorem tye_23 : tElem Tryz.prog 23 = some (40, 4, 56) := by kernel_rfl
@[simp] theorem ty1_24 : tOne Tryz.prog 24 = some (true, 8) := by kernel_rfl
@[simp] theorem tyz_24 : tZero Tryz.prog 24 = some [.c (.int .i64 0), .full [], .c (.int .i64 0), .c (.int .i64 0), .full [], .c (.int .i64 0), .c (.str ⟨#[]⟩), .c (.str ⟨#[]⟩)] := by kernel_rfl
@[simp] theorem typ_24 : tPlaces Tryz.prog 24 = some fun i => ([(0, 1), (1, 1), (2, 1), (3, 1), (4, 1), (5, 1), (6, 1), (7, 1)] : List (Nat × Nat))[i]? := by kernel_rfl
@[simp] theorem tyf_24_0 : tField Tryz.prog 24 0 = some (0, 1, false) := by kernel_rfl
@[simp] theorem tyf_24_1 : tField Tryz.prog 24 1 = some (1, 1, false) := by kernel_rfl
@[simp] theorem tyf_24_2 : tField Tryz.prog 24 2 = some (2, 1, false) := by kernel_rfl
@[simp] theorem tyf_24_3 : tField Tryz.prog 24 3 = some (3, 1, false) := by kernel_rfl
@[simp] theorem tyf_24_4 : tField Tryz.prog 24 4 = some (4, 1, false) := by kernel_rfl
@[simp] theorem tyf_24_5 : tField Tryz.prog 24 5 = some (5, 1, false) := by kernel_rfl
@[simp] theorem tyf_24_6 : tField Tryz.prog 24 6 = some (6, 1, false) := by kernel_rfl
@[simp] theorem tyf_24_7 : tField Tryz.prog 24 7 = some (7, 1, false) := by kernel_rfl
@[simp] theorem ty1_25 : tOne Tryz.prog 25 = some (true, 8) := by kernel_rfl
@[simp] theorem tyz_25 : tZero Tryz.prog 25 = some [.c (.int .i64 0), .full [], .c (.int .i64 0), .c (.int .i64 0), .full [], .c (.int .i64 0), .c (.str ⟨#[]⟩), .c (.str ⟨#[]⟩)] := by kernel_rfl
@[simp] theorem typ_25 : tPlaces Tryz.prog 25 = some fun i => ([(0, 1), (1, 1), (2, 1), (3, 1), (4, 1), (5, 1), (6, 1), (7, 1)] : List (Nat × Nat))[i]? := by kernel_rfl
@[simp] theorem tyf_25_0 : tField Tryz.prog 25 0 = some (0, 1, false) := by kernel_rfl
@[simp] theorem tyf_25_1 : tField Tryz.prog 25 1 = some (1, 1, false) := by kernel_rfl
@[simp] theorem tyf_25_2 : tField Tryz.prog 25 2 = some (2, 1, false) := by kernel_rfl
@[simp] theorem tyf_25_3 : tField Tryz.prog 25 3 = some (3, 1, false) := by kernel_rfl
@[simp] theorem tyf_25_4 : tField Tryz.prog 25 4 = some (4, 1, false) := by kernel_rfl
@[simp] theorem tyf_25_5 : tField Tryz.prog 25 5 = some (5, 1, false) := by kernel_rfl
@[simp] theorem tyf_25_6 : tField Tryz.prog 25 6 = some (6, 1, false) := by kernel_rfl
@[simp] theorem tyf_25_7 : tField Tryz.prog 25 7 = some (7, 1, false) := by kernel_rfl
@[simp] theorem ty1_26 : tOne Tryz.prog 26 = some (false, 1) := by kernel_rfl
@[simp] theorem tyz_26 : tZero Tryz.prog 26 = some [.c .nilf] := by kernel_rfl
@[simp] theorem ty1_27 : tOne Tryz.prog 27 = some (false, 1) := by kernel_rfl
@[simp] theorem tyz_27 : tZero Tryz.prog 27 = some [.c .nilf] := by kernel_rfl
@[simp] theorem ty1_28 : tOne Tryz.prog 28 = some (false, 1) := by kernel_rfl
@[simp] theorem tyz_28 : tZero Tryz.prog 28 = some [.c .nilp] := by kernel_rfl
@[simp] theorem ty1_29 : tOne Tryz.prog 29 = some (false, 1) := by kernel_rfl
@[simp] theorem tyz_29 : tZero Tryz.prog 29 = some [.c (.int .i64 0)] := by kernel_rfl
@[simp] theorem tyi_29 : tInt Tryz.prog 29 = some .i64 := by kernel_rfl
@[simp] theorem ty1_30 : tOne Tryz.prog 30 = some (false, 1) := by kernel_rfl
@[simp] theorem tyz_30 : tZero Tryz.prog 30 = some [.c .nilf] := by kernel_rfl
@[simp] theorem ty1_31 : tOne Tryz.prog 31 = some (false, 1) := by kernel_rfl
@[simp] theorem tyz_31 : tZero Tryz.prog 31 = some [.c .nilf] := by kernel_rfl
@[simp] theorem ty1_32 : tOne Tryz.prog 32 = some (false, 1) := by kernel_rfl
@[simp] theorem tyz_32 : tZero Tryz.prog 32 = some [.c .nilf] := by kernel_rfl
@[simp] theorem ty1_33 : tOne Tryz.prog 33 = some (false, 1) := by kernel_rfl
@[simp] theorem tyz_33 : tZero Tryz.prog 33 = some [.c .nilf] := by kernel_rfl
@[simp] theorem ty1_34 : tOne Tryz.prog 34 = some (false, 1) := by kernel_rfl
@[simp] theorem tyz_34 : tZero Tryz.prog 34 = some [.full []] := by kernel_rfl
@[simp] theorem tyl_34 : tSl Tryz.prog 34 = true := by kernel_rfl
@[simp] theorem tye_34 : tElem Tryz.prog 34 = some (36, 11, 128) := by kernel_rfl
@[simp] theorem ty1_35 : tOne Tryz.prog 35 = some (true, 11) := by kernel_rfl
@[simp] theorem tyz_35 : tZero Tryz.prog 35 = some [.c (.int .i64 0), .c (.str ⟨#[]⟩), .c (.int .i64 0), .c (.int .i64 0), .c (.int .i64 0), .c (.int .i64 0), .c (.int .i64 0), .c (.int .i64 0), .full [], .c (.int .i64 0), .full []] := by kernel_rfl
@[simp] theorem typ_35 : tPlaces Tryz.prog 35 = some fun i => ([(0, 1), (1, 1), (2, 1), (3, 1), (4, 1), (5, 1), (6, 1), (7, 1), (8, 1), (9, 1), (10, 1)] : List (Nat × Nat))[i]? := by kernel_rfl
@[simp] theorem tyf_35_0 : tField Tryz.prog 35 0 = some (0, 1, false) := by kernel_rfl
@[simp] theorem tyf_35_1 : tField Tryz.prog 35 1 = some (1, 1, false) := by kernel_rfl
@[simp] theorem tyf_35_2 : tField Tryz.prog 35 2 = some (2, 1, false) := by kernel_rfl
@[simp] theorem tyf_35_3 : tField Tryz.prog 35 3 = some (3, 1, false) := by kernel_rfl
@[simp] theorem tyf_35_4 : tField Tryz.prog 35 4 = some (4, 1, false) := by kernel_rfl
@[simp] theorem tyf_35_5 : tField Tryz.prog 35 5 = some (5, 1, false) := by kernel_rfl
@[simp] theorem tyf_35_6 : tField Tryz.prog 35 6 = some (6, 1, false) := by kernel_rfl
@[simp] theorem tyf_35_7 : tField Tryz.prog 35 7 = some (7, 1, false) := by kernel_rfl
@[simp] theorem tyf_35_8 : tField Tryz.prog 35 8 = some (8, 1, false) := by kernel_rfl
@[simp] theorem tyf_35_9 : tField Tryz.prog 35 9 = some (9, 1, false) := by kernel_rfl
@[simp] theorem tyf_35_10 : tField Tryz.prog 35 10 = some (10, 1, false) := by kernel_rfl
@[simp] theorem ty1_36 : tOne Tryz.prog 36 = some (true, 11) := by kernel_rfl
@[simp] theorem tyz_36 : tZero Tryz.prog 36 = some [.c (.int .i64 0), .c (.str ⟨#[]⟩), .c (.int .i64 0), .c (.int .i64 0), .c (.int .i64 0), .c (.int .i64 0), .c (.int .i64 0), .c (.int .i64 0), .full [], .c (.int .i64 0), .full []] := by kernel_rfl
@[simp] theorem typ_36 : tPlaces Tryz.prog 36 = some fun i => ([(0, 1), (1, 1), (2, 1), (3, 1), (4, 1), (5, 1), (6, 1), (7, 1), (8, 1), (9, 1), (10, 1)] : List (Nat × Nat))[i]? := by kernel_rfl
@[simp] theorem tyf_36_0 : tField Tryz.prog 36 0 = some (0, 1, false) := by kernel_rfl
@[simp] theorem tyf_36_1 : tField Tryz.prog 36 1 = some (1, 1, false) := by kernel_rfl
@[simp] theorem tyf_36_2 : tField Tryz.prog 36 2 = some (2, 1, false) := by kernel_rfl
@[simp] theorem tyf_36_3 : tField Tryz.prog 36 3 = some (3, 1, false) := by kernel_rfl
@[simp] theorem tyf_36_4 : tField Tryz.prog 36 4 = some (4, 1, false) := by kernel_rfl
@[simp] theorem tyf_36_5 : tField Tryz.prog 36 5 = some (5, 1, false) := by kernel_rfl
@[simp] theorem tyf_36_6 : tField Tryz.prog 36 6 = some (6, 1, false) := by kernel_rfl
@[simp] theorem tyf_36_7 : tField Tryz.prog 36 7 = some (7, 1, false) := by kernel_rfl
@[simp] theorem tyf_36_8 : tField Tryz.prog 36 8 = some (8, 1, false) := by kernel_rfl
@[simp] theorem tyf_36_9 : tField Tryz.prog 36 9 = some (9, 1, false) := by kernel_rfl
@[simp] theorem tyf_36_10 : tField Tryz.prog 36 10 = some (10, 1, false) := by kernel_rfl
@[simp] theorem ty1_37 : tOne Tryz.prog 37 = some (false, 1) := by kernel_rfl
@[simp] theorem tyz_37 : tZero Tryz.prog 37 = some [.c .nilf] := by kernel_rfl
@[simp] theorem ty1_38 : tOne Tryz.prog 38 = some (false, 1) := by kernel_rfl
@[simp] theorem tyz_38 : tZero Tryz.prog 38 = some [.c .nilf] := by kernel_rfl
@[simp] theorem ty1_39 : tOne Tryz.prog 39 = some (true, 4) := by kernel_rfl
@[simp] theorem tyz_39 : tZero Tryz.prog 39 = some [.c (.int .i64 0), .c (.str ⟨#[]⟩), .c (.int .i64 0), .full []] := by kernel_rfl
@[simp] theorem typ_39 : tPlaces Tryz.prog 39 = some fun i => ([(0, 1), (1, 1), (2, 1), (3, 1)] : List (Nat × Nat))[i]? := by kernel_rfl
@[simp] theorem tyf_39_0 : tField Tryz.prog 39 0 = some (0, 1, false) := by kernel_rfl
@[simp] theorem tyf_39_1 : tField Tryz.prog 39 1 = some (1, 1, false) := by kernel_rfl
@[simp] theorem tyf_39_2 : tField Tryz.prog 39 2 = some (2, 1, false) := by kernel_rfl
@[simp] theorem tyf_39_3 : tField Tryz.prog 39 3 = some (3, 1, false) := by kernel_rfl
@[simp] theorem ty1_40 : tOne Tryz.prog 40 = some (true, 4) := by kernel_rfl
@[simp] theorem tyz_40 : tZero Tryz.prog 40 = some [.c (.int .i64 0), .c (.str ⟨#[]⟩), .c (.int .i64 0), .full []] := by kernel_rfl
@[simp] theorem typ_40 : tPlaces Tryz.prog 40 = some fun i => ([(0, 1), (1, 1), (2, 1), (3, 1)] : List (Nat × Nat))[i]? := by kernel_rfl
@[simp] theorem tyf_40_0 : tField Tryz.prog 40 0 = some (0, 1, false) := by kernel_rfl
@[simp] theorem tyf_40_1 : tField Tryz.prog 40 1 = some (1, 1, false) := by kernel_rfl
@[simp] theorem tyf_40_2 : tField Tryz.prog 40 2 = some (2, 1, false) := by kernel_rfl
@[simp] theorem tyf_40_3 : tField Tryz.prog 40 3 = some (3, 1, false) := by kernel_rfl
@[simp] theorem ty1_41 : tOne Tryz.prog 41 = some (false, 1) := by kernel_rfl
@[simp] theorem tyz_41 : tZero Tryz.prog 41 = some [.c .nilf] := by kernel_rfl
@[simp] theorem ty1_42 : tOne Tryz.prog 42 = some (true, 6) := by kernel_rfl
@[simp] theorem tyz_42 : tZero Tryz.prog 42 = some [.c (.str ⟨#[]⟩), .c (.int .i64 0), .c (.int .i64 0), .c (.int .i64 0), .c (.int .i64 0), .c (.int .i64 0)] := by kernel_rfl
@[simp] theorem typ_42 : tPlaces Tryz.prog 42 = some fun i => ([(0, 1), (1, 1), (2, 1), (3, 1), (4, 1), (5, 1)] : List (Nat × Nat))[i]? := by kernel_rfl
@[simp] theorem tyf_42_0 : tField Tryz.prog 42 0 = some (0, 1, false) := by kernel_rfl
@[simp] theorem tyf_42_1 : tField Tryz.prog 42 1 = some (1, 1, false) := by kernel_rfl
@[simp] theorem tyf_42_2 : tField Tryz.prog 42 2 = some (2, 1, false) := by kernel_rfl
@[simp] theorem tyf_42_3 : tField Tryz.prog 42 3 = some (3, 1, false) := by kernel_rfl
@[simp] theorem tyf_42_4 : tField Tryz.prog 42 4 = some (4, 1, false) := by kernel_rfl
@[simp] theorem tyf_42_5 : tField Tryz.prog 42 5 = some (5, 1, false) := by kernel_rfl
@[simp] theorem ty1_43 : tOne Tryz.prog 43 = some (true, 6) := by kernel_rfl
@[simp] theorem tyz_43 : tZero Tryz.prog 43 = some [.c (.str ⟨#[]⟩), .c (.int .i64 0), .c (.int .i64 0), .c (.int .i64 0), .c (.int .i64 0), .c (.int .i64 0)] := by kernel_rfl
@[simp] theorem typ_43 : tPlaces Tryz.prog 43 = some fun i => ([(0, 1), (1, 1), (2, 1), (3, 1), (4, 1), (5, 1)] : List (Nat × Nat))[i]? := by kernel_rfl
@[simp] theorem tyf_43_0 : tField Tryz.prog 43 0 = some (0, 1, false) := by kernel_rfl
@[simp] theorem tyf_43_1 : tField Tryz.prog 43 1 = some (1, 1, false) := by kernel_rfl
@[simp] theorem tyf_43_2 : tField Tryz.prog 43 2 = some (2, 1, false) := by kernel_rfl
@[simp] theorem tyf_43_3 : tField Tryz.prog 43 3 = some (3, 1, false) := by kernel_rfl
@[simp] theorem tyf_43_4 : tField Tryz.prog 43 4 = some (4, 1, false) := by kernel_rfl
@[simp] theorem tyf_43_5 : tField Tryz.prog 43 5 = some (5, 1, false) := by kernel_rfl
@[simp] theorem ty1_44 : tOne Tryz.prog 44 = some (false, 1) := by kernel_rfl
@[simp] theorem tyz_44 : tZero Tryz.prog 44 = some [.full []] := by kernel_rfl
@[simp] theorem tyl_44 : tSl Tryz.prog 44 = true := by kernel_rfl
@[simp] theorem tye_44 : tElem Tryz.prog 44 = some (43, 6, 56) := by kernel_rfl
@[simp] theorem ty1_45 : tOne Tryz.prog 45 = some (true, 20) := by kernel_rfl
@[simp] theorem tyz_45 : tZero Tryz.prog 45 = some [.c (.int .i64 0), .c (.int .i64 0), .c (.int .i64 0), .c (.int .i64 0), .c (.int .i64 0), .c (.int .i64 0), .c (.int .i64 0), .c (.int .i64 0), .c (.int .i64 0), .c (.int .i64 0), .c (.int .i64 0), .c (.int .i64 0), .c (.int .i64 0), .c (.int .i64 0), .c (.int .i64 0), .c (.int .i64 0), .c (.int .i64 0), .c (.int .i64 0), .c (.int .i64 0), .c (.int .i64 0)] := by kernel_rfl
@[simp] theorem typ_45 : tPlaces Tryz.prog 45 = some fun i => ([(0, 1), (1, 1), (2, 1), (3, 1), (4, 1), (5, 1), (6, 1), (7, 1), (8, 1), (9, 1), (10, 1), (11, 1), (12, 1), (13, 1), (14, 1), (15, 1), (16, 1), (17, 1), (18, 1), (19, 1)] : List (Nat × Nat))[i]? := by kernel_rfl
@[simp] theorem tyf_45_0 : tField Tryz.prog 45 0 = some (0, 1, false) := by kernel_rfl
@[simp] theorem tyf_45_1 : tField Tryz.prog 45 1 = some (1, 1, false) := by kernel_rfl
@[simp] theorem tyf_45_2 : tField Tryz.prog 45 2 = some (2, 1, false) := by kernel_rfl
@[simp] theorem tyf_45_3 : tField Tryz.prog 45 3 = some (3, 1, false) := by kernel_rfl
@[simp] theorem tyf_45_4 : tField Tryz.prog 45 4 = some (4, 1, false) := by kernel_rfl
@[simp] theorem tyf_45_5 : tField Tryz.prog 45 5 = some (5, 1, false) := by kernel_rfl
@[simp] theorem tyf_45_6 : tField Tryz.prog 45 6 = some (6, 1, false) := by kernel_rfl
@[simp] theorem tyf_45_7 : tField Tryz.prog 45 7 = some (7, 1, false) := by kernel_rfl
@[simp] theorem tyf_45_8 : tField Tryz.prog 45 8 = some (8, 1, false) := by kernel_rfl
@[simp] theorem tyf_45_9 : tField Tryz.prog 45 9 = some (9, 1, false) := by kernel_rfl
@[simp] theorem tyf_45_10 : tField Tryz.prog 45 10 = some (10, 1, false) := by kernel_rfl
@[simp] theorem tyf_45_11 : tField Tryz.prog 45 11 = some (11, 1, false) := by kernel_rfl
@[simp] theorem tyf_45_12 : tField Tryz.prog 45 12 = some (12, 1, false) := by kernel_rfl
@[simp] theorem tyf_45_13 : tField Tryz.prog 45 13 = some (13, 1, false) := by kernel_rfl
@[simp] theorem tyf_45_14 : tField Tryz.prog 45 14 = some (14, 1, false) := by kernel_rfl
@[simp] theorem tyf_45_15 : tField Tryz.prog 45 15 = some (15, 1, false) := by kernel_rfl
@[simp] theorem tyf_45_16 : tField Tryz.prog 45 16 = some (16, 1, false) := by kernel_rfl
@[simp] theorem tyf_45_17 : tField Tryz.prog 45 17 = some (17, 1, false) := by kernel_rfl
@[simp] theorem tyf_45_18 : tField Tryz.prog 45 18 = some (18, 1, false) := by kernel_rfl
@[simp] theorem tyf_45_19 : tField Tryz.prog 45 19 = some (19, 1, false) := by kernel_rfl
@[simp] theorem ty1_46 : tOne Tryz.prog 46 = some (true, 20) := by kernel_rfl
@[simp] theorem tyz_46 : tZero Tryz.prog 46 = some [.c (.int .i64 0), .c (.int .i64 0), .c (.int .i64 0), .c (.int .i64 0), .c (.int .i64 0), .c (.int .i64 0), .c (.int .i64 0), .c (.int .i64 0), .c (.int .i64 0), .c (.int .i64 0), .c (.int .i64 0), .c (.int .i64 0), .c (.int .i64 0), .c (.int .i64 0), .c (.int .i64 0), .c (.int .i64 0), .c (.int .i64 0), .c (.int .i64 0), .c (.int .i64 0), .c (.int .i64 0)] := by kernel_rfl
@[simp] theorem typ_46 : tPlaces Tryz.prog 46 = some fun i => ([(0, 1), (1, 1), (2, 1), (3, 1), (4, 1), (5, 1), (6, 1), (7, 1), (8, 1), (9, 1), (10, 1), (11, 1), (12, 1), (13, 1), (14, 1), (15, 1), (16, 1), (17, 1), (18, 1), (19, 1)] : List (Nat × Nat))[i]? := by kernel_rfl
@[simp] theorem tyf_46_0 : tField Tryz.prog 46 0 = some (0, 1, false) := by kernel_rfl
@[simp] theorem tyf_46_1 : tField Tryz.prog 46 1 = some (1, 1, false) := by kernel_rfl
@[simp] theorem tyf_46_2 : tField Tryz.prog 46 2 = some (2, 1, false) := by kernel_rfl
@[simp] theorem tyf_46_3 : tField Tryz.prog 46 3 = some (3, 1, false) := by kernel_rfl
@[simp] theorem tyf_46_4 : tField Tryz.prog 46 4 = some (4, 1, false) := by kernel_rfl
@[simp] theorem tyf_46_5 : tField Tryz.prog 46 5 = some (5, 1, false) := by kernel_rfl
@[simp] theorem tyf_46_6 : tField Tryz.prog 46 6 = some (6, 1, false) := by kernel_rfl
@[simp] theorem tyf_46_7 : tField Tryz.prog 46 7 = some (7, 1, false) := by kernel_rfl
@[simp] theorem tyf_46_8 : tField Tryz.prog 46 8 = some (8, 1, false) := by kernel_rfl
@[simp] theorem tyf_46_9 : tField Tryz.prog 46 9 = some (9, 1, false) := by kernel_rfl
@[simp] theorem tyf_46_10 : tField Tryz.prog 46 10 = some (10, 1, false) := by kernel_rfl
@[simp] theorem tyf_46_11 : tField Tryz.prog 46 11 = some (11, 1, false) := by kernel_rfl
@[simp] theorem tyf_46_12 : tField Tryz.prog 46 12 = some (12, 1, false) := by kernel_rfl
@[simp] theorem tyf_46_13 : tField Tryz.prog 46 13 = some (13, 1, false) := by kernel_rfl
@[simp] theorem tyf_46_14 : tField Tryz.prog 46 14 = some (14, 1, false) := by kernel_rfl
@[simp] theorem tyf_46_15 : tField Tryz.prog 46 15 = some (15, 1, false) := by kernel_rfl
@[simp] theorem tyf_46_16 : tField Tryz.prog 46 16 = some (16, 1, false) := by kernel_rfl
@[simp] theorem tyf_46_17 : tField Tryz.prog 46 17 = some (17, 1, false) := by kernel_rfl
@[simp] theorem tyf_46_18 : tField Tryz.prog 46 18 = some (18, 1, false) := by kernel_rfl
@[simp] theorem tyf_46_19 : tField Tryz.prog 46 19 = some (19, 1, false) := by kernel_rfl
@[simp] theorem ty1_47 : tOne Tryz.prog 47 = some (false, 1) := by kernel_rfl
@[simp] theorem tyz_47 : tZero Tryz.prog 47 = some [.full []] := by kernel_rfl
@[simp] theorem tyl_47 : tSl Tryz.prog 47 = true := by kernel_rfl
@[simp] theorem tye_47 : tElem Tryz.prog 47 = some (89, 4, 72) := by kernel_rfl
@[simp] theorem ty1_48 : tOne Tryz.prog 48 = some (true, 22) := by kernel_rfl
@[simp] theorem tyz_48 : tZero Tryz.prog 48 = some [.full [], .full [], .c (.int .i64 0), .c (.int .i64 0), .c (.int .i64 0), .c (.int .i64 0), .c (.int .i64 0), .c (.int .i64 0), .c (.int .i64 0), .c (.int .i64 0), .c (.int .i64 0), .c (.int .i64 0), .c (.int .i64 0), .c (.int .i64 0), .c (.int .i64 0), .c (.int .i64 0), .c (.int .i64 0), .c (.int .i64 0), .c (.int .i64 0), .c (.int .i64 0), .c (.int .i64 0), .c (.int .i64 0)] := by kernel_rfl
@[simp] theorem typ_48 : tPlaces Tryz.prog 48 = some fun i => ([(0, 1), (1, 1), (2, 20)] : List (Nat × Nat))[i]? := by kernel_rfl
@[simp] theorem tyf_48_0 : tField Tryz.prog 48 0 = some (0, 1, false) := by kernel_rfl
@[simp] theorem tyf_48_1 : tField Tryz.prog 48 1 = some (1, 1, false) := by kernel_rfl
@[simp] theorem tyf_48_2 : tField Tryz.prog 48 2 = some (2, 20, true) := by kernel_rfl
@[simp] theorem ty1_49 : tOne Tryz.prog 49 = some (true, 22) := by kernel_rfl
@[simp] theorem tyz_49 : tZero Tryz.prog 49 = some [.full [], .full [], .c (.int .i64 0), .c (.int .i64 0), .c (.int .i64 0), .c (.int .i64 0), .c (.int .i64 0), .c (.int .i64 0), .c (.int .i64 0), .c (.int .i64 0), .c (.int .i64 0), .c (.int .i64 0), .c (.int .i64 0), .c (.int .i64 0), .c (.int .i64 0), .c (.int .i64 0), .c (.int .i64 0), .c (.int .i64 0), .c (.int .i64 0), .c (.int .i64 0), .c (.int .i64 0), .c (.int .i64 0)] := by kernel_rfl
@[simp] theorem typ_49 : tPlaces Tryz.prog 49 = some fun i => ([(0, 1), (1, 1), (2, 20)] : List (Nat × Nat))[i]? := by kernel_rfl
@[simp] theorem tyf_49_0 : tField Tryz.prog 49 0 = some (0, 1, false) := by kernel_rfl
@[simp] theorem tyf_49_1 : tField Tryz.prog 49 1 = some (1, 1, false) := by kernel_rfl
@[simp] theorem tyf_49_2 : tField Tryz.prog 49 2 = some (2, 20, true) := by kernel_rfl
@[simp] theorem ty1_51 : tOne Tryz.prog 51 = some (false, 1) := by kernel_rfl
@[simp] theorem tyz_51 : tZero Tryz.prog 51 = some [.c .nilf] := by kernel_rfl
@[simp] theorem ty1_52 : tOne Tryz.prog 52 = some (false, 1) := by kernel_rfl
@[simp] theorem tyz_52 : tZero Tryz.prog 52 = some [.c .nilf] := by kernel_rfl
@[simp] theorem ty1_53 : tOne Tryz.prog 53 = some (true, 2) := by kernel_rfl
@[simp] theorem tyz_53 : tZero Tryz.prog 53 = some [.c (.int .i64 0), .c (.bool false)] := by kernel_rfl
@[simp] theorem typ_53 : tPlaces Tryz.prog 53 = some fun i => ([(0, 1), (1, 1)] : List (Nat × Nat))[i]? := by kernel_rfl
@[simp] theorem tyf_53_0 : tField Tryz.prog 53 0 = some (0, 1, false) := by kernel_rfl
@[simp] theorem tyf_53_1 : tField Tryz.prog 53 1 = some (1, 1, false) := by kernel_rfl
@[simp] theorem ty1_54 : tOne Tryz.prog 54 = some (true, 2) := by kernel_rfl
@[simp] theorem tyz_54 : tZero Tryz.prog 54 = some [.c (.int .i64 0), .c (.bool false)] := by kernel_rfl
@[simp] theorem typ_54 : tPlaces Tryz.prog 54 = some fun i => ([(0, 1), (1, 1)] : List (Nat × Nat))[i]? := by kernel_rfl
@[simp] theorem tyf_54_0 : tField Tryz.prog 54 0 = some (0, 1, false) := by kernel_rfl
@[simp] theorem tyf_54_1 : tField Tryz.prog 54 1 = some (1, 1, false) := by kernel_rfl
@[simp] theorem ty1_55 : tOne Tryz.prog 55 = some (false, 1) := by kernel_rfl
@[simp] theorem tyz_55 : tZero Tryz.prog 55 = some [.c .nilf] := by kernel_rfl
@[simp] theorem ty1_57 : tOne Tryz.prog 57 = some (false, 1) := by kernel_rfl
@[simp] theorem tyz_57 : tZero Tryz.prog 57 = some [.c .nilf] := by kernel_rfl
@[simp] theorem ty1_58 : tOne Tryz.prog 58 = some (false, 1) := by kernel_rfl
@[simp] theorem tyz_58 : tZero Tryz.prog 58 = some [.full []] := by kernel_rfl
@[simp] theorem tyl_58 : tSl Tryz.prog 58 = true := by kernel_rfl
@[simp] theorem tye_58 : tElem Tryz.prog 58 = some (69, 4, 32) := by kernel_rfl
@[simp] theorem ty1_59 : tOne Tryz.prog 59 = some (true, 25) := by kernel_rfl
@[simp] theorem tyz_59 : tZero Tryz.prog 59 = some [.full [], .full [], .c (.int .i64 0), .c (.int .i64 0), .c (.int .i64 0), .c (.int .i64 0), .c (.int .i64 0), .c (.int .i64 0), .c (.int .i64 0), .c (.int .i64 0), .c (.int .i64 0), .c (.int .i64 0), .c (.int .i64 0), .c (.int .i64 0), .c (.int .i64 0), .c (.int .i64 0), .c (.int .i64 0), .c (.int .i64 0), .c (.int .i64 0), .c (.int .i64 0), .c (.int .i64 0), .c (.int .i64 0), .full [], .c (.int .i64 0), .c (.bool false)] := by kernel_rfl
@[simp] theorem typ_59 : tPlaces Tryz.prog 59 = some fun i => ([(0, 22), (22, 1), (23, 2)] : List (Nat × Nat))[i]? := by kernel_rfl
@[simp] theorem tyf_59_0 : tField Tryz.prog 59 0 = some (0, 22, true) := by kernel_rfl
@[simp] theorem tyf_59_1 : tField Tryz.prog 59 1 = some (22, 1, false) := by kernel_rfl
@[simp] theorem tyf_59_2 : tField Tryz.prog 59 2 = some (23, 2, true) := by kernel_rfl
@[simp] theorem ty1_60 : tOne Tryz.prog 60 = some (true, 25) := by kernel_rfl
@[simp] theorem tyz_60 : tZero Tryz.prog 60 = some [.full [], .full [], .c (.int .i64 0), .c (.int .i64 0), .c (.int .i64 0), .c (.int .i64 0), .c (.int .i64 0), .c (.int .i64 0), .c (.int .i64 0), .c (.int .i64 0), .c (.int .i64 0), .c (.int .i64 0), .c (.int .i64 0), .c (.int .i64 0), .c (.int .i64 0), .c (.int .i64 0), .c (.int .i64 0), .c (.int .i64 0), .c (.int .i64 0), .c (.int .i64 0), .c (.int .i64 0), .c (.int .i64 0), .full [], .c (.int .i64 0), .c (.bool false)] := by kernel_rfl
@[simp] theorem typ_60 : tPlaces Tryz.prog 60 = some fun i => ([(0, 22), (22, 1), (23, 2)] : List (Nat × Nat))[i]? := by kernel_rfl
@[simp] theorem tyf_60_0 : tField Tryz.prog 60 0 = some (0, 22, true) := by kernel_rfl
@[simp] theorem tyf_60_1 : tField Tryz.prog 60 1 = some (22, 1, false) := by kernel_rfl
@[simp] theorem tyf_60_2 : tField Tryz.prog 60 2 = some (23, 2, true) := by kernel_rfl
@[simp] theorem ty1_61 : tOne Tryz.prog 61 = some (true, 41) := by kernel_rfl
@[simp] theorem tyz_61 : tZero Tryz.prog 61 = some [.full [], .full [], .c (.int .i64 0), .c (.int .i64 0), .c (.int .i64 0), .c (.int .i64 0), .c (.int .i64 0), .c (.int .i64 0), .c (.int .i64 0), .c (.int .i64 0), .c (.int .i64 0), .c (.int .i64 0), .c (.int .i64 0), .c (.int .i64 0), .c (.int .i64 0), .c (.int .i64 0), .c (.int .i64 0), .c (.int .i64 0), .c (.int .i64 0), .c (.int .i64 0), .c (.int .i64 0), .c (.int .i64 0), .full [], .c (.int .i64 0), .c (.bool false), .c (.int .i64 0), .c (.str ⟨#[]⟩), .c (.int .i64 0), .full [], .c (.int .i64 0), .c (.str ⟨#[]⟩), .c (.int .i64 0), .c (.int .i64 0), .c (.int .i64 0), .c (.int .i64 0), .c (.int .i64 0), .c (.int .i64 0), .full [], .c (.int .i64 0), .full [], .c (.int .i64 0)] := by kernel_rfl
@[simp] theorem typ_61 : tPlaces Tryz.prog 61 = some fun i => ([(0, 25), (25, 4), (29, 11), (40, 1)] : List (Nat × Nat))[i]? := by kernel_rfl
@[simp] theorem tyf_61_0 : tField Tryz.prog 61 0 = some (0, 25, true) := by kernel_rfl
@[simp] theorem tyf_61_1 : tField Tryz.prog 61 1 = some (25, 4, true) := by kernel_rfl
@[simp] theorem tyf_61_2 : tField Tryz.prog 61 2 = some (29, 11, true) := by kernel_rfl
@[simp] theorem tyf_61_3 : tField Tryz.prog 61 3 = some (40, 1, false) := by kernel_rfl
@[simp] theorem ty1_62 : tOne Tryz.prog 62 = some (true, 41) := by kernel_rfl
@[simp] theorem tyz_62 : tZero Tryz.prog 62 = some [.full [], .full [], .c (.int .i64 0), .c (.int .i64 0), .c (.int .i64 0), .c (.int .i64 0), .c (.int .i64 0), .c (.int .i64 0), .c (.int .i64 0), .c (.int .i64 0), .c (.int .i64 0), .c (.int .i64 0), .c (.int .i64 0), .c (.int .i64 0), .c (.int .i64 0), .c (.int .i64 0), .c (.int .i64 0), .c (.int .i64 0), .c (.int .i64 0), .c (.int .i64 0), .c (.int .i64 0), .c (.int .i64 0), .full [], .c (.int .i64 0), .c (.bool false), .c (.int .i64 0), .c (.str ⟨#[]⟩), .c (.int .i64 0), .full [], .c (.int .i64 0), .c (.str ⟨#[]⟩), .c (.int .i64 0), .c (.int .i64 0), .c (.int .i64 0), .c (.int .i64 0), .c (.int .i64 0), .c (.int .i64 0), .full [], .c (.int .i64 0), .full [], .c (.int .i64 0)] := by kernel_rfl
@[simp] theorem typ_62 : tPlaces Tryz.prog 62 = some fun i => ([(0, 25), (25, 4), (29, 11), (40, 1)] : List (Nat × Nat))[i]? := by kernel_rfl
@[simp] theorem tyf_62_0 : tField Tryz.prog 62 0 = some (0, 25, true) := by kernel_rfl
@[simp] theorem tyf_62_1 : tField Tryz.prog 62 1 = some (25, 4, true) := by kernel_rfl
@[simp] theorem tyf_62_2 : tField Tryz.prog 62 2 = some (29, 11, true) := by kernel_rfl
@[simp] theorem tyf_62_3 : tField Tryz.prog 62 3 = some (40, 1, false) := by kernel_rfl
@[simp] theorem ty1_64 : tOne Tryz.prog 64 = some (false, 1) := by kernel_rfl
@[simp] theorem tyz_64 : tZero Tryz.prog 64 = some [.c .nilf] := by kernel_rfl
@[simp] theorem ty1_65 : tOne Tryz.prog 65 = some (false, 1) := by kernel_rfl
@[simp] theorem tyz_65 : tZero Tryz.prog 65 = some [.c .nilf] := by kernel_rfl
@[simp] theorem ty1_66 : tOne Tryz.prog 66 = some (false, 1) := by kernel_rfl
@[simp] theorem tyz_66 : tZero Tryz.prog 66 = some [.c .nilf] := by kernel_rfl
@[simp] theorem ty1_67 : tOne Tryz.prog 67 = some (false, 1) := by kernel_rfl
@[simp] theorem tyz_67 : tZero Tryz.prog 67 = some [.c .nilf] := by kernel_rfl
@[simp] theorem ty1_68 : tOne Tryz.prog 68 = some (true, 4) := by kernel_rfl
@[simp] theorem tyz_68 : tZero Tryz.prog 68 = some [.c (.str ⟨#[]⟩), .c (.int .i64 0), .c (.bool false), .c (.bool false)] := by kernel_rfl
@[simp] theorem typ_68 : tPlaces Tryz.prog 68 = some fun i => ([(0, 1), (1, 1), (2, 1), (3, 1)] : List (Nat × Nat))[i]? := by kernel_rfl
@[simp] theorem tyf_68_0 : tField Tryz.prog 68 0 = some (0, 1, false) := by kernel_rfl
@[simp] theorem tyf_68_1 : tField Tryz.prog 68 1 = some (1, 1, false) := by kernel_rfl
@[simp] theorem tyf_68_2 : tField Tryz.prog 68 2 = some (2, 1, false) := by kernel_rfl
@[simp] theorem tyf_68_3 : tField Tryz.prog 68 3 = some (3, 1, false) := by kernel_rfl
@[simp] theorem ty1_69 : tOne Tryz.prog 69 = some (true, 4) := by kernel_rfl
@[simp] theorem tyz_69 : tZero Tryz.prog 69 = some [.c (.str ⟨#[]⟩), .c (.int .i64 0), .c (.bool false), .c (.bool false)] := by kernel_rfl
@[simp] theorem typ_69 : tPlaces Tryz.prog 69 = some fun i => ([(0, 1), (1, 1), (2, 1), (3, 1)] : List (Nat × Nat))[i]? := by kernel_rfl
@[simp] theorem tyf_69_0 : tField Tryz.prog 69 0 = some (0, 1, false) := by kernel_rfl
@[simp] theorem tyf_69_1 : tField Tryz.prog 69 1 = some (1, 1, false) := by kernel_rfl
@[simp] theorem tyf_69_2 : tField Tryz.prog 69 2 = some (2, 1, false) := by kernel_rfl
@[simp] theorem tyf_69_3 : tField Tryz.prog 69 3 = some (3, 1, false) := by kernel_rfl
@[simp] theorem ty1_70 : tOne Tryz.prog 70 = some (false, 1) := by kernel_rfl
@[simp] theorem tyz_70 : tZero Tryz.prog 70 = some [.c .nilf] := by kernel_rfl
@[simp] theorem ty1_71 : tOne Tryz.prog 71 = some (false, 1) := by kernel_rfl
@[simp] theorem tyz_71 : tZero Tryz.prog 71 = some [.c .nilf] := by kernel_rfl
@[simp] theorem ty1_72 : tOne Tryz.prog 72 = some (false, 1) := by kernel_rfl
@[simp] theorem tyz_72 : tZero Tryz.prog 72 = some [.c .nilf] := by kernel_rfl
@[simp] theorem ty1_73 : tOne Tryz.prog 73 = some (false, 1) := by kernel_rfl
@[simp] theorem tyz_73 : tZero Tryz.prog 73 = some [.c .nilf] := by kernel_rfl
@[simp] theorem ty1_74 : tOne Tryz.prog 74 = some (false, 1) := by kernel_rfl
@[simp] theorem tyz_74 : tZero Tryz.prog 74 = some [.c .nilf] := by kernel_rfl
@[simp] theorem ty1_75 : tOne Tryz.prog 75 = some (false, 1) := by kernel_rfl
@[simp] theorem tyz_75 : tZero Tryz.prog 75 = some [.c .nilf] := by kernel_rfl
@[simp] theorem ty1_76 : tOne Tryz.prog 76 = some (false, 1) := by kernel_rfl
@[simp] theorem tyz_76 : tZero Tryz.prog 76 = some [.c .nilf] := by kernel_rfl
@[simp] theorem ty1_77 : tOne Tryz.prog 77 = some (false, 1) := by kernel_rfl
@[simp] theorem tyz_77 : tZero Tryz.prog 77 = some [.c .nilf] := by kernel_rfl
@[simp] theorem ty1_79 : tOne Tryz.prog 79 = some (true, 9) := by kernel_rfl
@[simp] theorem tyz_79 : tZero Tryz.prog 79 = some [.c (.int .i64 0), .full [], .c (.int .i64 0), .c (.int .i64 0), .full [], .c (.int .i64 0), .c (.str ⟨#[]⟩), .c (.str ⟨#[]⟩), .full []] := by kernel_rfl
@[simp] theorem typ_79 : tPlaces Tryz.prog 79 = some fun i => ([(0, 8), (8, 1)] : List (Nat × Nat))[i]? := by kernel_rfl
@[simp] theorem tyf_79_0 : tField Tryz.prog 79 0 = some (0, 8, true) := by kernel_rfl
@[simp] theorem tyf_79_1 : tField Tryz.prog 79 1 = some (8, 1, false) := by kernel_rfl
@[simp] theorem ty1_80 : tOne Tryz.prog 80 = some (true, 9) := by kernel_rfl
@[simp] theorem tyz_80 : tZero Tryz.prog 80 = some [.c (.int .i64 0), .full [], .c (.int .i64 0), .c (.int .i64 0), .full [], .c (.int .i64 0), .c (.str ⟨#[]⟩), .c (.str ⟨#[]⟩), .full []] := by kernel_rfl
@[simp] theorem typ_80 : tPlaces Tryz.prog 80 = some fun i => ([(0, 8), (8, 1)] : List (Nat × Nat))[i]? := by kernel_rfl
@[simp] theorem tyf_80_0 : tField Tryz.prog 80 0 = some (0, 8, true) := by kernel_rfl
@[simp] theorem tyf_80_1 : tField Tryz.prog 80 1 = some (8, 1, false) := by kernel_rfl
@[simp] theorem ty1_81 : tOne Tryz.prog 81 = some (false, 1) := by kernel_rfl
@[simp] theorem tyz_81 : tZero Tryz.prog 81 = some [.c .nilf] := by kernel_rfl
@[simp] theorem ty1_82 : tOne Tryz.prog 82 = some (false, 1) := by kernel_rfl
@[simp] theorem tyz_82 : tZero Tryz.prog 82 = some [.c .nilf] := by kernel_rfl
@[simp] theorem ty1_83 : tOne Tryz.prog 83 = some (false, 1) := by kernel_rfl
@[simp] theorem tyz_83 : tZero Tryz.prog 83 = some [.c .nilf] := by kernel_rfl
@[simp] theorem ty1_84 : tOne Tryz.prog 84 = some (false, 1) := by kernel_rfl
@[simp] theorem tyz_84 : tZero Tryz.prog 84 = some [.c .nilf] := by kernel_rfl
@[simp] theorem ty1_85 : tOne Tryz.prog 85 = some (false, 1) := by kernel_rfl
@[simp] theorem tyz_85 : tZero Tryz.prog 85 = some [.c .nilf] := by kernel_rfl
@[simp] theorem ty1_86 : tOne Tryz.prog 86 = some (false, 1) := by kernel_rfl
@[simp] theorem tyz_86 : tZero Tryz.prog 86 = some [.full []] := by kernel_rfl
@[simp] theorem tyl_86 : tSl Tryz.prog 86 = true := by kernel_rfl
@[simp] theorem tye_86 : tElem Tryz.prog 86 = some (9, 1, 16) := by kernel_rfl
@[simp] theorem ty1_87 : tOne Tryz.prog 87 = some (false, 1) := by kernel_rfl
@[simp] theorem tyz_87 : tZero Tryz.prog 87 = some [.full []] := by kernel_rfl
@[simp] theorem tyl_87 : tSl Tryz.prog 87 = true := by kernel_rfl
@[simp] theorem tye_87 : tElem Tryz.prog 87 = some (94, 2, 24) := by kernel_rfl
@[simp] theorem ty1_88 : tOne Tryz.prog 88 = some (true, 4) := by kernel_rfl
@[simp] theorem tyz_88 : tZero Tryz.prog 88 = some [.c (.str ⟨#[]⟩), .full [], .full [], .c (.int .i64 0)] := by kernel_rfl
@[simp] theorem typ_88 : tPlaces Tryz.prog 88 = some fun i => ([(0, 1), (1, 1), (2, 1), (3, 1)] : List (Nat × Nat))[i]? := by kernel_rfl
@[simp] theorem tyf_88_0 : tField Tryz.prog 88 0 = some (0, 1, false) := by kernel_rfl
@[simp] theorem tyf_88_1 : tField Tryz.prog 88 1 = some (1, 1, false) := by kernel_rfl
@[simp] theorem tyf_88_2 : tField Tryz.prog 88 2 = some (2, 1, false) := by kernel_rfl
@[simp] theorem tyf_88_3 : tField Tryz.prog 88 3 = some (3, 1, false) := by kernel_rfl
@[simp] theorem ty1_89 : tOne Tryz.prog 89 = some (true, 4) := by kernel_rfl
@[simp] theorem tyz_89 : tZero Tryz.prog 89 = some [.c (.str ⟨#[]⟩), .full [], .full [], .c (.int .i64 0)] := by kernel_rfl
@[simp] theorem typ_89 : tPlaces Tryz.prog 89 = some fun i => ([(0, 1), (1, 1), (2, 1), (3, 1)] : List (Nat × Nat))[i]? := by kernel_rfl
@[simp] theorem tyf_89_0 : tField Tryz.prog 89 0 = some (0, 1, false) := by kernel_rfl
@[simp] theorem tyf_89_1 : tField Tryz.prog 89 1 = some (1, 1, false) := by kernel_rfl
@[simp] theorem tyf_89_2 : tField Tryz.prog 89 2 = some (2, 1, false) := by kernel_rfl
@[simp] theorem tyf_89_3 : tField Tryz.prog 89 3 = some (3, 1, false) := by kernel_rfl
@[simp] theorem ty1_90 : tOne Tryz.prog 90 = some (false, 1) := by kernel_rfl
@[simp] theorem tyz_90 : tZero Tryz.prog 90 = some [.c .nilp] := by kernel_rfl
@[simp] theorem ty1_91 : tOne Tryz.prog 91 = some (false, 1) := by kernel_rfl
@[simp] theorem tyz_91 : tZero Tryz.prog 91 = some [.c .nilf] := by kernel_rfl
@[simp] theorem ty1_92 : tOne Tryz.prog 92 = some (false, 1) := by kernel_rfl
@[simp] theorem tyz_92 : tZero Tryz.prog 92 = some [.c .nilf] := by kernel_rfl
@[simp] theorem ty1_93 : tOne Tryz.prog 93 = some (true, 2) := by kernel_rfl
@[simp] theorem tyz_93 : tZero Tryz.prog 93 = some [.c (.str ⟨#[]⟩), .c (.bool false)] := by kernel_rfl
@[simp] theorem typ_93 : tPlaces Tryz.prog 93 = some fun i => ([(0, 1), (1, 1)] : List (Nat × Nat))[i]? := by kernel_rfl
@[simp] theorem tyf_93_0 : tField Tryz.prog 93 0 = some (0, 1, false) := by kernel_rfl
@[simp] theorem tyf_93_1 : tField Tryz.prog 93 1 = some (1, 1, false) := by kernel_rfl
@[simp] theorem ty1_94 : tOne Tryz.prog 94 = some (true, 2) := by kernel_rfl
@[simp] theorem tyz_94 : tZero Tryz.prog 94 = some [.c (.str ⟨#[]⟩), .c (.bool false)] := by kernel_rfl
@[simp] theorem typ_94 : tPlaces Tryz.prog 94 = some fun i => ([(0, 1), (1, 1)] : List (Nat × Nat))[i]? := by kernel_rfl
@[simp] theorem tyf_94_0 : tField Tryz.prog 94 0 = some (0, 1, false) := by kernel_rfl
@[simp] theorem tyf_94_1 : tField Tryz.prog 94 1 = some (1, 1, false) := by kernel_rfl
@[simp] theorem ty1_95 : tOne Tryz.prog 95 = some (false, 1) := by kernel_rfl
@[simp] theorem tyz_95 : tZero Tryz.prog 95 = some [.c .nilp] := by kernel_rfl
@[simp] theorem ty1_96 : tOne Tryz.prog 96 = some (false, 1) := by kernel_rfl
@[simp] theorem tyz_96 : tZero Tryz.prog 96 = some [.full []] := by kernel_rfl
@[simp] theorem tyl_96 : tSl Tryz.prog 96 = true := by kernel_rfl
@[simp] theorem tye_96 : tElem Tryz.prog 96 = some (95, 1, 8) := by kernel_rfl
@[simp] theorem ty1_97 : tOne Tryz.prog 97 = some (false, 1) := by kernel_rfl
@[simp] theorem tyz_97 : tZero Tryz.prog 97 = some [.c .nilp] := by kernel_rfl
@[simp] theorem ty1_98 : tOne Tryz.prog 98 = some (false, 1) := by kernel_rfl
@[simp] theorem tyz_98 : tZero Tryz.prog 98 = some [.full []] := by kernel_rfl
@[simp] theorem tyl_98 : tSl Tryz.prog 98 = true := by kernel_rfl
@[simp] theorem tye_98 : tElem Tryz.prog 98 = some (97, 1, 8) := by kernel_rfl
@[simp] theorem ty1_99 : tOne Tryz.prog 99 = some (false, 1) := by kernel_rfl
@[simp] theorem tyz_99 : tZero Tryz.prog 99 = some [.c .nilf] := by kernel_rfl
@[simp] theorem ty1_100 : tOne Tryz.prog 100 = some (false, 1) := by kernel_rfl
@[simp] theorem tyz_100 : tZero Tryz.prog 100 = some [.c .nilp] := by kernel_rfl
@[simp] theorem ty1_101 : tOne Tryz.prog 101 = some (false, 1) := by kernel_rfl
@[simp] theorem tyz_101 : tZero Tryz.prog 101 = some [.c .nilf] := by kernel_rfl
@[simp] theorem ty1_102 : tOne Tryz.prog 102 = some (true, 3) := by kernel_rfl
@[simp] theorem tyz_102 : tZero Tryz.prog 102 = some [.c (.str ⟨#[]⟩), .c (.int .i64 0), .c .nilf] := by kernel_rfl
@[simp] theorem typ_102 : tPlaces Tryz.prog 102 = some fun i => ([(0, 1), (1, 1), (2, 1)] : List (Nat × Nat))[i]? := by kernel_rfl
@[simp] theorem tyf_102_0 : tField Tryz.prog 102 0 = some (0, 1, false) := by kernel_rfl
@[simp] theorem tyf_102_1 : tField Tryz.prog 102 1 = some (1, 1, false) := by kernel_rfl
@[simp] theorem tyf_102_2 : tField Tryz.prog 102 2 = some (2, 1, false) := by kernel_rfl
@[simp] theorem ty1_103 : tOne Tryz.prog 103 = some (true, 3) := by kernel_rfl
@[simp] theorem tyz_103 : tZero Tryz.prog 103 = some [.c (.str ⟨#[]⟩), .c (.int .i64 0), .c .nilf] := by kernel_rfl
@[simp] theorem typ_103 : tPlaces Tryz.prog 103 = some fun i => ([(0, 1), (1, 1), (2, 1)] : List (Nat × Nat))[i]? := by kernel_rfl
@[simp] theorem tyf_103_0 : tField Tryz.prog 103 0 = some (0, 1, false) := by kernel_rfl
@[simp] theorem tyf_103_1 : tField Tryz.prog 103 1 = some (1, 1, false) := by kernel_rfl
@[simp] theorem tyf_103_2 : tField Tryz.prog 103 2 = some (2, 1, false) := by kernel_rfl
@[simp] theorem ty1_104 : tOne Tryz.prog 104 = some (true, 39) := by kernel_rfl
@[simp] theorem tyz_104 : tZero Tryz.prog 104 = some [.c (.str ⟨#[]⟩), .c (.int .i64 0), .c .nilf, .c (.str ⟨#[]⟩), .c (.int .i64 0), .c .nilf, .c (.str ⟨#[]⟩), .c (.int .i64 0), .c .nilf, .c (.str ⟨#[]⟩), .c (.int .i64 0), .c .nilf, .c (.str ⟨#[]⟩), .c (.int .i64 0), .c .nilf, .c (.str ⟨#[]⟩), .c (.int .i64 0), .c .nilf, .c (.str ⟨#[]⟩), .c (.int .i64 0), .c .nilf, .c (.str ⟨#[]⟩), .c (.int .i64 0), .c .nilf, .c (.str ⟨#[]⟩), .c (.int .i64 0), .c .nilf, .c (.str ⟨#[]⟩), .c (.int .i64 0), .c .nilf, .c (.str ⟨#[]⟩), .c (.int .i64 0), .c .nilf, .c (.str ⟨#[]⟩), .c (.int .i64 0), .c .nilf, .c (.str ⟨#[]⟩), .c (.int .i64 0), .c .nilf] := by kernel_rfl
@[simp] theorem typ_104 : tPlaces Tryz.prog 104 = some fun i => some (i * 3, 3) := by kernel_rfl
@[simp] theorem tya_104 : tArr Tryz.prog 104 = some (13, 3, true) := by kernel_rfl
@[simp] theorem ty1_105 : tOne Tryz.prog 105 = some (false, 1) := by kernel_rfl
@[simp] theorem tyz_105 : tZero Tryz.prog 105 = some [.c .nilf] := by kernel_rfl
@[simp] theorem ty1_106 : tOne Tryz.prog 106 = some (true, 40) := by kernel_rfl
@[simp] theorem tyz_106 : tZero Tryz.prog 106 = some [.c (.str ⟨#[]⟩), .c (.int .i64 0), .c .nilf, .c (.str ⟨#[]⟩), .c (.int .i64 0), .c .nilf, .c (.str ⟨#[]⟩), .c (.int .i64 0), .c .nilf, .c (.str ⟨#[]⟩), .c (.int .i64 0), .c .nilf, .c (.str ⟨#[]⟩), .c (.int .i64 0), .c .nilf, .c (.str ⟨#[]⟩), .c (.int .i64 0), .c .nilf, .c (.str ⟨#[]⟩), .c (.int .i64 0), .c .nilf, .c (.str ⟨#[]⟩), .c (.int .i64 0), .c .nilf, .c (.str ⟨#[]⟩), .c (.int .i64 0), .c .nilf, .c (.str ⟨#[]⟩), .c (.int .i64 0), .c .nilf, .c (.str ⟨#[]⟩), .c (.int .i64 0), .c .nilf, .c (.str ⟨#[]⟩), .c (.int .i64 0), .c .nilf, .c (.str ⟨#[]⟩), .c (.int .i64 0), .c .nilf, .c (.int .i64 0)] := by kernel_rfl
@[simp] theorem typ_106 : tPlaces Tryz.prog 106 = some fun i => ([(0, 39), (39, 1)] : List (Nat × Nat))[i]? := by kernel_rfl
@[simp] theorem tyf_106_0 : tField Tryz.prog 106 0 = some (0, 39, true) := by kernel_rfl
@[simp] theorem tyf_106_1 : tField Tryz.prog 106 1 = some (39, 1, false) := by kernel_rfl
@[simp] theorem ty1_107 : tOne Tryz.prog 107 = some (true, 40) := by kernel_rfl
@[simp] theorem tyz_107 : tZero Tryz.prog 107 = some [.c (.str ⟨#[]⟩), .c (.int .i64 0), .c .nilf, .c (.str ⟨#[]⟩), .c (.int .i64 0), .c .nilf, .c (.str ⟨#[]⟩), .c (.int .i64 0), .c .nilf, .c (.str ⟨#[]⟩), .c (.int .i64 0), .c .nilf, .c (.str ⟨#[]⟩), .c (.int .i64 0), .c .nilf, .c (.str ⟨#[]⟩), .c (.int .i64 0), .c .nilf, .c (.str ⟨#[]⟩), .c (.int .i64 0), .c .nilf, .c (.str ⟨#[]⟩), .c (.int .i64 0), .c .nilf, .c (.str ⟨#[]⟩), .c (.int .i64 0), .c .nilf, .c (.str ⟨#[]⟩), .c (.int .i64 0), .c .nilf, .c (.str ⟨#[]⟩), .c (.int .i64 0), .c .nilf, .c (.str ⟨#[]⟩), .c (.int .i64 0), .c .nilf, .c (.str ⟨#[]⟩), .c (.int .i64 0), .c .nilf, .c (.int .i64 0)] := by kernel_rfl
@[simp] theorem typ_107 : tPlaces Tryz.prog 107 = some fun i => ([(0, 39), (39, 1)] : List (Nat × Nat))[i]? := by kernel_rfl
@[simp] theorem tyf_107_0 : tField Tryz.prog 107 0 = some (0, 39, true) := by kernel_rfl
@[simp] theorem tyf_107_1 : tField Tryz.prog 107 1 = some (39, 1, false) := by kernel_rfl
@[simp] theorem ty1_108 : tOne Tryz.prog 108 = some (false, 1) := by kernel_rfl
@[simp] theorem tyz_108 : tZero Tryz.prog 108 = some [.c .nilf] := by kernel_rfl
@[simp] theorem ty1_109 : tOne Tryz.prog 109 = some (false, 1) := by kernel_rfl
@[simp] theorem tyz_109 : tZero Tryz.prog 109 = some [.c .nilf] := by kernel_rfl
@[simp] theorem ty1_110 : tOne Tryz.prog 110 = some (false, 1) := by kernel_rfl
@[simp] theorem tyz_110 : tZero Tryz.prog 110 = some [.c .nilf] := by kernel_rfl
@[simp] theorem ty1_112 : tOne Tryz.prog 112 = some (false, 1) := by kernel_rfl
@[simp] theorem tyz_112 : tZero Tryz.prog 112 = some [.c .nilf] := by kernel_rfl
@[simp] theorem ty1_113 : tOne Tryz.prog 113 = some (false, 1) := by kernel_rfl
@[simp] theorem tyz_113 : tZero Tryz.prog 113 = some [.c .nilf] := by kernel_rfl
@[simp] theorem ty1_114 : tOne Tryz.prog 114 = some (false, 1) := by kernel_rfl
@[simp] theorem tyz_114 : tZero Tryz.prog 114 = some [.c .nilf] := by kernel_rfl
@[simp] theorem ty1_115 : tOne Tryz.prog 115 = some (false, 1) := by kernel_rfl
@[simp] theorem tyz_115 : tZero Tryz.prog 115 = some [.c .nilf] := by kernel_rfl
@[simp] theorem ty1_116 : tOne Tryz.prog 116 = some (false, 1) := by kernel_rfl
@[simp] theorem tyz_116 : tZero Tryz.prog 116 = some [.c .nilf] := by kernel_rfl
@[simp] theorem ty1_117 : tOne Tryz.prog 117 = some (false, 1) := by kernel_rfl
@[simp] theorem tyz_117 : tZero Tryz.prog 117 = some [.c .nilp] := by kernel_rfl
@[simp] theorem ty1_118 : tOne Tryz.prog 118 = some (false, 1) := by kernel_rfl
@[simp] theorem tyz_118 : tZero Tryz.prog 118 = some [.c .nilf] := by kernel_rfl
end Go.Proofs.YtnpenchciinmmaaGreat
