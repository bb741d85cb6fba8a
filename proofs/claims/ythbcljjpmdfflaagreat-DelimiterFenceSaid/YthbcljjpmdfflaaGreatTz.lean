/- Facts on the table of types of this seat's program, printed by a program (gentypes.py); each is reckoned by the kernel. -/
import Derived.Test.YthbcljjpmdfflaaGreatTy
import Derived.Test.YthbcljjpmdfflaaGreatProg
import Derived.KernelRfl
namespace Go.Proofs.YthbcljjpmdfflaaGreat
@[simp] theorem ty1_119 : tOne Tryz.prog 119 = some (false, 1) := by kernel_rfl
@[simp] theorem tyz_119 : tZero Tryz.prog 119 = some [.any] := by kernel_rfl
@[simp] theorem ty1_120 : tOne Tryz.prog 120 = some (false, 1) := by kernel_rfl
@[simp] theorem tyz_120 : tZero Tryz.prog 120 = some [.any] := by kernel_rfl
@[simp] theorem ty1_121 : tOne Tryz.prog 121 = some (false, 1) := by kernel_rfl
@[simp] theorem tyz_121 : tZero Tryz.prog 121 = some [.any] := by kernel_rfl
@[simp] theorem ty1_123 : tOne Tryz.prog 123 = some (false, 1) := by kernel_rfl
@[simp] theorem tyz_123 : tZero Tryz.prog 123 = some [.any] := by kernel_rfl
@[simp] theorem ty1_124 : tOne Tryz.prog 124 = some (false, 1) := by kernel_rfl
@[simp] theorem tyz_124 : tZero Tryz.prog 124 = some [.any] := by kernel_rfl
@[simp] theorem ty1_125 : tOne Tryz.prog 125 = some (false, 1) := by kernel_rfl
@[simp] theorem tyz_125 : tZero Tryz.prog 125 = some [.any] := by kernel_rfl
@[simp] theorem ty1_126 : tOne Tryz.prog 126 = some (false, 1) := by kernel_rfl
@[simp] theorem tyz_126 : tZero Tryz.prog 126 = some [.any] := by kernel_rfl
@[simp] theorem ty1_127 : tOne Tryz.prog 127 = some (false, 1) := by kernel_rfl
@[simp] theorem tyz_127 : tZero Tryz.prog 127 = some [.any] := by kernel_rfl
@[simp] theorem ty1_128 : tOne Tryz.prog 128 = some (false, 1) := by kernel_rfl
@[simp] theorem tyz_128 : tZero Tryz.prog 128 = some [.any] := by kernel_rfl
@[simp] theorem ty1_129 : tOne Tryz.prog 129 = some (false, 1) := by kernel_rfl
@[simp] theorem tyz_129 : tZero Tryz.prog 129 = some [.any] := by kernel_rfl
@[simp] theorem ty1_130 : tOne Tryz.prog 130 = some (true, 4) := by kernel_rfl
@[simp] theorem tyz_130 : tZero Tryz.prog 130 = some [.c .nilp, .c .nilp, .c .nilp, .c (.str ⟨#[]⟩)] := by kernel_rfl
@[simp] theorem typ_130 : tPlaces Tryz.prog 130 = some fun i => ([(0, 1), (1, 1), (2, 1), (3, 1)] : List (Nat × Nat))[i]? := by kernel_rfl
@[simp] theorem tyf_130_0 : tField Tryz.prog 130 0 = some (0, 1, false) := by kernel_rfl
@[simp] theorem tyf_130_1 : tField Tryz.prog 130 1 = some (1, 1, false) := by kernel_rfl
@[simp] theorem tyf_130_2 : tField Tryz.prog 130 2 = some (2, 1, false) := by kernel_rfl
@[simp] theorem tyf_130_3 : tField Tryz.prog 130 3 = some (3, 1, false) := by kernel_rfl
@[simp] theorem ty1_131 : tOne Tryz.prog 131 = some (true, 4) := by kernel_rfl
@[simp] theorem tyz_131 : tZero Tryz.prog 131 = some [.c .nilp, .c .nilp, .c .nilp, .c (.str ⟨#[]⟩)] := by kernel_rfl
@[simp] theorem typ_131 : tPlaces Tryz.prog 131 = some fun i => ([(0, 1), (1, 1), (2, 1), (3, 1)] : List (Nat × Nat))[i]? := by kernel_rfl
@[simp] theorem tyf_131_0 : tField Tryz.prog 131 0 = some (0, 1, false) := by kernel_rfl
@[simp] theorem tyf_131_1 : tField Tryz.prog 131 1 = some (1, 1, false) := by kernel_rfl
@[simp] theorem tyf_131_2 : tField Tryz.prog 131 2 = some (2, 1, false) := by kernel_rfl
@[simp] theorem tyf_131_3 : tField Tryz.prog 131 3 = some (3, 1, false) := by kernel_rfl
@[simp] theorem ty1_132 : tOne Tryz.prog 132 = some (true, 0) := by kernel_rfl
@[simp] theorem tyz_132 : tZero Tryz.prog 132 = some [] := by kernel_rfl
@[simp] theorem typ_132 : tPlaces Tryz.prog 132 = some fun i => some (i * 1, 1) := by kernel_rfl
@[simp] theorem tya_132 : tArr Tryz.prog 132 = some (0, 1, false) := by kernel_rfl
@[simp] theorem ty1_133 : tOne Tryz.prog 133 = some (true, 0) := by kernel_rfl
@[simp] theorem tyz_133 : tZero Tryz.prog 133 = some [] := by kernel_rfl
@[simp] theorem typ_133 : tPlaces Tryz.prog 133 = some fun i => ([(0, 0)] : List (Nat × Nat))[i]? := by kernel_rfl
@[simp] theorem tyf_133_0 : tField Tryz.prog 133 0 = some (0, 0, true) := by kernel_rfl
@[simp] theorem ty1_134 : tOne Tryz.prog 134 = some (true, 0) := by kernel_rfl
@[simp] theorem tyz_134 : tZero Tryz.prog 134 = some [] := by kernel_rfl
@[simp] theorem typ_134 : tPlaces Tryz.prog 134 = some fun i => ([(0, 0)] : List (Nat × Nat))[i]? := by kernel_rfl
@[simp] theorem tyf_134_0 : tField Tryz.prog 134 0 = some (0, 0, true) := by kernel_rfl
@[simp] theorem ty1_135 : tOne Tryz.prog 135 = some (false, 1) := by kernel_rfl
@[simp] theorem tyz_135 : tZero Tryz.prog 135 = some [.any] := by kernel_rfl
@[simp] theorem ty1_136 : tOne Tryz.prog 136 = some (false, 1) := by kernel_rfl
@[simp] theorem tyz_136 : tZero Tryz.prog 136 = some [.c (.int .u32 0)] := by kernel_rfl
@[simp] theorem tyi_136 : tInt Tryz.prog 136 = some .u32 := by kernel_rfl
@[simp] theorem ty1_137 : tOne Tryz.prog 137 = some (false, 1) := by kernel_rfl
@[simp] theorem tyz_137 : tZero Tryz.prog 137 = some [.c (.int .u8 0)] := by kernel_rfl
@[simp] theorem tyi_137 : tInt Tryz.prog 137 = some .u8 := by kernel_rfl
@[simp] theorem ty1_138 : tOne Tryz.prog 138 = some (false, 1) := by kernel_rfl
@[simp] theorem tyz_138 : tZero Tryz.prog 138 = some [.c (.int .u8 0)] := by kernel_rfl
@[simp] theorem tyi_138 : tInt Tryz.prog 138 = some .u8 := by kernel_rfl
@[simp] theorem ty1_139 : tOne Tryz.prog 139 = some (false, 1) := by kernel_rfl
@[simp] theorem tyz_139 : tZero Tryz.prog 139 = some [.any] := by kernel_rfl
@[simp] theorem ty1_140 : tOne Tryz.prog 140 = some (false, 1) := by kernel_rfl
@[simp] theorem tyz_140 : tZero Tryz.prog 140 = some [.c .nilp] := by kernel_rfl
@[simp] theorem ty1_141 : tOne Tryz.prog 141 = some (false, 1) := by kernel_rfl
@[simp] theorem tyz_141 : tZero Tryz.prog 141 = some [.c (.int .i32 0)] := by kernel_rfl
@[simp] theorem tyi_141 : tInt Tryz.prog 141 = some .i32 := by kernel_rfl
@[simp] theorem ty1_142 : tOne Tryz.prog 142 = some (false, 1) := by kernel_rfl
@[simp] theorem tyz_142 : tZero Tryz.prog 142 = some [.c (.int .i32 0)] := by kernel_rfl
@[simp] theorem tyi_142 : tInt Tryz.prog 142 = some .i32 := by kernel_rfl
@[simp] theorem ty1_143 : tOne Tryz.prog 143 = some (true, 11) := by kernel_rfl
@[simp] theorem tyz_143 : tZero Tryz.prog 143 = some [.c (.int .u64 0), .c (.int .u64 0), .c (.int .u32 0), .c (.int .u8 0), .c (.int .u8 0), .c (.int .u8 0), .c (.int .u8 0), .any, .c .nilp, .c (.int .i32 0), .c (.int .i32 0)] := by kernel_rfl
@[simp] theorem typ_143 : tPlaces Tryz.prog 143 = some fun i => ([(0, 1), (1, 1), (2, 1), (3, 1), (4, 1), (5, 1), (6, 1), (7, 1), (8, 1), (9, 1), (10, 1)] : List (Nat × Nat))[i]? := by kernel_rfl
@[simp] theorem tyf_143_0 : tField Tryz.prog 143 0 = some (0, 1, false) := by kernel_rfl
@[simp] theorem tyf_143_1 : tField Tryz.prog 143 1 = some (1, 1, false) := by kernel_rfl
@[simp] theorem tyf_143_2 : tField Tryz.prog 143 2 = some (2, 1, false) := by kernel_rfl
@[simp] theorem tyf_143_3 : tField Tryz.prog 143 3 = some (3, 1, false) := by kernel_rfl
@[simp] theorem tyf_143_4 : tField Tryz.prog 143 4 = some (4, 1, false) := by kernel_rfl
@[simp] theorem tyf_143_5 : tField Tryz.prog 143 5 = some (5, 1, false) := by kernel_rfl
@[simp] theorem tyf_143_6 : tField Tryz.prog 143 6 = some (6, 1, false) := by kernel_rfl
@[simp] theorem tyf_143_7 : tField Tryz.prog 143 7 = some (7, 1, false) := by kernel_rfl
@[simp] theorem tyf_143_8 : tField Tryz.prog 143 8 = some (8, 1, false) := by kernel_rfl
@[simp] theorem tyf_143_9 : tField Tryz.prog 143 9 = some (9, 1, false) := by kernel_rfl
@[simp] theorem tyf_143_10 : tField Tryz.prog 143 10 = some (10, 1, false) := by kernel_rfl
@[simp] theorem ty1_144 : tOne Tryz.prog 144 = some (true, 11) := by kernel_rfl
@[simp] theorem tyz_144 : tZero Tryz.prog 144 = some [.c (.int .u64 0), .c (.int .u64 0), .c (.int .u32 0), .c (.int .u8 0), .c (.int .u8 0), .c (.int .u8 0), .c (.int .u8 0), .any, .c .nilp, .c (.int .i32 0), .c (.int .i32 0)] := by kernel_rfl
@[simp] theorem typ_144 : tPlaces Tryz.prog 144 = some fun i => ([(0, 1), (1, 1), (2, 1), (3, 1), (4, 1), (5, 1), (6, 1), (7, 1), (8, 1), (9, 1), (10, 1)] : List (Nat × Nat))[i]? := by kernel_rfl
@[simp] theorem tyf_144_0 : tField Tryz.prog 144 0 = some (0, 1, false) := by kernel_rfl
@[simp] theorem tyf_144_1 : tField Tryz.prog 144 1 = some (1, 1, false) := by kernel_rfl
@[simp] theorem tyf_144_2 : tField Tryz.prog 144 2 = some (2, 1, false) := by kernel_rfl
@[simp] theorem tyf_144_3 : tField Tryz.prog 144 3 = some (3, 1, false) := by kernel_rfl
@[simp] theorem tyf_144_4 : tField Tryz.prog 144 4 = some (4, 1, false) := by kernel_rfl
@[simp] theorem tyf_144_5 : tField Tryz.prog 144 5 = some (5, 1, false) := by kernel_rfl
@[simp] theorem tyf_144_6 : tField Tryz.prog 144 6 = some (6, 1, false) := by kernel_rfl
@[simp] theorem tyf_144_7 : tField Tryz.prog 144 7 = some (7, 1, false) := by kernel_rfl
@[simp] theorem tyf_144_8 : tField Tryz.prog 144 8 = some (8, 1, false) := by kernel_rfl
@[simp] theorem tyf_144_9 : tField Tryz.prog 144 9 = some (9, 1, false) := by kernel_rfl
@[simp] theorem tyf_144_10 : tField Tryz.prog 144 10 = some (10, 1, false) := by kernel_rfl
@[simp] theorem ty1_145 : tOne Tryz.prog 145 = some (false, 1) := by kernel_rfl
@[simp] theorem tyz_145 : tZero Tryz.prog 145 = some [.c .nilp] := by kernel_rfl
end Go.Proofs.YthbcljjpmdfflaaGreat
