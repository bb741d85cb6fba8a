/- Facts on the table of types of this seat's program, printed by a program (gentypes.py); each is reckoned by the kernel. -/
import Derived.Test.YthbcljjpmdfflaaTy
import Derived.Test.YthbcljjpmdfflaaProg
import Derived.KernelRfl
namespace Go.Proofs.Ythbcljjpmdfflaa
@[simp] theorem ty1_151 : tOne Try.prog 151 = some (false, 1) := by kernel_rfl
@[simp] theorem tyz_151 : tZero Try.prog 151 = some [.any] := by kernel_rfl
@[simp] theorem ty1_152 : tOne Try.prog 152 = some (false, 1) := by kernel_rfl
@[simp] theorem tyz_152 : tZero Try.prog 152 = some [.any] := by kernel_rfl
@[simp] theorem ty1_153 : tOne Try.prog 153 = some (false, 1) := by kernel_rfl
@[simp] theorem tyz_153 : tZero Try.prog 153 = some [.any] := by kernel_rfl
@[simp] theorem ty1_154 : tOne Try.prog 154 = some (false, 1) := by kernel_rfl
@[simp] theorem tyz_154 : tZero Try.prog 154 = some [.full []] := by kernel_rfl
@[simp] theorem tyl_154 : tSl Try.prog 154 = true := by kernel_rfl
@[simp] theorem tye_154 : tElem Try.prog 154 = some (130, 1, 8) := by kernel_rfl
@[simp] theorem ty1_155 : tOne Try.prog 155 = some (false, 1) := by kernel_rfl
@[simp] theorem tyz_155 : tZero Try.prog 155 = some [.any] := by kernel_rfl
@[simp] theorem ty1_156 : tOne Try.prog 156 = some (false, 1) := by kernel_rfl
@[simp] theorem tyz_156 : tZero Try.prog 156 = some [.any] := by kernel_rfl
@[simp] theorem ty1_157 : tOne Try.prog 157 = some (true, 5) := by kernel_rfl
@[simp] theorem tyz_157 : tZero Try.prog 157 = some [.c (.int .i64 0), .c (.int .i64 0), .c (.int .i64 0), .c (.int .i64 0), .c (.int .i64 0)] := by kernel_rfl
@[simp] theorem typ_157 : tPlaces Try.prog 157 = some fun i => some (i * 1, 1) := by kernel_rfl
@[simp] theorem tya_157 : tArr Try.prog 157 = some (5, 1, false) := by kernel_rfl
@[simp] theorem ty1_158 : tOne Try.prog 158 = some (false, 1) := by kernel_rfl
@[simp] theorem tyz_158 : tZero Try.prog 158 = some [.any] := by kernel_rfl
@[simp] theorem ty1_159 : tOne Try.prog 159 = some (false, 1) := by kernel_rfl
@[simp] theorem tyz_159 : tZero Try.prog 159 = some [.any] := by kernel_rfl
@[simp] theorem ty1_160 : tOne Try.prog 160 = some (false, 1) := by kernel_rfl
@[simp] theorem tyz_160 : tZero Try.prog 160 = some [.c (.int .u64 0)] := by kernel_rfl
@[simp] theorem tyi_160 : tInt Try.prog 160 = some .u64 := by kernel_rfl
@[simp] theorem ty1_161 : tOne Try.prog 161 = some (false, 1) := by kernel_rfl
@[simp] theorem tyz_161 : tZero Try.prog 161 = some [.any] := by kernel_rfl
@[simp] theorem ty1_162 : tOne Try.prog 162 = some (false, 1) := by kernel_rfl
@[simp] theorem tyz_162 : tZero Try.prog 162 = some [.any] := by kernel_rfl
@[simp] theorem ty1_163 : tOne Try.prog 163 = some (true, 4) := by kernel_rfl
@[simp] theorem tyz_163 : tZero Try.prog 163 = some [.c .nilp, .c .nilp, .c .nilp, .c (.str ⟨#[]⟩)] := by kernel_rfl
@[simp] theorem typ_163 : tPlaces Try.prog 163 = some fun i => ([(0, 1), (1, 1), (2, 1), (3, 1)] : List (Nat × Nat))[i]? := by kernel_rfl
@[simp] theorem tyf_163_0 : tField Try.prog 163 0 = some (0, 1, false) := by kernel_rfl
@[simp] theorem tyf_163_1 : tField Try.prog 163 1 = some (1, 1, false) := by kernel_rfl
@[simp] theorem tyf_163_2 : tField Try.prog 163 2 = some (2, 1, false) := by kernel_rfl
@[simp] theorem tyf_163_3 : tField Try.prog 163 3 = some (3, 1, false) := by kernel_rfl
@[simp] theorem ty1_164 : tOne Try.prog 164 = some (true, 4) := by kernel_rfl
@[simp] theorem tyz_164 : tZero Try.prog 164 = some [.c .nilp, .c .nilp, .c .nilp, .c (.str ⟨#[]⟩)] := by kernel_rfl
@[simp] theorem typ_164 : tPlaces Try.prog 164 = some fun i => ([(0, 1), (1, 1), (2, 1), (3, 1)] : List (Nat × Nat))[i]? := by kernel_rfl
@[simp] theorem tyf_164_0 : tField Try.prog 164 0 = some (0, 1, false) := by kernel_rfl
@[simp] theorem tyf_164_1 : tField Try.prog 164 1 = some (1, 1, false) := by kernel_rfl
@[simp] theorem tyf_164_2 : tField Try.prog 164 2 = some (2, 1, false) := by kernel_rfl
@[simp] theorem tyf_164_3 : tField Try.prog 164 3 = some (3, 1, false) := by kernel_rfl
@[simp] theorem ty1_165 : tOne Try.prog 165 = some (true, 0) := by kernel_rfl
@[simp] theorem tyz_165 : tZero Try.prog 165 = some [] := by kernel_rfl
@[simp] theorem typ_165 : tPlaces Try.prog 165 = some fun i => some (i * 1, 1) := by kernel_rfl
@[simp] theorem tya_165 : tArr Try.prog 165 = some (0, 1, false) := by kernel_rfl
@[simp] theorem ty1_166 : tOne Try.prog 166 = some (true, 0) := by kernel_rfl
@[simp] theorem tyz_166 : tZero Try.prog 166 = some [] := by kernel_rfl
@[simp] theorem typ_166 : tPlaces Try.prog 166 = some fun i => ([(0, 0)] : List (Nat × Nat))[i]? := by kernel_rfl
@[simp] theorem tyf_166_0 : tField Try.prog 166 0 = some (0, 0, true) := by kernel_rfl
@[simp] theorem ty1_167 : tOne Try.prog 167 = some (true, 0) := by kernel_rfl
@[simp] theorem tyz_167 : tZero Try.prog 167 = some [] := by kernel_rfl
@[simp] theorem typ_167 : tPlaces Try.prog 167 = some fun i => ([(0, 0)] : List (Nat × Nat))[i]? := by kernel_rfl
@[simp] theorem tyf_167_0 : tField Try.prog 167 0 = some (0, 0, true) := by kernel_rfl
@[simp] theorem ty1_168 : tOne Try.prog 168 = some (false, 1) := by kernel_rfl
@[simp] theorem tyz_168 : tZero Try.prog 168 = some [.any] := by kernel_rfl
@[simp] theorem ty1_169 : tOne Try.prog 169 = some (false, 1) := by kernel_rfl
@[simp] theorem tyz_169 : tZero Try.prog 169 = some [.c (.int .u32 0)] := by kernel_rfl
@[simp] theorem tyi_169 : tInt Try.prog 169 = some .u32 := by kernel_rfl
@[simp] theorem ty1_170 : tOne Try.prog 170 = some (false, 1) := by kernel_rfl
@[simp] theorem tyz_170 : tZero Try.prog 170 = some [.c (.int .u8 0)] := by kernel_rfl
@[simp] theorem tyi_170 : tInt Try.prog 170 = some .u8 := by kernel_rfl
@[simp] theorem ty1_171 : tOne Try.prog 171 = some (false, 1) := by kernel_rfl
@[simp] theorem tyz_171 : tZero Try.prog 171 = some [.c (.int .u8 0)] := by kernel_rfl
@[simp] theorem tyi_171 : tInt Try.prog 171 = some .u8 := by kernel_rfl
@[simp] theorem ty1_172 : tOne Try.prog 172 = some (false, 1) := by kernel_rfl
@[simp] theorem tyz_172 : tZero Try.prog 172 = some [.any] := by kernel_rfl
@[simp] theorem ty1_173 : tOne Try.prog 173 = some (false, 1) := by kernel_rfl
@[simp] theorem tyz_173 : tZero Try.prog 173 = some [.c .nilp] := by kernel_rfl
@[simp] theorem ty1_174 : tOne Try.prog 174 = some (false, 1) := by kernel_rfl
@[simp] theorem tyz_174 : tZero Try.prog 174 = some [.c (.int .i32 0)] := by kernel_rfl
@[simp] theorem tyi_174 : tInt Try.prog 174 = some .i32 := by kernel_rfl
@[simp] theorem ty1_175 : tOne Try.prog 175 = some (false, 1) := by kernel_rfl
@[simp] theorem tyz_175 : tZero Try.prog 175 = some [.c (.int .i32 0)] := by kernel_rfl
@[simp] theorem tyi_175 : tInt Try.prog 175 = some .i32 := by kernel_rfl
@[simp] theorem ty1_176 : tOne Try.prog 176 = some (true, 11) := by kernel_rfl
@[simp] theorem tyz_176 : tZero Try.prog 176 = some [.c (.int .u64 0), .c (.int .u64 0), .c (.int .u32 0), .c (.int .u8 0), .c (.int .u8 0), .c (.int .u8 0), .c (.int .u8 0), .any, .c .nilp, .c (.int .i32 0), .c (.int .i32 0)] := by kernel_rfl
@[simp] theorem typ_176 : tPlaces Try.prog 176 = some fun i => ([(0, 1), (1, 1), (2, 1), (3, 1), (4, 1), (5, 1), (6, 1), (7, 1), (8, 1), (9, 1), (10, 1)] : List (Nat × Nat))[i]? := by kernel_rfl
@[simp] theorem tyf_176_0 : tField Try.prog 176 0 = some (0, 1, false) := by kernel_rfl
@[simp] theorem tyf_176_1 : tField Try.prog 176 1 = some (1, 1, false) := by kernel_rfl
@[simp] theorem tyf_176_2 : tField Try.prog 176 2 = some (2, 1, false) := by kernel_rfl
@[simp] theorem tyf_176_3 : tField Try.prog 176 3 = some (3, 1, false) := by kernel_rfl
@[simp] theorem tyf_176_4 : tField Try.prog 176 4 = some (4, 1, false) := by kernel_rfl
@[simp] theorem tyf_176_5 : tField Try.prog 176 5 = some (5, 1, false) := by kernel_rfl
@[simp] theorem tyf_176_6 : tField Try.prog 176 6 = some (6, 1, false) := by kernel_rfl
@[simp] theorem tyf_176_7 : tField Try.prog 176 7 = some (7, 1, false) := by kernel_rfl
@[simp] theorem tyf_176_8 : tField Try.prog 176 8 = some (8, 1, false) := by kernel_rfl
@[simp] theorem tyf_176_9 : tField Try.prog 176 9 = some (9, 1, false) := by kernel_rfl
@[simp] theorem tyf_176_10 : tField Try.prog 176 10 = some (10, 1, false) := by kernel_rfl
@[simp] theorem ty1_177 : tOne Try.prog 177 = some (true, 11) := by kernel_rfl
@[simp] theorem tyz_177 : tZero Try.prog 177 = some [.c (.int .u64 0), .c (.int .u64 0), .c (.int .u32 0), .c (.int .u8 0), .c (.int .u8 0), .c (.int .u8 0), .c (.int .u8 0), .any, .c .nilp, .c (.int .i32 0), .c (.int .i32 0)] := by kernel_rfl
@[simp] theorem typ_177 : tPlaces Try.prog 177 = some fun i => ([(0, 1), (1, 1), (2, 1), (3, 1), (4, 1), (5, 1), (6, 1), (7, 1), (8, 1), (9, 1), (10, 1)] : List (Nat × Nat))[i]? := by kernel_rfl
@[simp] theorem tyf_177_0 : tField Try.prog 177 0 = some (0, 1, false) := by kernel_rfl
@[simp] theorem tyf_177_1 : tField Try.prog 177 1 = some (1, 1, false) := by kernel_rfl
@[simp] theorem tyf_177_2 : tField Try.prog 177 2 = some (2, 1, false) := by kernel_rfl
@[simp] theorem tyf_177_3 : tField Try.prog 177 3 = some (3, 1, false) := by kernel_rfl
@[simp] theorem tyf_177_4 : tField Try.prog 177 4 = some (4, 1, false) := by kernel_rfl
@[simp] theorem tyf_177_5 : tField Try.prog 177 5 = some (5, 1, false) := by kernel_rfl
@[simp] theorem tyf_177_6 : tField Try.prog 177 6 = some (6, 1, false) := by kernel_rfl
@[simp] theorem tyf_177_7 : tField Try.prog 177 7 = some (7, 1, false) := by kernel_rfl
@[simp] theorem tyf_177_8 : tField Try.prog 177 8 = some (8, 1, false) := by kernel_rfl
@[simp] theorem tyf_177_9 : tField Try.prog 177 9 = some (9, 1, false) := by kernel_rfl
@[simp] theorem tyf_177_10 : tField Try.prog 177 10 = some (10, 1, false) := by kernel_rfl
@[simp] theorem ty1_178 : tOne Try.prog 178 = some (false, 1) := by kernel_rfl
@[simp] theorem tyz_178 : tZero Try.prog 178 = some [.c .nilp] := by kernel_rfl
end Go.Proofs.Ythbcljjpmdfflaa
