/- Facts on the table of types of this seat's program, printed by a program (gentypes.py); each is reckoned by the kernel. -/
import Derived.Test.YtnpenchciinmmaaGreatTy
import Derived.Test.YtnpenchciinmmaaGreatProg
import Derived.KernelRfl
namespace Go.Proofs.YtnpenchciinmmaaGreat
@[simp] theorem ty1_119 : tOne Tryz.prog 119 = some (false, 1) := by kernel_rfl
@[simp] theorem tyz_119 : tZero Tryz.prog 119 = some [.c .nilf] := by kernel_rfl
@[simp] theorem ty1_120 : tOne Tryz.prog 120 = some (false, 1) := by kernel_rfl
@[simp] theorem tyz_120 : tZero Tryz.prog 120 = some [.c .nilf] := by kernel_rfl
@[simp] theorem ty1_121 : tOne Tryz.prog 121 = some (false, 1) := by kernel_rfl
@[simp] theorem tyz_121 : tZero Tryz.prog 121 = some [.c .nilf] := by kernel_rfl
@[simp] theorem ty1_122 : tOne Tryz.prog 122 = some (false, 1) := by kernel_rfl
@[simp] theorem tyz_122 : tZero Tryz.prog 122 = some [.c .nilf] := by kernel_rfl
@[simp] theorem ty1_123 : tOne Tryz.prog 123 = some (false, 1) := by kernel_rfl
@[simp] theorem tyz_123 : tZero Tryz.prog 123 = some [.c .nilf] := by kernel_rfl
@[simp] theorem ty1_124 : tOne Tryz.prog 124 = some (false, 1) := by kernel_rfl
@[simp] theorem tyz_124 : tZero Tryz.prog 124 = some [.c .nilf] := by kernel_rfl
@[simp] theorem ty1_125 : tOne Tryz.prog 125 = some (false, 1) := by kernel_rfl
@[simp] theorem tyz_125 : tZero Tryz.prog 125 = some [.c .nilf] := by kernel_rfl
@[simp] theorem ty1_126 : tOne Tryz.prog 126 = some (false, 1) := by kernel_rfl
@[simp] theorem tyz_126 : tZero Tryz.prog 126 = some [.c .nilf] := by kernel_rfl
@[simp] theorem ty1_127 : tOne Tryz.prog 127 = some (false, 1) := by kernel_rfl
@[simp] theorem tyz_127 : tZero Tryz.prog 127 = some [.c .nilf] := by kernel_rfl
@[simp] theorem ty1_128 : tOne Tryz.prog 128 = some (false, 1) := by kernel_rfl
@[simp] theorem tyz_128 : tZero Tryz.prog 128 = some [.any] := by kernel_rfl
@[simp] theorem ty1_129 : tOne Tryz.prog 129 = some (true, 4) := by kernel_rfl
@[simp] theorem tyz_129 : tZero Tryz.prog 129 = some [.c (.int .i64 0), .c (.int .i64 0), .c (.int .i64 0), .c (.int .i64 0)] := by kernel_rfl
@[simp] theorem typ_129 : tPlaces Tryz.prog 129 = some fun i => some (i * 1, 1) := by kernel_rfl
@[simp] theorem tya_129 : tArr Tryz.prog 129 = some (4, 1, false) := by kernel_rfl
@[simp] theorem ty1_130 : tOne Tryz.prog 130 = some (false, 1) := by kernel_rfl
@[simp] theorem tyz_130 : tZero Tryz.prog 130 = some [.c .nilf] := by kernel_rfl
@[simp] theorem ty1_131 : tOne Tryz.prog 131 = some (false, 1) := by kernel_rfl
@[simp] theorem tyz_131 : tZero Tryz.prog 131 = some [.c .nilf] := by kernel_rfl
@[simp] theorem ty1_132 : tOne Tryz.prog 132 = some (true, 13) := by kernel_rfl
@[simp] theorem tyz_132 : tZero Tryz.prog 132 = some [.c .nilf, .c .nilf, .c .nilf, .c .nilf, .c .nilf, .c .nilf, .c .nilf, .c .nilf, .c .nilf, .c .nilf, .c .nilf, .c .nilf, .c .nilf] := by kernel_rfl
@[simp] theorem typ_132 : tPlaces Tryz.prog 132 = some fun i => some (i * 1, 1) := by kernel_rfl
@[simp] theorem tya_132 : tArr Tryz.prog 132 = some (13, 1, false) := by kernel_rfl
@[simp] theorem ty1_133 : tOne Tryz.prog 133 = some (true, 41) := by kernel_rfl
@[simp] theorem tyz_133 : tZero Tryz.prog 133 = some [.full [], .full [], .c (.int .i64 0), .c (.int .i64 0), .c (.int .i64 0), .c (.int .i64 0), .c (.int .i64 0), .c (.int .i64 0), .c (.int .i64 0), .c (.int .i64 0), .c (.int .i64 0), .c (.int .i64 0), .c (.int .i64 0), .c (.int .i64 0), .c (.int .i64 0), .c (.int .i64 0), .c (.int .i64 0), .c (.int .i64 0), .c (.int .i64 0), .c (.int .i64 0), .c (.int .i64 0), .c (.int .i64 0), .full [], .c (.int .i64 0), .c (.int .i64 0), .c (.int .i64 0), .c (.int .i64 0), .any, .c .nilf, .c .nilf, .c .nilf, .c .nilf, .c .nilf, .c .nilf, .c .nilf, .c .nilf, .c .nilf, .c .nilf, .c .nilf, .c .nilf, .c .nilf] := by kernel_rfl
@[simp] theorem typ_133 : tPlaces Tryz.prog 133 = some fun i => ([(0, 22), (22, 1), (23, 4), (27, 1), (28, 13)] : List (Nat × Nat))[i]? := by kernel_rfl
@[simp] theorem tyf_133_0 : tField Tryz.prog 133 0 = some (0, 22, true) := by kernel_rfl
@[simp] theorem tyf_133_1 : tField Tryz.prog 133 1 = some (22, 1, false) := by kernel_rfl
@[simp] theorem tyf_133_2 : tField Tryz.prog 133 2 = some (23, 4, true) := by kernel_rfl
@[simp] theorem tyf_133_3 : tField Tryz.prog 133 3 = some (27, 1, false) := by kernel_rfl
@[simp] theorem tyf_133_4 : tField Tryz.prog 133 4 = some (28, 13, true) := by kernel_rfl
@[simp] theorem ty1_134 : tOne Tryz.prog 134 = some (true, 41) := by kernel_rfl
@[simp] theorem tyz_134 : tZero Tryz.prog 134 = some [.full [], .full [], .c (.int .i64 0), .c (.int .i64 0), .c (.int .i64 0), .c (.int .i64 0), .c (.int .i64 0), .c (.int .i64 0), .c (.int .i64 0), .c (.int .i64 0), .c (.int .i64 0), .c (.int .i64 0), .c (.int .i64 0), .c (.int .i64 0), .c (.int .i64 0), .c (.int .i64 0), .c (.int .i64 0), .c (.int .i64 0), .c (.int .i64 0), .c (.int .i64 0), .c (.int .i64 0), .c (.int .i64 0), .full [], .c (.int .i64 0), .c (.int .i64 0), .c (.int .i64 0), .c (.int .i64 0), .any, .c .nilf, .c .nilf, .c .nilf, .c .nilf, .c .nilf, .c .nilf, .c .nilf, .c .nilf, .c .nilf, .c .nilf, .c .nilf, .c .nilf, .c .nilf] := by kernel_rfl
@[simp] theorem typ_134 : tPlaces Tryz.prog 134 = some fun i => ([(0, 22), (22, 1), (23, 4), (27, 1), (28, 13)] : List (Nat × Nat))[i]? := by kernel_rfl
@[simp] theorem tyf_134_0 : tField Tryz.prog 134 0 = some (0, 22, true) := by kernel_rfl
@[simp] theorem tyf_134_1 : tField Tryz.prog 134 1 = some (22, 1, false) := by kernel_rfl
@[simp] theorem tyf_134_2 : tField Tryz.prog 134 2 = some (23, 4, true) := by kernel_rfl
@[simp] theorem tyf_134_3 : tField Tryz.prog 134 3 = some (27, 1, false) := by kernel_rfl
@[simp] theorem tyf_134_4 : tField Tryz.prog 134 4 = some (28, 13, true) := by kernel_rfl
@[simp] theorem ty1_136 : tOne Tryz.prog 136 = some (false, 1) := by kernel_rfl
@[simp] theorem tyz_136 : tZero Tryz.prog 136 = some [.c .nilf] := by kernel_rfl
@[simp] theorem ty1_137 : tOne Tryz.prog 137 = some (false, 1) := by kernel_rfl
@[simp] theorem tyz_137 : tZero Tryz.prog 137 = some [.c .nilf] := by kernel_rfl
@[simp] theorem ty1_138 : tOne Tryz.prog 138 = some (false, 1) := by kernel_rfl
@[simp] theorem tyz_138 : tZero Tryz.prog 138 = some [.c .nilf] := by kernel_rfl
@[simp] theorem ty1_139 : tOne Tryz.prog 139 = some (false, 1) := by kernel_rfl
@[simp] theorem tyz_139 : tZero Tryz.prog 139 = some [.c .nilf] := by kernel_rfl
@[simp] theorem ty1_140 : tOne Tryz.prog 140 = some (false, 1) := by kernel_rfl
@[simp] theorem tyz_140 : tZero Tryz.prog 140 = some [.c .nilf] := by kernel_rfl
@[simp] theorem ty1_141 : tOne Tryz.prog 141 = some (false, 1) := by kernel_rfl
@[simp] theorem tyz_141 : tZero Tryz.prog 141 = some [.c .nilf] := by kernel_rfl
@[simp] theorem ty1_143 : tOne Tryz.prog 143 = some (false, 1) := by kernel_rfl
@[simp] theorem tyz_143 : tZero Tryz.prog 143 = some [.c .nilf] := by kernel_rfl
@[simp] theorem ty1_144 : tOne Tryz.prog 144 = some (false, 1) := by kernel_rfl
@[simp] theorem tyz_144 : tZero Tryz.prog 144 = some [.c .nilf] := by kernel_rfl
@[simp] theorem ty1_145 : tOne Tryz.prog 145 = some (false, 1) := by kernel_rfl
@[simp] theorem tyz_145 : tZero Tryz.prog 145 = some [.c .nilf] := by kernel_rfl
@[simp] theorem ty1_146 : tOne Tryz.prog 146 = some (false, 1) := by kernel_rfl
@[simp] theorem tyz_146 : tZero Tryz.prog 146 = some [.c .nilf] := by kernel_rfl
@[simp] theorem ty1_148 : tOne Tryz.prog 148 = some (false, 1) := by kernel_rfl
@[simp] theorem tyz_148 : tZero Tryz.prog 148 = some [.c .nilf] := by kernel_rfl
@[simp] theorem ty1_149 : tOne Tryz.prog 149 = some (false, 1) := by kernel_rfl
@[simp] theorem tyz_149 : tZero Tryz.prog 149 = some [.c .nilf] := by kernel_rfl
@[simp] theorem ty1_150 : tOne Tryz.prog 150 = some (false, 1) := by kernel_rfl
@[simp] theorem tyz_150 : tZero Tryz.prog 150 = some [.c .nilf] := by kernel_rfl
@[simp] theorem ty1_151 : tOne Tryz.prog 151 = some (false, 1) := by kernel_rfl
@[simp] theorem tyz_151 : tZero Tryz.prog 151 = some [.c .nilf] := by kernel_rfl
@[simp] theorem ty1_152 : tOne Tryz.prog 152 = some (false, 1) := by kernel_rfl
@[simp] theorem tyz_152 : tZero Tryz.prog 152 = some [.any] := by kernel_rfl
@[simp] theorem ty1_153 : tOne Tryz.prog 153 = some (false, 1) := by kernel_rfl
@[simp] theorem tyz_153 : tZero Tryz.prog 153 = some [.c .nilp] := by kernel_rfl
@[simp] theorem ty1_154 : tOne Tryz.prog 154 = some (false, 1) := by kernel_rfl
@[simp] theorem tyz_154 : tZero Tryz.prog 154 = some [.c .nilf] := by kernel_rfl
@[simp] theorem ty1_156 : tOne Tryz.prog 156 = some (false, 1) := by kernel_rfl
@[simp] theorem tyz_156 : tZero Tryz.prog 156 = some [.c .nilf] := by kernel_rfl
@[simp] theorem ty1_157 : tOne Tryz.prog 157 = some (false, 1) := by kernel_rfl
@[simp] theorem tyz_157 : tZero Tryz.prog 157 = some [.c .nilf] := by kernel_rfl
@[simp] theorem ty1_158 : tOne Tryz.prog 158 = some (false, 1) := by kernel_rfl
@[simp] theorem tyz_158 : tZero Tryz.prog 158 = some [.any] := by kernel_rfl
@[simp] theorem ty1_159 : tOne Tryz.prog 159 = some (false, 1) := by kernel_rfl
@[simp] theorem tyz_159 : tZero Tryz.prog 159 = some [.c .nilf] := by kernel_rfl
@[simp] theorem ty1_160 : tOne Tryz.prog 160 = some (false, 1) := by kernel_rfl
@[simp] theorem tyz_160 : tZero Tryz.prog 160 = some [.c .nilf] := by kernel_rfl
@[simp] theorem ty1_161 : tOne Tryz.prog 161 = some (false, 1) := by kernel_rfl
@[simp] theorem tyz_161 : tZero Tryz.prog 161 = some [.c .nilf] := by kernel_rfl
@[simp] theorem ty1_163 : tOne Tryz.prog 163 = some (false, 1) := by kernel_rfl
@[simp] theorem tyz_163 : tZero Tryz.prog 163 = some [.c .nilf] := by kernel_rfl
@[simp] theorem ty1_164 : tOne Tryz.prog 164 = some (false, 1) := by kernel_rfl
@[simp] theorem tyz_164 : tZero Tryz.prog 164 = some [.c .nilf] := by kernel_rfl
@[simp] theorem ty1_165 : tOne Tryz.prog 165 = some (false, 1) := by kernel_rfl
@[simp] theorem tyz_165 : tZero Tryz.prog 165 = some [.c .nilf] := by kernel_rfl
@[simp] theorem ty1_166 : tOne Tryz.prog 166 = some (false, 1) := by kernel_rfl
@[simp] theorem tyz_166 : tZero Tryz.prog 166 = some [.c .nilf] := by kernel_rfl
@[simp] theorem ty1_167 : tOne Tryz.prog 167 = some (false, 1) := by kernel_rfl
@[simp] theorem tyz_167 : tZero Tryz.prog 167 = some [.c .nilf] := by kernel_rfl
@[simp] theorem ty1_168 : tOne Tryz.prog 168 = some (false, 1) := by kernel_rfl
@[simp] theorem tyz_168 : tZero Tryz.prog 168 = some [.c .nilf] := by kernel_rfl
@[simp] theorem ty1_169 : tOne Tryz.prog 169 = some (false, 1) := by kernel_rfl
@[simp] theorem tyz_169 : tZero Tryz.prog 169 = some [.c .nilf] := by kernel_rfl
@[simp] theorem ty1_170 : tOne Tryz.prog 170 = some (false, 1) := by kernel_rfl
@[simp] theorem tyz_170 : tZero Tryz.prog 170 = some [.c .nilf] := by kernel_rfl
@[simp] theorem ty1_171 : tOne Tryz.prog 171 = some (false, 1) := by kernel_rfl
@[simp] theorem tyz_171 : tZero Tryz.prog 171 = some [.c .nilf] := by kernel_rfl
@[simp] theorem ty1_172 : tOne Tryz.prog 172 = some (false, 1) := by kernel_rfl
@[simp] theorem tyz_172 : tZero Tryz.prog 172 = some [.c .nilf] := by kernel_rfl
@[simp] theorem ty1_173 : tOne Tryz.prog 173 = some (false, 1) := by kernel_rfl
@[simp] theorem tyz_173 : tZero Tryz.prog 173 = some [.full []] := by kernel_rfl
@[simp] theorem tyl_173 : tSl Tryz.prog 173 = true := by kernel_rfl
@[simp] theorem tye_173 : tElem Tryz.prog 173 = some (22, 1, 24) := by kernel_rfl
@[simp] theorem ty1_174 : tOne Tryz.prog 174 = some (false, 1) := by kernel_rfl
@[simp] theorem tyz_174 : tZero Tryz.prog 174 = some [.c .nilf] := by kernel_rfl
@[simp] theorem ty1_175 : tOne Tryz.prog 175 = some (false, 1) := by kernel_rfl
@[simp] theorem tyz_175 : tZero Tryz.prog 175 = some [.c .nilf] := by kernel_rfl
@[simp] theorem ty1_176 : tOne Tryz.prog 176 = some (false, 1) := by kernel_rfl
@[simp] theorem tyz_176 : tZero Tryz.prog 176 = some [.c .nilf] := by kernel_rfl
@[simp] theorem ty1_177 : tOne Tryz.prog 177 = some (false, 1) := by kernel_rfl
@[simp] theorem tyz_177 : tZero Tryz.prog 177 = some [.c .nilf] := by kernel_rfl
@[simp] theorem ty1_178 : tOne Tryz.prog 178 = some (false, 1) := by kernel_rfl
@[simp] theorem tyz_178 : tZero Tryz.prog 178 = some [.c .nilf] := by kernel_rfl
@[simp] theorem ty1_179 : tOne Tryz.prog 179 = some (false, 1) := by kernel_rfl
@[simp] theorem tyz_179 : tZero Tryz.prog 179 = some [.c .nilf] := by kernel_rfl
@[simp] theorem ty1_180 : tOne Tryz.prog 180 = some (false, 1) := by kernel_rfl
@[simp] theorem tyz_180 : tZero Tryz.prog 180 = some [.c .nilf] := by kernel_rfl
@[simp] theorem ty1_181 : tOne Tryz.prog 181 = some (false, 1) := by kernel_rfl
@[simp] theorem tyz_181 : tZero Tryz.prog 181 = some [.full []] := by kernel_rfl
@[simp] theorem tyl_181 : tSl Tryz.prog 181 = true := by kernel_rfl
@[simp] theorem tye_181 : tElem Tryz.prog 181 = some (23, 1, 24) := by kernel_rfl
@[simp] theorem ty1_182 : tOne Tryz.prog 182 = some (false, 1) := by kernel_rfl
@[simp] theorem tyz_182 : tZero Tryz.prog 182 = some [.c .nilf] := by kernel_rfl
@[simp] theorem ty1_183 : tOne Tryz.prog 183 = some (false, 1) := by kernel_rfl
@[simp] theorem tyz_183 : tZero Tryz.prog 183 = some [.c .nilf] := by kernel_rfl
@[simp] theorem ty1_184 : tOne Tryz.prog 184 = some (true, 2) := by kernel_rfl
@[simp] theorem tyz_184 : tZero Tryz.prog 184 = some [.c (.str ⟨#[]⟩), .c (.int .i64 0)] := by kernel_rfl
@[simp] theorem typ_184 : tPlaces Tryz.prog 184 = some fun i => ([(0, 1), (1, 1)] : List (Nat × Nat))[i]? := by kernel_rfl
@[simp] theorem tyf_184_0 : tField Tryz.prog 184 0 = some (0, 1, false) := by kernel_rfl
@[simp] theorem tyf_184_1 : tField Tryz.prog 184 1 = some (1, 1, false) := by kernel_rfl
@[simp] theorem ty1_185 : tOne Tryz.prog 185 = some (true, 2) := by kernel_rfl
@[simp] theorem tyz_185 : tZero Tryz.prog 185 = some [.c (.str ⟨#[]⟩), .c (.int .i64 0)] := by kernel_rfl
@[simp] theorem typ_185 : tPlaces Tryz.prog 185 = some fun i => ([(0, 1), (1, 1)] : List (Nat × Nat))[i]? := by kernel_rfl
@[simp] theorem tyf_185_0 : tField Tryz.prog 185 0 = some (0, 1, false) := by kernel_rfl
@[simp] theorem tyf_185_1 : tField Tryz.prog 185 1 = some (1, 1, false) := by kernel_rfl
@[simp] theorem ty1_187 : tOne Tryz.prog 187 = some (false, 1) := by kernel_rfl
@[simp] theorem tyz_187 : tZero Tryz.prog 187 = some [.c .nilf] := by kernel_rfl
@[simp] theorem ty1_188 : tOne Tryz.prog 188 = some (false, 1) := by kernel_rfl
@[simp] theorem tyz_188 : tZero Tryz.prog 188 = some [.c .nilf] := by kernel_rfl
@[simp] theorem ty1_189 : tOne Tryz.prog 189 = some (false, 1) := by kernel_rfl
@[simp] theorem tyz_189 : tZero Tryz.prog 189 = some [.c .nilf] := by kernel_rfl
@[simp] theorem ty1_190 : tOne Tryz.prog 190 = some (true, 2) := by kernel_rfl
@[simp] theorem tyz_190 : tZero Tryz.prog 190 = some [.c (.str ⟨#[]⟩), .c (.int .i64 0)] := by kernel_rfl
@[simp] theorem typ_190 : tPlaces Tryz.prog 190 = some fun i => ([(0, 1), (1, 1)] : List (Nat × Nat))[i]? := by kernel_rfl
@[simp] theorem tyf_190_0 : tField Tryz.prog 190 0 = some (0, 1, false) := by kernel_rfl
@[simp] theorem tyf_190_1 : tField Tryz.prog 190 1 = some (1, 1, false) := by kernel_rfl
@[simp] theorem ty1_191 : tOne Tryz.prog 191 = some (true, 2) := by kernel_rfl
@[simp] theorem tyz_191 : tZero Tryz.prog 191 = some [.c (.str ⟨#[]⟩), .c (.int .i64 0)] := by kernel_rfl
@[simp] theorem typ_191 : tPlaces Tryz.prog 191 = some fun i => ([(0, 1), (1, 1)] : List (Nat × Nat))[i]? := by kernel_rfl
@[simp] theorem tyf_191_0 : tField Tryz.prog 191 0 = some (0, 1, false) := by kernel_rfl
@[simp] theorem tyf_191_1 : tField Tryz.prog 191 1 = some (1, 1, false) := by kernel_rfl
@[simp] theorem ty1_193 : tOne Tryz.prog 193 = some (false, 1) := by kernel_rfl
@[simp] theorem tyz_193 : tZero Tryz.prog 193 = some [.c .nilf] := by kernel_rfl
@[simp] theorem ty1_195 : tOne Tryz.prog 195 = some (false, 1) := by kernel_rfl
@[simp] theorem tyz_195 : tZero Tryz.prog 195 = some [.c .nilf] := by kernel_rfl
@[simp] theorem ty1_196 : tOne Tryz.prog 196 = some (false, 1) := by kernel_rfl
@[simp] theorem tyz_196 : tZero Tryz.prog 196 = some [.c .nilf] := by kernel_rfl
@[simp] theorem ty1_197 : tOne Tryz.prog 197 = some (true, 5) := by kernel_rfl
@[simp] theorem tyz_197 : tZero Tryz.prog 197 = some [.c (.int .i64 0), .c (.int .i64 0), .c (.int .i64 0), .c (.int .i64 0), .c (.int .i64 0)] := by kernel_rfl
@[simp] theorem typ_197 : tPlaces Tryz.prog 197 = some fun i => ([(0, 1), (1, 1), (2, 1), (3, 1), (4, 1)] : List (Nat × Nat))[i]? := by kernel_rfl
@[simp] theorem tyf_197_0 : tField Tryz.prog 197 0 = some (0, 1, false) := by kernel_rfl
@[simp] theorem tyf_197_1 : tField Tryz.prog 197 1 = some (1, 1, false) := by kernel_rfl
@[simp] theorem tyf_197_2 : tField Tryz.prog 197 2 = some (2, 1, false) := by kernel_rfl
@[simp] theorem tyf_197_3 : tField Tryz.prog 197 3 = some (3, 1, false) := by kernel_rfl
@[simp] theorem tyf_197_4 : tField Tryz.prog 197 4 = some (4, 1, false) := by kernel_rfl
@[simp] theorem ty1_198 : tOne Tryz.prog 198 = some (true, 5) := by kernel_rfl
@[simp] theorem tyz_198 : tZero Tryz.prog 198 = some [.c (.int .i64 0), .c (.int .i64 0), .c (.int .i64 0), .c (.int .i64 0), .c (.int .i64 0)] := by kernel_rfl
@[simp] theorem typ_198 : tPlaces Tryz.prog 198 = some fun i => ([(0, 1), (1, 1), (2, 1), (3, 1), (4, 1)] : List (Nat × Nat))[i]? := by kernel_rfl
@[simp] theorem tyf_198_0 : tField Tryz.prog 198 0 = some (0, 1, false) := by kernel_rfl
@[simp] theorem tyf_198_1 : tField Tryz.prog 198 1 = some (1, 1, false) := by kernel_rfl
@[simp] theorem tyf_198_2 : tField Tryz.prog 198 2 = some (2, 1, false) := by kernel_rfl
@[simp] theorem tyf_198_3 : tField Tryz.prog 198 3 = some (3, 1, false) := by kernel_rfl
@[simp] theorem tyf_198_4 : tField Tryz.prog 198 4 = some (4, 1, false) := by kernel_rfl
@[simp] theorem ty1_199 : tOne Tryz.prog 199 = some (false, 1) := by kernel_rfl
@[simp] theorem tyz_199 : tZero Tryz.prog 199 = some [.c .nilf] := by kernel_rfl
@[simp] theorem ty1_200 : tOne Tryz.prog 200 = some (false, 1) := by kernel_rfl
@[simp] theorem tyz_200 : tZero Tryz.prog 200 = some [.c .nilf] := by kernel_rfl
@[simp] theorem ty1_201 : tOne Tryz.prog 201 = some (false, 1) := by kernel_rfl
@[simp] theorem tyz_201 : tZero Tryz.prog 201 = some [.c .nilf] := by kernel_rfl
@[simp] theorem ty1_202 : tOne Tryz.prog 202 = some (false, 1) := by kernel_rfl
@[simp] theorem tyz_202 : tZero Tryz.prog 202 = some [.c .nilf] := by kernel_rfl
@[simp] theorem ty1_203 : tOne Tryz.prog 203 = some (false, 1) := by kernel_rfl
@[simp] theorem tyz_203 : tZero Tryz.prog 203 = some [.c .nilf] := by kernel_rfl
@[simp] theorem ty1_204 : tOne Tryz.prog 204 = some (false, 1) := by kernel_rfl
@[simp] theorem tyz_204 : tZero Tryz.prog 204 = some [.c .nilf] := by kernel_rfl
@[simp] theorem ty1_205 : tOne Tryz.prog 205 = some (true, 3) := by kernel_rfl
@[simp] theorem tyz_205 : tZero Tryz.prog 205 = some [.full [], .full [], .full []] := by kernel_rfl
@[simp] theorem typ_205 : tPlaces Tryz.prog 205 = some fun i => some (i * 1, 1) := by kernel_rfl
@[simp] theorem tya_205 : tArr Tryz.prog 205 = some (3, 1, false) := by kernel_rfl
@[simp] theorem ty1_206 : tOne Tryz.prog 206 = some (true, 3) := by kernel_rfl
@[simp] theorem tyz_206 : tZero Tryz.prog 206 = some [.c (.int .i64 0), .c (.int .i64 0), .c (.int .i64 0)] := by kernel_rfl
@[simp] theorem typ_206 : tPlaces Tryz.prog 206 = some fun i => some (i * 1, 1) := by kernel_rfl
@[simp] theorem tya_206 : tArr Tryz.prog 206 = some (3, 1, false) := by kernel_rfl
@[simp] theorem ty1_208 : tOne Tryz.prog 208 = some (false, 1) := by kernel_rfl
@[simp] theorem tyz_208 : tZero Tryz.prog 208 = some [.c .nilf] := by kernel_rfl
@[simp] theorem ty1_209 : tOne Tryz.prog 209 = some (false, 1) := by kernel_rfl
@[simp] theorem tyz_209 : tZero Tryz.prog 209 = some [.c .nilf] := by kernel_rfl
@[simp] theorem ty1_211 : tOne Tryz.prog 211 = some (false, 1) := by kernel_rfl
@[simp] theorem tyz_211 : tZero Tryz.prog 211 = some [.c .nilf] := by kernel_rfl
@[simp] theorem ty1_213 : tOne Tryz.prog 213 = some (false, 1) := by kernel_rfl
@[simp] theorem tyz_213 : tZero Tryz.prog 213 = some [.c .nilf] := by kernel_rfl
@[simp] theorem ty1_214 : tOne Tryz.prog 214 = some (false, 1) := by kernel_rfl
@[simp] theorem tyz_214 : tZero Tryz.prog 214 = some [.c .nilf] := by kernel_rfl
@[simp] theorem ty1_215 : tOne Tryz.prog 215 = some (false, 1) := by kernel_rfl
@[simp] theorem tyz_215 : tZero Tryz.prog 215 = some [.c .nilf] := by kernel_rfl
@[simp] theorem ty1_216 : tOne Tryz.prog 216 = some (false, 1) := by kernel_rfl
@[simp] theorem tyz_216 : tZero Tryz.prog 216 = some [.c .nilf] := by kernel_rfl
@[simp] theorem ty1_217 : tOne Tryz.prog 217 = some (false, 1) := by kernel_rfl
@[simp] theorem tyz_217 : tZero Tryz.prog 217 = some [.c .nilf] := by kernel_rfl
@[simp] theorem ty1_218 : tOne Tryz.prog 218 = some (false, 1) := by kernel_rfl
@[simp] theorem tyz_218 : tZero Tryz.prog 218 = some [.full []] := by kernel_rfl
@[simp] theorem tyl_218 : tSl Tryz.prog 218 = true := by kernel_rfl
@[simp] theorem tye_218 : tElem Tryz.prog 218 = some (221, 2, 16) := by kernel_rfl
@[simp] theorem ty1_219 : tOne Tryz.prog 219 = some (false, 1) := by kernel_rfl
@[simp] theorem tyz_219 : tZero Tryz.prog 219 = some [.c .nilf] := by kernel_rfl
@[simp] theorem ty1_220 : tOne Tryz.prog 220 = some (true, 2) := by kernel_rfl
@[simp] theorem tyz_220 : tZero Tryz.prog 220 = some [.c (.int .i64 0), .c (.int .i64 0)] := by kernel_rfl
@[simp] theorem typ_220 : tPlaces Tryz.prog 220 = some fun i => ([(0, 1), (1, 1)] : List (Nat × Nat))[i]? := by kernel_rfl
@[simp] theorem tyf_220_0 : tField Tryz.prog 220 0 = some (0, 1, false) := by kernel_rfl
@[simp] theorem tyf_220_1 : tField Tryz.prog 220 1 = some (1, 1, false) := by kernel_rfl
@[simp] theorem ty1_221 : tOne Tryz.prog 221 = some (true, 2) := by kernel_rfl
@[simp] theorem tyz_221 : tZero Tryz.prog 221 = some [.c (.int .i64 0), .c (.int .i64 0)] := by kernel_rfl
@[simp] theorem typ_221 : tPlaces Tryz.prog 221 = some fun i => ([(0, 1), (1, 1)] : List (Nat × Nat))[i]? := by kernel_rfl
@[simp] theorem tyf_221_0 : tField Tryz.prog 221 0 = some (0, 1, false) := by kernel_rfl
@[simp] theorem tyf_221_1 : tField Tryz.prog 221 1 = some (1, 1, false) := by kernel_rfl
@[simp] theorem ty1_222 : tOne Tryz.prog 222 = some (false, 1) := by kernel_rfl
@[simp] theorem tyz_222 : tZero Tryz.prog 222 = some [.c .nilf] := by kernel_rfl
@[simp] theorem ty1_223 : tOne Tryz.prog 223 = some (false, 1) := by kernel_rfl
@[simp] theorem tyz_223 : tZero Tryz.prog 223 = some [.c .nilf] := by kernel_rfl
@[simp] theorem ty1_224 : tOne Tryz.prog 224 = some (false, 1) := by kernel_rfl
@[simp] theorem tyz_224 : tZero Tryz.prog 224 = some [.c .nilf] := by kernel_rfl
@[simp] theorem ty1_225 : tOne Tryz.prog 225 = some (false, 1) := by kernel_rfl
@[simp] theorem tyz_225 : tZero Tryz.prog 225 = some [.c .nilf] := by kernel_rfl
@[simp] theorem ty1_226 : tOne Tryz.prog 226 = some (true, 8) := by kernel_rfl
@[simp] theorem tyz_226 : tZero Tryz.prog 226 = some [.c (.int .i64 0), .c (.int .i64 0), .c (.int .i64 0), .c (.int .i64 0), .c (.int .i64 0), .c (.int .i64 0), .c (.int .i64 0), .c (.int .i64 0)] := by kernel_rfl
@[simp] theorem typ_226 : tPlaces Tryz.prog 226 = some fun i => some (i * 1, 1) := by kernel_rfl
@[simp] theorem tya_226 : tArr Tryz.prog 226 = some (8, 1, false) := by kernel_rfl
@[simp] theorem ty1_227 : tOne Tryz.prog 227 = some (true, 64) := by kernel_rfl
@[simp] theorem tyz_227 : tZero Tryz.prog 227 = some [.c (.int .i64 0), .c (.int .i64 0), .c (.int .i64 0), .c (.int .i64 0), .c (.int .i64 0), .c (.int .i64 0), .c (.int .i64 0), .c (.int .i64 0), .c (.int .i64 0), .c (.int .i64 0), .c (.int .i64 0), .c (.int .i64 0), .c (.int .i64 0), .c (.int .i64 0), .c (.int .i64 0), .c (.int .i64 0), .c (.int .i64 0), .c (.int .i64 0), .c (.int .i64 0), .c (.int .i64 0), .c (.int .i64 0), .c (.int .i64 0), .c (.int .i64 0), .c (.int .i64 0), .c (.int .i64 0), .c (.int .i64 0), .c (.int .i64 0), .c (.int .i64 0), .c (.int .i64 0), .c (.int .i64 0), .c (.int .i64 0), .c (.int .i64 0), .c (.int .i64 0), .c (.int .i64 0), .c (.int .i64 0), .c (.int .i64 0), .c (.int .i64 0), .c (.int .i64 0), .c (.int .i64 0), .c (.int .i64 0), .c (.int .i64 0), .c (.int .i64 0), .c (.int .i64 0), .c (.int .i64 0), .c (.int .i64 0), .c (.int .i64 0), .c (.int .i64 0), .c (.int .i64 0), .c (.int .i64 0), .c (.int .i64 0), .c (.int .i64 0), .c (.int .i64 0), .c (.int .i64 0), .c (.int .i64 0), .c (.int .i64 0), .c (.int .i64 0), .c (.int .i64 0), .c (.int .i64 0), .c (.int .i64 0), .c (.int .i64 0), .c (.int .i64 0), .c (.int .i64 0), .c (.int .i64 0), .c (.int .i64 0)] := by kernel_rfl
@[simp] theorem typ_227 : tPlaces Tryz.prog 227 = some fun i => some (i * 8, 8) := by kernel_rfl
@[simp] theorem tya_227 : tArr Tryz.prog 227 = some (8, 8, true) := by kernel_rfl
@[simp] theorem ty1_228 : tOne Tryz.prog 228 = some (false, 1) := by kernel_rfl
@[simp] theorem tyz_228 : tZero Tryz.prog 228 = some [.c .nilf] := by kernel_rfl
@[simp] theorem ty1_229 : tOne Tryz.prog 229 = some (false, 1) := by kernel_rfl
@[simp] theorem tyz_229 : tZero Tryz.prog 229 = some [.c .nilf] := by kernel_rfl
@[simp] theorem ty1_230 : tOne Tryz.prog 230 = some (false, 1) := by kernel_rfl
@[simp] theorem tyz_230 : tZero Tryz.prog 230 = some [.c .nilf] := by kernel_rfl
@[simp] theorem ty1_231 : tOne Tryz.prog 231 = some (false, 1) := by kernel_rfl
@[simp] theorem tyz_231 : tZero Tryz.prog 231 = some [.c .nilf] := by kernel_rfl
@[simp] theorem ty1_233 : tOne Tryz.prog 233 = some (false, 1) := by kernel_rfl
@[simp] theorem tyz_233 : tZero Tryz.prog 233 = some [.c .nilf] := by kernel_rfl
@[simp] theorem ty1_234 : tOne Tryz.prog 234 = some (false, 1) := by kernel_rfl
@[simp] theorem tyz_234 : tZero Tryz.prog 234 = some [.c .nilf] := by kernel_rfl
@[simp] theorem ty1_235 : tOne Tryz.prog 235 = some (false, 1) := by kernel_rfl
@[simp] theorem tyz_235 : tZero Tryz.prog 235 = some [.full []] := by kernel_rfl
@[simp] theorem tyl_235 : tSl Tryz.prog 235 = true := by kernel_rfl
@[simp] theorem tye_235 : tElem Tryz.prog 235 = some (239, 2, 16) := by kernel_rfl
@[simp] theorem ty1_236 : tOne Tryz.prog 236 = some (true, 13) := by kernel_rfl
@[simp] theorem tyz_236 : tZero Tryz.prog 236 = some [.full [], .full [], .full [], .full [], .full [], .full [], .full [], .full [], .full [], .full [], .full [], .full [], .full []] := by kernel_rfl
@[simp] theorem typ_236 : tPlaces Tryz.prog 236 = some fun i => some (i * 1, 1) := by kernel_rfl
@[simp] theorem tya_236 : tArr Tryz.prog 236 = some (13, 1, false) := by kernel_rfl
@[simp] theorem ty1_237 : tOne Tryz.prog 237 = some (false, 1) := by kernel_rfl
@[simp] theorem tyz_237 : tZero Tryz.prog 237 = some [.c .nilf] := by kernel_rfl
@[simp] theorem ty1_238 : tOne Tryz.prog 238 = some (true, 2) := by kernel_rfl
@[simp] theorem tyz_238 : tZero Tryz.prog 238 = some [.c .nilf, .c (.bool false)] := by kernel_rfl
@[simp] theorem typ_238 : tPlaces Tryz.prog 238 = some fun i => ([(0, 1), (1, 1)] : List (Nat × Nat))[i]? := by kernel_rfl
@[simp] theorem tyf_238_0 : tField Tryz.prog 238 0 = some (0, 1, false) := by kernel_rfl
@[simp] theorem tyf_238_1 : tField Tryz.prog 238 1 = some (1, 1, false) := by kernel_rfl
@[simp] theorem ty1_239 : tOne Tryz.prog 239 = some (true, 2) := by kernel_rfl
@[simp] theorem tyz_239 : tZero Tryz.prog 239 = some [.c .nilf, .c (.bool false)] := by kernel_rfl
@[simp] theorem typ_239 : tPlaces Tryz.prog 239 = some fun i => ([(0, 1), (1, 1)] : List (Nat × Nat))[i]? := by kernel_rfl
@[simp] theorem tyf_239_0 : tField Tryz.prog 239 0 = some (0, 1, false) := by kernel_rfl
@[simp] theorem tyf_239_1 : tField Tryz.prog 239 1 = some (1, 1, false) := by kernel_rfl
@[simp] theorem ty1_240 : tOne Tryz.prog 240 = some (false, 1) := by kernel_rfl
@[simp] theorem tyz_240 : tZero Tryz.prog 240 = some [.c .nilf] := by kernel_rfl
@[simp] theorem ty1_241 : tOne Tryz.prog 241 = some (false, 1) := by kernel_rfl
@[simp] theorem tyz_241 : tZero Tryz.prog 241 = some [.c .nilp] := by kernel_rfl
@[simp] theorem ty1_242 : tOne Tryz.prog 242 = some (false, 1) := by kernel_rfl
@[simp] theorem tyz_242 : tZero Tryz.prog 242 = some [.c .nilf] := by kernel_rfl
@[simp] theorem ty1_243 : tOne Tryz.prog 243 = some (false, 1) := by kernel_rfl
@[simp] theorem tyz_243 : tZero Tryz.prog 243 = some [.c .nilf] := by kernel_rfl
@[simp] theorem ty1_244 : tOne Tryz.prog 244 = some (false, 1) := by kernel_rfl
@[simp] theorem tyz_244 : tZero Tryz.prog 244 = some [.c .nilf] := by kernel_rfl
@[simp] theorem ty1_245 : tOne Tryz.prog 245 = some (true, 6) := by kernel_rfl
@[simp] theorem tyz_245 : tZero Tryz.prog 245 = some [.c (.str ⟨#[]⟩), .c (.str ⟨#[]⟩), .c (.str ⟨#[]⟩), .c (.str ⟨#[]⟩), .c (.str ⟨#[]⟩), .c (.str ⟨#[]⟩)] := by kernel_rfl
@[simp] theorem typ_245 : tPlaces Tryz.prog 245 = some fun i => some (i * 1, 1) := by kernel_rfl
@[simp] theorem tya_245 : tArr Tryz.prog 245 = some (6, 1, false) := by kernel_rfl
@[simp] theorem ty1_246 : tOne Tryz.prog 246 = some (false, 1) := by kernel_rfl
@[simp] theorem tyz_246 : tZero Tryz.prog 246 = some [.c .nilf] := by kernel_rfl
@[simp] theorem ty1_247 : tOne Tryz.prog 247 = some (false, 1) := by kernel_rfl
@[simp] theorem tyz_247 : tZero Tryz.prog 247 = some [.c .nilf] := by kernel_rfl
@[simp] theorem ty1_248 : tOne Tryz.prog 248 = some (false, 1) := by kernel_rfl
@[simp] theorem tyz_248 : tZero Tryz.prog 248 = some [.c .nilf] := by kernel_rfl
@[simp] theorem ty1_249 : tOne Tryz.prog 249 = some (false, 1) := by kernel_rfl
@[simp] theorem tyz_249 : tZero Tryz.prog 249 = some [.c .nilf] := by kernel_rfl
@[simp] theorem ty1_250 : tOne Tryz.prog 250 = some (false, 1) := by kernel_rfl
@[simp] theorem tyz_250 : tZero Tryz.prog 250 = some [.c .nilf] := by kernel_rfl
@[simp] theorem ty1_251 : tOne Tryz.prog 251 = some (false, 1) := by kernel_rfl
@[simp] theorem tyz_251 : tZero Tryz.prog 251 = some [.c (.int .u64 0)] := by kernel_rfl
@[simp] theorem tyi_251 : tInt Tryz.prog 251 = some .u64 := by kernel_rfl
@[simp] theorem ty1_252 : tOne Tryz.prog 252 = some (false, 1) := by kernel_rfl
@[simp] theorem tyz_252 : tZero Tryz.prog 252 = some [.c .nilf] := by kernel_rfl
@[simp] theorem ty1_253 : tOne Tryz.prog 253 = some (false, 1) := by kernel_rfl
@[simp] theorem tyz_253 : tZero Tryz.prog 253 = some [.c .nilf] := by kernel_rfl
@[simp] theorem ty1_254 : tOne Tryz.prog 254 = some (false, 1) := by kernel_rfl
@[simp] theorem tyz_254 : tZero Tryz.prog 254 = some [.c .nilf] := by kernel_rfl
@[simp] theorem ty1_255 : tOne Tryz.prog 255 = some (false, 1) := by kernel_rfl
@[simp] theorem tyz_255 : tZero Tryz.prog 255 = some [.c .nilf] := by kernel_rfl
@[simp] theorem ty1_256 : tOne Tryz.prog 256 = some (true, 8) := by kernel_rfl
@[simp] theorem tyz_256 : tZero Tryz.prog 256 = some [.c (.int .i64 0), .c (.int .i64 0), .c (.int .i64 0), .c (.int .i64 0), .c (.int .i64 0), .c (.int .i64 0), .c (.int .i64 0), .c (.int .i64 0)] := by kernel_rfl
@[simp] theorem typ_256 : tPlaces Tryz.prog 256 = some fun i => some (i * 4, 4) := by kernel_rfl
@[simp] theorem tya_256 : tArr Tryz.prog 256 = some (2, 4, true) := by kernel_rfl
@[simp] theorem ty1_257 : tOne Tryz.prog 257 = some (false, 1) := by kernel_rfl
@[simp] theorem tyz_257 : tZero Tryz.prog 257 = some [.c .nilf] := by kernel_rfl
@[simp] theorem ty1_258 : tOne Tryz.prog 258 = some (false, 1) := by kernel_rfl
@[simp] theorem tyz_258 : tZero Tryz.prog 258 = some [.c .nilf] := by kernel_rfl
@[simp] theorem ty1_259 : tOne Tryz.prog 259 = some (false, 1) := by kernel_rfl
@[simp] theorem tyz_259 : tZero Tryz.prog 259 = some [.c (.int .u32 0)] := by kernel_rfl
@[simp] theorem tyi_259 : tInt Tryz.prog 259 = some .u32 := by kernel_rfl
@[simp] theorem ty1_261 : tOne Tryz.prog 261 = some (false, 1) := by kernel_rfl
@[simp] theorem tyz_261 : tZero Tryz.prog 261 = some [.c .nilf] := by kernel_rfl
@[simp] theorem ty1_262 : tOne Tryz.prog 262 = some (false, 1) := by kernel_rfl
@[simp] theorem tyz_262 : tZero Tryz.prog 262 = some [.c .nilf] := by kernel_rfl
@[simp] theorem ty1_263 : tOne Tryz.prog 263 = some (false, 1) := by kernel_rfl
@[simp] theorem tyz_263 : tZero Tryz.prog 263 = some [.c .nilf] := by kernel_rfl
@[simp] theorem ty1_264 : tOne Tryz.prog 264 = some (true, 5) := by kernel_rfl
@[simp] theorem tyz_264 : tZero Tryz.prog 264 = some [.c (.int .i64 0), .c (.int .i64 0), .c (.int .i64 0), .c (.int .i64 0), .c (.int .i64 0)] := by kernel_rfl
@[simp] theorem typ_264 : tPlaces Tryz.prog 264 = some fun i => some (i * 1, 1) := by kernel_rfl
@[simp] theorem tya_264 : tArr Tryz.prog 264 = some (5, 1, false) := by kernel_rfl
@[simp] theorem ty1_265 : tOne Tryz.prog 265 = some (false, 1) := by kernel_rfl
@[simp] theorem tyz_265 : tZero Tryz.prog 265 = some [.c .nilf] := by kernel_rfl
@[simp] theorem ty1_266 : tOne Tryz.prog 266 = some (false, 1) := by kernel_rfl
@[simp] theorem tyz_266 : tZero Tryz.prog 266 = some [.c .nilf] := by kernel_rfl
@[simp] theorem ty1_267 : tOne Tryz.prog 267 = some (true, 4) := by kernel_rfl
@[simp] theorem tyz_267 : tZero Tryz.prog 267 = some [.c .nilp, .c .nilp, .c .nilp, .c (.str ⟨#[]⟩)] := by kernel_rfl
@[simp] theorem typ_267 : tPlaces Tryz.prog 267 = some fun i => ([(0, 1), (1, 1), (2, 1), (3, 1)] : List (Nat × Nat))[i]? := by kernel_rfl
@[simp] theorem tyf_267_0 : tField Tryz.prog 267 0 = some (0, 1, false) := by kernel_rfl
@[simp] theorem tyf_267_1 : tField Tryz.prog 267 1 = some (1, 1, false) := by kernel_rfl
@[simp] theorem tyf_267_2 : tField Tryz.prog 267 2 = some (2, 1, false) := by kernel_rfl
@[simp] theorem tyf_267_3 : tField Tryz.prog 267 3 = some (3, 1, false) := by kernel_rfl
@[simp] theorem ty1_268 : tOne Tryz.prog 268 = some (true, 4) := by kernel_rfl
@[simp] theorem tyz_268 : tZero Tryz.prog 268 = some [.c .nilp, .c .nilp, .c .nilp, .c (.str ⟨#[]⟩)] := by kernel_rfl
@[simp] theorem typ_268 : tPlaces Tryz.prog 268 = some fun i => ([(0, 1), (1, 1), (2, 1), (3, 1)] : List (Nat × Nat))[i]? := by kernel_rfl
@[simp] theorem tyf_268_0 : tField Tryz.prog 268 0 = some (0, 1, false) := by kernel_rfl
@[simp] theorem tyf_268_1 : tField Tryz.prog 268 1 = some (1, 1, false) := by kernel_rfl
@[simp] theorem tyf_268_2 : tField Tryz.prog 268 2 = some (2, 1, false) := by kernel_rfl
@[simp] theorem tyf_268_3 : tField Tryz.prog 268 3 = some (3, 1, false) := by kernel_rfl
@[simp] theorem ty1_269 : tOne Tryz.prog 269 = some (true, 0) := by kernel_rfl
@[simp] theorem tyz_269 : tZero Tryz.prog 269 = some [] := by kernel_rfl
@[simp] theorem typ_269 : tPlaces Tryz.prog 269 = some fun i => some (i * 1, 1) := by kernel_rfl
@[simp] theorem tya_269 : tArr Tryz.prog 269 = some (0, 1, false) := by kernel_rfl
@[simp] theorem ty1_270 : tOne Tryz.prog 270 = some (true, 0) := by kernel_rfl
@[simp] theorem tyz_270 : tZero Tryz.prog 270 = some [] := by kernel_rfl
@[simp] theorem typ_270 : tPlaces Tryz.prog 270 = some fun i => ([(0, 0)] : List (Nat × Nat))[i]? := by kernel_rfl
@[simp] theorem tyf_270_0 : tField Tryz.prog 270 0 = some (0, 0, true) := by kernel_rfl
@[simp] theorem ty1_271 : tOne Tryz.prog 271 = some (true, 0) := by kernel_rfl
@[simp] theorem tyz_271 : tZero Tryz.prog 271 = some [] := by kernel_rfl
@[simp] theorem typ_271 : tPlaces Tryz.prog 271 = some fun i => ([(0, 0)] : List (Nat × Nat))[i]? := by kernel_rfl
@[simp] theorem tyf_271_0 : tField Tryz.prog 271 0 = some (0, 0, true) := by kernel_rfl
@[simp] theorem ty1_272 : tOne Tryz.prog 272 = some (false, 1) := by kernel_rfl
@[simp] theorem tyz_272 : tZero Tryz.prog 272 = some [.c (.int .u8 0)] := by kernel_rfl
@[simp] theorem tyi_272 : tInt Tryz.prog 272 = some .u8 := by kernel_rfl
@[simp] theorem ty1_273 : tOne Tryz.prog 273 = some (false, 1) := by kernel_rfl
@[simp] theorem tyz_273 : tZero Tryz.prog 273 = some [.c (.int .u8 0)] := by kernel_rfl
@[simp] theorem tyi_273 : tInt Tryz.prog 273 = some .u8 := by kernel_rfl
@[simp] theorem ty1_274 : tOne Tryz.prog 274 = some (false, 1) := by kernel_rfl
@[simp] theorem tyz_274 : tZero Tryz.prog 274 = some [.c .nilf] := by kernel_rfl
@[simp] theorem ty1_275 : tOne Tryz.prog 275 = some (false, 1) := by kernel_rfl
@[simp] theorem tyz_275 : tZero Tryz.prog 275 = some [.c .nilp] := by kernel_rfl
@[simp] theorem ty1_276 : tOne Tryz.prog 276 = some (false, 1) := by kernel_rfl
@[simp] theorem tyz_276 : tZero Tryz.prog 276 = some [.c (.int .i32 0)] := by kernel_rfl
@[simp] theorem tyi_276 : tInt Tryz.prog 276 = some .i32 := by kernel_rfl
@[simp] theorem ty1_277 : tOne Tryz.prog 277 = some (false, 1) := by kernel_rfl
@[simp] theorem tyz_277 : tZero Tryz.prog 277 = some [.c (.int .i32 0)] := by kernel_rfl
@[simp] theorem tyi_277 : tInt Tryz.prog 277 = some .i32 := by kernel_rfl
@[simp] theorem ty1_278 : tOne Tryz.prog 278 = some (true, 11) := by kernel_rfl
@[simp] theorem tyz_278 : tZero Tryz.prog 278 = some [.c (.int .u64 0), .c (.int .u64 0), .c (.int .u32 0), .c (.int .u8 0), .c (.int .u8 0), .c (.int .u8 0), .c (.int .u8 0), .c .nilf, .c .nilp, .c (.int .i32 0), .c (.int .i32 0)] := by kernel_rfl
@[simp] theorem typ_278 : tPlaces Tryz.prog 278 = some fun i => ([(0, 1), (1, 1), (2, 1), (3, 1), (4, 1), (5, 1), (6, 1), (7, 1), (8, 1), (9, 1), (10, 1)] : List (Nat × Nat))[i]? := by kernel_rfl
@[simp] theorem tyf_278_0 : tField Tryz.prog 278 0 = some (0, 1, false) := by kernel_rfl
@[simp] theorem tyf_278_1 : tField Tryz.prog 278 1 = some (1, 1, false) := by kernel_rfl
@[simp] theorem tyf_278_2 : tField Tryz.prog 278 2 = some (2, 1, false) := by kernel_rfl
@[simp] theorem tyf_278_3 : tField Tryz.prog 278 3 = some (3, 1, false) := by kernel_rfl
@[simp] theorem tyf_278_4 : tField Tryz.prog 278 4 = some (4, 1, false) := by kernel_rfl
@[simp] theorem tyf_278_5 : tField Tryz.prog 278 5 = some (5, 1, false) := by kernel_rfl
@[simp] theorem tyf_278_6 : tField Tryz.prog 278 6 = some (6, 1, false) := by kernel_rfl
@[simp] theorem tyf_278_7 : tField Tryz.prog 278 7 = some (7, 1, false) := by kernel_rfl
@[simp] theorem tyf_278_8 : tField Tryz.prog 278 8 = some (8, 1, false) := by kernel_rfl
@[simp] theorem tyf_278_9 : tField Tryz.prog 278 9 = some (9, 1, false) := by kernel_rfl
@[simp] theorem tyf_278_10 : tField Tryz.prog 278 10 = some (10, 1, false) := by kernel_rfl
@[simp] theorem ty1_279 : tOne Tryz.prog 279 = some (true, 11) := by kernel_rfl
@[simp] theorem tyz_279 : tZero Tryz.prog 279 = some [.c (.int .u64 0), .c (.int .u64 0), .c (.int .u32 0), .c (.int .u8 0), .c (.int .u8 0), .c (.int .u8 0), .c (.int .u8 0), .c .nilf, .c .nilp, .c (.int .i32 0), .c (.int .i32 0)] := by kernel_rfl
@[simp] theorem typ_279 : tPlaces Tryz.prog 279 = some fun i => ([(0, 1), (1, 1), (2, 1), (3, 1), (4, 1), (5, 1), (6, 1), (7, 1), (8, 1), (9, 1), (10, 1)] : List (Nat × Nat))[i]? := by kernel_rfl
@[simp] theorem tyf_279_0 : tField Tryz.prog 279 0 = some (0, 1, false) := by kernel_rfl
@[simp] theorem tyf_279_1 : tField Tryz.prog 279 1 = some (1, 1, false) := by kernel_rfl
@[simp] theorem tyf_279_2 : tField Tryz.prog 279 2 = some (2, 1, false) := by kernel_rfl
@[simp] theorem tyf_279_3 : tField Tryz.prog 279 3 = some (3, 1, false) := by kernel_rfl
@[simp] theorem tyf_279_4 : tField Tryz.prog 279 4 = some (4, 1, false) := by kernel_rfl
@[simp] theorem tyf_279_5 : tField Tryz.prog 279 5 = some (5, 1, false) := by kernel_rfl
@[simp] theorem tyf_279_6 : tField Tryz.prog 279 6 = some (6, 1, false) := by kernel_rfl
@[simp] theorem tyf_279_7 : tField Tryz.prog 279 7 = some (7, 1, false) := by kernel_rfl
@[simp] theorem tyf_279_8 : tField Tryz.prog 279 8 = some (8, 1, false) := by kernel_rfl
@[simp] theorem tyf_279_9 : tField Tryz.prog 279 9 = some (9, 1, false) := by kernel_rfl
@[simp] theorem tyf_279_10 : tField Tryz.prog 279 10 = some (10, 1, false) := by kernel_rfl
@[simp] theorem ty1_280 : tOne Tryz.prog 280 = some (false, 1) := by kernel_rfl
@[simp] theorem tyz_280 : tZero Tryz.prog 280 = some [.c .nilp] := by kernel_rfl
end Go.Proofs.YtnpenchciinmmaaGreat
