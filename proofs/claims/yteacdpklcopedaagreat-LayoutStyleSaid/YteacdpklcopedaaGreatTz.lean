/- Facts on the table of types of this seat's program, printed by a program (gentypes.py); each is reckoned by the kernel. -/
import Derived.Test.YteacdpklcopedaaGreatTy
import Derived.Test.YteacdpklcopedaaGreatProg
import Derived.KernelRfl
namespace Go.Proofs.YteacdpklcopedaaGreat
@[simp] theorem ty1_119 : tOne Tryz.prog 119 = some (false, 1) := by kernel_rfl
@[simp] theorem tyz_119 : tZero Tryz.prog 119 = some [.any] := by kernel_rfl
@[simp] theorem ty1_120 : tOne Tryz.prog 120 = some (false, 1) := by kernel_rfl
@[simp] theorem tyz_120 : tZero Tryz.prog 120 = some [.c .nilp] := by kernel_rfl
@[simp] theorem ty1_121 : tOne Tryz.prog 121 = some (false, 1) := by kernel_rfl
@[simp] theorem tyz_121 : tZero Tryz.prog 121 = some [.c .nilf] := by kernel_rfl
@[simp] theorem ty1_123 : tOne Tryz.prog 123 = some (false, 1) := by kernel_rfl
@[simp] theorem tyz_123 : tZero Tryz.prog 123 = some [.c .nilf] := by kernel_rfl
@[simp] theorem ty1_124 : tOne Tryz.prog 124 = some (false, 1) := by kernel_rfl
@[simp] theorem tyz_124 : tZero Tryz.prog 124 = some [.full []] := by kernel_rfl
@[simp] theorem tyl_124 : tSl Tryz.prog 124 = true := by kernel_rfl
@[simp] theorem tye_124 : tElem Tryz.prog 124 = some (158, 2, 24) := by kernel_rfl
@[simp] theorem ty1_125 : tOne Tryz.prog 125 = some (true, 4) := by kernel_rfl
@[simp] theorem tyz_125 : tZero Tryz.prog 125 = some [.c (.str ⟨#[]⟩), .full [], .full [], .c (.int .i64 0)] := by kernel_rfl
@[simp] theorem typ_125 : tPlaces Tryz.prog 125 = some fun i => ([(0, 1), (1, 1), (2, 1), (3, 1)] : List (Nat × Nat))[i]? := by kernel_rfl
@[simp] theorem tyf_125_0 : tField Tryz.prog 125 0 = some (0, 1, false) := by kernel_rfl
@[simp] theorem tyf_125_1 : tField Tryz.prog 125 1 = some (1, 1, false) := by kernel_rfl
@[simp] theorem tyf_125_2 : tField Tryz.prog 125 2 = some (2, 1, false) := by kernel_rfl
@[simp] theorem tyf_125_3 : tField Tryz.prog 125 3 = some (3, 1, false) := by kernel_rfl
@[simp] theorem ty1_126 : tOne Tryz.prog 126 = some (true, 4) := by kernel_rfl
@[simp] theorem tyz_126 : tZero Tryz.prog 126 = some [.c (.str ⟨#[]⟩), .full [], .full [], .c (.int .i64 0)] := by kernel_rfl
@[simp] theorem typ_126 : tPlaces Tryz.prog 126 = some fun i => ([(0, 1), (1, 1), (2, 1), (3, 1)] : List (Nat × Nat))[i]? := by kernel_rfl
@[simp] theorem tyf_126_0 : tField Tryz.prog 126 0 = some (0, 1, false) := by kernel_rfl
@[simp] theorem tyf_126_1 : tField Tryz.prog 126 1 = some (1, 1, false) := by kernel_rfl
@[simp] theorem tyf_126_2 : tField Tryz.prog 126 2 = some (2, 1, false) := by kernel_rfl
@[simp] theorem tyf_126_3 : tField Tryz.prog 126 3 = some (3, 1, false) := by kernel_rfl
@[simp] theorem ty1_127 : tOne Tryz.prog 127 = some (false, 1) := by kernel_rfl
@[simp] theorem tyz_127 : tZero Tryz.prog 127 = some [.c .nilf] := by kernel_rfl
@[simp] theorem ty1_128 : tOne Tryz.prog 128 = some (false, 1) := by kernel_rfl
@[simp] theorem tyz_128 : tZero Tryz.prog 128 = some [.any] := by kernel_rfl
@[simp] theorem ty1_129 : tOne Tryz.prog 129 = some (true, 4) := by kernel_rfl
@[simp] theorem tyz_129 : tZero Tryz.prog 129 = some [.c (.str ⟨#[]⟩), .c (.int .i64 0), .c (.bool false), .c (.bool false)] := by kernel_rfl
@[simp] theorem typ_129 : tPlaces Tryz.prog 129 = some fun i => ([(0, 1), (1, 1), (2, 1), (3, 1)] : List (Nat × Nat))[i]? := by kernel_rfl
@[simp] theorem tyf_129_0 : tField Tryz.prog 129 0 = some (0, 1, false) := by kernel_rfl
@[simp] theorem tyf_129_1 : tField Tryz.prog 129 1 = some (1, 1, false) := by kernel_rfl
@[simp] theorem tyf_129_2 : tField Tryz.prog 129 2 = some (2, 1, false) := by kernel_rfl
@[simp] theorem tyf_129_3 : tField Tryz.prog 129 3 = some (3, 1, false) := by kernel_rfl
@[simp] theorem ty1_130 : tOne Tryz.prog 130 = some (true, 4) := by kernel_rfl
@[simp] theorem tyz_130 : tZero Tryz.prog 130 = some [.c (.str ⟨#[]⟩), .c (.int .i64 0), .c (.bool false), .c (.bool false)] := by kernel_rfl
@[simp] theorem typ_130 : tPlaces Tryz.prog 130 = some fun i => ([(0, 1), (1, 1), (2, 1), (3, 1)] : List (Nat × Nat))[i]? := by kernel_rfl
@[simp] theorem tyf_130_0 : tField Tryz.prog 130 0 = some (0, 1, false) := by kernel_rfl
@[simp] theorem tyf_130_1 : tField Tryz.prog 130 1 = some (1, 1, false) := by kernel_rfl
@[simp] theorem tyf_130_2 : tField Tryz.prog 130 2 = some (2, 1, false) := by kernel_rfl
@[simp] theorem tyf_130_3 : tField Tryz.prog 130 3 = some (3, 1, false) := by kernel_rfl
@[simp] theorem ty1_131 : tOne Tryz.prog 131 = some (false, 1) := by kernel_rfl
@[simp] theorem tyz_131 : tZero Tryz.prog 131 = some [.c .nilf] := by kernel_rfl
@[simp] theorem ty1_132 : tOne Tryz.prog 132 = some (false, 1) := by kernel_rfl
@[simp] theorem tyz_132 : tZero Tryz.prog 132 = some [.c .nilf] := by kernel_rfl
@[simp] theorem ty1_133 : tOne Tryz.prog 133 = some (false, 1) := by kernel_rfl
@[simp] theorem tyz_133 : tZero Tryz.prog 133 = some [.c .nilf] := by kernel_rfl
@[simp] theorem ty1_135 : tOne Tryz.prog 135 = some (false, 1) := by kernel_rfl
@[simp] theorem tyz_135 : tZero Tryz.prog 135 = some [.c .nilf] := by kernel_rfl
@[simp] theorem ty1_136 : tOne Tryz.prog 136 = some (false, 1) := by kernel_rfl
@[simp] theorem tyz_136 : tZero Tryz.prog 136 = some [.c .nilf] := by kernel_rfl
@[simp] theorem ty1_137 : tOne Tryz.prog 137 = some (false, 1) := by kernel_rfl
@[simp] theorem tyz_137 : tZero Tryz.prog 137 = some [.c .nilf] := by kernel_rfl
@[simp] theorem ty1_138 : tOne Tryz.prog 138 = some (false, 1) := by kernel_rfl
@[simp] theorem tyz_138 : tZero Tryz.prog 138 = some [.c .nilf] := by kernel_rfl
@[simp] theorem ty1_139 : tOne Tryz.prog 139 = some (false, 1) := by kernel_rfl
@[simp] theorem tyz_139 : tZero Tryz.prog 139 = some [.c .nilf] := by kernel_rfl
@[simp] theorem ty1_140 : tOne Tryz.prog 140 = some (false, 1) := by kernel_rfl
@[simp] theorem tyz_140 : tZero Tryz.prog 140 = some [.c .nilf] := by kernel_rfl
@[simp] theorem ty1_141 : tOne Tryz.prog 141 = some (false, 1) := by kernel_rfl
@[simp] theorem tyz_141 : tZero Tryz.prog 141 = some [.c .nilf] := by kernel_rfl
@[simp] theorem ty1_142 : tOne Tryz.prog 142 = some (false, 1) := by kernel_rfl
@[simp] theorem tyz_142 : tZero Tryz.prog 142 = some [.c .nilf] := by kernel_rfl
@[simp] theorem ty1_143 : tOne Tryz.prog 143 = some (false, 1) := by kernel_rfl
@[simp] theorem tyz_143 : tZero Tryz.prog 143 = some [.c .nilf] := by kernel_rfl
@[simp] theorem ty1_144 : tOne Tryz.prog 144 = some (false, 1) := by kernel_rfl
@[simp] theorem tyz_144 : tZero Tryz.prog 144 = some [.c .nilf] := by kernel_rfl
@[simp] theorem ty1_145 : tOne Tryz.prog 145 = some (false, 1) := by kernel_rfl
@[simp] theorem tyz_145 : tZero Tryz.prog 145 = some [.c .nilf] := by kernel_rfl
@[simp] theorem ty1_146 : tOne Tryz.prog 146 = some (false, 1) := by kernel_rfl
@[simp] theorem tyz_146 : tZero Tryz.prog 146 = some [.c .nilf] := by kernel_rfl
@[simp] theorem ty1_147 : tOne Tryz.prog 147 = some (false, 1) := by kernel_rfl
@[simp] theorem tyz_147 : tZero Tryz.prog 147 = some [.full []] := by kernel_rfl
@[simp] theorem tyl_147 : tSl Tryz.prog 147 = true := by kernel_rfl
@[simp] theorem tye_147 : tElem Tryz.prog 147 = some (25, 1, 24) := by kernel_rfl
@[simp] theorem ty1_148 : tOne Tryz.prog 148 = some (false, 1) := by kernel_rfl
@[simp] theorem tyz_148 : tZero Tryz.prog 148 = some [.c .nilf] := by kernel_rfl
@[simp] theorem ty1_149 : tOne Tryz.prog 149 = some (false, 1) := by kernel_rfl
@[simp] theorem tyz_149 : tZero Tryz.prog 149 = some [.c .nilf] := by kernel_rfl
@[simp] theorem ty1_150 : tOne Tryz.prog 150 = some (false, 1) := by kernel_rfl
@[simp] theorem tyz_150 : tZero Tryz.prog 150 = some [.c .nilf] := by kernel_rfl
@[simp] theorem ty1_151 : tOne Tryz.prog 151 = some (false, 1) := by kernel_rfl
@[simp] theorem tyz_151 : tZero Tryz.prog 151 = some [.c .nilf] := by kernel_rfl
@[simp] theorem ty1_152 : tOne Tryz.prog 152 = some (false, 1) := by kernel_rfl
@[simp] theorem tyz_152 : tZero Tryz.prog 152 = some [.c .nilf] := by kernel_rfl
@[simp] theorem ty1_153 : tOne Tryz.prog 153 = some (false, 1) := by kernel_rfl
@[simp] theorem tyz_153 : tZero Tryz.prog 153 = some [.c .nilf] := by kernel_rfl
@[simp] theorem ty1_154 : tOne Tryz.prog 154 = some (false, 1) := by kernel_rfl
@[simp] theorem tyz_154 : tZero Tryz.prog 154 = some [.c .nilf] := by kernel_rfl
@[simp] theorem ty1_155 : tOne Tryz.prog 155 = some (false, 1) := by kernel_rfl
@[simp] theorem tyz_155 : tZero Tryz.prog 155 = some [.c .nilf] := by kernel_rfl
@[simp] theorem ty1_156 : tOne Tryz.prog 156 = some (false, 1) := by kernel_rfl
@[simp] theorem tyz_156 : tZero Tryz.prog 156 = some [.c .nilf] := by kernel_rfl
@[simp] theorem ty1_157 : tOne Tryz.prog 157 = some (true, 2) := by kernel_rfl
@[simp] theorem tyz_157 : tZero Tryz.prog 157 = some [.c (.str ⟨#[]⟩), .c (.bool false)] := by kernel_rfl
@[simp] theorem typ_157 : tPlaces Tryz.prog 157 = some fun i => ([(0, 1), (1, 1)] : List (Nat × Nat))[i]? := by kernel_rfl
@[simp] theorem tyf_157_0 : tField Tryz.prog 157 0 = some (0, 1, false) := by kernel_rfl
@[simp] theorem tyf_157_1 : tField Tryz.prog 157 1 = some (1, 1, false) := by kernel_rfl
@[simp] theorem ty1_158 : tOne Tryz.prog 158 = some (true, 2) := by kernel_rfl
@[simp] theorem tyz_158 : tZero Tryz.prog 158 = some [.c (.str ⟨#[]⟩), .c (.bool false)] := by kernel_rfl
@[simp] theorem typ_158 : tPlaces Tryz.prog 158 = some fun i => ([(0, 1), (1, 1)] : List (Nat × Nat))[i]? := by kernel_rfl
@[simp] theorem tyf_158_0 : tField Tryz.prog 158 0 = some (0, 1, false) := by kernel_rfl
@[simp] theorem tyf_158_1 : tField Tryz.prog 158 1 = some (1, 1, false) := by kernel_rfl
@[simp] theorem ty1_159 : tOne Tryz.prog 159 = some (false, 1) := by kernel_rfl
@[simp] theorem tyz_159 : tZero Tryz.prog 159 = some [.c .nilf] := by kernel_rfl
@[simp] theorem ty1_160 : tOne Tryz.prog 160 = some (true, 2) := by kernel_rfl
@[simp] theorem tyz_160 : tZero Tryz.prog 160 = some [.c (.str ⟨#[]⟩), .c (.int .i64 0)] := by kernel_rfl
@[simp] theorem typ_160 : tPlaces Tryz.prog 160 = some fun i => ([(0, 1), (1, 1)] : List (Nat × Nat))[i]? := by kernel_rfl
@[simp] theorem tyf_160_0 : tField Tryz.prog 160 0 = some (0, 1, false) := by kernel_rfl
@[simp] theorem tyf_160_1 : tField Tryz.prog 160 1 = some (1, 1, false) := by kernel_rfl
@[simp] theorem ty1_161 : tOne Tryz.prog 161 = some (true, 2) := by kernel_rfl
@[simp] theorem tyz_161 : tZero Tryz.prog 161 = some [.c (.str ⟨#[]⟩), .c (.int .i64 0)] := by kernel_rfl
@[simp] theorem typ_161 : tPlaces Tryz.prog 161 = some fun i => ([(0, 1), (1, 1)] : List (Nat × Nat))[i]? := by kernel_rfl
@[simp] theorem tyf_161_0 : tField Tryz.prog 161 0 = some (0, 1, false) := by kernel_rfl
@[simp] theorem tyf_161_1 : tField Tryz.prog 161 1 = some (1, 1, false) := by kernel_rfl
@[simp] theorem ty1_163 : tOne Tryz.prog 163 = some (false, 1) := by kernel_rfl
@[simp] theorem tyz_163 : tZero Tryz.prog 163 = some [.c .nilf] := by kernel_rfl
@[simp] theorem ty1_164 : tOne Tryz.prog 164 = some (false, 1) := by kernel_rfl
@[simp] theorem tyz_164 : tZero Tryz.prog 164 = some [.c .nilf] := by kernel_rfl
@[simp] theorem ty1_165 : tOne Tryz.prog 165 = some (false, 1) := by kernel_rfl
@[simp] theorem tyz_165 : tZero Tryz.prog 165 = some [.c .nilf] := by kernel_rfl
@[simp] theorem ty1_166 : tOne Tryz.prog 166 = some (true, 2) := by kernel_rfl
@[simp] theorem tyz_166 : tZero Tryz.prog 166 = some [.c (.str ⟨#[]⟩), .c (.int .i64 0)] := by kernel_rfl
@[simp] theorem typ_166 : tPlaces Tryz.prog 166 = some fun i => ([(0, 1), (1, 1)] : List (Nat × Nat))[i]? := by kernel_rfl
@[simp] theorem tyf_166_0 : tField Tryz.prog 166 0 = some (0, 1, false) := by kernel_rfl
@[simp] theorem tyf_166_1 : tField Tryz.prog 166 1 = some (1, 1, false) := by kernel_rfl
@[simp] theorem ty1_167 : tOne Tryz.prog 167 = some (true, 2) := by kernel_rfl
@[simp] theorem tyz_167 : tZero Tryz.prog 167 = some [.c (.str ⟨#[]⟩), .c (.int .i64 0)] := by kernel_rfl
@[simp] theorem typ_167 : tPlaces Tryz.prog 167 = some fun i => ([(0, 1), (1, 1)] : List (Nat × Nat))[i]? := by kernel_rfl
@[simp] theorem tyf_167_0 : tField Tryz.prog 167 0 = some (0, 1, false) := by kernel_rfl
@[simp] theorem tyf_167_1 : tField Tryz.prog 167 1 = some (1, 1, false) := by kernel_rfl
@[simp] theorem ty1_169 : tOne Tryz.prog 169 = some (false, 1) := by kernel_rfl
@[simp] theorem tyz_169 : tZero Tryz.prog 169 = some [.c .nilf] := by kernel_rfl
@[simp] theorem ty1_170 : tOne Tryz.prog 170 = some (false, 1) := by kernel_rfl
@[simp] theorem tyz_170 : tZero Tryz.prog 170 = some [.c .nilf] := by kernel_rfl
@[simp] theorem ty1_171 : tOne Tryz.prog 171 = some (true, 5) := by kernel_rfl
@[simp] theorem tyz_171 : tZero Tryz.prog 171 = some [.c (.int .i64 0), .c (.int .i64 0), .c (.int .i64 0), .c (.int .i64 0), .c (.int .i64 0)] := by kernel_rfl
@[simp] theorem typ_171 : tPlaces Tryz.prog 171 = some fun i => ([(0, 1), (1, 1), (2, 1), (3, 1), (4, 1)] : List (Nat × Nat))[i]? := by kernel_rfl
@[simp] theorem tyf_171_0 : tField Tryz.prog 171 0 = some (0, 1, false) := by kernel_rfl
@[simp] theorem tyf_171_1 : tField Tryz.prog 171 1 = some (1, 1, false) := by kernel_rfl
@[simp] theorem tyf_171_2 : tField Tryz.prog 171 2 = some (2, 1, false) := by kernel_rfl
@[simp] theorem tyf_171_3 : tField Tryz.prog 171 3 = some (3, 1, false) := by kernel_rfl
@[simp] theorem tyf_171_4 : tField Tryz.prog 171 4 = some (4, 1, false) := by kernel_rfl
@[simp] theorem ty1_172 : tOne Tryz.prog 172 = some (true, 5) := by kernel_rfl
@[simp] theorem tyz_172 : tZero Tryz.prog 172 = some [.c (.int .i64 0), .c (.int .i64 0), .c (.int .i64 0), .c (.int .i64 0), .c (.int .i64 0)] := by kernel_rfl
@[simp] theorem typ_172 : tPlaces Tryz.prog 172 = some fun i => ([(0, 1), (1, 1), (2, 1), (3, 1), (4, 1)] : List (Nat × Nat))[i]? := by kernel_rfl
@[simp] theorem tyf_172_0 : tField Tryz.prog 172 0 = some (0, 1, false) := by kernel_rfl
@[simp] theorem tyf_172_1 : tField Tryz.prog 172 1 = some (1, 1, false) := by kernel_rfl
@[simp] theorem tyf_172_2 : tField Tryz.prog 172 2 = some (2, 1, false) := by kernel_rfl
@[simp] theorem tyf_172_3 : tField Tryz.prog 172 3 = some (3, 1, false) := by kernel_rfl
@[simp] theorem tyf_172_4 : tField Tryz.prog 172 4 = some (4, 1, false) := by kernel_rfl
@[simp] theorem ty1_173 : tOne Tryz.prog 173 = some (false, 1) := by kernel_rfl
@[simp] theorem tyz_173 : tZero Tryz.prog 173 = some [.c .nilf] := by kernel_rfl
@[simp] theorem ty1_174 : tOne Tryz.prog 174 = some (false, 1) := by kernel_rfl
@[simp] theorem tyz_174 : tZero Tryz.prog 174 = some [.c .nilf] := by kernel_rfl
@[simp] theorem ty1_175 : tOne Tryz.prog 175 = some (false, 1) := by kernel_rfl
@[simp] theorem tyz_175 : tZero Tryz.prog 175 = some [.c .nilf] := by kernel_rfl
@[simp] theorem ty1_176 : tOne Tryz.prog 176 = some (false, 1) := by kernel_rfl
@[simp] theorem tyz_176 : tZero Tryz.prog 176 = some [.c .nilf] := by kernel_rfl
@[simp] theorem ty1_177 : tOne Tryz.prog 177 = some (false, 1) := by kernel_rfl
@[simp] theorem tyz_177 : tZero Tryz.prog 177 = some [.c .nilf] := by kernel_rfl
@[simp] theorem ty1_178 : tOne Tryz.prog 178 = some (true, 3) := by kernel_rfl
@[simp] theorem tyz_178 : tZero Tryz.prog 178 = some [.full [], .full [], .full []] := by kernel_rfl
@[simp] theorem typ_178 : tPlaces Tryz.prog 178 = some fun i => some (i * 1, 1) := by kernel_rfl
@[simp] theorem tya_178 : tArr Tryz.prog 178 = some (3, 1, false) := by kernel_rfl
@[simp] theorem ty1_179 : tOne Tryz.prog 179 = some (true, 3) := by kernel_rfl
@[simp] theorem tyz_179 : tZero Tryz.prog 179 = some [.c (.int .i64 0), .c (.int .i64 0), .c (.int .i64 0)] := by kernel_rfl
@[simp] theorem typ_179 : tPlaces Tryz.prog 179 = some fun i => some (i * 1, 1) := by kernel_rfl
@[simp] theorem tya_179 : tArr Tryz.prog 179 = some (3, 1, false) := by kernel_rfl
@[simp] theorem ty1_181 : tOne Tryz.prog 181 = some (false, 1) := by kernel_rfl
@[simp] theorem tyz_181 : tZero Tryz.prog 181 = some [.c .nilf] := by kernel_rfl
@[simp] theorem ty1_182 : tOne Tryz.prog 182 = some (false, 1) := by kernel_rfl
@[simp] theorem tyz_182 : tZero Tryz.prog 182 = some [.c .nilf] := by kernel_rfl
@[simp] theorem ty1_184 : tOne Tryz.prog 184 = some (false, 1) := by kernel_rfl
@[simp] theorem tyz_184 : tZero Tryz.prog 184 = some [.c .nilf] := by kernel_rfl
@[simp] theorem ty1_186 : tOne Tryz.prog 186 = some (false, 1) := by kernel_rfl
@[simp] theorem tyz_186 : tZero Tryz.prog 186 = some [.c .nilf] := by kernel_rfl
@[simp] theorem ty1_187 : tOne Tryz.prog 187 = some (false, 1) := by kernel_rfl
@[simp] theorem tyz_187 : tZero Tryz.prog 187 = some [.c .nilf] := by kernel_rfl
@[simp] theorem ty1_188 : tOne Tryz.prog 188 = some (false, 1) := by kernel_rfl
@[simp] theorem tyz_188 : tZero Tryz.prog 188 = some [.c .nilf] := by kernel_rfl
@[simp] theorem ty1_189 : tOne Tryz.prog 189 = some (false, 1) := by kernel_rfl
@[simp] theorem tyz_189 : tZero Tryz.prog 189 = some [.c .nilf] := by kernel_rfl
@[simp] theorem ty1_190 : tOne Tryz.prog 190 = some (false, 1) := by kernel_rfl
@[simp] theorem tyz_190 : tZero Tryz.prog 190 = some [.c .nilf] := by kernel_rfl
@[simp] theorem ty1_191 : tOne Tryz.prog 191 = some (false, 1) := by kernel_rfl
@[simp] theorem tyz_191 : tZero Tryz.prog 191 = some [.full []] := by kernel_rfl
@[simp] theorem tyl_191 : tSl Tryz.prog 191 = true := by kernel_rfl
@[simp] theorem tye_191 : tElem Tryz.prog 191 = some (194, 2, 16) := by kernel_rfl
@[simp] theorem ty1_192 : tOne Tryz.prog 192 = some (false, 1) := by kernel_rfl
@[simp] theorem tyz_192 : tZero Tryz.prog 192 = some [.c .nilf] := by kernel_rfl
@[simp] theorem ty1_193 : tOne Tryz.prog 193 = some (true, 2) := by kernel_rfl
@[simp] theorem tyz_193 : tZero Tryz.prog 193 = some [.c (.int .i64 0), .c (.int .i64 0)] := by kernel_rfl
@[simp] theorem typ_193 : tPlaces Tryz.prog 193 = some fun i => ([(0, 1), (1, 1)] : List (Nat × Nat))[i]? := by kernel_rfl
@[simp] theorem tyf_193_0 : tField Tryz.prog 193 0 = some (0, 1, false) := by kernel_rfl
@[simp] theorem tyf_193_1 : tField Tryz.prog 193 1 = some (1, 1, false) := by kernel_rfl
@[simp] theorem ty1_194 : tOne Tryz.prog 194 = some (true, 2) := by kernel_rfl
@[simp] theorem tyz_194 : tZero Tryz.prog 194 = some [.c (.int .i64 0), .c (.int .i64 0)] := by kernel_rfl
@[simp] theorem typ_194 : tPlaces Tryz.prog 194 = some fun i => ([(0, 1), (1, 1)] : List (Nat × Nat))[i]? := by kernel_rfl
@[simp] theorem tyf_194_0 : tField Tryz.prog 194 0 = some (0, 1, false) := by kernel_rfl
@[simp] theorem tyf_194_1 : tField Tryz.prog 194 1 = some (1, 1, false) := by kernel_rfl
@[simp] theorem ty1_195 : tOne Tryz.prog 195 = some (false, 1) := by kernel_rfl
@[simp] theorem tyz_195 : tZero Tryz.prog 195 = some [.c .nilf] := by kernel_rfl
@[simp] theorem ty1_196 : tOne Tryz.prog 196 = some (false, 1) := by kernel_rfl
@[simp] theorem tyz_196 : tZero Tryz.prog 196 = some [.c .nilf] := by kernel_rfl
@[simp] theorem ty1_197 : tOne Tryz.prog 197 = some (false, 1) := by kernel_rfl
@[simp] theorem tyz_197 : tZero Tryz.prog 197 = some [.c .nilf] := by kernel_rfl
@[simp] theorem ty1_198 : tOne Tryz.prog 198 = some (false, 1) := by kernel_rfl
@[simp] theorem tyz_198 : tZero Tryz.prog 198 = some [.c .nilp] := by kernel_rfl
@[simp] theorem ty1_199 : tOne Tryz.prog 199 = some (false, 1) := by kernel_rfl
@[simp] theorem tyz_199 : tZero Tryz.prog 199 = some [.full []] := by kernel_rfl
@[simp] theorem tyl_199 : tSl Tryz.prog 199 = true := by kernel_rfl
@[simp] theorem tye_199 : tElem Tryz.prog 199 = some (198, 1, 8) := by kernel_rfl
@[simp] theorem ty1_200 : tOne Tryz.prog 200 = some (false, 1) := by kernel_rfl
@[simp] theorem tyz_200 : tZero Tryz.prog 200 = some [.c .nilf] := by kernel_rfl
@[simp] theorem ty1_201 : tOne Tryz.prog 201 = some (true, 8) := by kernel_rfl
@[simp] theorem tyz_201 : tZero Tryz.prog 201 = some [.c (.int .i64 0), .c (.int .i64 0), .c (.int .i64 0), .c (.int .i64 0), .c (.int .i64 0), .c (.int .i64 0), .c (.int .i64 0), .c (.int .i64 0)] := by kernel_rfl
@[simp] theorem typ_201 : tPlaces Tryz.prog 201 = some fun i => some (i * 1, 1) := by kernel_rfl
@[simp] theorem tya_201 : tArr Tryz.prog 201 = some (8, 1, false) := by kernel_rfl
@[simp] theorem ty1_202 : tOne Tryz.prog 202 = some (true, 64) := by kernel_rfl
@[simp] theorem tyz_202 : tZero Tryz.prog 202 = some [.c (.int .i64 0), .c (.int .i64 0), .c (.int .i64 0), .c (.int .i64 0), .c (.int .i64 0), .c (.int .i64 0), .c (.int .i64 0), .c (.int .i64 0), .c (.int .i64 0), .c (.int .i64 0), .c (.int .i64 0), .c (.int .i64 0), .c (.int .i64 0), .c (.int .i64 0), .c (.int .i64 0), .c (.int .i64 0), .c (.int .i64 0), .c (.int .i64 0), .c (.int .i64 0), .c (.int .i64 0), .c (.int .i64 0), .c (.int .i64 0), .c (.int .i64 0), .c (.int .i64 0), .c (.int .i64 0), .c (.int .i64 0), .c (.int .i64 0), .c (.int .i64 0), .c (.int .i64 0), .c (.int .i64 0), .c (.int .i64 0), .c (.int .i64 0), .c (.int .i64 0), .c (.int .i64 0), .c (.int .i64 0), .c (.int .i64 0), .c (.int .i64 0), .c (.int .i64 0), .c (.int .i64 0), .c (.int .i64 0), .c (.int .i64 0), .c (.int .i64 0), .c (.int .i64 0), .c (.int .i64 0), .c (.int .i64 0), .c (.int .i64 0), .c (.int .i64 0), .c (.int .i64 0), .c (.int .i64 0), .c (.int .i64 0), .c (.int .i64 0), .c (.int .i64 0), .c (.int .i64 0), .c (.int .i64 0), .c (.int .i64 0), .c (.int .i64 0), .c (.int .i64 0), .c (.int .i64 0), .c (.int .i64 0), .c (.int .i64 0), .c (.int .i64 0), .c (.int .i64 0), .c (.int .i64 0), .c (.int .i64 0)] := by kernel_rfl
@[simp] theorem typ_202 : tPlaces Tryz.prog 202 = some fun i => some (i * 8, 8) := by kernel_rfl
@[simp] theorem tya_202 : tArr Tryz.prog 202 = some (8, 8, true) := by kernel_rfl
@[simp] theorem ty1_203 : tOne Tryz.prog 203 = some (false, 1) := by kernel_rfl
@[simp] theorem tyz_203 : tZero Tryz.prog 203 = some [.c .nilf] := by kernel_rfl
@[simp] theorem ty1_204 : tOne Tryz.prog 204 = some (false, 1) := by kernel_rfl
@[simp] theorem tyz_204 : tZero Tryz.prog 204 = some [.c .nilf] := by kernel_rfl
@[simp] theorem ty1_205 : tOne Tryz.prog 205 = some (false, 1) := by kernel_rfl
@[simp] theorem tyz_205 : tZero Tryz.prog 205 = some [.c .nilf] := by kernel_rfl
@[simp] theorem ty1_206 : tOne Tryz.prog 206 = some (false, 1) := by kernel_rfl
@[simp] theorem tyz_206 : tZero Tryz.prog 206 = some [.c .nilf] := by kernel_rfl
@[simp] theorem ty1_208 : tOne Tryz.prog 208 = some (false, 1) := by kernel_rfl
@[simp] theorem tyz_208 : tZero Tryz.prog 208 = some [.c .nilf] := by kernel_rfl
@[simp] theorem ty1_209 : tOne Tryz.prog 209 = some (false, 1) := by kernel_rfl
@[simp] theorem tyz_209 : tZero Tryz.prog 209 = some [.c .nilf] := by kernel_rfl
@[simp] theorem ty1_210 : tOne Tryz.prog 210 = some (false, 1) := by kernel_rfl
@[simp] theorem tyz_210 : tZero Tryz.prog 210 = some [.c .nilf] := by kernel_rfl
@[simp] theorem ty1_211 : tOne Tryz.prog 211 = some (false, 1) := by kernel_rfl
@[simp] theorem tyz_211 : tZero Tryz.prog 211 = some [.c .nilp] := by kernel_rfl
@[simp] theorem ty1_212 : tOne Tryz.prog 212 = some (false, 1) := by kernel_rfl
@[simp] theorem tyz_212 : tZero Tryz.prog 212 = some [.c .nilf] := by kernel_rfl
@[simp] theorem ty1_213 : tOne Tryz.prog 213 = some (false, 1) := by kernel_rfl
@[simp] theorem tyz_213 : tZero Tryz.prog 213 = some [.c .nilf] := by kernel_rfl
@[simp] theorem ty1_214 : tOne Tryz.prog 214 = some (false, 1) := by kernel_rfl
@[simp] theorem tyz_214 : tZero Tryz.prog 214 = some [.c .nilf] := by kernel_rfl
@[simp] theorem ty1_215 : tOne Tryz.prog 215 = some (true, 6) := by kernel_rfl
@[simp] theorem tyz_215 : tZero Tryz.prog 215 = some [.c (.str ⟨#[]⟩), .c (.str ⟨#[]⟩), .c (.str ⟨#[]⟩), .c (.str ⟨#[]⟩), .c (.str ⟨#[]⟩), .c (.str ⟨#[]⟩)] := by kernel_rfl
@[simp] theorem typ_215 : tPlaces Tryz.prog 215 = some fun i => some (i * 1, 1) := by kernel_rfl
@[simp] theorem tya_215 : tArr Tryz.prog 215 = some (6, 1, false) := by kernel_rfl
@[simp] theorem ty1_216 : tOne Tryz.prog 216 = some (false, 1) := by kernel_rfl
@[simp] theorem tyz_216 : tZero Tryz.prog 216 = some [.c .nilf] := by kernel_rfl
@[simp] theorem ty1_217 : tOne Tryz.prog 217 = some (false, 1) := by kernel_rfl
@[simp] theorem tyz_217 : tZero Tryz.prog 217 = some [.c .nilf] := by kernel_rfl
@[simp] theorem ty1_218 : tOne Tryz.prog 218 = some (false, 1) := by kernel_rfl
@[simp] theorem tyz_218 : tZero Tryz.prog 218 = some [.c .nilf] := by kernel_rfl
@[simp] theorem ty1_219 : tOne Tryz.prog 219 = some (false, 1) := by kernel_rfl
@[simp] theorem tyz_219 : tZero Tryz.prog 219 = some [.c .nilf] := by kernel_rfl
@[simp] theorem ty1_220 : tOne Tryz.prog 220 = some (false, 1) := by kernel_rfl
@[simp] theorem tyz_220 : tZero Tryz.prog 220 = some [.c (.int .u64 0)] := by kernel_rfl
@[simp] theorem tyi_220 : tInt Tryz.prog 220 = some .u64 := by kernel_rfl
@[simp] theorem ty1_221 : tOne Tryz.prog 221 = some (false, 1) := by kernel_rfl
@[simp] theorem tyz_221 : tZero Tryz.prog 221 = some [.c .nilf] := by kernel_rfl
@[simp] theorem ty1_222 : tOne Tryz.prog 222 = some (false, 1) := by kernel_rfl
@[simp] theorem tyz_222 : tZero Tryz.prog 222 = some [.c .nilf] := by kernel_rfl
@[simp] theorem ty1_223 : tOne Tryz.prog 223 = some (false, 1) := by kernel_rfl
@[simp] theorem tyz_223 : tZero Tryz.prog 223 = some [.c .nilf] := by kernel_rfl
@[simp] theorem ty1_224 : tOne Tryz.prog 224 = some (false, 1) := by kernel_rfl
@[simp] theorem tyz_224 : tZero Tryz.prog 224 = some [.c .nilf] := by kernel_rfl
@[simp] theorem ty1_225 : tOne Tryz.prog 225 = some (true, 8) := by kernel_rfl
@[simp] theorem tyz_225 : tZero Tryz.prog 225 = some [.c (.int .i64 0), .c (.int .i64 0), .c (.int .i64 0), .c (.int .i64 0), .c (.int .i64 0), .c (.int .i64 0), .c (.int .i64 0), .c (.int .i64 0)] := by kernel_rfl
@[simp] theorem typ_225 : tPlaces Tryz.prog 225 = some fun i => some (i * 4, 4) := by kernel_rfl
@[simp] theorem tya_225 : tArr Tryz.prog 225 = some (2, 4, true) := by kernel_rfl
end Go.Proofs.YteacdpklcopedaaGreat
