/-
 hpack.mover: a function over a new variable; what that function does.
-/
import Derived.Test.YthbcljjpmdfflaaGreatEc
import Derived.Test.YthbcljjpmdfflaaGreatG1
namespace Go.Proofs.YthbcljjpmdfflaaGreat
open Go.RowKit
set_option linter.unusedSimpArgs false
set_option linter.unusedVariables false
set_option maxRecDepth 100000
theorem mover_c (w : World) : Calls Tryz.prog 46 #[] w fun e w' => e = .returned (.func (.func 72) #[] #[.pointer (some ⟨w.heap.size, 0, none⟩)]) ∧ w' = w.alloc (.cells #[.int .i64 0] 3) := by
 go_enter Tryz.func46, Tryz.ntmps46
 go_wp2
 go_ret
 exact ⟨rfl, rfl⟩
theorem move_x (e sp wd : Int) (h1 : -9000000000000000000 ≤ e + sp) (h2 : e + sp ≤ 9000000000000000000) (h3 : -9000000000000000000 ≤ e + sp + wd) (h4 : e + sp + wd ≤ 9000000000000000000) : AX Tryz.prog 72 [.c (.int .i64 sp), .c (.int .i64 wd), .ptr 0 0] 3 [.int .i64 e] [.int .i64 (e + sp + wd)] (.c (.int .i64 (e + sp))) := by
 have w1 : IntKind.i64.wrap (e + sp) = e + sp := wrap_i64 (by omega) (by omega)
 have w2 : IntKind.i64.wrap (e + sp + wd) = e + sp + wd := wrap_i64 (by omega) (by omega)
 refine AX.intro Tryz.func72 rfl ?_
 simp only [Tryz.ntmps72, List.map_cons, List.map_nil, List.length_cons, List.length_nil, Nat.reduceAdd, Nat.reduceSub, List.replicate_succ, List.replicate_zero, List.cons_append, List.nil_append]
 refine go (cj @w1 <| @w2) ?_
 simp [aRetX, ares, aresL, ares1, V.pub, V.pubs, ldV, toCs, toC, Tryz.results72]
end Go.Proofs.YthbcljjpmdfflaaGreat
