/-
 hpack.mover: a function over a new variable; what that function does.
-/
import Derived.Test.YthbcljjpmdfflaaEc
import Derived.Test.YthbcljjpmdfflaaG1
namespace Go.Proofs.Ythbcljjpmdfflaa
open Go.RowKit
set_option linter.unusedSimpArgs false
set_option linter.unusedVariables false
set_option maxRecDepth 100000
theorem mover_c (w : World) : Calls Try.prog 132 #[] w fun e w' => e = .returned (.func (.func 143) #[] #[.pointer (some ⟨w.heap.size, 0, none⟩)]) ∧ w' = w.alloc (.cells #[.int .i64 0] 3) := by
 go_enter Try.func132, Try.ntmps132
 go_wp2
 go_ret
 exact ⟨rfl, rfl⟩
theorem move_x (e sp wd : Int) (h1 : -9000000000000000000 ≤ e + sp) (h2 : e + sp ≤ 9000000000000000000) (h3 : -9000000000000000000 ≤ e + sp + wd) (h4 : e + sp + wd ≤ 9000000000000000000) : AX Try.prog 143 [.c (.int .i64 sp), .c (.int .i64 wd), .ptr 0 0] 3 [.int .i64 e] [.int .i64 (e + sp + wd)] (.c (.int .i64 (e + sp))) := by
 have w1 : IntKind.i64.wrap (e + sp) = e + sp := wrap_i64 (by omega) (by omega)
 have w2 : IntKind.i64.wrap (e + sp + wd) = e + sp + wd := wrap_i64 (by omega) (by omega)
 refine AX.intro Try.func143 rfl ?_
 simp only [Try.ntmps143, List.map_cons, List.map_nil, List.length_cons, List.length_nil, Nat.reduceAdd, Nat.reduceSub, List.replicate_succ, List.replicate_zero, List.cons_append, List.nil_append]
 refine go (cj @w1 <| @w2) ?_
 simp [aRetX, ares, aresL, ares1, V.pub, V.pubs, ldV, toCs, toC, Try.results143]
end Go.Proofs.Ythbcljjpmdfflaa
