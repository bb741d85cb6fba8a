/- Part of the proof of breakpointLength.proved. Conditions: none. (Joined and shortened by a program.) -/
import Derived.Test.YtpodcjcajanldaaGreatP20
set_option linter.unusedVariables false
set_option linter.unusedSimpArgs false
set_option maxRecDepth 100000
set_option maxHeartbeats 16000000
namespace Go.Proofs.YtpodcjcajanldaaGreat
open Go.RowKit
theorem AQr (c:Int):AC Tryz.prog 210 [.c (.int .i64 c)] (.c (.bool (TY c))):=by
 unfold TY;refine en Tryz.func210 Tryz.ntmps210 ?_;exact wz Tryz.results210 trivial
theorem ew {D:List Int}{j:Nat}(h:D.length=j+1):HY D=D.getD j 0:=by unfold HY;rw[h];rfl
theorem nZ {D:List Int}{c:Int}(h:c=2)(hq:D.length=0\/TY (HY D)=true):N9 D c=D++[0]:=if_pos ⟨h,hq⟩
theorem AGw {D:List Int}{c:Int}(h : ¬c=2)(h1:RB c=true)(h2:0<D.length)(h3:HY D=2):N9 D c=D.set (D.length - 1) 0++[c]:=by unfold N9;rw[if_neg (fun e=>h e.1),if_pos ⟨h1,h2,h3⟩]
theorem VM {D:List Int}{c:Int}(h : ¬(c=2/\(D.length=0\/TY (HY D)=true)))(h2 : ¬(RB c=true/\0<D.length/\HY D=2)):N9 D c=D++[c]:=by unfold N9;rw[if_neg h,if_neg h2]
theorem rJ:RB 2=false:=by decide
theorem OQ (D:List Int)(c:Int)(r:List Int):(D++[c])++r=D++c::r:=by simp
end Go.Proofs.YtpodcjcajanldaaGreat
