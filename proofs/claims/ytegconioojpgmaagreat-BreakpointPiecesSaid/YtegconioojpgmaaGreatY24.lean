/- Part of the proof of some laws. Conditions: none. -/
import Derived.Test.YtegconioojpgmaaGreatY5
set_option linter.unusedVariables false
set_option linter.unusedSimpArgs false
set_option maxRecDepth 100000
set_option maxHeartbeats 16000000
open Bool renaming false->U,true->I
namespace Go.Proofs.YtegconioojpgmaaGreat
open Go.RowKit Tryz
variable {P:Program}{K:Exit->St->Prop}{s:St}{i:Nat}{b:Bool}{v:V}{o:Oper}{r ops:List Oper}{ch:List PanicEntry}
theorem UY (h:K .normal s):z6 K .normal s:=h
theorem UX (h:K (.exit i) s):z6 K (.exit i) s:=h
theorem JY {F p q q':Prop}(f:F)(h1:b=true->q)(h2:b=false->q')(k:F->(b=true->q)->(b=false->q')->p:=by
 intro f h1 h2;first
 | (with_reducible refine pS (by simp[ev,f];exact rfl) (by with_reducible exact rfl) (by(fail_if_success with_reducible exact D6.t);(fail_if_success with_reducible exact D6.f);exact D6.mk _) h1 h2)
 | (with_reducible refine AH.VY (by simp[N8,f];exact rfl) (by with_reducible exact rfl) (by(fail_if_success with_reducible exact D6.t);(fail_if_success with_reducible exact D6.f);exact D6.mk _) (by simp[Hn];exact rfl) (by simp[Hn];exact rfl) h1 h2)
 | (with_reducible refine AJ.VY (by simp[N8,f];exact rfl) (by with_reducible exact rfl) (by(fail_if_success with_reducible exact D6.t);(fail_if_success with_reducible exact D6.f);exact D6.mk _) (by simp[Hn];exact rfl) (by simp[Hn];exact rfl) h1 h2)):p:=k f h1 h2
theorem BH.VY {t1 t2:List V}(B:N8 ops s.t o.guard=v)(hb:v=.c (.bool b))(hl:D6 b)(M:Hn ops s.t I o.guard=t1)(S:Hn ops s.t U o.guard=t2)(q:b=I->BH P ops K (o::r) ⟨t1,s.h⟩)(z:b=U->BH P ops K (o::r) ⟨t2,s.h⟩):BH P ops K (o::r) s:=by
 subst M S;cases e:b with
 | true=>have:=q e;rwa [sx B hb e]at this
 | false=>have:=z e;rwa [sx B hb e]at this
theorem BJ.VY {Z:List PanicEntry->Prop}{O0:O}{K:St->Prop}{ks:List (Option Nat×Option Nat)}{t1 t2:List V}(B:N8 ops s.t o.guard=v)(hb:v=.c (.bool b))(hl:D6 b)(M:Hn ops s.t I o.guard=t1)(S:Hn ops s.t U o.guard=t2)(q:b=I->BJ P Z O0 ops K (o::r) ks ⟨t1,s.h⟩)(z:b=U->BJ P Z O0 ops K (o::r) ks ⟨t2,s.h⟩):BJ P Z O0 ops K (o::r) ks s:=by
 subst M S;cases e:b with
 | true=>have:=q e;rwa [sx B hb e]at this
 | false=>have:=z e;rwa [sx B hb e]at this
theorem wC {n:St->Prop}(h:K (.panic ch) s):NH n K (.panic ch) s:=h
theorem wA {id:Nat}(h:K (.panic ch) s):Sz id K (.panic ch) s:=h
theorem wB (h:K (.panic ch) s):z6 K (.panic ch) s:=h
theorem bP {F p q q':Prop}{b:Bool}(f:F)(h1:b=true->q)(h2:b=false->q')(k:F->(b=true->q)->(b=false->q')->p:=by
 intro f h1 h2;first
 | (with_reducible refine pS (by simp[ev,f];exact rfl) (by with_reducible exact rfl) (by(fail_if_success with_reducible exact D6.t);(fail_if_success with_reducible exact D6.f);exact D6.mk _) h1 h2)
 | (with_reducible refine BH.VY (by simp[N8,f];exact rfl) (by with_reducible exact rfl) (by(fail_if_success with_reducible exact D6.t);(fail_if_success with_reducible exact D6.f);exact D6.mk _) (by simp[Hn];exact rfl) (by simp[Hn];exact rfl) h1 h2)
 | (with_reducible refine BJ.VY (by simp[N8,f];exact rfl) (by with_reducible exact rfl) (by(fail_if_success with_reducible exact D6.t);(fail_if_success with_reducible exact D6.f);exact D6.mk _) (by simp[Hn];exact rfl) (by simp[Hn];exact rfl) h1 h2)):p:=k f h1 h2
theorem bO {F p q q':Prop}{c:Bool}(f:F)(h1:c=false->q)(h2:c=true->q')(k:F->((!c)=true->q)->((!c)=false->q')->p:=by
 intro f h1 h2;first
 | (with_reducible refine pS (by simp[ev,f];exact rfl) (by with_reducible exact rfl) (by(fail_if_success with_reducible exact D6.t);(fail_if_success with_reducible exact D6.f);exact D6.mk _) h1 h2)
 | (with_reducible refine BH.VY (by simp[N8,f];exact rfl) (by with_reducible exact rfl) (by(fail_if_success with_reducible exact D6.t);(fail_if_success with_reducible exact D6.f);exact D6.mk _) (by simp[Hn];exact rfl) (by simp[Hn];exact rfl) h1 h2)
 | (with_reducible refine BJ.VY (by simp[N8,f];exact rfl) (by with_reducible exact rfl) (by(fail_if_success with_reducible exact D6.t);(fail_if_success with_reducible exact D6.f);exact D6.mk _) (by simp[Hn];exact rfl) (by simp[Hn];exact rfl) h1 h2)):p:=k f (λh=>h1 (by simpa using h)) λh=>h2 (by simpa using h)
theorem bQ {F p q q' c:Prop}[Decidable c](f:F)(h1 : ¬c->q)(h2:c->q')(k:F->((!decide c)=true->q)->((!decide c)=false->q')->p:=by
 intro f h1 h2;first
 | (with_reducible refine pS (by simp[ev,f];exact rfl) (by with_reducible exact rfl) (by(fail_if_success with_reducible exact D6.t);(fail_if_success with_reducible exact D6.f);exact D6.mk _) h1 h2)
 | (with_reducible refine BH.VY (by simp[N8,f];exact rfl) (by with_reducible exact rfl) (by(fail_if_success with_reducible exact D6.t);(fail_if_success with_reducible exact D6.f);exact D6.mk _) (by simp[Hn];exact rfl) (by simp[Hn];exact rfl) h1 h2)
 | (with_reducible refine BJ.VY (by simp[N8,f];exact rfl) (by with_reducible exact rfl) (by(fail_if_success with_reducible exact D6.t);(fail_if_success with_reducible exact D6.f);exact D6.mk _) (by simp[Hn];exact rfl) (by simp[Hn];exact rfl) h1 h2)):p:=k f (λh=>h1 (by simpa using h)) λh=>h2 (by simpa using h)
end Go.Proofs.YtegconioojpgmaaGreat
