/- Part of the proof of breakpointLength.proved. Conditions: none. (Joined and shortened by a program.) -/
import Derived.Test.YtpodcjcajanldaaGreatP17
set_option linter.unusedVariables false
set_option linter.unusedSimpArgs false
set_option maxRecDepth 100000
set_option maxHeartbeats 16000000
open List renaming replicate→As,finRange→xj,take_succ_eq_append_getElem→NR,flatMap_append→AIE,take_of_length_le→D9,length_cons→BQ,length_nil→B6,replicate_succ→Ao,replicate_zero→C8,cons_append→Bg,nil_append→Bh,length_append→C3,length_replicate→NQ,set_cons_zero→BC,set_cons_succ→Az,replicate_succ'→xT,append_assoc→EW,length_map→Cg,length_take→FW,eq_of_mem_replicate→R6,mem_map→DC,flatten_cons→GS,map_append→EX,flatten_append→Tk,mem_append→I4,mem_flatten→Z8,mem_cons→Cb,mem_singleton→Qy,map_cons→Al,map→Vc,take_length→Vf,flatten_nil→Pc,append_nil→D8,map_map→Mi,length_pos_iff→NP,map_nil→A8,getElem_mem→LL
open Go.Proofs.Tryz renaming prog→AD,func106→IB,func337→iT,results83→Q6
open Go.IntKind renaming i64→Ad
open Int renaming natCast_zero→AH4,mul_nonneg→Qx
open Nat renaming min_eq_left→To,le_of_lt→NS,sub_self→SD,le_of_ble_eq_true→Fg
open Go.Op renaming operands→CN
open Go.Call renaming operands→D7
open Option.some renaming injEq→BE
namespace Go.Proofs.YtpodcjcajanldaaGreat
open Go.RowKit
def U5 (r:Int)(l:List Part)(i:Fin l.length):List (Fin l.length):=As (times r l[i]).toNat i
def upto (r:Int)(l:List Part)(k:Nat):List (Fin l.length):=((xj l.length).take k).flatMap (U5 r l)
def whole (r:Int)(l:List Part):List (Fin l.length):=upto r l l.length
theorem nn (r:Int)(l:List Part)(k:Nat)(h:k<l.length):upto r l (k+1)=upto r l k++U5 r l ⟨k,h⟩:=by
 unfold upto;rw[NR (by simpa using h),AIE];simp
theorem AHU (r:Int)(l:List Part)(k:Nat)(h:k<=l.length):∃t,whole r l=upto r l k++t:=by
 refine⟨((xj l.length).drop k).flatMap (U5 r l),?_⟩;unfold whole upto;rw[<-AIE,List.take_append_drop,D9 (by simp)]
def encI (l:List Part)(i:Fin l.length):Value:=.int .i64 (i.val:Int)
def nX (y:Nat)(s:A6)(r:Int)(k:Nat):List V:=[.yl y,.cp s.row 0,.cp [.int .i64 r] 0,.any,.any,.any,.any,.cp s.row 2,.c (Ci s.parts),.c (.int .i64 s.parts.length),.c (.int .i64 k),.any,.any,.any,.any,.any,.any,.any,.any,.any,.any,.any,.any,.any,.any,.any,.any]
def KV (y:Nat)(s:A6)(r:Int)(k:Nat)(m:Int)(j:Nat):List V:=[.yl y,.cp s.row 0,.cp [.int .i64 r] 0,.any,.c (.int .i64 k),.any,.any,.cp s.row 2,.c (Ci s.parts),.c (.int .i64 s.parts.length),.c (.int .i64 k),.any,.any,.any,.any,.any,.any,.any,.c (.int .i64 m),.c (.int .i64 j),.any,.any,.any,.any,.any,.any,.any]
theorem AQ4 (s:A6)(r:Int)(hp:s.parts.length<=8)(HW:1<=r)(hr2:r<=1000):SS AD 345 [.cp s.row 0,.cp [.int .i64 r] 0] (fun y=>#[encI s.parts y]) (fun xs=>xs=whole r s.parts) (whole r s.parts).length:=by
 refine SS.intro Tryz.func345 rfl rfl fun Y=>?_
 simp only[Tryz.ntmps345,BQ,B6,Nat.reduceAdd,Nat.reduceSub,Ao,C8,Bg,Bh];repeat (first
  | with_reducible refine IW.seq ?_
  | with_reducible refine IW.block ?_
  | with_reducible refine IW.skip ?_
  | with_reducible refine IW.ret ?_
  | with_reducible refine IW.exit ?_
  | with_reducible refine Kz ?_
  | with_reducible refine K0 ?_
  | with_reducible refine Ky ?_
  | with_reducible refine Kw ?_
  | with_reducible refine Kx ?_
  | with_reducible refine Kv ?_
  | with_reducible refine IL.nil ?_
  | ((with_reducible refine IW.region ?_);(with_reducible refine IL.run (by simp[Ao,A6.row,Ci];first|exact rfl|exact⟨rfl,rfl⟩) ?_ ?_);(focus (first|exact rfl|decide)))
  | (with_reducible refine IW.cond (b:=true) ?_ (fun _=>?_) (fun e=>nomatch e);(focus (simp[ev,A6.row,Ci];done)))
  | (with_reducible refine IW.cond (b:=false) ?_ (fun e=>nomatch e) (fun _=>?_);(focus (simp[ev,A6.row,Ci];done))))
 refine IW.loop (ι:={ k:Nat // k<=s.parts.length }) (fun k=>(⟨upto r s.parts k.1,false⟩,⟨nX Y.l s r k.1,[]⟩)) (fun k=>s.parts.length - k.1) ⟨0,by omega⟩ (by simp[upto]) ?_ ?_
 . refine Jy.drop (by simp[A5,nX,A6.row,Ci]) (by simp[V.BT,V.BA,nX])
 rintro ⟨k,hk⟩;simp only[nX];by_cases hlt:k<s.parts.length
 . obtain⟨q,hq⟩:=AE (s.parts[k]);have hw:Ad.wrap ((k:Int)+1)=((k+1:Nat):Int):=by rw[Aq];simp
   cases hx:q.ext with
   | true =>
     have ht:times r q=r:=by simp[times,hx]
     have Ir:U5 r s.parts ⟨k,hlt⟩=As (r:Int).toNat ⟨k,hlt⟩:=by
      unfold U5;rw[show s.parts[(⟨k,hlt⟩:Fin s.parts.length)]=q from hq,ht]
     repeat (first
      | with_reducible refine IW.seq ?_
      | with_reducible refine IW.block ?_
      | with_reducible refine IW.skip ?_
      | with_reducible refine IW.ret ?_
      | with_reducible refine IW.exit ?_
      | with_reducible refine Kz ?_
      | with_reducible refine K0 ?_
      | with_reducible refine Ky ?_
      | with_reducible refine Kw ?_
      | with_reducible refine Kx ?_
      | with_reducible refine Kv ?_
      | with_reducible refine IL.nil ?_
      | ((with_reducible refine IW.region ?_);(with_reducible refine IL.run (by simp[Ao,hlt,hq,A6.row,Ci,Part.row,hx];first|exact rfl|exact⟨rfl,rfl⟩) ?_ ?_);(focus (first|exact rfl|decide)))
      | (with_reducible refine IW.cond (b:=true) ?_ (fun _=>?_) (fun e=>nomatch e);(focus (simp[ev,hlt,hq,A6.row,Ci,Part.row,hx];done)))
      | (with_reducible refine IW.cond (b:=false) ?_ (fun e=>nomatch e) (fun _=>?_);(focus (simp[ev,hlt,hq,A6.row,Ci,Part.row,hx];done))))
     refine IW.loop (ι:={ j:Nat // (j:Int)<=r }) (fun j=>(⟨upto r s.parts k++As j.1 ⟨k,hlt⟩,false⟩,⟨KV Y.l s r k r j.1,[]⟩)) (fun j=>(r:Int).toNat - j.1) ⟨0,by simp only[AH4];omega⟩ (by simp) ?_ ?_
     . refine Jy.drop (by simp[A5,KV,A6.row,Ci]) (by simp[V.BT,V.BA,KV])
     rintro ⟨j,hj⟩;simp only[KV];by_cases EJ:(j:Int)<r
     . have hw2:Ad.wrap ((j:Int)+1)=((j+1:Nat):Int):=by rw[Aq];simp
       repeat (first
        | with_reducible refine IW.seq ?_
        | with_reducible refine IW.block ?_
        | with_reducible refine IW.skip ?_
        | with_reducible refine IW.ret ?_
        | with_reducible refine IW.exit ?_
        | with_reducible refine Kz ?_
        | with_reducible refine K0 ?_
        | with_reducible refine Ky ?_
        | with_reducible refine Kw ?_
        | with_reducible refine Kx ?_
        | with_reducible refine Kv ?_
        | with_reducible refine IL.nil ?_
        | ((with_reducible refine IW.region ?_);(with_reducible refine IL.run (by simp[Ao,EJ];first|exact rfl|exact⟨rfl,rfl⟩) ?_ ?_);(focus (first|exact rfl|decide)))
        | (with_reducible refine IW.cond (b:=true) ?_ (fun _=>?_) (fun e=>nomatch e);(focus (simp[ev,EJ];done)))
        | (with_reducible refine IW.cond (b:=false) ?_ (fun e=>nomatch e) (fun _=>?_);(focus (simp[ev,EJ];done))))
       refine IL.yield ⟨k,hlt⟩ (KV Y.l s r k r j) rfl rfl (by simp[ev]) (by first|(simp[ev];exact⟨rfl,rfl⟩)|(simp[ev];done)) rfl ?_ (by simp[A5,KV]) (by simp[V.BT,V.BA,KV]) ?_ ?_
       . obtain⟨t,eQ⟩:=AHU r s.parts (k+1) hlt;rw[eQ,nn r s.parts k hlt,Ir];simp only[C3,NQ];omega
       . simp only[St.put,KV,BC,Az,BQ,B6,Nat.reduceAdd,Ao,C8];with_reducible refine IL.run (by simp[Ao];first|exact rfl|exact⟨rfl,rfl⟩) ?_ ?_
         . first|exact rfl|decide
         repeat (first
          | with_reducible refine IW.seq ?_
          | with_reducible refine IW.block ?_
          | with_reducible refine IW.skip ?_
          | with_reducible refine IW.ret ?_
          | with_reducible refine IW.exit ?_
          | with_reducible refine Kz ?_
          | with_reducible refine K0 ?_
          | with_reducible refine Ky ?_
          | with_reducible refine Kw ?_
          | with_reducible refine Kx ?_
          | with_reducible refine Kv ?_
          | with_reducible refine IL.nil ?_
          | ((with_reducible refine IW.region ?_);(with_reducible refine IL.run (by simp[Ao,hw2];first|exact rfl|exact⟨rfl,rfl⟩) ?_ ?_);(focus (first|exact rfl|decide)))
          | (with_reducible refine IW.cond (b:=true) ?_ (fun _=>?_) (fun e=>nomatch e);(focus (simp[ev,hw2];done)))
          | (with_reducible refine IW.cond (b:=false) ?_ (fun e=>nomatch e) (fun _=>?_);(focus (simp[ev,hw2];done))))
         refine⟨⟨j+1,by omega⟩,by simp only;omega,?_,?_⟩
         . simp[xT,EW]
         . exact Jy.drop (by simp[A5]) (by simp[V.BT,V.BA])
       . simp only[St.put,KV,BC,Az,BQ,B6,Nat.reduceAdd,Ao,C8];with_reducible refine IL.run (by simp[Ao];first|exact rfl|exact⟨rfl,rfl⟩) ?_ ?_
         . first|exact rfl|decide
         repeat (first
          | with_reducible refine IW.seq ?_
          | with_reducible refine IW.block ?_
          | with_reducible refine IW.skip ?_
          | with_reducible refine IW.ret ?_
          | with_reducible refine IW.exit ?_
          | with_reducible refine Kz ?_
          | with_reducible refine K0 ?_
          | with_reducible refine Ky ?_
          | with_reducible refine Kw ?_
          | with_reducible refine Kx ?_
          | with_reducible refine Kv ?_
          | with_reducible refine IL.nil ?_
          | ((with_reducible refine IW.region ?_);(with_reducible refine IL.run (by simp[Ao];first|exact rfl|exact⟨rfl,rfl⟩) ?_ ?_);(focus (first|exact rfl|decide)))
          | (with_reducible refine IW.cond (b:=true) ?_ (fun _=>?_) (fun e=>nomatch e);(focus (simp[ev];done)))
          | (with_reducible refine IW.cond (b:=false) ?_ (fun e=>nomatch e) (fun _=>?_);(focus (simp[ev];done))))
         exact⟨.inr rfl,fun h=>nomatch h⟩
     . have S6:j=(r:Int).toNat:=by omega
       repeat (first
        | with_reducible refine IW.seq ?_
        | with_reducible refine IW.block ?_
        | with_reducible refine IW.skip ?_
        | with_reducible refine IW.ret ?_
        | with_reducible refine IW.exit ?_
        | with_reducible refine Kz ?_
        | with_reducible refine K0 ?_
        | with_reducible refine Ky ?_
        | with_reducible refine Kw ?_
        | with_reducible refine Kx ?_
        | with_reducible refine Kv ?_
        | with_reducible refine IL.nil ?_
        | ((with_reducible refine IW.region ?_);(with_reducible refine IL.run (by simp[Ao,EJ,hw];first|exact rfl|exact⟨rfl,rfl⟩) ?_ ?_);(focus (first|exact rfl|decide)))
        | (with_reducible refine IW.cond (b:=true) ?_ (fun _=>?_) (fun e=>nomatch e);(focus (simp[ev,EJ,hw];done)))
        | (with_reducible refine IW.cond (b:=false) ?_ (fun e=>nomatch e) (fun _=>?_);(focus (simp[ev,EJ,hw];done))))
       refine⟨⟨k+1,hlt⟩,by simp only;omega,?_,?_⟩
       . simp only[nn r s.parts k hlt,Ir,S6]
       . exact Jy.drop (by simp[A5]) (by simp[V.BT,V.BA])
   | false =>
     have ht:times r q=1:=by simp[times,hx]
     have Ir:U5 r s.parts ⟨k,hlt⟩=As (1:Int).toNat ⟨k,hlt⟩:=by
      unfold U5;rw[show s.parts[(⟨k,hlt⟩:Fin s.parts.length)]=q from hq,ht]
     repeat (first
      | with_reducible refine IW.seq ?_
      | with_reducible refine IW.block ?_
      | with_reducible refine IW.skip ?_
      | with_reducible refine IW.ret ?_
      | with_reducible refine IW.exit ?_
      | with_reducible refine Kz ?_
      | with_reducible refine K0 ?_
      | with_reducible refine Ky ?_
      | with_reducible refine Kw ?_
      | with_reducible refine Kx ?_
      | with_reducible refine Kv ?_
      | with_reducible refine IL.nil ?_
      | ((with_reducible refine IW.region ?_);(with_reducible refine IL.run (by simp[Ao,hlt,hq,A6.row,Ci,Part.row,hx];first|exact rfl|exact⟨rfl,rfl⟩) ?_ ?_);(focus (first|exact rfl|decide)))
      | (with_reducible refine IW.cond (b:=true) ?_ (fun _=>?_) (fun e=>nomatch e);(focus (simp[ev,hlt,hq,A6.row,Ci,Part.row,hx];done)))
      | (with_reducible refine IW.cond (b:=false) ?_ (fun e=>nomatch e) (fun _=>?_);(focus (simp[ev,hlt,hq,A6.row,Ci,Part.row,hx];done))))
     refine IW.loop (ι:={ j:Nat // (j:Int)<=1 }) (fun j=>(⟨upto r s.parts k++As j.1 ⟨k,hlt⟩,false⟩,⟨KV Y.l s r k 1 j.1,[]⟩)) (fun j=>(1:Int).toNat - j.1) ⟨0,by simp only[AH4];omega⟩ (by simp) ?_ ?_
     . refine Jy.drop (by simp[A5,KV,A6.row,Ci]) (by simp[V.BT,V.BA,KV])
     rintro ⟨j,hj⟩;simp only[KV];by_cases EJ:(j:Int)<1
     . have hw2:Ad.wrap ((j:Int)+1)=((j+1:Nat):Int):=by rw[Aq];simp
       repeat (first
        | with_reducible refine IW.seq ?_
        | with_reducible refine IW.block ?_
        | with_reducible refine IW.skip ?_
        | with_reducible refine IW.ret ?_
        | with_reducible refine IW.exit ?_
        | with_reducible refine Kz ?_
        | with_reducible refine K0 ?_
        | with_reducible refine Ky ?_
        | with_reducible refine Kw ?_
        | with_reducible refine Kx ?_
        | with_reducible refine Kv ?_
        | with_reducible refine IL.nil ?_
        | ((with_reducible refine IW.region ?_);(with_reducible refine IL.run (by simp[Ao,EJ];first|exact rfl|exact⟨rfl,rfl⟩) ?_ ?_);(focus (first|exact rfl|decide)))
        | (with_reducible refine IW.cond (b:=true) ?_ (fun _=>?_) (fun e=>nomatch e);(focus (simp[ev,EJ];done)))
        | (with_reducible refine IW.cond (b:=false) ?_ (fun e=>nomatch e) (fun _=>?_);(focus (simp[ev,EJ];done))))
       refine IL.yield ⟨k,hlt⟩ (KV Y.l s r k 1 j) rfl rfl (by simp[ev]) (by first|(simp[ev];exact⟨rfl,rfl⟩)|(simp[ev];done)) rfl ?_ (by simp[A5,KV]) (by simp[V.BT,V.BA,KV]) ?_ ?_
       . obtain⟨t,eQ⟩:=AHU r s.parts (k+1) hlt;rw[eQ,nn r s.parts k hlt,Ir];simp only[C3,NQ];omega
       . simp only[St.put,KV,BC,Az,BQ,B6,Nat.reduceAdd,Ao,C8];with_reducible refine IL.run (by simp[Ao];first|exact rfl|exact⟨rfl,rfl⟩) ?_ ?_
         . first|exact rfl|decide
         repeat (first
          | with_reducible refine IW.seq ?_
          | with_reducible refine IW.block ?_
          | with_reducible refine IW.skip ?_
          | with_reducible refine IW.ret ?_
          | with_reducible refine IW.exit ?_
          | with_reducible refine Kz ?_
          | with_reducible refine K0 ?_
          | with_reducible refine Ky ?_
          | with_reducible refine Kw ?_
          | with_reducible refine Kx ?_
          | with_reducible refine Kv ?_
          | with_reducible refine IL.nil ?_
          | ((with_reducible refine IW.region ?_);(with_reducible refine IL.run (by simp[Ao,hw2];first|exact rfl|exact⟨rfl,rfl⟩) ?_ ?_);(focus (first|exact rfl|decide)))
          | (with_reducible refine IW.cond (b:=true) ?_ (fun _=>?_) (fun e=>nomatch e);(focus (simp[ev,hw2];done)))
          | (with_reducible refine IW.cond (b:=false) ?_ (fun e=>nomatch e) (fun _=>?_);(focus (simp[ev,hw2];done))))
         refine⟨⟨j+1,by omega⟩,by simp only;omega,?_,?_⟩
         . simp[xT,EW]
         . exact Jy.drop (by simp[A5]) (by simp[V.BT,V.BA])
       . simp only[St.put,KV,BC,Az,BQ,B6,Nat.reduceAdd,Ao,C8];with_reducible refine IL.run (by simp[Ao];first|exact rfl|exact⟨rfl,rfl⟩) ?_ ?_
         . first|exact rfl|decide
         repeat (first
          | with_reducible refine IW.seq ?_
          | with_reducible refine IW.block ?_
          | with_reducible refine IW.skip ?_
          | with_reducible refine IW.ret ?_
          | with_reducible refine IW.exit ?_
          | with_reducible refine Kz ?_
          | with_reducible refine K0 ?_
          | with_reducible refine Ky ?_
          | with_reducible refine Kw ?_
          | with_reducible refine Kx ?_
          | with_reducible refine Kv ?_
          | with_reducible refine IL.nil ?_
          | ((with_reducible refine IW.region ?_);(with_reducible refine IL.run (by simp[Ao];first|exact rfl|exact⟨rfl,rfl⟩) ?_ ?_);(focus (first|exact rfl|decide)))
          | (with_reducible refine IW.cond (b:=true) ?_ (fun _=>?_) (fun e=>nomatch e);(focus (simp[ev];done)))
          | (with_reducible refine IW.cond (b:=false) ?_ (fun e=>nomatch e) (fun _=>?_);(focus (simp[ev];done))))
         exact⟨.inr rfl,fun h=>nomatch h⟩
     . have S6:j=(1:Int).toNat:=by omega
       repeat (first
        | with_reducible refine IW.seq ?_
        | with_reducible refine IW.block ?_
        | with_reducible refine IW.skip ?_
        | with_reducible refine IW.ret ?_
        | with_reducible refine IW.exit ?_
        | with_reducible refine Kz ?_
        | with_reducible refine K0 ?_
        | with_reducible refine Ky ?_
        | with_reducible refine Kw ?_
        | with_reducible refine Kx ?_
        | with_reducible refine Kv ?_
        | with_reducible refine IL.nil ?_
        | ((with_reducible refine IW.region ?_);(with_reducible refine IL.run (by simp[Ao,EJ,hw];first|exact rfl|exact⟨rfl,rfl⟩) ?_ ?_);(focus (first|exact rfl|decide)))
        | (with_reducible refine IW.cond (b:=true) ?_ (fun _=>?_) (fun e=>nomatch e);(focus (simp[ev,EJ,hw];done)))
        | (with_reducible refine IW.cond (b:=false) ?_ (fun e=>nomatch e) (fun _=>?_);(focus (simp[ev,EJ,hw];done))))
       refine⟨⟨k+1,hlt⟩,by simp only;omega,?_,?_⟩
       . simp only[nn r s.parts k hlt,Ir,S6]
       . exact Jy.drop (by simp[A5]) (by simp[V.BT,V.BA])
 . repeat (first
    | with_reducible refine IW.seq ?_
    | with_reducible refine IW.block ?_
    | with_reducible refine IW.skip ?_
    | with_reducible refine IW.ret ?_
    | with_reducible refine IW.exit ?_
    | with_reducible refine Kz ?_
    | with_reducible refine K0 ?_
    | with_reducible refine Ky ?_
    | with_reducible refine Kw ?_
    | with_reducible refine Kx ?_
    | with_reducible refine Kv ?_
    | with_reducible refine IL.nil ?_
    | ((with_reducible refine IW.region ?_);(with_reducible refine IL.run (by simp[Ao,hlt];first|exact rfl|exact⟨rfl,rfl⟩) ?_ ?_);(focus (first|exact rfl|decide)))
    | (with_reducible refine IW.cond (b:=true) ?_ (fun _=>?_) (fun e=>nomatch e);(focus (simp[ev,hlt];done)))
    | (with_reducible refine IW.cond (b:=false) ?_ (fun e=>nomatch e) (fun _=>?_);(focus (simp[ev,hlt];done))))
   have Bp:k=s.parts.length:=by omega
   subst Bp;exact⟨.inl rfl,fun _=>rfl⟩
theorem mo : ∀(vs cs pre post:List V),cs.length=vs.length->Ek (pre++cs++post) pre.length vs=pre++vs++post
 | [],cs,pre,post,h=>by have:cs=[]:=List.eq_nil_of_length_eq_zero h;subst this;simp[Ek]
 | v::vs,[],pre,post,h=>by simp at h
 | v::vs,c::cs,pre,post,h=>by
   have ih:=mo vs cs (pre++[v]) post (by simpa using h);simp only[C3,BQ,B6,Nat.zero_add]at ih;simp only[Ek];rw[show (pre++c::cs++post).set pre.length v=pre++[v]++cs++post by simp,ih];simp
def Hk (f:AI)(p:Int)(l:List Part)(k:Nat):List V:=((l.take k).map fun q=>(Cl f q.name p).1.row.map V.c).flatten++(As (l.length - k) Bo).flatten
def Hv (f:AI)(l:List Part)(k:Nat):List V:=((l.take k).map fun q=>[V.c (.int .i64 (f.pick q.name).Ch)]).flatten++(As (l.length - k) [V.c (.int .i64 0)]).flatten
theorem nN : ∀b:AA,b.row.length=11:=by rintro ⟨_,_,_,_,_,_,_,_,_,_,_⟩;rfl
theorem AJq (f:AI)(p:Int)(l:List Part)(k:Nat)(h:k<=l.length):(Hk f p l k).length=l.length*11:=by
 unfold Hk;rw[C3,J5 (es:=11),J5 (es:=11)]
 . simp only[Cg,FW,NQ,To h,<-Nat.add_mul];congr 1
   omega
 . intro r hr;rw[R6 hr];rfl
 . intro r hr;obtain⟨q,_,rfl⟩:=DC.1 hr;rw[Cg,nN]
theorem ANj (f:AI)(l:List Part)(k:Nat)(h:k<=l.length):(Hv f l k).length=l.length:=by
 unfold Hv;rw[C3,J5 (es:=1),J5 (es:=1)]
 . simp only[Cg,FW,NQ,To h];omega
 . intro r hr;rw[R6 hr];rfl
 . intro r hr;obtain⟨q,_,rfl⟩:=DC.1 hr;rfl
theorem AJr (f:AI)(p:Int)(l:List Part)(k:Nat)(h:k<l.length):Ek (Hk f p l k) (k*11) ((Cl f l[k].name p).1.row.map V.c)=Hk f p l (k+1):=by
 have hpl:(((l.take k).map fun q=>(Cl f q.name p).1.row.map V.c).flatten).length=k*11:=by
  rw[J5 (es:=11)]
  . simp only[Cg,FW,To (NS h)]
  . intro r hr;obtain⟨q,_,rfl⟩:=DC.1 hr;rw[Cg,nN]
 have e:l.length - k=(l.length - (k+1))+1:=by omega
 unfold Hk;rw[e,Ao,GS,<-EW,<-hpl,mo _ _ _ _ (by rw[Cg,nN];rfl),NR h,EX,Tk];simp
theorem ANk (f:AI)(l:List Part)(k:Nat)(h:k<l.length):Ek (Hv f l k) k [V.c (.int .i64 (f.pick l[k].name).Ch)]=Hv f l (k+1):=by
 have hpl:(((l.take k).map fun q=>[V.c (.int .i64 (f.pick q.name).Ch)]).flatten).length=k:=by
  rw[J5 (es:=1)]
  . simp only[Cg,FW,To (NS h),Nat.mul_one]
  . intro r hr;obtain⟨q,_,rfl⟩:=DC.1 hr;rfl
 have e:l.length - k=(l.length - (k+1))+1:=by omega
 unfold Hv;rw[e,Ao,GS,<-EW];conv=>lhs;arg 2;rw[<-hpl]
 rw[mo _ [V.c (.int .i64 0)] _ _ (by simp),NR h,EX,Tk];simp
theorem Zg {n p:Int}(h1:0<=n)(h2:0<=p):0<=scale n p:=by
 unfold scale;split
 . unfold FI;rw[if_pos (Qx h1 h2)];have:=Qx h1 h2;omega
 . omega
theorem AQ3 {f:AI}(h:f.valid=true)(name:ByteArray):0<=(f.pick name).w:=by
 have key : ∀g∈f.CO,0<=g.w:=by
  intro g hg;have:=X4 h g hg;simp[GK,Bn]at this;omega
 unfold AI.pick;cases h1:f.find name with
 | some g=>exact key g (Yp h1)
 | none =>
   cases h2:f.find ⟨#[63]⟩with
   | some g=>exact key g (Yp h2)
   | none=>simp[Ag.zero]
theorem xO {f:AI}(hv:f.valid=true){p:Int}(h1:1<=p)(h2:p<=100)(name:ByteArray):0<=(Cl f name p).1.w/\(Cl f name p).1.w<=400000/\ -200000<=(Cl f name p).1.d/\(Cl f name p).1.d<=200000:=by
 rw[(N8 hv h1 h2 name).1];have h3:=Xq hv h1 h2 name;have h4:=AQ3 hv name;have h5:0<=((f.pick name).scaled p).w:=Zg h4 (by omega);have hs:=PH hv name;unfold Ag.Small at hs;have h6:=fp (f.pick name).DY p (by omega) (by omega) h1 (by omega);simp only[Mw,mx];have e:((f.pick name).scaled p).DY=scale (f.pick name).DY p:=rfl;rw[e];split<;>omega
theorem jz (n:Nat):∀l:List V,V.BT n l=true↔∀v∈l,v.BA n=true
 | []=>by simp[V.BT]
 | v::l=>by simp[V.BT,jz n l]
theorem kA (n:Nat)(f:AI)(p:Int)(l:List Part)(k:Nat):V.BT n (Hk f p l k)=true:=by
 rw[jz];intro v hv;unfold Hk at hv;rcases I4.1 hv with h|h
 . obtain⟨r,hr,hv⟩:=Z8.1 h;obtain⟨q,_,rfl⟩:=DC.1 hr;obtain⟨c,_,rfl⟩:=DC.1 hv;rfl
 . obtain⟨r,hr,hv⟩:=Z8.1 h;rw[R6 hr]at hv;simp only[Bo,Cb,List.not_mem_nil,or_false]at hv;rcases hv with rfl|rfl|rfl|rfl|rfl|rfl|rfl|rfl|rfl|rfl|rfl<;>rfl
theorem lg (n:Nat)(f:AI)(l:List Part)(k:Nat):V.BT n (Hv f l k)=true:=by
 rw[jz];intro v hv;unfold Hv at hv;rcases I4.1 hv with h|h
 . obtain⟨r,hr,hv⟩:=Z8.1 h;obtain⟨q,_,rfl⟩:=DC.1 hr;simp only[Qy]at hv;subst hv;rfl
 . obtain⟨r,hr,hv⟩:=Z8.1 h;rw[R6 hr]at hv;simp only[Qy]at hv;subst hv;rfl
def Ki (f:AI)(p:Int)(l:List Part):List (List C):=l.map fun q=>(Cl f q.name p).1.row
def FE (f:AI)(l:List Part):List (List C):=l.map fun q=>[.int .i64 (f.pick q.name).Ch]
theorem toCs_mapV : ∀l:List C,toCs (l.map V.c)=some l
 | []=>rfl
 | c::l=>by simp only[Al,toCs,toC,toCs_mapV l]
theorem UR : ∀l:List (List C),(l.map (Vc V.c)).flatten=l.flatten.map V.c
 | []=>rfl
 | r::l=>by simp only[Al,GS,EX,UR l]
theorem AJo (f:AI)(p:Int)(l:List Part):toCs (Hk f p l l.length)=some (Ki f p l).flatten:=by
 have e:Hk f p l l.length=(Ki f p l).flatten.map V.c:=by
  unfold Hk Ki;rw[Vf,SD,C8,Pc,D8,<-UR,Mi];rfl
 rw[e,toCs_mapV]
theorem ANh (f:AI)(l:List Part):toCs (Hv f l l.length)=some (FE f l).flatten:=by
 have e:Hv f l l.length=(FE f l).flatten.map V.c:=by
  unfold Hv FE;rw[Vf,SD,C8,Pc,D8,<-UR,Mi];rfl
 rw[e,toCs_mapV]
theorem z3 (f:AI)(p:Int)(l:List Part):Gr 11 l.length (Ki f p l).flatten=Ki f p l:=by
 have:=V8 (es:=11) (Ki f p l) (by intro r hr;obtain⟨q,_,rfl⟩:=DC.1 hr;exact nN _);rwa [show (Ki f p l).length=l.length by simp[Ki]]at this
theorem ACj (f:AI)(l:List Part):Gr 1 l.length (FE f l).flatten=FE f l:=by
 have:=V8 (es:=1) (FE f l) (by intro r hr;obtain⟨q,_,rfl⟩:=DC.1 hr;rfl);rwa [show (FE f l).length=l.length by simp[FE]]at this
theorem Yr (k:Nat)(row:List C):∀l:List C,V.BG k row (l.map V.c)=l.map V.c
 | []=>rfl
 | c::l=>by simp only[Al,V.BG,V.AR,Yr k row l]
@[simp] theorem AWu (k:Nat)(row:List C)(f:AI):V.BG k row f.vs=f.vs:=Yr k row f.row
theorem ABH (k:Nat)(row:List C)(f:AI)(p:Int)(l:List Part):V.BG k row (Hk f p l l.length)=Hk f p l l.length:=by
 have e:Hk f p l l.length=(Ki f p l).flatten.map V.c:=by
  unfold Hk Ki;rw[Vf,SD,C8,Pc,D8,<-UR,Mi];rfl
 rw[e,Yr]
theorem ABI (k:Nat)(row:List C)(f:AI)(l:List Part):V.BG k row (Hv f l l.length)=Hv f l l.length:=by
 have e:Hv f l l.length=(FE f l).flatten.map V.c:=by
  unfold Hv FE;rw[Vf,SD,C8,Pc,D8,<-UR,Mi];rfl
 rw[e,Yr]
def bot (f:AI)(ov:Int):Int->List Part->Int
 | b,[]=>b
 | b,q::l=>bot f ov (b+((f.pick q.name).Ch - ov)) l
theorem zx (f:AI)(ov:Int):∀(l:List Part) (b:Int) (q:Part),bot f ov b (l++[q])=bot f ov b l+((f.pick q.name).Ch - ov)
 | [],b,q=>rfl
 | x::l,b,q=>by simp only[Bg,bot];exact zx f ov l _ q
theorem ADM (f:AI)(ov p:Int):∀(l:List Part) (b:Int) (q:Part),FM f ov p b (l++[q])=FM f ov p b l++[ZY f p (bot f ov b l) q]
 | [],b,q=>rfl
 | x::l,b,q=>by simp only[Bg,FM,bot];rw[ADM f ov p l _ q]
theorem ua (f:AI)(ov p:Int):∀(l:List Part) (b:Int),(FM f ov p b l).length=l.length
 | [],b=>rfl
 | x::l,b=>by simp only[FM,BQ,ua f ov p l]
theorem zw (f:AI)(ov:Int)(A:Int):∀(l:List Part) (b:Int),(∀q∈l,0<=(f.pick q.name).Ch - ov/\(f.pick q.name).Ch - ov<=A)->b<=bot f ov b l/\bot f ov b l<=b+A*(l.length:Int)
 | [],b,_=>by simp[bot]
 | q::l,b,h=>by
   have h1:=h q (by simp);have ih:=zw f ov A l (b+((f.pick q.name).Ch - ov)) fun q hq=>h q (by simp[hq])
   simp only[bot,BQ];have:A*((l.length+1:Nat):Int)=A*(l.length:Int)+A:=by rw[Int.natCast_add,Int.mul_add];simp
   omega
theorem AEn (r:Int):∀l:List Part,IM r l=l.flatMap fun q=>As (times r q).toNat q
 | []=>rfl
 | q::l=>by simp only[IM,List.flatMap_cons,AEn r l]
theorem AHg (r:Int)(l:List Part):(whole r l).map (fun i=>l[i])=IM r l:=by
 rw[AEn];unfold whole upto;rw[D9 (by simp),List.map_flatMap];have e:(xj l.length).map (fun i=>l[i])=l:=by
  apply List.ext_getElem
  . simp
  . intro i h1 h2;simp
 conv=>rhs;rw[<-e]
 rw[List.flatMap_map];congr 1
 funext i;simp[U5]
theorem ADq : ∀(l:List AA) (m k:Int),k<=m->(m=k\/∃b∈l,m<=b.w)->GO m l=GO k l
 | [],m,k,h,hm=>by
   rcases hm with rfl|⟨b,hb,_⟩
   . rfl
   . cases hb
 | b::l,m,k,h,hm=>by
   simp only[GO];refine ADq l _ _ (by unfold mx;split<;>split<;>omega) ?_;by_cases h1:m<=b.w
   . left;unfold mx;split<;>split<;>omega
   . rcases hm with rfl|⟨c,hc,hw⟩
     . exact .inl rfl
     . rcases Cb.1 hc with rfl|hc
       . omega
       . right;exact⟨c,hc,by unfold mx;split<;>omega⟩
theorem ADN (f:AI)(ov p:Int):∀(l:List Part) (b:Int) (q:Part),q∈l->∃k∈FM f ov p b l,k.w=(Cl f q.name p).1.w
 | [],b,q,h=>by cases h
 | x::l,b,q,h=>by
   simp only[FM];rcases Cb.1 h with rfl|h
   . exact⟨_,List.mem_cons_self,rfl⟩
   . obtain⟨k,hk,e⟩:=ADN f ov p l _ q h;exact⟨k,List.mem_cons_of_mem _ hk,e⟩
theorem ADt {r:Int}(h1:1<=r):∀ {l:List Part} {q:Part},q∈l->q∈IM r l
 | x::l,q,h=>by
   simp only[IM,I4];rcases Cb.1 h with rfl|h
   . left;rw[List.mem_replicate];refine⟨?_,rfl⟩;unfold times;split<;>omega
   . exact .inr (ADt h1 h)
theorem AJs {f:AI}{p:Int}{l:List Part}{i:Nat}(h:i<l.length):∀h',(Ki f p l)[i]'(h')=(Cl f l[i].name p).1.row:=by simp[Ki]
theorem ANr {f:AI}{l:List Part}{i:Nat}(h:i<l.length):∀h',(FE f l)[i]'(h')=[.int .i64 (f.pick l[i].name).Ch]:=by simp[FE]
@[simp] theorem AWb (f:AI)(p:Int)(l:List Part):(Ki f p l).length=l.length:=by simp[Ki]
@[simp] theorem AXL (f:AI)(l:List Part):(FE f l).length=l.length:=by simp[FE]
theorem AG0 : ∀t:List V,A5 t (As t.length .any)
 | []=>rfl
 | v::t=>⟨.inl rfl,AG0 t⟩
theorem zq (n:Nat):∀k:Nat,V.BT n (As k .any)=true
 | 0=>rfl
 | k+1=>by simp only[Ao,V.BT,V.BA,Bool.true_and,zq n k]
theorem Le.Y4 {m:Mo}{t:List V}{h h':List O}(n:Nat)(hn:m.n0<=n)(hh:h.take n=h')(ho:(h'.all (O.BA n))=true):Le m ⟨t,h⟩ ⟨As t.length .any,h'⟩:=Le.H5 n hn (AG0 t) hh (zq n _) ho
theorem Ly {P:Program}{ops:List Oper}{K:List Ef->St->Prop}{acc:List Ef}{s:St}(h:K acc s):Hi P ops K [] acc s:=h
def AHp:List C:=[.int .i64 0,.str ⟨#[]⟩,.int .i64 0,.int .i64 0,.int .i64 0,.int .i64 0,.int .i64 0,.int .i64 0,.sl [],.int .i64 0,.sl []]
theorem rT (k es n:Nat)(row:List C)(l:List C):(l.map V.c).map (V.Gs k es n row)=l.map V.c:=by
 rw[Mi];rfl
theorem AVn (k es n:Nat)(row:List C)(f:AI):f.vs.map (V.Gs k es n row)=f.vs:=rT k es n row f.row
theorem AJp (k es n:Nat)(row:List C)(f:AI)(p:Int)(l:List Part):(Hk f p l l.length).map (V.Gs k es n row)=Hk f p l l.length:=by
 have e:Hk f p l l.length=(Ki f p l).flatten.map V.c:=by
  unfold Hk Ki;rw[Vf,SD,C8,Pc,D8,<-UR,Mi];rfl
 rw[e,rT]
theorem ANi (k es n:Nat)(row:List C)(f:AI)(l:List Part):(Hv f l l.length).map (V.Gs k es n row)=Hv f l l.length:=by
 have e:Hv f l l.length=(FE f l).flatten.map V.c:=by
  unfold Hv FE;rw[Vf,SD,C8,Pc,D8,<-UR,Mi];rfl
 rw[e,rT]
theorem nq:jH:=by
 intro f s r p hf hv hs HW hr2 HQ hp2 hp;obtain⟨_,_,g3,g4,g5,g6⟩:=Oh hv hs;have hpl:0<s.parts.length:=NP.2 hp;obtain⟨tb1,tb2⟩:=wo hv hs HW hr2;have sh:=xK f s r hf hv hs HW hr2;obtain⟨T,hT⟩:=AE (KX f s r);rw[hT]at sh tb1 tb2;have ER:128*(s.parts.length:Int)<=281474976710656:=by omega
 have Ew:8*(s.parts.length:Int)<=281474976710656:=by omega
 have FR:(s.parts.length:Int)<=9223372036854775807:=by omega
 unfold GF at sh ⊢;refine AC.intro Tryz.func321 rfl ?_;simp only[Tryz.ntmps321,Al,A8,BQ,B6,Nat.reduceAdd,Nat.reduceSub,Ao,C8,Bg,Bh,A6.row];refine go (cj @Ci.eq_1<|cj @ER<|cj @Ew<|@FR) ?_;refine gc (cj @A6.row.eq_1<|@Ci.eq_1) (sh) Tryz.func325 ?_;refine BY (Dn T p) IB ?_;refine go @Ci.eq_1 ?_;have e4:(As s.parts.length Bo).flatten=Hk f p s.parts 0:=by simp[Hk]
 have e6:As s.parts.length (V.c (.int .i64 0))=Hv f s.parts 0:=by simp[Hv]
 simp only[Bo]at e4;rw[e4,e6];refine lp (ι:={ q:Nat×Int // q.1<=s.parts.length/\0<=q.2/\q.2<=400000/\(q.1≠0->∃pt∈s.parts,q.2=(Cl f pt.name p).1.w) }) (fun q=>[(38,.c (.int .i64 (q.1.1:Int)))]) (fun q=>[O.box 27 f.vs false,O.box 106 [.c (.str s.name),.c (DT s.Bb),.c (.sl (s.parts.map Part.row)),.c (.int .i64 s.CX)] false,O.box 3 [.c (.int .i64 p)] false,O.box 41 Bo false,O.box 41 (Hk f p s.parts q.1.1) false,O.box 38 [.own 4 0 s.parts.length 11] false,O.box 3 (Hv f s.parts q.1.1) false,O.box 39 [.own 6 0 s.parts.length 1] false,O.box 41 (MV q.1.2 (scale T p) (.full [])) false]) (fun q=>s.parts.length - q.1.1) ⟨(0,0),Nat.zero_le _,by simp,by simp,by simp⟩ ?_ ?_;all_goals simp only[Br,List.foldl_cons,List.foldl_nil,BC,Az]
 . refine Le.BV (by simp[A5,MV,Bo])
 . rintro ⟨⟨k,wl⟩,hk,w1,w2,w3⟩;simp only at hk w1 w2 w3 ⊢;by_cases hlt:k<s.parts.length
   . obtain⟨q,hq⟩:=AE (s.parts[k]);have ti:q∈s.parts:=hq ▸ LL hlt;have hw:Ad.wrap ((k:Int)+1)=((k+1:Nat):Int):=by rw[Aq];simp
     have hc:=kW f q.name p hf.gl;have Wn:=AJr f p s.parts k hlt;have ZD:=ANk f s.parts k hlt;have lH:k*11+11<=(Hk f p s.parts k).length:=by rw[AJq _ _ _ _ hk];omega
     have Wc:k+1<=(Hv f s.parts k).length:=by rw[ANj _ _ _ hk];omega
     rw[hq]at Wn ZD;have eV:=xO hv HQ hp2 q.name;have Nk:Oa f q.name p=((Cl f q.name p).1,0):=by
      unfold Oa;rw[if_pos hv,(N8 hv HQ hp2 q.name).1]
     rw[Nk]at hc;obtain⟨B,hB⟩:=AE ((Cl f q.name p).1);have hw3 : ∃pt∈s.parts,B.w=(Cl f pt.name p).1.w:=⟨q,ti,by rw[hB]⟩
     rw[hB]at hc Wn eV;obtain⟨bk,bn,bs,bw,bh,bd,bx,Bu,Dt,bo,EC⟩:=B;simp only[Bd,Af,BD,AA.row,Al,A8]at hc Wn eV hw3;have hsm:=PH hv q.name;unfold Ag.Small at hsm;have ZC:=ZX f q.name hf.gl;obtain⟨g,hg⟩:=AE (f.pick q.name);rw[hg]at hsm ZC ZD;have e3:Ad.wrap (g.h+g.d)=g.Ch:=Aq;refine go (cj @hlt<|cj @hq<|@Part.row.eq_1) ?_;refine BY (hc) Tryz.func223 ?_;refine Ac ?_;refine gc (cj @Dp.eq_1<|@Ag.row.eq_1) (ZC) Tryz.func291 ?_;(with_reducible first|refine jl (kY g) iT (by kernel_rfl) (by kernel_rfl) ?_ ?_ ?_|refine ja (kY g) iT (by kernel_rfl) (by kernel_rfl) ?_ ?_ ?_)
     focus (simp[gate,Dp,Ag.row,e3,Wn,ZD,lH,Wc,hlt];done)
     focus (simp[Fv,Dp,Ag.row,e3,Wn,ZD,lH,Wc,hlt];done)
     first|(with_reducible refine Bw (by simp[Ao,-Ek,Dp,Ag.row,e3,Wn,ZD,lH,Wc,hlt];first|exact rfl|exact⟨rfl,rfl⟩) ?_)|(with_reducible refine Fh (by simp[Ao,-Ek,Dp,Ag.row,e3,Wn,ZD,lH,Wc,hlt];first|exact rfl|exact⟨rfl,rfl,rfl⟩) ?_)
     refine go (cj @MV.eq_1<|@hw) ?_;refine⟨⟨(k+1,bw),by simp only;omega,by simp only;omega,by simp only;omega,fun _=>hw3⟩,by simp only;omega,?_⟩;refine Le.H5 9 (Fg rfl) (by simp[A5,MV,Bo,kA,lg]) (by simp[MV,Bo,kA,lg]) (by simp[V.BT,V.BA]) (by simp[O.BA,V.BT,V.BA,MV,Bo,kA,lg])
   . obtain rfl:k=s.parts.length:=by omega
     have w3:=w3 (by omega);refine Ac ?_;refine gc (cj @GF.eq_1<|cj @A6.row.eq_1<|@Ci.eq_1) (AQ5 s r) Tryz.func338 ?_;refine Ac ?_;refine AW.AR 4 rfl (AJo f p s.parts) (by simp[V.BG,V.AR,z3];exact rfl) (by simp[O.AR,V.BG,V.AR,z3,ABH,ABI,MV,Bo];exact rfl) ?_;refine AW.AR 6 rfl (ANh f s.parts) (by simp[V.BG,V.AR,ACj];exact rfl) (by simp[O.AR,V.BG,V.AR,ACj,ABH,ABI,MV,Bo];exact rfl) ?_;refine AW.le (Le.Zm 8 8 41 11 rfl rfl) ?_;simp only[BQ,B6,Nat.reduceAdd,BC,Az,Bg,Bh];have hwl:(whole r s.parts).length<=8000:=by
      have h1:=mc HW hr2 s.parts;rw[<-AHg,Cg]at h1;omega
     refine AW.range (α:=Fin s.parts.length) rfl rfl rfl (caps:=[.cp s.row 0,.cp [.int .i64 r] 0]) rfl rfl Tryz.func345 (by kernel_rfl) (by kernel_rfl) (encI s.parts) (fun y=>.c (.int .i64 ((y.val:Nat):Int))) ?_ (fun xs=>xs=whole r s.parts) (whole r s.parts).length (AQ4 s r g3 HW hr2)
      (fun pre=>[O.box 27 f.vs false,O.box 106 [.c (.str s.name),.c (DT s.Bb),.c (.sl (s.parts.map Part.row)),.c (.int .i64 s.CX)] false,O.box 3 [.c (.int .i64 p)] false,O.box 41 Bo false,O.box 41 (Hk f p s.parts s.parts.length) true,O.box 38 [.c (.sl (Ki f p s.parts))] false,O.box 3 (Hv f s.parts s.parts.length) true,O.box 39 [.c (.sl (FE f s.parts))] false,O.box 41 (MV (GO wl (FM f s.CX p 0 (pre.map fun i=>s.parts[i]))) (scale T p) (.gr 10 11 (AA.rows (FM f s.CX p 0 (pre.map fun i=>s.parts[i]))))) false,O.box 3 [.c (.int .i64 (bot f s.CX 0 (pre.map fun i=>s.parts[i])))] false,O.tok 41 11 (FM f s.CX p 0 (pre.map fun i=>s.parts[i])).length]) ?_ 11 (fun _=>rfl) (by simp) ?_ ?_
     . intro x' W y;simp only[CV,Ap,encI];exact⟨trivial,Qs (by have:=y.isLt;unfold maxLen;omega)⟩
     . simp[FM,GO,AA.rows,bot,MV,Bo]
     . rintro lp pre ⟨i,hi⟩ hN;simp only[EX,Al,A8,ADM,zx,BC,Az];obtain⟨L,hL⟩:=AE ((pre.map fun i=>s.parts[i]));have Fm:L.length<8000:=by rw[<-hL,Cg];omega
       have hLm : ∀q∈L,q∈s.parts:=by
        intro q hq;rw[<-hL]at hq;obtain⟨j,_,rfl⟩:=DC.1 hq;exact LL j.isLt
       have dQ:=zw f s.CX 40000 L 0 (fun q hq=>by
        have h1:=g6 q (hLm q hq);have hsm:=PH hv q.name;unfold Ag.Small at hsm;unfold Ag.Ch at h1 ⊢;omega)
       rw[hL];obtain⟨b,hb⟩:=AE (bot f s.CX 0 L);have Bp:(FM f s.CX p 0 L).length=L.length:=ua _ _ _ _ _;obtain⟨kids,Oq⟩:=AE (FM f s.CX p 0 L);rw[hb]at dQ;rw[Oq]at Bp;simp only[hb,Oq];obtain⟨q,hq⟩:=AE (s.parts[i]);have ti:q∈s.parts:=hq ▸ LL hi;have hg6:=g6 q ti;have Cw:=AJs (f:=f) (p:=p) hi;have tR:=ANr (f:=f) hi;have eV:=xO hv HQ hp2 q.name;rw[hq]at Cw tR;have DX:s.parts[(⟨i,hi⟩:Fin s.parts.length)]=q:=hq;simp only[DX];have dG:ZY f p b q={ (Cl f q.name p).1 with y:=scale b p+(Cl f q.name p).1.d }:=rfl;obtain⟨B,hB⟩:=AE ((Cl f q.name p).1);rw[hB]at Cw eV dG;obtain⟨bk,bn,bs,bw,bh,bd,bx,Bu,Dt,bo,EC⟩:=B;simp only[AA.row]at Cw eV dG;have hsm:=PH hv q.name;unfold Ag.Small at hsm;obtain⟨g,hg⟩:=AE (f.pick q.name);rw[hg]at hsm hg6 tR;simp only[dG,hg];have hgh:g.Ch=g.h+g.d:=rfl;have wov:Ad.wrap (g.Ch - s.CX)=g.Ch - s.CX:=Aq;have wb:Ad.wrap (b+(g.Ch - s.CX))=b+(g.Ch - s.CX):=Aq;have hsb:=AF9 (n:=b) (p:=p) (by omega) (by omega) (by omega) (by omega);have hwy:Ad.wrap (scale b p+bd)=scale b p+bd:=Aq;have F8:kids.length+1<=maxLen:=by unfold maxLen;omega
       have Fp:(kids.length+1)*128<=140737488355328:=by omega
       have BU:AA.rows (kids++[⟨bk,bn,bs,bw,bh,bd,bx,scale b p+bd,Dt,bo,EC⟩])=AA.rows kids++[[.int .i64 bk,.str bn,.int .i64 bs,.int .i64 bw,.int .i64 bh,.int .i64 bd,.int .i64 bx,.int .i64 (scale b p+bd),.sl (AA.rows Dt),.int .i64 bo,Ab EC]]:=by rw[AFs];rfl
       have hmw:GO wl (kids++[⟨bk,bn,bs,bw,bh,bd,bx,scale b p+bd,Dt,bo,EC⟩])=if GO wl kids<bw then bw else GO wl kids:=by rw[ADs];rfl
       refine go (cj @hi<|cj @Cw<|@MV.eq_1) ?_;refine gc @hwy (Dn b p) IB ?_;refine go @MV.eq_1 ?_;have AMy:(AA.rows kids).length+1<=maxLen:=by rw[LF];exact F8
       have Kr:((AA.rows kids).length+1)*128<=140737488355328:=by rw[LF];exact Fp
       refine AW.Py GZ (.inr (by decide)) ?_;refine TW.take 5 (Fh (by simp[Ao];exact⟨rfl,rfl⟩) (Ly ?_));simp only[List.drop_succ_cons,List.drop_zero];refine TW.op ⟨.hot 10 11 (AA.rows kids),some (10,.hot 41 11 ((AA.rows kids).length+1) (AHp.map V.c)),some 10⟩ rfl (by intro k ob h;cases h;simp) ?_ ?_
       . intro S0 w0 x a w H g hop BN;have hY:CV x w (.gr 10 11 (AA.rows kids)) (a.eval (.tmp 93)):=hop (.tmp 93) (by simp[CN,D7]);have hZ:CV x w (.full [AHp]) (a.eval (.tmp 96)):=hop (.tmp 96) (by simp[CN,D7]);simp only[CV]at hZ;obtain⟨_,_,hZ⟩:=hZ;exact APj g rfl AHL hY hZ (by omega) rfl AMy Kr (by rw[BN 10 rfl,LF];rfl)
       simp only[St.step,St.put,CG,BQ,B6,Nat.reduceAdd,Nat.reduceLT,if_true,BC,Az,Bh,Bg];refine TW.op ⟨.hp 10 ((AA.rows kids).length+1) ((AA.rows kids).length*11),none,some 10⟩ rfl (by intro k ob h;cases h) ?_ ?_
       . intro S0 w0 x a w H g hop BN;have hY:CV x w (.hot 10 11 (AA.rows kids)) (a.eval (.tmp 97)):=hop (.tmp 97) (by simp[CN]);have hZ:CV x w (.c (.int .i64 (kids.length:Int))) (a.eval (.tmp 95)):=hop (.tmp 95) (by simp[CN]);exact APt g rfl hY (by rw[LF];exact hZ) AHL (BN 10 rfl)
       simp only[St.step,St.put,CG,BQ,B6,Nat.reduceAdd,Nat.reduceLT,if_true,BC,Az,Bh,Bg];refine TW.op ⟨.any,some (10,.hot 41 11 ((AA.rows kids).length+1) [.c (.int .i64 bk),.c (.str bn),.c (.int .i64 bs),.c (.int .i64 bw),.c (.int .i64 bh),.c (.int .i64 bd),.c (.int .i64 bx),.c (.int .i64 (scale b p+bd)),.c (.sl (AA.rows Dt)),.c (.int .i64 bo),.c (Ab EC)]),some 10⟩ rfl (by intro k ob h;cases h;simp) ?_ ?_
       . intro S0 w0 x a w H g hop BN;have hY:CV x w (.hp 10 ((AA.rows kids).length+1) ((AA.rows kids).length*11)) (a.eval (.tmp 98)):=hop (.tmp 98) (by simp[CN]);have hZ:=hop (.tmp 94) (by simp[CN]);exact AP8 g (q:=(true,11)) rfl AVF hY hZ (BN 10 rfl) rfl rfl rfl rfl
       simp only[St.step,St.put,CG,BQ,B6,Nat.reduceAdd,Nat.reduceLT,if_true,BC,Az,Bh,Bg];refine TW.take 2 (Fh (by simp[Ao];exact⟨rfl,rfl⟩) (Ly (TW.nil ⟨by kernel_rfl,?_⟩)));refine G7 ?_;refine AW.le (Le.Gs 10 (ty:=41) (es:=11) (n:=kids.length) (cs:=Vc V.c [.int .i64 bk,.str bn,.int .i64 bs,.int .i64 bw,.int .i64 bh,.int .i64 bd,.int .i64 bx,.int .i64 (scale b p+bd),.sl (AA.rows Dt),.int .i64 bo,Ab EC]) (row:=[.int .i64 bk,.str bn,.int .i64 bs,.int .i64 bw,.int .i64 bh,.int .i64 bd,.int .i64 bx,.int .i64 (scale b p+bd),.sl (AA.rows Dt),.int .i64 bo,Ab EC]) rfl (toCs_mapV _) ?_) ?_
       . intro j ty es cur cs h;iterate 10 (rcases j with _|j;· simp at h)
         rcases j with _|j
         . rfl
         rcases j with _|j
         . simp at h
         . simp at h
       simp only[Al,A8,V.Gs,O.Gs,LF,and_self,if_true,AJp,ANi,AVn,Bo];refine go (cj @hi<|cj @tR<|cj @wov<|@wb) ?_;refine⟨rfl,_,Le.Y4 11 (Fg rfl) ?_ ?_⟩
       . simp[BU,hmw,MV,Bo]
       . simp[O.BA,V.BT,V.BA,MV,Bo,kA,lg]
     . rintro xs rfl;rw[AHg];obtain⟨kids,Oq⟩:=AE (FM f s.CX p 0 (IM r s.parts));have hmx:GO wl kids=GO 0 kids:=by
        obtain⟨pt,eI,e⟩:=w3;obtain⟨b,hb,e2⟩:=ADN f s.CX p (IM r s.parts) 0 pt (ADt HW eI);rw[Oq]at hb;exact ADq kids wl 0 w1 (.inr ⟨b,hb,by omega⟩)
       have hR:Bd (Se f s r p,0)=.Bk [.agg [.c (.int .i64 3),.c (.str ⟨#[]⟩),.c (.int .i64 0),.c (.int .i64 (GO 0 kids)),.c (.int .i64 (scale T p)),.c (.int .i64 0),.c (.int .i64 0),.c (.int .i64 0),.c (.sl (AA.rows kids)),.c (.int .i64 0),.c (.sl [])],.c (.int .i64 0)]:=by
        unfold Bd BD Se;rw[Oq,hT];rfl
       rw[hR];simp only[Oq,hmx];refine go (cj @MV.eq_1<|@Bo.eq_1) ?_;simp[Aj,AV,AZ,Aa,V.AP,V.AO,AU,Tryz.results321]
theorem AF8 {n p:Int}(h1 : -1000000000<=n)(h2:n<=1000000000)(h3:0<=p)(h4:p<=100): -1000000001<=scale n p/\scale n p<=1000000001:=by
 rw[<-wB (by omega) (by omega) h3 (by omega)];have m:=PA n p 1000000000 100 (by omega) (by omega) h3 h4;unfold FI;split<;>omega
theorem ABK {f:AI}{p need:Int} : ∀ {l:List ByteArray} {n:ByteArray},RF f p need l=some n->∃j:Nat,l[j]?=some n/\need<=VK f n p/\∀(i:Nat) (m:ByteArray),i<j->l[i]?=some m->VK f m p<need
 | [],n,h=>by simp[RF]at h
 | x::r,n,h=>by
   simp only[RF]at h;split at h
   . simp only[BE]at h;subst h;exact⟨0,rfl,by assumption,fun i m hi=>by omega⟩
   . rename_i hx;obtain⟨j,h1,h2,h3⟩:=ABK h;refine⟨j+1,by simpa using h1,h2,fun i m hi hm=>?_⟩;match i,hm with
     | 0,hm=>simp at hm;subst hm;omega
     | i+1,hm=>exact h3 i m (by omega) (by simpa using hm)
theorem AGs (f:AI)(s:A6)(p need:Int):∀k:Nat,1000 - (k:Int)<=KU f s p need k/\KU f s p need k<=1000/\(∀r:Int,1000 - (k:Int)<=r->r<KU f s p need k->scale (KX f s r) p<need)/\(KU f s p need k<1000->need<=scale (KX f s (KU f s p need k)) p)
 | 0=>by simp[KU];intro r h1 h2;omega
 | k+1=>by
   obtain⟨h1,h2,h3,h4⟩:=AGs f s p need k;simp only[KU];split
   . rename_i h;refine⟨by push_cast;omega,by omega,fun r h5 h6=>by push_cast at h5;omega,fun _=>h⟩
   . rename_i h;refine⟨by push_cast;omega,h2,fun r h5 h6=>?_,h4⟩;by_cases e:r=1000 - ((k:Int)+1)
     . subst e;omega
     . exact h3 r (by push_cast at h5;omega) h6
theorem s7 {x:ByteArray} : ∀ {l:List ByteArray},x∈l->Jf x l=true
 | y::r,h=>by
   simp only[Jf];split
   . rfl
   . rename_i hne;rcases Cb.1 h with rfl|h
     . exact absurd rfl hne
     . exact s7 h
theorem APF {α:Type}{l:List α}{i:Nat}{x:α}(h:l[i]?=some x):x∈l:=List.mem_of_getElem? h
theorem AAG {f:AI}(hv:f.valid=true)(name:ByteArray)(need p:Int):JS f name (JC f name need p)=true:=by
 cases hst:f.H2 name with
 | none =>
   have e:JC f name need p=⟨name,0⟩:=by unfold JC;rw[hst]
   rw[e];unfold JS;rw[hst];simp
 | some s =>
   obtain⟨g1,_⟩:=Oh hv (Qm hst).1;cases hf:RF f p need s.Bb with
   | some n =>
     have e:JC f name need p=⟨n,0⟩:=by unfold JC;rw[hst];simp only[UE];rw[hf]
     obtain⟨j,h1,_⟩:=ABK hf;rw[e];unfold JS;rw[hst];simp only[if_true];exact s7 (APF h1)
   | none =>
     by_cases hp:s.parts=[]
     . have hlt:s.Bb.length - 1<s.Bb.length:=by omega
       have e:JC f name need p=⟨s.Bb[s.Bb.length - 1],0⟩:=by
        unfold JC;rw[hst];simp only[UE];rw[hf];simp only[hp,if_true];rw[List.getD_eq_getElem?_getD,List.getElem?_eq_getElem hlt];rfl
       rw[e];unfold JS;rw[hst];simp only[if_true];exact s7 (LL hlt)
     . have e:JC f name need p=⟨⟨#[]⟩,KU f s p need 999⟩:=by unfold JC;rw[hst];simp only[UE];rw[hf];simp only[hp,if_false]
       obtain⟨h1,h2,_⟩:=AGs f s p need 999;have hl:0<s.parts.length:=NP.2 hp;have FO:1<=KU f s p need 999:=by omega
       have h0 : ¬KU f s p need 999=0:=by omega
       rw[e];unfold JS;rw[hst];simp[h0,hl,FO,h2]
theorem AUD {k:Int}(h:GQ k≠0):5<=k/\k<=12:=by
 unfold GQ at h;by_cases q1:k=5\/k=6\/k=7\/k=8
 . omega
 rw[if_neg q1]at h;by_cases q2:k=9
 . omega
 rw[if_neg q2]at h;by_cases q3:k=10\/k=11
 . omega
 rw[if_neg q3]at h;by_cases q4:k=12
 . omega
 rw[if_neg q4]at h;exact absurd rfl h
theorem ARt (k:Nat)(i:Int)(s:AM)(Au:s.ok=true)(h5:5<=k)(h12:k<=12)(rows:List (List C))(BU:Xo[k]?=some (.c (.sl rows)))(n:Nat)(hn:rows.length=n)(N:Int)(hN:(if k=12 then 256 else(n:Int))=N)(hi:i<0\/N<=i):AC AD 83 [.c (.int .i64 (k:Int)),.c (.int .i64 i),Ai s] (.Bk [Ai ⟨0,false⟩,.c (.int .i64 2)]):=by
 have hs:=Xy s;have hr:=AE5;rw[Au]at hs;obtain⟨RV,dJ⟩:=AE Xo;have hl:RV.length=13:=by rw[<-dJ];rfl
 rw[dJ]at hr BU;have k1 : ¬(k:Int)<5:=by omega
 have k2 : ¬(12:Int)<(k:Int):=by omega
 have k3:(k:Int)<13:=by omega
 have k4:k<13:=by omega
 have M4:=gx BU;unfold Ai;unfold Ai at hs;refine en Tryz.func83 Tryz.ntmps83 ?_;by_cases q:k=12
 . have q':((k:Int)=12)↔True:=⟨fun _=>trivial,fun _=>by omega⟩
   rw[if_pos q]at hN;subst hN;rcases hi with hi|hi
   . exact wz (cj @k1<|cj @k2<|cj @k3<|cj @k4<|cj @BU<|cj @M4<|cj @q'<|cj @hn<|cj @hl<|cj @hi<|Q6) (cj hs<|cj hr<|trivial)
   . have II : ¬i<0:=by omega
     exact wz (cj @k1<|cj @k2<|cj @k3<|cj @k4<|cj @BU<|cj @M4<|cj @q'<|cj @hn<|cj @hl<|cj @hi<|cj @II<|Q6) (cj hs<|cj hr<|trivial)
 . have q' : ¬(k:Int)=12:=by omega
   rw[if_neg q]at hN;subst hN;rcases hi with hi|hi
   . exact wz (cj @k1<|cj @k2<|cj @k3<|cj @k4<|cj @BU<|cj @M4<|cj @q'<|cj @hn<|cj @hl<|cj @hi<|Q6) (cj hs<|cj hr<|trivial)
   . have II : ¬i<0:=by omega
     exact wz (cj @k1<|cj @k2<|cj @k3<|cj @k4<|cj @BU<|cj @M4<|cj @q'<|cj @hn<|cj @hl<|cj @hi<|cj @II<|Q6) (cj hs<|cj hr<|trivial)
theorem ARr (k:Nat)(i:Int)(s:AM)(Au:s.ok=true)(h5:5<=k)(h12:k<=12)(rows:List (List C))(BU:Xo[k]?=some (.c (.sl rows)))(n:Nat)(hn:rows.length=n)(N:Int)(hN:(if k=12 then 256 else(n:Int))=N)(h0:0<=i)(hi:i<N)(j:Nat)(hj:(if (n:Int) - 1<i then(n:Int) - 1 else i)=(j:Int))(hjn:j<n)(Ht:n<=100)(g:FuncId)(b:Bool)(L:Int)(hg:rows[j]?=some [.Du g,.bool b])(Cs:AC AD g [.c (.int .i64 s.level)] (.c (.int .i64 L)))(P8:GI AD g=true):AC AD 83 [.c (.int .i64 (k:Int)),.c (.int .i64 i),Ai s] (.Bk [Ai ⟨L,s.GJ || b⟩,.c (.int .i64 0)]):=by
 have hs:=Xy s;have hr:=AE5;rw[Au]at hs;obtain⟨RV,dJ⟩:=AE Xo;have hl:RV.length=13:=by rw[<-dJ];rfl
 rw[dJ]at hr BU;have k1 : ¬(k:Int)<5:=by omega
 have k2 : ¬(12:Int)<(k:Int):=by omega
 have k3:(k:Int)<13:=by omega
 have k4:k<13:=by omega
 have hw:Ad.wrap ((n:Int) - 1)=(n:Int) - 1:=Aq;have Y3 : ¬i<0:=by omega
 have M4:=gx BU;have F6:=gx hg;have lO:j<rows.length:=by omega
 obtain⟨l,c⟩:=s;unfold Ai;unfold Ai at hs;simp only at Cs;refine en Tryz.func83 Tryz.ntmps83 ?_;by_cases q:k=12
 . have q':((k:Int)=12)↔True:=⟨fun _=>trivial,fun _=>by omega⟩
   rw[if_pos q]at hN;subst hN;have II : ¬256<=i:=by omega
   cases c with
   | true =>
     exact wz (cj @k1<|cj @k2<|cj @k3<|cj @k4<|cj @BU<|cj @M4<|cj @q'<|cj @hn<|cj @hl<|cj @Y3<|cj @II<|cj @hw<|cj @hj<|cj @hjn<|cj @lO<|cj @hg<|cj @F6<|cj @P8<|Q6) (cj hs<|cj hr<|cj Cs<|trivial)
   | false =>
     exact wz (cj @k1<|cj @k2<|cj @k3<|cj @k4<|cj @BU<|cj @M4<|cj @q'<|cj @hn<|cj @hl<|cj @Y3<|cj @II<|cj @hw<|cj @hj<|cj @hjn<|cj @lO<|cj @hg<|cj @F6<|cj @P8<|Q6) (cj hs<|cj hr<|cj Cs<|trivial)
 . have q' : ¬(k:Int)=12:=by omega
   rw[if_neg q]at hN;subst hN;have hij:i=(j:Int):=by rw[if_neg (by omega)]at hj;exact hj
   subst hij;have II : ¬(n:Int)<=(j:Int):=by omega
   have hi2 : ¬n<=j:=by omega
   cases c with
   | true =>
     exact wz (cj @k1<|cj @k2<|cj @k3<|cj @k4<|cj @BU<|cj @M4<|cj @q'<|cj @hn<|cj @hl<|cj @Y3<|cj @II<|cj @hi2<|cj @hw<|cj @hjn<|cj @lO<|cj @hg<|cj @F6<|cj @P8<|Q6) (cj hs<|cj hr<|cj Cs<|trivial)
   | false =>
     exact wz (cj @k1<|cj @k2<|cj @k3<|cj @k4<|cj @BU<|cj @M4<|cj @q'<|cj @hn<|cj @hl<|cj @Y3<|cj @II<|cj @hi2<|cj @hw<|cj @hjn<|cj @lO<|cj @hg<|cj @F6<|cj @P8<|Q6) (cj hs<|cj hr<|cj Cs<|trivial)
theorem mj (k i:Int)(s:AM):AC AD 83 [.c (.int .i64 k),.c (.int .i64 i),Ai s] (VO (Rz k i s)):=by
 by_cases he:s.ok=false\/GQ k=0
 . exact ARs k i s he
 have Au:s.ok=true:=by cases h:s.ok with
  | true=>rfl
  | false=>exact absurd (.inl h) he
 have hk0:GQ k≠0:=fun h=>he (.inr h)
 obtain⟨h5,h12⟩:=AUD hk0;have Gy:0<=s.level/\s.level<=3:=by
  unfold AM.ok at Au;simpa using Au
 obtain⟨n,rfl⟩:∃n:Nat,k=(n:Int):=⟨k.toNat,by omega⟩
 have hn5:5<=n:=by omega
 have ANE:n<=12:=by omega
 unfold Rz;rw[if_neg he];by_cases hr:i<0\/GQ (n:Int)<=i
 . rw[if_pos hr];have hc:n=5\/n=6\/n=7\/n=8\/n=9\/n=10\/n=11\/n=12:=by omega
   rcases hc with rfl|rfl|rfl|rfl|rfl|rfl|rfl|rfl
   all_goals exact ARt _ i s Au (by omega) (by omega) _ rfl _ rfl _ rfl (by simpa [GQ]using hr)
 . rw[if_neg hr];have h0:0<=i:=by omega
   have hi:i<GQ (n:Int):=by omega
   have key : ∀(j:Nat) (rows:List (List C)) (m:Nat) (g:FuncId) (b:Bool) (L:Int),Xo[n]?=some (.c (.sl rows))->rows.length=m->m<=100->(if n=12 then 256 else(m:Int))=GQ (n:Int)->(if (m:Int) - 1<i then(m:Int) - 1 else i)=(j:Int)->j<m->rows[j]?=some [.Du g,.bool b]->AC AD g [.c (.int .i64 s.level)] (.c (.int .i64 L))->GI AD g=true->DZ (n:Int) i s=⟨L,s.GJ || b⟩->AC AD 83 [.c (.int .i64 (n:Int)),.c (.int .i64 i),Ai s] (VO (DZ (n:Int) i s,0)):=by
    intro j rows m g b L q1 q2 q3 q4 q5 q6 q7 q8 q9 mu;rw[mu];exact ARr n i s Au hn5 ANE rows q1 m q2 _ q4 h0 hi j q5 q6 q3 g b L q7 q8 q9
   have hc:n=5\/n=6\/n=7\/n=8\/n=9\/n=10\/n=11\/n=12:=by omega
   have cT:i=0\/i=1\/2<=i:=by omega
   obtain⟨lv,cr⟩:=s;simp only at Gy;rcases hc with rfl|rfl|rfl|rfl|rfl|rfl|rfl|rfl
   . rcases cT with rfl|rfl|h2
     . exact key 0 _ 2 _ false _ rfl rfl (by omega) rfl rfl (by omega) rfl (AEx lv Gy.1 Gy.2) (by kernel_rfl) (by simp[DZ])
     . exact key 1 _ 2 _ true _ rfl rfl (by omega) rfl rfl (by omega) rfl (AEx lv Gy.1 Gy.2) (by kernel_rfl) (by simp[DZ])
     . simp[GQ]at hi;omega
   . rcases cT with rfl|rfl|h2
     . exact key 0 _ 2 _ false _ rfl rfl (by omega) rfl rfl (by omega) rfl (ARG lv) (by kernel_rfl) (by simp[DZ])
     . exact key 1 _ 2 _ true _ rfl rfl (by omega) rfl rfl (by omega) rfl (Zc lv) (by kernel_rfl) (by simp[DZ])
     . simp[GQ]at hi;omega
   . rcases cT with rfl|rfl|h2
     . exact key 0 _ 2 _ false _ rfl rfl (by omega) rfl rfl (by omega) rfl (Zc lv) (by kernel_rfl) (by simp[DZ])
     . exact key 1 _ 2 _ true _ rfl rfl (by omega) rfl rfl (by omega) rfl (mg lv Gy.1 Gy.2) (by kernel_rfl) (by simp[DZ])
     . simp[GQ]at hi;omega
   . rcases cT with rfl|rfl|h2
     . exact key 0 _ 2 _ false _ rfl rfl (by omega) rfl rfl (by omega) rfl (Zc lv) (by kernel_rfl) (by simp[DZ])
     . exact key 1 _ 2 _ false _ rfl rfl (by omega) rfl rfl (by omega) rfl (mg lv Gy.1 Gy.2) (by kernel_rfl) (by simp[DZ])
     . simp[GQ]at hi;omega
   . rcases cT with rfl|rfl|h2
     . exact key 0 _ 3 _ false _ rfl rfl (by omega) rfl rfl (by omega) rfl (Zc lv) (by kernel_rfl) (by simp[DZ])
     . exact key 1 _ 3 _ true _ rfl rfl (by omega) rfl rfl (by omega) rfl (mg lv Gy.1 Gy.2) (by kernel_rfl) (by simp[DZ])
     . have e2:i=2:=by simp[GQ]at hi;omega
       subst e2;exact key 2 _ 3 _ false _ rfl rfl (by omega) rfl rfl (by omega) rfl (mg lv Gy.1 Gy.2) (by kernel_rfl) (by simp[DZ])
   . have e0:i=0:=by simp[GQ]at hi;omega
     subst e0;exact key 0 _ 1 _ true _ rfl rfl (by omega) rfl rfl (by omega) rfl (Zc lv) (by kernel_rfl) (by simp[DZ])
   . have e0:i=0:=by simp[GQ]at hi;omega
     subst e0;exact key 0 _ 1 _ false _ rfl rfl (by omega) rfl rfl (by omega) rfl (Zc lv) (by kernel_rfl) (by simp[DZ])
   . exact key 0 _ 1 _ false _ rfl rfl (by omega) rfl (by split<;>omega) (by omega) rfl (AQs lv) (by kernel_rfl) (by simp[DZ])
end Go.Proofs.YtpodcjcajanldaaGreat
