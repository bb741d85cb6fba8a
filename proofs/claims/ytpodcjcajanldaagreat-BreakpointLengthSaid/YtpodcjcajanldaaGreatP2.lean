/- Part of the proof of breakpointLength.proved. Conditions: none. (Joined and shortened by a program.) -/
import Derived.Test.YtpodcjcajanldaaGreatP1
set_option linter.unusedVariables false
set_option linter.unusedSimpArgs false
set_option maxRecDepth 100000
set_option maxHeartbeats 16000000
open Go.Proofs.Tryz renaming prog→AD
namespace Go.Proofs.YtpodcjcajanldaaGreat
open Go.RowKit
@[simp] theorem AY4 : Ct AD 3=some (false,1) :=by kernel_rfl
@[simp] theorem Abt : DR AD 3=some [.c (.int .i64 0)] :=by kernel_rfl
@[simp] theorem AY8 : Ct AD 4=some (false,1) :=by kernel_rfl
@[simp] theorem Abz : DR AD 4=some [.c (.bool false)] :=by kernel_rfl
@[simp] theorem AZL : gF AD 4=true :=by kernel_rfl
@[simp] theorem AZA : Ct AD 9=some (false,1) :=by kernel_rfl
@[simp] theorem AbT : Zk AD 9=true :=by kernel_rfl
@[simp] theorem AYr : Ct AD 22=some (false,1) :=by kernel_rfl
@[simp] theorem Aav : LG AD 22=true :=by kernel_rfl
@[simp] theorem AZQ : Dd AD 22=some (84,6,56) :=by kernel_rfl
@[simp] theorem AYu : Ct AD 23=some (false,1) :=by kernel_rfl
@[simp] theorem Aaw : LG AD 23=true :=by kernel_rfl
@[simp] theorem AZR : Dd AD 23=some (106,4,72) :=by kernel_rfl
@[simp] theorem AYz : Ct AD 25=some (true,20) :=by kernel_rfl
@[simp] theorem Abn : DR AD 25=some [.c (.int .i64 0),.c (.int .i64 0),.c (.int .i64 0),.c (.int .i64 0),.c (.int .i64 0),.c (.int .i64 0),.c (.int .i64 0),.c (.int .i64 0),.c (.int .i64 0),.c (.int .i64 0),.c (.int .i64 0),.c (.int .i64 0),.c (.int .i64 0),.c (.int .i64 0),.c (.int .i64 0),.c (.int .i64 0),.c (.int .i64 0),.c (.int .i64 0),.c (.int .i64 0),.c (.int .i64 0)] :=by kernel_rfl
@[simp] theorem AbK : Fx AD 25=some fun i=>([(0,1),(1,1),(2,1),(3,1),(4,1),(5,1),(6,1),(7,1),(8,1),(9,1),(10,1),(11,1),(12,1),(13,1),(14,1),(15,1),(16,1),(17,1),(18,1),(19,1)]:List (Nat×Nat))[i]? :=by kernel_rfl
@[simp] theorem AZ3 : CE AD 25 0=some (0,1,false) :=by kernel_rfl
@[simp] theorem AZ4 : CE AD 25 1=some (1,1,false) :=by kernel_rfl
@[simp] theorem AaF : CE AD 25 2=some (2,1,false) :=by kernel_rfl
@[simp] theorem AaG : CE AD 25 3=some (3,1,false) :=by kernel_rfl
@[simp] theorem AaH : CE AD 25 4=some (4,1,false) :=by kernel_rfl
@[simp] theorem AaI : CE AD 25 5=some (5,1,false) :=by kernel_rfl
@[simp] theorem AaJ : CE AD 25 6=some (6,1,false) :=by kernel_rfl
@[simp] theorem AaK : CE AD 25 7=some (7,1,false) :=by kernel_rfl
@[simp] theorem AaL : CE AD 25 8=some (8,1,false) :=by kernel_rfl
@[simp] theorem AaM : CE AD 25 9=some (9,1,false) :=by kernel_rfl
@[simp] theorem AZ5 : CE AD 25 10=some (10,1,false) :=by kernel_rfl
@[simp] theorem AZ6 : CE AD 25 11=some (11,1,false) :=by kernel_rfl
@[simp] theorem AZ7 : CE AD 25 12=some (12,1,false) :=by kernel_rfl
@[simp] theorem AZ8 : CE AD 25 13=some (13,1,false) :=by kernel_rfl
@[simp] theorem AZ9 : CE AD 25 14=some (14,1,false) :=by kernel_rfl
@[simp] theorem AaA : CE AD 25 15=some (15,1,false) :=by kernel_rfl
@[simp] theorem AaB : CE AD 25 16=some (16,1,false) :=by kernel_rfl
@[simp] theorem AaC : CE AD 25 17=some (17,1,false) :=by kernel_rfl
@[simp] theorem AaD : CE AD 25 18=some (18,1,false) :=by kernel_rfl
@[simp] theorem AaE : CE AD 25 19=some (19,1,false) :=by kernel_rfl
@[simp] theorem AVA : Ct AD 27=some (true,22) :=by kernel_rfl
@[simp] theorem Abp : DR AD 27=some [.full [],.full [],.c (.int .i64 0),.c (.int .i64 0),.c (.int .i64 0),.c (.int .i64 0),.c (.int .i64 0),.c (.int .i64 0),.c (.int .i64 0),.c (.int .i64 0),.c (.int .i64 0),.c (.int .i64 0),.c (.int .i64 0),.c (.int .i64 0),.c (.int .i64 0),.c (.int .i64 0),.c (.int .i64 0),.c (.int .i64 0),.c (.int .i64 0),.c (.int .i64 0),.c (.int .i64 0),.c (.int .i64 0)] :=by kernel_rfl
@[simp] theorem AbL : Fx AD 27=some fun i=>([(0,1),(1,1),(2,20)]:List (Nat×Nat))[i]? :=by kernel_rfl
@[simp] theorem AaN : CE AD 27 0=some (0,1,false) :=by kernel_rfl
@[simp] theorem AaO : CE AD 27 1=some (1,1,false) :=by kernel_rfl
@[simp] theorem AaP : CE AD 27 2=some (2,20,true) :=by kernel_rfl
@[simp] theorem AVB : Ct AD 28=some (false,1) :=by kernel_rfl
@[simp] theorem Aaz : LG AD 28=true :=by kernel_rfl
@[simp] theorem AY5 : Ct AD 30=some (true,23) :=by kernel_rfl
@[simp] theorem AaQ : CE AD 30 0=some (0,22,true) :=by kernel_rfl
@[simp] theorem AaR : CE AD 30 1=some (22,1,false) :=by kernel_rfl
@[simp] theorem AY6 : Ct AD 31=some (false,1) :=by kernel_rfl
@[simp] theorem Aa0 : LG AD 31=true :=by kernel_rfl
@[simp] theorem AZU : Dd AD 31=some (33,4,56) :=by kernel_rfl
@[simp] theorem AVC : Ct AD 33=some (true,4) :=by kernel_rfl
@[simp] theorem Abv : DR AD 33=some [.c (.int .i64 0),.c (.str ⟨#[]⟩),.c (.int .i64 0),.full []] :=by kernel_rfl
@[simp] theorem AbP : Fx AD 33=some fun i=>([(0,1),(1,1),(2,1),(3,1)]:List (Nat×Nat))[i]? :=by kernel_rfl
@[simp] theorem AaS : CE AD 33 0=some (0,1,false) :=by kernel_rfl
@[simp] theorem AaT : CE AD 33 1=some (1,1,false) :=by kernel_rfl
@[simp] theorem AaU : CE AD 33 2=some (2,1,false) :=by kernel_rfl
@[simp] theorem AaV : CE AD 33 3=some (3,1,false) :=by kernel_rfl
@[simp] theorem AVD : Ct AD 35=some (true,2) :=by kernel_rfl
@[simp] theorem Abw : DR AD 35=some [.c (.int .i64 0),.c (.bool false)] :=by kernel_rfl
@[simp] theorem AbQ : Fx AD 35=some fun i=>([(0,1),(1,1)]:List (Nat×Nat))[i]? :=by kernel_rfl
@[simp] theorem AaW : CE AD 35 0=some (0,1,false) :=by kernel_rfl
@[simp] theorem AaX : CE AD 35 1=some (1,1,false) :=by kernel_rfl
@[simp] theorem AY7 : Ct AD 38=some (false,1) :=by kernel_rfl
@[simp] theorem Abx : DR AD 38=some [.full []] :=by kernel_rfl
@[simp] theorem Aa1 : LG AD 38=true :=by kernel_rfl
@[simp] theorem AHL : Dd AD 38=some (41,11,128) :=by kernel_rfl
@[simp] theorem AVE : Ct AD 39=some (false,1) :=by kernel_rfl
@[simp] theorem Aby : DR AD 39=some [.full []] :=by kernel_rfl
@[simp] theorem Aa2 : LG AD 39=true :=by kernel_rfl
@[simp] theorem AZV : Dd AD 39=some (3,1,8) :=by kernel_rfl
@[simp] theorem AVF : Ct AD 41=some (true,11) :=by kernel_rfl
@[simp] theorem Ab0 : DR AD 41=some [.c (.int .i64 0),.c (.str ⟨#[]⟩),.c (.int .i64 0),.c (.int .i64 0),.c (.int .i64 0),.c (.int .i64 0),.c (.int .i64 0),.c (.int .i64 0),.full [],.c (.int .i64 0),.full []] :=by kernel_rfl
@[simp] theorem AbR : Fx AD 41=some fun i=>([(0,1),(1,1),(2,1),(3,1),(4,1),(5,1),(6,1),(7,1),(8,1),(9,1),(10,1)]:List (Nat×Nat))[i]? :=by kernel_rfl
@[simp] theorem AaY : CE AD 41 0=some (0,1,false) :=by kernel_rfl
@[simp] theorem AaZ : CE AD 41 1=some (1,1,false) :=by kernel_rfl
@[simp] theorem Aab : CE AD 41 2=some (2,1,false) :=by kernel_rfl
@[simp] theorem Aac : CE AD 41 3=some (3,1,false) :=by kernel_rfl
@[simp] theorem Aad : CE AD 41 4=some (4,1,false) :=by kernel_rfl
@[simp] theorem Aae : CE AD 41 5=some (5,1,false) :=by kernel_rfl
@[simp] theorem Aaf : CE AD 41 6=some (6,1,false) :=by kernel_rfl
@[simp] theorem Aag : CE AD 41 7=some (7,1,false) :=by kernel_rfl
@[simp] theorem Aah : CE AD 41 8=some (8,1,false) :=by kernel_rfl
@[simp] theorem Aai : CE AD 41 9=some (9,1,false) :=by kernel_rfl
@[simp] theorem Aaa : CE AD 41 10=some (10,1,false) :=by kernel_rfl
@[simp] theorem Aa3 : LG AD 48=true :=by kernel_rfl
@[simp] theorem AZW : Dd AD 48=some (39,1,24) :=by kernel_rfl
@[simp] theorem ty1_77 : Ct AD 77=some (false,1) :=by kernel_rfl
@[simp] theorem tyz_77 : DR AD 77=some [.full []] :=by kernel_rfl
@[simp] theorem tyl_77 : LG AD 77=true :=by kernel_rfl
@[simp] theorem tye_77 : Dd AD 77=some (82,3,24) :=by kernel_rfl
@[simp] theorem ty1_82 : Ct AD 82=some (true,3) :=by kernel_rfl
@[simp] theorem tyz_82 : DR AD 82=some [.c (.int .i64 0),.c (.int .i64 0),.c (.int .i64 0)] :=by kernel_rfl
@[simp] theorem typ_82 : Fx AD 82=some fun i=>([(0,1),(1,1),(2,1)]:List (Nat×Nat))[i]? :=by kernel_rfl
@[simp] theorem tyf_82_0 : CE AD 82 0=some (0,1,false) :=by kernel_rfl
@[simp] theorem tyf_82_1 : CE AD 82 1=some (1,1,false) :=by kernel_rfl
@[simp] theorem tyf_82_2 : CE AD 82 2=some (2,1,false) :=by kernel_rfl
@[simp] theorem AY9 : Ct AD 84=some (true,6) :=by kernel_rfl
@[simp] theorem Ab1 : DR AD 84=some [.c (.str ⟨#[]⟩),.c (.int .i64 0),.c (.int .i64 0),.c (.int .i64 0),.c (.int .i64 0),.c (.int .i64 0)] :=by kernel_rfl
@[simp] theorem AbS : Fx AD 84=some fun i=>([(0,1),(1,1),(2,1),(3,1),(4,1),(5,1)]:List (Nat×Nat))[i]? :=by kernel_rfl
@[simp] theorem Aal : CE AD 84 0=some (0,1,false) :=by kernel_rfl
@[simp] theorem Aam : CE AD 84 1=some (1,1,false) :=by kernel_rfl
@[simp] theorem Aan : CE AD 84 2=some (2,1,false) :=by kernel_rfl
@[simp] theorem Aao : CE AD 84 3=some (3,1,false) :=by kernel_rfl
@[simp] theorem Aap : CE AD 84 4=some (4,1,false) :=by kernel_rfl
@[simp] theorem Aaq : CE AD 84 5=some (5,1,false) :=by kernel_rfl
@[simp] theorem AYb : Ct AD 102=some (false,1) :=by kernel_rfl
@[simp] theorem Aar : LG AD 102=true :=by kernel_rfl
@[simp] theorem AZM : Dd AD 102=some (9,1,16) :=by kernel_rfl
@[simp] theorem AYc : Ct AD 104=some (false,1) :=by kernel_rfl
@[simp] theorem Aas : LG AD 104=true :=by kernel_rfl
@[simp] theorem AZN : Dd AD 104=some (109,2,24) :=by kernel_rfl
@[simp] theorem AYd : Ct AD 106=some (true,4) :=by kernel_rfl
@[simp] theorem AbU : DR AD 106=some [.c (.str ⟨#[]⟩),.full [],.full [],.c (.int .i64 0)] :=by kernel_rfl
@[simp] theorem Aa4 : Fx AD 106=some fun i=>([(0,1),(1,1),(2,1),(3,1)]:List (Nat×Nat))[i]? :=by kernel_rfl
@[simp] theorem AZY : CE AD 106 0=some (0,1,false) :=by kernel_rfl
@[simp] theorem AZZ : CE AD 106 1=some (1,1,false) :=by kernel_rfl
@[simp] theorem AZa : CE AD 106 2=some (2,1,false) :=by kernel_rfl
@[simp] theorem AZb : CE AD 106 3=some (3,1,false) :=by kernel_rfl
@[simp] theorem AYe : Ct AD 109=some (true,2) :=by kernel_rfl
@[simp] theorem AbV : DR AD 109=some [.c (.str ⟨#[]⟩),.c (.bool false)] :=by kernel_rfl
@[simp] theorem AZc : CE AD 109 0=some (0,1,false) :=by kernel_rfl
@[simp] theorem AZd : CE AD 109 1=some (1,1,false) :=by kernel_rfl
end Go.Proofs.YtpodcjcajanldaaGreat
