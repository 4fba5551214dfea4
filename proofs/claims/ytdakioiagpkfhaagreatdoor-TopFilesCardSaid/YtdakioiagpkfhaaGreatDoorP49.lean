import Derived.Test.YtdakioiagpkfhaaGreatDoorP48
set_option maxRecDepth 99999
set_option maxHeartbeats 0
set_option linter.all false
namespace Go.Proofs.YtdakioiagpkfhaaGreatDoor
open Go
open Go.Proofs.Tryz (prog)
theorem VQ:(Rows.topFilesRow.inPlace==Tryz.prog.inPlace 3)=true:=by
 unfold Program.inPlace;rw[Kl]
 kernel_rfl
theorem Eh:Tryz.prog.unfollowed 3=true:=by
 unfold Program.unfollowed;rw[Kl]
 kernel_rfl
theorem MN:Tryz.prog.recurses 3=true:=by
 unfold Program.recurses;rw[Eh];rfl
theorem Js:(Rows.topFilesRow.named==Tryz.prog.varsNamed 3)=true:=by
 unfold Program.varsNamed;rw[Kl]
 kernel_rfl
theorem Tq:joinedFacts Tryz.pinned.checked.prog 3 Tryz.f3 Rows.topFilesSpec Rows.topFilesRow=true:=by
 unfold joinedFacts;rw[show Tryz.pinned.checked.prog=prog from rfl,VQ,Js,Eh,MN]
 kernel_rfl
theorem RQ:false=Rows.topFilesRow.goesBy Tryz.pinned.checked.prog:=by
 have h:Tryz.prog.funcs.toList.any Func.goes=false:=by
  have:=Qw;rw[List.all_eq_true] at this;rw[List.any_eq_false];intro f hf;have:=this f hf;simpa using this
 have h2:Tryz.prog.funcs.any Func.goes=false:=by rw[<-Array.any_toList];exact h
 have e:Tryz.prog.funcNamed Rows.topFilesRow.func=some 3:=by kernel_rfl
 have hg:Tryz.prog.goes 3=false:=by
  unfold Program.goes;rw[h2,Bool.and_false,Bool.or_false,List.any_eq_false];intro g _;cases hx:Tryz.prog.funcs[g]? with
  |none=>simp
  |some fn=>
   have hm:=(List.any_eq_false.1 h) fn (Array.mem_toList_iff.2 (Array.mem_of_getElem? hx));simpa using hm
 show false=Tryz.prog.goesAt Rows.topFilesRow.start Rows.topFilesRow.func
 unfold Program.goesAt Program.goesFrom;rw[e,Option.any_some,hg];rfl
end Go.Proofs.YtdakioiagpkfhaaGreatDoor
