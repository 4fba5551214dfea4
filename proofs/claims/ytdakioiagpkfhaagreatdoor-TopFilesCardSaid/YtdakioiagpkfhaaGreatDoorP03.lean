import Derived.Test.YtdakioiagpkfhaaGreatDoorP02
import Derived.Lib.SmallJoins
set_option maxRecDepth 99999
set_option maxHeartbeats 0
set_option linter.all false
namespace Go.Proofs.YtdakioiagpkfhaaGreatDoor
open Go.ChangeShapes Go.WideShapes Go.ChangeAt Go.RowKit
open Go.Proofs.Tryz (prog)
theorem lst7 {l:List Value} (h:l.length=7):∃a b c d e f g,l=[a,b,c,d,e,f,g]:=by
 match l,h with
 |[a,b,c,d,e,f,g],_=>exact⟨a,b,c,d,e,f,g,rfl⟩
theorem UJ:Tryz.prog.cellsOf 25=7:=by kernel_rfl
theorem Lg:Tryz.prog.cellsOf 3=1:=by kernel_rfl
theorem Rt:Tryz.prog.cellsOf 22=1:=by kernel_rfl
theorem Ru:Tryz.prog.cellsOf 23=1:=by kernel_rfl
def SlI (w:World) (v:Value) (zs:List Int):Prop:=∃a c,v= .slice a zs.length c/\AI .i64 w a zs.length c zs
theorem SlI.of_trod {H:Type} {enc:TypeId×Value->H} {w:World} {fuel:Nat} {v:Value} {x:DataW H×List MemPlace} (h:DataW.trod enc prog w 0 (λ _=>true) true fuel 23 [v]=some x):∃zs,SlI w v zs:=by
 rcases DataW.trod_slice Tryz.underlying23 h with⟨hc,_⟩|⟨a,len,cap,_,_,_,_,hc,_⟩
 ·obtain rfl:v= .slice none 0 0:=by simpa using hc
  exact⟨[],none,0,rfl,rfl,by simp,by unfold maxLen;omega,by simp,.inl rfl⟩
 ·obtain rfl:v= .slice (some a) len cap:=by simpa using hc
  obtain⟨zs,hz⟩:=AI.of_trod (d:=x.1) (p:=x.2) Tryz.underlying23 Tryz.underlying3 Lg ⟨fuel,by simpa [Value.cells] using h⟩;obtain rfl:=hz.1;exact⟨zs,_,_,rfl,hz⟩
structure CIn (w:World) (v:Value) (n r m f:Int) (vf vb vg:Value) (zf zb zg:List Int):Prop where
 val:v= .agg #[.int .i64 n,.int .i64 r,.int .i64 m,.int .u32 f,vf,vb,vg]
 wn:(Lit.int .i64 n).wf=true
 wr:(Lit.int .i64 r).wf=true
 wm:(Lit.int .i64 m).wf=true
 wf:(Lit.int .u32 f).wf=true
 front:SlI w vf zf
 back:SlI w vb zb
 frags:SlI w vg zg
theorem openC {H:Type} {enc:TypeId×Value->H} {W:World} {r:Reach} {b:Nat} {v:Value} {d:DataW H} {p:List MemPlace} (hv:Value.okWide prog W r b 25 v)
  (h:DataW.Trod enc prog W 0 (λ _=>true) true 25 v d p):∃n q m f vf vb vg zf zb zg,CIn W v n q m f vf vb vg zf zb zg:=by
 obtain⟨cs,rfl,_⟩:=okWide_struct Tryz.underlying25 hv;obtain⟨fuel,hf0⟩:=h;have h:DataW.trod enc prog W 0 (λ _=>true) true fuel 25 cs.toList=some (d,p):=by simpa [Value.cells] using hf0
 obtain⟨xs,n,_,_,hlc,hl,hf⟩:=DataW.trod_struct Tryz.underlying25 h;rw[UJ] at hlc;obtain⟨c0,c1,c2,c3,c4,c5,c6,hcs⟩:=lst7 hlc;rw[hcs] at hf;have hl8:xs.length=7:=by rw[hl];rfl
 have h0:DataW.trod enc prog W 0 (λ _=>true) true n 3 (([c0,c1,c2,c3,c4,c5,c6].drop 0).take (Tryz.prog.cellsOf 3))=xs[0]?:=hf 0 _ rfl;have h1:DataW.trod enc prog W 0 (λ _=>true) true n 3 (([c0,c1,c2,c3,c4,c5,c6].drop 1).take (Tryz.prog.cellsOf 3))=xs[1]?:=hf 1 _ rfl;have h2:DataW.trod enc prog W 0 (λ _=>true) true n 3 (([c0,c1,c2,c3,c4,c5,c6].drop 2).take (Tryz.prog.cellsOf 3))=xs[2]?:=hf 2 _ rfl;have h3:DataW.trod enc prog W 0 (λ _=>true) true n 22 (([c0,c1,c2,c3,c4,c5,c6].drop 3).take (Tryz.prog.cellsOf 22))=xs[3]?:=hf 3 _ rfl;have h4:DataW.trod enc prog W 0 (λ _=>true) true n 23 (([c0,c1,c2,c3,c4,c5,c6].drop 4).take (Tryz.prog.cellsOf 23))=xs[4]?:=hf 4 _ rfl;have h5:DataW.trod enc prog W 0 (λ _=>true) true n 23 (([c0,c1,c2,c3,c4,c5,c6].drop 5).take (Tryz.prog.cellsOf 23))=xs[5]?:=hf 5 _ rfl;have h6:DataW.trod enc prog W 0 (λ _=>true) true n 23 (([c0,c1,c2,c3,c4,c5,c6].drop 6).take (Tryz.prog.cellsOf 23))=xs[6]?:=hf 6 _ rfl;simp only[Lg,Rt,Ru,List.drop_zero,List.drop_succ_cons,List.take_succ_cons,List.take_zero] at h0 h1 h2 h3 h4 h5 h6;rw[Ud (by omega)] at h0 h1 h2 h3 h4 h5 h6;obtain⟨m0,hm0,_,g0⟩:=DataW.trod_int Tryz.underlying3 h0;obtain⟨m1,hm1,_,g1⟩:=DataW.trod_int Tryz.underlying3 h1;obtain⟨m2,hm2,_,g2⟩:=DataW.trod_int Tryz.underlying3 h2;obtain⟨m3,hm3,_,g3⟩:=DataW.trod_int Tryz.underlying22 h3;obtain⟨z4,s4⟩:=SlI.of_trod h4;obtain⟨z5,s5⟩:=SlI.of_trod h5;obtain⟨z6,s6⟩:=SlI.of_trod h6;simp at hm0 hm1 hm2 hm3;subst hm0 hm1 hm2 hm3;exact⟨m0,m1,m2,m3,c4,c5,c6,z4,z5,z6,by rw[<-Array.toList_inj.1 (show cs.toList=(#[_,_,_,_,_,_,_]:Array Value).toList from hcs)],g0,g1,g2,g3,s4,s5,s6⟩
end Go.Proofs.YtdakioiagpkfhaaGreatDoor
