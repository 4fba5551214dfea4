import Derived.Test.YtdakioiagpkfhaaGreatDoorP11
import Derived.Laws.MakeOwn
set_option maxRecDepth 99999
set_option maxHeartbeats 0
set_option linter.all false
namespace Go.Proofs.YtdakioiagpkfhaaGreatDoor
open RowKit
open Go.Proofs.Tryz
namespace inoP
structure Pl where
 is:Bool
 gen:Int
 x:(Option Addr)
def Pl.cells (p:Pl):List Value:=[.bool p.is,iI p.gen,.pointer p.x]
def Pl.zero:Pl:=⟨false,0,none⟩
def A5 (ps:List Pl):Array Value:=(ps.flatMap Pl.cells).toArray
theorem JO:∀ps:List Pl,(ps.flatMap Pl.cells).length=3*ps.length
 |[]=>rfl
 |p::ps=>by simp[Pl.cells,JO ps];omega
theorem IN:∀(ps:List Pl) (i:Nat) (h:i<ps.length),(ps.flatMap Pl.cells)[i*3]?=some (.bool ps[i].is)/\(ps.flatMap Pl.cells)[i*3+1]?=some (iI (ps[i].gen))/\(ps.flatMap Pl.cells)[i*3+2]?=some (.pointer ps[i].x)
 |[],i,h=>by simp at h
 |p::ps,0,h=>by simp[Pl.cells]
 |p::ps,i+1,h=>by
  have ih:=IN ps i (by simpa using h);simp only[List.flatMap_cons,Pl.cells,List.cons_append,List.nil_append,List.getElem_cons_succ];rw[show(i+1)*3=i*3+3 by omega];simpa using ih
theorem JN:∀(ps:List Pl) (i:Nat) (q:Pl),(((ps.flatMap Pl.cells).set (i*3) (.bool q.is)).set (i*3+1) (iI q.gen)).set (i*3+2) (.pointer q.x)=(ps.set i q).flatMap Pl.cells
 |[],i,q=>by simp
 |p::ps,0,q=>by simp[Pl.cells]
 |p::ps,i+1,q=>by
  have ih:=JN ps i q;simp only[List.flatMap_cons,Pl.cells,List.cons_append,List.nil_append,List.set_cons_succ];rw[show(i+1)*3=i*3+1+1+1 by omega];simpa [Pl.cells] using ih
structure B0 (w:World) (pb tb pl:Nat) (ps:List Pl):Prop where
 ptr:w.heap[pb]?=oC #[sS pl 0 ps.length ps.length,.func (.func 132) #[] #[pP tb 0]] 256
 var:w.heap[tb]?=oC #[pP pb 0] 154
 pls:w.heap[pl]?=oC (A5 ps) 258
 len:ps.length<=64
section
variable {w w':World} {pb tb pl:Nat} {ps:List Pl}
theorem B0.ext (h:B0 w pb tb pl ps) (k:Ext w w'):B0 w' pb tb pl ps:=⟨k.heap h.ptr,k.heap h.var,k.heap h.pls,h.len⟩
theorem B0.ne (h:B0 w pb tb pl ps):pb≠tb/\pb≠pl/\tb≠pl:=by
 refine⟨?_,?_,?_⟩
 ·rintro rfl;have:=h.ptr.symm.trans h.var;simp at this
 ·rintro rfl;have:=h.ptr.symm.trans h.pls;simp at this
 ·rintro rfl;have:=h.var.symm.trans h.pls;simp at this
theorem B0.upd {S:List Nat} (h:B0 w pb tb pl ps) (k:Upd S w w') (h1:pb∉S) (h2:tb∉S) (h3:pl∉S):B0 w' pb tb pl ps:=⟨k.heap h.ptr h1,k.heap h.var h2,k.heap h.pls h3,h.len⟩
theorem B0.cell (h:B0 w pb tb pl ps) {i:Nat} (hi:i<ps.length):w.cell? (dD pl (i*3))=some (.bool ps[i].is)/\w.cell? (dD pl (i*3+1))=some (iI (ps[i].gen))/\w.cell? (dD pl (i*3+2))=some (.pointer ps[i].x)/\
  w.frozen? (dD pl (i*3))=false/\w.frozen? (dD pl (i*3+1))=false/\w.frozen? (dD pl (i*3+2))=false:=by
 have:=IN ps i hi;exact⟨by rw[cO h.pls];simpa [A5] using this.1,by rw[cO h.pls];simpa [A5] using this.2.1,by rw[cO h.pls];simpa [A5] using this.2.2,fO h.pls _,fO h.pls _,fO h.pls _⟩
theorem B0.set (h:B0 w pb tb pl ps) (i:Nat) (q:Pl) {w':World} (hu:Upd [pl] w w') (hh:w'.heap[pl]?=oC (A5 (ps.set i q)) 258):B0 w' pb tb pl (ps.set i q):=by
 have hn:=h.ne;exact⟨by rw[List.length_set];exact hu.heap h.ptr (by simpa using hn.2.1),hu.heap h.var (by simpa using hn.2.2),hh,by rw[List.length_set];exact h.len⟩
end
theorem JY (pb tb pl:Nat) (ps:List Pl) (i:Nat) (hi:i<ps.length) (w:World) (h:B0 w pb tb pl ps):
  Calls prog 132 #[iI i,pP tb 0] w λ r w'=>r= .returned (.agg #[iI (i+1),iI (ps[i].gen)])/\Ext w w':=by
 obtain⟨c0,c1,c2,f0,f1,f2⟩:=h.cell hi;obtain⟨d0,d1,_,_⟩:=Al h.ptr;have e0:w.cell? (dD tb 0)=some (pP pb 0):=cO h.var 0;have hpb:=lH h.ptr;have htb:=lH h.var;have hpl:=lH h.pls;have hl:=h.len;have hi0:(0:Int)<=(i:Int):=by omega
 have hi1:(i:Int)<(ps.length:Int):=by omega
 generalize ps[i].gen=g at*;clear h;go_in;go_wp2_with fail;refine Ue (v:= .agg #[iI (i+1),iI g]) (by simp[results,results132,go_sem]) rfl ⟨rfl,?_⟩;exact(Ext.refl w).alloc _
theorem Tu:(prog.info? 258).map (λ i=>(i.zero,i.size,i.bytes))=some (some (.agg #[.bool false,iI 0,.pointer none]),3,24):=by kernel_rfl
theorem Qz (n:Nat):madeCells (Value.agg #[.bool false,iI 0,.pointer none]).cells (n*3)=A5 (List.replicate n Pl.zero):=by
 apply Array.ext
 ·rw[size_madeCells];simp only[A5,List.size_toArray,JO,List.length_replicate];omega
 ·intro i h1 h2;have h3:i<n*3:=by simpa [madeCells] using h1
  have h4:i/3<(List.replicate n Pl.zero).length:=by simp;omega
  have h5:=IN (List.replicate n Pl.zero) (i/3) h4;simp only[List.getElem_replicate] at h5;have hm:i%3=0\/i%3=1\/i%3=2:=by omega
  have key:(A5 (List.replicate n Pl.zero))[i]?=some (madeCells (Value.agg #[.bool false,iI 0,.pointer none]).cells (n*3))[i]:=by
   simp only[madeCells,Value.cells,Array.getElem_map,Array.getElem_range];rcases hm with hm|hm|hm
   ·have e:i=i/3*3:=by omega
    have:=h5.1;rw[<-e] at this;simpa [A5,hm,Pl.zero] using this
   ·have e:i=i/3*3+1:=by omega
    have:=h5.2.1;rw[<-e] at this;simpa [A5,hm,Pl.zero] using this
   ·have e:i=i/3*3+2:=by omega
    have:=h5.2.2;rw[<-e] at this;simpa [A5,hm,Pl.zero] using this
  rw[Array.getElem?_eq_getElem h2] at key;exact(Option.some.inj key).symm
theorem J5 (n:Nat) (hn:n<=64) (w:World):
  (Instr.makeSlice 253 (iI n) (iI n)).run prog w= .ok (sS w.heap.size 0 n n) (w.alloc (.cells (A5 (List.replicate n Pl.zero)) 258)):=by
 obtain⟨i0,hi,hz0,hz1,hz2⟩:=info_parts Tu;have h:=run_make (P:=prog) w 253 258 i0 _ underlying253 hi hz0 .i64 .i64 n n (by omega) (by omega) (by rw[hz2];omega) (by omega);rw[h,hz1,Int.toNat_natCast,Qz]
theorem UU (w:World) (A B C:Obj):(((w.alloc A).alloc B).alloc C).heap[w.heap.size]?=some A/\(((w.alloc A).alloc B).alloc C).heap[w.heap.size+1]?=some B/\(((w.alloc A).alloc B).alloc C).heap[w.heap.size+2]?=some C:=by
 refine⟨((Ext.refl _).alloc C).heap (heap_alloc2_old w A B),((Ext.refl _).alloc C).heap (heap_alloc2_new w A B),?_⟩;have:=Ub ((w.alloc A).alloc B) C;simpa using this
theorem new_yes (n:Nat) (w:World) (h1:1<=n) (h2:n<=64):
  Calls prog 78 #[iI n] w λ r w'=>r= .returned (.tuple #[pP (w.heap.size+1) 0,iI 0])/\B0 w' (w.heap.size+1) (w.heap.size+2) w.heap.size (List.replicate n Pl.zero)/\Ext w w':=by
 have hd:decide ((n:Int)<1)=false:=by simp;omega
 have hd2:decide (64<(n:Int))=false:=by simp;omega
 have hmk:=J5 n h2;generalize hcs:A5 (List.replicate n Pl.zero)=cs at*;have HCS:=hid hcs;clear hcs;go_in;go_wp2_with fail;go_ret2;have h3:=UU w (.cells cs 258) (.cells #[sS w.heap.size 0 n n,.func (.func 132) #[] #[pP (w.heap.size+1+1) 0]] 256) (.cells #[pP (w.heap.size+1) 0] 154);refine⟨rfl,⟨?_,h3.2.2,?_,by simp;omega⟩,(((Ext.refl w).alloc _).alloc _).alloc _⟩
 ·rw[List.length_replicate];exact h3.2.1
 ·rw[HCS.o];exact h3.1
theorem GO (ps:List Pl) (i:Nat) (q:Pl):(((A5 ps).setIfInBounds (i*3) (.bool q.is)).setIfInBounds (i*3+2) (.pointer q.x)).setIfInBounds (i*3+1) (iI q.gen)=A5 (ps.set i q):=by
 unfold A5;rw[<-JN,List.set_comm _ _ (show i*3+1≠i*3+2 by omega)];simp
section
variable (pb tb pl:Nat) (ps:List Pl) (w:World)
theorem Re (i:Nat) (hi:i<ps.length) (h:B0 w pb tb pl ps) (his:ps[i].is=true) (gen:Int) (hg:ps[i].gen=gen):
  Calls prog 426 #[pP pb 0,.agg #[iI (i+1),iI gen]] w λ r w'=>r= .returned (pP pl (i*3))/\Ext w w':=by
 obtain⟨c0,c1,c2,f0,f1,f2⟩:=h.cell hi;obtain⟨d0,d1,_,_⟩:=Al h.ptr;rw[his] at c0;rw[hg] at c1;have hpb:=lH h.ptr;have hpl:=lH h.pls;have hl:=h.len;have hd1:decide ((i:Int)+1<1)=false:=by simp;omega
 have hd2:decide ((ps.length:Int)<(i:Int)+1)=false:=by simp;omega
 have hi0:(0:Int)<=(i:Int):=by omega
 have hi1:(i:Int)<(ps.length:Int):=by omega
 have hw1:IntKind.i64.wrap ((i:Int)+1-1)=(i:Int):=by rw[Uh _ (by omega)];omega
 clear h his hg c2;generalize ps.length=n at*;go_in;go_wp2_with fail;go_quiet (fail);go_wp2_with fail;go_quiet (fail);go_wp2_with fail;go_quiet (fail);go_wp2_with fail;go_ret;exact⟨rfl,(((((Ext.refl w).alloc _).drewN _).drewN _).drewN _)⟩
theorem get_ok (i:Nat) (hi:i<ps.length) (h:B0 w pb tb pl ps) (his:ps[i].is=true) (gen:Int) (hg:ps[i].gen=gen):
  Calls prog 397 #[pP pb 0,.agg #[iI (i+1),iI gen]] w λ r w'=>r= .returned (.tuple #[.pointer ps[i].x,iI 0])/\Ext w w':=by
 have HF:=hid (λ W hW=>Re pb tb pl ps W i hi (B0.ext h hW) his gen hg);have H:=hid h;clear h his hg;go_in;go_wp2_with fail;refine(HF.o _ ((Ext.refl w).alloc _)).mono ?_;rintro r w2 ⟨rfl,hx⟩;obtain⟨c0,c1,c2,f0,f1,f2⟩:=(H.o.ext (((Ext.refl w).alloc _).trans hx)).cell hi;have HX:=hid hx;clear hx;go_wp2_with fail;go_ret2;exact⟨rfl,((Ext.refl w).alloc _).trans HX.o⟩
end
section
variable (pb tb pl:Nat) (ps:List Pl) (w:World)
theorem add_ok (x:(Option Addr)) (h:B0 w pb tb pl ps) (m:Nat) (hm:m<ps.length) (hf:ps[m].is=false) (hall:∀j (hj:j<ps.length),j<m->ps[j].is=true) (hg0:0<=ps[m].gen) (hg1:ps[m].gen<1000000):
  Calls prog 80 #[pP pb 0,.pointer x] w λ r w'=>r= .returned (.tuple #[.agg #[iI (m+1),iI (ps[m].gen+1)],iI 0])/\
   B0 w' pb tb pl (ps.set m ⟨true,ps[m].gen+1,x⟩)/\Upd [pl] w w':=by
 have hT:=h.ext ((Ext.refl w).alloc (.cells #[iI 0,iI 0] 82));have hl:=h.len;obtain⟨d0,d1,_,_⟩:=Al h.ptr;have hpb:=lH h.ptr;have hpl:=lH h.pls;have H:=hid h;have HALL:=hid hall;have HF:=hid hf;generalize hgm:ps[m].gen=gm at*;have HGM:=hid hgm;clear hT h hall hf hgm;go_in;go_wp2_with fail;go_loop [13] (λ v13=>∃i:Nat,i<=m/\v13= iI i) (λ v13=>m-(intOf v13).toNat)
 case atStart=>exact⟨0,by omega,rfl⟩
 case round=>
  obtain⟨i,hi,rfl⟩:=hrel;have hin:i<ps.length:=by omega
  obtain⟨c0,c1,c2,f0,f1,f2⟩:=H.o.cell hin;have hi0:(0:Int)<=(i:Int):=by omega
  have hi1:(i:Int)<(ps.length:Int):=by omega
  by_cases hlt:i<m
  ·rw[HALL.o i (by omega) hlt] at c0;clear c1 c2 f0 f1 f2;go_wp2_with fail;go_round
   case rel=>exact⟨i+1,by omega,by go_num⟩
   case measure=>simp[intOf];omega
  ·obtain rfl:i=m:=by omega
   rw[HF.o] at c0;rw[HGM.o] at c1;have hupd:Upd [pl] w (((w.setCell (dD pl (i*3)) (.bool true)).setCell (dD pl (i*3+2)) (.pointer x)).setCell (dD pl (i*3+1)) (iI (gm+1))):=(((Upd.refl _ _).setCell _ _ (by simp)).setCell _ _ (by simp)).setCell _ _ (by simp);have hnew:B0 (((w.setCell (dD pl (i*3)) (.bool true)).setCell (dD pl (i*3+2)) (.pointer x)).setCell (dD pl (i*3+1)) (iI (gm+1))) pb tb pl (ps.set i ⟨true,gm+1,x⟩):=by
    refine H.o.set i _ hupd ?_;rw[heap_setCell_same _ pl _ _ _ _ (heap_setCell_same _ pl _ _ _ _ (heap_setCell_same _ pl _ _ _ _ H.o.pls))]
    congr 2
    exact GO ps i ⟨true,gm+1,x⟩
   have hset:(ps.set i ⟨true,gm+1,x⟩:List Pl)[i]'(by simpa using hin)=⟨true,gm+1,x⟩:=by simp
   have HCL:=hid (show∀W,Ext (((w.setCell (dD pl (i*3)) (.bool true)).setCell (dD pl (i*3+2)) (.pointer x)).setCell (dD pl (i*3+1)) (iI (gm+1))) W->Calls prog 132 #[iI i,pP tb 0] W λ r w'=>r= .returned (.agg #[iI (i+1),iI (gm+1)])/\Ext W w' from
    λ W hW=>(JY pb tb pl _ i (by simpa using hin) W (hnew.ext hW)).mono λ r w' h=>⟨by rw[h.1,hset],h.2⟩)
   have HNW:=hid hnew;have HUP:=hid hupd;have hne:=H.o.ne.2.1;have hne':=hne.symm;have hbh:((((w.setCell (dD pl (i*3)) (.bool true)).setCell (dD pl (i*3+2)) (.pointer x)).setCell (dD pl (i*3+1)) (iI (gm+1))).alloc (.cells #[iI 0,iI 0] 82)).heap[w.heap.size]?=some (.cells #[iI 0,iI 0] 82):=by
    have:=Ub (((w.setCell (dD pl (i*3)) (.bool true)).setCell (dD pl (i*3+2)) (.pointer x)).setCell (dD pl (i*3+1)) (iI (gm+1))) (.cells #[iI 0,iI 0] 82);simpa using this
   have HBH:=hid hbh;clear hnew hupd hset hbh;go_wp2_with fail;refine(HCL.o _ ((Ext.refl _).alloc _)).mono ?_;rintro r w5 ⟨rfl,hx5⟩;have hb5:=hx5.heap HBH.o;obtain⟨e0,e1,e2,e3⟩:=Al hb5;have HN:=hid (show B0 ((w5.setCell (dD w.heap.size 0) (iI (i+1))).setCell (dD w.heap.size 1) (iI (gm+1))) pb tb pl (ps.set i ⟨true,gm+1,x⟩)/\Upd [pl] w ((w5.setCell (dD w.heap.size 0) (iI (i+1))).setCell (dD w.heap.size 1) (iI (gm+1))) from by
    have hT5:=(HNW.o.ext ((Ext.refl _).alloc _)).ext hx5;have hu5:Upd [w.heap.size] w5 ((w5.setCell (dD w.heap.size 0) (iI (i+1))).setCell (dD w.heap.size 1) (iI (gm+1))):=(((Upd.refl _ _).setCell _ _ (by simp)).setCell _ _ (by simp));refine⟨hT5.upd hu5 (by simp;omega) (by have:=lH H.o.var;simp;omega) (by simp;omega),?_⟩;have hU1:Upd [pl] w w5:=HUP.o.trans ((((Ext.refl _).alloc _).trans hx5).upd _);exact(hU1.setCell _ _ (by simp)).setCell _ _ (by simp))
   clear hx5 hb5;go_wp2_with fail;refine Ue (v:= .tuple #[.agg #[iI (i+1),iI (gm+1)],iI 0]) (by simp[results,results80,go_sem,e0,e1]) rfl ⟨rfl,HN.o⟩
end
end inoP
end Go.Proofs.YtdakioiagpkfhaaGreatDoor
