import Derived.Test.YtdakioiagpkfhaaGreatDoorP15
import Derived.Lib.Bytealg
set_option maxRecDepth 99999
set_option maxHeartbeats 0
set_option linter.all false
namespace Go.Proofs.YtdakioiagpkfhaaGreatDoor
open WideShapes RowKit Conc
open Go.Lib (compareBytes)
open Go.Proofs.Tryz
variable {ds ys:List Int} {o:Nat} {v:Value} {w:World}
theorem NF (i:Nat):bv (zer (i+1))=bv (zer i)++[.int .u8 0]:=by
 rw[zer,List.replicate_succ',<-zer,Bu];rfl
theorem Ij (n:Nat) (hn:n<=3000) (w:World):
  Calls prog 427 #[nN,iI n] w λ r w'=>∃v,r= .returned v/\AA w' w.heap.size 5 v (bv (zer n))/\Ext w w':=by
 have m1:(if(n:Int)<0 then(n:Int) else 0)=0:=by split<;>omega
 have m2:(if 0<(n:Int) then(0:Int) else(n:Int))=0:=by split<;>omega
 have m3:(if 0<n then(0:Int) else(n:Int))=0:=by split<;>omega
 obtain⟨i0,hi,hz0,hz1,hz2⟩:=info_parts BR;obtain⟨w1,p1,p2,p3⟩:=run_makeSlice_owned (P:=prog) (w:=w) w.heap.size 26 5 i0 (.int .u8 0) 1 underlying26 hi hz0 hz1 .i64 .i64 n (by omega) (by rw[hz2];omega) (by unfold maxLen;omega) (Uf _);have hc0:=run_copy_none (P:=prog) w1 26 26 3 5 (some ⟨w.heap.size,0,none⟩) none 0 n 0 0 underlying26 (by rw[hi];simp[hz1]) rfl;have P1:=hid p1;have P2:=hid (show AA w1 w.heap.size 5 (sS w.heap.size 0 0 n) [] from p2);have P3:=hid (Uu p3 (Ext.refl w) (λ g hg=>by cases hg));have HC:=hid hc0;clear p1 p2 p3 hc0 hi hz0 hz1 hz2;go_in;have p1:=P1.o;have hc:=HC.o;go_wp2_with fail;clear p1 hc;go_loopw [6,20] (λ v6 v20 wr=>∃i:Nat,i<=n/\v20= iI i/\AA wr w.heap.size 5 v6 (bv (zer i))/\Ext w wr) (λ _ v20 _=>n-(intOf v20).toNat)
 case atStart=>exact⟨0,by omega,rfl,P2.o,P3.o⟩
 case round=>
  obtain⟨i,hi,rfl,hO,hX⟩:=hrel;by_cases hlt:i<n
  ·have hd:decide ((i:Int)<(n:Int))=true:=by simp;omega
   have hd2:decide (i<n)=true:=by simp;omega
   obtain⟨v',w',q1,q2,q3,q4⟩:=hO.append1 (P:=prog) (t:=26) (ty:=26) (.int .u8 0) 1 underlying26 BR rfl (.int .u8 0) rfl (by rw[AS,B9];unfold maxLen;omega) (by rw[AS,B9];omega) hX.size;rw[<-NF] at q2;have X2:=hid (AA.grow_ext (AA.ext hO ((Ext.refl wr).alloc _)) q3 (hX.alloc _) (Uf _));obtain⟨a6,c6,rfl,_⟩:=hO.row2 (Jk _);have Q1:=hid q1;have Q2:=hid q2;clear q1 q2 q3 q4 hO hX;go_wp2_with (at_builtin;refine jA rfl (.tmp 22) (.tmp 23) _ rfl _ _ _ rfl rfl Q1.o ?_);go_roundw
   case rel=>exact⟨i+1,by omega,by go_num,Q2.o,X2.o⟩
   case measure=>simp[intOf];omega
  ·have hd:decide ((i:Int)<(n:Int))=false:=by simp;omega
   have hd2:decide (i<n)=false:=by simp;omega
   obtain rfl:i=n:=by omega
   have HO:=hid hO;have HX:=hid hX;clear hO hX;go_wp2_with fail;go_ret;exact⟨_,rfl,HO.o,HX.o⟩
def wrote (o:Nat) (ys:List Int):List Int:=if ys=[] then[] else zer o++ys
theorem FL (h:Wf ys):Wf (wrote o ys):=by
 unfold wrote;split
 ·exact .nil
 ·exact(Jk o).app h
theorem GR (o:Nat) (ys:List Int):(wrote o ys).length<=o+ys.length:=by
 unfold wrote;split<;>simp[B9]
theorem Lq {a:Option Addr} {m c:Nat} (hr:AI .u8 w a m c ys) (hm:m=ys.length) (h0:0<m) (hl:o+m<=2048) {w2:World} {v2:Value} (O2:AA w2 w.heap.size 5 v2 (bv (zer (o+m)))) (X2:Ext w w2):
  ∃g cap w3,v2= sS g 0 (o+m) cap/\Hy ((Instr.sliceAt 26 (sS g 0 (o+m) cap) (some (iI o)) none none).run prog w2= .ok (sS g o m (cap-o)) w2)/\
   Hy ((Builtin.copy_ #[26,26] 3 #[sS g o m (cap-o),.slice a m c]).run prog w2= .ok (goInt m) w3)/\
   Hy (AA w3 w.heap.size 5 v2 (bv (zer o++ys)))/\Hy (Ext w w3):=by
 have hlen:(bv (zer (o+m))).length=o+m:=by rw[AS,B9]
 rcases O2.form with⟨_,he⟩|⟨g,cap,cur,rfl,hb,hc,hcm,hg,hs,ht⟩
 ·have:=congrArg List.length he;rw[hlen] at this;simp at this;omega
 ·rw[hlen] at hc ht|-
  obtain⟨i0,hi,hz0,hz1,hz2⟩:=info_parts BR;have h5:=hr.2.2.2.2;obtain⟨b,p,rfl,hcell⟩:∃b p,a=some ⟨b,p,none⟩/\∀i,i<m->w.cell? (dD b (p+i))=some (.int .u8 (ys.getD i 0)):=by
   rcases h5 with h5|h5
   ·omega
   ·exact h5
  have R1:=Bd (some ⟨g,0,none⟩) o (o+m) cap (by omega) w2;rw[if_neg (by omega)] at R1;have e1:o+m-o=m:=by omega
  rw[e1] at R1;have e2:(Option.map (λ x:Addr=>x.add o) (some ⟨g,0,none⟩))=some ⟨g,o,none⟩:=by
   rw[Option.map_some,Go.WideShapes.add_plain];simp
  rw[e2] at R1;have R2:=run_copy_row (P:=prog) w2 26 26 3 5 g o m (cap-o) ⟨b,p,none⟩ m c cur 5 (bv ys) underlying26 (by rw[hi];simp[hz1]) hg (by rw[AS,<-hm];simp) (λ j v hj=>by
   have hj':j<ys.length:=by have:=(List.getElem?_eq_some_iff.1 hj).1;rwa [AS] at this
   rw[Go.WideShapes.add_plain,X2.cell (hcell j (by omega)),<-hj];simp[bv,List.getD,Ud hj']) (by rw[AS,<-hm,hs];exact hc) (by
   intro u hu;obtain⟨z,_,rfl⟩:=List.mem_map.1 hu;rfl)
  rw[AS,<-hm] at R2;refine⟨g,cap,_,rfl,hid R1,hid R2,hid ?_,hid ?_⟩
  ·have ht2:cur.toList.take o=bv (zer o):=by
    have:=congrArg (List.take o) ht;rw[List.take_take,Nat.min_eq_left (by omega)] at this;rw[this,zer,bv,List.map_replicate,List.take_replicate,Nat.min_eq_left (by omega)];simp[zer,bv]
   have hl2:(cur.toList.take o++bv ys++cur.toList.drop (o+m)).take (o+m)=bv (zer o++ys):=by
    rw[ht2,Bu,List.take_left'];rw[Uc,AS,AS,B9,hm]
   have hlq:(bv (zer o++ys)).length=o+m:=by rw[AS,Uc,B9,hm]
   refine⟨by omega,.inr ⟨g,cap,_,by rw[hlq],hb,setRow_heap w2 g cur _ 5 _ hg,by rw[hlq];exact hc,hcm,?_,?_⟩⟩
   ·simp[AS,<-hm,hs];omega
   ·rw[hlq];simpa using hl2
  ·exact(Ae w2 g _).ext X2 (λ q hq=>by simp at hq;omega)
theorem Km {y:Value} (hy:Sl w y ys) (o:Nat) (hl:o+ys.length<=2048):
  Calls prog 406 #[nN,iI o,y] w λ r w'=>∃v,r= .returned (.tuple #[v,iI 0])/\AA w' w.heap.size 5 v (bv (wrote o ys))/\Ext w w':=by
 have m1:(if(0:Int)<(o:Int) then(o:Int) else 0)=(o:Int):=by split<;>omega
 have m3:(if(o:Int)<0 then(0:Int) else(o:Int))=(o:Int):=by split<;>omega
 obtain⟨a,c,rfl,hr,hp⟩:=hy;rcases Nat.eq_zero_or_pos ys.length with h0|h0
 ·obtain rfl:ys=[]:=List.eq_nil_of_length_eq_zero h0;have HC:=hid (Ar none 0 0 [] (by omega) w (Io w) (λ _=>rfl));have hx:wrote o []=[]:=by simp[wrote]
  rw[hx];clear hr hp hx;go_in;go_wp2_with (go_at_call 96;refine HC.o.mono ?_;rintro r w1 ⟨v1,rfl,O1,X1⟩);go_ret2;exact⟨_,rfl,O1,X1⟩
 ·obtain⟨m,hm⟩:∃m,m=ys.length:=⟨_,rfl⟩;rw[<-hm] at hr hl h0|-
  have e1:((m:Int)==0)=false:=by simp;omega
  have HT:=hid (GW (off:=o) (n:=m) hl w);have HS:=hid (Ij (o+m) (by omega) w);have m4:(if(0:Int)<(o:Int)+(m:Int) then(o:Int)+(m:Int) else 0)=(o:Int)+(m:Int):=by split<;>omega
  have m5:(if(o:Int)+(m:Int)<0 then(0:Int) else(o:Int)+(m:Int))=(o:Int)+(m:Int):=by split<;>omega
  have w1:IntKind.i64.wrap ((o:Int)+m)=(o:Int)+m:=Uh _ (by omega);have HR:=hid hr;have HM:=hid hm;have hx:wrote o ys=zer o++ys:=by
   unfold wrote;rw[if_neg (λ e=>by subst e;simp at hm;omega)]
  rw[hx];rw[Int.natCast_add] at HS;have KEY:=hid (λ (w2:World) (v2:Value) (O2:AA w2 w.heap.size 5 v2 (bv (zer (o+m)))) (X2:Ext w w2)=>Lq hr hm h0 hl O2 X2);clear hr hx hm;go_in;go_wp2_with (first
   |(go_at_call 428;refine HT.o.mono ?_;rintro r w2 ⟨rfl,rfl⟩)
   |(go_at_call 427;refine HS.o.mono ?_;rintro r w2 ⟨v2,rfl,O2,X2⟩;obtain⟨g,cap,w3,rfl,R1,R2,O3,X3⟩:=KEY.o w2 v2 O2 X2;clear O2 X2;have r2:=R2.o)
   |((with_reducible refine AF (o:=⟨some 31,.slice _ (.tmp 29) (some (.tmp 30)) none none,_,_,_,none⟩) rfl _ _ _ _ _ rfl _ _ _ _ ?_ ?_ ?_ ?_ _ R1.o ?_);(·rfl);(·rfl);(·rfl);(·rfl)))
  go_ret2;exact⟨_,rfl,O3.o,X3.o⟩
structure AV where
 proc:Int
 off:Int:=0
 count:Int:=0
 size:Int:=0
 mode:Int:=0
 h1:Int:=0
 h2:Int:=0
 k1:Int:=0
 k2:Int:=0
 name:ByteArray:=⟨#[]⟩
 name2:ByteArray:=⟨#[]⟩
def AV.cells (a:AV) (d:Value):Array Value:= (pR a.proc a.off a.count a.size a.mode a.h1 a.h2 a.k1 a.k2 a.name a.name2 d)
def AV.val (a:AV) (d:Value):Value:= .agg (pR a.proc a.off a.count a.size a.mode a.h1 a.h2 a.k1 a.k2 a.name a.name2 d)
structure RV where
 e:Int:=0
 h1:Int:=0
 h2:Int:=0
 kind:Int:=0
 mode:Int:=0
 size:Int:=0
 count:Int:=0
 eof:Bool:=false
def RV.cells (r:RV) (d:Value):Array Value:= (rR r.e r.h1 r.h2 r.kind r.mode r.size d r.count r.eof (nN))
def RV.val (r:RV) (d:Value):Value:= .agg (rR r.e r.h1 r.h2 r.kind r.mode r.size d r.count r.eof (nN))
structure AV.Ok (a:AV) (ds:List Int):Prop where
 off:0<=a.off/\a.off<=5000
 count:0<=a.count/\a.count<=5000
 size:0<=a.size/\a.size<=5000
 mode:0<=a.mode/\a.mode<=5000
 h1:0<=a.h1/\a.h1<=5000
 h2:0<=a.h2/\a.h2<=5000
 k1:0<=a.k1/\a.k1<=5000
 k2:0<=a.k2/\a.k2<=5000
 name:a.name.size<=64
 name2:a.name2.size<=64
 data:ds.length<=2000
def AV.fb (a:AV) (ds:List Int):Nat->List Int
 |0=>be4 a.h1++be4 a.h2
 |1=>be4 a.k1++be4 a.k2
 |2=>xt (sb a.name)
 |3=>xt (sb a.name2)
 |4=>be8 a.off
 |5=>be4 a.count
 |6=>be4 a.size
 |7=>be4 a.mode
 |8=>xt ds
 |_=>[]
def AV.less (a:AV):Nat->AV
 |0=>{a with h1:=0,h2:=0}
 |1=>{a with k1:=0,k2:=0}
 |2=>{a with name:=⟨#[]⟩}
 |3=>{a with name2:=⟨#[]⟩}
 |4=>{a with off:=0}
 |5=>{a with count:=0}
 |6=>{a with size:=0}
 |7=>{a with mode:=0}
 |_=>a
def CW (ds:List Int) (f:Nat):List Int:=if f=8 then[] else ds
theorem AV.Ok.less {a:AV} (h:a.Ok ds) (f:Nat):(a.less f).Ok (CW ds f):=by
 obtain⟨h1,h2,h3,h4,h5,h6,h7,h8,h9,h10,h11⟩:=h;have hd:(CW ds f).length<=2000:=by unfold CW;split<;>simp[h11]
 match f with
 |0=>exact⟨h1,h2,h3,h4,by simp[AV.less],by simp[AV.less],h7,h8,h9,h10,hd⟩
 |1=>exact⟨h1,h2,h3,h4,h5,h6,by simp[AV.less],by simp[AV.less],h9,h10,hd⟩
 |2=>exact⟨h1,h2,h3,h4,h5,h6,h7,h8,(by show(0:Nat)<=64;omega),h10,hd⟩
 |3=>exact⟨h1,h2,h3,h4,h5,h6,h7,h8,h9,(by show(0:Nat)<=64;omega),hd⟩
 |4=>exact⟨by simp[AV.less],h2,h3,h4,h5,h6,h7,h8,h9,h10,hd⟩
 |5=>exact⟨h1,by simp[AV.less],h3,h4,h5,h6,h7,h8,h9,h10,hd⟩
 |6=>exact⟨h1,h2,by simp[AV.less],h4,h5,h6,h7,h8,h9,h10,hd⟩
 |7=>exact⟨h1,h2,h3,by simp[AV.less],h5,h6,h7,h8,h9,h10,hd⟩
 |_+8=>exact⟨h1,h2,h3,h4,h5,h6,h7,h8,h9,h10,hd⟩
theorem AV.fb_wf {a:AV} (h:a.Ok ds) (hd:Wf ds) (f:Nat):Wf (a.fb ds f):=by
 have b4:∀n:Int,0<=n/\n<=5000->Wf (be4 n):=λ n h=>BL n h.1 (by omega)
 match f with
 |0=>exact(b4 _ h.h1).app (b4 _ h.h2)
 |1=>exact(b4 _ h.k1).app (b4 _ h.k2)
 |2=>exact Dy (Cl _) (by rw[Ab];have:=h.name;omega)
 |3=>exact Dy (Cl _) (by rw[Ab];have:=h.name2;omega)
 |4=>exact Kn _ h.off.1 (by have:=h.off.2;omega)
 |5=>exact b4 _ h.count
 |6=>exact b4 _ h.size
 |7=>exact b4 _ h.mode
 |8=>exact Dy hd (by have:=h.data;omega)
 |_+9=>exact Wf.nil
theorem CD (n:Int):(be4 n).length=4:=rfl
theorem R0 (n:Int):(be8 n).length=8:=rfl
theorem AV.fb_len {a:AV} (h:a.Ok ds) (f:Nat):(a.fb ds f).length<=2100:=by
 have q:∀l:List Int,l.length<=2000->(xt l).length<=2100:=λ l hl=>by rw[G9];have:=Iz l.length;omega
 match f with
 |0=>simp[AV.fb,CD]
 |1=>simp[AV.fb,CD]
 |2=>exact q _ (by rw[Ab];have:=h.name;omega)
 |3=>exact q _ (by rw[Ab];have:=h.name2;omega)
 |4=>simp[AV.fb,R0]
 |5=>simp[AV.fb,CD]
 |6=>simp[AV.fb,CD]
 |7=>simp[AV.fb,CD]
 |8=>exact q _ h.data
 |_+9=>simp[AV.fb]
def AV.lay:AV->List Int->List Nat->List Int
 |_,_,[]=>[]
 |a,ds,f::l=>a.fb ds f++AV.lay (a.less f) (CW ds f) l
def AV.rest:AV->List Nat->AV
 |a,[]=>a
 |a,f::l=>AV.rest (a.less f) l
theorem CF:∀{a b:List UInt8},compareBytes a b=0↔a=b
 |[],[]=>by simp[compareBytes]
 |[],_::_=>by simp[compareBytes]
 |_::_,[]=>by simp[compareBytes]
 |x::a,y::b=>by
  have ih:= @CF a b;unfold compareBytes;by_cases h1:x<y
  ·have:x≠y:=λ e=>by subst e;exact UInt8.lt_irrefl _ h1
   simp[h1,this]
  ·by_cases h2:y<x
   ·have:x≠y:=λ e=>by subst e;exact UInt8.lt_irrefl _ h2
    simp[h1,h2,this]
   ·have:x=y:=UInt8.le_antisymm (UInt8.not_lt.1 h2) (UInt8.not_lt.1 h1);simp[h1,h2,ih,this]
theorem Gw:∀(a b:List UInt8),compareBytes b a= -compareBytes a b
 |[],[]=>by simp[compareBytes]
 |[],_::_=>by simp[compareBytes]
 |_::_,[]=>by simp[compareBytes]
 |x::a,y::b=>by
  have ih:=Gw a b;unfold compareBytes;by_cases h1:x<y
  ·have:¬y<x:=λ h=>UInt8.lt_irrefl _ (UInt8.lt_trans h1 h)
   simp[h1,this]
  ·by_cases h2:y<x
   ·simp[h1,h2]
   ·simp[h1,h2,ih]
theorem F5:∀{a b c:List UInt8},compareBytes a b<0->compareBytes b c<0->compareBytes a c<0
 |[],[],_,h,_=>by simp[compareBytes] at h
 |[],_::_,[],_,h=>by simp[compareBytes] at h
 |[],_::_,_::_,_,_=>by simp[compareBytes]
 |_::_,[],_,h,_=>by simp[compareBytes] at h
 |_::_,_::_,[],_,h=>by simp[compareBytes] at h
 |x::a,y::b,z::c,h1,h2=>by
  have ih:= @F5 a b c;unfold compareBytes at h1 h2|-
  by_cases q1:x<y
  ·by_cases q2:y<z
   ·simp[UInt8.lt_trans q1 q2]
   ·by_cases q3:z<y
    ·simp[q2,q3] at h2
    ·have:y=z:=UInt8.le_antisymm (UInt8.not_lt.1 q3) (UInt8.not_lt.1 q2);subst this;simp[q1]
  ·by_cases q4:y<x
   ·simp[q1,q4] at h1
   ·have:x=y:=UInt8.le_antisymm (UInt8.not_lt.1 q4) (UInt8.not_lt.1 q1);subst this;simp only[q1,if_false] at h1;by_cases q2:x<z
    ·simp[q2]
    ·by_cases q3:z<x
     ·simp[q2,q3] at h2
     ·simp only[q2,q3,if_false] at h2|-
      exact ih h1 h2
structure EV where
 name:ByteArray
 ino:Int
 gen:Int
def EV.cells (e:EV):List Value:=[.string e.name,iI e.ino,iI e.gen]
def EV.val (e:EV):Value:= .agg #[.string e.name,iI e.ino,iI e.gen]
def EV.key (e:EV):List UInt8:=e.name.data.toList
def enC (es:List EV):List Value:=es.flatMap EV.cells
theorem VG:∀es:List EV,(enC es).length=es.length*3
 |[]=>rfl
 |e::es=>by have:=VG es;simp only[enC,List.flatMap_cons,Uc] at this|-;simp[EV.cells,this];omega
theorem PO:∀(es:List EV) (i:Nat) (h:i<es.length),(enC es)[i*3]?=some (.string es[i].name)/\(enC es)[i*3+1]?=some (iI (es[i].ino))/\(enC es)[i*3+2]?=some (iI (es[i].gen))
 |[],i,h=>by simp at h
 |e::es,0,h=>by simp[enC,EV.cells]
 |e::es,i+1,h=>by
  have ih:=PO es i (by simpa using h);simp only[enC,List.flatMap_cons,EV.cells,List.cons_append,List.nil_append,List.getElem_cons_succ] at ih|-
  rw[show(i+1)*3=i*3+3 by omega];simpa using ih
def Ad (w:World) (v:Value) (es:List EV):Prop:=w.ownsRow 0 342 3 v es.length (enC es)
def AW (db:Nat) (es:List EV) (w:World) (F:List Nat):Prop:=
 ∃v,w.heap[db]?=oC #[v] 260/\Ad w v es/\F=db::v.ownBlock.toList/\v.ownBlock≠some db
theorem Ad.form {es:List EV} (h:Ad w v es):(v= nN/\es=[])\/
  ∃g cap cur,v= sS g 0 es.length cap/\es.length<=cap/\cap<=maxLen/\w.heap[g]?=oC cur 342/\cur.size=cap*3/\cur.toList.take (es.length*3)=enC es:=by
 rcases h.2 with⟨hv,h0⟩|⟨g,cap,cur,hv,hb,hg,hn,hm,hs,ht⟩
 ·exact .inl ⟨hv,List.eq_nil_of_length_eq_zero h0⟩
 ·exact .inr ⟨g,cap,cur,hv,hn,hm,hg,by simpa using hs,by simpa using ht⟩
theorem Ad.upd {S:List Nat} {w':World} {es:List EV} (h:Ad w v es) (hx:Upd S w w') (hs:∀g,v.ownBlock=some g->g∉S):Ad w' v es:=by
 refine⟨h.1,?_⟩;rcases h.2 with hn|⟨g,cap,cur,hv,hb,hg,rest⟩
 ·exact .inl hn
 ·exact .inr ⟨g,cap,cur,hv,hb,hx.heap hg (hs g (by rw[hv];rfl)),rest⟩
theorem Ad.lt {es:List EV} (h:Ad w v es) {g:Nat} (hg:v.ownBlock=some g):g<w.heap.size:=(World.ownsRow.lt h g hg).2
theorem AW.loc (db:Nat) (es:List EV):Loc (AW db es):=
 ⟨λ w F h b hb=>by
  obtain⟨v,h1,h2,rfl,h4⟩:=h;simp only[Um,Option.mem_toList] at hb;rcases hb with rfl|hb
  ·exact lH h1
  ·exact h2.lt hb,λ w w' F S h hu hs=>by
  obtain⟨v,h1,h2,rfl,h4⟩:=h;exact⟨v,hu.heap h1 (hs db (by simp)),h2.upd hu (λ g hg=>hs g (by simp[hg])),rfl,h4⟩⟩
theorem Ad.cell {es:List EV} (h:Ad w v es) {i:Nat} (hi:i<es.length):
  ∃g cap,v= sS g 0 es.length cap/\g<w.heap.size/\es.length<=cap/\cap<=maxLen/\w.cell? (dD g (i*3))=some (.string es[i].name)/\w.cell? (dD g (i*3+1))=some (iI (es[i].ino))/\w.cell? (dD g (i*3+2))=some (iI (es[i].gen)):=by
 rcases h.form with⟨_,h0⟩|⟨g,cap,cur,hv,hn,hm,hg,hs,ht⟩
 ·subst h0;simp at hi
 ·have key:∀k,k<es.length*3->w.cell? (dD g k)=(enC es)[k]?:=λ k hk=>by
   rw[cO hg k,<-ht,List.getElem?_take,if_pos hk];simp
  obtain⟨a1,a2,a3⟩:=PO es i hi;exact⟨g,cap,hv,lH hg,hn,hm,by rw[key _ (by omega),a1],by rw[key _ (by omega),a2],by rw[key _ (by omega),a3]⟩
end Go.Proofs.YtdakioiagpkfhaaGreatDoor
