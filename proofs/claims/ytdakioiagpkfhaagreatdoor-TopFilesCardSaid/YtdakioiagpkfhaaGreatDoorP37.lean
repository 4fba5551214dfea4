import Derived.Test.YtdakioiagpkfhaaGreatDoorP36
set_option maxRecDepth 99999
set_option maxHeartbeats 0
set_option linter.all false
namespace Go.Proofs.YtdakioiagpkfhaaGreatDoor
open RowKit Conc
open Go.Proofs.Tryz
variable {B dv:Value} {a:QV} {all ds zs:List Int} {ns:List ByteArray} {rb:Nat} {w w':World} {x:Int}
structure QOk (a:QV):Prop where
 fid:0<=a.fid/\a.fid<4294967296
 nfid:0<=a.nfid/\a.nfid<4294967296
 mode:0<=a.mode/\a.mode<4294967296
 perm:0<=a.perm/\a.perm<4294967296
 off:0<=a.off/\a.off<4611686018427387905
 count:0<=a.count/\a.count<4294967296
 size:a.size=0\/a.size= -1
 name:a.name.size<=255
theorem lt8.lt32 {n:Int} (h:lt8 n):lt32 n:=⟨h.1,by have:=h.2;omega⟩
theorem lt0:lt32 0:=⟨by omega,by omega⟩
theorem MZ:KP 0:=⟨by omega,by omega⟩
theorem FZ:(⟨#[]⟩:ByteArray).size<=255:=by decide
theorem QIs.ok (h:QIs a ns ds):QOk a:=by
 cases h with
 |attach ht hf hn=>exact⟨hf,lt0,lt0,lt0,MZ,lt0,.inl rfl,hn⟩
 |walk0 ht hf hn=>exact⟨hf,hn,lt0,lt0,MZ,lt0,.inl rfl,FZ⟩
 |walk1 ht hf hn hs=>exact⟨hf,hn,lt0,lt0,MZ,lt0,.inl rfl,FZ⟩
 |open_ ht hf hm=>exact⟨hf,lt0,hm.lt32,lt0,MZ,lt0,.inl rfl,FZ⟩
 |create ht hf hp hm hn=>exact⟨hf,lt0,hm.lt32,hp,MZ,lt0,.inl rfl,hn⟩
 |read ht hf ho hc=>exact⟨hf,lt0,lt0,lt0,ho,hc,.inl rfl,FZ⟩
 |write ht hf ho hd=>exact⟨hf,lt0,lt0,lt0,ho,lt0,.inl rfl,FZ⟩
 |wstat ht hf hn=>exact⟨hf,lt0,lt0,lt0,MZ,lt0,.inr rfl,hn⟩
def DI (a:QV) (ns:List ByteArray) (ds:List Int) (c:Int):List Int:=
 if c=102 then leN a.fid 4 else if c=119 then leN a.nfid 4 else if c=109 then leN a.mode 1 else if c=112 then leN a.perm 4 else if c=111 then leN a.off 8 else if c=99 then leN a.count 4 else if c=115 then leN (a.size%4294967296) 4 else if c=110 then tx a.name else if c=100 then dx ds else tx8 ns
theorem Rh (a:QV) (ns:List ByteArray) (hd:Wf ds) (c:Int):Wf (DI a ns ds c):=by
 unfold DI
 repeat' split
 all_goals first|exact AQ _ _|exact NO _|exact dx_Wf hd|exact VU _
theorem PF {nv:Value} (h:QOk a) (w:World):
  Calls prog 66 #[a.val nv dv,.int .u8 102] w λ r w'=>∃v,r= .returned v/\AA w' w.heap.size 5 v (bv (leN a.fid 4))/\Ext w w':=by
 have H:=hid (Cu a.fid (by have:=h.fid;omega) (by have:=h.fid;omega) 4 (by omega));have e:a.fid%18446744073709551616=a.fid:=by have:=h.fid;omega
 rw[e] at H;obtain⟨W0,hW0⟩:∃W,W=w.alloc (.cells (aA a.typ a.tag a.fid a.nfid a.otag a.msize a.mode a.perm a.off a.count a.name nv a.size dv) 43):=⟨_,rfl⟩;have X0:Ext w W0:=by rw[hW0];exact(Ext.refl w).alloc _
 have hb:W0.heap[w.heap.size]?=oC (aA a.typ a.tag a.fid a.nfid a.otag a.msize a.mode a.perm a.off a.count a.name nv a.size dv) 43:=by rw[hW0];exact Ub w _
 have c0:W0.cell? (dD w.heap.size 2)=some (iI a.fid):=cO hb 2;have HX:=hid X0;have HW:=hid hW0;dsimp only[QV.val];clear X0 hW0 hb h e;go_in;go_wp2_with (rw[<-HW.o]);refine(H.o _).mono ?_;rintro r w1 ⟨v1,rfl,O1,X1⟩;go_wp2_with fail;go_ret;exact⟨_,rfl,O1.low HX.o.size,HX.o.trans X1⟩
theorem O0 {nv:Value} (h:QOk a) (w:World):
  Calls prog 66 #[a.val nv dv,.int .u8 119] w λ r w'=>∃v,r= .returned v/\AA w' w.heap.size 5 v (bv (leN a.nfid 4))/\Ext w w':=by
 have H:=hid (Cu a.nfid (by have:=h.nfid;omega) (by have:=h.nfid;omega) 4 (by omega));have e:a.nfid%18446744073709551616=a.nfid:=by have:=h.nfid;omega
 rw[e] at H;obtain⟨W0,hW0⟩:∃W,W=w.alloc (.cells (aA a.typ a.tag a.fid a.nfid a.otag a.msize a.mode a.perm a.off a.count a.name nv a.size dv) 43):=⟨_,rfl⟩;have X0:Ext w W0:=by rw[hW0];exact(Ext.refl w).alloc _
 have hb:W0.heap[w.heap.size]?=oC (aA a.typ a.tag a.fid a.nfid a.otag a.msize a.mode a.perm a.off a.count a.name nv a.size dv) 43:=by rw[hW0];exact Ub w _
 have c0:W0.cell? (dD w.heap.size 3)=some (iI a.nfid):=cO hb 3;have HX:=hid X0;have HW:=hid hW0;dsimp only[QV.val];clear X0 hW0 hb h e;go_in;go_wp2_with (rw[<-HW.o]);refine(H.o _).mono ?_;rintro r w1 ⟨v1,rfl,O1,X1⟩;go_wp2_with fail;go_ret;exact⟨_,rfl,O1.low HX.o.size,HX.o.trans X1⟩
theorem PE {nv:Value} (h:QOk a) (w:World):
  Calls prog 66 #[a.val nv dv,.int .u8 109] w λ r w'=>∃v,r= .returned v/\AA w' w.heap.size 5 v (bv (leN a.mode 1))/\Ext w w':=by
 have H:=hid (Cu a.mode (by have:=h.mode;omega) (by have:=h.mode;omega) 1 (by omega));have e:a.mode%18446744073709551616=a.mode:=by have:=h.mode;omega
 rw[e] at H;obtain⟨W0,hW0⟩:∃W,W=w.alloc (.cells (aA a.typ a.tag a.fid a.nfid a.otag a.msize a.mode a.perm a.off a.count a.name nv a.size dv) 43):=⟨_,rfl⟩;have X0:Ext w W0:=by rw[hW0];exact(Ext.refl w).alloc _
 have hb:W0.heap[w.heap.size]?=oC (aA a.typ a.tag a.fid a.nfid a.otag a.msize a.mode a.perm a.off a.count a.name nv a.size dv) 43:=by rw[hW0];exact Ub w _
 have c0:W0.cell? (dD w.heap.size 6)=some (iI a.mode):=cO hb 6;have HX:=hid X0;have HW:=hid hW0;dsimp only[QV.val];clear X0 hW0 hb h e;go_in;go_wp2_with (rw[<-HW.o]);refine(H.o _).mono ?_;rintro r w1 ⟨v1,rfl,O1,X1⟩;go_wp2_with fail;go_ret;exact⟨_,rfl,O1.low HX.o.size,HX.o.trans X1⟩
theorem PB {nv:Value} (h:QOk a) (w:World):
  Calls prog 66 #[a.val nv dv,.int .u8 112] w λ r w'=>∃v,r= .returned v/\AA w' w.heap.size 5 v (bv (leN a.perm 4))/\Ext w w':=by
 have H:=hid (Cu a.perm (by have:=h.perm;omega) (by have:=h.perm;omega) 4 (by omega));have e:a.perm%18446744073709551616=a.perm:=by have:=h.perm;omega
 rw[e] at H;obtain⟨W0,hW0⟩:∃W,W=w.alloc (.cells (aA a.typ a.tag a.fid a.nfid a.otag a.msize a.mode a.perm a.off a.count a.name nv a.size dv) 43):=⟨_,rfl⟩;have X0:Ext w W0:=by rw[hW0];exact(Ext.refl w).alloc _
 have hb:W0.heap[w.heap.size]?=oC (aA a.typ a.tag a.fid a.nfid a.otag a.msize a.mode a.perm a.off a.count a.name nv a.size dv) 43:=by rw[hW0];exact Ub w _
 have c0:W0.cell? (dD w.heap.size 7)=some (iI a.perm):=cO hb 7;have HX:=hid X0;have HW:=hid hW0;dsimp only[QV.val];clear X0 hW0 hb h e;go_in;go_wp2_with (rw[<-HW.o]);refine(H.o _).mono ?_;rintro r w1 ⟨v1,rfl,O1,X1⟩;go_wp2_with fail;go_ret;exact⟨_,rfl,O1.low HX.o.size,HX.o.trans X1⟩
theorem PC {nv:Value} (h:QOk a) (w:World):
  Calls prog 66 #[a.val nv dv,.int .u8 111] w λ r w'=>∃v,r= .returned v/\AA w' w.heap.size 5 v (bv (leN a.off 8))/\Ext w w':=by
 have H:=hid (Cu a.off (by have:=h.off;omega) (by have:=h.off;omega) 8 (by omega));have e:a.off%18446744073709551616=a.off:=by have:=h.off;omega
 rw[e] at H;obtain⟨W0,hW0⟩:∃W,W=w.alloc (.cells (aA a.typ a.tag a.fid a.nfid a.otag a.msize a.mode a.perm a.off a.count a.name nv a.size dv) 43):=⟨_,rfl⟩;have X0:Ext w W0:=by rw[hW0];exact(Ext.refl w).alloc _
 have hb:W0.heap[w.heap.size]?=oC (aA a.typ a.tag a.fid a.nfid a.otag a.msize a.mode a.perm a.off a.count a.name nv a.size dv) 43:=by rw[hW0];exact Ub w _
 have c0:W0.cell? (dD w.heap.size 8)=some (iI a.off):=cO hb 8;have HX:=hid X0;have HW:=hid hW0;dsimp only[QV.val];clear X0 hW0 hb h e;go_in;go_wp2_with (rw[<-HW.o]);refine(H.o _).mono ?_;rintro r w1 ⟨v1,rfl,O1,X1⟩;go_wp2_with fail;go_ret;exact⟨_,rfl,O1.low HX.o.size,HX.o.trans X1⟩
theorem PH {nv:Value} (h:QOk a) (w:World):
  Calls prog 66 #[a.val nv dv,.int .u8 99] w λ r w'=>∃v,r= .returned v/\AA w' w.heap.size 5 v (bv (leN a.count 4))/\Ext w w':=by
 have H:=hid (Cu a.count (by have:=h.count;omega) (by have:=h.count;omega) 4 (by omega));have e:a.count%18446744073709551616=a.count:=by have:=h.count;omega
 rw[e] at H;obtain⟨W0,hW0⟩:∃W,W=w.alloc (.cells (aA a.typ a.tag a.fid a.nfid a.otag a.msize a.mode a.perm a.off a.count a.name nv a.size dv) 43):=⟨_,rfl⟩;have X0:Ext w W0:=by rw[hW0];exact(Ext.refl w).alloc _
 have hb:W0.heap[w.heap.size]?=oC (aA a.typ a.tag a.fid a.nfid a.otag a.msize a.mode a.perm a.off a.count a.name nv a.size dv) 43:=by rw[hW0];exact Ub w _
 have c0:W0.cell? (dD w.heap.size 9)=some (iI a.count):=cO hb 9;have HX:=hid X0;have HW:=hid hW0;dsimp only[QV.val];clear X0 hW0 hb h e;go_in;go_wp2_with (rw[<-HW.o]);refine(H.o _).mono ?_;rintro r w1 ⟨v1,rfl,O1,X1⟩;go_wp2_with fail;go_ret;exact⟨_,rfl,O1.low HX.o.size,HX.o.trans X1⟩
theorem PA {nv:Value} (h:QOk a) (w:World):
  Calls prog 66 #[a.val nv dv,.int .u8 115] w λ r w'=>∃v,r= .returned v/\AA w' w.heap.size 5 v (bv (leN (a.size%4294967296) 4))/\Ext w w':=by
 have H:=hid (Cu a.size (by have:=h.size;omega) (by have:=h.size;omega) 4 (by omega));have e:leN (a.size%18446744073709551616) 4=leN (a.size%4294967296) 4:=by rcases h.size with q|q<;>rw[q]<;>rfl
 rw[<-e];obtain⟨W0,hW0⟩:∃W,W=w.alloc (.cells (aA a.typ a.tag a.fid a.nfid a.otag a.msize a.mode a.perm a.off a.count a.name nv a.size dv) 43):=⟨_,rfl⟩;have X0:Ext w W0:=by rw[hW0];exact(Ext.refl w).alloc _
 have hb:W0.heap[w.heap.size]?=oC (aA a.typ a.tag a.fid a.nfid a.otag a.msize a.mode a.perm a.off a.count a.name nv a.size dv) 43:=by rw[hW0];exact Ub w _
 have c0:W0.cell? (dD w.heap.size 12)=some (iI a.size):=cO hb 12;have HX:=hid X0;have HW:=hid hW0;dsimp only[QV.val];clear X0 hW0 hb h e;go_in;go_wp2_with (rw[<-HW.o]);refine(H.o _).mono ?_;rintro r w1 ⟨v1,rfl,O1,X1⟩;go_wp2_with fail;go_ret;exact⟨_,rfl,O1.low HX.o.size,HX.o.trans X1⟩
theorem PD {nv:Value} (h:a.name.size<=255) (w:World):
  Calls prog 66 #[a.val nv dv,.int .u8 110] w λ r w'=>∃v,r= .returned v/\AA w' w.heap.size 5 v (bv (tx a.name))/\Ext w w':=by
 have H:=hid (SK a.name (by omega));obtain⟨W0,hW0⟩:∃W,W=w.alloc (.cells (aA a.typ a.tag a.fid a.nfid a.otag a.msize a.mode a.perm a.off a.count a.name nv a.size dv) 43):=⟨_,rfl⟩;have X0:Ext w W0:=by rw[hW0];exact(Ext.refl w).alloc _
 have hb:W0.heap[w.heap.size]?=oC (aA a.typ a.tag a.fid a.nfid a.otag a.msize a.mode a.perm a.off a.count a.name nv a.size dv) 43:=by rw[hW0];exact Ub w _
 have c0:W0.cell? (dD w.heap.size 10)=some (.string a.name):=cO hb 10;have HX:=hid X0;have HW:=hid hW0;dsimp only[QV.val];clear X0 hW0 hb h;go_in;go_wp2_with (rw[<-HW.o]);refine(H.o _).mono ?_;rintro r w1 ⟨v1,rfl,O1,X1⟩;go_wp2_with fail;go_ret;exact⟨_,rfl,O1.low HX.o.size,HX.o.trans X1⟩
theorem PG {nv:Value} (w:World) (hd:Sl w dv ds) (hl:ds.length<=1024):
  Calls prog 66 #[a.val nv dv,.int .u8 100] w λ r w'=>∃v,r= .returned v/\AA w' w.heap.size 5 v (bv (dx ds))/\Ext w w':=by
 have H:=hid (λ W (X:Ext w W)=>rdata (hd.ext X) (by omega));obtain⟨W0,hW0⟩:∃W,W=w.alloc (.cells (aA a.typ a.tag a.fid a.nfid a.otag a.msize a.mode a.perm a.off a.count a.name nv a.size dv) 43):=⟨_,rfl⟩;have X0:Ext w W0:=by rw[hW0];exact(Ext.refl w).alloc _
 have hb:W0.heap[w.heap.size]?=oC (aA a.typ a.tag a.fid a.nfid a.otag a.msize a.mode a.perm a.off a.count a.name nv a.size dv) 43:=by rw[hW0];exact Ub w _
 have c0:W0.cell? (dD w.heap.size 13)=some (dv):=cO hb 13;have HX:=hid X0;have HW:=hid hW0;dsimp only[QV.val];clear X0 hW0 hb hd hl;go_in;go_wp2_with (rw[<-HW.o]);refine(H.o _ HX.o).mono ?_;rintro r w1 ⟨v1,rfl,O1,X1⟩;go_wp2_with fail;go_ret;exact⟨_,rfl,O1.low HX.o.size,HX.o.trans X1⟩
theorem Mo {nv:Value} (w:World) (hn:SlS w nv []):
  Calls prog 66 #[a.val nv dv,.int .u8 108] w λ r w'=>∃v,r= .returned v/\AA w' w.heap.size 5 v (bv (tx8 []))/\Ext w w':=by
 obtain⟨na,nc,rfl,hp,hnc,hcm,hcell⟩:=hn;have H:=hid (Cu 0 (by omega) (by omega) 2 (by omega));obtain⟨W0,hW0⟩:∃W,W=w.alloc (.cells (aA a.typ a.tag a.fid a.nfid a.otag a.msize a.mode a.perm a.off a.count a.name (.slice na 0 nc) a.size dv) 43):=⟨_,rfl⟩;have X0:Ext w W0:=by rw[hW0];exact(Ext.refl w).alloc _
 have hb:W0.heap[w.heap.size]?=oC (aA a.typ a.tag a.fid a.nfid a.otag a.msize a.mode a.perm a.off a.count a.name (.slice na 0 nc) a.size dv) 43:=by rw[hW0];exact Ub w _
 have c0:W0.cell? (dD w.heap.size 11)=some (.slice na 0 nc):=cO hb 11;have HX:=hid X0;have HW:=hid hW0;clear hcell;dsimp only[QV.val,List.length_nil] at hnc|-
 clear X0 hW0 hb;go_in;go_wp2_with (rw[<-HW.o]);refine(H.o _).mono ?_;rintro r w1 ⟨v1,rfl,O1,X1⟩;have HO1:=hid O1;have HX1:=hid X1;have c1:=X1.cell c0;clear O1 X1;go_wp2_with fail;go_loop [5,6] (λ v5 v6=>v1=v5/\v6= iI 0) (λ _ _=>0)
 case atStart=>exact⟨rfl,rfl⟩
 case round=>
  obtain⟨rfl,rfl⟩:=hrel;go_wp2_with fail;go_ret;exact⟨_,rfl,by simpa [tx8] using HO1.o.low HX.o.size,HX.o.trans HX1.o⟩
theorem Mn {nv:Value} {s:ByteArray} (hs:s.size<=255) (w:World) (hn:SlS w nv [s]):
  Calls prog 66 #[a.val nv dv,.int .u8 108] w λ r w'=>∃v,r= .returned v/\AA w' w.heap.size 5 v (bv (tx8 [s]))/\Ext w w':=by
 obtain⟨na,nc,rfl,hp,hnc,hcm,hcell⟩:=hn;have H:=hid (Cu 1 (by omega) (by omega) 2 (by omega));obtain⟨W0,hW0⟩:∃W,W=w.alloc (.cells (aA a.typ a.tag a.fid a.nfid a.otag a.msize a.mode a.perm a.off a.count a.name (.slice na 1 nc) a.size dv) 43):=⟨_,rfl⟩;have X0:Ext w W0:=by rw[hW0];exact(Ext.refl w).alloc _
 have hb:W0.heap[w.heap.size]?=oC (aA a.typ a.tag a.fid a.nfid a.otag a.msize a.mode a.perm a.off a.count a.name (.slice na 1 nc) a.size dv) 43:=by rw[hW0];exact Ub w _
 have c0:W0.cell? (dD w.heap.size 11)=some (.slice na 1 nc):=cO hb 11;have HX:=hid X0;have HW:=hid hW0;obtain⟨g,og,rfl,hcs⟩:=hcell.resolve_left (by simp);have n0:W0.cell? (dD g og)=some (.string s):=X0.cell (hcs 0 (by simp));have HT:=hid (SK s (by omega));clear hcs;dsimp only[QV.val,List.length_nil,List.length_singleton] at hnc|-
 clear X0 hW0 hb;go_in;go_wp2_with (rw[<-HW.o]);refine(H.o _).mono ?_;rintro r w1 ⟨v1,rfl,O1,X1⟩;have HO1:=hid O1;have HX1:=hid X1;have hz1:=X1.size;have c1:=X1.cell c0;have n1:=X1.cell n0;clear n0;clear O1 X1;go_wp2_with fail;go_loopw [5,6] (λ v5 v6 wr=>(v6= iI 0/\v1=v5/\w1=wr)\/(v6= iI 1/\AA wr W0.heap.size 5 v5 (bv (tx8 [s]))/\Ext W0 wr)) (λ _ v6 _=>1-(intOf v6).toNat)
 case atStart=>exact .inl ⟨rfl,rfl,rfl⟩
 case round=>
  rcases hrel with⟨rfl,rfl,rfl⟩|⟨rfl,hO,hX⟩
  ·have HC:=hid (show Calls prog 107 #[.string s] w1 λ r w2=>∃v2,r= .returned v2/\∃v3 w3,(Builtin.append_ #[26,26] 26 #[v1,v2]).run prog w2= .ok v3 w3/\AA w3 W0.heap.size 5 v3 (bv (tx8 [s]))/\Ext W0 w3 from
    (HT.o w1).mono (by
     rintro r w2 ⟨v2,rfl,O2,X2⟩;obtain⟨v3,w3,q1,q2,q3⟩:=(HO1.o.ext X2).app (O2.sl (NO s)) (by rw[lL,Uc,lL,Ab];omega) (by have:=X2.size;have:=HX1.o.size;omega) 26;exact⟨v2,rfl,v3,w3,q1,by simpa [tx8,tx] using q2,(HO1.o.ext X2).grow_ext q3 (HX1.o.trans X2) (Uf _)⟩))
   go_wp2_with fail;refine HC.o.mono ?_;rintro r w2 ⟨v2,rfl,v3,w3,R,hO,hX⟩;have HR:=hid R;have HO:=hid hO;have HX3:=hid hX;clear R hO hX;go_wp2_with (at_builtin;refine jA rfl (.tmp 74) (.tmp 80) _ rfl _ _ _ rfl rfl HR.o ?_);go_roundw
   case rel=>exact .inr ⟨by go_num,HO.o,HX3.o⟩
   case measure=>simp[intOf]
  ·have c2:=hX.cell c0;go_wp2_with fail;go_ret;exact⟨_,rfl,hO.low HX.o.size,HX.o.trans hX⟩
theorem JQ {nv:Value} (q:QIs a ns ds) {c:Int} (hc:c=102\/c=119\/c=109\/c=112\/c=111\/c=99\/c=115\/c=110\/c=100\/c=108) (w:World) (hn:SlS w nv ns) (hd:Sl w dv ds):
  Calls prog 66 #[a.val nv dv,.int .u8 c] w λ r w'=>∃v,r= .returned v/\AA w' w.heap.size 5 v (bv (DI a ns ds c))/\Ext w w':=by
 have h:=q.ok;rcases hc with rfl|rfl|rfl|rfl|rfl|rfl|rfl|rfl|rfl|rfl
 ·exact PF h w
 ·exact O0 h w
 ·exact PE h w
 ·exact PB h w
 ·exact PC h w
 ·exact PH h w
 ·exact PA h w
 ·exact PD h.name w
 ·exact PG w hd (by cases q<;>first|exact Nat.zero_le _|(rename_i k;exact k.1))
 ·cases q<;>first|exact Mo w hn|(rename_i k;exact Mn k w hn)
def Uv (k:Int):ByteArray:=if k=104 then⟨#[102,110]⟩ else if k=110 then⟨#[102,119,108]⟩ else if k=112 then⟨#[102,109]⟩ else if k=114 then⟨#[102,110,112,109]⟩ else if k=116 then⟨#[102,111,99]⟩ else if k=118 then⟨#[102,111,100]⟩ else⟨#[102,115,110]⟩
theorem QIs.lets (q:QIs a ns ds):(∃j,j<12/\CY.getD j 0=a.typ/\Hn.getD j ⟨#[]⟩=Uv a.typ)/\(∀c∈sb (Uv a.typ),c=102\/c=119\/c=109\/c=112\/c=111\/c=99\/c=115\/c=110\/c=100\/c=108)/\(sb (Uv a.typ)).flatMap (DI a ns ds)=qb a ns ds/\(Uv a.typ).size<=4:=by
 cases q
 ·exact⟨⟨1,by decide,rfl,rfl⟩,by intro c hc;simp[sb,Uv] at hc;omega,by simp[sb,Uv,DI,qb,QV.body],Nat.le_of_ble_eq_true rfl⟩
 ·exact⟨⟨3,by decide,rfl,rfl⟩,by intro c hc;simp[sb,Uv] at hc;omega,by simp[sb,Uv,DI,qb,QV.body],Nat.le_of_ble_eq_true rfl⟩
 ·exact⟨⟨3,by decide,rfl,rfl⟩,by intro c hc;simp[sb,Uv] at hc;omega,by simp[sb,Uv,DI,qb,QV.body],Nat.le_of_ble_eq_true rfl⟩
 ·exact⟨⟨4,by decide,rfl,rfl⟩,by intro c hc;simp[sb,Uv] at hc;omega,by simp[sb,Uv,DI,qb,QV.body],Nat.le_of_ble_eq_true rfl⟩
 ·exact⟨⟨5,by decide,rfl,rfl⟩,by intro c hc;simp[sb,Uv] at hc;omega,by simp[sb,Uv,DI,qb,QV.body],Nat.le_of_ble_eq_true rfl⟩
 ·exact⟨⟨6,by decide,rfl,rfl⟩,by intro c hc;simp[sb,Uv] at hc;omega,by simp[sb,Uv,DI,qb,QV.body],Nat.le_of_ble_eq_true rfl⟩
 ·exact⟨⟨7,by decide,rfl,rfl⟩,by intro c hc;simp[sb,Uv] at hc;omega,by simp[sb,Uv,DI,qb,QV.body],Nat.le_of_ble_eq_true rfl⟩
 ·exact⟨⟨11,by decide,rfl,rfl⟩,by intro c hc;simp[sb,Uv] at hc;omega,by simp[sb,Uv,DI,qb,QV.body],Nat.le_of_ble_eq_true rfl⟩
theorem GX {α β:Type} {f:α->List β} {l:List α} {i:Nat} (h:i<l.length):(l.take (i+1)).flatMap f=(l.take i).flatMap f++f l[i]:=by
 rw[List.take_add_one,Ud h,List.flatMap_append];simp
theorem PM (q:QIs a ns ds) (i:Nat):(((sb (Uv a.typ)).take i).flatMap (DI a ns ds)).length<=20000:=by
 have h:=KI q;rw[<-q.lets.2.2.1] at h;have e:(sb (Uv a.typ)).flatMap (DI a ns ds)=((sb (Uv a.typ)).take i).flatMap (DI a ns ds)++((sb (Uv a.typ)).drop i).flatMap (DI a ns ds):=by rw[<-List.flatMap_append,List.take_append_drop]
 rw[e,Uc] at h;omega
theorem Ry {nv:Value} (q:QIs a ns ds) (hn:SlS w nv ns) (hd:Sl w dv ds):
  Calls prog 30 #[a.val nv dv] w λ r w'=>∃v,r= .returned v/\AA w' w.heap.size 5 v (bv (msg a.typ a.tag (qb a ns ds)))/\Ext w w':=by
 obtain⟨⟨j,hj,hk,hs⟩,hlet,hqb,hl4⟩:=q.lets;obtain⟨s,hse⟩:∃s,s=Uv a.typ:=⟨_,rfl⟩;rw[<-hse] at hs hlet hqb hl4;have hwfd:=q.wf;have hqt:=q.typ;have HFl:=hid (λ i=>hse▸PM q i);have HF:=hid (Oz j hj hk hs);have HC:=hid (λ c (hc:c∈sb s) W (X:Ext w W)=>JQ q (hlet c hc) W (hn.ext X) (hd.ext X));have HP:=hid (λ W v (h:Sl W v (qb a ns ds))=>rpack (k:=a.typ) (t:=a.tag) ⟨hqt.1,hqt.2.1⟩ ⟨hqt.2.2.1,hqt.2.2.2⟩ h (by have:=KI q;omega));obtain⟨W0,hW0⟩:∃W,W=w.alloc (.cells (aA a.typ a.tag a.fid a.nfid a.otag a.msize a.mode a.perm a.off a.count a.name nv a.size dv) 43):=⟨_,rfl⟩;have X0:Ext w W0:=by rw[hW0];exact(Ext.refl w).alloc _
 have hb:W0.heap[w.heap.size]?=oC (aA a.typ a.tag a.fid a.nfid a.otag a.msize a.mode a.perm a.off a.count a.name nv a.size dv) 43:=by rw[hW0];exact Ub w _
 have HB:=hid hb;have HX:=hid X0;have HW:=hid hW0;have HQb:=hid hqb;obtain⟨c0,c1,c2,c3,c4,c5,c6,c7,c8,c9,c10,c11,c12,c13,-⟩:=BG hb;have HWt:=hid (λ i=>Rh a ns hwfd i);dsimp only[QV.val] at HC|-
 clear X0 hW0 hb hn hd q hk hs hlet hqb hqt hwfd hse;go_in;go_wp2_with (rw[<-HW.o]);refine(HF.o _).mono ?_;rintro r w1 ⟨rfl,X1⟩;have HX1:=hid X1;clear c0 c1 c2 c3 c4 c5 c6 c7 c8 c9 c10 c11 c12 c13 X1;go_wp2_with fail;go_loopw [4,5] (λ v4 v5 wr=>∃i:Nat,i<=s.size/\v5= iI i/\AA wr W0.heap.size 5 v4 (bv (((sb s).take i).flatMap (DI a ns ds)))/\Ext W0 wr) (λ _ v5 _=>s.size-(intOf v5).toNat)
 case atStart=>exact⟨0,by omega,rfl,by rw[List.take_zero];exact AA.nil _ _ _,HX1.o⟩
 case round=>
  obtain⟨i,hi,rfl,hO,hX⟩:=hrel;have hB:=hX.heap HB.o;obtain⟨c0,c1,c2,c3,c4,c5,c6,c7,c8,c9,c10,c11,c12,c13,-⟩:=BG hB;by_cases hlt:i<s.size
  ·have d1:decide ((i:Int)<(s.size:Int))=true:=by simp;omega
   have b0:(0:Int)<=(i:Int):=by omega
   have b1:(i:Int)<(s.size:Int):=by omega
   have hsl:i<(sb s).length:=by rw[Ab];exact hlt
   have hcc:(sb s)[i]=((s[i]'hlt).toNat:Int):=by simp[sb];rfl
   have HD:=hid (show Calls prog 66 #[.agg (aA a.typ a.tag a.fid a.nfid a.otag a.msize a.mode a.perm a.off a.count a.name nv a.size dv),.int .u8 ((s[i]'hlt).toNat:Int)] wr.drew λ r w2=>∃v2,r= .returned v2/\∃v3 w3,(Builtin.append_ #[26,26] 26 #[u4,v2]).run prog w2= .ok v3 w3/\AA w3 W0.heap.size 5 v3 (bv (((sb s).take (i+1)).flatMap (DI a ns ds)))/\Ext W0 w3/\Ext W0 w2 from
    (HC.o _ (hcc▸List.getElem_mem hsl) wr.drew (HX.o.trans hX.drew)).mono (by
     rintro r w2 ⟨v2,rfl,O2,X2⟩;have hO2:=hO.ext ((dE wr).trans X2);obtain⟨v3,w3,q1,q2,q3⟩:=hO2.app (O2.sl (HWt.o _)) (by have:=HFl.o i;have:=HFl.o (i+1);rw[GX hsl] at this;rw[<-hcc];rw[Uc] at this;omega) (by have:=X2.size;have:=hX.size;have:=HX.o.size;simp at*;omega) 26;exact⟨v2,rfl,v3,w3,q1,by rw[GX hsl,hcc];exact q2,hO2.grow_ext q3 (hX.drew.trans X2) (Uf _),hX.drew.trans X2⟩))
   clear hO hX hcc;go_wp2_with fail;go_region_law (first|(refine AU rfl (.tmp 15) (.tmp 20) _ rfl _ _ _ rfl rfl (by assumption) ?_)|(go_simp;go_at_call 66;refine HD.o.mono ?_;rintro r w2 ⟨v2,rfl,v3,w3,g1,g2,g3,g4⟩;have hB2:=g4.heap HB.o;obtain⟨k0,k1,k2,k3,k4,k5,k6,k7,k8,k9,k10,k11,k12,k13,-⟩:=BG hB2))
   all_goals
    have HO3:=hid g2;have HX3:=hid g3;clear g1 g2 g3 g4 hB2 k0 k1 k2 k3 k4 k5 k6 k7 k8 k9 k10 k11 k12 k13;go_wp2_with fail;go_roundw
    case rel=>exact⟨i+1,by omega,by go_num,HO3.o,HX3.o⟩
    case measure=>simp[intOf];omega
  ·have d1:decide ((i:Int)<(s.size:Int))=false:=by simp;omega
   obtain rfl:i=s.size:=by omega
   rw[List.take_of_length_le (by rw[Ab];exact Uf _),HQb.o] at hO;have HR:=hid (HP.o wr _ (hO.sl (by rw[<-HQb.o];exact λ z hz=>by obtain⟨c,-,hc⟩:=List.mem_flatMap.1 hz;exact HWt.o c z hc)));have HXr:=hid (HX.o.trans hX);clear hO hX hB;go_wp2_with fail;refine HR.o.mono ?_;rintro r w2 ⟨v2,rfl,O2,X2⟩;go_wp2_with fail;go_ret;exact⟨_,rfl,O2.low HXr.o.size,HXr.o.trans X2⟩
def RR (rb:Nat) (B:Value) (all:List Int) (zs:List Int) (w:World):Prop:=
 ∃i:Nat,w.heap[rb]?=oC #[B,iI i,iI 0] 94/\Sl w B all/\i<=all.length/\all.drop i=zs/\B.ownBlock≠some rb/\all.length<=100000
theorem RR.ext (h:RR rb B all zs w) (hx:Ext w w'):RR rb B all zs w':=by
 obtain⟨i,h1,h2,h3⟩:=h;exact⟨i,hx.heap h1,h2.ext hx,h3⟩
theorem Sl.part {a:Option Addr} {c:Nat} (h:AI .u8 w a zs.length c zs) (hp:Bj a c) (n k j:Nat) (hj:j=n+k) (hn:n+k<=zs.length):
  ∃v,(∀W,(Instr.sliceAt 26 (.slice a zs.length c) (some (iI n)) (some (iI j)) none).run prog W= .ok v W)/\Sl w v ((zs.drop n).take k)/\v.ownBlock=(Value.slice a zs.length c).ownBlock:=by
 subst hj;refine⟨_,λ W=>LP a n (n+k) zs.length c (by omega) hn h.2.1 W,?_,?_⟩
 ·have:=Sl.mid h hp n (n+k) (by omega) hn;have e:n+k-n=k:=by omega
  rw[List.drop_take,e] at this;rw[e];exact this
 ·by_cases e:c=n
  ·cases a<;>simp[e,Value.ownBlock]
  ·cases a with
   |none=>simp[Value.ownBlock]
   |some x=>simp only[e,Value.ownBlock,Addr.add,Option.map_some,if_false];split<;>rfl
theorem Nt (h:RR rb B all zs w) (n:Nat) (hn:n<=zs.length):
  Calls prog 50 #[pP rb 0,iI n] w λ r w'=>∃v,r= .returned v/\Sl w' v (zs.take n)/\v.ownBlock=B.ownBlock/\RR rb B all (zs.drop n) w'/\Upd [rb] w w':=by
 obtain⟨i,hb,hs,hi,rfl,hB,hal⟩:=h;have hld:(all.drop i).length=all.length-i:=List.length_drop ..;rw[hld] at hn;have HS:=hid hs;have HBn:=hid hB;obtain⟨a,c,rfl,hr,hp⟩:=hs;obtain⟨j,hj⟩:∃j,j=i+n:=⟨_,rfl⟩;obtain⟨v,hv,hv2,hv3⟩:=Sl.part hr hp i n j hj (by omega);have HV:=hid hv2;have HV3:=hid hv3;obtain⟨m,hm⟩:∃m,m=all.length:=⟨_,rfl⟩;rw[<-hm] at hv hi hn hal;obtain⟨b0,b1,b2,f0,f1,f2⟩:=BZ hb;rw[<-hm] at b0;have e0:IntKind.i64.wrap ((m:Int)-(i:Int))=(m:Int)-i:=Uh ((m:Int)-(i:Int)) (by omega);have e1:IntKind.i64.wrap ((i:Int)+(n:Int))=(j:Int):=(Uh ((i:Int)+(n:Int)) (by omega)).trans (by omega);have d1:decide ((m:Int)-i<(n:Int))=false:=by simp;omega
 have HJ:=hid hj;have HB:=hid hb;have HM:=hid hm;have hl:=lH hb;clear hr hp hv2 hv3 hb hm hj hB;go_in;go_wp2_with fail;go_quiet (fail);go_wp2_with fail;go_quiet (fail);go_wp2_with fail;go_ret;have hU:∀k,Upd [rb] w ((w.drewN k).setCell (dD rb 1) (iI j)):=λ k=>(((Ext.refl w).drewN k).upd [rb]).setCell _ _ (.inl (by simp))
 refine⟨_,rfl,HV.o.updv (hU _) (λ g hg=> ?_),HV3.o,⟨j,jP (i:=1) _ HB.o,HS.o.updv (hU _) (λ g hg=> ?_),by have:=HJ.o;have:=HM.o;omega,by rw[HJ.o,List.drop_drop],HBn.o,by have:=HM.o;omega⟩,hU _⟩
 ·rw[HV3.o] at hg;simp only[List.mem_singleton];rintro rfl;exact HBn.o hg
 ·simp only[List.mem_singleton];rintro rfl;exact HBn.o hg
theorem OU (x:Int):∀(k i:Nat),i<k->(leN x k)[i]?=some (x/256^i%256)
 |0,i,h=>by omega
 |k+1,i,h=>by
  by_cases e:i<k
  ·rw[leN,List.getElem?_append_left (by rw[lL];exact e),OU x k i e]
  ·obtain rfl:i=k:=by omega
   rw[leN,List.getElem?_append_right (by rw[lL];exact Uf _),lL,Nat.sub_self];rfl
theorem CU {k:Nat} (h:RR rb B all (leN x k++zs) w) (hk:k<=8) (h0:0<=x) (h1:x<256^k):
  Calls prog 25 #[pP rb 0,iI k] w λ r w'=>r= .returned (.int .u64 x)/\RR rb B all zs w'/\Upd [rb] w w':=by
 have hx64:x<18446744073709551616:=Int.lt_of_lt_of_le h1 (by
  have:∀j,j<=8->(256:Int)^j<=18446744073709551616:=by decide
  exact this k hk)
 have H:=hid (Nt h k (by rw[Uc,lL];omega));rw[List.take_left' (lL x k),List.drop_left' (lL x k)] at H;clear h;go_in;go_wp2_with fail;refine H.o.mono ?_;rintro r w1 ⟨v,rfl,hs,-,hR,hU⟩;have HR:=hid hR;have HU:=hid hU;have hcells:∀i,i<k->∃g o,(∃c,v= sS g o k c)/\w1.cell? (dD g (o+i))=some (.int .u8 (x/256^i%256)):=λ i hi=>by
  obtain⟨a,c,rfl,hr,-⟩:=hs;obtain⟨g,o,rfl,hc⟩:=hr.at_ (i:=i) (by rw[lL];exact hi);rw[List.getD_eq_getElem?_getD,OU x k i hi,Option.getD_some] at hc;exact⟨g,o,⟨c,by rw[lL]⟩,hc⟩
 have HC:=hid hcells;obtain⟨a,c,rfl,-⟩:=hs;rw[lL] at HC|-
 have e0:IntKind.i64.wrap ((k:Int)-1)=(k:Int)-1:=Uh _ (by omega);clear hR hU hcells;go_wp2_with fail;go_loop [6,7] (λ v6 v7=>∃(m:Nat) (y:Int),m<=k/\y=x/256^m/\v7= iI ((m:Int)-1)/\v6= .int .u64 y) (λ _ v7=>(intOf v7+1).toNat)
 case atStart=>exact⟨k,0,by omega,(Int.ediv_eq_zero_of_lt h0 h1).symm,rfl,rfl⟩
 case round=>
  obtain⟨m,y,hm,hy,rfl,rfl⟩:=hrel;by_cases hlt:m=0
  ·subst hlt;have d1:decide ((((0:Nat):Int)-1)≥0)=false:=by decide
   go_wp2_with fail;go_ret;exact⟨rfl,HR.o,HU.o⟩
  ·have d1:decide (((m:Int)-1)≥0)=true:=by simp;omega
   obtain⟨g,o,⟨c2,hv⟩,hc⟩:=HC.o (m-1) (by omega);injection hv with hv1 hv2 hv3;subst hv1 hv3;obtain⟨z,hz⟩:∃z,z=x/256^(m-1)%256:=⟨_,rfl⟩;rw[<-hz] at hc;have hyz:x/256^(m-1)=256*y+z:=by
    rw[hy,hz];have:(256:Int)^m=256^(m-1)*256:=by rw[<-Int.pow_succ];congr 1;omega
    rw[this,<-Int.ediv_ediv_of_nonneg (Int.pow_nonneg (by omega))];omega
   have hq:0<=x/256^(m-1)/\x/256^(m-1)<=x:=⟨Int.ediv_nonneg h0 (Int.pow_nonneg (by omega)),Int.ediv_le_self _ h0⟩;have e1:IntKind.u64.wrap (256*y)=256*y:=IntWalk.u64_in _ (by omega);have e2:IntKind.u64.wrap z=z:=IntWalk.u64_in _ (by omega);have e3:IntKind.u64.wrap (256*y+z)=256*y+z:=IntWalk.u64_in _ (by omega);have e4:IntKind.i64.wrap ((m:Int)-1-1)=(m:Int)-1-1:=Uh _ (by omega);have b0:(0:Int)<=(m:Int)-1:=by omega
   have b1:(m:Int)-1<(k:Int):=by omega
   have e5:((m:Int)-1).toNat=m-1:=by omega
   have HYZ:=hid hyz;clear hy hz hyz;go_wp2_with fail;go_round
   case rel=>exact⟨m-1,256*y+z,by omega,HYZ.o.symm,by congr 1;omega,rfl⟩
   case measure=>simp[intOf];omega
theorem RR.at (h:RR rb B all zs w):∃x i,w.heap[rb]?=oC #[x,i,iI 0] 94:=by
 obtain⟨i,h1,-⟩:=h;exact⟨_,_,h1⟩
theorem TI {ys:List Int} (h:RR rb B all (leN ys.length 4++(ys++zs)) w) (hl:ys.length<=1024):
  Calls prog 53 #[pP rb 0,iI 1024] w λ r w'=>∃v,r= .returned v/\Sl w' v ys/\v.ownBlock=B.ownBlock/\RR rb B all zs w'/\Upd [rb] w w':=by
 have H:=hid (CU h (by omega) (by omega) (by omega));have e1:IntKind.i64.wrap (ys.length:Int)=ys.length:=Uh _ (by omega);have d1:decide ((ys.length:Int)>1024)=false:=by simp;omega
 clear h;go_in;go_wp2_with fail;refine H.o.mono ?_;rintro r w1 ⟨rfl,hR,hU⟩;obtain⟨x,i,hb⟩:=hR.at;have c2:=cO hb 2;have HB:=hid (Nt hR ys.length (by simp));rw[List.take_left,List.drop_left] at HB;have HU:=hid hU;clear hR hb hU;go_wp2_with fail;refine HB.o.mono ?_;rintro r w2 ⟨v,rfl,hs,ho,hR,hU⟩;go_wp2_with fail;go_ret;exact⟨_,rfl,hs,ho,hR,HU.o.trans hU⟩
theorem Gg (h:RR rb B all (leN x 8++zs) w) (h0:0<=x/\x<4611686018427387905):
  Calls prog 54 #[pP rb 0] w λ r w'=>r= .returned (iI x)/\RR rb B all zs w'/\Upd [rb] w w':=by
 have H:=hid (CU h (by omega) h0.1 (by omega));have e1:IntKind.i64.wrap x=x:=Uh _ (by omega);have d1:decide (x>4611686018427387904)=false:=by simp;omega
 clear h;go_in;go_wp2_with fail;refine H.o.mono ?_;rintro r w1 ⟨rfl,hR,hU⟩;go_wp2_with fail;go_ret;exact⟨rfl,hR,hU⟩
theorem SG {R:Nat} {Pr:World->Prop} {w0:World} {a0 a1 a2 c0 c1 c2:Value} {t:TypeId} (hR:w0.heap[R]?=oC #[c0,c1,c2] t) (h:∀W,W.heap[R]?=oC #[a0,a1,a2] t->Upd [R] w0 W->Pr W):Pr (((w0.setCell (dD R 0) a0).setCell (dD R 1) a1).setCell (dD R 2) a2):=
 h _ (jP (i:=2) _ (jP (i:=1) _ (jP (i:=0) _ hR))) ((((Upd.refl _ _).setCell _ _ (.inl (by simp))).setCell _ _ (.inl (by simp))).setCell _ _ (.inl (by simp)))
theorem JH:(prog.info? 34).map (·.size)=some 3:=by kernel_rfl
theorem RR.upd {S:List Nat} (h:RR rb B all zs w) (hu:Upd S w w') (h1:rb∉S) (h2:∀g,B.ownBlock=some g->g∉S):RR rb B all zs w':=by
 obtain⟨i,q1,q2,q3⟩:=h;exact⟨i,hu.heap q1 h1,q2.updv hu h2,q3⟩
theorem Iu {q:QI} (h:RR rb B all (q.b++zs) w) (hB:∀g,B.ownBlock=some g->g<w.heap.size) (ok:q.Ok):
  Calls prog 52 #[pP rb 0] w λ r w'=>r= .returned q.val/\RR rb B all zs w'/\Upd [rb] w w':=by
 obtain⟨W0,hW0⟩:∃W,W=w.alloc (.cells #[.bool false,iI 0,iI 0] 34):=⟨_,rfl⟩;have hb:W0.heap[w.heap.size]?=oC #[.bool false,iI 0,iI 0] 34:=by rw[hW0];exact Ub w _
 have X0:Ext w W0:=by rw[hW0];exact(Ext.refl w).alloc _
 have hrl:rb<w.heap.size:=by obtain⟨x,i,hb⟩:=h.at;exact lH hb
 have h2:=h.ext X0;rw[QI.b,Ui,Ui] at h2;obtain⟨dir,ver,path⟩:=q;have hv:=ok.v;have hp:=ok.p;dsimp only[QI.val] at h2 hv hp|-
 have e1:IntKind.i64.wrap ver=ver:=Uh _ (by omega);have HB0:=hid hb;have HX0:=hid X0;have HW:=hid hW0;have hz1:=lH hb;have HBl:=hid hB;clear h hb X0 hW0 hB ok;cases dir
 ·dsimp only[QI.kind] at h2;simp only[if_true,if_false,Bool.false_eq_true] at h2;have H:=hid (CU h2 (by omega) (by omega) (by omega));clear h2;go_in;go_wp2_with (rw[<-HW.o]);refine H.o.mono ?_;rintro r w1 ⟨rfl,hR,hU⟩;have HU1:=hid hU;have HR1:=hid hR;have hzu:=hU.size;clear hR hU H;go_upto_region 3 with fail;obtain⟨W2,hW2⟩:∃W,W=w1.alloc (.cells #[.bool false,iI 0,iI 0] 34):=⟨_,rfl⟩;rw[<-hW2];have hb2:W2.heap[w1.heap.size]?=oC #[.bool false,iI 0,iI 0] 34:=by rw[hW2];exact Ub w1 _
  have X2:Ext w1 W2:=by rw[hW2];exact(Ext.refl w1).alloc _
  have HN:=hid (CU (HR1.o.ext X2) (by omega) hv.1 hv.2);have HX2:=hid X2;have HB2:=hid hb2;clear hW2 X2 hb2;go_wp2_with fail;refine HN.o.mono ?_;rintro r w3 ⟨rfl,hR3,hU3⟩;have hb3:=hU3.heap HB2.o (by simp;omega);obtain⟨b0,b1,b2,f0,f1,f2⟩:=BZ hb3;have HR3:=hid hR3;have HU3:=hid hU3;have HB3:=hid hb3;clear hR3 hU3 hb3 HN;go_wp2_with fail;obtain⟨W4,hW4⟩:∃W,W=w3.setCell (dD w1.heap.size 1) (iI ver):=⟨_,rfl⟩;rw[<-hW4];have hb4:W4.heap[w1.heap.size]?=oC #[.bool false,iI ver,iI 0] 34:=by rw[hW4];exact jP (i:=1) _ HB3.o
  have U4:Upd [w1.heap.size] w3 W4:=by rw[hW4];exact(Upd.refl _ _).setCell _ _ (.inl (by simp))
  have HL:=hid (Gg (HR3.o.upd U4 (by simp;omega) (λ g hg hm=>by have:=HBl.o g hg;simp at hm;omega)) hp);have HB4:=hid hb4;have HU4:=hid U4;clear b0 b1 b2 f0 f1 f2 hW4 hb4 U4;refine HL.o.mono ?_;rintro r w5 ⟨rfl,hR5,hU5⟩;have hb5:=hU5.heap HB4.o (by simp;omega);obtain⟨b0,b1,b2,f0,f1,f2⟩:=BZ hb5;have ha5:w5.heap[w.heap.size]?=oC #[.bool false,iI 0,iI 0] 34:=
   hU5.heap (HU4.o.heap (HU3.o.heap (HX2.o.heap (HU1.o.heap HB0.o (by simp;omega))) (by simp;omega)) (by simp;omega)) (by simp;omega)
  obtain⟨a0,a1,a2,g0,g1,g2⟩:=BZ ha5;have HA5:=hid ha5;have HR5:=hid hR5;have HU5:=hid hU5;have hne:w.heap.size≠w1.heap.size:=by omega
  clear hR5 hU5 hb5 ha5 HL;go_wp2_with fail;have hx:∀b∈[w1.heap.size],b∈[rb]\/w.heap.size<=b:=λ b hb=>by simp at hb;omega
  have hx2:∀b∈[w.heap.size],b∈[rb]\/w.heap.size<=b:=λ b hb=>by simp at hb;omega
  have hy:∀g,Value.ownBlock B=some g->g∉[w1.heap.size]:=λ g hg hm=>by have:=HBl.o g hg;simp at hm;omega
  have hy2:∀g,Value.ownBlock B=some g->g∉[w.heap.size]:=λ g hg hm=>by have:=HBl.o g hg;simp at hm;omega
  have U6:Upd [w1.heap.size] w5 (w5.setCell (dD w1.heap.size 2) (iI path)):=(Upd.refl _ _).setCell _ _ (.inl (by simp));refine SG (R:=w.heap.size) (Pr:=λ W=>bodyPost _ _ _ _ _ W) (U6.heap HA5.o (by simp;omega)) ?_;intro W hRw hU;refine Ue (Uj rfl _ _ (w.heap.size) 34 #[.bool false,iI ver,iI path] (0,0) _ rfl hRw underlying34 rfl JH) rfl ⟨rfl,(HR5.o.upd U6 (by simp;omega) hy).upd hU (by simp;omega) hy2,((((((((HX0.o.upd [rb]).trans HU1.o).trans (HX2.o.upd _)).trans HU3.o).trans2 HU4.o hx).trans HU5.o).trans2 U6 hx).trans2 hU hx2)⟩
 ·dsimp only[QI.kind] at h2;simp only[if_true,if_false,Bool.false_eq_true] at h2;have H:=hid (CU h2 (by omega) (by omega) (by omega));clear h2;go_in;go_wp2_with (rw[<-HW.o]);refine H.o.mono ?_;rintro r w1 ⟨rfl,hR,hU⟩;have HU1:=hid hU;have HR1:=hid hR;have hzu:=hU.size;clear hR hU H;go_upto_region 3 with fail;obtain⟨W2,hW2⟩:∃W,W=w1.alloc (.cells #[.bool true,iI 0,iI 0] 34):=⟨_,rfl⟩;rw[<-hW2];have hb2:W2.heap[w1.heap.size]?=oC #[.bool true,iI 0,iI 0] 34:=by rw[hW2];exact Ub w1 _
  have X2:Ext w1 W2:=by rw[hW2];exact(Ext.refl w1).alloc _
  have HN:=hid (CU (HR1.o.ext X2) (by omega) hv.1 hv.2);have HX2:=hid X2;have HB2:=hid hb2;clear hW2 X2 hb2;go_wp2_with fail;refine HN.o.mono ?_;rintro r w3 ⟨rfl,hR3,hU3⟩;have hb3:=hU3.heap HB2.o (by simp;omega);obtain⟨b0,b1,b2,f0,f1,f2⟩:=BZ hb3;have HR3:=hid hR3;have HU3:=hid hU3;have HB3:=hid hb3;clear hR3 hU3 hb3 HN;go_wp2_with fail;obtain⟨W4,hW4⟩:∃W,W=w3.setCell (dD w1.heap.size 1) (iI ver):=⟨_,rfl⟩;rw[<-hW4];have hb4:W4.heap[w1.heap.size]?=oC #[.bool true,iI ver,iI 0] 34:=by rw[hW4];exact jP (i:=1) _ HB3.o
  have U4:Upd [w1.heap.size] w3 W4:=by rw[hW4];exact(Upd.refl _ _).setCell _ _ (.inl (by simp))
  have HL:=hid (Gg (HR3.o.upd U4 (by simp;omega) (λ g hg hm=>by have:=HBl.o g hg;simp at hm;omega)) hp);have HB4:=hid hb4;have HU4:=hid U4;clear b0 b1 b2 f0 f1 f2 hW4 hb4 U4;refine HL.o.mono ?_;rintro r w5 ⟨rfl,hR5,hU5⟩;have hb5:=hU5.heap HB4.o (by simp;omega);obtain⟨b0,b1,b2,f0,f1,f2⟩:=BZ hb5;have ha5:w5.heap[w.heap.size]?=oC #[.bool false,iI 0,iI 0] 34:=
   hU5.heap (HU4.o.heap (HU3.o.heap (HX2.o.heap (HU1.o.heap HB0.o (by simp;omega))) (by simp;omega)) (by simp;omega)) (by simp;omega)
  obtain⟨a0,a1,a2,g0,g1,g2⟩:=BZ ha5;have HA5:=hid ha5;have HR5:=hid hR5;have HU5:=hid hU5;have hne:w.heap.size≠w1.heap.size:=by omega
  clear hR5 hU5 hb5 ha5 HL;go_wp2_with fail;have hx:∀b∈[w1.heap.size],b∈[rb]\/w.heap.size<=b:=λ b hb=>by simp at hb;omega
  have hx2:∀b∈[w.heap.size],b∈[rb]\/w.heap.size<=b:=λ b hb=>by simp at hb;omega
  have hy:∀g,Value.ownBlock B=some g->g∉[w1.heap.size]:=λ g hg hm=>by have:=HBl.o g hg;simp at hm;omega
  have hy2:∀g,Value.ownBlock B=some g->g∉[w.heap.size]:=λ g hg hm=>by have:=HBl.o g hg;simp at hm;omega
  have U6:Upd [w1.heap.size] w5 (w5.setCell (dD w1.heap.size 2) (iI path)):=(Upd.refl _ _).setCell _ _ (.inl (by simp));refine SG (R:=w.heap.size) (Pr:=λ W=>bodyPost _ _ _ _ _ W) (U6.heap HA5.o (by simp;omega)) ?_;intro W hRw hU;refine Ue (Uj rfl _ _ (w.heap.size) 34 #[.bool true,iI ver,iI path] (0,0) _ rfl hRw underlying34 rfl JH) rfl ⟨rfl,(HR5.o.upd U6 (by simp;omega) hy).upd hU (by simp;omega) hy2,((((((((HX0.o.upd [rb]).trans HU1.o).trans (HX2.o.upd _)).trans HU3.o).trans2 HU4.o hx).trans HU5.o).trans2 U6 hx).trans2 hU hx2)⟩
end Go.Proofs.YtdakioiagpkfhaaGreatDoor
