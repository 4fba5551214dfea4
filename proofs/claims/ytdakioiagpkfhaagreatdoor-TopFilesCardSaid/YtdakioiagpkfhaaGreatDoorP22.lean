import Derived.Test.YtdakioiagpkfhaaGreatDoorP21
set_option maxRecDepth 99999
set_option maxHeartbeats 0
set_option linter.all false
namespace Go.Proofs.YtdakioiagpkfhaaGreatDoor
open RowKit Conc
open Go.Proofs.Tryz
variable {ab g j k:Nat} {d v v0 v1 v10 v11 v12 v13 v14 v2 v3 v4 v5 v6 v7 v8 v9:Value} {ds zs:List Int} {m n p:Int} {o w w':World} {p0 p1 p10 p11 p12 p13 p14 p2 p3 p4 p5 p6 p7 p8 p9:Addr} {s:ByteArray} {x:Option Addr}
theorem Qv (h0:o.cell? p0=some v0) (h1:o.cell? p1=some v1) (h2:o.cell? p2=some v2) (h3:o.cell? p3=some v3) (h4:o.cell? p4=some v4) (h5:o.cell? p5=some v5) (h6:o.cell? p6=some v6) (h7:o.cell? p7=some v7) (h8:o.cell? p8=some v8) (h9:o.cell? p9=some v9) (h10:o.cell? p10=some v10) (h11:o.cell? p11=some v11) (h12:o.cell? p12=some v12) (h13:o.cell? p13=some v13) (h14:o.cell? p14=some v14) (hx:Ext o w'):w'.cell? p0=some v0/\w'.cell? p1=some v1/\w'.cell? p2=some v2/\w'.cell? p3=some v3/\w'.cell? p4=some v4/\w'.cell? p5=some v5/\w'.cell? p6=some v6/\w'.cell? p7=some v7/\w'.cell? p8=some v8/\w'.cell? p9=some v9/\w'.cell? p10=some v10/\w'.cell? p11=some v11/\w'.cell? p12=some v12/\w'.cell? p13=some v13/\w'.cell? p14=some v14/\Ext o w':=⟨hx.cell h0,hx.cell h1,hx.cell h2,hx.cell h3,hx.cell h4,hx.cell h5,hx.cell h6,hx.cell h7,hx.cell h8,hx.cell h9,hx.cell h10,hx.cell h11,hx.cell h12,hx.cell h13,hx.cell h14,hx⟩
theorem Tp (h:w.cell? p0=some v0/\w.cell? p1=some v1/\w.cell? p2=some v2/\w.cell? p3=some v3/\w.cell? p4=some v4/\w.cell? p5=some v5/\w.cell? p6=some v6/\w.cell? p7=some v7/\w.cell? p8=some v8/\w.cell? p9=some v9/\w.cell? p10=some v10/\w.cell? p11=some v11/\w.cell? p12=some v12/\w.cell? p13=some v13/\w.cell? p14=some v14/\Ext o w) (hx:Ext w w'):w'.cell? p0=some v0/\w'.cell? p1=some v1/\w'.cell? p2=some v2/\w'.cell? p3=some v3/\w'.cell? p4=some v4/\w'.cell? p5=some v5/\w'.cell? p6=some v6/\w'.cell? p7=some v7/\w'.cell? p8=some v8/\w'.cell? p9=some v9/\w'.cell? p10=some v10/\w'.cell? p11=some v11/\w'.cell? p12=some v12/\w'.cell? p13=some v13/\w'.cell? p14=some v14/\Ext o w':=⟨hx.cell h.1,hx.cell h.2.1,hx.cell h.2.2.1,hx.cell h.2.2.2.1,hx.cell h.2.2.2.2.1,hx.cell h.2.2.2.2.2.1,hx.cell h.2.2.2.2.2.2.1,hx.cell h.2.2.2.2.2.2.2.1,hx.cell h.2.2.2.2.2.2.2.2.1,hx.cell h.2.2.2.2.2.2.2.2.2.1,hx.cell h.2.2.2.2.2.2.2.2.2.2.1,hx.cell h.2.2.2.2.2.2.2.2.2.2.2.1,hx.cell h.2.2.2.2.2.2.2.2.2.2.2.2.1,hx.cell h.2.2.2.2.2.2.2.2.2.2.2.2.2.1,hx.cell h.2.2.2.2.2.2.2.2.2.2.2.2.2.2.1,h.2.2.2.2.2.2.2.2.2.2.2.2.2.2.2.trans hx⟩
theorem RC {a:AV} (hp:a.proc=1\/a.proc=3\/a.proc=6\/a.proc=7\/a.proc=8\/a.proc=14) (ok:a.Ok ds) (hr:a.rest (AD a.proc)={proc:=a.proc}) (hrd:B7 ds (AD a.proc)=[]) (hd:Sl w d ds) (hdb:∀g,d.ownBlock=some g->g<w.heap.size):
  Calls prog 85 #[a.val d] w λ r w'=>∃v,r= .returned (.tuple #[v,.bool true])/\AA w' w.heap.size 5 v (bv (a.lay ds (AD a.proc)))/\Ext w w':=by
 have HDB:=hid hdb;clear hdb;have HF:=hid (λ W=>Fp a.proc hp W);have HP:=hid hp;have HOk:=hid ok;have HR:=hid hr;have HRD:=hid hrd;have HD:=hid hd;have hfl:0<(AD a.proc).length/\(AD a.proc).length<=4:=by rcases hp with h|h|h|h|h|h<;>rw[h]<;>decide
 clear hp ok hr hrd hd;go_in;dsimp only[AV.val];go_wp2_with fail;obtain⟨W0,hW0⟩:∃W,W=w.alloc (.cells (pR a.proc a.off a.count a.size a.mode a.h1 a.h2 a.k1 a.k2 a.name a.name2 d) 137):=⟨_,rfl⟩;rw[<-hW0];have X0:Ext w W0:=by rw[hW0];exact(Ext.refl _).alloc _
 have h0:W0.heap[w.heap.size]?=oC (pR a.proc a.off a.count a.size a.mode a.h1 a.h2 a.k1 a.k2 a.name a.name2 d) 137:=by rw[hW0];exact Ub w _
 clear hW0;refine(HF.o W0).mono ?_;rintro r w1 ⟨v,rfl,⟨g,rfl,hg⟩,X1⟩;obtain⟨n,hn⟩:∃n,n=(AD a.proc).length:=⟨_,rfl⟩;rw[<-hn] at hfl|-
 have HN:=hid hn;have HG:=hid hg;have HX1:=hid (X0.trans X1);have HA1:=hid (X1.heap h0);obtain⟨b0,b1,b2,b3,b4,b5,b6,b7,b8,b9,b10,b11,-⟩:=CM (X1.heap h0);clear hn hg X0 X1 h0;go_wp2_with fail;obtain⟨W2,hW2⟩:∃W,W=w1.alloc (.cells (GM a d (nN)) 270):=⟨_,rfl⟩;simp only[GM] at hW2;rw[<-hW2];have X2:Ext w1 W2:=by rw[hW2];exact(Ext.refl _).alloc _
 have h2:GP w1.heap.size (GM a d (nN)) W2:=by rw[hW2];exact Ub w1 _
 have hz1:=HX1.o.size;have hll0:w1.heap.size<W2.heap.size:=lH h2;have HL2:=hid (show Ax w1.heap.size a ds [] w1.heap.size W2 from⟨d,nN,h2,AA.nil _ _ _,Wf.nil,HD.o.ext (HX1.o.trans X2),λ q=>by have:=HDB.o _ q;omega,by simp[Value.ownBlock],X2.size⟩);have HX2:=hid (HX1.o.trans X2);have HA2:=hid (X2.heap HA1.o);have HG2:=hid (X2.heap HG.o);have hgl:=lH HG.o;have hal:=lH HA1.o;clear hW2 X2 h2 b0 b1 b2 b3 b4 b5 b6 b7 b8 b9 b10 b11;refine(NI w1.heap.size W2).mono ?_;rintro r w3 ⟨m,rfl,M3⟩;have HM3:=hid M3;have hml:W2.heap.size<=m:=M3.new;clear M3;go_wp2_with fail;go_loopw [22] (λ v22 wr=>∃k:Nat,k<=n/\v22= iI k/\Ax w1.heap.size (a.rest ((AD a.proc).take k)) (B7 ds ((AD a.proc).take k)) (a.lay ds ((AD a.proc).take k)) w1.heap.size wr/\Upd [w1.heap.size] w3 wr) (λ v22 _=>n-(intOf v22).toNat)
 case atStart=>exact⟨0,by omega,rfl,HL2.o.ext HM3.o.ext,Upd.refl _ _⟩
 case round=>
  obtain⟨k,hk,rfl,LR,UR⟩:=hrel;have HUR:=hid UR;have hk0:(0:Int)<=(k:Int):=by omega
  by_cases hlt:k<n
  ·have hkn:(k:Int)<(n:Int):=by omega
   have hkl:k<(AD a.proc).length:=by rw[<-HN.o];exact hlt
   obtain⟨f,hf⟩:∃f,f=(AD a.proc)[k]:=⟨_,rfl⟩;have hf8:f<=8:=by
    have hm:=List.getElem_mem hkl;rw[<-hf] at hm;rcases HP.o with h|h|h|h|h|h<;>rw[h] at hm<;>simp[AD] at hm<;>omega
   have cf:wr.cell? (dD g k)=some (iI (f:Int)):=by
    rw[cO (UR.heap (HM3.o.ext.heap HG2.o) (by simp;omega)),hf];simp[hkl]
   have hl:=(HM3.o.is.upd UR (by simp;omega)).lookup1 (P:=prog) underlying271 underlying273 (Lw w1.heap.size hf8);simp only[bnd] at hl;have eg:=λ args w=>Jr hf8 args w
   have HW:=hid (Py f hf8 LR (Hw _ _ _ HOk.o) (by have:=FB ((AD a.proc).take k) a ds HOk.o;simp at this;omega));have HFk:=hid hf;have e2:IntKind.i64.wrap ((k:Int)+1)=(k:Int)+1:=Uh _ (by omega);clear LR UR hf hf8;go_wp2_with fail;refine Calls.mono (show Calls prog (NJ f) #[pP w1.heap.size 0] wr _ from HW.o) ?_;rintro r w4 ⟨rfl,L4,U4⟩;have HL4:=hid L4;have HU4:=hid (HUR.o.trans U4);clear L4 U4 cf hl eg;go_wp2_with fail;go_roundw
   case rel=>
    refine⟨k+1,by omega,congrArg (Value.int .i64) (by omega),?_,HU4.o⟩;rw[List.take_succ_eq_append_getElem hkl,EX,Dq,JE,<-HFk.o];exact HL4.o
   case measure=>simp only[intOf];omega
  ·have hkn:¬(k:Int)<(n:Int):=by omega
   have htk:(AD a.proc).take k=AD a.proc:=List.take_of_length_le (by rw[<-HN.o];omega);rw[htk,HR.o,HRD.o] at LR;clear UR;go_wp2_with fail;obtain⟨d',v',hB,hO,hW,hS,-,-,-⟩:=LR;have HO:=hid hO;have HS:=hid (λ W (hx:Ext wr W)=>Ki HP.o (hS.ext hx) (Sl.nil W));dsimp only[AV.val] at HS;have c0:wr.cell? (dD w1.heap.size 0)=some (iI a.proc):=cA hB 0 rfl;have c1:wr.cell? (dD w1.heap.size 1)=some (iI 0):=cA hB 1 rfl;have c2:wr.cell? (dD w1.heap.size 2)=some (iI 0):=cA hB 2 rfl;have c3:wr.cell? (dD w1.heap.size 3)=some (iI 0):=cA hB 3 rfl;have c4:wr.cell? (dD w1.heap.size 4)=some (iI 0):=cA hB 4 rfl;have c5:wr.cell? (dD w1.heap.size 5)=some (iI 0):=cA hB 5 rfl;have c6:wr.cell? (dD w1.heap.size 6)=some (iI 0):=cA hB 6 rfl;have c7:wr.cell? (dD w1.heap.size 7)=some (iI 0):=cA hB 7 rfl;have c8:wr.cell? (dD w1.heap.size 8)=some (iI 0):=cA hB 8 rfl;have c9:wr.cell? (dD w1.heap.size 9)=some (eE):=cA hB 9 rfl;have c10:wr.cell? (dD w1.heap.size 10)=some (eE):=cA hB 10 rfl;have c11:wr.cell? (dD w1.heap.size 11)=some (d'):=cA hB 11 rfl;have c12:wr.cell? (dD w1.heap.size 12)=some (v'):=cA hB 12 rfl;have c13:wr.cell? (dD w1.heap.size 13)=some (.bool true):=cA hB 13 rfl;have c14:wr.cell? (dD w.heap.size 0)=some (iI a.proc):=cA (HUR.o.heap (HM3.o.ext.heap HA2.o) (by simp;omega)) 0 rfl;have XD:=(Ext.refl wr).drew;clear hB hO hW hS;go_region_held3 (λ w'=>w'.cell? (dD w1.heap.size 0)=some (iI a.proc)/\w'.cell? (dD w1.heap.size 1)=some (iI 0)/\w'.cell? (dD w1.heap.size 2)=some (iI 0)/\w'.cell? (dD w1.heap.size 3)=some (iI 0)/\w'.cell? (dD w1.heap.size 4)=some (iI 0)/\w'.cell? (dD w1.heap.size 5)=some (iI 0)/\w'.cell? (dD w1.heap.size 6)=some (iI 0)/\w'.cell? (dD w1.heap.size 7)=some (iI 0)/\w'.cell? (dD w1.heap.size 8)=some (iI 0)/\w'.cell? (dD w1.heap.size 9)=some (eE)/\w'.cell? (dD w1.heap.size 10)=some (eE)/\w'.cell? (dD w1.heap.size 11)=some (d')/\w'.cell? (dD w1.heap.size 12)=some (v')/\w'.cell? (dD w1.heap.size 13)=some (.bool true)/\w'.cell? (dD w.heap.size 0)=some (iI a.proc)/\Ext wr w') (first|with_reducible exact Qv c0 c1 c2 c3 c4 c5 c6 c7 c8 c9 c10 c11 c12 c13 c14 XD|with_reducible exact Tp (by assumption) X5) (first|(go_at_call 137;refine(HS.o _ (Uk (Uk (Uk (Uk (Uk (Uk (Uk (Uk (Uk (Uk (Uk (Uk (Uk (Uk (Uk (by assumption))))))))))))))))).mono ?_;rintro r w5 ⟨rfl,X5⟩))
   have HX5:=hid (show Ext wr w5 from(Uk (Uk (Uk (Uk (Uk (Uk (Uk (Uk (Uk (Uk (Uk (Uk (Uk (Uk (Uk (by assumption)))))))))))))))));clear X5 XD c0 c1 c2 c3 c4 c5 c6 c7 c8 c9 c10 c11 c12 c13 c14;go_wp2_with fail;go_ret2;refine⟨v',rfl,(HO.o.ext HX5.o).low hz1,?_⟩;exact(HUR.o.ext (HX2.o.trans HM3.o.ext) (by simp;omega)).trans HX5.o
theorem Kh {a:AV} (hp:a.proc=1\/a.proc=3\/a.proc=6\/a.proc=7\/a.proc=8\/a.proc=14) (ok:a.Ok ds) (hr:a.rest (AD a.proc)={proc:=a.proc}) (hrd:B7 ds (AD a.proc)=[]) (hd:Sl w d ds) (hdb:∀g,d.ownBlock=some g->g<w.heap.size):
  Calls prog 43 #[a.val d] w λ r w'=>∃v,r= .returned (.tuple #[v,iI 0])/\AA w' w.heap.size 5 v (bv (a.lay ds (AD a.proc)))/\Ext w w':=by
 have HL:=hid (λ W (hx:Ext w W)=>RC hp ok hr hrd (hd.ext hx) (λ g hg=>Nat.lt_of_lt_of_le (hdb g hg) hx.size));clear hp ok hr hrd hd hdb;dsimp only[AV.val] at HL|-
 go_in;go_wp2_with fail;refine(HL.o _ ((Ext.refl w).alloc _)).mono ?_;rintro r w1 ⟨v,rfl,O1,X1⟩;have HO:=hid O1;have HX:=hid (((Ext.refl w).alloc _).trans X1);clear O1 X1;go_wp2_with fail;go_ret2;exact⟨v,rfl,HO.o.low (by simp),HX.o⟩
theorem GB (h:RdW w g 0 (be4 n++(be4 m++zs))) (hn0:0<=n) (hn1:n<4294967296) (hm0:0<=m) (hm1:m<4294967296):
  Calls prog 367 #[pP g 0] w λ r w'=>r= .returned (.agg #[iI n,iI m])/\RdW w' g 0 zs/\Upd [g] w w':=by
 have e1:IntKind.i64.wrap n=n:=Uh _ (by omega);have e2:IntKind.i64.wrap m=m:=Uh _ (by omega);have H:=hid h;clear h;go_in;go_wp2_with fail;have hgl:g<w.heap.size:=by obtain⟨a,c,h1,_⟩:=H.o;exact lH h1
 have X0:Ext w (w.alloc (.cells #[iI 0,iI 0] 82)):=(Ext.refl _).alloc _;have h0:=Ub w (.cells #[iI 0,iI 0] 82);refine(Jl (H.o.ext X0) hn0 hn1).mono ?_;rintro r w1 ⟨rfl,R1,U1⟩;have HR1:=hid R1;have HU1:=hid ((X0.upd [g]).trans U1);have H1:=hid (U1.heap h0 (by simp;omega));clear R1 U1 X0 h0;go_wp2_with fail;refine(Jl HR1.o hm0 hm1).mono ?_;rintro r w2 ⟨rfl,R2,U2⟩;have HR2:=hid R2;have HU2:=hid (HU1.o.trans U2);have h2:=U2.heap H1.o (by simp;omega);have H2:=hid h2;obtain⟨b0,b1,b2,b3⟩:=Al h2;clear R2 U2 h2;go_wp2_with fail;refine Aa (R:=w.heap.size) (w0:=w2) (Pr:=λ W=>bodyPost _ _ _ _ _ W) _ (MR H2.o) (DC _ _ _ _) ?_;clear b0 b1 b2 b3;intro W hR hU;obtain⟨b0,b1,-,-⟩:=Al hR;exact Ue (v:= .agg #[iI n,iI m]) (by simp[results,results367,go_sem,b0,b1]) rfl ⟨rfl,HR2.o.upd hU (by simp;omega) (by intro b i z hc;simp only[List.mem_singleton];rintro rfl;rw[cO H2.o] at hc;rcases i with _|_|i<;>simp at hc),HU2.o.trans2 hU (λ i hi=> .inr (by simp at hi;omega))⟩
def Ba (ab:Nat) (a:AV) (d:Value) (w:World):Prop:=w.heap[ab]?=oC (a.cells d) 137
theorem Ba.nobyte {c:AV} {n:Nat} (h:Ba ab c (.slice x n k) w):∀b i z,w.cell? (dD b i)=some (.int .u8 z)->b∉[ab]:=by
 intro b i z hc;simp only[List.mem_singleton];rintro rfl;rw[cO h] at hc;simp only[AV.cells] at hc;rcases i with _|_|_|_|_|_|_|_|_|_|_|_|i<;>simp at hc
theorem Nn {c:AV} (h:RdW w g 0 (be4 n++zs)) (hn0:0<=n) (hn1:n<4294967296) (hA:Ba ab c (.slice x k j) w) (hga:ab≠g):
  Calls prog 317 #[pP g 0,iI 5,pP ab 0] w λ r w'=>r= .returned (iI 0)/\RdW w' g 0 zs/\Ba ab {c with count:=n} (.slice x k j) w'/\Upd [g,ab] w w':=by
 have e1:IntKind.i64.wrap n=n:=Uh _ (by omega);have H:=hid (Jl h hn0 hn1);have HA:=hid hA;clear h hA;go_in;go_wp2_with fail;refine H.o.mono ?_;rintro r w1 ⟨rfl,R1,U1⟩;have HR1:=hid R1;have HU1:=hid U1;have hA1:=U1.heap HA.o (by simpa using hga);have HA1:=hid hA1;have c2:=cA hA1 2 rfl;have f2:=fO hA1;clear R1 U1 hA1;go_wp2_with fail;have U2:Upd [ab] w1 (w1.setCell (dD ab 2) (iI n)):=(Upd.refl [ab] w1).setCell _ _ (.inl (by simp));have R2:=HR1.o.upd U2 (by simpa using Ne.symm hga) (Ba.nobyte HA1.o);refine(CG R2).mono ?_;rintro r w2 ⟨rfl,rfl⟩;have HR2:=hid R2;have HU2:=hid U2;clear R2 U2;go_wp2_with fail;go_ret;exact⟨rfl,HR2.o,jP (i:=2) (iI n) HA1.o,(HU1.o.mono (by simp)).trans (HU2.o.mono (by simp))⟩
theorem Qi {c:AV} (h:RdW w g 0 (be4 n++zs)) (hn0:0<=n) (hn1:n<4294967296) (hA:Ba ab c (.slice x k j) w) (hga:ab≠g):
  Calls prog 317 #[pP g 0,iI 7,pP ab 0] w λ r w'=>r= .returned (iI 0)/\RdW w' g 0 zs/\Ba ab {c with mode:=n} (.slice x k j) w'/\Upd [g,ab] w w':=by
 have e1:IntKind.i64.wrap n=n:=Uh _ (by omega);have H:=hid (Jl h hn0 hn1);have HA:=hid hA;clear h hA;go_in;go_wp2_with fail;refine H.o.mono ?_;rintro r w1 ⟨rfl,R1,U1⟩;have HR1:=hid R1;have HU1:=hid U1;have hA1:=U1.heap HA.o (by simpa using hga);have HA1:=hid hA1;have c2:=cA hA1 4 rfl;have f2:=fO hA1;clear R1 U1 hA1;go_wp2_with fail;have U2:Upd [ab] w1 (w1.setCell (dD ab 4) (iI n)):=(Upd.refl [ab] w1).setCell _ _ (.inl (by simp));have R2:=HR1.o.upd U2 (by simpa using Ne.symm hga) (Ba.nobyte HA1.o);refine(CG R2).mono ?_;rintro r w2 ⟨rfl,rfl⟩;have HR2:=hid R2;have HU2:=hid U2;clear R2 U2;go_wp2_with fail;go_ret;exact⟨rfl,HR2.o,jP (i:=4) (iI n) HA1.o,(HU1.o.mono (by simp)).trans (HU2.o.mono (by simp))⟩
theorem TJ {c:AV} (h:RdW w g 0 (be8 n++zs)) (hn0:0<=n) (hn1:n<=5000) (hA:Ba ab c (.slice x k j) w) (hga:ab≠g):
  Calls prog 317 #[pP g 0,iI 4,pP ab 0] w λ r w'=>r= .returned (iI 0)/\RdW w' g 0 zs/\Ba ab {c with off:=n} (.slice x k j) w'/\Upd [g,ab] w w':=by
 have e1:IntKind.i64.wrap n=n:=Uh _ (by omega);have e2:decide (4611686018427387904<n)=false:=by simp;omega
 have H:=hid (xr64 h hn0 (by omega));have HA:=hid hA;clear h hA;go_in;go_wp2_with fail;refine H.o.mono ?_;rintro r w1 ⟨rfl,R1,U1⟩;have HR1:=hid R1;have HU1:=hid U1;have hA1:=U1.heap HA.o (by simpa using hga);have HA1:=hid hA1;have c2:=cA hA1 1 rfl;have f2:=fO hA1;clear R1 U1 hA1;go_wp2_with fail;have U2:Upd [ab] w1 (w1.setCell (dD ab 1) (iI n)):=(Upd.refl [ab] w1).setCell _ _ (.inl (by simp));have R2:=HR1.o.upd U2 (by simpa using Ne.symm hga) (Ba.nobyte HA1.o);refine(CG R2).mono ?_;rintro r w2 ⟨rfl,rfl⟩;have HR2:=hid R2;have HU2:=hid U2;clear R2 U2;go_wp2_with fail;go_ret;exact⟨rfl,HR2.o,jP (i:=1) (iI n) HA1.o,(HU1.o.mono (by simp)).trans (HU2.o.mono (by simp))⟩
theorem Nm {c:AV} (h:RdW w g 0 (be4 n++(be4 m++zs))) (hn0:0<=n) (hn1:n<4294967296) (hm0:0<=m) (hm1:m<4294967296) (hA:Ba ab c (.slice x k j) w) (hga:ab≠g):
  Calls prog 317 #[pP g 0,iI 0,pP ab 0] w λ r w'=>r= .returned (iI 0)/\RdW w' g 0 zs/\Ba ab {c with h1:=n,h2:=m} (.slice x k j) w'/\Upd [g,ab] w w':=by
 have H:=hid (GB h hn0 hn1 hm0 hm1);have HA:=hid hA;clear h hA;go_in;go_wp2_with fail;refine H.o.mono ?_;rintro r w1 ⟨rfl,R1,U1⟩;have HR1:=hid R1;have HU1:=hid U1;have hA1:=U1.heap HA.o (by simpa using hga);have HA1:=hid hA1;have c2:=cA hA1 5 rfl;have c3:=cA hA1 6 rfl;have f2:=fO hA1;clear R1 U1 hA1;go_wp2_with fail;have U2:Upd [ab] w1 ((w1.setCell (dD ab 5) (iI n)).setCell (dD ab 6) (iI m)):=((Upd.refl [ab] w1).setCell _ _ (.inl (by simp))).setCell _ _ (.inl (by simp));have R2:=HR1.o.upd U2 (by simpa using Ne.symm hga) (Ba.nobyte HA1.o);refine(CG R2).mono ?_;rintro r w2 ⟨rfl,rfl⟩;have HR2:=hid R2;have HU2:=hid U2;clear R2 U2;go_wp2_with fail;go_ret;exact⟨rfl,HR2.o,jP (i:=6) (iI m) (jP (i:=5) (iI n) HA1.o),(HU1.o.mono (by simp)).trans (HU2.o.mono (by simp))⟩
theorem MO {c:AV} (h:RdW w g 0 (be4 n++(be4 m++zs))) (hn0:0<=n) (hn1:n<4294967296) (hm0:0<=m) (hm1:m<4294967296) (hA:Ba ab c (.slice x k j) w) (hga:ab≠g):
  Calls prog 317 #[pP g 0,iI 1,pP ab 0] w λ r w'=>r= .returned (iI 0)/\RdW w' g 0 zs/\Ba ab {c with k1:=n,k2:=m} (.slice x k j) w'/\Upd [g,ab] w w':=by
 have H:=hid (GB h hn0 hn1 hm0 hm1);have HA:=hid hA;clear h hA;go_in;go_wp2_with fail;refine H.o.mono ?_;rintro r w1 ⟨rfl,R1,U1⟩;have HR1:=hid R1;have HU1:=hid U1;have hA1:=U1.heap HA.o (by simpa using hga);have HA1:=hid hA1;have c2:=cA hA1 7 rfl;have c3:=cA hA1 8 rfl;have f2:=fO hA1;clear R1 U1 hA1;go_wp2_with fail;have U2:Upd [ab] w1 ((w1.setCell (dD ab 7) (iI n)).setCell (dD ab 8) (iI m)):=((Upd.refl [ab] w1).setCell _ _ (.inl (by simp))).setCell _ _ (.inl (by simp));have R2:=HR1.o.upd U2 (by simpa using Ne.symm hga) (Ba.nobyte HA1.o);refine(CG R2).mono ?_;rintro r w2 ⟨rfl,rfl⟩;have HR2:=hid R2;have HU2:=hid U2;clear R2 U2;go_wp2_with fail;go_ret;exact⟨rfl,HR2.o,jP (i:=8) (iI m) (jP (i:=7) (iI n) HA1.o),(HU1.o.mono (by simp)).trans (HU2.o.mono (by simp))⟩
theorem Qh {c:AV} (h:RdW w g 0 (xt (sb s)++zs)) (hn1:s.size<=64) (hA:Ba ab c (.slice x k j) w) (hga:ab≠g):
  Calls prog 317 #[pP g 0,iI 2,pP ab 0] w λ r w'=>r= .returned (iI 0)/\RdW w' g 0 zs/\Ba ab {c with name:=s} (.slice x k j) w'/\Upd [g,ab] w w':=by
 have H:=hid (Ha (most:=64) h (by rw[Ab];exact hn1) (by omega));have HA:=hid hA;clear h hA;go_in;go_wp2_with fail;refine H.o.mono ?_;rintro r w1 ⟨v,rfl,O1,R1,U1⟩;have hcv:=O1.str;rw[VD] at hcv;obtain⟨m,hm⟩:∃m,m=(sb s).length:=⟨_,rfl⟩;obtain⟨va,vc,rfl,-,-⟩:=O1.row2 (Cl s);rw[<-hm] at hcv|-
 clear hm O1;have HR1:=hid R1;have HU1:=hid U1;have hA1:=U1.heap HA.o (by simpa using hga);have HA1:=hid hA1;have c2:=cA hA1 9 rfl;have f2:=fO hA1;clear R1 U1 hA1;go_wp2_with fail;have U2:Upd [ab] w1 (w1.setCell (dD ab 9) (.string s)):=(Upd.refl [ab] w1).setCell _ _ (.inl (by simp));have R2:=HR1.o.upd U2 (by simpa using Ne.symm hga) (Ba.nobyte HA1.o);refine(CG R2).mono ?_;rintro r w2 ⟨rfl,rfl⟩;have HR2:=hid R2;have HU2:=hid U2;clear R2 U2;go_wp2_with fail;go_ret;exact⟨rfl,HR2.o,jP (i:=9) (.string s) HA1.o,(HU1.o.mono (by simp)).trans (HU2.o.mono (by simp))⟩
theorem Nl {c:AV} (h:RdW w g 0 (xt (sb s)++zs)) (hn1:s.size<=64) (hA:Ba ab c (.slice x k j) w) (hga:ab≠g):
  Calls prog 317 #[pP g 0,iI 3,pP ab 0] w λ r w'=>r= .returned (iI 0)/\RdW w' g 0 zs/\Ba ab {c with name2:=s} (.slice x k j) w'/\Upd [g,ab] w w':=by
 have H:=hid (Ha (most:=64) h (by rw[Ab];exact hn1) (by omega));have HA:=hid hA;clear h hA;go_in;go_wp2_with fail;refine H.o.mono ?_;rintro r w1 ⟨v,rfl,O1,R1,U1⟩;have hcv:=O1.str;rw[VD] at hcv;obtain⟨m,hm⟩:∃m,m=(sb s).length:=⟨_,rfl⟩;obtain⟨va,vc,rfl,-,-⟩:=O1.row2 (Cl s);rw[<-hm] at hcv|-
 clear hm O1;have HR1:=hid R1;have HU1:=hid U1;have hA1:=U1.heap HA.o (by simpa using hga);have HA1:=hid hA1;have c2:=cA hA1 10 rfl;have f2:=fO hA1;clear R1 U1 hA1;go_wp2_with fail;have U2:Upd [ab] w1 (w1.setCell (dD ab 10) (.string s)):=(Upd.refl [ab] w1).setCell _ _ (.inl (by simp));have R2:=HR1.o.upd U2 (by simpa using Ne.symm hga) (Ba.nobyte HA1.o);refine(CG R2).mono ?_;rintro r w2 ⟨rfl,rfl⟩;have HR2:=hid R2;have HU2:=hid U2;clear R2 U2;go_wp2_with fail;go_ret;exact⟨rfl,HR2.o,jP (i:=10) (.string s) HA1.o,(HU1.o.mono (by simp)).trans (HU2.o.mono (by simp))⟩
theorem Qj {c:AV} (h:RdW w g 0 (xt ds++zs)) (hwf:Wf ds) (hn1:ds.length<=2048) (hA:Ba ab c (.slice x k j) w) (hga:ab≠g):
  Calls prog 317 #[pP g 0,iI 8,pP ab 0] w λ r w'=>r= .returned (iI 0)/\RdW w' g 0 zs/\(∃y n' m',AA w' w.heap.size 5 (.slice y n' m') (bv ds)/\Ba ab c (.slice y n' m') w')/\Upd [g,ab] w w':=by
 have H:=hid (Ha (most:=2048) h (by omega) (by omega));have HA:=hid hA;have hlw:=lH hA;clear h hA;go_in;go_wp2_with fail;refine H.o.mono ?_;rintro r w1 ⟨v,rfl,O1,R1,U1⟩;obtain⟨m,hm⟩:∃m,m=ds.length:=⟨_,rfl⟩;obtain⟨va,vc,rfl,-,-⟩:=O1.row2 hwf;rw[<-hm] at O1|-
 have HO:=hid O1;have HR1:=hid R1;have HU1:=hid U1;have hA1:=U1.heap HA.o (by simpa using hga);have HA1:=hid hA1;have c2:=cA hA1 11 rfl;have f2:=fO hA1;clear R1 U1 hA1 hm O1;go_wp2_with fail;have U2:Upd [ab] w1 (w1.setCell (dD ab 11) (.slice va m vc)):=(Upd.refl [ab] w1).setCell _ _ (.inl (by simp));have R2:=HR1.o.upd U2 (by simpa using Ne.symm hga) (Ba.nobyte HA1.o);refine(CG R2).mono ?_;rintro r w2 ⟨rfl,rfl⟩;have HR2:=hid R2;have HU2:=hid U2;clear R2 U2;go_wp2_with fail;go_ret;have hO:=HO.o;exact⟨rfl,HR2.o,⟨va,m,vc,hO.upd HU2.o (λ g' hg hm=>by have:=(hO.lt hg).1;simp at hm;omega),jP (i:=11) (.slice va m vc) HA1.o⟩,(HU1.o.mono (by simp)).trans (HU2.o.mono (by simp))⟩
def AV.put (c a:AV):Nat->AV
 |0=>{c with h1:=a.h1,h2:=a.h2}
 |1=>{c with k1:=a.k1,k2:=a.k2}
 |2=>{c with name:=a.name}
 |3=>{c with name2:=a.name2}
 |4=>{c with off:=a.off}
 |5=>{c with count:=a.count}
 |7=>{c with mode:=a.mode}
 |_=>c
def Ql (cs ds:List Int) (f:Nat):List Int:=if f=8 then ds else cs
def Jj (ab:Nat) (c:AV) (cs:List Int) (base:Nat) (w:World):Prop:=∃x k j,Ba ab c (.slice x k j) w/\AA w base 5 (.slice x k j) (bv cs)/\Wf cs/\base<=w.heap.size
theorem TL {base:Nat} {a c:AV} {cs:List Int} (f:Nat) (hf:f<=8) (hf6:f≠6) (ok:a.Ok ds) (hwf:Wf ds) (h:RdW w g 0 (a.fb ds f++zs)) (hA:Jj ab c cs base w) (hga:ab≠g) (hgb:g<base) (hab:ab<base):
  Calls prog 317 #[pP g 0,iI f,pP ab 0] w λ r w'=>r= .returned (iI 0)/\RdW w' g 0 zs/\Jj ab (c.put a f) (Ql cs ds f) base w'/\Upd [g,ab] w w':=by
 obtain⟨x,k,j,hB,hO,hW,hb⟩:=hA;have key:∀(c':AV) (w':World),Ba ab c' (.slice x k j) w'->Upd [g,ab] w w'->Jj ab c' cs base w':=λ c' w' h1 h2=>
  ⟨x,k,j,h1,hO.upd h2 (λ b hb hm=>by have:=(hO.lt hb).1;simp at hm;omega),hW,Nat.le_trans hb h2.size⟩
 have b4:∀n:Int,0<=n/\n<=5000->n<4294967296:=λ n h=>by omega
 have:f=0\/f=1\/f=2\/f=3\/f=4\/f=5\/f=7\/f=8:=by omega
 rcases this with rfl|rfl|rfl|rfl|rfl|rfl|rfl|rfl
 ·exact(Nm (n:=a.h1) (m:=a.h2) (by simpa [AV.fb] using h) ok.h1.1 (b4 _ ok.h1) ok.h2.1 (b4 _ ok.h2) hB hga).mono (λ r w' q=>⟨q.1,q.2.1,key _ _ q.2.2.1 q.2.2.2,q.2.2.2⟩)
 ·exact(MO (n:=a.k1) (m:=a.k2) (by simpa [AV.fb] using h) ok.k1.1 (b4 _ ok.k1) ok.k2.1 (b4 _ ok.k2) hB hga).mono (λ r w' q=>⟨q.1,q.2.1,key _ _ q.2.2.1 q.2.2.2,q.2.2.2⟩)
 ·exact(Qh h ok.name hB hga).mono (λ r w' q=>⟨q.1,q.2.1,key _ _ q.2.2.1 q.2.2.2,q.2.2.2⟩)
 ·exact(Nl h ok.name2 hB hga).mono (λ r w' q=>⟨q.1,q.2.1,key _ _ q.2.2.1 q.2.2.2,q.2.2.2⟩)
 ·exact(TJ h ok.off.1 ok.off.2 hB hga).mono (λ r w' q=>⟨q.1,q.2.1,key _ _ q.2.2.1 q.2.2.2,q.2.2.2⟩)
 ·exact(Nn h ok.count.1 (b4 _ ok.count) hB hga).mono (λ r w' q=>⟨q.1,q.2.1,key _ _ q.2.2.1 q.2.2.2,q.2.2.2⟩)
 ·exact(Qi h ok.mode.1 (b4 _ ok.mode) hB hga).mono (λ r w' q=>⟨q.1,q.2.1,key _ _ q.2.2.1 q.2.2.2,q.2.2.2⟩)
 ·refine(Qj h hwf (by have:=ok.data;omega) hB hga).mono ?_;rintro r w' ⟨rfl,hR,⟨y,n',m',hO',hA'⟩,hU⟩;exact⟨rfl,hR,⟨y,n',m',hA',hO'.low hb,hwf,Nat.le_trans hb hU.size⟩,hU⟩
def AV.got:AV->AV->List Nat->AV
 |c,_,[]=>c
 |c,a,f::l=>AV.got (c.put a f) (a.less f) l
def gotD:List Int->List Int->List Nat->List Int
 |cs,_,[]=>cs
 |cs,ds,f::l=>gotD (Ql cs ds f) (CW ds f) l
theorem JL (f:Nat):∀(l:List Nat) (c a:AV),c.got a (l++[f])=(c.got a l).put (a.rest l) f
 |[],_,_=>rfl
 |g::l,c,a=>JL f l (c.put a g) (a.less g)
theorem Gl (f:Nat):∀(l:List Nat) (cs ds:List Int),gotD cs ds (l++[f])=Ql (gotD cs ds l) (B7 ds l) f
 |[],_,_=>rfl
 |g::l,cs,ds=>Gl f l (Ql cs ds g) (CW ds g)
theorem put12 {a0 a1 a2 a3 a4 a5 a6 a7 a8 a9 a10 a11 c0 c1 c2 c3 c4 c5 c6 c7 c8 c9 c10 c11:Value} {t:TypeId} (h:w.heap[g]?=oC #[c0,c1,c2,c3,c4,c5,c6,c7,c8,c9,c10,c11] t):
  ((((((((((((w.setCell (dD g 0) a0).setCell (dD g 1) a1).setCell (dD g 2) a2).setCell (dD g 3) a3).setCell (dD g 4) a4).setCell (dD g 5) a5).setCell (dD g 6) a6).setCell (dD g 7) a7).setCell (dD g 8) a8).setCell (dD g 9) a9).setCell (dD g 10) a10).setCell (dD g 11) a11).heap[g]?=oC #[a0,a1,a2,a3,a4,a5,a6,a7,a8,a9,a10,a11] t:=by
 replace h:=show _=some (Obj.cells #[a0,c1,c2,c3,c4,c5,c6,c7,c8,c9,c10,c11] t (0,0)) from jP (i:=0) a0 h
 replace h:=show _=some (Obj.cells #[a0,a1,c2,c3,c4,c5,c6,c7,c8,c9,c10,c11] t (0,0)) from jP (i:=1) a1 h
 replace h:=show _=some (Obj.cells #[a0,a1,a2,c3,c4,c5,c6,c7,c8,c9,c10,c11] t (0,0)) from jP (i:=2) a2 h
 replace h:=show _=some (Obj.cells #[a0,a1,a2,a3,c4,c5,c6,c7,c8,c9,c10,c11] t (0,0)) from jP (i:=3) a3 h
 replace h:=show _=some (Obj.cells #[a0,a1,a2,a3,a4,c5,c6,c7,c8,c9,c10,c11] t (0,0)) from jP (i:=4) a4 h
 replace h:=show _=some (Obj.cells #[a0,a1,a2,a3,a4,a5,c6,c7,c8,c9,c10,c11] t (0,0)) from jP (i:=5) a5 h
 replace h:=show _=some (Obj.cells #[a0,a1,a2,a3,a4,a5,a6,c7,c8,c9,c10,c11] t (0,0)) from jP (i:=6) a6 h
 replace h:=show _=some (Obj.cells #[a0,a1,a2,a3,a4,a5,a6,a7,c8,c9,c10,c11] t (0,0)) from jP (i:=7) a7 h
 replace h:=show _=some (Obj.cells #[a0,a1,a2,a3,a4,a5,a6,a7,a8,c9,c10,c11] t (0,0)) from jP (i:=8) a8 h
 replace h:=show _=some (Obj.cells #[a0,a1,a2,a3,a4,a5,a6,a7,a8,a9,c10,c11] t (0,0)) from jP (i:=9) a9 h
 replace h:=show _=some (Obj.cells #[a0,a1,a2,a3,a4,a5,a6,a7,a8,a9,a10,c11] t (0,0)) from jP (i:=10) a10 h
 replace h:=show _=some (Obj.cells #[a0,a1,a2,a3,a4,a5,a6,a7,a8,a9,a10,a11] t (0,0)) from jP (i:=11) a11 h
 exact h
theorem Sn (w:World) (g:Nat) (a0 a1 a2 a3 a4 a5 a6 a7 a8 a9 a10 a11:Value):Upd [g] w ((((((((((((w.setCell (dD g 0) a0).setCell (dD g 1) a1).setCell (dD g 2) a2).setCell (dD g 3) a3).setCell (dD g 4) a4).setCell (dD g 5) a5).setCell (dD g 6) a6).setCell (dD g 7) a7).setCell (dD g 8) a8).setCell (dD g 9) a9).setCell (dD g 10) a10).setCell (dD g 11) a11):=
 ((((((((((((Upd.refl [g] w).setCell _ _ (.inl (by simp))).setCell _ _ (.inl (by simp))).setCell _ _ (.inl (by simp))).setCell _ _ (.inl (by simp))).setCell _ _ (.inl (by simp))).setCell _ _ (.inl (by simp))).setCell _ _ (.inl (by simp))).setCell _ _ (.inl (by simp))).setCell _ _ (.inl (by simp))).setCell _ _ (.inl (by simp))).setCell _ _ (.inl (by simp))).setCell _ _ (.inl (by simp))
theorem Iq:∀(l:List Nat) (ds:List Int),Wf ds->Wf (B7 ds l)
 |[],_,h=>h
 |f::l,ds,h=>Iq l _ (by unfold CW;split;exact Wf.nil;exact h)
theorem Ms {a:AV} (hp:a.proc=1\/a.proc=3\/a.proc=6\/a.proc=7\/a.proc=8\/a.proc=14) (ok:a.Ok ds) (hwf:Wf ds) (hgot:AV.got {proc:=a.proc} a (AD a.proc)=a) (hgd:gotD [] ds (AD a.proc)=ds) (hv:Sl w v (a.lay ds (AD a.proc))):
  Calls prog 229 #[iI a.proc,v] w λ r w'=>∃d,r= .returned (.tuple #[a.val d,iI 0])/\AA w' w.heap.size 5 d (bv ds)/\Ext w w':=by
 have HF:=hid (λ W=>Fp a.proc hp W);have HP:=hid hp;have HOk:=hid ok;have HWf:=hid hwf;have HGt:=hid hgot;have HGd:=hid hgd;obtain⟨va,vc,rfl,q1,q2⟩:=hv;have hll:=FB (AD a.proc) a ds ok;have hfl0:(AD a.proc).length<=4:=by rcases hp with h|h|h|h|h|h<;>rw[h]<;>decide
 have HV:=hid (λ W (hx:Ext w W)=>EC va _ vc _ (show(a.lay ds (AD a.proc)).length<=1000000 by omega) W (q1.ext hx) q2.nil0);obtain⟨nv,hnv⟩:∃nv,nv=(a.lay ds (AD a.proc)).length:=⟨_,rfl⟩;rw[<-hnv] at HV|-
 clear hnv q1 q2 hll hfl0;have hfl:0<(AD a.proc).length/\(AD a.proc).length<=4:=by rcases hp with h|h|h|h|h|h<;>rw[h]<;>decide
 clear hp ok hwf hgot hgd;go_in;go_wp2_with fail;obtain⟨W0,hW0⟩:∃W,W=w.alloc (.cells (pR 0 0 0 0 0 0 0 0 0 ⟨#[]⟩ ⟨#[]⟩ (nN)) 137):=⟨_,rfl⟩;rw[<-hW0];have X0:Ext w W0:=by rw[hW0];exact(Ext.refl _).alloc _
 have h0:W0.heap[w.heap.size]?=oC (pR 0 0 0 0 0 0 0 0 0 ⟨#[]⟩ ⟨#[]⟩ (nN)) 137:=by rw[hW0];exact Ub w _
 clear hW0;refine(HF.o W0).mono ?_;rintro r w1 ⟨fv,rfl,⟨fg,rfl,hg⟩,X1⟩;obtain⟨n,hn⟩:∃n,n=(AD a.proc).length:=⟨_,rfl⟩;rw[<-hn] at hfl|-
 have HN:=hid hn;have HG:=hid hg;have HX1:=hid (X0.trans X1);have HA1:=hid (X1.heap h0);clear hn hg X0 X1 h0;go_wp2_with fail;refine(HV.o _ HX1.o).mono ?_;rintro r w2 ⟨rg,rfl,R2,hrg,X2⟩;have HR2:=hid R2;have HX2:=hid (HX1.o.trans X2);have HY2:=hid X2;have hrl:=R2.lt;clear R2 X2;go_wp2_with fail;obtain⟨W3,hW3⟩:∃W,W=w2.alloc (.cells (pR a.proc 0 0 0 0 0 0 0 0 ⟨#[]⟩ ⟨#[]⟩ (nN)) 137):=⟨_,rfl⟩;rw[<-hW3];have X3:Ext w2 W3:=by rw[hW3];exact(Ext.refl _).alloc _
 have h3:Ba w2.heap.size {proc:=a.proc} (nN) W3:=by rw[hW3];exact Ub w2 _
 have hab:w2.heap.size<W3.heap.size:=lH h3;have hz2:=HY2.o.size;have hgl:=lH HG.o;have hal:=lH HA1.o;have HR3:=hid (HR2.o.ext X3);have HX3:=hid (HX2.o.trans X3);have HG3:=hid (X3.heap (HY2.o.heap HG.o));have HA3:=hid (X3.heap (HY2.o.heap HA1.o));have HD3:=hid (show Jj w2.heap.size {proc:=a.proc} [] W3.heap.size W3 from⟨none,0,0,h3,AA.nil _ _ _,Wf.nil,Uf _⟩);clear hW3 X3 h3;go_loopw [25] (λ v25 wr=>∃k:Nat,k<=n/\v25= iI k/\RdW wr rg 0 ((a.rest ((AD a.proc).take k)).lay (B7 ds ((AD a.proc).take k)) ((AD a.proc).drop k))/\
  Jj w2.heap.size (AV.got {proc:=a.proc} a ((AD a.proc).take k)) (gotD [] ds ((AD a.proc).take k)) W3.heap.size wr/\Upd [rg,w2.heap.size] W3 wr) (λ v25 _=>n-(intOf v25).toNat)
 case atStart=>exact⟨0,by omega,rfl,HR3.o,HD3.o,Upd.refl _ _⟩
 case round=>
  obtain⟨k,hk,rfl,LR,AR,UR⟩:=hrel;have HUR:=hid UR;have hk0:(0:Int)<=(k:Int):=by omega
  by_cases hlt:k<n
  ·have hkn:(k:Int)<(n:Int):=by omega
   have hkl:k<(AD a.proc).length:=by rw[<-HN.o];exact hlt
   obtain⟨f,hf⟩:∃f,f=(AD a.proc)[k]:=⟨_,rfl⟩;have hf8:f<=8/\f≠6:=by
    have hm:=List.getElem_mem hkl;rw[<-hf] at hm;rcases HP.o with h|h|h|h|h|h<;>rw[h] at hm<;>simp[AD] at hm<;>omega
   have cf:wr.cell? (dD fg k)=some (iI (f:Int)):=by
    rw[cO (UR.heap HG3.o (by simp;omega)),hf];simp[hkl]
   have HFk:=hid hf;have hdk:(AD a.proc).drop k=f::(AD a.proc).drop (k+1):=by rw[hf];exact List.drop_eq_getElem_cons hkl
   rw[hdk] at LR;have okk:=Hw ((AD a.proc).take k) a ds HOk.o;have wfk:Wf (B7 ds ((AD a.proc).take k)):=Iq _ _ HWf.o;have HS:=hid (TL f hf8.1 hf8.2 okk wfk LR AR (by omega) (by omega) (by omega));have e2:IntKind.i64.wrap ((k:Int)+1)=(k:Int)+1:=Uh _ (by omega);clear LR AR UR hf hf8 hdk okk wfk;go_wp2_with fail;refine HS.o.mono ?_;rintro r w4 ⟨rfl,L4,A4,U4⟩;have HL4:=hid L4;have HA4:=hid A4;have HU4:=hid (HUR.o.trans U4);clear L4 A4 U4 cf;go_wp2_with fail;go_roundw
   case rel=>
    refine⟨k+1,by omega,congrArg (Value.int .i64) (by omega),?_,?_,HU4.o⟩
    ·rw[List.take_succ_eq_append_getElem hkl,EX,Dq,<-HFk.o];exact HL4.o
    ·rw[List.take_succ_eq_append_getElem hkl,JL,Gl,<-HFk.o];exact HA4.o
   case measure=>simp only[intOf];omega
  ·have hkn:¬(k:Int)<(n:Int):=by omega
   have htk:(AD a.proc).take k=AD a.proc:=List.take_of_length_le (by rw[<-HN.o];omega);have hdk:(AD a.proc).drop k=[]:=List.drop_of_length_le (by rw[<-HN.o];omega);rw[hdk] at LR;rw[htk,HGt.o,HGd.o] at AR;have HL:=hid LR;obtain⟨x,kk,j,hB,hO,-,-⟩:=AR;have HO:=hid hO;have hB0:=hB;simp only[Ba,AV.cells] at hB0;obtain⟨b0,b1,b2,b3,b4,b5,b6,b7,b8,b9,b10,b11,-⟩:=CM hB0;have hr4:=UR.heap HA3.o (by simp;omega);have HR4:=hid hr4;obtain⟨r0,r1,r2,r3,r4,r5,r6,r7,r8,r9,r10,r11,rf⟩:=CM hr4;clear LR hB hO hB0 UR hr4 htk hdk;go_wp2_with fail;refine(xend (show RdW wr rg 0 [] from HL.o)).mono ?_;rintro r w5 ⟨rfl,rfl⟩;go_wp2_with fail;refine Aa (R:=w.heap.size) (w0:=wr) (Pr:=λ W=>bodyPost _ _ _ _ _ W) _ (put12 HR4.o) (Sn _ _ _ _ _ _ _ _ _ _ _ _ _ _) ?_;clear r0 r1 r2 r3 r4 r5 r6 r7 r8 r9 r10 r11 rf b0 b1 b2 b3 b4 b5 b6 b7 b8 b9 b10 b11;intro W hR hU;obtain⟨r0,r1,r2,r3,r4,r5,r6,r7,r8,r9,r10,r11,-⟩:=CM hR;have hO:=HO.o;refine Ue (v:= .tuple #[a.val (.slice x kk j),iI 0]) (by simp[AV.val,results,results229,go_sem,r0,r1,r2,r3,r4,r5,r6,r7,r8,r9,r10,r11]) rfl ⟨.slice x kk j,rfl,?_,?_⟩
   ·exact(hO.upd hU (λ g' hg hm=>by have:=(hO.lt hg).1;simp at hm;omega)).low (by omega)
   ·exact hU.ext (HUR.o.ext HX3.o (by simp;omega)) (by simp)
theorem Md (a:Option Addr) (n c:Nat) (l:List Int) (hn:n<=100) (x:Int) (w:World) (h:AI .i64 w a n c l):
  Calls prog 220 #[.slice a n c,iI x] w λ r w'=>∃k,Pt l x k/\r= .returned (iI k)/\w=w':=by
 have hl:=h.1;have hcm:=h.2.2.1;have hlc:=h.2.1;unfold maxLen at hcm;have H:=hid h;have HL:=hid hl;clear h hl;go_in;go_wp2_with fail;go_loop [8] (λ v8=>∃i:Nat,i<=n/\v8= iI i/\x∉l.take i) (λ v8=>n-(intOf v8).toNat)
 case atStart=>exact⟨0,by omega,rfl,by simp⟩
 case round=>
  obtain⟨i,hi,rfl,hx⟩:=hrel;have HX:=hid hx;clear hx;by_cases hlt:i<n
  ·have hd:decide (i<n)=true:=by simpa using hlt
   have hi0:(0:Int)<=(i:Int):=by omega
   have hi1:(i:Int)<(n:Int):=by omega
   obtain⟨g,o,rfl,q⟩:=H.o.at_ hlt;have hil:i<l.length:=by rw[HL.o];exact hlt
   have HT:=hid (show l.take (i+1)=l.take i++[l.getD i 0] by
    rw[List.take_succ_eq_append_getElem hil];simp[List.getD,Ud hil])
   have HM:=hid (show l.getD i 0∈l by simp[List.getD,Ud hil]);generalize l.getD i 0=y at*;clear hil;by_cases hxy:x=y
   ·subst hxy;go_wp2_with fail;go_ret;exact⟨i,⟨by omega,by omega,⟨λ _=>HM.o,λ _=>by omega⟩⟩,rfl,rfl⟩
   ·have hd2:(x==y)=false:=by simpa using hxy
    go_wp2_with fail;go_round
    case rel=>exact⟨i+1,by omega,by go_num,by rw[HT.o];simp[hxy];exact HX.o⟩
    case measure=>simp[intOf];omega
  ·have hd:decide (i<n)=false:=by simpa using hlt
   have hE:l.take i=l:=List.take_of_length_le (by rw[HL.o];omega);rw[hE] at HX;clear hE;go_wp2_with fail;go_ret;exact⟨-1,⟨by omega,by omega,⟨λ h=>by omega,λ h=>absurd h HX.o⟩⟩,rfl,rfl⟩
theorem EQ (a:Option Addr) (n c:Nat) (l:List Int) (hn:n<=100) (x:Int) (w:World) (h:AI .i64 w a n c l):
  Calls prog 140 #[.slice a n c,iI x] w λ r w'=>r= .returned (.bool (decide (x∈l)))/\w=w':=by
 have H:=hid (Md a n c l hn x w h);clear h;go_in;go_wp2_with fail;refine H.o.mono ?_;rintro r w' ⟨k,hk,rfl,rfl⟩;have HK:=hid hk;clear hk;by_cases hx:x∈l
 ·have hd:decide (x∈l)=true:=by simpa using hx
  have hk:decide (0<=k)=true:=by have:=HK.o.2.2.2 hx;simpa using this
  have HD:=hid hd;clear hx hd;go_wp2_with fail;go_ret;exact⟨by rw[HD.o];rfl,rfl⟩
 ·have hd:decide (x∈l)=false:=by simpa using hx
  have hk:decide (0<=k)=false:=by have:=λ h=>hx (HK.o.2.2.1 h);simpa using this
  have HD:=hid hd;clear hx hd;go_wp2_with fail;go_ret;exact⟨by rw[HD.o];rfl,rfl⟩
theorem JI (a:Option Addr) (n c:Nat) (l:List Int) (hn:n<=100) (x:Int) (w:World) (h:AI .i64 w a n c l):
  Calls prog 364 #[.slice a n c,iI x] w λ r w'=>∃k,Pt l x k/\r= .returned (iI k)/\w=w':=by
 have hl:=h.1;have hcm:=h.2.2.1;have hlc:=h.2.1;unfold maxLen at hcm;have H:=hid h;have HL:=hid hl;clear h hl;go_in;go_wp2_with fail;go_loop [8] (λ v8=>∃i:Nat,i<=n/\v8= iI i/\x∉l.take i) (λ v8=>n-(intOf v8).toNat)
 case atStart=>exact⟨0,by omega,rfl,by simp⟩
 case round=>
  obtain⟨i,hi,rfl,hx⟩:=hrel;have HX:=hid hx;clear hx;by_cases hlt:i<n
  ·have hd:decide (i<n)=true:=by simpa using hlt
   have hi0:(0:Int)<=(i:Int):=by omega
   have hi1:(i:Int)<(n:Int):=by omega
   obtain⟨g,o,rfl,q⟩:=H.o.at_ hlt;have hil:i<l.length:=by rw[HL.o];exact hlt
   have HT:=hid (show l.take (i+1)=l.take i++[l.getD i 0] by
    rw[List.take_succ_eq_append_getElem hil];simp[List.getD,Ud hil])
   have HM:=hid (show l.getD i 0∈l by simp[List.getD,Ud hil]);generalize l.getD i 0=y at*;clear hil;by_cases hxy:x=y
   ·subst hxy;go_wp2_with fail;go_ret;exact⟨i,⟨by omega,by omega,⟨λ _=>HM.o,λ _=>by omega⟩⟩,rfl,rfl⟩
   ·have hd2:(x==y)=false:=by simpa using hxy
    go_wp2_with fail;go_round
    case rel=>exact⟨i+1,by omega,by go_num,by rw[HT.o];simp[hxy];exact HX.o⟩
    case measure=>simp[intOf];omega
  ·have hd:decide (i<n)=false:=by simpa using hlt
   have hE:l.take i=l:=List.take_of_length_le (by rw[HL.o];omega);rw[hE] at HX;clear hE;go_wp2_with fail;go_ret;exact⟨-1,⟨by omega,by omega,⟨λ h=>by omega,λ h=>absurd h HX.o⟩⟩,rfl,rfl⟩
theorem Fz (a:Option Addr) (n c:Nat) (l:List Int) (hn:n<=100) (x:Int) (w:World) (h:AI .i64 w a n c l):
  Calls prog 310 #[.slice a n c,iI x] w λ r w'=>r= .returned (.bool (decide (x∈l)))/\w=w':=by
 have H:=hid (JI a n c l hn x w h);clear h;go_in;go_wp2_with fail;refine H.o.mono ?_;rintro r w' ⟨k,hk,rfl,rfl⟩;have HK:=hid hk;clear hk;by_cases hx:x∈l
 ·have hd:decide (x∈l)=true:=by simpa using hx
  have hk:decide (0<=k)=true:=by have:=HK.o.2.2.2 hx;simpa using this
  have HD:=hid hd;clear hx hd;go_wp2_with fail;go_ret;exact⟨by rw[HD.o];rfl,rfl⟩
 ·have hd:decide (x∈l)=false:=by simpa using hx
  have hk:decide (0<=k)=false:=by have:=λ h=>hx (HK.o.2.2.1 h);simpa using this
  have HD:=hid hd;clear hx hd;go_wp2_with fail;go_ret;exact⟨by rw[HD.o];rfl,rfl⟩
def SM:List Int:=[1,2,3,6,7,8,9,12,13,14,16]
theorem Iv (hp:p=1\/p=3\/p=6\/p=7\/p=8\/p=14):decide (p∈SM)=true:=by
 rcases hp with rfl|rfl|rfl|rfl|rfl|rfl<;>decide
theorem Fy (w:World):Calls prog 141 #[] w λ r w'=>∃g,r= .returned (sS g 0 11 11)/\AI .i64 w' (some ⟨g,0,none⟩) 11 11 SM/\Ext w w':=by
 go_in;go_wp2_with fail;go_ret;refine⟨w.heap.size,rfl,⟨rfl,by omega,by decide,by decide,.inr ⟨w.heap.size,0,rfl,λ i hi=> ?_⟩⟩,(Ext.refl w).alloc _⟩;rw[cO (Ub w _)];have:i=0\/i=1\/i=2\/i=3\/i=4\/i=5\/i=6\/i=7\/i=8\/i=9\/i=10:=by omega
 rcases this with rfl|rfl|rfl|rfl|rfl|rfl|rfl|rfl|rfl|rfl|rfl<;>rfl
theorem Gh (hp:p=1\/p=3\/p=6\/p=7\/p=8\/p=14) (w:World):Calls prog 232 #[iI p] w λ r w'=>r= .returned (.bool true)/\Ext w w':=by
 have HP:=hid (Iv hp);clear hp;go_in;go_wp2_with fail;refine(Fy _).mono ?_;rintro r w1 ⟨g,rfl,hr,X1⟩;have HR:=hid hr;clear hr;go_wp2_with fail;refine(EQ _ _ _ _ (by omega) p _ HR.o).mono ?_;rintro r w2 ⟨rfl,rfl⟩;rw[HP.o];go_wp2_with fail;go_ret;exact⟨rfl,X1⟩
theorem R9 (h:Eg w 19 v w'):∃a c,v= .slice a 19 c/\AI .i64 w' a 19 c EP:=by
 have ho:AA w' w.heap.size 47 v (nv EP):=h.1;obtain⟨a,c,e1,e2,e3⟩:=ho.rowN (by decide);exact⟨a,c,e1,e2⟩
theorem Mk {e:Int} (he:e∈EP) {a:Option Addr} {c:Nat} (h:AI .i64 w a 19 c EP):Calls prog 310 #[.slice a 19 c,iI e] w λ r w'=>r= .returned (.bool true)/\w=w':=
 (Fz a 19 c EP (by omega) e w h).mono (λ r w' q=>⟨by rw[q.1,decide_eq_true he],q.2⟩)
def BK (n:Int):Prop:=0<=n/\n<=4294967295
theorem FM (n:Int) (h:BK n) (w:World):Calls prog 314 #[iI n] w λ r w'=>r= .returned (.bool true)/\w=w':=by
 have h1:=h.1;have h2:=h.2;go_in;go_wp2_with fail;go_ret;exact⟨rfl,rfl⟩
theorem GK (x y:Int) (hx:BK x) (hy:BK y) (w:World):Calls prog 366 #[.agg #[iI x,iI y]] w λ r w'=>r= .returned (.bool true)/\Ext w w':=by
 have HX:=hid (λ w=>FM x hx w);have HY:=hid (λ w=>FM y hy w);clear hx hy;go_in;go_wp2_with (go_at_call 314;(first|with_reducible refine(HX.o _).mono ?_|with_reducible refine(HY.o _).mono ?_);rintro r w' ⟨rfl,rfl⟩);go_ret;exact⟨rfl,(Ext.refl w).alloc _⟩
structure Ef (x y k m s:Int):Prop where
 x:BK x
 y:BK y
 k:k=1\/k=2
 m:0<=m/\m<=511
 s:0<=s/\s<=65536
theorem Ek {x y k s:Int} (h:Ef x y k m s) (w:World):Calls prog 313 #[.agg #[iI x,iI y,iI k,iI m,iI s]] w λ r w'=>r= .returned (.bool true)/\Ext w w':=by
 have HX:=hid (λ w=>GK x y h.x h.y w);obtain⟨-,-,hk,⟨m1,m2⟩,⟨s1,s2⟩⟩:=h;have e1:decide ((0:Int)<=m)=true:=by simpa using m1
 have e2:decide (m<=511)=true:=by simpa using m2
 have e3:decide ((0:Int)<=s)=true:=by simpa using s1
 have e4:decide (s<=65536)=true:=by simpa using s2
 clear m1 m2 s1 s2;obtain⟨W0,hW0⟩:∃W,W=w.alloc (.cells #[iI x,iI y,iI k,iI m,iI s] 139):=⟨_,rfl⟩;have hb:W0.heap[w.heap.size]?=oC #[iI x,iI y,iI k,iI m,iI s] 139:=by rw[hW0];exact Ub w _
 have HE:=hid (show Ext w W0 by rw[hW0];exact(Ext.refl w).alloc _);have HB:=hid hb;rcases hk with rfl|rfl
 all_goals
  go_in;go_wp2_with (go_at_call 366;rw[<-hW0];refine(HX.o _).mono ?_;rintro r w1 ⟨rfl,X1⟩;obtain⟨c0,c1,c2,c3,c4,-⟩:=Cq (X1.heap HB.o);have HX1:=hid X1;clear X1 hW0 hb);go_ret;exact⟨rfl,HE.o.trans HX1.o⟩
theorem eq5 (w:World):(Op.equalIn 10000 139 (.agg #[iI 0,iI 0,iI 0,iI 0,iI 0]) (.agg #[iI 0,iI 0,iI 0,iI 0,iI 0])).run prog w= .ok true w:=by kernel_rfl
theorem GN (w:World):Calls prog 365 #[nN,nN] w λ r w'=>r= .returned (.bool true)/\w=w':=by
 go_in;go_wp2_with fail;go_loop [13] (λ v=>v= iI 0) (λ _=>0)
 case atStart=>rfl
 case round=>
  subst hrel;go_wp2_with fail;go_ret;exact⟨rfl,rfl⟩
theorem CN (e:Int) {d1 d2:Value} (h1:Sl w d1 []) (h2:Sl w d2 []):
  Calls prog 312 #[.agg (rR e 0 0 0 0 0 d1 0 false (nN)),.agg (rR e 0 0 0 0 0 d2 0 false (nN))] w λ r w'=>r= .returned (.bool true)/\Ext w w':=by
 obtain⟨a1,c1,rfl,q1,-⟩:=h1;obtain⟨a2,c2,rfl,q2,-⟩:=h2;obtain⟨n,hn⟩:∃n,n=([]:List Int).length:=⟨_,rfl⟩;rw[<-hn] at q1 q2|-
 have HE:=hid (show∀W,Ext w W->Calls prog 216 #[.slice a1 n c1,.slice a2 n c2] W λ r w'=>r= .returned (.bool true)/\Ext W w' from λ W hx=>(Db a1 a2 n n c1 c2 [] [] W (q1.ext hx) (q2.ext hx)).mono (λ r w' q=>⟨by rw[q.1];simp,q.2⟩));clear q1 q2 hn;have h5:=eq5;obtain⟨W0,hW0⟩:∃W,W=((w.alloc (.cells (rR e 0 0 0 0 0 (.slice a1 n c1) 0 false (nN)) 142)).alloc (.cells (rR e 0 0 0 0 0 (.slice a2 n c2) 0 false (nN)) 142)):=⟨_,rfl⟩;obtain⟨hb,hr,X0⟩:=AH w (.cells (rR e 0 0 0 0 0 (.slice a1 n c1) 0 false (nN)) 142) (.cells (rR e 0 0 0 0 0 (.slice a2 n c2) 0 false (nN)) 142);rw[<-hW0] at hb hr X0;have HB:=hid hb;have HR:=hid hr;have HX:=hid X0;clear hb hr X0;go_in;go_wp2_with (go_at_call 216;rw[<-hW0];refine(HE.o _ HX.o).mono ?_;rintro r w1 ⟨rfl,X1⟩;obtain⟨c0,c1,c2,c3,c4,c5,c6,c7,c8,c9,-⟩:=AC (X1.heap HB.o);obtain⟨d0,d1,d2,d3,d4,d5,d6,d7,d8,d9,-⟩:=AC (X1.heap HR.o);have HX1:=hid X1;clear X1 hW0);refine(GN _).mono ?_;rintro r w' ⟨rfl,rfl⟩;go_wp2_with fail;go_ret;exact⟨rfl,HX.o.trans HX1.o⟩
end Go.Proofs.YtdakioiagpkfhaaGreatDoor
