import Derived.Test.YtdakioiagpkfhaaGreatDoorP23
import Derived.Defers
import Derived.Recover
import Derived.Conc.MuLone
set_option maxRecDepth 99999
set_option maxHeartbeats 0
set_option linter.all false
namespace Go.Proofs.YtdakioiagpkfhaaGreatDoor
open RowKit Conc
open Go.Proofs.Tryz
variable {ds zs:List Int} {p x:Int} {r rv:RV} {v:Value} {w:World}
theorem BH.e09 (h:BH p r ds):r.e=0\/r.e=9:=by cases h<;>simp
theorem ares {g:Nat} (ok:BH p rv ds) (hwf:Wf ds) (h:RdW w g 0 (Bz p rv ds)) (ht:Aw w) (hg:1≠g):
  Calls prog 234 #[rdr g,iI p] w λ r w'=>∃d,r= .returned (rv.val d)/\AA w' w.heap.size 5 d (bv ds)/\RdW w' g 0 []/\Upd [g] w w':=by
 have hee:=ok.e09;have h:RdW w g 0 (be4 (Ce rv.e)++FW p rv ds):=h;obtain⟨W0,hW0⟩:∃W,W=(w.alloc (.cells #[pP g 0] 349)).alloc (.cells rZ 142):=⟨_,rfl⟩;obtain⟨hb,hr,X0⟩:=AH w (.cells #[pP g 0] 349) (.cells rZ 142);rw[<-hW0] at hb hr X0;have HU:=hid (show Upd [g] w W0 from X0.upd _);have HB:=hid hb;have HR:=hid hr;have hgl:=h.lt;have hrl:=lH hr;have HG:=hid (h.ext X0);have X0':=X0;have b0:=cO hb 0;clear h hb hr X0;unfold rdr;go_in;go_wp2_with fail;rw[<-hW0];clear hW0;go_wp2_with fail;have H:=hid (R5 hee HG.o (ht.ext X0') hg);clear b0
 try unfold rdr at H
 refine H.o.mono ?_;rintro r w1 ⟨rfl,R,U⟩;have HU1:=hid (HU.o.trans U);have hz1:=U.size;have HG1:=hid R;have HB1:=hid (U.heap HB.o (by simp;omega));have HR1:=hid (U.heap HR.o (by simp;omega));clear R U HU HG HB HR H;have HU:=HU1;have HG:=HG1;have HB:=HB1;have HR:=HR1;clear HU1 HG1 HB1 HR1;have b0:=cO HB.o 0;have hbl1:=lH HB.o;obtain⟨e,he⟩:∃e,e=rv.e:=⟨_,rfl⟩;rw[<-he];clear ht hee;cases ok with
 |err=>
  dsimp only at*;have hq:(e !=0)=true:=by simp[he]
  have HEE:=hid he;clear he;obtain⟨W2,hW⟩:∃W,W=w1.alloc (.cells (rR e 0 0 0 0 0 (nN) 0 false (nN)) 142):=⟨_,rfl⟩;have ha:W2.heap[w1.heap.size]?=oC (rR e 0 0 0 0 0 (nN) 0 false (nN)) 142:=by rw[hW];exact Ub w1 _
  have X:Ext w1 W2:=by rw[hW];exact(Ext.refl _).alloc _
  have hz2:=X.size;obtain⟨A,hA⟩:∃A,A=w1.heap.size:=⟨_,rfl⟩;rw[<-hA] at ha;have hal:=lH ha;have hAg:w.heap.size+1<A:=by omega
  have HU2:=hid (HU.o.trans (X.upd _));have HG2:=hid (HG.o.ext X);have HB2:=hid (X.heap HB.o);have HR2:=hid (X.heap HR.o);have HA:=hid ha;clear HU HG HB HR X b0;have HU:=HU2;have HG:=HG2;have HB:=HB2;have HR:=HR2;clear HU2 HG2 HB2 HR2;have b0:=cO HB.o 0;obtain⟨a0,a1,a2,a3,a4,a5,a6,a7,a8,a9,-⟩:=AC ha;clear ha;obtain⟨r0,r1,r2,r3,r4,r5,r6,r7,r8,r9,rf⟩:=AC HR.o;have HWE:=hid hW;have HAE:=hid hA;clear hW hA;go_wp2_with (rw[<-HWE.o,<-HAE.o]);clear HWE HAE;refine Aa (R:=w.heap.size+1) (w0:=W2) (Pr:=λ W=>bodyPost _ _ _ _ _ W) _ (Ao HR.o) (AX _ _ _ _ _ _ _ _ _ _ _ _) ?_;clear r0 r1 r2 r3 r4 r5 r6 r7 r8 r9 rf;intro W hR hU;obtain⟨r0,r1,r2,r3,r4,r5,r6,r7,r8,r9,-⟩:=AC hR;have HG9:=HG.o.upd hU (by simp;omega) (nobyte HR.o (by simp));have HU9:=HU.o.trans2 hU (λ i hi=> .inr (by simp at hi;omega));refine Ue (v:=RV.val _ (nN)) (by simp[RV.val,HEE.o,results,results234,go_sem,r0,r1,r2,r3,r4,r5,r6,r7,r8,r9]) rfl ⟨nN,rfl,AA.nil _ _ _,HG9,HU9⟩
 |none=>
  dsimp only at*;have hq:(e !=0)=false:=by simp[he]
  have HEE:=hid he;clear he;obtain⟨W2,hW⟩:∃W,W=w1.alloc (.cells (rR e 0 0 0 0 0 (nN) 0 false (nN)) 142):=⟨_,rfl⟩;have ha:W2.heap[w1.heap.size]?=oC (rR e 0 0 0 0 0 (nN) 0 false (nN)) 142:=by rw[hW];exact Ub w1 _
  have X:Ext w1 W2:=by rw[hW];exact(Ext.refl _).alloc _
  have hz2:=X.size;obtain⟨A,hA⟩:∃A,A=w1.heap.size:=⟨_,rfl⟩;rw[<-hA] at ha;have hal:=lH ha;have hAg:w.heap.size+1<A:=by omega
  have HU2:=hid (HU.o.trans (X.upd _));have HG2:=hid (HG.o.ext X);have HB2:=hid (X.heap HB.o);have HR2:=hid (X.heap HR.o);have HA:=hid ha;clear HU HG HB HR X b0;have HU:=HU2;have HG:=HG2;have HB:=HB2;have HR:=HR2;clear HU2 HG2 HB2 HR2;have b0:=cO HB.o 0;obtain⟨a0,a1,a2,a3,a4,a5,a6,a7,a8,a9,-⟩:=AC ha;clear ha;obtain⟨r0,r1,r2,r3,r4,r5,r6,r7,r8,r9,rf⟩:=AC HR.o;have HWE:=hid hW;have HAE:=hid hA;clear hW hA;go_wp2_with (rw[<-HWE.o,<-HAE.o]);clear HWE HAE;refine Aa (R:=w.heap.size+1) (w0:=W2) (Pr:=λ W=>bodyPost _ _ _ _ _ W) _ (Ao HR.o) (AX _ _ _ _ _ _ _ _ _ _ _ _) ?_;clear r0 r1 r2 r3 r4 r5 r6 r7 r8 r9 rf;intro W hR hU;obtain⟨r0,r1,r2,r3,r4,r5,r6,r7,r8,r9,-⟩:=AC hR;have HG9:=HG.o.upd hU (by simp;omega) (nobyte HR.o (by simp));have HU9:=HU.o.trans2 hU (λ i hi=> .inr (by simp at hi;omega));refine Ue (v:=RV.val _ (nN)) (by simp[RV.val,HEE.o,results,results234,go_sem,r0,r1,r2,r3,r4,r5,r6,r7,r8,r9]) rfl ⟨nN,rfl,AA.nil _ _ _,HG9,HU9⟩
 | @attr _ x y k m s hp hatt=>
  dsimp only at*;have hq:(e !=0)=false:=by simp[he]
  have HEE:=hid he;clear he;have HG2:=hid (show RdW _ g 0 (Dl x y k m s++[]) from by have:=HG.o;rcases hp with rfl|rfl|rfl<;>simpa [FW] using this);clear HG;have HG:=HG2;clear HG2;have HP:=hid hp;rcases hp with rfl|rfl|rfl
  all_goals
   go_wp2_with fail;obtain⟨W2,hW⟩:∃W,W=w1.alloc (.cells (rR e 0 0 0 0 0 (nN) 0 false (nN)) 142):=⟨_,rfl⟩;rw[<-hW];have ha:W2.heap[w1.heap.size]?=oC (rR e 0 0 0 0 0 (nN) 0 false (nN)) 142:=by rw[hW];exact Ub w1 _
   have X:Ext w1 W2:=by rw[hW];exact(Ext.refl _).alloc _
   have hz2:=X.size;obtain⟨A,hA⟩:∃A,A=w1.heap.size:=⟨_,rfl⟩;rw[<-hA] at ha|-
   have hal:=lH ha;have hAg:w.heap.size+1<A:=by omega
   have HU2:=hid (HU.o.trans (X.upd _));have HG2:=hid (HG.o.ext X);have HB2:=hid (X.heap HB.o);have HR2:=hid (X.heap HR.o);have HA:=hid ha;clear HU HG HB HR X b0 hW hA;have HU:=HU2;have HG:=HG2;have HB:=HB2;have HR:=HR2;clear HU2 HG2 HB2 HR2;have b0:=cO HB.o 0;obtain⟨a0,a1,a2,a3,a4,a5,a6,a7,a8,a9,af⟩:=AC ha;clear ha;have H:=hid (Se HG.o hatt);clear b0
   try unfold rdr at H
   refine H.o.mono ?_;rintro r w3 ⟨rfl,R,U⟩;have HU3:=hid (HU.o.trans U);have HG3:=hid R;have HB3:=hid (U.heap HB.o (by simp;omega));have HR3:=hid (U.heap HR.o (by simp;omega));have HA3:=hid (U.heap HA.o (by simp;omega));clear R U HU HG HB HR H HA;have HU:=HU3;have HG:=HG3;have HB:=HB3;have HR:=HR3;have HA:=HA3;clear HU3 HG3 HB3 HR3 HA3;have b0:=cO HB.o 0;have hbl3:=lH HB.o;clear a0 a1 a2 a3 a4 a5 a6 a7 a8 a9 af;obtain⟨c0,c1,c2,c3,c4,c5,c6,c7,c8,c9,cf⟩:=AC HA.o;obtain⟨W4,hW⟩:∃W,W=(((((w3.setCell (dD A 1) (iI x)).setCell (dD A 2) (iI y)).setCell (dD A 3) (iI k)).setCell (dD A 4) (iI m)).setCell (dD A 5) (iI s)):=⟨_,rfl⟩;have HWE:=hid hW;have U:Upd [A] w3 W4:=by rw[hW];exact(((((Upd.refl [A] w3).setCell _ _ (.inl (by simp))).setCell _ _ (.inl (by simp))).setCell _ _ (.inl (by simp))).setCell _ _ (.inl (by simp))).setCell _ _ (.inl (by simp))
   have ha:=HA.o;have HG2:=hid (HG.o.upd U (by simp;omega) (nobyte ha (by simp)))
   replace ha:=show _=some (Obj.cells #[iI e,(iI x),iI 0,iI 0,iI 0,iI 0,nN,iI 0,.bool false,nN] 142 (0,0)) from jP (i:=1) (iI x) ha
   replace ha:=show _=some (Obj.cells #[iI e,(iI x),(iI y),iI 0,iI 0,iI 0,nN,iI 0,.bool false,nN] 142 (0,0)) from jP (i:=2) (iI y) ha
   replace ha:=show _=some (Obj.cells #[iI e,(iI x),(iI y),(iI k),iI 0,iI 0,nN,iI 0,.bool false,nN] 142 (0,0)) from jP (i:=3) (iI k) ha
   replace ha:=show _=some (Obj.cells #[iI e,(iI x),(iI y),(iI k),(iI m),iI 0,nN,iI 0,.bool false,nN] 142 (0,0)) from jP (i:=4) (iI m) ha
   replace ha:=show _=some (Obj.cells #[iI e,(iI x),(iI y),(iI k),(iI m),(iI s),nN,iI 0,.bool false,nN] 142 (0,0)) from jP (i:=5) (iI s) ha
   rw[<-hW] at ha;have HU2:=hid (HU.o.trans2 U (λ i hi=> .inr (by simp at hi;omega)));have HB2:=hid (U.heap HB.o (by simp;omega));have HR2:=hid (U.heap HR.o (by simp;omega));have HA2:=hid ha;have hz4:=U.size;clear HU HG HB HR HA U hW b0;have HU:=HU2;have HG:=HG2;have HB:=HB2;have HR:=HR2;have HA:=HA2;clear HU2 HG2 HB2 HR2 HA2;have b0:=cO HB.o 0;obtain⟨a0,a1,a2,a3,a4,a5,a6,a7,a8,a9,-⟩:=AC ha;clear ha;obtain⟨r0,r1,r2,r3,r4,r5,r6,r7,r8,r9,rf⟩:=AC HR.o;go_wp2_with (rw[<-HWE.o]);clear HWE cf c0 c1 c2 c3 c4 c5 c6 c7 c8 c9;refine Aa (R:=w.heap.size+1) (w0:=W4) (Pr:=λ W=>bodyPost _ _ _ _ _ W) _ (Ao HR.o) (AX _ _ _ _ _ _ _ _ _ _ _ _) ?_;clear r0 r1 r2 r3 r4 r5 r6 r7 r8 r9 rf;intro W hR hU;obtain⟨r0,r1,r2,r3,r4,r5,r6,r7,r8,r9,-⟩:=AC hR;have HG9:=HG.o.upd hU (by simp;omega) (nobyte HR.o (by simp));have HU9:=HU.o.trans2 hU (λ i hi=> .inr (by simp at hi;omega));refine Ue (v:=RV.val _ (nN)) (by simp[RV.val,HEE.o,results,results234,go_sem,r0,r1,r2,r3,r4,r5,r6,r7,r8,r9]) rfl ⟨(nN),rfl,AA.nil _ _ _,HG9,HU9⟩
 | @read ds eof hl=>
  dsimp only at*;have hq:(e !=0)=false:=by simp[he]
  have HEE:=hid he;clear he;have HG2:=hid (show RdW _ g 0 (xt ds++(be4 (if eof then 1 else 0)++[])) from by have:=HG.o;simpa [FW] using this);clear HG;have HG:=HG2;clear HG2;go_wp2_with fail;obtain⟨W2,hW⟩:∃W,W=w1.alloc (.cells (rR e 0 0 0 0 0 (nN) 0 false (nN)) 142):=⟨_,rfl⟩;rw[<-hW];have ha:W2.heap[w1.heap.size]?=oC (rR e 0 0 0 0 0 (nN) 0 false (nN)) 142:=by rw[hW];exact Ub w1 _
  have X:Ext w1 W2:=by rw[hW];exact(Ext.refl _).alloc _
  have hz2:=X.size;obtain⟨A,hA⟩:∃A,A=w1.heap.size:=⟨_,rfl⟩;rw[<-hA] at ha|-
  have hal:=lH ha;have hAg:w.heap.size+1<A:=by omega
  have HU2:=hid (HU.o.trans (X.upd _));have HG2:=hid (HG.o.ext X);have HB2:=hid (X.heap HB.o);have HR2:=hid (X.heap HR.o);have HA:=hid ha;clear HU HG HB HR X b0 hW hA;have HU:=HU2;have HG:=HG2;have HB:=HB2;have HR:=HR2;clear HU2 HG2 HB2 HR2;have b0:=cO HB.o 0;obtain⟨a0,a1,a2,a3,a4,a5,a6,a7,a8,a9,af⟩:=AC ha;clear ha;have H:=hid (atext (most:=2048) HG.o hl (by omega));clear b0
  try unfold rdr at H
  refine H.o.mono ?_;rintro r w3 ⟨d,rfl,O,R,U⟩;have HU3:=hid (HU.o.trans U);have HG3:=hid R;have HB3:=hid (U.heap HB.o (by simp;omega));have HR3:=hid (U.heap HR.o (by simp;omega));have HA3:=hid (U.heap HA.o (by simp;omega));clear R U HU HG HB HR H HA;have HU:=HU3;have HG:=HG3;have HB:=HB3;have HR:=HR3;have HA:=HA3;clear HU3 HG3 HB3 HR3 HA3;have b0:=cO HB.o 0;have hbl3:=lH HB.o;obtain⟨da,dc,rfl,-,-⟩:=O.sl hwf;have HO:=hid O;clear O;clear a0 a1 a2 a3 a4 a5 a6 a7 a8 a9 af;have ha:=HA.o;obtain⟨a0,a1,a2,a3,a4,a5,a6,a7,a8,a9,af⟩:=AC ha;clear ha;go_wp2_with fail;clear a0 a1 a2 a3 a4 a5 a6 a7 a8 a9 af;obtain⟨W4,hW⟩:∃W,W=((w3.setCell (dD A 6) (.slice da ds.length dc)).setCell (dD A 7) (iI (ds.length:Int))):=⟨_,rfl⟩;rw[<-hW];have U:Upd [A] w3 W4:=by rw[hW];exact((Upd.refl [A] w3).setCell _ _ (.inl (by simp))).setCell _ _ (.inl (by simp))
  have ha:=HA.o;have HG2:=hid (HG.o.upd U (by simp;omega) (nobyte ha (by simp)))
  replace ha:=show _=some (Obj.cells (rR e 0 0 0 0 0 (.slice da ds.length dc) 0 false (nN)) 142 (0,0)) from jP (i:=6) (.slice da ds.length dc) ha
  replace ha:=show _=some (Obj.cells #[iI e,iI 0,iI 0,iI 0,iI 0,iI 0,(.slice da ds.length dc),(iI (ds.length:Int)),.bool false,nN] 142 (0,0)) from jP (i:=7) (iI (ds.length:Int)) ha
  rw[<-hW] at ha;have HU2:=hid (HU.o.trans2 U (λ i hi=> .inr (by simp at hi;omega)));have HB2:=hid (U.heap HB.o (by simp;omega));have HR2:=hid (U.heap HR.o (by simp;omega));have HA2:=hid ha;have hz4:=U.size;have HO2:=hid (HO.o.upd U (λ g' hg hm=>by have:=(HO.o.lt hg).1;simp at hm;omega));clear HO;have HO:=HO2;clear HO2;clear HU HG HB HR HA U hW b0;have HU:=HU2;have HG:=HG2;have HB:=HB2;have HR:=HR2;have HA:=HA2;clear HU2 HG2 HB2 HR2 HA2;have b0:=cO HB.o 0;obtain⟨a0,a1,a2,a3,a4,a5,a6,a7,a8,a9,af⟩:=AC ha;clear ha;have H:=hid (ayes HG.o);clear b0
  try unfold rdr at H
  refine H.o.mono ?_;rintro r w5 ⟨rfl,R,U⟩;have HU5:=hid (HU.o.trans U);have HG5:=hid R;have HB5:=hid (U.heap HB.o (by simp;omega));have HR5:=hid (U.heap HR.o (by simp;omega));have HA5:=hid (U.heap HA.o (by simp;omega));have HO5:=hid (HO.o.upd U (λ g' hg hm=>by have:=(HO.o.lt hg).1;simp at hm;omega));clear HO;have HO:=HO5;clear HO5;clear R U HU HG HB HR H HA;have HU:=HU5;have HG:=HG5;have HB:=HB5;have HR:=HR5;have HA:=HA5;clear HU5 HG5 HB5 HR5 HA5;have b0:=cO HB.o 0;have hbl5:=lH HB.o;clear a0 a1 a2 a3 a4 a5 a6 a7 a8 a9 af;obtain⟨c0,c1,c2,c3,c4,c5,c6,c7,c8,c9,cf⟩:=AC HA.o;obtain⟨W6,hW⟩:∃W,W=(w5.setCell (dD A 8) (.bool eof)):=⟨_,rfl⟩;have HWE:=hid hW;have U:Upd [A] w5 W6:=by rw[hW];exact(Upd.refl [A] w5).setCell _ _ (.inl (by simp))
  have ha:=HA.o;have HG2:=hid (HG.o.upd U (by simp;omega) (nobyte ha (by simp)))
  replace ha:=show _=some (Obj.cells #[iI e,iI 0,iI 0,iI 0,iI 0,iI 0,(.slice da ds.length dc),(iI (ds.length:Int)),(.bool eof),nN] 142 (0,0)) from jP (i:=8) (.bool eof) ha
  rw[<-hW] at ha;have HU2:=hid (HU.o.trans2 U (λ i hi=> .inr (by simp at hi;omega)));have HB2:=hid (U.heap HB.o (by simp;omega));have HR2:=hid (U.heap HR.o (by simp;omega));have HA2:=hid ha;have hz6:=U.size;have HO2:=hid (HO.o.upd U (λ g' hg hm=>by have:=(HO.o.lt hg).1;simp at hm;omega));clear HO;have HO:=HO2;clear HO2;clear HU HG HB HR HA U hW b0;have HU:=HU2;have HG:=HG2;have HB:=HB2;have HR:=HR2;have HA:=HA2;clear HU2 HG2 HB2 HR2 HA2;have b0:=cO HB.o 0;obtain⟨a0,a1,a2,a3,a4,a5,a6,a7,a8,a9,-⟩:=AC ha;clear ha;obtain⟨r0,r1,r2,r3,r4,r5,r6,r7,r8,r9,rf⟩:=AC HR.o;go_wp2_with (rw[<-HWE.o]);clear HWE cf c0 c1 c2 c3 c4 c5 c6 c7 c8 c9;refine Aa (R:=w.heap.size+1) (w0:=W6) (Pr:=λ W=>bodyPost _ _ _ _ _ W) _ (Ao HR.o) (AX _ _ _ _ _ _ _ _ _ _ _ _) ?_;clear r0 r1 r2 r3 r4 r5 r6 r7 r8 r9 rf;intro W hR hU;obtain⟨r0,r1,r2,r3,r4,r5,r6,r7,r8,r9,-⟩:=AC hR;have HG9:=HG.o.upd hU (by simp;omega) (nobyte HR.o (by simp));have HU9:=HU.o.trans2 hU (λ i hi=> .inr (by simp at hi;omega));refine Ue (v:=RV.val _ (.slice da ds.length dc)) (by simp[RV.val,HEE.o,results,results234,go_sem,r0,r1,r2,r3,r4,r5,r6,r7,r8,r9]) rfl ⟨(.slice da ds.length dc),rfl,(HO.o.upd hU (λ g' hg hm=>by have:=(HO.o.lt hg).1;simp at hm;omega)).low (by omega),HG9,HU9⟩
 | @write n x y k m s hn hatt=>
  dsimp only at*;have hq:(e !=0)=false:=by simp[he]
  have HEE:=hid he;clear he;unfold BK at hn;have HG2:=hid (show RdW _ g 0 (be4 n++(Dl x y k m s++[])) from by have:=HG.o;simpa [FW] using this);clear HG;have HG:=HG2;clear HG2;go_wp2_with fail;obtain⟨W2,hW⟩:∃W,W=w1.alloc (.cells (rR e 0 0 0 0 0 (nN) 0 false (nN)) 142):=⟨_,rfl⟩;rw[<-hW];have ha:W2.heap[w1.heap.size]?=oC (rR e 0 0 0 0 0 (nN) 0 false (nN)) 142:=by rw[hW];exact Ub w1 _
  have X:Ext w1 W2:=by rw[hW];exact(Ext.refl _).alloc _
  have hz2:=X.size;obtain⟨A,hA⟩:∃A,A=w1.heap.size:=⟨_,rfl⟩;rw[<-hA] at ha|-
  have hal:=lH ha;have hAg:w.heap.size+1<A:=by omega
  have HU2:=hid (HU.o.trans (X.upd _));have HG2:=hid (HG.o.ext X);have HB2:=hid (X.heap HB.o);have HR2:=hid (X.heap HR.o);have HA:=hid ha;clear HU HG HB HR X b0 hW hA;have HU:=HU2;have HG:=HG2;have HB:=HB2;have HR:=HR2;clear HU2 HG2 HB2 HR2;have b0:=cO HB.o 0;obtain⟨a0,a1,a2,a3,a4,a5,a6,a7,a8,a9,af⟩:=AC ha;clear ha;have H:=hid (DA HG.o hn.1 (by omega));clear b0
  try unfold rdr at H
  refine H.o.mono ?_;rintro r w3 ⟨rfl,R,U⟩;have HU3:=hid (HU.o.trans U);have HG3:=hid R;have HB3:=hid (U.heap HB.o (by simp;omega));have HR3:=hid (U.heap HR.o (by simp;omega));have HA3:=hid (U.heap HA.o (by simp;omega));clear R U HU HG HB HR H HA;have HU:=HU3;have HG:=HG3;have HB:=HB3;have HR:=HR3;have HA:=HA3;clear HU3 HG3 HB3 HR3 HA3;have b0:=cO HB.o 0;have hbl3:=lH HB.o;clear a0 a1 a2 a3 a4 a5 a6 a7 a8 a9 af;have ha:=HA.o;obtain⟨a0,a1,a2,a3,a4,a5,a6,a7,a8,a9,af⟩:=AC ha;clear ha;go_wp2_with fail;clear a0 a1 a2 a3 a4 a5 a6 a7 a8 a9 af;obtain⟨W4,hW⟩:∃W,W=(w3.setCell (dD A 7) (iI n)):=⟨_,rfl⟩;rw[<-hW];have U:Upd [A] w3 W4:=by rw[hW];exact(Upd.refl [A] w3).setCell _ _ (.inl (by simp))
  have ha:=HA.o;have HG2:=hid (HG.o.upd U (by simp;omega) (nobyte ha (by simp)))
  replace ha:=show _=some (Obj.cells #[iI e,iI 0,iI 0,iI 0,iI 0,iI 0,nN,(iI n),.bool false,nN] 142 (0,0)) from jP (i:=7) (iI n) ha
  rw[<-hW] at ha;have HU2:=hid (HU.o.trans2 U (λ i hi=> .inr (by simp at hi;omega)));have HB2:=hid (U.heap HB.o (by simp;omega));have HR2:=hid (U.heap HR.o (by simp;omega));have HA2:=hid ha;have hz4:=U.size;clear HU HG HB HR HA U hW b0;have HU:=HU2;have HG:=HG2;have HB:=HB2;have HR:=HR2;have HA:=HA2;clear HU2 HG2 HB2 HR2 HA2;have b0:=cO HB.o 0;obtain⟨a0,a1,a2,a3,a4,a5,a6,a7,a8,a9,af⟩:=AC ha;clear ha;go_wp2_with fail;have H:=hid (Se HG.o hatt);clear b0
  try unfold rdr at H
  refine H.o.mono ?_;rintro r w5 ⟨rfl,R,U⟩;have HU5:=hid (HU.o.trans U);have HG5:=hid R;have HB5:=hid (U.heap HB.o (by simp;omega));have HR5:=hid (U.heap HR.o (by simp;omega));have HA5:=hid (U.heap HA.o (by simp;omega));clear R U HU HG HB HR H HA;have HU:=HU5;have HG:=HG5;have HB:=HB5;have HR:=HR5;have HA:=HA5;clear HU5 HG5 HB5 HR5 HA5;have b0:=cO HB.o 0;have hbl5:=lH HB.o;clear a0 a1 a2 a3 a4 a5 a6 a7 a8 a9 af;obtain⟨c0,c1,c2,c3,c4,c5,c6,c7,c8,c9,cf⟩:=AC HA.o;obtain⟨W6,hW⟩:∃W,W=(((((w5.setCell (dD A 1) (iI x)).setCell (dD A 2) (iI y)).setCell (dD A 3) (iI k)).setCell (dD A 4) (iI m)).setCell (dD A 5) (iI s)):=⟨_,rfl⟩;have HWE:=hid hW;have U:Upd [A] w5 W6:=by rw[hW];exact(((((Upd.refl [A] w5).setCell _ _ (.inl (by simp))).setCell _ _ (.inl (by simp))).setCell _ _ (.inl (by simp))).setCell _ _ (.inl (by simp))).setCell _ _ (.inl (by simp))
  have ha:=HA.o;have HG2:=hid (HG.o.upd U (by simp;omega) (nobyte ha (by simp)))
  replace ha:=show _=some (Obj.cells #[iI e,(iI x),iI 0,iI 0,iI 0,iI 0,nN,(iI n),.bool false,nN] 142 (0,0)) from jP (i:=1) (iI x) ha
  replace ha:=show _=some (Obj.cells #[iI e,(iI x),(iI y),iI 0,iI 0,iI 0,nN,(iI n),.bool false,nN] 142 (0,0)) from jP (i:=2) (iI y) ha
  replace ha:=show _=some (Obj.cells #[iI e,(iI x),(iI y),(iI k),iI 0,iI 0,nN,(iI n),.bool false,nN] 142 (0,0)) from jP (i:=3) (iI k) ha
  replace ha:=show _=some (Obj.cells #[iI e,(iI x),(iI y),(iI k),(iI m),iI 0,nN,(iI n),.bool false,nN] 142 (0,0)) from jP (i:=4) (iI m) ha
  replace ha:=show _=some (Obj.cells #[iI e,(iI x),(iI y),(iI k),(iI m),(iI s),nN,(iI n),.bool false,nN] 142 (0,0)) from jP (i:=5) (iI s) ha
  rw[<-hW] at ha;have HU2:=hid (HU.o.trans2 U (λ i hi=> .inr (by simp at hi;omega)));have HB2:=hid (U.heap HB.o (by simp;omega));have HR2:=hid (U.heap HR.o (by simp;omega));have HA2:=hid ha;have hz6:=U.size;clear HU HG HB HR HA U hW b0;have HU:=HU2;have HG:=HG2;have HB:=HB2;have HR:=HR2;have HA:=HA2;clear HU2 HG2 HB2 HR2 HA2;have b0:=cO HB.o 0;obtain⟨a0,a1,a2,a3,a4,a5,a6,a7,a8,a9,-⟩:=AC ha;clear ha;obtain⟨r0,r1,r2,r3,r4,r5,r6,r7,r8,r9,rf⟩:=AC HR.o;go_wp2_with (rw[<-HWE.o]);clear HWE cf c0 c1 c2 c3 c4 c5 c6 c7 c8 c9;refine Aa (R:=w.heap.size+1) (w0:=W6) (Pr:=λ W=>bodyPost _ _ _ _ _ W) _ (Ao HR.o) (AX _ _ _ _ _ _ _ _ _ _ _ _) ?_;clear r0 r1 r2 r3 r4 r5 r6 r7 r8 r9 rf;intro W hR hU;obtain⟨r0,r1,r2,r3,r4,r5,r6,r7,r8,r9,-⟩:=AC hR;have HG9:=HG.o.upd hU (by simp;omega) (nobyte HR.o (by simp));have HU9:=HU.o.trans2 hU (λ i hi=> .inr (by simp at hi;omega));refine Ue (v:=RV.val _ (nN)) (by simp[RV.val,HEE.o,results,results234,go_sem,r0,r1,r2,r3,r4,r5,r6,r7,r8,r9]) rfl ⟨(nN),rfl,AA.nil _ _ _,HG9,HU9⟩
theorem KF (p q:Addr) (w:World):
  CallsD prog 231 #[.pointer (some p),.pointer (some q)] .returning w λ e u' w'=>e= .returned (.tuple #[])/\u'= .returning/\w'=w:=by
 refine callsD_of_wpS func231 rfl λ c₀ cs hu=> ?_
 apply wpS_seq;apply wpS_region;simp[wpOpsS,go_sem,recoverD,hu,ntmps231,Exit.thenS];apply wpS_seq;apply wpS_seq;apply wpS_region;simp[wpOpsS,go_sem,Exit.thenS,Array.replicate];refine wpS_cond (t:=true) (by simp[Act.eval,Array.replicate]) ?_;simp only[if_true];refine wpS_of_wp (wp_ret ?_);cases c₀
 simp_all [bodyPostS,Exit.thenS,results,results231,go_sem]
theorem Sp {R E:Nat} {Pr:World->Prop} {w0:World} (cs ce:Array Value) {t u:TypeId} (hR:w.heap[R]?=oC cs t) (hE:w.heap[E]?=oC ce u) (hU:Upd [R,E] w0 w) (h:∀W,W.heap[R]?=oC cs t->W.heap[E]?=oC ce u->Upd [R,E] w0 W->Pr W):Pr w:=h w hR hE hU
theorem DN (h:BH p r ds):(Bz p r ds).length<=4000:=by
 have h1:∀n:Int,(be4 n).length=4:=λ n=>rfl
 have h2:∀x y k m s:Int,(Dl x y k m s).length=20:=λ _ _ _ _ _=>rfl
 cases h with
 |err=>decide
 |none=>decide
 |attr hp ha=>rcases hp with rfl|rfl|rfl<;>(simp only[Bz,FW,Uc,h1];simp[h2])
 | @read ds eof hl=>
  have:=Iz ds.length;simp only[Bz,FW,if_true,Uc,h1,G9];omega
 |write hn ha=>
  simp only[Bz,FW,Uc,h1];simp[h1,h2]
theorem M0 (ok:BH p rv ds) (hwf:Wf ds) (hv:Sl w v (Bz p rv ds)) (ht:Aw w):
  Calls prog 147 #[iI p,v] w λ r w'=>∃d,r= .returned (.tuple #[rv.val d,iI 0])/\AA w' w.heap.size 5 d (bv ds)/\Ext w w':=by
 have hlen:=DN ok;obtain⟨va,vc,rfl,q1,q2⟩:=hv;have HV:=hid (λ W (hx:Ext w W)=>EC va _ vc _ (show(Bz p rv ds).length<=1000000 by omega) W (q1.ext hx) q2.nil0);obtain⟨nv,hnv⟩:∃nv,nv=(Bz p rv ds).length:=⟨_,rfl⟩;rw[<-hnv] at HV|-
 have HK:=hid (λ W=>Gh ok.proc W);have HO:=hid ok;have HWf:=hid hwf;have HT:=hid ht;have hti:1<w.heap.size:=by obtain⟨t,fr,h⟩:=ht;exact lH h
 obtain⟨W0,hW0⟩:∃W,W=(w.alloc (.cells rZ 142)).alloc (.cells #[iI 0] 47):=⟨_,rfl⟩;obtain⟨hr,he,X0⟩:=AH w (.cells rZ 142) (.cells #[iI 0] 47);rw[<-hW0] at hr he X0;have HX0:=hid X0;have HR0:=hid hr;have HE0:=hid he;have hel:=lH he;clear hnv q1 q2 hlen ok hwf ht hr he X0;go_enter_defers func147,ntmps147;go_wp2_with fail;rw[<-hW0];clear hW0;refine(HK.o _).mono ?_;rintro r w1 ⟨rfl,X1⟩;have HX1:=hid (HX0.o.trans X1);have HR1:=hid (X1.heap HR0.o);have HE1:=hid (X1.heap HE0.o);have hz1:=X1.size;clear X1;go_wp2_with fail;refine(HV.o _ HX1.o).mono ?_;rintro r w2 ⟨rg,rfl,R2,hrg,X2⟩;have HX2:=hid (HX1.o.trans X2);have HR2:=hid (X2.heap HR1.o);have HE2:=hid (X2.heap HE1.o);have HG2:=hid R2;have hrl:=R2.lt;clear X2 R2;go_wp2_with fail;obtain⟨W3,hW3⟩:∃W,W=w2.alloc (.cells #[pP rg 0] 349):=⟨_,rfl⟩;rw[<-hW3];have X3:Ext w2 W3:=by rw[hW3];exact(Ext.refl _).alloc _
 have hb:W3.heap[w2.heap.size]?=oC #[pP rg 0] 349:=by rw[hW3];exact Ub w2 _
 have hbl:=lH hb;have HB3:=hid hb;have b0:=cO hb 0;have HX3:=hid (HX2.o.trans X3);have HR3:=hid (X3.heap HR2.o);have HE3:=hid (X3.heap HE2.o);have HS:=hid (ares HO.o HWf.o (HG2.o.ext X3) (HT.o.ext HX3.o) (by omega));clear hW3 X3 hb;go_wp2_with fail;unfold rdr at HS;refine HS.o.mono ?_;rintro r w4 ⟨d,rfl,O4,R4,U4⟩;obtain⟨xa,xc,rfl,-,-⟩:=O4.sl HWf.o;obtain⟨m,hm⟩:∃m,m=ds.length:=⟨_,rfl⟩;rw[<-hm] at O4|-
 clear hm;have HX4:=hid (U4.ext HX3.o (by simp;omega));have HR4:=hid (U4.heap HR3.o (by simp;omega));have HE4:=hid (U4.heap HE3.o (by simp;omega));have HB4:=hid (U4.heap HB3.o (by simp;omega));have O4':AA w4 W3.heap.size 5 (.slice xa m xc) (bv ds):=O4;have HO4:=hid O4;have HG4:=hid R4;clear b0 O4 R4 U4;have HMay:=hid (λ W (hx:Ext w4 W)=>LQ HO.o ((O4'.sl HWf.o).ext hx) (HT.o.ext (HX4.o.trans hx)));clear O4';dsimp only[RV.val] at HMay|-
 obtain⟨W5,hW5⟩:∃W,W=w4.alloc (.cells (rv.cells (.slice xa m xc)) 142):=⟨_,rfl⟩;unfold RV.cells at hW5;have X5:Ext w4 W5:=by rw[hW5];exact(Ext.refl _).alloc _
 have h5:W5.heap[w4.heap.size]?=oC (rv.cells (.slice xa m xc)) 142:=by rw[hW5];exact Ub w4 _
 have HQ5:=hid h5;have HX5:=hid X5;have HB5:=hid (X5.heap HB4.o);have HR5:=hid (X5.heap HR4.o);have HE5:=hid (X5.heap HE4.o);have HG5:=hid (HG4.o.ext X5);have b0:=cO HB5.o 0;have HW5:=hid hW5;unfold RV.cells at h5;obtain⟨q0,q1,q2,q3,q4,q5,q6,q7,q8,q9,-⟩:=AC h5;clear X5 h5 hW5;go_wp2_with (rw[<-HW5.o]);clear HW5;refine(xend HG5.o).mono ?_;rintro r w6 ⟨rfl,rfl⟩;go_wp2_with fail;refine(ES _).mono ?_;rintro r w6 ⟨rfl,rfl⟩;go_wp2_with fail;refine(HMay.o _ HX5.o).mono ?_;rintro r w6 ⟨rfl,X6⟩;have hq:=X6.heap HQ5.o;unfold RV.cells at hq;have HR6:=hid (X6.heap HR5.o);have HE6:=hid (X6.heap HE5.o);have HX6:=hid (HX4.o.trans (HX5.o.trans X6));have HY6:=hid (HX5.o.trans X6);clear q0 q1 q2 q3 q4 q5 q6 q7 q8 q9 b0 X6;obtain⟨q0,q1,q2,q3,q4,q5,q6,q7,q8,q9,-⟩:=AC hq;obtain⟨r0,r1,r2,r3,r4,r5,r6,r7,r8,r9,rf⟩:=AC HR6.o;have e0:=cA HE6.o 0 rfl;have ef:=fO HE6.o;clear hq;go_wp2_with fail;refine Sp (R:=w.heap.size) (E:=w.heap.size+1) (w0:=w6) (Pr:=λ W=>bodyPostD _ _ _ _ _ W) _ _ ((heap_setCell_other _ _ _ _ (show w.heap.size≠w.heap.size+1 by omega)).trans (Ao HR6.o)) (jP (i:=0) _ ((AX _ _ _ _ _ _ _ _ _ _ _ _).heap HE6.o (by simp))) (((AX _ _ _ _ _ _ _ _ _ _ _ _).mono (by simp)).setCell _ _ (.inl (by simp))) ?_;clear r0 r1 r2 r3 r4 r5 r6 r7 r8 r9 rf e0 ef q0 q1 q2 q3 q4 q5 q6 q7 q8 q9;intro W hR hE hU;obtain⟨r0,r1,r2,r3,r4,r5,r6,r7,r8,r9,-⟩:=AC hR;have e0:=cA hE 0 rfl;refine leaves_cons (f:=231) (args:= #[pP w.heap.size 0,pP (w.heap.size+1) 0]) (by simp) (by simp[go_sem]) ?_
 refine(KF _ _ _).mono ?_;rintro e u' w'' ⟨rfl,rfl,rfl⟩;have hO:=(HO4.o.ext HY6.o).upd hU (λ g' hg hm=>by have:=((HO4.o.ext HY6.o).lt hg).1;simp at hm;omega);refine⟨.tuple #[rv.val (.slice xa m xc),iI 0],?_,_,rfl,hO.low (by omega),hU.ext HX6.o (by simp)⟩;simp[RV.val,results,results147,go_sem,r0,r1,r2,r3,r4,r5,r6,r7,r8,r9,e0]
abbrev TY:Go.Conc.Locks.MuLink:={lock:=142,unlock:=143,ilock:=221,iunlock:=222,lockSlow:=306,unlockSlow:=309,disable:=302,enable:=304,acquire:=305,relMerge:=307,cas32:=303,add32:=308,tMutex:=89,tIMutex:=87,tPMutex:=335,tPIMutex:=406,tPI32:=408,tUP:=251,tNoCopy:=85,tU32:=22}
theorem SQ:Go.Conc.Locks.MuLib prog TY:=
 ⟨func142,func143,func221,func222,func302,func304,func305,func307,func303,func308,
  underlying87,runUnderlying87,sizeOf87,isAgg87,zeroValue87,underlying89,runUnderlying89,sizeOf89,isAgg89,zeroValue89,
  underlying335,runUnderlying335,sizeOf335,isAgg335,zeroValue335,underlying406,runUnderlying406,sizeOf406,isAgg406,zeroValue406,
  underlying408,runUnderlying408,sizeOf408,isAgg408,zeroValue408,underlying251,runUnderlying251,sizeOf251,isAgg251,zeroValue251,
  underlying85,runUnderlying85,sizeOf85,isAgg85,zeroValue85,underlying21,runUnderlying21,sizeOf21,isAgg21,zeroValue21,(by kernel_rfl)⟩
structure CP (a:AV) (ds:List Int):Prop where
 p:a.proc=1\/a.proc=3\/a.proc=6\/a.proc=7\/a.proc=8\/a.proc=14
 ok:a.Ok ds
 wf:Wf ds
 got:AV.got {proc:=a.proc} a (AD a.proc)=a
 gotD:gotD [] ds (AD a.proc)=ds
 cnt:a.count<=2048
def Pv (fb room nodes:Nat) (st st':Option AE) (a:AV) (ds:List Int) (rv:RV) (zs:List Int):Prop:=
 ∀w F d,FsW fb room nodes st w F->Sl w d ds->Calls prog 230 #[pP fb 0,a.val d] w λ r w'=>∃v,r= .returned (rv.val v)/\AA w' w.heap.size 5 v (bv zs)/\∃F',FsW fb room nodes st' w' F'/\Mv w w' F F'
def Ps (sb fb:Nat) (n:Int) (w:World):Prop:=w.heap[sb]?=oC #[pP fb 0,.int .i32 0,.int .u32 0,iI n] 91
theorem Ks {sb fb room nodes:Nat} {x1 x2 x3:Value} {st st':Option AE} {a:AV} (ok:CP a ds) (hdo:Pv fb room nodes st st' a ds rv zs) (hwf:Wf zs) {F:List Nat} (hF:FsW fb room nodes st w F) (hs:w.heap[sb]?=oC #[pP fb 0,x1,x2,x3] 91) (hv:Sl w v (a.lay ds (AD a.proc))):
  Calls prog 145 #[pP sb 0,iI a.proc,v] w λ r w'=>∃d,r= .returned (rv.val d)/\AA w' w.heap.size 5 d (bv zs)/\∃F',FsW fb room nodes st' w' F'/\Mv w w' F F':=by
 obtain⟨W0,hW0⟩:∃W,W=w.alloc (.cells rZ 142):=⟨_,rfl⟩;have hr:W0.heap[w.heap.size]?=oC rZ 142:=by rw[hW0];exact Ub w _
 have X0:Ext w W0:=by rw[hW0];exact(Ext.refl w).alloc _
 have HX0:=hid X0;have HR0:=hid hr;have HS0:=hid (X0.heap hs);have hrl:=lH hr;have HC:=hid (Ms ok.p ok.ok ok.wf ok.got ok.gotD (hv.ext X0));have HW:=hid hwf;have HF:=hid hF;have HD:=hid hdo;have HK:=hid ok;clear hr X0 hs hv hwf hF hdo ok;go_in;go_wp2_with fail;rw[<-hW0];clear hW0;refine HC.o.mono ?_;rintro r w1 ⟨d,rfl,O1,X1⟩;obtain⟨da,dc,rfl,-,-⟩:=O1.sl HK.o.wf;obtain⟨m,hm⟩:∃m,m=ds.length:=⟨_,rfl⟩;rw[<-hm] at O1|-
 clear hm;have HO1:=hid O1;have HX1:=hid (HX0.o.trans X1);have HR1:=hid (X1.heap HR0.o);have HS1:=hid (X1.heap HS0.o);have hz1:=X1.size;dsimp only[AV.val];obtain⟨W2,hW2⟩:∃W,W=w1.alloc (.cells (a.cells (.slice da m dc)) 137):=⟨_,rfl⟩;unfold AV.cells at hW2;have X2:Ext w1 W2:=by rw[hW2];exact(Ext.refl _).alloc _
 have h2:W2.heap[w1.heap.size]?=oC (a.cells (.slice da m dc)) 137:=by rw[hW2];exact Ub w1 _
 have HX2:=hid (HX1.o.trans X2);have HA2:=hid h2;have HR2:=hid (X2.heap HR1.o);have HS2:=hid (X2.heap HS1.o);have hal:=lH h2;unfold AV.cells at h2;obtain⟨a0,a1,a2,a3,a4,a5,a6,a7,a8,a9,a10,a11,-⟩:=CM h2;have s0:=cA HS2.o 0 rfl;have HW2:=hid hW2;clear O1 X1 X2 h2 hW2;have hFl:∀b∈F,b<w.heap.size:=λ b hb=>(FsW.loc _ _ _ _).1 _ _ HF.o b hb
 have hRF:w.heap.size∉F:=λ hb=>absurd (hFl _ hb) (by omega)
 have HDD:=hid (show∀W,Ext W2 W->_ from λ W hx=>HD.o W F _ (HF.o.ext (HX2.o.trans hx)) (((HO1.o.sl HK.o.wf).ext (by rw[HW2.o];exact(Ext.refl _).alloc _)).ext hx));have q16:(a.proc==16)=false:=by have:=HK.o.p;simp;omega
 by_cases h6:a.proc=6
 ·have q6:(a.proc==6)=true:=by simp[h6]
  have af:=fO HA2.o;have hcn:=HK.o.cnt;clear h6;go_wp2_with (rw[<-HW2.o]);have hmn:min a.count 2048=a.count:=by omega
  rw[hmn];obtain⟨W3,hW3⟩:∃W,W=W2.setCell (dD w1.heap.size 2) (iI a.count):=⟨_,rfl⟩;rw[<-hW3];have U3:Upd [w1.heap.size] W2 W3:=by rw[hW3];exact(Upd.refl _ _).setCell _ _ (.inl (by simp))
  have X3:Ext w1 W3:=U3.ext (show Ext w1 W2 by rw[HW2.o];exact(Ext.refl _).alloc _) (by simp);have h3:W3.heap[w1.heap.size]?=oC (a.cells (.slice da m dc)) 137:=by rw[hW3];exact jP (i:=2) (iI a.count) HA2.o
  have HXW:=hid (HX1.o.trans X3);have HR3:=hid (X3.heap HR1.o);have HS3:=hid (X3.heap HS1.o);have hz3:=U3.size;have HDD3:=hid (show∀W,Ext W3 W->_ from λ W hx=>HD.o W F _ (HF.o.ext (HXW.o.trans hx)) (((HO1.o.sl HK.o.wf).ext X3).ext hx));unfold AV.cells at h3;clear a0 a1 a2 a3 a4 a5 a6 a7 a8 a9 a10 a11 af s0 hW3 U3 X3 hmn;obtain⟨a0,a1,a2,a3,a4,a5,a6,a7,a8,a9,a10,a11,-⟩:=CM h3;have s0:=cA HS3.o 0 rfl;clear h3;go_region_with (go_at_call 230;refine(HDD3.o _ (dE _)).mono ?_;rintro r w5 ⟨v5,rfl,O5,F',hF',M5⟩;obtain⟨va,vc,rfl,-,-⟩:=O5.sl HW.o;obtain⟨n,hn⟩:∃n,n=zs.length:=⟨_,rfl⟩;rw[<-hn] at O5|-;have HN:=hid hn;clear hn;have HR5:=hid (M5.1.heap HR3.o hRF);have HO5:=hid O5;have HF5:=hid hF';have HM5:=hid M5;obtain⟨r0,r1,r2,r3,r4,r5,r6,r7,r8,r9,rf⟩:=AC HR5.o;have hrs:=lH HR5.o;clear O5 hF' M5;dsimp only[RV.val])
  all_goals
   refine Aa (R:=w.heap.size) (w0:=w5) (Pr:=λ W=>Exit.then _ _ _ _ W) _ (Ao HR5.o) (AX _ _ _ _ _ _ _ _ _ _ _ _) ?_;clear r0 r1 r2 r3 r4 r5 r6 r7 r8 r9 rf;intro W hR hU;obtain⟨r0,r1,r2,r3,r4,r5,r6,r7,r8,r9,-⟩:=AC hR;have hF:=HF5.o;have qR:∀b∈F',b∉[w.heap.size]:=λ b hb hm=>by
    simp only[List.mem_singleton] at hm;rcases HM5.o.2 b hb with k|k
    ·exact hRF (hm▸k)
    ·have k:W3.heap.size<=b:=k;omega
   have M:=(Mv.of_ext (HXW.o.trans (dE _)) F).trans HM5.o;go_wp2_with fail;refine Ue (v:=rv.val (.slice va n vc)) (by simp[RV.val,results,results145,go_sem,r0,r1,r2,r3,r4,r5,r6,r7,r8,r9]) rfl ⟨.slice va n vc,rfl,?_,F',(FsW.loc _ _ _ _).2 _ _ _ _ hF hU qR,M.1.trans2 hU (λ i hi=> .inr (by simp at hi;omega)),M.2⟩;exact(HO5.o.upd hU (λ g' hg hm=>by have:=(HO5.o.lt hg).1;have:W3.heap.size<=g':=this;simp at hm;omega)).low (show w.heap.size<=W3.heap.size by omega)
 ·have q6:(a.proc==6)=false:=by simp[h6]
  have HR3:=HR2;have HXW:=HX2;clear h6;go_wp2_with (rw[<-HW2.o]);go_region_with (go_at_call 230;refine(HDD.o _ (dE _)).mono ?_;rintro r w5 ⟨v5,rfl,O5,F',hF',M5⟩;obtain⟨va,vc,rfl,-,-⟩:=O5.sl HW.o;obtain⟨n,hn⟩:∃n,n=zs.length:=⟨_,rfl⟩;rw[<-hn] at O5|-;have HN:=hid hn;clear hn;have HR5:=hid (M5.1.heap HR3.o hRF);have HO5:=hid O5;have HF5:=hid hF';have HM5:=hid M5;obtain⟨r0,r1,r2,r3,r4,r5,r6,r7,r8,r9,rf⟩:=AC HR5.o;have hrs:=lH HR5.o;clear O5 hF' M5;dsimp only[RV.val])
  all_goals
   refine Aa (R:=w.heap.size) (w0:=w5) (Pr:=λ W=>Exit.then _ _ _ _ W) _ (Ao HR5.o) (AX _ _ _ _ _ _ _ _ _ _ _ _) ?_;clear r0 r1 r2 r3 r4 r5 r6 r7 r8 r9 rf;intro W hR hU;obtain⟨r0,r1,r2,r3,r4,r5,r6,r7,r8,r9,-⟩:=AC hR;have hF:=HF5.o;have qR:∀b∈F',b∉[w.heap.size]:=λ b hb hm=>by
    simp only[List.mem_singleton] at hm;rcases HM5.o.2 b hb with k|k
    ·exact hRF (hm▸k)
    ·have k:W2.heap.size<=b:=k;omega
   have M:=(Mv.of_ext (HXW.o.trans (dE _)) F).trans HM5.o;go_wp2_with fail;refine Ue (v:=rv.val (.slice va n vc)) (by simp[RV.val,results,results145,go_sem,r0,r1,r2,r3,r4,r5,r6,r7,r8,r9]) rfl ⟨.slice va n vc,rfl,?_,F',(FsW.loc _ _ _ _).2 _ _ _ _ hF hU qR,M.1.trans2 hU (λ i hi=> .inr (by simp at hi;omega)),M.2⟩;exact(HO5.o.upd hU (λ g' hg hm=>by have:=(HO5.o.lt hg).1;have:W2.heap.size<=g':=this;simp at hm;omega)).low (show w.heap.size<=W2.heap.size by omega)
theorem VX (r:Bool) (x p:Int) (zs:List Int):(Aj r x p zs).drop (if r then 16 else 24)=zs:=by cases r<;>simp[Aj,Ds,Bi,be4]
theorem C5 (r:Bool) (x p:Int) (zs:List Int):(Aj r x p zs).length<=zs.length+24:=by cases r<;>simp[Aj,Ds,Bi,be4]<;>omega
theorem Gx {r:Bool} (hx:0<=x/\x<4294967296) (hp:0<=p/\p<4294967296) (h:Wf zs):Wf (Aj r x p zs):=by
 have a:=BL x hx.1 hx.2;have b:=BL p hp.1 hp.2;have c:=λ n h1 h2=>BL n h1 h2
 cases r with
 |true=>exact(show Wf ((be4 x++(be4 1++(be4 0++(be4 p++[]))))++zs) from(a.app ((c 1 (by omega) (by omega)).app ((c 0 (by omega) (by omega)).app (b.app Wf.nil)))).app h)
 |false=>exact(show Wf ((be4 x++(be4 0++(be4 2++(be4 536870913++(be4 1++(be4 p++[]))))))++zs) from(a.app ((c 0 (by omega) (by omega)).app ((c 2 (by omega) (by omega)).app ((c 536870913 (by omega) (by omega)).app ((c 1 (by omega) (by omega)).app (b.app Wf.nil)))))).app h)
theorem SR {r:Bool} (hx:0<=x/\x<4294967296) (hp:0<=p/\p<4294967296) (hl:zs.length<=50000) (h:Sl w v (Aj r x p zs)):
  Calls prog 139 #[v] w λ e w'=>∃b,e= .returned (.tuple #[.agg #[.bool r,.int .u32 x,.int .u32 p,b],.nilIface])/\AA w' w.heap.size 5 b (bv zs)/\Ext w w':=by
 obtain⟨a,c,rfl,h1,h2⟩:=h;exact VO hx hp rfl rfl (VX r x p zs) (by have:=C5 r x p zs;omega) (by cases r<;>simp[Aj,Ds,Bi,be4]) h1 h2
theorem OE (r:Bool) (hx:0<=x/\x<4294967296) (hp:0<=p/\p<4294967296) (hl:zs.length<=50000) (h:Sl w v zs):
  Calls prog 47 #[.agg #[.bool r,.int .u32 x,.int .u32 p,v]] w λ e w'=>∃d,e= .returned d/\AA w' w.heap.size 5 d (bv (Aj r x p zs))/\Ext w w':=by
 obtain⟨a,c,rfl,h1,h2⟩:=h;exact Lt r x p hx hp a _ c zs (by omega) w h1 h2
end Go.Proofs.YtdakioiagpkfhaaGreatDoor
