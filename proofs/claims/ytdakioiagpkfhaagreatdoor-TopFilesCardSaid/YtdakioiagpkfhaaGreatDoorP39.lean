import Derived.Test.YtdakioiagpkfhaaGreatDoorP38
import Derived.Great.Walk
set_option maxRecDepth 99999
set_option maxHeartbeats 0
set_option linter.all false
namespace Go.Proofs.YtdakioiagpkfhaaGreatDoor
open RowKit Great
open Go.Proofs.Tryz
variable {B dv qv v:Value} {P:Program} {V w w':World} {a:Act} {all ds zs:List Int} {base dc dn qc qn rb:Nat} {code count iounit path tag ver:Int} {da qa:Option Addr} {dir:Bool} {full row:Array Value} {o:Option QI} {od:Option (List Int)} {s:ByteArray} {t:TV}
structure KO (w:World) (B:Nat) (row full:Array Value) (V:World):Prop where
 x:V.heap[B]?=oC row 39
 a:V.heap[w.heap.size]?=oC full 39
 r:V.heap[w.heap.size+1]?=oC tZ 39
 u:Upd [] w V
 b:w.heap.size+2<=B
theorem KO.ext {V':World} {B:Nat} (h:KO w B row full V) (X:Ext V V'):KO w B row full V':=
 ⟨X.heap h.x,X.heap h.a,X.heap h.r,h.u.trans (X.upd []),h.b⟩
theorem KO.set {B:Nat} (h:KO w B row full V) (i:Nat) (v:Value):KO w B (row.setIfInBounds i v) full (V.setCell (dD B i) v):=by
 have hU:Upd [B] V (V.setCell (dD B i) v):=(Upd.refl _ _).setCell _ _ (.inl (by simp));have hb:=h.b;exact⟨jP (i:=i) _ h.x,hU.heap h.a (by simp;omega),hU.heap h.r (by simp;omega),h.u.trans2 hU (λ b hb=>by simp at hb;omega),hb⟩
def okL (s:ByteArray) (code iounit count ver path:Int) (dir:Bool) (qa:Option Addr) (qn qc:Nat) (da:Option Addr) (dn dc:Nat):Bool:=
 !DH s 122&&(!DH s 115&&((DH s 113|| !dir&&ver==0&&path==0)&&((DH s 101||code==0)&&((DH s 108||qa.isNone&&qn==0&&qc==0)&&((DH s 105||iounit==0)&&((DH s 100||da.isNone&&dn==0&&dc==0)&&(DH s 99||count==0)))))))
theorem EG {k:Int} (hk:okL s code iounit count ver path dir qa qn qc da dn dc=true) (h100:s.size<=100) (H:∀w,Calls prog 26 #[iI k] w λ r w'=>r= .returned (.string s)/\Ext w w') (w:World):
  Calls prog 55 #[.agg (tT k tag code iounit count dir ver path (.slice qa qn qc) (.slice da dn dc))] w λ r w'=>r= .returned (.agg (tT k tag code iounit count dir ver path (.slice qa qn qc) (.slice da dn dc)))/\Upd [] w w':=by
 have HH:=hid (λ c w=>has18 (c:=c) h100 H w);simp only[okL,Bool.and_eq_true,Bool.or_eq_true,Bool.not_eq_true',beq_iff_eq,Option.isNone_iff_eq_none] at hk;obtain⟨hz,hs,hq,he,hl,hi,hd,hc⟩:=hk;obtain⟨W2,hW2⟩:∃W,W=((w.alloc (.cells (tT k tag code iounit count dir ver path (.slice qa qn qc) (.slice da dn dc)) 39)).alloc (.cells tZ 39)):=⟨_,rfl⟩;obtain⟨hA0,hR0,X0⟩:=AH w (.cells (tT k tag code iounit count dir ver path (.slice qa qn qc) (.slice da dn dc)) 39) (.cells tZ 39);rw[<-hW2] at hA0 hR0 X0;have hz2:w.heap.size+2<=W2.heap.size:=by rw[hW2];simp
 have a0:=cO hA0 0;have a1:=cO hA0 1;have HA0:=hid hA0;have HR0:=hid hR0;have HE0:=hid X0;have HW:=hid hW2;clear hA0 hR0 X0 hW2 H;go_in;go_upto_region 1 with(rw[<-HW.o]);go_upto_region 2 with fail;refine wp_region_lit ?_;refine wpList_runTo rfl _ rfl (iI k) W2 (by go_simp) ?_;refine wpList_runTo rfl _ rfl (pP w.heap.size 1) W2 (by go_simp) ?_;refine wpList_runTo rfl _ rfl (iI tag) W2 (by go_simp) ?_;refine wpList_runTo rfl _ rfl (.agg (tT k tag 0 0 0 false 0 0 (nN) (nN))) W2 (by go_simp) ?_;refine wpList_runTo rfl _ rfl (pP W2.heap.size 0) (W2.alloc (.cells tZ 39)) (by go_simp) ?_;refine AZ rfl rfl _ _ _ rfl (tT k tag 0 0 0 false 0 0 (nN) (nN)) rfl rfl iT rfl (by simp[Value.oneCell']) ?_;intro V0 hX hE;refine wpList_nil ?_;have K:=hid (KO.mk hX (hE.heap HA0.o) (hE.heap HR0.o) ((HE0.o.trans hE).upd _) hz2)
 clear hX hE a0 a1;go_wp2_with fail;refine(HH.o 122 _).mono ?_;rintro r V1 ⟨rfl,X⟩;rw[hz]
 replace K:=hid (K.o.ext X)
 clear X;go_wp2_with fail;refine(HH.o 113 _).mono ?_;rintro r Vq ⟨rfl,X⟩
 replace K:=hid (K.o.ext X)
 clear X;go_upto_if 20 with fail;go_cut [1,2,3,4] (λ v1 v2 v3 v4 wx=>v1= pP w.heap.size 0/\v2= pP (w.heap.size+1) 0/\v3= iI k/\v4= pP W2.heap.size 0/\KO w W2.heap.size (tT k tag 0 0 0 dir ver path (nN) (nN)) (tT k tag code iounit count dir ver path (.slice qa qn qc) (.slice da dn dc)) wx)
 case first=>
  cases e:DH s 113 with
  |false=>
   obtain⟨⟨rfl,rfl⟩,rfl⟩:=hq.resolve_left (by rw[e];simp);go_wp2_with fail;go_meet;exact⟨rfl,rfl,rfl,rfl,K.o⟩
  |true=>
   have t7:=cO K.o.a 7;have x7:=cO K.o.x 7;have t8:=cO K.o.a 8;have x8:=cO K.o.x 8;have t9:=cO K.o.a 9;have x9:=cO K.o.x 9;have rf:=fO K.o.x;go_wp2_with fail;go_meet;exact⟨rfl,rfl,rfl,rfl,(((K.o.set 7 _).set 8 _).set 9 _)⟩
 obtain⟨rfl,rfl,rfl,rfl,K⟩:=hcut
 replace K:=hid K
 go_wp2_with fail;refine(HH.o 101 _).mono ?_;rintro r Ve ⟨rfl,X⟩
 replace K:=hid (K.o.ext X)
 clear X;go_upto_if 25 with fail;go_cut [1,2,3,4] (λ v1 v2 v3 v4 wx=>v1= pP w.heap.size 0/\v2= pP (w.heap.size+1) 0/\v3= iI k/\v4= pP W2.heap.size 0/\KO w W2.heap.size (tT k tag code 0 0 dir ver path (nN) (nN)) (tT k tag code iounit count dir ver path (.slice qa qn qc) (.slice da dn dc)) wx)
 case first=>
  cases e:DH s 101 with
  |false=>
   obtain rfl:=he.resolve_left (by rw[e];simp);go_wp2_with fail;go_meet;exact⟨rfl,rfl,rfl,rfl,K.o⟩
  |true=>
   have t2:=cO K.o.a 2;have x2:=cO K.o.x 2;have rf:=fO K.o.x;go_wp2_with fail;go_meet;exact⟨rfl,rfl,rfl,rfl,(K.o.set 2 _)⟩
 obtain⟨rfl,rfl,rfl,rfl,K⟩:=hcut
 replace K:=hid K
 go_wp2_with fail;refine(HH.o 108 _).mono ?_;rintro r Vl ⟨rfl,X⟩
 replace K:=hid (K.o.ext X)
 clear X;go_upto_if 30 with fail;go_cut [1,2,3,4] (λ v1 v2 v3 v4 wx=>v1= pP w.heap.size 0/\v2= pP (w.heap.size+1) 0/\v3= iI k/\v4= pP W2.heap.size 0/\KO w W2.heap.size (tT k tag code 0 0 dir ver path (.slice qa qn qc) (nN)) (tT k tag code iounit count dir ver path (.slice qa qn qc) (.slice da dn dc)) wx)
 case first=>
  cases e:DH s 108 with
  |false=>
   obtain⟨⟨rfl,rfl⟩,rfl⟩:=hl.resolve_left (by rw[e];simp);go_wp2_with fail;go_meet;exact⟨rfl,rfl,rfl,rfl,K.o⟩
  |true=>
   have t10:=cO K.o.a 10;have x10:=cO K.o.x 10;have rf:=fO K.o.x;go_wp2_with fail;go_meet;exact⟨rfl,rfl,rfl,rfl,(K.o.set 10 _)⟩
 obtain⟨rfl,rfl,rfl,rfl,K⟩:=hcut
 replace K:=hid K
 go_wp2_with fail;refine(HH.o 105 _).mono ?_;rintro r Vi ⟨rfl,X⟩
 replace K:=hid (K.o.ext X)
 clear X;go_upto_if 35 with fail;go_cut [1,2,3,4] (λ v1 v2 v3 v4 wx=>v1= pP w.heap.size 0/\v2= pP (w.heap.size+1) 0/\v3= iI k/\v4= pP W2.heap.size 0/\KO w W2.heap.size (tT k tag code iounit 0 dir ver path (.slice qa qn qc) (nN)) (tT k tag code iounit count dir ver path (.slice qa qn qc) (.slice da dn dc)) wx)
 case first=>
  cases e:DH s 105 with
  |false=>
   obtain rfl:=hi.resolve_left (by rw[e];simp);go_wp2_with fail;go_meet;exact⟨rfl,rfl,rfl,rfl,K.o⟩
  |true=>
   have t4:=cO K.o.a 4;have x4:=cO K.o.x 4;have rf:=fO K.o.x;go_wp2_with fail;go_meet;exact⟨rfl,rfl,rfl,rfl,(K.o.set 4 _)⟩
 obtain⟨rfl,rfl,rfl,rfl,K⟩:=hcut
 replace K:=hid K
 go_wp2_with fail;refine(HH.o 100 _).mono ?_;rintro r Vd ⟨rfl,X⟩
 replace K:=hid (K.o.ext X)
 clear X;go_upto_if 40 with fail;go_cut [1,2,3,4] (λ v1 v2 v3 v4 wx=>v1= pP w.heap.size 0/\v2= pP (w.heap.size+1) 0/\v3= iI k/\v4= pP W2.heap.size 0/\KO w W2.heap.size (tT k tag code iounit 0 dir ver path (.slice qa qn qc) (.slice da dn dc)) (tT k tag code iounit count dir ver path (.slice qa qn qc) (.slice da dn dc)) wx)
 case first=>
  cases e:DH s 100 with
  |false=>
   obtain⟨⟨rfl,rfl⟩,rfl⟩:=hd.resolve_left (by rw[e];simp);go_wp2_with fail;go_meet;exact⟨rfl,rfl,rfl,rfl,K.o⟩
  |true=>
   have t11:=cO K.o.a 11;have x11:=cO K.o.x 11;have rf:=fO K.o.x;go_wp2_with fail;go_meet;exact⟨rfl,rfl,rfl,rfl,(K.o.set 11 _)⟩
 obtain⟨rfl,rfl,rfl,rfl,K⟩:=hcut
 replace K:=hid K
 go_wp2_with fail;refine(HH.o 99 _).mono ?_;rintro r Vc ⟨rfl,X⟩
 replace K:=hid (K.o.ext X)
 clear X;go_upto_if 45 with fail;go_cut [1,2,3,4] (λ v1 v2 v3 v4 wx=>v1= pP w.heap.size 0/\v2= pP (w.heap.size+1) 0/\v3= iI k/\v4= pP W2.heap.size 0/\KO w W2.heap.size (tT k tag code iounit count dir ver path (.slice qa qn qc) (.slice da dn dc)) (tT k tag code iounit count dir ver path (.slice qa qn qc) (.slice da dn dc)) wx)
 case first=>
  cases e:DH s 99 with
  |false=>
   obtain rfl:=hc.resolve_left (by rw[e];simp);go_wp2_with fail;go_meet;exact⟨rfl,rfl,rfl,rfl,K.o⟩
  |true=>
   have t5:=cO K.o.a 5;have x5:=cO K.o.x 5;have rf:=fO K.o.x;go_wp2_with fail;go_meet;exact⟨rfl,rfl,rfl,rfl,(K.o.set 5 _)⟩
 obtain⟨rfl,rfl,rfl,rfl,K⟩:=hcut
 replace K:=hid K
 go_wp2_with fail;refine(HH.o 115 _).mono ?_;rintro r V9 ⟨rfl,X⟩;rw[hs]
 replace K:=hid (K.o.ext X)
 clear X;go_upto_region 20 with fail;refine wp_region_lit ?_;refine AJ rfl _ _ rfl W2.heap.size (tT k tag code iounit count dir ver path (.slice qa qn qc) (.slice da dn dc)) rfl 39 K.o.x _ underlying39 rfl iT ?_;refine AT rfl _ _ _ rfl (w.heap.size+1) (tT k tag code iounit count dir ver path (.slice qa qn qc) (.slice da dn dc)) rfl rfl 39 _ K.o.r iT rfl (by simp[Value.oneCell']) ?_;intro W hRw hU;refine wpList_nil ?_;go_wp2_with fail;exact Ue (Uj rfl _ _ (w.heap.size+1) 39 (tT k tag code iounit count dir ver path (.slice qa qn qc) (.slice da dn dc)) (0,0) _ rfl hRw underlying39 rfl iT) rfl ⟨rfl,K.o.u.trans2 hU (λ b hb=>by simp at hb;omega)⟩
theorem EJ {typ:Int} (hQ:qn=0\/∃qg qo q,qa=some ⟨qg,qo,none⟩/\qn=1/\SlQ w (sS qg qo 1 qc) (some q)/\q.Ok) (HO:∀w,Calls prog 55 #[.agg (tT typ tag code iounit count dir ver path (.slice qa qn qc) (.slice da dn dc))] w λ r w'=>r= .returned (.agg (tT typ tag code iounit count dir ver path (.slice qa qn qc) (.slice da dn dc)))/\Upd [] w w') (HF:∀w,Calls prog 26 #[iI typ] w λ r w'=>r= .returned (.string s)/\Ext w w') (hs:(s.toList==[])=false) (htag:B8 tag) (hcode:B8 code) (hio:0<=iounit/\iounit<4294967296) (hcn:0<=count/\count<4294967296) (hok:(⟨dir,ver,path⟩:QI).Ok) (hD:Sl w (.slice da dn dc) ds) (hdn:dn<=1024):
  Calls prog 28 #[.agg (tT typ tag code iounit count dir ver path (.slice qa qn qc) (.slice da dn dc))] w λ r w'=>r= .returned (.bool true)/\Upd [] w w':=by
 obtain⟨W0,hW0⟩:∃W,W=w.alloc (.cells (tT typ tag code iounit count dir ver path (.slice qa qn qc) (.slice da dn dc)) 39):=⟨_,rfl⟩;have hb:W0.heap[w.heap.size]?=oC (tT typ tag code iounit count dir ver path (.slice qa qn qc) (.slice da dn dc)) 39:=by rw[hW0];exact Ub w _
 have X0:Ext w W0:=by rw[hW0];exact(Ext.refl w).alloc _
 have HB:=hid hb;have HU:=hid (X0.upd []);have HW:=hid hW0;have HSa:=hid (λ W (U:Upd [] w W)=>show Calls prog 56 #[.agg (tT typ tag code iounit count dir ver path (.slice qa qn qc) (.slice da dn dc)),.agg (tT typ tag code iounit count dir ver path (.slice qa qn qc) (.slice da dn dc))] W λ r w'=>r= .returned (.bool true)/\Ext W w' from by
  rcases hQ with rfl|⟨qg,qo,q,rfl,rfl,h1,h2⟩
  ·exact QS (t:=⟨typ,tag,code,iounit,count,⟨dir,ver,path⟩⟩) (hD.updv U (λ _ _ h=>by simp at h))
  ·exact QR (t:=⟨typ,tag,code,iounit,count,⟨dir,ver,path⟩⟩) (hD.updv U (λ _ _ h=>by simp at h)) (h1.upd U (λ _ _ _ h=>by simp at h)))
 have HQ:=hid hQ;have HOk:=hid hok;have HI:=hid hio;have HC:=hid hcn;have d1:decide (tag<0)=false:=by have:=htag.1;simp;omega
 have d2:decide (tag>65535)=false:=by have:=htag.2;simp;omega
 have d3:decide (code<0)=false:=by have:=hcode.1;simp;omega
 have d4:decide (code>65535)=false:=by have:=hcode.2;simp;omega
 have d5:decide ((dn:Int)>1024)=false:=by simp;omega
 have d0:decide ((qn:Int)>8)=false:=by rcases hQ with rfl|⟨_,_,_,-,rfl,-⟩<;>simp
 clear hD hok hio hcn htag hcode;have HOw:=hid HO;have HFs:=hid HF;clear hb X0 hW0 HO HF hQ;go_in;go_upto_region 1 with(rw[<-HW.o]);refine wp_region_lit ?_;refine AJ rfl _ _ rfl w.heap.size (tT typ tag code iounit count dir ver path (.slice qa qn qc) (.slice da dn dc)) rfl 39 HB.o _ underlying39 rfl iT ?_;go_wp2_with fail;refine(HOw.o _).mono ?_;rintro r w1 ⟨rfl,U1⟩
 replace HB:=hid (U1.heap HB.o (by simp))
 replace HU:=hid (HU.o.trans U1)
 clear U1;rename_i K hK;refine hK _ _ ?_;clear hK;refine wpList_runTo rfl _ rfl (pP w1.heap.size 0) (w1.alloc (.cells tZ 39)) (by go_simp) ?_;refine AZ rfl rfl _ _ _ rfl (tT typ tag code iounit count dir ver path (.slice qa qn qc) (.slice da dn dc)) rfl rfl iT rfl (by simp[Value.oneCell']) ?_;intro w2 hX E2
 replace HB:=hid (E2.heap HB.o)
 replace HU:=hid (HU.o.trans (E2.upd []))
 have HX2:=hid hX;clear hX E2;refine wpList_nil ?_;go_upto_region 2 with fail;refine wp_region_lit ?_;refine AJ rfl _ _ rfl w1.heap.size (tT typ tag code iounit count dir ver path (.slice qa qn qc) (.slice da dn dc)) rfl 39 HX2.o _ underlying39 rfl iT ?_;refine AJ rfl _ _ rfl w.heap.size (tT typ tag code iounit count dir ver path (.slice qa qn qc) (.slice da dn dc)) rfl 39 HB.o _ underlying39 rfl iT ?_;have HSb:=hid (HSa.o w2 HU.o);clear HX2 HSa HOw;go_wp2_with fail;refine HSb.o.mono ?_;clear HSb;rintro r w3 ⟨rfl,X⟩
 replace HB:=hid (X.heap HB.o)
 replace HU:=hid (HU.o.trans (X.upd []))
 clear X;obtain⟨b0,b1,b2,b3,b4,b5,b6,b7,b8,b9,b10,b11,b12,b13,b14,b15,b16,b17,-⟩:=A8 HB.o;go_wp2_with fail;refine(HFs.o _).mono ?_;clear b0 b1 b2 b3 b4 b5 b6 b7 b8 b9 b10 b11 b12 b13 b14 b15 b16 b17 HFs;rintro r w4 ⟨rfl,X⟩
 replace HB:=hid (X.heap HB.o)
 replace HU:=hid (HU.o.trans (X.upd []))
 clear X;obtain⟨b0,b1,b2,b3,b4,b5,b6,b7,b8,b9,b10,b11,b12,b13,b14,b15,b16,b17,-⟩:=A8 HB.o;go_wp2_with fail;go_loopw [5] (λ v wr=>∃i:Nat,i<=qn/\v= iI i/\Ext w4 wr) (λ v _=>qn-(intOf v).toNat)
 case atStart=>exact⟨0,Nat.zero_le _,rfl,Ext.refl _⟩
 case round=>
  obtain⟨i,hi,rfl,X⟩:=hrel;clear b0 b1 b2 b3 b4 b5 b6 b7 b8 b9 b10 b11 b12 b13 b14 b15 b16 b17
  replace HB:=hid (X.heap HB.o)
  replace HU:=hid (HU.o.trans (X.upd []))
  obtain⟨b0,b1,b2,b3,b4,b5,b6,b7,b8,b9,b10,b11,b12,b13,b14,b15,b16,b17,-⟩:=A8 HB.o;by_cases hlt:i<qn
  ·obtain rfl|⟨qg,qo,q,rfl,rfl,h1,h2⟩:=HQ.o
   ·omega
   obtain rfl:0=i:=by omega
   obtain⟨qg',qo',qc',he,hc1,hc2,q0,q1,q2⟩:=h1.upd HU.o (λ _ _ _ h=>by simp at h);injection he with he1 he2 he3;injection he1 with he1;injection he1 with he1 he4;subst he1 he3 he4;unfold maxLen at hc2;have HX:=hid X;have HQo:=hid h2;clear X h1 h2;go_wp2_with fail;refine(Nv (q:=q) HQo.o _).mono ?_;rintro r wz ⟨rfl,X⟩;have HXz:=hid (HX.o.trans X);clear X;go_wp2_with fail;go_roundw
   case rel=>exact⟨_,_,_,_,_,_,_,_,_,_,_,_,_,_,_,_,_,_,⟨1,Uf _,by go_num,HXz.o⟩,rfl⟩
   case measure=>simp[intOf]
  ·obtain rfl:i=qn:=by omega
   clear X hlt hi;go_wp2_with fail;refine(Nv (q:=⟨dir,ver,path⟩) HOk.o _).mono ?_;clear b0 b1 b2 b3 b4 b5 b6 b7 b8 b9 b10 b11 b12 b13 b14 b15 b16 b17;rintro r w5 ⟨rfl,X⟩
   replace HB:=hid (X.heap HB.o)
   replace HU:=hid (HU.o.trans (X.upd []))
   clear X;obtain⟨b0,b1,b2,b3,b4,b5,b6,b7,b8,b9,b10,b11,b12,b13,b14,b15,b16,b17,-⟩:=A8 HB.o;go_wp2_with fail;refine(Nv (q:={}) ⟨by decide,by decide⟩ _).mono ?_;clear b0 b1 b2 b3 b4 b5 b6 b7 b8 b9 b10 b11 b12 b13 b14 b15 b16 b17;rintro r w6 ⟨rfl,X⟩
   replace HB:=hid (X.heap HB.o)
   replace HU:=hid (HU.o.trans (X.upd []))
   clear X;obtain⟨b0,b1,b2,b3,b4,b5,b6,b7,b8,b9,b10,b11,b12,b13,b14,b15,b16,b17,-⟩:=A8 HB.o;go_wp2_with fail;refine(FN (x:=0) (by decide) _).mono ?_;clear b0 b1 b2 b3 b4 b5 b6 b7 b8 b9 b10 b11 b12 b13 b14 b15 b16 b17;rintro r w7 ⟨rfl,X⟩
   replace HB:=hid (X.heap HB.o)
   replace HU:=hid (HU.o.trans (X.upd []))
   clear X;obtain⟨b0,b1,b2,b3,b4,b5,b6,b7,b8,b9,b10,b11,b12,b13,b14,b15,b16,b17,-⟩:=A8 HB.o;go_wp2_with fail;refine(FN HI.o _).mono ?_;clear b0 b1 b2 b3 b4 b5 b6 b7 b8 b9 b10 b11 b12 b13 b14 b15 b16 b17;rintro r w8 ⟨rfl,X⟩
   replace HB:=hid (X.heap HB.o)
   replace HU:=hid (HU.o.trans (X.upd []))
   clear X;obtain⟨b0,b1,b2,b3,b4,b5,b6,b7,b8,b9,b10,b11,b12,b13,b14,b15,b16,b17,-⟩:=A8 HB.o;go_wp2_with fail;refine(FN HC.o _).mono ?_;clear b0 b1 b2 b3 b4 b5 b6 b7 b8 b9 b10 b11 b12 b13 b14 b15 b16 b17;rintro r wu ⟨rfl,X⟩
   replace HB:=hid (X.heap HB.o)
   replace HU:=hid (HU.o.trans (X.upd []))
   clear X;obtain⟨b0,b1,b2,b3,b4,b5,b6,b7,b8,b9,b10,b11,b12,b13,b14,b15,b16,b17,-⟩:=A8 HB.o;go_wp2_with fail;refine(FN (x:=0) (by decide) _).mono ?_;clear b0 b1 b2 b3 b4 b5 b6 b7 b8 b9 b10 b11 b12 b13 b14 b15 b16 b17;rintro r wv ⟨rfl,X⟩
   replace HB:=hid (X.heap HB.o)
   replace HU:=hid (HU.o.trans (X.upd []))
   clear X;obtain⟨b0,b1,b2,b3,b4,b5,b6,b7,b8,b9,b10,b11,b12,b13,b14,b15,b16,b17,-⟩:=A8 HB.o;go_wp2_with fail;refine(OR (x:=0) (by decide) _).mono ?_;clear b0 b1 b2 b3 b4 b5 b6 b7 b8 b9 b10 b11 b12 b13 b14 b15 b16 b17;rintro r wx ⟨rfl,X⟩
   replace HB:=hid (X.heap HB.o)
   replace HU:=hid (HU.o.trans (X.upd []))
   clear X;obtain⟨b0,b1,b2,b3,b4,b5,b6,b7,b8,b9,b10,b11,b12,b13,b14,b15,b16,b17,-⟩:=A8 HB.o;go_wp2_with fail;go_ret;exact⟨rfl,HU.o⟩
structure RF (B:Value) (base:Nat) (qv dv:Value) (o:Option QI) (od:Option (List Int)) (w:World):Prop where
 q0:o=none->qv= nN
 q1:∀q,o=some q->∃g c,qv= sS g 0 1 c/\base<=g/\SlQ w (sS g 0 1 c) (some q)
 d0:od=none->dv= nN
 d1:∀ds,od=some ds->Sl w dv ds/\dv.ownBlock=B.ownBlock
theorem RF.qs (h:RF B base qv dv o od w):(∃a n c,qv= .slice a n c)/\∃a n c,dv= .slice a n c:=by
 refine⟨?_,?_⟩
 ·cases o with
  |none=>exact⟨_,_,_,h.q0 rfl⟩
  |some q=>obtain⟨g,c,e,-⟩:=h.q1 q rfl;exact⟨_,_,_,e⟩
 ·cases od with
  |none=>exact⟨_,_,_,h.d0 rfl⟩
  |some ds=>obtain⟨⟨a,c,e,-⟩,-⟩:=h.d1 ds rfl;exact⟨_,_,_,e⟩
theorem RF.upd {S:List Nat} (h:RF B base qv dv o od w) (hu:Upd S w w') (hS:∀b∈S,b<base) (hB:∀g,B.ownBlock=some g->g∉S):RF B base qv dv o od w':=by
 refine⟨h.q0,λ q e=> ?_,h.d0,λ ds e=> ?_⟩
 ·obtain⟨g,c,e1,e2,e3⟩:=h.q1 q e;refine⟨g,c,e1,e2,e3.upd hu (λ g' p hg hm=> ?_)⟩;rcases hg with hg|⟨_,hg⟩<;>(injection hg with f1 f2 f3;injection f1 with f1;injection f1 with f1 f4;have:=hS _ hm;omega)
 ·obtain⟨h1,h2⟩:=h.d1 ds e;exact⟨h1.updv hu (λ g hg=>hB g (by rw[<-h2];exact hg)),h2⟩
def UX (t:TV) (o:Option QI) (ds:List Int) (s:ByteArray):Prop:=
 ∃(T:Nat->TV) (O:Nat->Option QI) (D:Nat->Option (List Int)) (Bs:Nat->List Int),T 0={typ:=t.typ,tag:=t.tag}/\O 0=none/\D 0=none/\Bs 0=tb t o ds/\T s.size=t/\O s.size=o/\D s.size=(if t.typ=117 then some ds else none)/\Bs s.size=[]/\
  ∀i (hi:i<s.size) (rb:Nat) (B:Value) (all:List Int) (base:Nat) (W:World) (qv dv:Value),RR rb B all (Bs i) W->(∀g,B.ownBlock=some g->g<base)->rb<base->base<=W.heap.size->RF B base qv dv (O i) (D i) W->
   Calls prog 27 #[pP rb 0,(T i).val qv dv,.int .u8 ((s[i]'hi).toNat:Int)] W λ r w'=>∃qv' dv',r= .returned ((T (i+1)).val qv' dv')/\RF B base qv' dv' (O (i+1)) (D (i+1)) w'/\RR rb B all (Bs (i+1)) w'/\Upd [rb] W w'
theorem RR.nil_app (h:RR rb B all zs w):RR rb B all (zs++[]) w:=by rw[List.append_nil];exact h
theorem RF.keep (h:RF B base qv dv o od w) (hr:RR rb B all zs w) (hb:rb<base) (hu:Upd [rb] w w'):RF B base qv dv o od w':=
 h.upd hu (λ b hm=>by simp at hm;omega) (λ g hg hm=>by obtain⟨_,-,-,-,-,hne,-⟩:=hr;simp at hm;exact hne (by rw[hg,hm]))
theorem TIs.reads (h:TIs t o ds):∃s j,j<13/\CX.getD j 0=t.typ/\Hm.getD j ⟨#[]⟩=s/\(s=⟨#[113]⟩\/s=⟨#[101]⟩\/s=⟨#[108]⟩\/s=⟨#[113,105]⟩\/s=⟨#[100]⟩\/s=⟨#[99]⟩\/s=⟨#[45]⟩)/\UX t o ds s:=by
 cases h with
 | @attach tag q htag hok=>
  refine⟨_,1,by omega,rfl,rfl,.inl rfl,λ i=>if i=0 then _ else({typ:=105,tag:=tag,q:=q}:TV),λ _=>none,λ _=>none,λ i=>if i=0 then _ else[],rfl,rfl,rfl,rfl,rfl,rfl,rfl,rfl,λ i hi rb B all base W qv dv hR hB hb hz hF=> ?_⟩;obtain rfl:i=0:=by have:i<1:=hi;omega
  have hBW:∀g,B.ownBlock=some g->g<W.heap.size:=λ g hg=>by have:=hB g hg;omega
  obtain⟨⟨qa,qn,qc,hqv⟩,da,dn,dc,rfl⟩:=hF.qs;subst hqv;refine(Kc (t:={typ:=105,tag:=tag}) (RR.nil_app hR) hok hBW).mono ?_;rintro r w' ⟨rfl,h1,h2⟩;exact⟨_,_,rfl,hF.keep hR hb h2,h1,h2⟩
 | @error tag code htag hc=>
  refine⟨_,2,by omega,rfl,rfl,.inr<| .inl rfl,λ i=>if i=0 then _ else({typ:=107,tag:=tag,code:=code}:TV),λ _=>none,λ _=>none,λ i=>if i=0 then _ else[],rfl,rfl,rfl,rfl,rfl,rfl,rfl,rfl,λ i hi rb B all base W qv dv hR hB hb hz hF=> ?_⟩;obtain rfl:i=0:=by have:i<1:=hi;omega
  have hBW:∀g,B.ownBlock=some g->g<W.heap.size:=λ g hg=>by have:=hB g hg;omega
  obtain⟨⟨qa,qn,qc,hqv⟩,da,dn,dc,rfl⟩:=hF.qs;subst hqv;refine(T7 (t:={typ:=107,tag:=tag}) (RR.nil_app hR) hc.1 hc.2 hBW).mono ?_;rintro r w' ⟨rfl,h1,h2⟩;exact⟨_,_,rfl,hF.keep hR hb h2,h1,h2⟩
 | @walk0 tag htag=>
  refine⟨_,4,by omega,rfl,rfl,.inr<| .inr<| .inl rfl,λ i=>if i=0 then _ else({typ:=111,tag:=tag}:TV),λ _=>none,λ _=>none,λ i=>if i=0 then _ else[],rfl,rfl,rfl,rfl,rfl,rfl,rfl,rfl,λ i hi rb B all base W qv dv hR hB hb hz hF=> ?_⟩;obtain rfl:i=0:=by have:i<1:=hi;omega
  have hBW:∀g,B.ownBlock=some g->g<W.heap.size:=λ g hg=>by have:=hB g hg;omega
  obtain⟨⟨qa,qn,qc,hqv⟩,da,dn,dc,rfl⟩:=hF.qs;subst hqv;refine(RU (t:={typ:=111,tag:=tag}) hR hBW).mono ?_;rintro r w' ⟨rfl,h1,h2⟩;exact⟨_,_,rfl,hF.keep hR hb h2,h1,h2⟩
 | @walk1 tag q htag hok=>
  refine⟨_,4,by omega,rfl,rfl,.inr<| .inr<| .inl rfl,λ i=>if i=0 then _ else({typ:=111,tag:=tag}:TV),λ i=>if i=0 then none else some q,λ _=>none,λ i=>if i=0 then _ else[],rfl,rfl,rfl,rfl,rfl,rfl,rfl,rfl,λ i hi rb B all base W qv dv hR hB hb hz hF=> ?_⟩;obtain rfl:i=0:=by have:i<1:=hi;omega
  have hBW:∀g,B.ownBlock=some g->g<W.heap.size:=λ g hg=>by have:=hB g hg;omega
  obtain⟨⟨qa,qn,qc,hqv⟩,da,dn,dc,rfl⟩:=hF.qs;obtain rfl:=hF.q0 rfl;refine((show Calls prog 27 #[pP rb 0,({typ:=111,tag:=tag}:TV).val (nN) (.slice da dn dc),.int .u8 108] W _ from RT (t:={typ:=111,tag:=tag}) hR hok hBW)).mono ?_;rintro r w' ⟨gq,cq,rfl,h0,hz',h1,h2⟩;have hF':=hF.keep hR hb h2;exact⟨_,_,rfl,⟨λ e=>by simp at e,λ q' e=>by(obtain rfl:q=q':=by simpa using e);exact⟨gq,cq,rfl,by omega,h0⟩,hF'.d0,hF'.d1⟩,h1,h2⟩
 | @read tag ds htag hd=>
  refine⟨_,7,by omega,rfl,rfl,.inr<| .inr<| .inr<| .inr<| .inl rfl,λ i=>if i=0 then _ else({typ:=117,tag:=tag}:TV),λ _=>none,λ i=>if i=0 then none else some ds,λ i=>if i=0 then _ else[],rfl,rfl,rfl,rfl,rfl,rfl,rfl,rfl,λ i hi rb B all base W qv dv hR hB hb hz hF=> ?_⟩;obtain rfl:i=0:=by have:i<1:=hi;omega
  have hBW:∀g,B.ownBlock=some g->g<W.heap.size:=λ g hg=>by have:=hB g hg;omega
  obtain⟨⟨qa,qn,qc,hqv⟩,da,dn,dc,rfl⟩:=hF.qs;subst hqv;refine(T8 (t:={typ:=117,tag:=tag}) (show RR rb B all (leN ds.length 4++(ds++[])) W by rw[List.append_nil];exact hR) hd.1 hBW).mono ?_;rintro r w' ⟨ya,yc,rfl,hs,ho,h1,h2⟩;exact⟨_,_,rfl,⟨λ _=>hF.q0 rfl,λ q e=>by simp at e,λ e=>by simp at e,λ ds' e=>(show ds=ds' by simpa using e)▸⟨hs,ho⟩⟩,h1,h2⟩
 | @write tag count htag hc=>
  refine⟨_,8,by omega,rfl,rfl,.inr<| .inr<| .inr<| .inr<| .inr<| .inl rfl,λ i=>if i=0 then _ else({typ:=119,tag:=tag,count:=count}:TV),λ _=>none,λ _=>none,λ i=>if i=0 then _ else[],rfl,rfl,rfl,rfl,rfl,rfl,rfl,rfl,λ i hi rb B all base W qv dv hR hB hb hz hF=> ?_⟩;obtain rfl:i=0:=by have:i<1:=hi;omega
  have hBW:∀g,B.ownBlock=some g->g<W.heap.size:=λ g hg=>by have:=hB g hg;omega
  obtain⟨⟨qa,qn,qc,hqv⟩,da,dn,dc,rfl⟩:=hF.qs;subst hqv;refine(T9 (t:={typ:=119,tag:=tag}) (RR.nil_app hR) hc.1 hc.2 hBW).mono ?_;rintro r w' ⟨rfl,h1,h2⟩;exact⟨_,_,rfl,hF.keep hR hb h2,h1,h2⟩
 | @wstat tag htag=>
  refine⟨_,12,by omega,rfl,rfl,.inr<| .inr<| .inr<| .inr<| .inr<| .inr<|rfl,λ i=>if i=0 then _ else({typ:=127,tag:=tag}:TV),λ _=>none,λ _=>none,λ i=>if i=0 then _ else[],rfl,rfl,rfl,rfl,rfl,rfl,rfl,rfl,λ i hi rb B all base W qv dv hR hB hb hz hF=> ?_⟩;obtain rfl:i=0:=by have:i<1:=hi;omega
  have hBW:∀g,B.ownBlock=some g->g<W.heap.size:=λ g hg=>by have:=hB g hg;omega
  obtain⟨⟨qa,qn,qc,hqv⟩,da,dn,dc,rfl⟩:=hF.qs;subst hqv;refine(UA (t:={typ:=127,tag:=tag}) hR hBW).mono ?_;rintro r w' ⟨rfl,h1,h2⟩;exact⟨_,_,rfl,hF.keep hR hb h2,h1,h2⟩
 | @open_ tag iounit q htag hok hio=>
  refine⟨_,5,by omega,rfl,rfl,.inr<| .inr<| .inr<| .inl rfl,λ i=>if i=0 then _ else if i=1 then({typ:=113,tag:=tag,q:=q}:TV) else({typ:=113,tag:=tag,q:=q,iounit:=iounit}:TV),λ _=>none,λ _=>none,λ i=>if i=0 then _ else if i=1 then leN iounit 4 else[],rfl,rfl,rfl,rfl,rfl,rfl,rfl,rfl,λ i hi rb B all base W qv dv hR hB hb hz hF=> ?_⟩;have hBW:∀g,B.ownBlock=some g->g<W.heap.size:=λ g hg=>by have:=hB g hg;omega
  obtain⟨⟨qa,qn,qc,rfl⟩,da,dn,dc,rfl⟩:=hF.qs;have hi2:i<2:=hi;rcases(show i=0\/i=1 by omega) with rfl|rfl
  ·refine(Kc (t:={typ:=113,tag:=tag}) hR hok hBW).mono ?_;rintro r w' ⟨rfl,h1,h2⟩;exact⟨_,_,rfl,hF.keep hR hb h2,h1,h2⟩
  ·refine(VR (t:={typ:=113,tag:=tag,q:=q}) (RR.nil_app hR) hio.1 hio.2 hBW).mono ?_;rintro r w' ⟨rfl,h1,h2⟩;exact⟨_,_,rfl,hF.keep hR hb h2,h1,h2⟩
 | @create tag iounit q htag hok hio=>
  refine⟨_,6,by omega,rfl,rfl,.inr<| .inr<| .inr<| .inl rfl,λ i=>if i=0 then _ else if i=1 then({typ:=115,tag:=tag,q:=q}:TV) else({typ:=115,tag:=tag,q:=q,iounit:=iounit}:TV),λ _=>none,λ _=>none,λ i=>if i=0 then _ else if i=1 then leN iounit 4 else[],rfl,rfl,rfl,rfl,rfl,rfl,rfl,rfl,λ i hi rb B all base W qv dv hR hB hb hz hF=> ?_⟩;have hBW:∀g,B.ownBlock=some g->g<W.heap.size:=λ g hg=>by have:=hB g hg;omega
  obtain⟨⟨qa,qn,qc,rfl⟩,da,dn,dc,rfl⟩:=hF.qs;have hi2:i<2:=hi;rcases(show i=0\/i=1 by omega) with rfl|rfl
  ·refine(Kc (t:={typ:=115,tag:=tag}) hR hok hBW).mono ?_;rintro r w' ⟨rfl,h1,h2⟩;exact⟨_,_,rfl,hF.keep hR hb h2,h1,h2⟩
  ·refine(VR (t:={typ:=115,tag:=tag,q:=q}) (RR.nil_app hR) hio.1 hio.2 hBW).mono ?_;rintro r w' ⟨rfl,h1,h2⟩;exact⟨_,_,rfl,hF.keep hR hb h2,h1,h2⟩
theorem z32:0<=(0:Int)/\(0:Int)<4294967296:=⟨by decide,by decide⟩
theorem ok0:B8 0:=⟨by decide,by decide⟩
theorem MQ:(⟨false,0,0⟩:QI).Ok:=⟨by decide,by decide⟩
theorem TIs.may (h:TIs t o ds) {W:World} (hF:RF B base qv dv o (if t.typ=117 then some ds else none) W):
  Calls prog 28 #[t.val qv dv] W λ r w'=>r= .returned (.bool true)/\Upd [] W w':=by
 cases h with
 | @attach tag q htag hok=>
  obtain rfl:=hF.q0 rfl;obtain rfl:=hF.d0 rfl;exact EJ (.inl rfl) (ds:=[]) (EG rfl (by decide) (λ w=>Af 1 (by omega) rfl rfl w)) (λ w=>Af 1 (by omega) rfl rfl w) (by rw[Lib.toList_data];rfl) htag ok0 z32 z32 hok (Sl.nil _) (by omega)
 | @error tag code htag hc=>
  obtain rfl:=hF.q0 rfl;obtain rfl:=hF.d0 rfl;exact EJ (.inl rfl) (ds:=[]) (EG rfl (by decide) (λ w=>Af 2 (by omega) rfl rfl w)) (λ w=>Af 2 (by omega) rfl rfl w) (by rw[Lib.toList_data];rfl) htag hc z32 z32 MQ (Sl.nil _) (by omega)
 | @walk0 tag htag=>
  obtain rfl:=hF.q0 rfl;obtain rfl:=hF.d0 rfl;exact EJ (.inl rfl) (ds:=[]) (EG rfl (by decide) (λ w=>Af 4 (by omega) rfl rfl w)) (λ w=>Af 4 (by omega) rfl rfl w) (by rw[Lib.toList_data];rfl) htag ok0 z32 z32 MQ (Sl.nil _) (by omega)
 | @walk1 tag q htag hok=>
  obtain⟨g,c,rfl,-,hQ⟩:=hF.q1 q rfl;obtain rfl:=hF.d0 rfl;exact EJ (.inr ⟨_,_,_,rfl,rfl,hQ,hok⟩) (ds:=[]) (EG rfl (by decide) (λ w=>Af 4 (by omega) rfl rfl w)) (λ w=>Af 4 (by omega) rfl rfl w) (by rw[Lib.toList_data];rfl) htag ok0 z32 z32 MQ (Sl.nil _) (by omega)
 | @open_ tag iounit q htag hok hio=>
  obtain rfl:=hF.q0 rfl;obtain rfl:=hF.d0 rfl;exact EJ (.inl rfl) (ds:=[]) (EG rfl (by decide) (λ w=>Af 5 (by omega) rfl rfl w)) (λ w=>Af 5 (by omega) rfl rfl w) (by rw[Lib.toList_data];rfl) htag ok0 hio z32 hok (Sl.nil _) (by omega)
 | @create tag iounit q htag hok hio=>
  obtain rfl:=hF.q0 rfl;obtain rfl:=hF.d0 rfl;exact EJ (.inl rfl) (ds:=[]) (EG rfl (by decide) (λ w=>Af 6 (by omega) rfl rfl w)) (λ w=>Af 6 (by omega) rfl rfl w) (by rw[Lib.toList_data];rfl) htag ok0 hio z32 hok (Sl.nil _) (by omega)
 | @read tag ds htag hd=>
  obtain rfl:=hF.q0 rfl;obtain⟨hD,-⟩:=hF.d1 ds rfl;obtain⟨da,dc,rfl,-,-⟩:=id hD;exact EJ (.inl rfl) (EG rfl (by decide) (λ w=>Af 7 (by omega) rfl rfl w)) (λ w=>Af 7 (by omega) rfl rfl w) (by rw[Lib.toList_data];rfl) htag ok0 z32 z32 MQ hD hd.1
 | @write tag count htag hc=>
  obtain rfl:=hF.q0 rfl;obtain rfl:=hF.d0 rfl;exact EJ (.inl rfl) (ds:=[]) (EG rfl (by decide) (λ w=>Af 8 (by omega) rfl rfl w)) (λ w=>Af 8 (by omega) rfl rfl w) (by rw[Lib.toList_data];rfl) htag ok0 z32 hc MQ (Sl.nil _) (by omega)
 | @wstat tag htag=>
  obtain rfl:=hF.q0 rfl;obtain rfl:=hF.d0 rfl;exact EJ (.inl rfl) (ds:=[]) (EG rfl (by decide) (λ w=>Af 12 (by omega) rfl rfl w)) (λ w=>Af 12 (by omega) rfl rfl w) (by rw[Lib.toList_data];rfl) htag ok0 z32 z32 MQ (Sl.nil _) (by omega)
theorem Sl.ownlt (h:Sl w v zs) (hz:0<zs.length):∀g,v.ownBlock=some g->g<w.heap.size:=by
 obtain⟨a,c,rfl,hr,-⟩:=h;obtain⟨g0,o,rfl,hc⟩:=hr.at_ (i:=0) hz;intro g hg;obtain rfl:g0=g:=by simpa [Value.ownBlock] using hg
 exact Ug _ _ hc
theorem Ch {ops:Array Oper} {Q:Act->Prop} {o:Oper} {rest:List Oper} (hg:o.guard=none) (hr:(execOp a.eval o).run P w= .ok (.value v) w) (h:wpStill P ops w Q rest (a.put o.dst v)):wpStill P ops w Q (o::rest) a:=by
 unfold wpStill;rw[if_pos (by simp[Region.wanted,hg])];unfold Oper.still;rw[hr,Oper.stillUpon_value];exact h
theorem Mb {o:Oper} {ty:TypeId} {x:Operand} {p:Value} (ho:o.op= .load ty x) (hx:a.eval x=p) (hr:(Instr.loadAt ty p).run P w= .ok v w):(execOp a.eval o).run P w= .ok (.value v) w:=by
 unfold execOp;simp only[ho,hx,Sem.run_bind,hr,Result.andThen_ok,Sem.run_pure]
theorem TH {n:Nat} {a:Option Addr} {c:Nat} (h:TIs t o ds) (hall:all=leN n 4++(leN t.typ 1++(leN t.tag 2++tb t o ds))) (hn:n=all.length) (hm:n<=4096) (hS:Sl w (.slice a n c) all):
  Calls prog 13 #[.slice a n c] w λ r w'=>∃qv dv,r= .returned (.tuple #[t.val qv dv,iI 0])/\RF (.slice a n c) w.heap.size qv dv o (if t.typ=117 then some ds else none) w'/\Upd [] w w':=by
 obtain⟨s,j,hj,hk,hsj,hsz,T,O,D,Bs,hT0,hO0,hD0,hB0,hT1,hO1,hD1,hB1,hstep⟩:=h.reads;obtain⟨od,hod⟩:∃od,od=(if t.typ=117 then some ds else none):=⟨_,rfl⟩;rw[<-hod] at hD1|-
 have HOd:=hid hod;clear hod;have htyp:100<=t.typ/\t.typ<128:=by rcases h.r with h|h|h|h|h|h|h|h<;>omega
 have htag:=h.tg;have hn7:7<=n:=by rw[hn,hall,Uc,Uc,Uc,lL,lL,lL];omega
 have d0:decide ((n:Int)<7)=false:=by simp;omega
 obtain⟨W2,hW2⟩:∃W,W=((w.alloc (.cells tZ 39)).alloc (.cells #[.slice a n c,iI 0,iI 0] 94)):=⟨_,rfl⟩;obtain⟨hA0,hR0,X0⟩:=AH w (.cells tZ 39) (.cells #[.slice a n c,iI 0,iI 0] 94);rw[<-hW2] at hA0 hR0 X0;have hz2:W2.heap.size=w.heap.size+2:=by rw[hW2];simp
 have HBo:=hid (hS.ownlt (by omega));have hbo:(Value.slice a n c).ownBlock≠some (w.heap.size+1):=λ e=>by have:=HBo.o _ e;omega
 have hRR:RR (w.heap.size+1) (.slice a n c) all (leN n 4++(leN t.typ 1++(leN t.tag 2++tb t o ds))) W2:=⟨0,hR0,hS.ext X0,Nat.zero_le _,by rw[List.drop_zero,hall],hbo,by omega⟩;have HN:=hid (CU hRR (by omega) (by omega) (by omega));have e1:IntKind.i64.wrap (n:Int)=n:=Uh _ (by omega);have HW:=hid hW2;have HA0:=hid hA0;have HE:=hid (And.intro hT0 (And.intro hO0 (And.intro hD0 (And.intro hB0 (And.intro hT1 (And.intro hO1 (And.intro hD1 hB1)))))));have HSt:=hid hstep;have HAl:=hid (And.intro hall hn);have HFd:=hid (λ w=>Af j hj hk hsj w);have HSz:=hid hsz;have HSo:=hid hS;have HTg:=hid htag;have HX2:=hid X0;have HTi:=hid h;clear hW2 hA0 hR0 hRR hT0 hO0 hD0 hB0 hT1 hO1 hD1 hB1 hstep hall hn hk hsj hj hsz hS htag X0 h;go_in;go_wp2_with (rw[<-HW.o]);refine HN.o.mono ?_;rintro r w1 ⟨rfl,hR,hU⟩;have HA1:=hid (hU.heap HA0.o (by simp));have HU1:=hid ((HX2.o.upd []).trans2 hU (λ b hb=>by simp at hb;omega));have hz1:=hU.size;have HN2:=hid (CU hR (by omega) (by omega) (by omega));have HN:=0;have e2:IntKind.i64.wrap t.typ=t.typ:=Uh _ (by omega);clear hR hU HA0 HX2;go_wp2_with fail;refine HN2.o.mono ?_;rintro r w2 ⟨rfl,hR,hU⟩;have HA2:=hid (hU.heap HA1.o (by simp));have HU2:=hid (HU1.o.trans2 hU (λ b hb=>by simp at hb;omega));have hz3:=hU.size;rename_i K hK;refine hK _ _ ?_;clear hK;refine wpList_runTo rfl _ rfl (iI t.typ) w2 (by go_simp) ?_;refine wpList_runTo rfl _ rfl (.agg (tT t.typ 0 0 0 0 false 0 0 (nN) (nN))) w2 (by go_simp) ?_
 refine wpList_runTo rfl _ rfl (pP w2.heap.size 0) (w2.alloc (.cells tZ 39)) (by go_simp) ?_;refine AZ rfl rfl _ _ _ rfl (tT t.typ 0 0 0 0 false 0 0 (nN) (nN)) rfl rfl iT rfl (by simp[Value.oneCell']) ?_;intro w3 hX E3;refine wpList_nil ?_;have HN3:=hid (CU (hR.ext E3) (by omega) HTg.o.1 HTg.o.2);have e3:IntKind.i64.wrap t.tag=t.tag:=Uh _ (by have:=HTg.o.1;have:=HTg.o.2;omega);have HA3:=hid (E3.heap HA2.o);have HU3:=hid (HU2.o.trans (E3.upd []));have HX3:=hid hX;clear hR hU hX E3 HA1 HU1 HA2 HU2;go_wp2_with fail;refine HN3.o.mono ?_;rintro r w4 ⟨rfl,hR,hU⟩;have HA4:=hid (hU.heap HA3.o (by simp));have HX4:=hid (hU.heap HX3.o (by simp;omega));have HU4:=hid (HU3.o.trans2 hU (λ b hb=>by simp at hb;omega));obtain⟨rf,-⟩:(∀i,w4.frozen? (dD w2.heap.size i)=false)/\True:=⟨λ i=>by obtain⟨b0,b1,b2,b3,b4,b5,b6,b7,b8,b9,b10,b11,b12,b13,b14,b15,b16,b17,rf⟩:=A8 HX4.o;exact rf i,trivial⟩;have x0:=cO HX4.o 0;have x1:=cO HX4.o 1;have HR4:=hid hR;clear hR hU HA3 HX3 HU3;go_upto_region 7 with fail;obtain⟨w5,hw5⟩:∃W,W=w4.setCell (dD w2.heap.size 1) (iI t.tag):=⟨_,rfl⟩
 rw[<-hw5];have hU5:Upd [w2.heap.size] w4 w5:=by rw[hw5];exact(Upd.refl _ _).setCell _ _ (.inl (by simp))
 have HX5:=hid (show w5.heap[w2.heap.size]?=oC (tT t.typ t.tag 0 0 0 false 0 0 (nN) (nN)) 39 by rw[hw5];exact jP (i:=1) _ HX4.o);have HA5:=hid (hU5.heap HA4.o (by simp;omega));have HU5:=hid (HU4.o.trans2 hU5 (λ b hb=>by simp at hb;omega));have HR5:=hid (HR4.o.upd hU5 (by simp;omega) (λ g hg hm=>by have:=HBo.o g hg;simp at hm;omega));clear hw5 hU5 x0 x1 rf HA4 HX4 HU4 HR4;have x0:=cO HX5.o 0;go_wp2_with fail;refine(HFd.o _).mono ?_;rintro r w6 ⟨rfl,X6⟩;have HA6:=hid (X6.heap HA5.o);have HX6:=hid (X6.heap HX5.o);have HU6:=hid (HU5.o.trans (X6.upd []));have HR6:=hid (HR5.o.ext X6);have es:(s.toList==[])=false:=by rw[Lib.toList_data];rcases HSz.o with rfl|rfl|rfl|rfl|rfl|rfl|rfl<;>rfl
 clear X6 x0 HA5 HX5 HU5 HR5;go_wp2_with fail;go_loopw [8] (λ v wr=>∃i:Nat,i<=s.size/\v= iI i/\∃qv dv,wr.heap[w2.heap.size]?=some (.cells ((T i).cl qv dv).toArray 39 (0,0))/\wr.heap[w.heap.size]?=oC tZ 39/\RF (.slice a n c) (w2.heap.size+1) qv dv (O i) (D i) wr/\RR (w.heap.size+1) (.slice a n c) all (Bs i) wr/\Upd [] w wr) (λ v _=>s.size-(intOf v).toNat)
 case atStart=>exact⟨0,Nat.zero_le _,rfl,nN,nN,by rw[HE.o.1];exact HX6.o,HA6.o,⟨λ _=>rfl,λ q e=>(by rw[HE.o.2.1] at e;cases e),λ _=>rfl,λ ds e=>(by rw[HE.o.2.2.1] at e;cases e)⟩,by rw[HE.o.2.2.2.1];exact HR6.o,HU6.o⟩
 case round=>
  obtain⟨i,hi,rfl,qv,dv,hX,hA,hF,hR,hU⟩:=hrel;have HXr:=hid hX;have HAr:=hid hA;have HFr:=hid hF;have HRr:=hid hR;have HUr:=hid hU;clear hX hA hF hR hU;have hs2:s.size<=2:=by rcases HSz.o with rfl|rfl|rfl|rfl|rfl|rfl|rfl<;>decide
  by_cases hlt:i<s.size
  ·have d1:decide ((i:Int)<(s.size:Int))=true:=by simp;omega
   have b0:(0:Int)<=(i:Int):=by omega
   have b1:(i:Int)<(s.size:Int):=by omega
   have HL:(Instr.loadAt 39 (pP w2.heap.size 0)).run prog wr.drew= .ok ((T i).val qv dv) wr.drew:=run_loadAt_mid (P:=prog) wr.drew w2.heap.size 0 39 ((T i).cl qv dv) _ (λ j v hv=>by rw[cO (show wr.drew.heap[w2.heap.size]?=_ from HXr.o),Nat.zero_add];simpa using hv) underlying39 rfl iT;obtain⟨tv,htv⟩:∃tv,tv=(T i).val qv dv:=⟨_,rfl⟩;rw[<-htv] at HL;have HT:=hid htv;have HLd:=hid HL;clear HL htv;go_upto_region 13 with fail;refine wp_region_still_tail 5 DE (by kernel_rfl) ?_;simp only[List.take_succ_cons,List.take_zero,List.drop_succ_cons,List.drop_zero];refine Ch rfl (v:= pP (w.heap.size+1) 0) (by go_simp) ?_;refine Ch rfl (Mb rfl rfl HLd.o) ?_;refine Ch rfl (v:= .string s) (by go_simp) ?_;refine Ch rfl (v:= iI i) (by go_simp) ?_;refine Ch rfl (v:= .int .u8 ((s[i]'hlt).toNat:Int)) (by go_simp) ?_;refine wpStill_nil ?_;have hxl:=lH HXr.o;have HC:=hid (HSt.o i hlt (w.heap.size+1) (.slice a n c) all (w2.heap.size+1) wr.drew qv dv (HRr.o.ext (dE wr)) (λ g hg=>by have:=HBo.o g hg;omega) (by omega) (show _<=wr.heap.size from by omega) (HFr.o.upd ((dE wr).upd []) (λ b hb=>by simp at hb) (λ g hg hm=>by simp at hm)));rw[<-HT.o] at HC;go_wp2_with fail;refine HC.o.mono ?_;rintro r w3 ⟨qv',dv',rfl,hF,hR,hU⟩;have HX3:=hid (hU.heap (show wr.drew.heap[w2.heap.size]?=_ from HXr.o) (by simp;omega));have HA3:=hid (hU.heap (show wr.drew.heap[w.heap.size]?=_ from HAr.o) (by simp));have hq:=hF.qs;have HF3:=hid hF
   have HR3:=hid hR;have HU3:=hid ((HUr.o.trans ((dE wr).upd [])).trans2 hU (λ b hb=>by simp at hb;omega));clear hF hR hU HC;obtain⟨⟨qa,qn,qc,rfl⟩,da,dn,dc,rfl⟩:=hq;rename_i K1 hK1;refine hK1 _ _ ?_;clear hK1;refine AT rfl _ _ _ rfl w2.heap.size ((T (i+1)).cl (.slice qa qn qc) (.slice da dn dc)).toArray rfl rfl 39 _ HX3.o iT rfl (by simp[TV.cl,Value.oneCell']) ?_;intro W hRw hW;refine wpList_nil ?_;have HX4:=hid hRw;have HA4:=hid (hW.heap HA3.o (by simp;omega));have HF4:=hid (HF3.o.upd hW (λ b hb=>by simp at hb;omega) (λ g hg hm=>by have:=HBo.o g hg;simp at hm;omega));have HR4:=hid (HR3.o.upd hW (by simp;omega) (λ g hg hm=>by have:=HBo.o g hg;simp at hm;omega));have HU4:=hid (HU3.o.trans2 hW (λ b hb=>by simp at hb;omega));clear hRw hW HX3 HA3 HF3 HR3 HU3;obtain⟨iR,hcR,-⟩:=HR4.o;obtain⟨r0,r1,r2,-⟩:=BZ hcR;clear hcR;go_wp2_with fail;go_roundw
   case rel=>exact⟨i+1,by omega,by go_num,_,_,HX4.o,HA4.o,HF4.o,HR4.o,HU4.o⟩
   case measure=>simp[intOf];omega
  ·have d1:decide ((i:Int)<(s.size:Int))=false:=by simp;omega
   obtain rfl:i=s.size:=by omega
   have HX:=hid (show wr.heap[w2.heap.size]?=some (.cells (t.cl qv dv).toArray 39 (0,0)) from by rw[<-HE.o.2.2.2.2.1];exact HXr.o);have hR:=HRr.o;rw[HE.o.2.2.2.2.2.2.2] at hR;have hF:=HFr.o;rw[HE.o.2.2.2.2.2.1,HE.o.2.2.2.2.2.2.1] at hF;obtain⟨iR,hcR,-,hiR,hdR,-,-⟩:=hR;have hie:iR=n:=by
    have h1:=congrArg List.length hdR;rw[List.length_drop,<-HAl.o.2,List.length_nil] at h1;rw[<-HAl.o.2] at hiR;omega
   subst hie;obtain⟨r0,r1,r2,-⟩:=BZ hcR;have hxl:=lH HX.o;have HMy:=hid (λ W (X:Ext wr W)=>HTi.o.may (HOd.o▸hF.upd (X.upd []) (λ b hb=>by simp at hb) (λ g hg hm=>by simp at hm)));have HFq:=hid hF;have hq:=hF.qs;have HcR:=hid hcR;clear hcR hdR hF hiR;obtain⟨⟨qa,qn,qc,rfl⟩,da,dn,dc,rfl⟩:=hq;go_upto_region 16 with fail;refine wp_region_lit ?_;refine AJ rfl _ _ rfl w2.heap.size (t.cl (.slice qa qn qc) (.slice da dn dc)).toArray rfl 39 HX.o _ underlying39 rfl iT ?_;go_wp2_with fail;refine(HMy.o _ (Ext.refl _)).mono ?_;rintro r w7 ⟨rfl,hU⟩;clear r0 r1 r2 hxl;obtain⟨r0,r1,r2,-⟩:=BZ (hU.heap HcR.o (by simp));have HX7:=hid (hU.heap HX.o (by simp));have HA7:=hid (hU.heap HAr.o (by simp));have HF7:=hid (HFq.o.upd hU (λ b hb=>by simp at hb) (λ g hg hm=>by simp at hm));have HU7:=hid (HUr.o.trans hU);clear hU HX HMy HcR HFq;go_upto_region 19 with fail;refine wp_region_lit ?_;refine AJ rfl _ _ rfl w2.heap.size (t.cl (.slice qa qn qc) (.slice da dn dc)).toArray rfl 39 HX7.o _ underlying39 rfl iT ?_;refine AT rfl _ _ _ rfl w.heap.size (t.cl (.slice qa qn qc) (.slice da dn dc)).toArray rfl rfl 39 _ HA7.o iT rfl (by simp[TV.cl,Value.oneCell']) ?_;intro W hRw hW;refine wpList_runTo rfl _ rfl (iI 0) W (by go_simp) ?_;refine wpList_nil ?_;go_wp2_with fail;refine Ue (v:= .tuple #[t.val (.slice qa qn qc) (.slice da dn dc),iI 0]) (AO (g:=w.heap.size) (cs:=(t.cl (.slice qa qn qc) (.slice da dn dc)).toArray) rfl _ _ _ _ rfl hRw underlying39 rfl iT rfl) rfl ⟨_,_,rfl,?_,HU7.o.trans2 hW (λ b hb=>by simp at hb;omega)⟩
   have hF8:=HF7.o.upd hW (λ b hb=>by simp at hb;omega) (λ g hg hm=>by have:=HBo.o g hg;simp at hm;omega);exact⟨hF8.q0,λ q e=>by obtain⟨g,c,e1,e2,e3⟩:=hF8.q1 q e;exact⟨g,c,e1,by omega,e3⟩,hF8.d0,hF8.d1⟩
end Go.Proofs.YtdakioiagpkfhaaGreatDoor
