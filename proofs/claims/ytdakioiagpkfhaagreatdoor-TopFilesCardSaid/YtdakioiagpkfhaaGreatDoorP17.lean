import Derived.Test.YtdakioiagpkfhaaGreatDoorP16
import Derived.Laws.Externs
set_option maxRecDepth 99999
set_option maxHeartbeats 0
set_option linter.all false
namespace Go.Proofs.YtdakioiagpkfhaaGreatDoor
open RowKit Conc
open Go.Lib (compareBytes)
open Go.Proofs.Tryz
variable {F:List Nat} {db h i k:Nat} {es:List EV} {s:List UInt8} {v:Value} {w:World}
theorem RO (args:Array Value) (w:World):(callFunc 437 args).run prog w= .ok (.enter 437 args) w:=by kernel_rfl
theorem J6 (a b:ByteArray) (w:World):(callFunc 445 #[.string a,.string b]).run prog w= .ok (.value (iI (compareBytes a.data.toList b.data.toList))) w:=by
 rw[run_callFunc_extern func445 (by kernel_rfl) (by kernel_rfl) (by kernel_rfl) (e:=Extern.BytealgCompare.compare) (by kernel_rfl),Lib.run_compareString];rfl
theorem JX (a b:ByteArray) (w:World):Calls prog 438 #[.string a,.string b] w λ r w'=>r= .returned (iI (compareBytes a.data.toList b.data.toList))/\w=w':=by
 have h:=λ W=>J6 a b W
 go_in;go_wp2;go_ret;exact⟨rfl,rfl⟩
theorem Rp (e:EV) (s:ByteArray) (w:World):Calls prog 437 #[e.val,.string s] w λ r w'=>r= .returned (iI (compareBytes e.key s.data.toList))/\Ext w w':=by
 have H:=hid (λ W=>JX e.name s W);unfold EV.val EV.key;go_in;go_wp2_with (go_at_call 438;refine(H.o _).mono ?_;rintro r w1 ⟨rfl,rfl⟩);go_ret;exact⟨rfl,(Ext.refl _).alloc _⟩
def Bg (es:List EV):Prop:=∀i j (hi:i<es.length) (hj:j<es.length),i<j->compareBytes es[i].key es[j].key<0
def DR (es:List EV) (s:List UInt8) (k:Nat):Int:=match es[k]? with
 |some e=>compareBytes e.key s
 |none=>1
theorem Bv (h:k<es.length):DR es s k=compareBytes es[k].key s:=by
 unfold DR;rw[Ud h]
theorem Lf (hr:Bg es) (hh:h<es.length) (hk:k<=h) (hc:DR es s h<0):DR es s k<0:=by
 rcases Nat.lt_or_eq_of_le hk with h1|rfl
 ·rw[Bv (by omega)];rw[Bv hh] at hc;exact F5 (hr k h (by omega) hh h1) hc
 ·exact hc
theorem Rr (hr:Bg es) (hh:k<es.length) (hk:h<=k) (hc:0<=DR es s h):0<=DR es s k:=by
 rcases Nat.lt_or_eq_of_le hk with h1|rfl
 ·refine Int.not_lt.1 λ h2=> ?_
  have:=Lf hr hh hk h2;omega
 ·exact hc
structure Dm (es:List EV) (s:List UInt8) (i:Nat):Prop where
 le:i<=es.length
 lo:∀k,k<i->DR es s k<0
 hi:∀k,i<=k->k<es.length->0<=DR es s k
def BsI (w wr:World) (es:List EV) (s:List UInt8) (v9 v10:Value):Prop:=
 ∃i j:Nat,v9= iI i/\v10= iI j/\i<=j/\j<=es.length/\(∀k,k<i->DR es s k<0)/\(∀k,j<=k->k<es.length->0<=DR es s k)/\Ext w wr
theorem Dv (h:Ad w v es) (hi:i<es.length):∃g cap,v= sS g 0 es.length cap/\
  w.cell? (dD g (i*3))=some (.string es[i].name)/\w.cell? (dD g (i*3+1))=some (iI (es[i].ino))/\w.cell? (dD g (i*3+2))=some (iI (es[i].gen)):=by
 obtain⟨g,cap,h1,h2,h3,h4,h5⟩:=h.cell hi;exact⟨g,cap,h1,h5⟩
theorem Rz (h:Ad w v es) (hr:Bg es) (hl:es.length<=100) (s:ByteArray):
  Calls prog 436 #[v,.string s,.func (.func 437) #[] #[]] w λ r w'=>
   ∃i:Nat,r= .returned (.tuple #[iI i,.bool (decide (i<es.length)&&(DR es s.data.toList i==0))])/\Dm es s.data.toList i/\Ext w w':=by
 have HO:=hid h;have HR:=hid hr;have hv:∃a cap,v= .slice a es.length cap:=by
  rcases h.form with⟨h1,h2⟩|⟨g,cap,cur,h1,_⟩
  ·exact⟨none,0,by rw[h1,h2];rfl⟩
  ·exact⟨_,_,h1⟩
 obtain⟨a,cap,rfl⟩:=hv;obtain⟨n,hn⟩:∃n,n=es.length:=⟨_,rfl⟩;have HC:=hid (λ e W=>Rp e s W);have hcf:=RO;rw[<-hn] at hl|-
 have HN:=hid hn;clear h hr hn;go_in;go_wp2_with fail;go_loopw [9,10,11] (λ v9 v10 _ wr=>BsI w wr es s.data.toList v9 v10) (λ v9 v10 _ _=>(intOf v10).toNat-(intOf v9).toNat)
 case atStart=>exact⟨0,n,rfl,rfl,Nat.zero_le _,Nat.le_of_eq HN.o,λ k hk=>by omega,λ k h1 h2=>by have:=HN.o;omega,Ext.refl _⟩
 case round=>
  obtain⟨i,j,rfl,rfl,hij,hj,hlo,hhi,hX⟩:=hrel;by_cases hlt:i<j
  ·have hd:decide ((i:Int)<(j:Int))=true:=by simp;omega
   have hd2:decide (i<j)=true:=by simp;omega
   have hw1:IntKind.i64.wrap ((i:Int)+(j:Int))=(i:Int)+(j:Int):=Uh _ (by have:=HN.o;omega);have hw2:IntKind.u64.wrap ((i:Int)+(j:Int))=(i:Int)+(j:Int):=by have:=HN.o;unfold IntKind.wrap;simp[IntKind.signed,IntKind.bits];omega
   obtain⟨H,hH⟩:∃H,H=(i+j)/2:=⟨_,rfl⟩;have hw3:((i:Int)+(j:Int))/2=(H:Int):=by omega
   have hh:H<es.length:=by omega
   have hH1:(H:Int)<(n:Int):=by have:=HN.o;omega
   have hH2:i<=H/\H<j:=by omega
   have hH3:(0:Int)<=(H:Int):=by omega
   have HE:=hid (Bv (s:=s.data.toList) hh);obtain⟨g,c,hv,c0,c1,c2⟩:=Dv HO.o hh;injection hv with e1 e2 e3;subst e1 e3;have c0':=hX.cell c0;have c1':=hX.cell c1;have c2':=hX.cell c2;clear e2 c0 c1 c2;have HLO:=hid hlo;have HHI:=hid hhi;have HX:=hid hX;clear hlo hhi hX hH;go_wp2_with fail;refine(HC.o es[H] wr).mono ?_;rintro r w1 ⟨rfl,X1⟩;have X2:=hid (HX.o.trans X1);have HE2:=HE.o;obtain⟨cc,hcc⟩:∃cc,cc=compareBytes es[H].key s.data.toList:=⟨_,rfl⟩;rw[<-hcc] at HE2|-
   have HE3:=hid HE2;clear X1 hcc HE2 HE c0' c1' c2';by_cases hneg:cc<0
   ·have hd3:decide (cc<0)=true:=by simpa using hneg
    go_wp2_with fail;go_roundw
    case rel=>exact⟨H+1,j,by go_num,rfl,by omega,hj,λ k hk=>Lf HR.o hh (by omega) (by rw[HE3.o];exact hneg),HHI.o,X2.o⟩
    case measure=>simp[intOf];omega
   ·have hd3:decide (cc<0)=false:=by simpa using hneg
    go_wp2_with fail;go_roundw
    case rel=>exact⟨i,H,rfl,rfl,hH2.1,by omega,HLO.o,λ k h1 h2=>Rr HR.o h2 h1 (by rw[HE3.o];omega),X2.o⟩
    case measure=>simp[intOf];omega
  ·obtain rfl:i=j:=by omega
   have hd:decide ((i:Int)<(i:Int))=false:=by simp
   have HLO:=hid hlo;have HHI:=hid hhi;have HX:=hid hX;clear hlo hhi hX;by_cases hin:i<n
   ·have hin2:i<es.length:=by rw[<-HN.o];exact hin
    have hd1:decide ((i:Int)<(n:Int))=true:=by simp;omega
    have hd2:decide (i<n)=true:=by simp;omega
    have HE:=hid (Bv (s:=s.data.toList) hin2);obtain⟨g,c,hv,c0,c1,c2⟩:=Dv HO.o hin2;injection hv with e1 e2 e3;subst e1 e3;have c0':=HX.o.cell c0;have c1':=HX.o.cell c1;have c2':=HX.o.cell c2;clear e2 c0 c1 c2;go_wp2_with fail;refine(HC.o es[i] wr).mono ?_;rintro r w1 ⟨rfl,X1⟩;have X2:=hid (HX.o.trans X1);have HE2:=HE.o;obtain⟨cc,hcc⟩:∃cc,cc=compareBytes es[i].key s.data.toList:=⟨_,rfl⟩;rw[<-hcc] at HE2|-
    have HE3:=hid HE2;clear X1 hcc HE2 HE c0' c1' c2';go_wp2_with fail;go_ret2;refine⟨i,?_,⟨by omega,HLO.o,HHI.o⟩,X2.o⟩;rw[HE3.o,decide_eq_true hin,Bool.true_and];rfl
   ·have hd1:decide ((i:Int)<(n:Int))=false:=by simp;omega
    have hd2:decide (i<n)=false:=by simp;omega
    go_wp2_with fail;go_ret2;exact⟨i,by rw[hd2];rfl,⟨by have:=HN.o;omega,HLO.o,HHI.o⟩,HX.o⟩
theorem Dm.at_ (h:Dm es s i) (hr:Bg es) (hk:k<es.length) (he:es[k].key=s):i=k:=by
 have hz:DR es s k=0:=by rw[Bv hk,he];exact CF.2 rfl
 rcases Nat.lt_trichotomy i k with h1|h1|h1
 ·have h2:=h.hi i (Uf _) (by omega);have h3:=hr i k (by omega) hk h1;rw[he,<-Bv (by omega)] at h3;omega
 ·exact h1
 ·have:=h.lo k h1;omega
theorem Dm.no (hn:∀k (hk:k<es.length),es[k].key≠s):(decide (i<es.length)&&(DR es s i==0))=false:=by
 by_cases hi:i<es.length
 ·have:DR es s i≠0:=by rw[Bv hi];exact λ e=>hn i hi (CF.1 e)
  simp[this]
 ·simp[hi]
theorem II {e:EV} {s:ByteArray} (h:e.key=s.data.toList):e.name=s:=by
 unfold EV.key at h;apply ByteArray.ext;exact Array.ext' h
theorem AW.parts (h:AW db es w F):∃v,w.cell? (dD db 0)=some v/\w.frozen? (dD db 0)=false/\Ad w v es/\db<w.heap.size:=by
 obtain⟨v,h1,h2,_⟩:=h;exact⟨v,cO h1 0,fO h1 0,h2,lH h1⟩
theorem Ad.ext {w':World} (h:Ad w v es) (hx:Ext w w'):Ad w' v es:=h.upd (hx.upd []) (λ _ _=>by simp)
theorem Lc (h:AW db es w F) (hr:Bg es) (hl:es.length<=100) (s:ByteArray):
  Calls prog 429 #[pP db 0,.string s] w λ r w'=>
   ∃i:Nat,r= .returned (.tuple #[iI i,.bool (decide (i<es.length)&&(DR es s.data.toList i==0))])/\Dm es s.data.toList i/\Ext w w':=by
 obtain⟨v,c0,f0,hO,hg⟩:=h.parts;have H:=hid (Rz hO hr hl s);clear h hr hO;go_in;go_wp2_with fail;refine H.o.mono ?_;rintro r w1 ⟨i,rfl,P1,X1⟩;have HP:=hid P1;have HX:=hid X1;clear P1 X1 c0 f0;go_wp2_with fail;go_ret2;exact⟨i,rfl,HP.o,HX.o⟩
theorem IP (h:AW db es w F) (hr:Bg es) (hl:es.length<=100) (hk:k<es.length):
  Calls prog 413 #[pP db 0,.string es[k].name] w λ r w'=>r= .returned (.tuple #[.agg #[iI (es[k].ino),iI (es[k].gen)],iI 0])/\Ext w w':=by
 obtain⟨v,c0,f0,hO,hg⟩:=h.parts;have H:=hid (λ W (hx:Ext w W)=>Lc ((AW.loc db es).2 _ _ _ [] h (hx.upd []) (λ _ _=>by simp)) hr hl es[k].name);have HR:=hid hr;have HO:=hid hO;obtain⟨n,hn⟩:∃n,n=es[k].name:=⟨_,rfl⟩;obtain⟨x1,hx1⟩:∃x,x=es[k].ino:=⟨_,rfl⟩;obtain⟨x2,hx2⟩:∃x,x=es[k].gen:=⟨_,rfl⟩;have HN:=hid hn;rw[<-hn] at H|-
 rw[<-hx1,<-hx2];clear h hr hO hn;obtain⟨g,c,rfl,d0,d1,d2⟩:=Dv HO.o hk;rw[<-hx1] at d1;rw[<-hx2] at d2;have D1:=hid d1;have D2:=hid d2;have C0:=hid c0;have HK:=hid hk;clear hx1 hx2 d0 d1 d2 c0;go_in;go_wp2_with fail;obtain⟨W0,hW0⟩:∃W,W=w.alloc (.cells #[iI 0,iI 0] 82):=⟨_,rfl⟩;rw[<-hW0];have X0:Ext w W0:=by rw[hW0];exact(Ext.refl _).alloc _
 have hb:W0.heap[w.heap.size]?=oC #[iI 0,iI 0] 82:=by rw[hW0];exact Ub w _
 refine(H.o W0 X0).mono ?_;rintro r w1 ⟨i,rfl,P1,X1⟩;obtain rfl:=P1.at_ HR.o HK.o (show es[k].key=n.data.toList by rw[HN.o];rfl);have hz:(decide (i<es.length)&&(DR es n.data.toList i==0))=true:=by
  rw[Bv HK.o,show es[i].key=n.data.toList by rw[HN.o];rfl];have:=(@CF n.data.toList n.data.toList).2 rfl;simp[this,HK.o]
 rw[hz];have XX:=X0.trans X1;have c0':=XX.cell C0.o;have d1':=XX.cell D1.o;have d2':=XX.cell D2.o;have hb1:=X1.heap hb;obtain⟨b0,b1,b2,b3⟩:=Al hb1;have hi2:(i:Int)<(es.length:Int):=by have:=HK.o;omega
 have hi3:(0:Int)<=(i:Int):=by omega
 have HXX:=hid XX;clear P1 X1 X0 hW0 hb hb1 XX hz;go_wp2_with fail;exact Ue (v:= .tuple #[.agg #[iI x1,iI x2],iI 0]) (by simp[results,results413,go_sem,b0,b1]) rfl ⟨rfl,((((Upd.refl [w.heap.size] w1).setCell _ _ (by simp)).setCell _ _ (by simp))).ext HXX.o (λ q hq=>by simp at hq;omega)⟩
theorem IQ (h:AW db es w F) (hr:Bg es) (hl:es.length<=100) (s:ByteArray) (hs:∀k (hk:k<es.length),es[k].name≠s):
  Calls prog 413 #[pP db 0,.string s] w λ r w'=>r= .returned (.tuple #[.agg #[iI 0,iI 0],iI 9])/\Ext w w':=by
 have H:=hid (λ W (hx:Ext w W)=>Lc ((AW.loc db es).2 _ _ _ [] h (hx.upd []) (λ _ _=>by simp)) hr hl s);have HN:=hid (λ i=>Dm.no (es:=es) (s:=s.data.toList) (i:=i) (λ k hk e=>hs k hk (II e)));clear h hr hs;go_in;go_wp2_with fail;obtain⟨W0,hW0⟩:∃W,W=w.alloc (.cells #[iI 0,iI 0] 82):=⟨_,rfl⟩;rw[<-hW0];have X0:Ext w W0:=by rw[hW0];exact(Ext.refl _).alloc _
 have hb:W0.heap[w.heap.size]?=oC #[iI 0,iI 0] 82:=by rw[hW0];exact Ub w _
 refine(H.o W0 X0).mono ?_;rintro r w1 ⟨i,rfl,P1,X1⟩;rw[HN.o i];have hb1:=X1.heap hb;obtain⟨b0,b1,b2,b3⟩:=Al hb1;have HXX:=hid (X0.trans X1);clear P1 X1 X0 hW0 hb hb1;go_wp2_with fail;exact Ue (v:= .tuple #[.agg #[iI 0,iI 0],iI 9]) (by simp[results,results413,go_sem,b0,b1]) rfl ⟨rfl,((((Upd.refl [w.heap.size] w1).setCell _ _ (by simp)).setCell _ _ (by simp))).ext HXX.o (λ q hq=>by simp at hq;omega)⟩
theorem dlen (h:AW db es w F):
  Calls prog 411 #[pP db 0] w λ r w'=>r= .returned (iI es.length)/\w=w':=by
 obtain⟨v,c0,f0,hO,hg⟩:=h.parts;obtain⟨a,c,rfl⟩:∃a c,v= .slice a es.length c:=by
  rcases hO.form with⟨h1,h2⟩|⟨g,cap,cur,h1,_⟩
  ·exact⟨none,0,by rw[h1,h2];rfl⟩
  ·exact⟨_,_,h1⟩
 clear h hO;go_in;go_wp2_with fail;go_ret;exact⟨rfl,rfl⟩
theorem dnew (w:World):Calls prog 79 #[] w λ r w'=>r= .returned (pP w.heap.size 0)/\AW w.heap.size [] w' [w.heap.size]/\Ext w w':=by
 go_in;go_wp2_with fail;go_ret;exact⟨rfl,⟨nN,Ub w _,World.ownsRow_nil _ _ _ _,rfl,by simp[Value.ownBlock]⟩,(Ext.refl _).alloc _⟩
end Go.Proofs.YtdakioiagpkfhaaGreatDoor
