import Derived.Test.YtdakioiagpkfhaaGreatDoorP28
import Derived.Deep.WholeRow
import Derived.Deep.MidRow
set_option maxRecDepth 99999
set_option maxHeartbeats 0
set_option linter.all false
namespace Go.Proofs.YtdakioiagpkfhaaGreatDoor
open RowKit Conc
open Go.Proofs.Tryz
variable {W w w0:World} {base c g i wb:Nat} {ds ls:List Int} {k m n:Int} {o:Option QI} {q:QI} {ts:List Value} {v:Value}
theorem NQ (h:TW wb base ts ls w0 W) (hv:ts[4]?=some (iI n)) (h0:0<=n) (h1:n<4294967296) (hll:ls.length<=20000):
  Calls prog 254 #[pP wb 0,iI 1] W λ e w'=>e= .returned (.tuple #[])/\TW wb base (ts.set 4 (iI 0)) (ls++leN n 4) w0 w':=by
 obtain⟨xa,xc,g1,g2⟩:=h.h;have H:=hid (tnum4 h hv h0 h1 (by omega));clear h g1 g2;go_in;go_wp2_with fail;refine H.o.mono ?_;rintro e w1 ⟨rfl,s1⟩;have HS:=hid s1;clear s1;go_wp2_with fail;go_end0;exact⟨rfl,HS.o⟩
theorem Sw (h:TW wb base ts ls w0 W) (hv:ts[5]?=some (iI n)) (h0:0<=n) (h1:n<4294967296) (hll:ls.length<=20000):
  Calls prog 254 #[pP wb 0,iI 2] W λ e w'=>e= .returned (.tuple #[])/\TW wb base (ts.set 5 (iI 0)) (ls++leN n 4) w0 w':=by
 obtain⟨xa,xc,g1,g2⟩:=h.h;have H:=hid (tnum5 h hv h0 h1 (by omega));clear h g1 g2;go_in;go_wp2_with fail;refine H.o.mono ?_;rintro e w1 ⟨rfl,s1⟩;have HS:=hid s1;clear s1;go_wp2_with fail;go_end0;exact⟨rfl,HS.o⟩
theorem Sv (h:TW wb base ts ls w0 W) (hv:ts[2]?=some (iI n)) (h0:0<=n) (h1:n<65536) (hll:ls.length<=20000):
  Calls prog 254 #[pP wb 0,iI 3] W λ e w'=>e= .returned (.tuple #[])/\TW wb base (ts.set 2 (iI 0)) (ls++leN n 2) w0 w':=by
 obtain⟨xa,xc,g1,g2⟩:=h.h;have c0:=g1.t hv;have HBd:=hid (Dp h h0 (show n<=65535 by omega));have e1:IntKind.u16.wrap n=n:=IntWalk.u16_in _ (by omega);have s1:=h.okset;have hne:=h.ne;obtain⟨W1,hW1⟩:∃W',W'=W.setCell (dD wb 19) (.bool true):=⟨_,rfl⟩;rw[<-hW1] at s1 HBd;have HWn:=hid (h.wf.app (AQ n 2));obtain⟨ya,yc,g3,g4⟩:=s1.h;have b1:=g3.b s1.l;have c1:=g3.t hv;have hl1:=lH g3;have HC:=hid (KN (w:=World.drew W1) (g4.sl s1.wf) n h0 (by omega) (by omega));have HG:=hid g3;have HL:=hid s1.l;have HV:=hid hv;have H1:=hid s1;have hz1:=s1.u.size;clear h g1 g2 g3 g4 s1 hv hW1;go_in;go_wp2_with fail;refine HBd.o.mono ?_;rintro e w' ⟨rfl,rfl⟩;clear c0;go_wp2_with fail;go_region_with (go_at_call 257;refine HC.o.mono ?_;rintro r w1 ⟨v1,rfl,O1,X1⟩;obtain⟨va,vc,rfl,-,-⟩:=O1.sl HWn.o;obtain⟨m,hm⟩:∃m,m=(ls++leN n 2).length:=⟨_,rfl⟩;rw[<-hm] at O1|-;have HM:=hid hm;clear hm;have Y1:=(dE w').trans X1;have hg1:TWC wb ts _ w1:=Y1.heap HG.o;have b2:=hg1.b HL.o;have bf2:=hg1.fr;have hl2:=lH hg1;have c2:=hg1.t HV.o;have HO1:=hid (O1.low (b':=base) (show base<=w'.heap.size by omega));have HY:=hid Y1;clear O1 X1 Y1 hg1)
 all_goals
  go_wp2_with fail;go_end0;have hO1:=HO1.o;rw[HM.o] at hO1;have s2:=((H1.o.ext HY.o).lay hO1 HWn.o (by rw[Uc,lL];omega)).fld (i:=2) (by omega) (iI 0);rw[<-HM.o] at s2;exact⟨rfl,s2⟩
theorem Jx (h:TW wb base ts ls w0 W) (hv:ts[7]?=some (.bool q.dir)/\ts[8]?=some (iI q.ver)/\ts[9]?=some (iI q.path)) (ok:q.Ok) (hll:ls.length<=20000):
  Calls prog 254 #[pP wb 0,iI 5] W λ e w'=>e= .returned (.tuple #[])/\TW wb base (((ts.set 7 (.bool false)).set 8 (iI 0)).set 9 (iI 0)) (ls++q.b) w0 w':=by
 obtain⟨xa,xc,g1,g2⟩:=h.h;obtain⟨v7,v8,v9⟩:=hv;have c7:=g1.t v7;have c8:=g1.t v8;have c9:=g1.t v9;have H:=hid (tqid h ok (by omega));have V7:=hid v7;have V8:=hid v8;have V9:=hid v9;unfold QI.val at H;clear h g1 g2 v7 v8 v9;go_in;go_wp2_with fail;refine H.o.mono ?_;rintro e w1 ⟨rfl,s1⟩;have HS:=hid s1;obtain⟨ya,yc,g3,g4⟩:=s1.h;clear c7 c8 c9;have c7:=g3.t V7.o;have c8:=g3.t V8.o;have c9:=g3.t V9.o;have cf:=g3.fr;clear s1 g3 g4;go_wp2_with fail;go_end0;exact⟨rfl,((HS.o.fld (i:=7) (by omega) (.bool false)).fld (i:=8) (by omega) (iI 0)).fld (i:=9) (by omega) (iI 0)⟩
theorem QL {a:Option Addr} (h:TW wb base ts ls w0 W) (hv:ts[10]?=some (.slice a 0 c)) (hll:ls.length<=20000):
  Calls prog 254 #[pP wb 0,iI 6] W λ e w'=>e= .returned (.tuple #[])/\TW wb base (ts.set 10 (nN)) (ls++leN 0 2) w0 w':=by
 have H:=hid (Ss (a:=a) (c:=c) h (by omega));obtain⟨xa,xc,g1,g2⟩:=h.h;have c0:=g1.t hv;have HV:=hid hv;clear h g1 g2 hv;go_in;go_wp2_with fail;refine H.o.mono ?_;rintro e w1 ⟨rfl,s1⟩;have HS:=hid s1;obtain⟨ya,yc,g3,g4⟩:=s1.h;clear c0;have c0:=g3.t HV.o;have cf:=g3.fr;clear s1 g3 g4;go_wp2_with fail;go_end0;exact⟨rfl,HS.o.fld (i:=10) (by omega) (nN)⟩
theorem QK {rg ro:Nat} (h:TW wb base ts ls w0 W) (hv:ts[10]?=some (sS rg ro 1 c)) (hq:SlQ W (sS rg ro 1 c) (some q)) (hrg:rg≠wb) (ok:q.Ok) (hll:ls.length<=20000):
  Calls prog 254 #[pP wb 0,iI 6] W λ e w'=>e= .returned (.tuple #[])/\TW wb base (ts.set 10 (nN)) (ls++leN 1 2++q.b) w0 w':=by
 have H:=hid (Sr h hq hrg ok (by omega));clear hq;obtain⟨xa,xc,g1,g2⟩:=h.h;have c0:=g1.t hv;have HV:=hid hv;clear h g1 g2 hv;go_in;go_wp2_with fail;refine H.o.mono ?_;rintro e w1 ⟨rfl,s1⟩;have HS:=hid s1;obtain⟨ya,yc,g3,g4⟩:=s1.h;clear c0;have c0:=g3.t HV.o;have cf:=g3.fr;clear s1 g3 g4;go_wp2_with fail;go_end0;exact⟨rfl,HS.o.fld (i:=10) (by omega) (nN)⟩
theorem Su {da:Option Addr} {dc:Nat} (h:TW wb base ts ls w0 W) (hv:ts[11]?=some (.slice da ds.length dc)) (hd:Sl W (.slice da ds.length dc) ds) (hno:∀g,(Value.slice da ds.length dc).ownBlock=some g->g≠wb) (hds:ds.length<=1024) (hll:ls.length<=20000):
  Calls prog 254 #[pP wb 0,iI 7] W λ e w'=>e= .returned (.tuple #[])/\TW wb base (ts.set 11 (nN)) (ls++leN ds.length 4++ds) w0 w':=by
 obtain⟨xa,xc,g1,g2⟩:=h.h;have c0:=g1.t hv;have c1:=g1.ok h.l;have cf:=g1.fr;have d1:decide ((ds.length:Int)<=1024)=true:=by simp;omega
 have s1:=h.okset;have hne:=h.ne;obtain⟨W1,hW1⟩:∃W',W'=W.setCell (dD wb 19) (.bool true):=⟨_,rfl⟩;rw[<-hW1] at s1;have U1:Upd [wb] W W1:=by rw[hW1];exact(Upd.refl _ _).setCell _ _ (.inl (by simp))
 have HWn:=hid ((h.wf.app (AQ ds.length 4)).app hd.wf);have hd1:=hd.updv U1 (λ g hg hm=>hno g hg (by simpa using hm));obtain⟨ya,yc,g3,g4⟩:=s1.h;have b2:=g3.b s1.l;have c2:=g3.t hv;have HC:=hid (Sa (w:=World.drew W1) (g4.sl s1.wf) (show Sl (World.drew W1) (.slice da ds.length dc) ds from hd1) (by omega) (by omega));have HG:=hid g3;have HL:=hid s1.l;have HV:=hid hv;have H1:=hid s1;have hz1:=s1.u.size;have HWE:=hid hW1;clear h g1 g2 g3 g4 s1 hv hW1 hd hd1 U1;go_in;go_wp2_with (rw[<-HWE.o]);clear HWE c0 c1 cf;go_region_with (go_at_call 331;refine HC.o.mono ?_;rintro r w1 ⟨v1,rfl,O1,X1⟩;obtain⟨va,vc,rfl,-,-⟩:=O1.sl HWn.o;obtain⟨m,hm⟩:∃m,m=(ls++leN ds.length 4++ds).length:=⟨_,rfl⟩;rw[<-hm] at O1|-;have HM:=hid hm;clear hm;have Y1:=(dE W1).trans X1;have hg1:TWC wb ts _ w1:=Y1.heap HG.o;have b3:=hg1.b HL.o;have bf3:=hg1.fr;have hl3:=lH hg1;have c3:=hg1.t HV.o;have HO1:=hid (O1.low (b':=base) (show base<=W1.heap.size by omega));have HY:=hid Y1;clear O1 X1 Y1 hg1)
 all_goals
  go_wp2_with fail;go_end0;have hO1:=HO1.o;rw[HM.o] at hO1;have s2:=((H1.o.ext HY.o).lay hO1 HWn.o (by rw[Uc,Uc,lL];omega)).fld (i:=11) (by omega) (nN);rw[<-HM.o] at s2;exact⟨rfl,s2⟩
structure TV where
 typ:Int
 tag:Int:=0
 code:Int:=0
 iounit:Int:=0
 count:Int:=0
 q:QI:={}
def TV.cl (t:TV) (qv dv:Value):List Value:=[iI t.typ,iI t.tag,iI t.code,iI 0,iI t.iounit,iI t.count,eE,.bool t.q.dir,iI t.q.ver,iI t.q.path,qv,dv,.bool false,iI 0,iI 0,iI 0,iI 0,eE]
def TV.val (t:TV) (qv dv:Value):Value:= .agg (tT t.typ t.tag t.code t.iounit t.count t.q.dir t.q.ver t.q.path qv dv)
def Av (k:Int):List Int:=if k=105 then[5] else if k=107 then[3] else if k=111 then[6] else if k=113 then[5,1] else if k=115 then[5,1] else if k=117 then[7] else if k=119 then[2] else[]
def isR (k:Int):Prop:=k=105\/k=107\/k=111\/k=113\/k=115\/k=117\/k=119\/k=127
def PRow (v:Value) (l:List Int) (w:World):Prop:=(l=[]/\v= nN)\/∃g,v= sS g 0 l.length l.length/\w.heap[g]?=some (.cells (l.map (Value.int .i64)).toArray 3 (0,0))
theorem Ge (hk:isR k) (w:World):Calls prog 252 #[iI k] w λ r w'=>∃v,r= .returned (.tuple #[v,.bool true])/\PRow v (Av k) w'/\Ext w w':=by
 rcases hk with rfl|rfl|rfl|rfl|rfl|rfl|rfl|rfl
 all_goals
  go_in;go_wp2_with fail;go_ret2
 iterate 7 exact⟨_,rfl,.inr ⟨w.heap.size,rfl,Ub w _⟩,(Ext.refl w).alloc _⟩
 exact⟨_,rfl,.inl ⟨rfl,rfl⟩,Ext.refl w⟩
theorem eqQ (w:World):(Op.equalIn 10000 34 (.agg #[.bool false,iI 0,iI 0]) (.agg #[.bool false,iI 0,iI 0])).run prog w= .ok true w:=by kernel_rfl
theorem eqS (w:World):(Op.equalIn 10000 37 (.agg #[.bool false,iI 0,iI 0,iI 0,iI 0,eE]) (.agg #[.bool false,iI 0,iI 0,iI 0,iI 0,eE])).run prog w= .ok true w:=by kernel_rfl
theorem Kf (a b:Option Addr) (c d:Nat) (w:World):Calls prog 333 #[.slice a 0 c,.slice b 0 d] w λ r w'=>r= .returned (.bool true)/\w=w':=by
 go_in;go_wp2_with fail;go_loop [13] (λ v=>v= iI 0) (λ _=>0)
 case atStart=>rfl
 case round=>
  subst hrel;go_wp2_with fail;go_ret;exact⟨rfl,rfl⟩
theorem Jw (p t:Int) {qa1 qa2:Option Addr} {qc1 qc2:Nat} {d1 d2:Value} (h1:Sl w d1 []) (h2:Sl w d2 []):
  Calls prog 255 #[({typ:=p,tag:=t}:TV).val (.slice qa1 0 qc1) d1,({typ:=p,tag:=t}:TV).val (.slice qa2 0 qc2) d2] w λ r w'=>r= .returned (.bool true)/\Ext w w':=by
 obtain⟨a1,c1,rfl,q1,-⟩:=h1;obtain⟨a2,c2,rfl,q2,-⟩:=h2;obtain⟨n,hn⟩:∃n,n=([]:List Int).length:=⟨_,rfl⟩;rw[<-hn] at q1 q2|-
 have HE:=hid (show∀W,Ext w W->Calls prog 216 #[.slice a1 n c1,.slice a2 n c2] W λ r w'=>r= .returned (.bool true)/\Ext W w' from λ W hx=>(Db a1 a2 n n c1 c2 [] [] W (q1.ext hx) (q2.ext hx)).mono (λ r w' q=>⟨by rw[q.1];simp,q.2⟩));clear q1 q2 hn;have e1:=eqQ;have e2:=eqS;obtain⟨W0,hW0⟩:∃W,W=((w.alloc (.cells (tT p t 0 0 0 false 0 0 (.slice qa1 0 qc1) (.slice a1 n c1)) 39)).alloc (.cells (tT p t 0 0 0 false 0 0 (.slice qa2 0 qc2) (.slice a2 n c2)) 39)):=⟨_,rfl⟩;obtain⟨hb,hr,X0⟩:=AH w (.cells (tT p t 0 0 0 false 0 0 (.slice qa1 0 qc1) (.slice a1 n c1)) 39) (.cells (tT p t 0 0 0 false 0 0 (.slice qa2 0 qc2) (.slice a2 n c2)) 39);rw[<-hW0] at hb hr X0;have HB:=hid hb;have HR:=hid hr;have HX:=hid X0;have b0:=cO hb 0;have b1:=cO hb 1;have b2:=cO hb 2;have b3:=cO hb 3;have b4:=cO hb 4;have b5:=cO hb 5;have b6:=cO hb 6;have b7:=cO hb 7;have b8:=cO hb 8;have b9:=cO hb 9;have b10:=cO hb 10;have b11:=cO hb 11;have b12:=cO hb 12;have b13:=cO hb 13;have b14:=cO hb 14;have b15:=cO hb 15;have b16:=cO hb 16;have b17:=cO hb 17
 have d0:=cO hr 0;have d1:=cO hr 1;have d2:=cO hr 2;have d3:=cO hr 3;have d4:=cO hr 4;have d5:=cO hr 5;have d6:=cO hr 6;have d7:=cO hr 7;have d8:=cO hr 8;have d9:=cO hr 9;have d10:=cO hr 10;have d11:=cO hr 11;have d12:=cO hr 12;have d13:=cO hr 13;have d14:=cO hr 14;have d15:=cO hr 15;have d16:=cO hr 16;have d17:=cO hr 17;have HWE:=hid hW0;dsimp only[TV.val];clear hb hr X0 hW0;go_in;go_wp2_with (rw[<-HWE.o]);clear HWE;refine(Kf _ _ _ _ _).mono ?_;rintro r w' ⟨rfl,rfl⟩;go_wp2_with fail;refine(HE.o _ HX.o).mono ?_;rintro r w1 ⟨rfl,X1⟩;have hb1:=X1.heap HB.o;have hr1:=X1.heap HR.o;have HX1:=hid (HX.o.trans X1);clear b0 b1 b2 b3 b4 b5 b6 b7 b8 b9 b10 b11 b12 b13 b14 b15 b16 b17 d0 d1 d2 d3 d4 d5 d6 d7 d8 d9 d10 d11 d12 d13 d14 d15 d16 d17 X1;have b0:=cO hb1 0;have b1:=cO hb1 1;have b2:=cO hb1 2;have b3:=cO hb1 3;have b4:=cO hb1 4;have b5:=cO hb1 5;have b6:=cO hb1 6;have b7:=cO hb1 7;have b8:=cO hb1 8;have b9:=cO hb1 9;have b10:=cO hb1 10;have b11:=cO hb1 11;have b12:=cO hb1 12;have b13:=cO hb1 13;have b14:=cO hb1 14;have b15:=cO hb1 15;have b16:=cO hb1 16;have b17:=cO hb1 17;have d0:=cO hr1 0;have d1:=cO hr1 1;have d2:=cO hr1 2;have d3:=cO hr1 3;have d4:=cO hr1 4;have d5:=cO hr1 5;have d6:=cO hr1 6;have d7:=cO hr1 7;have d8:=cO hr1 8;have d9:=cO hr1 9;have d10:=cO hr1 10;have d11:=cO hr1 11;have d12:=cO hr1 12;have d13:=cO hr1 13;have d14:=cO hr1 14;have d15:=cO hr1 15;have d16:=cO hr1 16;have d17:=cO hr1 17;clear hb1 hr1;go_wp2_with fail;go_ret;exact⟨rfl,HX1.o⟩
def B8 (n:Int):Prop:=0<=n/\n<65536
inductive TIs:TV->Option QI->List Int->Prop
 |attach {tag:Int} {q:QI}:B8 tag->q.Ok->TIs {typ:=105,tag:=tag,q:=q} none []
 |error {tag code:Int}:B8 tag->B8 code->TIs {typ:=107,tag:=tag,code:=code} none []
 |walk0 {tag:Int}:B8 tag->TIs {typ:=111,tag:=tag} none []
 |walk1 {tag:Int} {q:QI}:B8 tag->q.Ok->TIs {typ:=111,tag:=tag} (some q) []
 |open_ {tag iounit:Int} {q:QI}:B8 tag->q.Ok->(0<=iounit/\iounit<4294967296)->TIs {typ:=113,tag:=tag,q:=q,iounit:=iounit} none []
 |create {tag iounit:Int} {q:QI}:B8 tag->q.Ok->(0<=iounit/\iounit<4294967296)->TIs {typ:=115,tag:=tag,q:=q,iounit:=iounit} none []
 |read {tag:Int} {ds:List Int}:B8 tag->ds.length<=1024/\Wf ds->TIs {typ:=117,tag:=tag} none ds
 |write {tag count:Int}:B8 tag->(0<=count/\count<4294967296)->TIs {typ:=119,tag:=tag,count:=count} none []
 |wstat {tag:Int}:B8 tag->TIs {typ:=127,tag:=tag} none []
def tb (t:TV) (o:Option QI) (ds:List Int):List Int:=
 if t.typ=105 then t.q.b else if t.typ=107 then leN t.code 2 else if t.typ=111 then qsB o else if t.typ=113 then t.q.b++leN t.iounit 4 else if t.typ=115 then t.q.b++leN t.iounit 4 else if t.typ=117 then leN ds.length 4++ds else if t.typ=119 then leN t.count 4 else[]
theorem TIs.r {t:TV} (h:TIs t o ds):isR t.typ:=by cases h<;>simp[isR]
theorem TIs.tg {t:TV} (h:TIs t o ds):B8 t.tag:=by cases h<;>assumption
def UV (t:TV) (o:Option QI) (ds:List Int):Prop:=
 ∀(wb base:Nat) (W:World) (qv:Value) (da:Option Addr) (dc:Nat),TW wb base (t.cl qv (.slice da ds.length dc)) [] W W->SlQ W qv o->Sl W (.slice da ds.length dc) ds->(∀g p c,qv= sS g p 1 c->g≠wb)->(∀g,(Value.slice da ds.length dc).ownBlock=some g->g≠wb)->
  ∃(C:Nat->List Value) (B:Nat->List Int),C 0=t.cl qv (.slice da ds.length dc)/\B 0=[]/\
   (∀(i:Nat) (hi:i<(Av t.typ).length) (V:World),(i=0->V=W)->TW wb base (C i) (B i) W V->Calls prog 254 #[pP wb 0,iI ((Av t.typ)[i])] V λ e w'=>e= .returned (.tuple #[])/\TW wb base (C (i+1)) (B (i+1)) W w')/\
   (∃qa qc ya yc,C (Av t.typ).length=({typ:=t.typ,tag:=t.tag}:TV).cl (.slice qa 0 qc) (.slice ya 0 yc)/\Sl W (.slice ya 0 yc) [])/\B (Av t.typ).length=tb t o ds
theorem EY (h:i<1):i=0:=by omega
theorem TIs.steps {t:TV} (h:TIs t o ds):UV t o ds:=by
 intro wb base W qv da dc hT hQ hD hq hd;have hq0:o=none->∃a c,qv= .slice a 0 c:=λ e=>by subst e;exact hQ
 cases h with
 | @attach tag q htag hok=>
  obtain⟨qa,qc,rfl⟩:=hq0 rfl;refine⟨λ i=>if i=0 then _ else((((TV.cl ({typ:=105,tag:=tag,q:=q}:TV) (.slice qa 0 qc) (.slice da 0 dc)).set 7 (.bool false)).set 8 (iI 0)).set 9 (iI 0)),λ i=>if i=0 then[] else[]++q.b,rfl,rfl,λ i hi V hV hS=> ?_,⟨_,_,_,_,rfl,by first|exact hD|exact Sl.nil _⟩,rfl⟩;obtain rfl:=EY hi;obtain rfl:=hV rfl;exact Jx hS ⟨rfl,rfl,rfl⟩ hok (by simp)
 | @error tag code htag hc=>
  obtain⟨qa,qc,rfl⟩:=hq0 rfl;refine⟨λ i=>if i=0 then _ else((TV.cl ({typ:=107,tag:=tag,code:=code}:TV) (.slice qa 0 qc) (.slice da 0 dc)).set 2 (iI 0)),λ i=>if i=0 then[] else[]++leN code 2,rfl,rfl,λ i hi V hV hS=> ?_,⟨_,_,_,_,rfl,by first|exact hD|exact Sl.nil _⟩,rfl⟩;obtain rfl:=EY hi;obtain rfl:=hV rfl;exact Sv hS rfl hc.1 hc.2 (by simp)
 | @walk0 tag htag=>
  obtain⟨qa,qc,rfl⟩:=hq0 rfl;refine⟨λ i=>if i=0 then _ else((TV.cl ({typ:=111,tag:=tag}:TV) (.slice qa 0 qc) (.slice da 0 dc)).set 10 (nN)),λ i=>if i=0 then[] else[]++leN 0 2,rfl,rfl,λ i hi V hV hS=> ?_,⟨_,_,_,_,rfl,by first|exact hD|exact Sl.nil _⟩,rfl⟩;obtain rfl:=EY hi;obtain rfl:=hV rfl;exact QL (a:=qa) (c:=qc) hS rfl (by simp)
 | @walk1 tag q htag hok=>
  obtain⟨rg,ro,c,rfl,h1,h2,h3,h4,h5⟩:=id hQ;refine⟨λ i=>if i=0 then _ else((({typ:=111,tag:=tag}:TV).cl (sS rg ro 1 c) (.slice da 0 dc)).set 10 (nN)),λ i=>if i=0 then[] else[]++leN 1 2++q.b,rfl,rfl,λ i hi V hV hS=> ?_,⟨_,_,_,_,rfl,by first|exact hD|exact Sl.nil _⟩,?_⟩
  ·obtain rfl:=EY hi;obtain rfl:=hV rfl;exact QK hS rfl hQ (hq rg ro c rfl) hok (by simp)
  ·show[]++leN 1 2++q.b=leN 1 2++(q.b++[])
   simp
 | @open_ tag iounit q htag hok hi0=>
  obtain⟨qa,qc,rfl⟩:=hq0 rfl;refine⟨λ i=>if i=0 then _ else if i=1 then((((TV.cl ({typ:=113,tag:=tag,q:=q,iounit:=iounit}:TV) (.slice qa 0 qc) (.slice da 0 dc)).set 7 (.bool false)).set 8 (iI 0)).set 9 (iI 0)) else(((((TV.cl ({typ:=113,tag:=tag,q:=q,iounit:=iounit}:TV) (.slice qa 0 qc) (.slice da 0 dc)).set 7 (.bool false)).set 8 (iI 0)).set 9 (iI 0)).set 4 (iI 0)),λ i=>if i=0 then[] else if i=1 then[]++q.b else[]++q.b++leN iounit 4,rfl,rfl,λ i hi V hV hS=> ?_,⟨_,_,_,_,rfl,by first|exact hD|exact Sl.nil _⟩,rfl⟩;have hi2:i<2:=hi;obtain rfl|rfl:i=0\/i=1:=by omega
  ·obtain rfl:=hV rfl;exact Jx hS ⟨rfl,rfl,rfl⟩ hok (by simp)
  ·exact NQ (n:=iounit) hS rfl hi0.1 hi0.2 (by simp[QI.b_len])
 | @create tag iounit q htag hok hi0=>
  obtain⟨qa,qc,rfl⟩:=hq0 rfl;refine⟨λ i=>if i=0 then _ else if i=1 then((((TV.cl ({typ:=115,tag:=tag,q:=q,iounit:=iounit}:TV) (.slice qa 0 qc) (.slice da 0 dc)).set 7 (.bool false)).set 8 (iI 0)).set 9 (iI 0)) else(((((TV.cl ({typ:=115,tag:=tag,q:=q,iounit:=iounit}:TV) (.slice qa 0 qc) (.slice da 0 dc)).set 7 (.bool false)).set 8 (iI 0)).set 9 (iI 0)).set 4 (iI 0)),λ i=>if i=0 then[] else if i=1 then[]++q.b else[]++q.b++leN iounit 4,rfl,rfl,λ i hi V hV hS=> ?_,⟨_,_,_,_,rfl,by first|exact hD|exact Sl.nil _⟩,rfl⟩;have hi2:i<2:=hi;obtain rfl|rfl:i=0\/i=1:=by omega
  ·obtain rfl:=hV rfl;exact Jx hS ⟨rfl,rfl,rfl⟩ hok (by simp)
  ·exact NQ (n:=iounit) hS rfl hi0.1 hi0.2 (by simp[QI.b_len])
 | @read tag ds htag hds=>
  obtain⟨qa,qc,rfl⟩:=hq0 rfl;refine⟨λ i=>if i=0 then _ else((TV.cl ({typ:=117,tag:=tag}:TV) (.slice qa 0 qc) (.slice da ds.length dc)).set 11 (nN)),λ i=>if i=0 then[] else[]++leN ds.length 4++ds,rfl,rfl,λ i hi V hV hS=> ?_,⟨_,_,_,_,rfl,by first|exact hD|exact Sl.nil _⟩,rfl⟩;obtain rfl:=EY hi;obtain rfl:=hV rfl;exact Su hS rfl hD hd hds.1 (by simp)
 | @write tag count htag hc=>
  obtain⟨qa,qc,rfl⟩:=hq0 rfl;refine⟨λ i=>if i=0 then _ else((TV.cl ({typ:=119,tag:=tag,count:=count}:TV) (.slice qa 0 qc) (.slice da 0 dc)).set 5 (iI 0)),λ i=>if i=0 then[] else[]++leN count 4,rfl,rfl,λ i hi V hV hS=> ?_,⟨_,_,_,_,rfl,by first|exact hD|exact Sl.nil _⟩,rfl⟩;obtain rfl:=EY hi;obtain rfl:=hV rfl;exact Sw hS rfl hc.1 hc.2 (by simp)
 | @wstat tag htag=>
  obtain⟨qa,qc,rfl⟩:=hq0 rfl;exact⟨λ _=>_,λ _=>[],rfl,rfl,λ i hi=>absurd hi (by simp[Av]),⟨_,_,_,_,rfl,by first|exact hD|exact Sl.nil _⟩,rfl⟩
theorem tkH {P:Program} {md:Region.Mode} {ops:Array Oper} {Q:Exit->Act->World->Prop} {S:World->Prop} {d:Tmp} {oi:Oper} {fuel:Nat} {listed:Array Bool} {a:Act} (hi:ops[i]?=some oi) (hd:oi.dst=some d) (hs:Region.noSelect ops=true) (hf:Region.free md ops listed i=true) (hr:(Region.ready md ops listed).contains i=true) (hQ:∀c a w,Q (.panic c) (a.put oi.dst v) w->Q (.panic c) a w) (hy:YieldsIf P ops S oi v a) (hS:S w) (h:wpAnyH P md ops Q S fuel (listed.setIfInBounds i true) (a.put (some d) v) w):wpAnyH P md ops Q S (fuel+1) listed a w:=
 wpAnyH_take hi hs hf hr hQ hy hS (hd▸h)
theorem SlQ.ext {w':World} (h:SlQ w v o) (hx:Ext w w'):SlQ w' v o:=by
 cases o with
 |none=>exact h
 |some q=>
  obtain⟨rg,ro,c,rfl,h1,h2,h3,h4,h5⟩:=h;exact⟨rg,ro,c,rfl,h1,h2,hx.cell h3,hx.cell h4,hx.cell h5⟩
theorem SlQ.sl (h:SlQ w v o):∃a n c,v= .slice a n c:=by
 cases o with
 |none=>obtain⟨a,c,rfl⟩:=h;exact⟨_,_,_,rfl⟩
 |some q=>obtain⟨rg,ro,c,rfl,-⟩:=h;exact⟨_,_,_,rfl⟩
theorem LI {l:List Int} (h:w.heap[g]?=some (.cells (l.map (Value.int .i64)).toArray 3 (0,0))) (hi:i<l.length):w.cell? (dD g i)=some (iI (l[i])):=by
 rw[cO h];simp[hi]
theorem TW.reb (h:TW wb base ts ls w0 W):TW wb base ts ls W W:=⟨h.h,h.l,h.wf,h.len,Upd.refl _ _,h.ne.1,Nat.le_trans h.ne.2 h.u.size⟩
theorem Ii {t:TV} (q:TIs t o ds) {qv dv:Value} (hq:SlQ w qv o) (hd:Sl w dv ds) (hqo:∀g p c,qv= sS g p 1 c->g<w.heap.size) (hdo:∀g,dv.ownBlock=some g->g<w.heap.size):
  Calls prog 158 #[t.val qv dv] w λ r w'=>∃v,r= .returned (.tuple #[v,.bool true])/\AA w' w.heap.size 5 v (bv (tb t o ds))/\Wf (tb t o ds)/\Ext w w':=by
 have HQ:=hid hq;have HD:=hid hd;obtain⟨qa,qn,qc,rfl⟩:=hq.sl;have HQO:=hid hqo;have HDO:=hid hdo;clear hq hqo;obtain⟨da,dc,rfl,-⟩:=hd;clear hdo;obtain⟨W0,hW0⟩:∃W,W=w.alloc (.cells (t.cl (.slice qa qn qc) (.slice da ds.length dc)).toArray 39):=⟨_,rfl⟩;have h0:W0.heap[w.heap.size]?=some (.cells (t.cl (.slice qa qn qc) (.slice da ds.length dc)).toArray 39 (0,0)):=by rw[hW0];exact Ub w _
 have X0:Ext w W0:=by rw[hW0];exact(Ext.refl w).alloc _
 have HX0:=hid X0;have HB0:=hid h0;have hbl:=lH h0;have a0:W0.cell? (dD w.heap.size 0)=some (iI t.typ):=cO h0 0;have a1:W0.cell? (dD w.heap.size 1)=some (iI t.tag):=cO h0 1;have HWE:=hid hW0;have HT:=hid q;have hr:=q.r;have HG:=hid q.tg;dsimp only[TV.val,TV.cl] at HWE|-
 clear q h0 X0 hW0;go_in;go_wp2_with (rw[<-HWE.o]);clear HWE;refine(Ge hr W0).mono ?_;rintro r w1 ⟨v,rfl,hP,X1⟩;generalize Value.agg (tT t.typ t.tag t.code t.iounit t.count t.q.dir t.q.ver t.q.path (.slice qa qn qc) (.slice da ds.length dc))=A0;have HP:=hid hP;have HX1:=hid (HX0.o.trans X1);have hz1:=X1.size;have hb1:=X1.heap HB0.o;clear a0 a1;have a0:w1.cell? (dD w.heap.size 0)=some (iI t.typ):=cO hb1 0;have a1:w1.cell? (dD w.heap.size 1)=some (iI t.tag):=cO hb1 1;obtain⟨pa,pc,hv⟩:∃pa pc,v= .slice pa (Av t.typ).length pc:=by
  rcases hP with⟨e,rfl⟩|⟨g,rfl,-⟩
  ·exact⟨none,0,by rw[e];rfl⟩
  ·exact⟨_,_,rfl⟩
 subst hv;obtain⟨n,hn⟩:∃n,n=(Av t.typ).length:=⟨_,rfl⟩;have HN:=hid hn;rw[<-hn];obtain⟨W2,hW2⟩:∃W,W=w1.alloc (.cells ((t.cl (.slice qa qn qc) (.slice da ds.length dc))++[Value.slice none 0 0,Value.bool true]).toArray 373):=⟨_,rfl⟩;have h2:TWC w1.heap.size (t.cl (.slice qa qn qc) (.slice da ds.length dc)) (nN) W2:=by rw[hW2];exact Ub w1 _
 have X2:Ext w1 W2:=by rw[hW2];exact(Ext.refl w1).alloc _
 have hb2:=X2.heap hb1;have hwl:=lH h2;have hTW:TW w1.heap.size (w1.heap.size+1) (t.cl (.slice qa qn qc) (.slice da ds.length dc)) [] W2 W2:=⟨⟨none,0,h2,AA.nil _ _ _⟩,rfl,Wf.nil,by simp,Upd.refl _ _,by omega⟩;have HTW:=hid hTW;have HE2:=hid (show W2=w1.alloc (.cells #[iI t.typ,iI t.tag,iI t.code,iI 0,iI t.iounit,iI t.count,eE,.bool t.q.dir,iI t.q.ver,iI t.q.path,.slice qa qn qc,.slice da ds.length dc,.bool false,iI 0,iI 0,iI 0,iI 0,eE,nN,.bool true] 373) from hW2);have HX2:=hid (HX1.o.trans X2);have HX12:=hid X2;have HB1:=hid hb1;have c20:W2.cell? (dD w.heap.size 1)=some (iI t.tag):=cO hb2 1;clear hP X1 X2 hb1 hb2 hn h2 hTW hW2 hr;go_wp2_with (first|rw[<-HE2.o]|(refine wpList_load_row rfl 39 (.tmp 1) rfl w.heap.size rfl 39 (tT t.typ t.tag t.code t.iounit t.count t.q.dir t.q.ver t.q.path (.slice qa qn qc) (.slice da ds.length dc)) (0,0) _ HB1.o underlying39 rfl (by kernel_rfl) ?_));generalize Value.agg #[iI t.typ,iI t.tag,iI t.code,iI 0,iI t.iounit,iI t.count,eE,.bool t.q.dir,iI t.q.ver,iI t.q.path,.slice qa qn qc,.slice da ds.length dc,.bool false,iI 0,iI 0,iI 0,iI 0,eE,nN,.bool true]=A2
 generalize Value.agg (tT t.typ t.tag t.code t.iounit t.count t.q.dir t.q.ver t.q.path (.slice qa qn qc) (.slice da ds.length dc))=A1;refine(Dp HTW.o HG.o.1 (show t.tag<=65535 by have:=HG.o.2;omega)).mono ?_;rintro e w3 ⟨rfl,hw3⟩;have hT3:TW w1.heap.size (w1.heap.size+1) (t.cl (.slice qa qn qc) (.slice da ds.length dc)) [] W2 w3:=by rw[hw3];exact HTW.o.okset
 have hU3:Upd [w1.heap.size] W2 w3:=hT3.u;have hq3:SlQ w3 (.slice qa qn qc) o:=(HQ.o.ext HX2.o).upd hU3 (λ g p hg=>by rcases hg with hg|⟨c,hg⟩<;>have:=HQO.o _ _ _ hg<;>simp<;>omega);have hd3:Sl w3 (.slice da ds.length dc) ds:=(HD.o.ext HX2.o).updv hU3 (λ g hg=>by have:=HDO.o g hg;simp;omega);obtain⟨C,B,hC0,hB0,hst,⟨ya,yc,za,zc,hCn,hZn⟩,hBn⟩:=HT.o.steps w1.heap.size (w1.heap.size+1) w3 (.slice qa qn qc) da dc hT3.reb hq3 hd3 (λ g p c hg=>by have:=HQO.o _ _ _ hg;omega) (λ g hg=>by have:=HDO.o g hg;omega);have HST:=hid hst;have HCN:=hid hCn;have HZN:=hid hZn;have HBN:=hid hBn;have hS0:TW w1.heap.size (w1.heap.size+1) (C 0) (B 0) w3 w3:=by rw[hC0,hB0];exact hT3.reb
 have HS0:=hid hS0;have HU3:=hid hU3;have hnl:n<=2:=by rw[HN.o];rcases HT.o.r with h|h|h|h|h|h|h|h<;>rw[h]<;>decide
 clear hw3 hT3 hU3 hq3 hd3 hst hCn hZn hBn hC0 hB0 hS0 c20;clear a0 a1;go_wp2_with fail;go_loopw [25] (λ v25 wr=>∃i:Nat,i<=n/\v25= iI i/\(i=0->wr=w3)/\TW w1.heap.size (w1.heap.size+1) (C i) (B i) w3 wr) (λ v25 _=>n-(intOf v25).toNat)
 case atStart=>exact⟨0,by omega,rfl,λ _=>rfl,HS0.o⟩
 case round=>
  obtain⟨i,hi,rfl,h0,hR⟩:=hrel;have H0:=hid h0;have HR:=hid hR;clear h0 hR;have hk0:(0:Int)<=(i:Int):=by omega
  by_cases hlt:i<n
  ·have hkn:(i:Int)<(n:Int):=by omega
   have hkl:i<(Av t.typ).length:=by rw[<-HN.o];exact hlt
   obtain⟨g,hpa,hg⟩:∃g,pa=some ⟨g,0,none⟩/\w1.heap[g]?=some (.cells ((Av t.typ).map (Value.int .i64)).toArray 3 (0,0)):=by
    rcases HP.o with⟨e,-⟩|⟨g,e,h⟩
    ·rw[e] at hkl;simp at hkl
    ·simp only[Value.slice.injEq] at e;exact⟨g,e.1,h⟩
   subst hpa;obtain⟨f,hf⟩:∃f,f=(Av t.typ)[i]:=⟨_,rfl⟩;have hgl:=lH hg;have cf:wr.cell? (dD g i)=some (iI f):=by
    rw[hf];exact LI ((HU3.o.trans HR.o.u).heap (HX12.o.heap hg) (by simp;omega)) hkl
   have HW:=hid (HST.o i hkl wr H0.o);have HF:=hid hf;have e2:IntKind.i64.wrap ((i:Int)+1)=(i:Int)+1:=Uh _ (by omega);clear hf hg;go_wp2_with fail;rw[HF.o];refine(HW.o HR.o).mono ?_;rintro e w4 ⟨rfl,hR4⟩;have HR4:=hid hR4;clear hR4 cf;go_wp2_with fail;go_roundw
   case rel=>exact⟨i+1,by omega,congrArg (Value.int .i64) (by omega),λ h=>absurd h (by omega),HR4.o⟩
   case measure=>simp only[intOf];omega
  ·have hkn:¬(i:Int)<(n:Int):=by omega
   have hin:i=n:=by omega
   subst hin;rw[HN.o,HCN.o,HBN.o] at HR;obtain⟨va,vc,hT3,hO⟩:=HR.o.h;have HO:=hid hO;have HWf:=hid HR.o.wf;have g0:wr.cell? (dD w1.heap.size 0)=some (iI t.typ):=TWC.t hT3 rfl;have g1:wr.cell? (dD w1.heap.size 1)=some (iI t.tag):=TWC.t hT3 rfl;have g2:wr.cell? (dD w1.heap.size 2)=some (iI 0):=TWC.t hT3 rfl;have g3:wr.cell? (dD w1.heap.size 3)=some (iI 0):=TWC.t hT3 rfl;have g4:wr.cell? (dD w1.heap.size 4)=some (iI 0):=TWC.t hT3 rfl;have g5:wr.cell? (dD w1.heap.size 5)=some (iI 0):=TWC.t hT3 rfl;have g6:wr.cell? (dD w1.heap.size 6)=some (eE):=TWC.t hT3 rfl;have g7:wr.cell? (dD w1.heap.size 7)=some (.bool false):=TWC.t hT3 rfl;have g8:wr.cell? (dD w1.heap.size 8)=some (iI 0):=TWC.t hT3 rfl;have g9:wr.cell? (dD w1.heap.size 9)=some (iI 0):=TWC.t hT3 rfl;have g10:wr.cell? (dD w1.heap.size 10)=some (.slice ya 0 yc):=TWC.t hT3 rfl;have g11:wr.cell? (dD w1.heap.size 11)=some (.slice za 0 zc):=TWC.t hT3 rfl;have g12:wr.cell? (dD w1.heap.size 12)=some (.bool false):=TWC.t hT3 rfl;have g13:wr.cell? (dD w1.heap.size 13)=some (iI 0):=TWC.t hT3 rfl;have g14:wr.cell? (dD w1.heap.size 14)=some (iI 0):=TWC.t hT3 rfl;have g15:wr.cell? (dD w1.heap.size 15)=some (iI 0):=TWC.t hT3 rfl;have g16:wr.cell? (dD w1.heap.size 16)=some (iI 0):=TWC.t hT3 rfl;have g17:wr.cell? (dD w1.heap.size 17)=some (eE):=TWC.t hT3 rfl;have hbr:=(HU3.o.trans HR.o.u).heap (HX12.o.heap HB1.o) (by simp;omega)
   obtain⟨m,hm⟩:∃m,m=(tb t o ds).length:=⟨_,rfl⟩;have HM:=hid hm;have g18:wr.cell? (dD w1.heap.size 18)=some (.slice va m vc):=by rw[hm];exact TWC.b hT3 rfl
   have g19:wr.cell? (dD w1.heap.size 19)=some (.bool true):=TWC.ok hT3 rfl;have g20:wr.cell? (dD w.heap.size 0)=some (iI t.typ):=cO hbr 0;have g21:wr.cell? (dD w.heap.size 1)=some (iI t.tag):=cO hbr 1;clear hm hT3 hO hbr hk0;go_wp2_with fail;have hrg:∀W,Ext wr W->W.rangeAt w1.heap.size 0 ((tT t.typ t.tag 0 0 0 false 0 0 (.slice ya 0 yc) (.slice za 0 zc)):Array Value).toList:=λ W hW j v hv=>by
    rw[Nat.zero_add]
    match j,hv with
    |0,hv=>exact hW.cell (g0.trans hv)
    |1,hv=>exact hW.cell (g1.trans hv)
    |2,hv=>exact hW.cell (g2.trans hv)
    |3,hv=>exact hW.cell (g3.trans hv)
    |4,hv=>exact hW.cell (g4.trans hv)
    |5,hv=>exact hW.cell (g5.trans hv)
    |6,hv=>exact hW.cell (g6.trans hv)
    |7,hv=>exact hW.cell (g7.trans hv)
    |8,hv=>exact hW.cell (g8.trans hv)
    |9,hv=>exact hW.cell (g9.trans hv)
    |10,hv=>exact hW.cell (g10.trans hv)
    |11,hv=>exact hW.cell (g11.trans hv)
    |12,hv=>exact hW.cell (g12.trans hv)
    |13,hv=>exact hW.cell (g13.trans hv)
    |14,hv=>exact hW.cell (g14.trans hv)
    |15,hv=>exact hW.cell (g15.trans hv)
    |16,hv=>exact hW.cell (g16.trans hv)
    |17,hv=>exact hW.cell (g17.trans hv)
    |k+18,hv=>simp at hv
   refine wp_region_held (S:=λ W=>Ext wr W) DE ?_;have XD:Ext wr {wr with drawn:=wr.drawn+1}:=(Ext.refl wr).drew;refine tkH (i:=0) (d:=33) (v:= pP w1.heap.size 0) rfl rfl (by kernel_rfl) (by kernel_rfl) (by kernel_rfl) (λ _ _ _ h=>h) (.inl ⟨by kernel_rfl,λ W hW=>by go_simp⟩) XD ?_;simp only[Act.put,List.setIfInBounds_toArray,List.set_cons_zero,List.set_cons_succ];refine tkH (i:=1) (d:=34) (v:= pP w1.heap.size 0) rfl rfl (by kernel_rfl) (by kernel_rfl) (by kernel_rfl) (λ _ _ _ h=>h) (.inl ⟨by kernel_rfl,λ W hW=>by go_simp⟩) XD ?_;simp only[Act.put,List.setIfInBounds_toArray,List.set_cons_zero,List.set_cons_succ];refine tkH (i:=2) (d:=35) (v:= pP w1.heap.size 18) rfl rfl (by kernel_rfl) (by kernel_rfl) (by kernel_rfl) (λ _ _ _ h=>h) (.inl ⟨by kernel_rfl,λ W hW=>by go_simp⟩) XD ?_;simp only[Act.put,List.setIfInBounds_toArray,List.set_cons_zero,List.set_cons_succ];refine tkH (i:=3) (d:=36) (v:= .slice va m vc) rfl rfl (by kernel_rfl) (by kernel_rfl) (by kernel_rfl) (λ _ _ _ h=>h) (.inl ⟨by kernel_rfl,λ W hW=>by have:=hW.cell g18;go_simp⟩) XD ?_;simp only[Act.put,List.setIfInBounds_toArray,List.set_cons_zero,List.set_cons_succ];refine tkH (i:=4) (d:=37) (v:= pP w1.heap.size 0) rfl rfl (by kernel_rfl) (by kernel_rfl) (by kernel_rfl) (λ _ _ _ h=>h) (.inl ⟨by kernel_rfl,λ W hW=>by go_simp⟩) XD ?_;simp only[Act.put,List.setIfInBounds_toArray,List.set_cons_zero,List.set_cons_succ];refine tkH (i:=5) (d:=38) (v:= pP w1.heap.size 0) rfl rfl (by kernel_rfl) (by kernel_rfl) (by kernel_rfl) (λ _ _ _ h=>h) (.inl ⟨by kernel_rfl,λ W hW=>by go_simp⟩) XD ?_
   simp only[Act.put,List.setIfInBounds_toArray,List.set_cons_zero,List.set_cons_succ];refine tkH (i:=6) (d:=39) (v:= pP w1.heap.size 19) rfl rfl (by kernel_rfl) (by kernel_rfl) (by kernel_rfl) (λ _ _ _ h=>h) (.inl ⟨by kernel_rfl,λ W hW=>by go_simp⟩) XD ?_;simp only[Act.put,List.setIfInBounds_toArray,List.set_cons_zero,List.set_cons_succ];refine tkH (i:=7) (d:=40) (v:= .bool true) rfl rfl (by kernel_rfl) (by kernel_rfl) (by kernel_rfl) (λ _ _ _ h=>h) (.inl ⟨by kernel_rfl,λ W hW=>by have:=hW.cell g19;go_simp⟩) XD ?_;simp only[Act.put,List.setIfInBounds_toArray,List.set_cons_zero,List.set_cons_succ];refine tkH (i:=8) (d:=41) (v:= .bool true) rfl rfl (by kernel_rfl) (by kernel_rfl) (by kernel_rfl) (λ _ _ _ h=>h) (.inl ⟨by kernel_rfl,λ W hW=>by go_simp⟩) XD ?_;simp only[Act.put,List.setIfInBounds_toArray,List.set_cons_zero,List.set_cons_succ];refine tkH (i:=9) (d:=42) (v:= pP w1.heap.size 0) rfl rfl (by kernel_rfl) (by kernel_rfl) (by kernel_rfl) (λ _ _ _ h=>h) (.inl ⟨by kernel_rfl,λ W hW=>by go_simp⟩) XD ?_;simp only[Act.put,List.setIfInBounds_toArray,List.set_cons_zero,List.set_cons_succ];refine tkH (i:=10) (d:=43) (v:= pP w1.heap.size 0) rfl rfl (by kernel_rfl) (by kernel_rfl) (by kernel_rfl) (λ _ _ _ h=>h) (.inl ⟨by kernel_rfl,λ W hW=>by go_simp⟩) XD ?_;simp only[Act.put,List.setIfInBounds_toArray,List.set_cons_zero,List.set_cons_succ];refine tkH (i:=11) (d:=44) (v:= pP w1.heap.size 0) rfl rfl (by kernel_rfl) (by kernel_rfl) (by kernel_rfl) (λ _ _ _ h=>h) (.inl ⟨by kernel_rfl,λ W hW=>by go_simp⟩) XD ?_
   simp only[Act.put,List.setIfInBounds_toArray,List.set_cons_zero,List.set_cons_succ];refine tkH (i:=12) (d:=45) rfl rfl (by kernel_rfl) (by kernel_rfl) (by kernel_rfl) (λ _ _ _ h=>h) (yieldsIf_load_mid (by kernel_rfl) 39 (.tmp 44) rfl w1.heap.size 0 (by go_simp) ((tT t.typ t.tag 0 0 0 false 0 0 (.slice ya 0 yc) (.slice za 0 zc)):Array Value).toList _ (λ W hW=>hrg W hW) underlying39 rfl (by kernel_rfl)) XD ?_;simp only[Act.put,List.setIfInBounds_toArray,List.set_cons_zero,List.set_cons_succ];refine tkH (i:=13) (d:=46) (v:= pP w.heap.size 0) rfl rfl (by kernel_rfl) (by kernel_rfl) (by kernel_rfl) (λ _ _ _ h=>h) (.inl ⟨by kernel_rfl,λ W hW=>by go_simp⟩) XD ?_;simp only[Act.put,List.setIfInBounds_toArray,List.set_cons_zero,List.set_cons_succ];refine tkH (i:=14) (d:=47) (v:= iI t.typ) rfl rfl (by kernel_rfl) (by kernel_rfl) (by kernel_rfl) (λ _ _ _ h=>h) (.inl ⟨by kernel_rfl,λ W hW=>by have:=hW.cell g20;go_simp⟩) XD ?_;simp only[Act.put,List.setIfInBounds_toArray,List.set_cons_zero,List.set_cons_succ];refine tkH (i:=15) (d:=48) (v:= pP w.heap.size 1) rfl rfl (by kernel_rfl) (by kernel_rfl) (by kernel_rfl) (λ _ _ _ h=>h) (.inl ⟨by kernel_rfl,λ W hW=>by go_simp⟩) XD ?_;simp only[Act.put,List.setIfInBounds_toArray,List.set_cons_zero,List.set_cons_succ];refine tkH (i:=16) (d:=49) (v:= iI t.tag) rfl rfl (by kernel_rfl) (by kernel_rfl) (by kernel_rfl) (λ _ _ _ h=>h) (.inl ⟨by kernel_rfl,λ W hW=>by have:=hW.cell g21;go_simp⟩) XD ?_
   simp only[Act.put,List.setIfInBounds_toArray,List.set_cons_zero,List.set_cons_succ];refine tkH (i:=17) (d:=50) (v:= .agg (tT t.typ t.tag 0 0 0 false 0 0 (nN) (nN))) rfl rfl (by kernel_rfl) (by kernel_rfl) (by kernel_rfl) (λ _ _ _ h=>h) (.inl ⟨by kernel_rfl,λ W hW=>by go_simp⟩) XD ?_;simp only[Act.put,List.setIfInBounds_toArray,List.set_cons_zero,List.set_cons_succ];refine wpAnyH_ready (rs:=[18]) (by kernel_rfl) (by simp) ?_;refine AllReadyH.cons rfl (λ K hK=> ?_) AllReadyH.nil;go_simp;refine(Jw _ _ (HZN.o.any _) (Sl.nil _)).mono ?_;rintro r w5 ⟨rfl,X5⟩;refine hK.out _ _ (XD.trans X5) (λ _=> ?_);clear hK K
   try simp only[Act.put,List.setIfInBounds_toArray,List.set_cons_zero,List.set_cons_succ]
   refine tkH (i:=19) (d:=52) (v:= .bool true) rfl rfl (by kernel_rfl) (by kernel_rfl) (by kernel_rfl) (λ _ _ _ h=>h) (.inl ⟨by kernel_rfl,λ W hW=>by go_simp⟩) (XD.trans X5) ?_;simp only[Act.put,List.setIfInBounds_toArray,List.set_cons_zero,List.set_cons_succ];refine tkH (i:=20) (d:=2) (v:= .slice va m vc) rfl rfl (by kernel_rfl) (by kernel_rfl) (by kernel_rfl) (λ _ _ _ h=>h) (.inl ⟨by kernel_rfl,λ W hW=>by go_simp⟩) (XD.trans X5) ?_;simp only[Act.put,List.setIfInBounds_toArray,List.set_cons_zero,List.set_cons_succ];refine tkH (i:=21) (d:=3) (v:= .bool true) rfl rfl (by kernel_rfl) (by kernel_rfl) (by kernel_rfl) (λ _ _ _ h=>h) (.inl ⟨by kernel_rfl,λ W hW=>by go_simp⟩) (XD.trans X5) ?_;simp only[Act.put,List.setIfInBounds_toArray,List.set_cons_zero,List.set_cons_succ];refine wpAnyH_done (by kernel_rfl) ?_ _;have HX5:=hid (show Ext wr w5 from XD.trans X5);clear g0 g1 g2 g3 g4 g5 g6 g7 g8 g9 g10 g11 g12 g13 g14 g15 g16 g17 g18 g19 g20 g21 X5 XD hrg;go_wp2_with fail;go_ret2;rw[HM.o];exact⟨_,rfl,(HO.o.ext HX5.o).low (by have:=HX0.o.size;omega),HWf.o,((HU3.o.trans HR.o.u).ext HX2.o (by have:=HX0.o.size;simp;omega)).trans HX5.o⟩
theorem troom (h:24<n) (h2:n<=65536) (w:World):Calls prog 339 #[iI n] w λ r w'=>r= .returned (iI (n-24))/\w=w':=by
 have e:IntKind.i64.wrap (n-24)=n-24:=Uh _ (by omega);have hd:decide (n<=24)=false:=by simp;omega
 go_in;go_wp2_with fail;go_ret;exact⟨rfl,rfl⟩
theorem A8 {c0 c1 c2 c3 c4 c5 c6 c7 c8 c9 c10 c11 c12 c13 c14 c15 c16 c17:Value} {t:TypeId} (h:w.heap[g]?=oC #[c0,c1,c2,c3,c4,c5,c6,c7,c8,c9,c10,c11,c12,c13,c14,c15,c16,c17] t):
  w.cell? (dD g 0)=some c0/\w.cell? (dD g 1)=some c1/\w.cell? (dD g 2)=some c2/\w.cell? (dD g 3)=some c3/\w.cell? (dD g 4)=some c4/\w.cell? (dD g 5)=some c5/\w.cell? (dD g 6)=some c6/\w.cell? (dD g 7)=some c7/\w.cell? (dD g 8)=some c8/\w.cell? (dD g 9)=some c9/\w.cell? (dD g 10)=some c10/\w.cell? (dD g 11)=some c11/\w.cell? (dD g 12)=some c12/\w.cell? (dD g 13)=some c13/\w.cell? (dD g 14)=some c14/\w.cell? (dD g 15)=some c15/\w.cell? (dD g 16)=some c16/\w.cell? (dD g 17)=some c17/\(∀o,w.frozen? (dD g o)=false):=
 ⟨cO h 0,cO h 1,cO h 2,cO h 3,cO h 4,cO h 5,cO h 6,cO h 7,cO h 8,cO h 9,cO h 10,cO h 11,cO h 12,cO h 13,cO h 14,cO h 15,cO h 16,cO h 17,fO h⟩
theorem iT:(prog.info? 39).map (·.size)=some 18:=by kernel_rfl
theorem ET (tag code:Int) (w:World):Calls prog 113 #[iI tag,iI code] w λ r w'=>r= .returned (({typ:=107,tag:=tag,code:=code}:TV).val (nN) (nN))/\Ext w w':=by
 go_in;go_wp2_with (refine wpList_store_row rfl 39 (.tmp 4) (.tmp 7) rfl w.heap.size (tT 107 tag code 0 0 false 0 0 (nN) (nN)) rfl rfl 39 tZ (Ub w _) iT rfl rfl ?_;rw[World.setRow_alloc_new]);exact Ue (Uj rfl _ _ w.heap.size 39 (tT 107 tag code 0 0 false 0 0 (nN) (nN)) (0,0) _ rfl (Ub w _) underlying39 rfl iT) rfl ⟨rfl,(Ext.refl w).alloc _⟩
theorem QP (h1 h2 k m s:Int) (w:World):Calls prog 262 #[.agg #[iI h1,iI h2,iI k,iI m,iI s]] w λ r w'=>r= .returned (.agg #[.bool (k==1),iI h2,iI h1])/\Ext w w':=by
 go_in;go_wp2_with fail;refine Ue (v:= .agg #[.bool (k==1),iI h2,iI h1]) (by simp[results,results262,go_sem]) rfl ⟨rfl,?_⟩;exact((Ext.refl w).alloc _).alloc _
theorem Hs (h:m=0\/m=1\/m=2) (w:World):Calls prog 338 #[iI m] w λ r w'=>r= .returned (.tuple #[iI m,.bool true])/\w=w':=by
 rcases h with rfl|rfl|rfl
 all_goals
  go_in;go_wp2_with fail;go_ret2;exact⟨rfl,rfl⟩
theorem LA {h1 h2 md s:Int} (h:m=0\/m=1\/m=2) (hk:(k==1)=false) (w:World):Calls prog 267 #[iI m,.agg #[iI h1,iI h2,iI k,iI md,iI s]] w λ r w'=>r= .returned (iI 0)/\Ext w w':=by
 go_in;go_wp2_with fail;refine(Hs h _).mono ?_;rintro r w1 ⟨rfl,rfl⟩;go_wp2_with fail;go_ret;exact⟨rfl,(Ext.refl w).alloc _⟩
theorem S7 (h:m=0\/m=2) (w:World):Calls prog 273 #[iI m] w λ r w'=>r= .returned (.bool true)/\w=w':=by
 have HC:=hid (Hs (m:=m) (by omega) w);rcases h with rfl|rfl
 all_goals
  go_in;go_wp2_with fail;refine HC.o.mono ?_;rintro r w1 ⟨rfl,rfl⟩;go_wp2_with fail;go_ret;exact⟨rfl,rfl⟩
theorem QN (h:m=1\/m=2) (w:World):Calls prog 275 #[iI m] w λ r w'=>r= .returned (.bool true)/\w=w':=by
 have HC:=hid (Hs (m:=m) (by omega) w);rcases h with rfl|rfl
 all_goals
  go_in;go_wp2_with fail;refine HC.o.mono ?_;rintro r w1 ⟨rfl,rfl⟩;go_wp2_with fail;go_ret;exact⟨rfl,rfl⟩
theorem scuts (h:m=0\/m=1\/m=2) (w:World):Calls prog 268 #[iI m] w λ r w'=>r= .returned (.bool false)/\w=w':=by
 go_in;go_wp2_with fail;refine(Hs h _).mono ?_;rintro r w1 ⟨rfl,rfl⟩;go_wp2_with fail;go_ret;exact⟨rfl,rfl⟩
theorem sperm (w:World):Calls prog 270 #[iI 420] w λ r w'=>r= .returned (.tuple #[iI 420,.bool false,iI 0])/\w=w':=by
 go_in;go_wp2_with fail;exact Ue (v:= .tuple #[iI 420,.bool false,iI 0]) (by simp[results,results270,go_sem];exact⟨by decide,by decide⟩) rfl ⟨rfl,rfl⟩
end Go.Proofs.YtdakioiagpkfhaaGreatDoor
