import Derived.Test.YtdakioiagpkfhaaGreatDoorP25
set_option maxRecDepth 99999
set_option maxHeartbeats 0
set_option linter.all false
namespace Go.Proofs.YtdakioiagpkfhaaGreatDoor
open RowKit Conc
open Go.Proofs.Tryz
variable {S:List Nat} {W w w' w0 w1:World} {ab av b base fv g hb hv i lr xc:Nat} {ds ds' ls zs zs':List Int} {n:Int} {ns ns':List ByteArray} {s:ByteArray} {v x y:Value} {xa:Option Addr}
theorem LrW.upd {e:Int} (h:LrW w g e zs) (hx:Upd S w w') (hg:g∉S) (hs:∀b i z,w.cell? (dD b i)=some (.int .u8 z)->b∉S):LrW w' g e zs:=by
 obtain⟨v,h1,h2⟩:=h;exact⟨v,hx.heap h1 hg,h2.upd hx hs⟩
def QV.setI (a:QV) (i:Nat) (n:Int):QV:=match i with|2=>{a with fid:=n}|3=>{a with nfid:=n}|6=>{a with mode:=n}|7=>{a with perm:=n}|8=>{a with off:=n}|9=>{a with count:=n}|12=>{a with size:=n}|_=>a
def isF (i:Nat):Prop:=i=2\/i=3\/i=6\/i=7\/i=8\/i=9\/i=12
theorem QB.setI {a:QV} (h:QB b a x y w) (hi:isF i) (n:Int):QB b (a.setI i n) x y (w.setCell (dD b i) (iI n)):=by
 rcases hi with rfl|rfl|rfl|rfl|rfl|rfl|rfl
 all_goals exact jP _ h
theorem QB.setName {a:QV} (h:QB b a x y w) (s:ByteArray):QB b {a with name:=s} x y (w.setCell (dD b 10) (.string s)):=jP (i:=10) (.string s) h
theorem QB.free {a:QV} (h:QB b a x y w):∀o,w.frozen? (dD b o)=false:=fO h
theorem QB.num {a:QV} (h:QB b a x y w) (hi:isF i):∃v,w.cell? (dD b i)=some (iI v):=by
 rcases hi with rfl|rfl|rfl|rfl|rfl|rfl|rfl
 all_goals exact⟨_,cO h _⟩
theorem QB.txt {a:QV} (h:QB b a x y w):w.cell? (dD b 10)=some (.string a.name):=cO h 10
theorem QB.nobyte {a:QV} (h:QB b a x y w) (hx:∀z,x≠ .int .u8 z) (hy:∀z,y≠ .int .u8 z):∀b' i z,w.cell? (dD b' i)=some (.int .u8 z)->b'∉[b]:=
 _root_.Go.Proofs.YtdakioiagpkfhaaGreatDoor.nobyte h (by
  intro v hv z;simp only[QV.cells,List.mem_toArray,Um,List.not_mem_nil,or_false] at hv;rcases hv with rfl|rfl|rfl|rfl|rfl|rfl|rfl|rfl|rfl|rfl|rfl|rfl|rfl|rfl<;>first|exact hx z|exact hy z|simp)
structure RdQ (lr hb ab hv av fv base:Nat) (a:QV) (ns:List ByteArray) (ds zs:List Int) (w0 W:World):Prop where
 r:LrW W lr 0 zs
 h:W.heap[hb]?=oC #[pP lr 0,.bool false] 296
 q:∃xa xc ya yc,QB ab a (.slice xa ns.length xc) (.slice ya ds.length yc) W/\AA W base 9 (.slice xa ns.length xc) (sv ns)/\AA W base 5 (.slice ya ds.length yc) (bv ds)/\(ns=[]->xa=none/\xc=0)
 c:Cv 294 hb ab hv av fv W
 u:Upd [lr,ab] w0 W
 wf:Wf ds
 ne:lr≠ab/\hb≠lr/\hb≠ab/\hv≠lr/\hv≠ab/\av≠lr/\av≠ab/\fv≠lr/\fv≠ab/\lr<base/\ab<base/\base<=w0.heap.size
theorem RdQ.drew {a:QV} (h:RdQ lr hb ab hv av fv base a ns ds zs w0 W):RdQ lr hb ab hv av fv base a ns ds zs w0 W.drew:=
 ⟨h.r,h.h,h.q,⟨h.c.h,h.c.a,h.c.f⟩,h.u.drew,h.wf,h.ne⟩
theorem Cv.upd {T:TypeId} (h:Cv T hb ab hv av fv w) (hu:Upd S w w') (h1:hv∉S) (h2:av∉S) (h3:fv∉S):Cv T hb ab hv av fv w':=⟨hu.cell h.h h1,hu.cell h.a h2,hu.cell h.f h3⟩
theorem RdQ.step {a a':QV} (h:RdQ lr hb ab hv av fv base a ns ds zs w0 W) (hr:LrW w1 lr 0 zs') (hu:Upd [lr] W w1) (hq:∀xa xc ya yc,QB ab a (.slice xa ns.length xc) (.slice ya ds.length yc) w1->AA w1 base 9 (.slice xa ns.length xc) (sv ns)->AA w1 base 5 (.slice ya ds.length yc) (bv ds)->(ns=[]->xa=none/\xc=0)->
   ∃xa xc ya yc,QB ab a' (.slice xa ns'.length xc) (.slice ya ds'.length yc) (w1.setCell (dD ab i) v)/\AA w1 base 9 (.slice xa ns'.length xc) (sv ns')/\AA w1 base 5 (.slice ya ds'.length yc) (bv ds')/\(ns'=[]->xa=none/\xc=0)) (hwf:Wf ds'):
  RdQ lr hb ab hv av fv base a' ns' ds' zs' w0 (w1.setCell (dD ab i) v):=by
 obtain⟨q1,q2,q3,q4,q5,q6,q7,q8,q9,q10,q11,q12⟩:=h.ne;obtain⟨xa,xc,ya,yc,hQ,hN,hD,hE⟩:=h.q;have hlo:∀{e:TypeId} {x:Value} {xs:List Value} {w:World},AA w base e x xs->∀g,x.ownBlock=some g->g∉[lr]/\g∉[ab]:=λ o g hg=>by have:=(o.lt hg).1;simp;omega
 have hQ1:QB ab a (.slice xa ns.length xc) (.slice ya ds.length yc) w1:=hu.heap hQ (by simp;omega);have U2:Upd [ab] w1 (w1.setCell (dD ab i) v):=(Upd.refl _ _).setCell _ _ (.inl (by simp));obtain⟨xa',xc',ya',yc',p1,p2,p3,p4⟩:=hq xa xc ya yc hQ1 (hN.upd hu (λ g hg=>(hlo hN g hg).1)) (hD.upd hu (λ g hg=>(hlo hD g hg).1)) hE;exact⟨hr.upd U2 (by simpa using q1) (hQ1.nobyte (by simp) (by simp)),U2.heap (hu.heap h.h (by simpa using q2)) (by simpa using q3),⟨xa',xc',ya',yc',p1,p2.upd U2 (λ g hg=>(hlo p2 g hg).2),p3.upd U2 (λ g hg=>(hlo p3 g hg).2),p4⟩,
  (h.c.upd hu (by simpa using q4) (by simpa using q6) (by simpa using q8)).upd U2 (by simpa using q5) (by simpa using q7) (by simpa using q9),(h.u.trans (hu.mono (by simp))).trans (U2.mono (by simp)),hwf,h.ne⟩
theorem LD {a:QV} (h:RdQ lr hb ab hv av fv base a ns ds (leN n 1++zs) w0 W) (hi:isF i) (hn0:0<=n) (hn1:n<256):
  Calls prog 473 #[pP hb 0,pP ab i,iI 8] W λ e w'=>e= .returned (.tuple #[])/\RdQ lr hb ab hv av fv base (a.setI i n) ns ds zs w0 w':=by
 have HR:=hid (lr8 h.r hn0 (by omega));have HQ:=hid h;have b0:=cO h.h 0;have e1:IntKind.i64.wrap n=n:=Uh _ (by omega);clear h;go_in;go_wp2_with fail;refine HR.o.mono ?_;rintro r w1 ⟨rfl,R1,U1⟩;obtain⟨q1,-⟩:=HQ.o.ne;obtain⟨xa,xc,ya,yc,hQ,-,-,-⟩:=HQ.o.q;have hQ1:QB ab a (.slice xa ns.length xc) (.slice ya ds.length yc) w1:=U1.heap hQ (by simp;omega);obtain⟨v,cv⟩:=hQ1.num hi;have cf:=hQ1.free;have HR1:=hid R1;have HU1:=hid U1;clear R1 U1 hQ hQ1 b0;go_wp2_with fail;go_end0;exact⟨rfl,HQ.o.step HR1.o HU1.o (λ xa xc ya yc p1 p2 p3 p4=>⟨xa,xc,ya,yc,p1.setI hi n,p2,p3,p4⟩) HQ.o.wf⟩
theorem BE {a:QV} (h:RdQ lr hb ab hv av fv base a ns ds (leN n 4++zs) w0 W) (hi:isF i) (hn0:0<=n) (hn1:n<4294967296):
  Calls prog 473 #[pP hb 0,pP ab i,iI 32] W λ e w'=>e= .returned (.tuple #[])/\RdQ lr hb ab hv av fv base (a.setI i n) ns ds zs w0 w':=by
 have HR:=hid (ID h.r hn0 (by omega));have HQ:=hid h;have b0:=cO h.h 0;have e1:IntKind.i64.wrap n=n:=Uh _ (by omega);clear h;go_in;go_wp2_with fail;refine HR.o.mono ?_;rintro r w1 ⟨rfl,R1,U1⟩;obtain⟨q1,-⟩:=HQ.o.ne;obtain⟨xa,xc,ya,yc,hQ,-,-,-⟩:=HQ.o.q;have hQ1:QB ab a (.slice xa ns.length xc) (.slice ya ds.length yc) w1:=U1.heap hQ (by simp;omega);obtain⟨v,cv⟩:=hQ1.num hi;have cf:=hQ1.free;have HR1:=hid R1;have HU1:=hid U1;clear R1 U1 hQ hQ1 b0;go_wp2_with fail;go_end0;exact⟨rfl,HQ.o.step HR1.o HU1.o (λ xa xc ya yc p1 p2 p3 p4=>⟨xa,xc,ya,yc,p1.setI hi n,p2,p3,p4⟩) HQ.o.wf⟩
theorem VJ {a:QV} (h:RdQ lr hb ab hv av fv base a ns ds (leN n 8++zs) w0 W) (hi:isF i) (hn0:0<=n) (hn1:n<4611686018427387905):
  Calls prog 473 #[pP hb 0,pP ab i,iI 64] W λ e w'=>e= .returned (.tuple #[])/\RdQ lr hb ab hv av fv base (a.setI i n) ns ds zs w0 w':=by
 have HR:=hid (lr64 h.r hn0 (by omega));have HQ:=hid h;have b0:=cO h.h 0;have e1:IntKind.i64.wrap n=n:=Uh _ (by omega);clear h;go_in;go_wp2_with fail;refine HR.o.mono ?_;rintro r w1 ⟨rfl,R1,U1⟩;obtain⟨q1,-⟩:=HQ.o.ne;obtain⟨xa,xc,ya,yc,hQ,-,-,-⟩:=HQ.o.q;have hQ1:QB ab a (.slice xa ns.length xc) (.slice ya ds.length yc) w1:=U1.heap hQ (by simp;omega);obtain⟨v,cv⟩:=hQ1.num hi;have cf:=hQ1.free;have HR1:=hid R1;have HU1:=hid U1;clear R1 U1 hQ hQ1 b0;go_wp2_with fail;go_end0;exact⟨rfl,HQ.o.step HR1.o HU1.o (λ xa xc ya yc p1 p2 p3 p4=>⟨xa,xc,ya,yc,p1.setI hi n,p2,p3,p4⟩) HQ.o.wf⟩
theorem Hu {a:QV} (h:RdQ lr hb ab hv av fv base a ns ds (leN s.size 2++(sb s++zs)) w0 W) (hs:s.size<65536):
  Calls prog 475 #[pP hb 0,pP ab 10] W λ e w'=>e= .returned (.tuple #[])/\RdQ lr hb ab hv av fv base {a with name:=s} ns ds zs w0 w':=by
 have HR:=hid (OK h.r hs);have HQ:=hid h;have b0:=cO h.h 0;clear h;go_in;go_wp2_with fail;refine HR.o.mono ?_;rintro r w1 ⟨rfl,R1,U1⟩;obtain⟨q1,-⟩:=HQ.o.ne;obtain⟨xa,xc,ya,yc,hQ,-,-,-⟩:=HQ.o.q;have hQ1:QB ab a (.slice xa ns.length xc) (.slice ya ds.length yc) w1:=U1.heap hQ (by simp;omega);have cv:=hQ1.txt;have cf:=hQ1.free;have HR1:=hid R1;have HU1:=hid U1;clear R1 U1 hQ hQ1 b0;go_wp2_with fail;go_end0;exact⟨rfl,HQ.o.step HR1.o HU1.o (λ xa xc ya yc p1 p2 p3 p4=>⟨xa,xc,ya,yc,p1.setName s,p2,p3,p4⟩) HQ.o.wf⟩
theorem Qc {a:QV} {ys:List Int} (h:RdQ lr hb ab hv av fv base a ns ds (leN ys.length 4++(ys++zs)) w0 W) (hs:ys.length<=1024):
  Calls prog 471 #[pP hb 0,pP ab 13] W λ e w'=>e= .returned (.tuple #[])/\RdQ lr hb ab hv av fv base a ns ys zs w0 w':=by
 have hwy:Wf ys:=λ z hz=>h.r.wf z (by simp[hz])
 have HWy:=hid hwy;have HR:=hid (OL h.r hs);have HQ:=hid h;have b0:=cO h.h 0;have hz0:=h.u.size;clear h hwy;go_in;go_wp2_with fail;refine HR.o.mono ?_;rintro r w1 ⟨v1,rfl,O1,R1,U1⟩;obtain⟨va,vc,rfl,-,-⟩:=O1.sl HWy.o;obtain⟨n,hn⟩:∃n,n=ys.length:=⟨_,rfl⟩;rw[<-hn] at O1|-
 have HN:=hid hn;clear hn;obtain⟨q1,-,-,-,-,-,-,-,-,q10,q11,q12⟩:=HQ.o.ne;obtain⟨xa,xc,ya,yc,hQ,-,-,-⟩:=HQ.o.q;have hQ1:QB ab a (.slice xa ns.length xc) (.slice ya ds.length yc) w1:=U1.heap hQ (by simp;omega);have cv:=hQ1.c13;have cf:=hQ1.free;have HR1:=hid R1;have HU1:=hid U1;have HO1:=hid (O1.low (b':=base) (by omega));clear R1 U1 hQ hQ1 b0 O1;go_wp2_with fail;go_end0;refine⟨rfl,HQ.o.step HR1.o HU1.o (λ xa xc ya yc p1 p2 p3 p4=>⟨xa,xc,va,vc,?_,p2,?_,p4⟩) HWy.o⟩
 ·rw[HN.o];exact p1.p13 _
 ·rw[<-HN.o];exact HO1.o
theorem RdQ.on {a:QV} (h:RdQ lr hb ab hv av fv base a ns ds zs w0 W) (hr:LrW w1 lr 0 zs') (hu:Upd [lr] W w1):RdQ lr hb ab hv av fv base a ns ds zs' w0 w1:=by
 obtain⟨q1,q2,q3,q4,q5,q6,q7,q8,q9,q10,q11,q12⟩:=h.ne;obtain⟨xa,xc,ya,yc,hQ,hN,hD,hE⟩:=h.q;have hlo:∀{e:TypeId} {x:Value} {xs:List Value} {w:World},AA w base e x xs->∀g,x.ownBlock=some g->g∉[lr]:=λ o g hg=>by have:=(o.lt hg).1;simp;omega
 exact⟨hr,hu.heap h.h (by simpa using q2),⟨xa,xc,ya,yc,hu.heap hQ (by simp;omega),hN.upd hu (hlo hN),hD.upd hu (hlo hD),hE⟩,h.c.upd hu (by simpa using q4) (by simpa using q6) (by simpa using q8),h.u.trans (hu.mono (by simp)),h.wf,h.ne⟩
theorem MJ {a:QV} (h:RdQ lr hb ab hv av fv base a ns ds (leN 0 2++zs) w0 W):
  Calls prog 472 #[pP hb 0,pP ab 11] W λ e w'=>e= .returned (.tuple #[])/\RdQ lr hb ab hv av fv base a ns ds zs w0 w':=by
 have HR:=hid (OM h.r (by omega) (by omega));have HQ:=hid h;have b0:=cO h.h 0;clear h;go_in;go_wp2_with fail;refine HR.o.mono ?_;rintro r w1 ⟨rfl,R1,U1⟩;have HD:=hid (HQ.o.on R1 U1);clear R1 U1 b0 HQ HR;go_wp2_with fail;go_loop [17] (λ v=>v= iI 0) (λ _=>0)
 case atStart=>rfl
 case round=>
  subst hrel;go_wp2_with fail;go_end0;exact⟨rfl,HD.o⟩
theorem S6 (w:World) (s:ByteArray) (W:World) (h:W=w.alloc (.cells #[.string s] 9)):∃v w3,(Builtin.append_ #[41,41] 41 #[nN,sS w.heap.size 0 1 1]).run prog W= .ok v w3/\AA w3 w.heap.size 9 v (sv [s])/\Ext w w3:=by
 subst h;have h0:AA (w.alloc (.cells #[.string s] 9)) w.heap.size 9 (nN) []:=AA.nil _ _ _;obtain⟨v',w',h1,h2,h3⟩:=Jd h0 (a:=some ⟨w.heap.size,0,none⟩) (len:=1) (c:=1) (ns:=[s]) rfl (.inr ⟨w.heap.size,0,rfl,λ i hi=>by
  have:i=0:=by simp at hi;omega
  subst this;exact cO (Ub w _) 0⟩) (λ e=>by cases e) (by simp) (by simp) 41
 exact⟨v',w',h1,h2,Uu h3 ((Ext.refl w).alloc _) (λ g hg=>by simp[Value.ownBlock] at hg)⟩
theorem MI {a:QV} (h:RdQ lr hb ab hv av fv base a [] ds (leN 1 2++(leN s.size 2++(sb s++zs))) w0 W) (hs:s.size<65536):
  Calls prog 472 #[pP hb 0,pP ab 11] W λ e w'=>e= .returned (.tuple #[])/\RdQ lr hb ab hv av fv base a [s] ds zs w0 w':=by
 have HR:=hid (OM h.r (by omega) (by omega));have HQ:=hid h;have b0:=cO h.h 0;obtain⟨xa,xc,ya,yc,hQ,-,-,hn⟩:=h.q;obtain⟨rfl,rfl⟩:=hn rfl;have HQB:=hid hQ;have hne:=h.ne;clear h hn hQ;go_in;go_wp2_with fail;refine HR.o.mono ?_;rintro r w1 ⟨rfl,R1,U1⟩;have HD:=hid (HQ.o.on R1 U1);have HQB1:=hid (show QB ab a (nN) (.slice ya ds.length yc) w1 from U1.heap HQB.o (by simp;omega));clear R1 U1 b0 HQ HR HQB;go_wp2_with fail;go_loopw [17] (λ v wr=>(v= iI 0/\wr=w1)\/(v= iI 1/\RdQ lr hb ab hv av fv base a [s] ds zs w0 wr)) (λ v _=>2-(intOf v).toNat)
 case atStart=>exact .inl ⟨rfl,rfl⟩
 case round=>
  rcases hrel with⟨rfl,rfl⟩|⟨rfl,hD⟩
  ·have b0:=cO HD.o.h 0;have c11:=HQB1.o.c11;have HC:=hid (show Calls prog 344 #[pP lr 0] wr.drew λ r w2=>r= .returned (.string s)/\∃v w3,(Builtin.append_ #[41,41] 41 #[nN,sS w2.heap.size 0 1 1]).run prog (w2.alloc (.cells #[.string s] 9))= .ok v w3/\AA w3 w2.heap.size 9 v (sv [s])/\LrW w3 lr 0 zs/\Upd [lr] wr w3/\wr.heap.size<=w2.heap.size/\Upd [lr] wr w2 from
    (OK (w:=wr.drew) HD.o.r hs).mono (by
     rintro r w2 ⟨e,R2,U2⟩;obtain⟨v,w3,g1,g2,g3⟩:=S6 w2 s _ rfl;exact⟨e,v,w3,g1,g2,R2.ext g3,((Upd.refl [lr] wr).drew.trans U2).trans (g3.upd _),(show wr.drew.heap.size<=_ from U2.size),(Upd.refl [lr] wr).drew.trans U2⟩))
   go_wp2_with fail;go_region_law (first|(refine AU rfl (.tmp 22) (.tmp 28) _ rfl _ _ _ rfl rfl (by assumption) ?_)|(go_simp;go_at_call 344;refine HC.o.mono ?_;rintro r w2 ⟨rfl,v,w3,g1,g2,g3,g4,g5,g6⟩;have hQ2:=(show QB ab a (nN) (.slice ya ds.length yc) w2 from g6.heap HQB1.o (by simp;omega));have j11:=hQ2.c11;have jl:=lH hQ2;obtain⟨va,vc,rfl,-⟩:=g2.slS;have hQ3:=(show QB ab a (nN) (.slice ya ds.length yc) w3 from g4.heap HQB1.o (by simp;omega));have d11:=hQ3.c11;have df:=hQ3.free;have dl:=lH hQ3))
   all_goals
    have hfin:RdQ lr hb ab hv av fv base a [s] ds zs w0 (w3.setCell (dD ab 11) (.slice va 1 vc)):=HD.o.step g3 g4 (λ xa xc ya yc p1 p2 p3 p4=>⟨va,vc,ya,yc,p1.p11 _,g2.low (by have:=HD.o.u.size;have:=HD.o.ne;omega),p3,by simp⟩) HD.o.wf;have HFin:=hid hfin;clear g1 g2 g3 g4 g5 g6 hfin hQ2 hQ3 j11 jl d11 df dl c11 b0;go_wp2_with fail;go_roundw
    case rel=>exact .inr ⟨by go_num,HFin.o⟩
    case measure=>simp[intOf]
  ·go_wp2_with fail;go_end0;exact⟨rfl,hD⟩
theorem Qb {a:QV} (h:RdQ lr hb ab hv av fv base a ns ds (leN 4294967295 4++zs) w0 W):
  Calls prog 474 #[pP hb 0,pP ab 12] W λ e w'=>e= .returned (.tuple #[])/\RdQ lr hb ab hv av fv base {a with size:= -1} ns ds zs w0 w':=by
 have HR:=hid (ID h.r (by omega) (by omega));have HQ:=hid h;have b0:=cO h.h 0;clear h;go_in;go_wp2_with fail;refine HR.o.mono ?_;rintro r w1 ⟨rfl,R1,U1⟩;obtain⟨q1,-⟩:=HQ.o.ne;obtain⟨xa,xc,ya,yc,hQ,-,-,-⟩:=HQ.o.q;have hQ1:QB ab a (.slice xa ns.length xc) (.slice ya ds.length yc) w1:=U1.heap hQ (by simp;omega);obtain⟨v,cv⟩:=hQ1.num (i:=12) (by simp[isF]);have cf:=hQ1.free;have HR1:=hid R1;have HU1:=hid U1;clear R1 U1 hQ hQ1 b0;go_wp2_with fail;go_end0;have s1:=HQ.o.step HR1.o HU1.o (λ xa xc ya yc p1 p2 p3 p4=>⟨xa,xc,ya,yc,p1.setI (i:=12) (by simp[isF]) 4294967295,p2,p3,p4⟩) HQ.o.wf;exact⟨rfl,s1.step s1.r (Upd.refl _ _) (λ xa xc ya yc p1 p2 p3 p4=>⟨xa,xc,ya,yc,p1.setI (i:=12) (by simp[isF]) (-1),p2,p3,p4⟩) s1.wf⟩
def QV.getI (a:QV) (i:Nat):Int:=match i with|2=>a.fid|3=>a.nfid|6=>a.mode|7=>a.perm|8=>a.off|9=>a.count|12=>a.size|_=>0
theorem QB.getI {a:QV} (h:QB b a x y w) (hi:isF i):w.cell? (dD b i)=some (iI (a.getI i)):=by
 rcases hi with rfl|rfl|rfl|rfl|rfl|rfl|rfl
 all_goals exact cO h _
structure WrQ (hb ab hv av fv base:Nat) (a:QV) (ns:List ByteArray) (ds ls:List Int) (w0 W:World):Prop where
 h:∃xa xc,W.heap[hb]?=oC #[.slice xa ls.length xc,.bool true] 428/\AA W base 5 (.slice xa ls.length xc) (bv ls)
 wf:Wf ls
 len:ls.length<=50000
 q:∃xa xc ya yc,QB ab a (.slice xa ns.length xc) (.slice ya ds.length yc) W/\SlS W (.slice xa ns.length xc) ns/\Sl W (.slice ya ds.length yc) ds/\(∀g,(Value.slice xa ns.length xc).ownBlock=some g->g∉[hb,ab])/\(∀g,(Value.slice ya ds.length yc).ownBlock=some g->g∉[hb,ab])
 c:Cv 426 hb ab hv av fv W
 u:Upd [hb,ab] w0 W
 ne:hb≠ab/\hv≠hb/\hv≠ab/\av≠hb/\av≠ab/\fv≠hb/\fv≠ab/\hb<base/\ab<base/\base<=w0.heap.size
theorem WrQ.drew {a:QV} (h:WrQ hb ab hv av fv base a ns ds ls w0 W):WrQ hb ab hv av fv base a ns ds ls w0 W.drew:=
 ⟨h.h,h.wf,h.len,h.q,⟨h.c.h,h.c.a,h.c.f⟩,h.u.drew,h.ne⟩
theorem WrQ.ext {a:QV} {W':World} (h:WrQ hb ab hv av fv base a ns ds ls w0 W) (hx:Ext W W'):WrQ hb ab hv av fv base a ns ds ls w0 W':=by
 obtain⟨xa,xc,h1,h2⟩:=h.h;obtain⟨na,nc,ya,yc,q1,q2,q3,q4,q5⟩:=h.q;exact⟨⟨xa,xc,hx.heap h1,h2.ext hx⟩,h.wf,h.len,⟨na,nc,ya,yc,hx.heap q1,q2.ext hx,q3.ext hx,q4,q5⟩,⟨hx.cell h.c.h,hx.cell h.c.a,hx.cell h.c.f⟩,h.u.trans (hx.upd _),h.ne⟩
theorem WrQ.okset {a:QV} (h:WrQ hb ab hv av fv base a ns ds ls w0 W):WrQ hb ab hv av fv base a ns ds ls w0 (W.setCell (dD hb 1) (.bool true)):=by
 obtain⟨p1,p2,p3,p4,p5,p6,p7,p8,p9,p10⟩:=h.ne;obtain⟨xa,xc,h1,h2⟩:=h.h;obtain⟨na,nc,ya,yc,q1,q2,q3,q4,q5⟩:=h.q;have U:Upd [hb] W (W.setCell (dD hb 1) (.bool true)):=(Upd.refl _ _).setCell _ _ (.inl (by simp));refine⟨⟨xa,xc,jP (i:=1) (.bool true) h1,h2.upd U (λ g hg=>by have:=(h2.lt hg).1;simp;omega)⟩,h.wf,h.len,⟨na,nc,ya,yc,U.heap q1 (by simpa using Ne.symm p1),q2.upd U (λ g hg hm=>q4 g hg (by simp at hm;simp[hm])),q3.updv U (λ g hg hm=>q5 g hg (by simp at hm;simp[hm])),q4,q5⟩,h.c.upd U (by simpa using p2) (by simpa using p4) (by simpa using p6),h.u.trans (U.mono (by simp)),h.ne⟩
theorem WrQ.lay {a:QV} {ls':List Int} (h:WrQ hb ab hv av fv base a ns ds ls w0 W) (ho:AA W base 5 (.slice xa ls'.length xc) (bv ls')) (hw:Wf ls') (hl:ls'.length<=50000):WrQ hb ab hv av fv base a ns ds ls' w0 (W.setCell (dD hb 0) (.slice xa ls'.length xc)):=by
 obtain⟨p1,p2,p3,p4,p5,p6,p7,p8,p9,p10⟩:=h.ne;obtain⟨xa',xc',h1,h2⟩:=h.h;obtain⟨na,nc,ya,yc,q1,q2,q3,q4,q5⟩:=h.q;have U:Upd [hb] W (W.setCell (dD hb 0) (.slice xa ls'.length xc)):=(Upd.refl _ _).setCell _ _ (.inl (by simp));refine⟨⟨xa,xc,jP (i:=0) _ h1,ho.upd U (λ g hg=>by have:=(ho.lt hg).1;simp;omega)⟩,hw,hl,⟨na,nc,ya,yc,U.heap q1 (by simpa using Ne.symm p1),q2.upd U (λ g hg hm=>q4 g hg (by simp at hm;simp[hm])),q3.updv U (λ g hg hm=>q5 g hg (by simp at hm;simp[hm])),q4,q5⟩,h.c.upd U (by simpa using p2) (by simpa using p4) (by simpa using p6),h.u.trans (U.mono (by simp)),h.ne⟩
theorem WrQ.fld {a a':QV} (h:WrQ hb ab hv av fv base a ns ds ls w0 W) (hq:∀xa xc ya yc,QB ab a (.slice xa ns.length xc) (.slice ya ds.length yc) W->SlS W (.slice xa ns.length xc) ns->Sl W (.slice ya ds.length yc) ds->(∀g,(Value.slice xa ns.length xc).ownBlock=some g->g∉[hb,ab])->(∀g,(Value.slice ya ds.length yc).ownBlock=some g->g∉[hb,ab])->
   ∃xa xc ya yc,QB ab a' (.slice xa ns'.length xc) (.slice ya ds'.length yc) (W.setCell (dD ab i) v)/\SlS W (.slice xa ns'.length xc) ns'/\Sl W (.slice ya ds'.length yc) ds'/\(∀g,(Value.slice xa ns'.length xc).ownBlock=some g->g∉[hb,ab])/\(∀g,(Value.slice ya ds'.length yc).ownBlock=some g->g∉[hb,ab])):
  WrQ hb ab hv av fv base a' ns' ds' ls w0 (W.setCell (dD ab i) v):=by
 obtain⟨p1,p2,p3,p4,p5,p6,p7,p8,p9,p10⟩:=h.ne;obtain⟨xa,xc,h1,h2⟩:=h.h;obtain⟨na,nc,ya,yc,q1,q2,q3,q4,q5⟩:=h.q;have U:Upd [ab] W (W.setCell (dD ab i) v):=(Upd.refl _ _).setCell _ _ (.inl (by simp));obtain⟨na',nc',ya',yc',r1,r2,r3,r4,r5⟩:=hq _ _ _ _ q1 q2 q3 q4 q5;exact⟨⟨xa,xc,U.heap h1 (by simpa using p1),h2.upd U (λ g hg=>by have:=(h2.lt hg).1;simp;omega)⟩,h.wf,h.len,⟨na',nc',ya',yc',r1,r2.upd U (λ g hg hm=>r4 g hg (by simp at hm;simp[hm])),r3.updv U (λ g hg hm=>r5 g hg (by simp at hm;simp[hm])),r4,r5⟩,h.c.upd U (by simpa using p3) (by simpa using p5) (by simpa using p7),h.u.trans (U.mono (by simp)),h.ne⟩
theorem Kx {a:QV} (h:WrQ hb ab hv av fv base a ns ds ls w0 W) (hi:isF i) (hn0:0<=a.getI i) (hn1:a.getI i<256) (hl:ls.length<=40000):
  Calls prog 479 #[pP hb 0,pP ab i,iI 8] W λ e w'=>e= .returned (.tuple #[])/\WrQ hb ab hv av fv base (a.setI i 0) ns ds (ls++leN (a.getI i) 1) w0 w':=by
 obtain⟨p1,-,-,-,-,-,-,p8,p9,p10⟩:=h.ne;have hz0:=h.u.size;obtain⟨xa,xc,h1,h2⟩:=h.h;obtain⟨na,nc,ya,yc,q1,q2,q3,-,-⟩:=h.q;have HQ:=hid h;have HB:=hid h1;have HQB:=hid q1;have b0:=cA h1 0 rfl;have c0:=q1.getI hi;obtain⟨n,hn⟩:∃n,n=a.getI i:=⟨_,rfl⟩;rw[<-hn] at c0 hn0 hn1|-
 have e1:IntKind.u8.wrap n=n:=IntWalk.u8_in _ (by omega);have d2:decide (n<=255)=true:=by simp;omega
 have HWn:=hid (h.wf.app (AQ n 1));have HC:=hid (lu8 (h2.sl h.wf) n hn0 (by omega) (by omega));have HI:=hid hi;clear h h1 h2 q1 q2 q3 hi hn;go_in;go_wp2_with fail;refine HC.o.mono ?_;rintro r w1 ⟨v1,rfl,O1,X1⟩;obtain⟨va,vc,rfl,-,-⟩:=O1.sl HWn.o;have hO1:=O1.low (b':=base) (by omega);have HO1:=hid hO1;have HX1:=hid X1;have hq1:QB ab a (.slice na ns.length nc) (.slice ya ds.length yc) w1:=X1.heap HQB.o;have b0':=cA (X1.heap HB.o) 0 rfl;have b1':=cA (X1.heap HB.o) 1 rfl;have bf':=fO (X1.heap HB.o);have cf':=hq1.free;have c0':=X1.cell c0;obtain⟨m,hm⟩:∃m,m=(ls++leN n 1).length:=⟨_,rfl⟩;rw[<-hm] at O1 hO1|-
 have HM:=hid hm;clear hm O1 hO1 X1 hq1 b0 c0;go_wp2_with fail;go_end0;have s1:=(((HQ.o.ext HX1.o).lay HO1.o HWn.o (by rw[Uc,lL];omega)).okset).fld (λ xa xc ya yc p1 p2 p3 p4 p5=>⟨xa,xc,ya,yc,p1.setI HI.o 0,p2,p3,p4,p5⟩);rw[<-HM.o] at s1;exact⟨rfl,s1⟩
theorem BD {a:QV} (h:WrQ hb ab hv av fv base a ns ds ls w0 W) (hi:isF i) (hn0:0<=a.getI i) (hn1:a.getI i<4294967296) (hl:ls.length<=40000):
  Calls prog 479 #[pP hb 0,pP ab i,iI 32] W λ e w'=>e= .returned (.tuple #[])/\WrQ hb ab hv av fv base (a.setI i 0) ns ds (ls++leN (a.getI i) 4) w0 w':=by
 obtain⟨p1,-,-,-,-,-,-,p8,p9,p10⟩:=h.ne;have hz0:=h.u.size;obtain⟨xa,xc,h1,h2⟩:=h.h;obtain⟨na,nc,ya,yc,q1,q2,q3,-,-⟩:=h.q;have HQ:=hid h;have HB:=hid h1;have HQB:=hid q1;have b0:=cA h1 0 rfl;have c0:=q1.getI hi;obtain⟨n,hn⟩:∃n,n=a.getI i:=⟨_,rfl⟩;rw[<-hn] at c0 hn0 hn1|-
 have e1:IntKind.u32.wrap n=n:=IntWalk.u32_in _ (by omega);have d2:decide (n<=4294967295)=true:=by simp;omega
 have HWn:=hid (h.wf.app (AQ n 4));have HC:=hid (KM (h2.sl h.wf) n hn0 (by omega) (by omega));have HI:=hid hi;clear h h1 h2 q1 q2 q3 hi hn;go_in;go_wp2_with fail;refine HC.o.mono ?_;rintro r w1 ⟨v1,rfl,O1,X1⟩;obtain⟨va,vc,rfl,-,-⟩:=O1.sl HWn.o;have hO1:=O1.low (b':=base) (by omega);have HO1:=hid hO1;have HX1:=hid X1;have hq1:QB ab a (.slice na ns.length nc) (.slice ya ds.length yc) w1:=X1.heap HQB.o;have b0':=cA (X1.heap HB.o) 0 rfl;have b1':=cA (X1.heap HB.o) 1 rfl;have bf':=fO (X1.heap HB.o);have cf':=hq1.free;have c0':=X1.cell c0;obtain⟨m,hm⟩:∃m,m=(ls++leN n 4).length:=⟨_,rfl⟩;rw[<-hm] at O1 hO1|-
 have HM:=hid hm;clear hm O1 hO1 X1 hq1 b0 c0;go_wp2_with fail;go_end0;have s1:=(((HQ.o.ext HX1.o).lay HO1.o HWn.o (by rw[Uc,lL];omega)).okset).fld (λ xa xc ya yc p1 p2 p3 p4 p5=>⟨xa,xc,ya,yc,p1.setI HI.o 0,p2,p3,p4,p5⟩);rw[<-HM.o] at s1;exact⟨rfl,s1⟩
theorem VH {a:QV} (h:WrQ hb ab hv av fv base a ns ds ls w0 W) (hi:isF i) (hn0:0<=a.getI i) (hn1:a.getI i<4611686018427387905) (hl:ls.length<=40000):
  Calls prog 479 #[pP hb 0,pP ab i,iI 64] W λ e w'=>e= .returned (.tuple #[])/\WrQ hb ab hv av fv base (a.setI i 0) ns ds (ls++leN (a.getI i) 8) w0 w':=by
 obtain⟨p1,-,-,-,-,-,-,p8,p9,p10⟩:=h.ne;have hz0:=h.u.size;obtain⟨xa,xc,h1,h2⟩:=h.h;obtain⟨na,nc,ya,yc,q1,q2,q3,-,-⟩:=h.q;have HQ:=hid h;have HB:=hid h1;have HQB:=hid q1;have b0:=cA h1 0 rfl;have c0:=q1.getI hi;obtain⟨n,hn⟩:∃n,n=a.getI i:=⟨_,rfl⟩;rw[<-hn] at c0 hn0 hn1|-
 have e1:IntKind.u64.wrap n=n:=IntWalk.u64_in _ (by omega);have d2:decide (n<=4611686018427387904)=true:=by simp;omega
 have HWn:=hid (h.wf.app (AQ n 8));have HC:=hid (Tb (h2.sl h.wf) n hn0 (by omega) (by omega));have HI:=hid hi;clear h h1 h2 q1 q2 q3 hi hn;go_in;go_wp2_with fail;refine HC.o.mono ?_;rintro r w1 ⟨v1,rfl,O1,X1⟩;obtain⟨va,vc,rfl,-,-⟩:=O1.sl HWn.o;have hO1:=O1.low (b':=base) (by omega);have HO1:=hid hO1;have HX1:=hid X1;have hq1:QB ab a (.slice na ns.length nc) (.slice ya ds.length yc) w1:=X1.heap HQB.o;have b0':=cA (X1.heap HB.o) 0 rfl;have b1':=cA (X1.heap HB.o) 1 rfl;have bf':=fO (X1.heap HB.o);have cf':=hq1.free;have c0':=X1.cell c0;obtain⟨m,hm⟩:∃m,m=(ls++leN n 8).length:=⟨_,rfl⟩;rw[<-hm] at O1 hO1|-
 have HM:=hid hm;clear hm O1 hO1 X1 hq1 b0 c0;go_wp2_with fail;go_end0;have s1:=(((HQ.o.ext HX1.o).lay HO1.o HWn.o (by rw[Uc,lL];omega)).okset).fld (λ xa xc ya yc p1 p2 p3 p4 p5=>⟨xa,xc,ya,yc,p1.setI HI.o 0,p2,p3,p4,p5⟩);rw[<-HM.o] at s1;exact⟨rfl,s1⟩
theorem GQ {pb pi:Nat} (h1:W.heap[hb]?=oC #[.slice xa ls.length xc,.bool true] 428) (hS:Sl W (.slice xa ls.length xc) ls) (hl:ls.length<=40000) (hp:W.cell? (dD pb pi)=some (.string s)) (hf:W.frozen? (dD pb pi)=false) (hs:s.size<=255) (hne:hb≠pb):
  Calls prog 481 #[pP hb 0,pP pb pi] W λ e w'=>e= .returned (.tuple #[])/\∃w1 va vc,Ext W w1/\AA w1 W.heap.size 5 (.slice va (ls++leN s.size 2++sb s).length vc) (bv (ls++leN s.size 2++sb s))/\
   w'=(w1.setCell (dD hb 0) (.slice va (ls++leN s.size 2++sb s).length vc)).setCell (dD pb pi) (eE):=by
 have HB:=hid h1;have hne':=Ne.symm hne;have b0:=cA h1 0 rfl;have d1:decide ((255:Int)<(s.size:Int))=false:=by simp;omega
 have hpl:pb<W.heap.size:=Ug W ⟨pb,pi,none⟩ hp;have HWn:=hid ((hS.wf.app (AQ s.size 2)).app (Cl s));have HC:=hid (ltext (hS.ext (dE W)) s (by omega) (by omega));have HF:=hid (show∀w1,Ext W w1->w1.cell? (dD pb pi)=some (.string s)/\w1.frozen? (dD pb pi)=false from λ w1 hx=>⟨hx.cell hp,(Below.frozen hx (show(⟨pb,pi,none⟩:Addr).block<W.heap.size from hpl)).trans hf⟩);clear h1 hS hf;go_in;go_wp2_with fail;go_region_with (go_at_call 386;refine HC.o.mono ?_;rintro r w1 ⟨v1,rfl,O1,X1⟩;obtain⟨va,vc,rfl,-,-⟩:=O1.sl HWn.o;obtain⟨m,hm⟩:∃m,m=(ls++leN s.size 2++sb s).length:=⟨_,rfl⟩;rw[<-hm] at O1|-;have HM:=hid hm;clear hm;have Y1:=(dE W).trans X1;have b0':=cA (Y1.heap HB.o) 0 rfl;have bf':=fO (Y1.heap HB.o);have hbl':=lH (Y1.heap HB.o);obtain⟨g1,g2⟩:=HF.o _ Y1;have HO1:=hid O1;have HY1:=hid Y1;clear O1 X1 Y1)
 all_goals
  go_wp2_with fail;go_end0;rw[<-HM.o];exact⟨rfl,w1,va,vc,HY1.o,HO1.o,rfl⟩
theorem Hc {a:QV} (h:WrQ hb ab hv av fv base a ns ds ls w0 W) (hs:a.name.size<=255) (hl:ls.length<=40000):
  Calls prog 481 #[pP hb 0,pP ab 10] W λ e w'=>e= .returned (.tuple #[])/\WrQ hb ab hv av fv base {a with name:=⟨#[]⟩} ns ds (ls++leN a.name.size 2++sb a.name) w0 w':=by
 obtain⟨p1,-,-,-,-,-,-,p8,p9,p10⟩:=h.ne;have hz0:=h.u.size;obtain⟨xa,xc,h1,h2⟩:=h.h;obtain⟨na,nc,ya,yc,q1,q2,q3,-,-⟩:=h.q;have HS:=hid (h2.sl h.wf);have cf:=q1.free;refine(GQ h1 HS.o hl q1.txt (cf 10) hs p1).mono ?_;rintro e w' ⟨rfl,w1,va,vc,X1,O1,rfl⟩;have s1:=((h.ext X1).lay (O1.low (b':=base) (by omega)) ((h.wf.app (AQ _ 2)).app (Cl _)) (by rw[Uc,Uc,lL];have:(sb a.name).length=a.name.size:=(by simp[sb]);omega)).fld (i:=10) (v:= eE) (a':={a with name:=⟨#[]⟩}) (λ xa xc ya yc p1 p2 p3 p4 p5=>⟨xa,xc,ya,yc,p1.setName _,p2,p3,p4,p5⟩);exact⟨rfl,s1⟩
theorem Pw {a:QV} (h:WrQ hb ab hv av fv base a ns ds ls w0 W) (hs:a.size= -1) (hl:ls.length<=40000):
  Calls prog 480 #[pP hb 0,pP ab 12] W λ e w'=>e= .returned (.tuple #[])/\WrQ hb ab hv av fv base {a with size:=0} ns ds (ls++leN 4294967295 4) w0 w':=by
 obtain⟨p1,-,-,-,-,-,-,p8,p9,p10⟩:=h.ne;have hz0:=h.u.size;obtain⟨xa,xc,h1,h2⟩:=h.h;obtain⟨na,nc,ya,yc,q1,q2,q3,-,-⟩:=h.q;have HQ:=hid h;have HO:=hid h2;have HB:=hid h1;have HQB:=hid q1;have b0:=cA h1 0 rfl;have b1:=cA h1 1 rfl;have bf:=fO h1;have c0:=q1.getI (i:=12) (by simp[isF]);rw[show a.getI 12= -1 from hs] at c0;have e1:IntKind.u32.wrap (-1)=4294967295:=by decide
 have s1:=h.okset;have HWn:=hid (h.wf.app (AQ 4294967295 4));clear h h1 h2 q1 q2 q3;go_in;go_wp2_with fail;obtain⟨W1,hW1⟩:∃W',W'=W.setCell (dD hb 1) (.bool true):=⟨_,rfl⟩;rw[<-hW1] at s1|-
 have U1:Upd [hb] W W1:=by rw[hW1];exact(Upd.refl _ _).setCell _ _ (.inl (by simp))
 have HB1:=hid (show W1.heap[hb]?=oC #[.slice xa ls.length xc,.bool true] 428 by rw[hW1];exact jP (i:=1) (.bool true) HB.o);have HQB1:=hid (show QB ab a (.slice na ns.length nc) (.slice ya ds.length yc) W1 from U1.heap HQB.o (by simpa using Ne.symm p1));have HS1:=hid (HO.o.upd U1 (λ g hg=>by have:=(HO.o.lt hg).1;simp;omega));have H1:=hid s1;have hz1:=U1.size;clear b0 b1 bf c0 hW1;have b0:=cA HB1.o 0 rfl;have c0:=(HQB1.o.getI (i:=12) (by simp[isF])).trans (by rw[show a.getI 12= -1 from hs]);have HC:=hid (KM (w:=World.drew W1) (HS1.o.sl HQ.o.wf) 4294967295 (by omega) (by omega) (by omega));clear s1 U1;go_wp2_with fail;go_region_with (go_at_call 256;refine HC.o.mono ?_;rintro r w1 ⟨v1,rfl,O1,X1⟩;obtain⟨va,vc,rfl,-,-⟩:=O1.sl HWn.o;obtain⟨m,hm⟩:∃m,m=(ls++leN 4294967295 4).length:=⟨_,rfl⟩;rw[<-hm] at O1|-;have HM:=hid hm;clear hm;have Y1:=(dE W1).trans X1;have b0':=cA (Y1.heap HB1.o) 0 rfl;have bf':=fO (Y1.heap HB1.o);have hbl':=lH (Y1.heap HB1.o);have hq1:=(show QB ab a (.slice na ns.length nc) (.slice ya ds.length yc) w1 from Y1.heap HQB1.o);have c0':=(hq1.getI (i:=12) (by simp[isF])).trans (by rw[show a.getI 12= -1 from hs]);have cf':=hq1.free;have hal':=lH hq1;have HO1:=hid (O1.low (b':=base) (show base<=W1.heap.size by omega));have HY1:=hid Y1;clear O1 X1 Y1 hq1)
 all_goals
  go_wp2_with fail;go_end0;have hO1:=HO1.o;rw[HM.o] at hO1;have s2:=((H1.o.ext HY1.o).lay hO1 HWn.o (by rw[Uc,lL];omega)).fld (i:=12) (v:= iI 0) (a':={a with size:=0}) (λ xa xc ya yc p1 p2 p3 p4 p5=>⟨xa,xc,ya,yc,p1.setI (i:=12) (by simp[isF]) 0,p2,p3,p4,p5⟩);rw[<-HM.o] at s2;exact⟨rfl,s2⟩
theorem Px {a:QV} (h:WrQ hb ab hv av fv base a ns ds ls w0 W) (hs:ds.length<=1024) (hl:ls.length<=40000):
  Calls prog 477 #[pP hb 0,pP ab 13] W λ e w'=>e= .returned (.tuple #[])/\WrQ hb ab hv av fv base a ns [] (ls++leN ds.length 4++ds) w0 w':=by
 obtain⟨p1,-,-,-,-,-,-,p8,p9,p10⟩:=h.ne;have hz0:=h.u.size;obtain⟨xa,xc,h1,h2⟩:=h.h;obtain⟨na,nc,ya,yc,q1,q2,q3,-,q5⟩:=h.q;have HQ:=hid h;have HO:=hid h2;have HB:=hid h1;have HQB:=hid q1;have b0:=cA h1 0 rfl;have b1:=cA h1 1 rfl;have bf:=fO h1;have c0:=q1.c13;have d1:decide ((ds.length:Int)<=1024)=true:=by simp;omega
 have hs5:=q3.updv (show Upd [hb] W (W.setCell (dD hb 1) (.bool true)) from(Upd.refl _ _).setCell _ _ (.inl (by simp))) (λ g hg hm=>q5 g hg (by simp at hm;simp[hm]));have s1:=h.okset;have HWn:=hid ((h.wf.app (AQ ds.length 4)).app q3.wf);clear h h1 h2 q1 q2 q3 q5;go_in;go_wp2_with fail;obtain⟨W1,hW1⟩:∃W',W'=W.setCell (dD hb 1) (.bool true):=⟨_,rfl⟩;rw[<-hW1] at s1 hs5|-
 have HSD:=hid hs5;clear hs5;have U1:Upd [hb] W W1:=by rw[hW1];exact(Upd.refl _ _).setCell _ _ (.inl (by simp))
 have HB1:=hid (show W1.heap[hb]?=oC #[.slice xa ls.length xc,.bool true] 428 by rw[hW1];exact jP (i:=1) (.bool true) HB.o);have HQB1:=hid (show QB ab a (.slice na ns.length nc) (.slice ya ds.length yc) W1 from U1.heap HQB.o (by simpa using Ne.symm p1));have HS1:=hid (HO.o.upd U1 (λ g hg=>by have:=(HO.o.lt hg).1;simp;omega));have H1:=hid s1;have hz1:=U1.size;clear b0 b1 bf c0 hW1;have b0:=cA HB1.o 0 rfl;have c0:=HQB1.o.c13;have HC:=hid (Sa (w:=World.drew W1) (HS1.o.sl HQ.o.wf) (show Sl (World.drew W1) (.slice ya ds.length yc) ds from HSD.o) (by omega) (by omega));clear s1 U1;go_wp2_with fail;go_region_with (go_at_call 331;refine HC.o.mono ?_;rintro r w1 ⟨v1,rfl,O1,X1⟩;obtain⟨va,vc,rfl,-,-⟩:=O1.sl HWn.o;obtain⟨m,hm⟩:∃m,m=(ls++leN ds.length 4++ds).length:=⟨_,rfl⟩;rw[<-hm] at O1|-;have HM:=hid hm;clear hm;have Y1:=(dE W1).trans X1;have b0':=cA (Y1.heap HB1.o) 0 rfl;have bf':=fO (Y1.heap HB1.o);have hbl':=lH (Y1.heap HB1.o);have hq1:=(show QB ab a (.slice na ns.length nc) (.slice ya ds.length yc) w1 from Y1.heap HQB1.o);have c0':=hq1.c13;have cf':=hq1.free;have hal':=lH hq1;have HO1:=hid (O1.low (b':=base) (show base<=W1.heap.size by omega));have HY1:=hid Y1;clear O1 X1 Y1 hq1)
 all_goals
  go_wp2_with fail;go_end0;have hO1:=HO1.o;rw[HM.o] at hO1;have s2:=((H1.o.ext HY1.o).lay hO1 HWn.o (by rw[Uc,Uc,lL];omega)).fld (i:=13) (v:= nN) (a':=a) (ds':=[]) (λ xa xc ya yc p1 p2 p3 p4 p5=>⟨xa,xc,none,0,p1.p13 _,p2,Sl.nil _,p4,by simp[Value.ownBlock]⟩);rw[<-HM.o] at s2;exact⟨rfl,s2⟩
theorem AA.notT2 {e t:TypeId} {xs:List Value} {cs:Array Value} (h:AA w base e v xs) (hg:w.heap[g]?=oC cs t) (he:e≠t):∀k,v.ownBlock=some k->k∉[g]:=by
 intro k hk hm;simp only[List.mem_singleton] at hm;subst hm;rcases h.form with⟨rfl,-⟩|⟨g',cap,cur,rfl,-,-,-,hc,-⟩
 ·simp[Value.ownBlock] at hk
 ·simp[Value.ownBlock] at hk;subst hk;rw[hc] at hg;injection hg with hg;injection hg with _ hg _;exact he hg
theorem SlS.any (h:SlS w v []) (w':World):SlS w' v []:=by
 obtain⟨a,c,rfl,h1,h2,h3,-⟩:=h;exact⟨a,c,rfl,h1,h2,h3,.inl rfl⟩
theorem WrQ.side {k:Nat} {a:QV} {x:ByteArray} (h:WrQ hb ab hv av fv base a [] ds ls w0 W) (hk:W.heap[k]?=oC #[.string x] 9) (hn:hb≠k/\ab≠k/\hv≠k/\av≠k/\fv≠k/\w0.heap.size<=k) (y:Value):
  WrQ hb ab hv av fv base a [] ds ls w0 (W.setCell (dD k 0) y):=by
 obtain⟨n1,n2,n3,n4,n5,n6⟩:=hn;obtain⟨xa,xc,h1,h2⟩:=h.h;obtain⟨na,nc,ya,yc,q1,q2,q3,q4,q5⟩:=h.q;have U:Upd [k] W (W.setCell (dD k 0) y):=(Upd.refl _ _).setCell _ _ (.inl (by simp));exact⟨⟨xa,xc,U.heap h1 (by simpa using n1),h2.upd U (h2.notT2 hk (by decide))⟩,h.wf,h.len,⟨na,nc,ya,yc,U.heap q1 (by simpa using n2),q2.any _,q3.upd U (nobyte hk (by simp)),q4,q5⟩,h.c.upd U (by simpa using n3) (by simpa using n4) (by simpa using n5),h.u.trans2 U (λ i hi=> .inr (by simp at hi;omega)),h.ne⟩
theorem Lv {a:QV} (h:WrQ hb ab hv av fv base a [] ds ls w0 W) (hl:ls.length<=30000):
  Calls prog 478 #[pP hb 0,pP ab 11] W λ e w'=>e= .returned (.tuple #[])/\WrQ hb ab hv av fv base a [] ds (ls++leN 0 2) w0 w':=by
 obtain⟨p1,-,-,-,-,-,-,p8,p9,p10⟩:=h.ne;have hz0:=h.u.size;obtain⟨xa,xc,h1,h2⟩:=h.h;obtain⟨na,nc,ya,yc,q1,q2,q3,q4,-⟩:=h.q;have HQ:=hid h;have HO:=hid h2;have HB:=hid h1;have hal:=lH q1;have cf:=q1.free;have c0:=q1.c11;have HWn:=hid (h.wf.app (AQ 0 2));have s1:=h.fld (i:=11) (v:= nN) (a':=a) (ns':=[]) (λ xa xc ya yc p1 p2 p3 p4 p5=>⟨none,0,ya,yc,p1.p11 _,SlS.nil _,p3,by simp[Value.ownBlock],p5⟩);clear h h1 h2 q1 q2 q3 q4;go_in;obtain⟨W1,hW1⟩:∃W',W'=W.setCell (dD ab 11) (nN):=⟨_,rfl⟩;rw[<-hW1] at s1;have U1:Upd [ab] W W1:=by rw[hW1];exact(Upd.refl _ _).setCell _ _ (.inl (by simp))
 have HB1:=hid (show W1.heap[hb]?=oC #[.slice xa ls.length xc,.bool true] 428 from U1.heap HB.o (by simpa using p1));have HS1:=hid (HO.o.upd U1 (λ g hg=>by have:=(HO.o.lt hg).1;simp;omega));have H1:=hid s1;have hz1:=U1.size;have b0x:=cA HB1.o 0 rfl;have HC:=hid (KN (HS1.o.sl HQ.o.wf) 0 (by omega) (by omega) (by omega));have HWE:=hid hW1;clear s1 U1 hW1;go_wp2_with (rw[<-HWE.o]);clear HWE cf c0;refine HC.o.mono ?_;rintro r w1 ⟨v1,rfl,O1,X1⟩;obtain⟨va,vc,rfl,-,-⟩:=O1.sl HWn.o;have HO1:=hid (O1.low (b':=base) (by omega));have s2:=(H1.o.ext X1).lay HO1.o HWn.o (by rw[Uc,lL];omega);have hB1:=X1.heap HB1.o;have HB2:=hid (show(w1.setCell (dD hb 0) (.slice va (ls++leN 0 2).length vc)).heap[hb]?=oC #[.slice va (ls++leN 0 2).length vc,.bool true] 428 from jP (i:=0) _ hB1);obtain⟨m,hm⟩:∃m,m=(ls++leN 0 2).length:=⟨_,rfl⟩;have hml:m=ls.length+2:=by rw[hm,Uc,lL]
 clear hml;rw[<-hm] at s2 O1 HB2|-
 have H2:=hid s2;have c1:=cA hB1 0 rfl;have c1f:=fO hB1;clear s2 hB1 O1 X1 b0x hm;go_wp2_with fail;go_loop [31] (λ v=>v= iI 0) (λ _=>0)
 case atStart=>rfl
 case round=>
  subst hrel;go_wp2_with fail;go_end0;exact⟨rfl,H2.o⟩
theorem Lu {a:QV} (h:WrQ hb ab hv av fv base a [s] ds ls w0 W) (hs:s.size<=255) (hl:ls.length<=30000):
  Calls prog 478 #[pP hb 0,pP ab 11] W λ e w'=>e= .returned (.tuple #[])/\WrQ hb ab hv av fv base a [] ds (ls++leN 1 2++(leN s.size 2++sb s)) w0 w':=by
 obtain⟨p1,-,-,-,-,-,-,p8,p9,p10⟩:=h.ne;have hz0:=h.u.size;obtain⟨xa,xc,h1,h2⟩:=h.h;obtain⟨na,nc,ya,yc,q1,q2,q3,q4,-⟩:=h.q;have HQ:=hid h;have HO:=hid h2;have HB:=hid h1;have HQB:=hid q1;have hal:=lH q1;have cf:=q1.free;have c0:=q1.c11;have HWn:=hid (h.wf.app (AQ 1 2));have s1:=h.fld (i:=11) (v:= nN) (a':=a) (ns':=[]) (λ xa xc ya yc p1 p2 p3 p4 p5=>⟨none,0,ya,yc,p1.p11 _,SlS.nil _,p3,by simp[Value.ownBlock],p5⟩);obtain⟨ra,rc,hre,hrp,hrl,hrm,hrr⟩:=q2;obtain⟨rg,ro,rfl,hrc⟩:∃g o,ra=some ⟨g,o,none⟩/\W.cell? (dD g o)=some (.string s):=by
  rcases hrr with h|⟨g,o,e,hc⟩
  ·cases h
  ·exact⟨g,o,e,by simpa using hc 0 (by simp)⟩
 injection hre with e1 e2 e3;subst e1 e3;have hrg:rg∉[hb,ab]:=q4 rg (by simp[Value.ownBlock]);have hrgl:rg<W.heap.size:=Ug W ⟨rg,ro,none⟩ hrc;clear h h1 h2 q1 q3 q4;go_in;obtain⟨W1,hW1⟩:∃W',W'=W.setCell (dD ab 11) (nN):=⟨_,rfl⟩;rw[<-hW1] at s1;have U1:Upd [ab] W W1:=by rw[hW1];exact(Upd.refl _ _).setCell _ _ (.inl (by simp))
 have HB1:=hid (show W1.heap[hb]?=oC #[.slice xa ls.length xc,.bool true] 428 from U1.heap HB.o (by simpa using p1));have HS1:=hid (HO.o.upd U1 (λ g hg=>by have:=(HO.o.lt hg).1;simp;omega));have H1:=hid s1;have hz1:=U1.size;have b0x:=cA HB1.o 0 rfl;have HC:=hid (KN (HS1.o.sl HQ.o.wf) 1 (by omega) (by omega) (by omega));have HWE:=hid hW1;have HK:=hid (show hv<W.heap.size/\av<W.heap.size/\fv<W.heap.size/\(ab<W.heap.size/\w0.heap.size<=W.heap.size) from⟨Ug W ⟨hv,0,none⟩ HQ.o.c.h,Ug W ⟨av,0,none⟩ HQ.o.c.a,Ug W ⟨fv,0,none⟩ HQ.o.c.f,hal,hz0⟩);have r1:=U1.cell hrc (by simp at hrg|-;omega);have hrgl1:rg<W1.heap.size:=by omega
 clear s1 U1 hW1;go_wp2_with (rw[<-HWE.o]);clear HWE cf c0;refine HC.o.mono ?_;rintro r w1 ⟨v1,rfl,O1,X1⟩;obtain⟨va,vc,rfl,-,-⟩:=O1.sl HWn.o;have HO1:=hid (O1.low (b':=base) (by omega));have s2:=(H1.o.ext X1).lay HO1.o HWn.o (by rw[Uc,lL];omega);have hB1:=X1.heap HB1.o;have HB2:=hid (show(w1.setCell (dD hb 0) (.slice va (ls++leN 1 2).length vc)).heap[hb]?=oC #[.slice va (ls++leN 1 2).length vc,.bool true] 428 from jP (i:=0) _ hB1);obtain⟨m,hm⟩:∃m,m=(ls++leN 1 2).length:=⟨_,rfl⟩;have hml:m=ls.length+2:=by rw[hm,Uc,lL]
 have HML:=hid hml;clear hml;rw[<-hm] at s2 O1 HB2|-
 have H2:=hid s2;have HM:=hid hm;have c1:=cA hB1 0 rfl;have c1f:=fO hB1;have r2:=X1.cell r1;have hrgl2:rg<w1.heap.size:=by have:=X1.size;omega
 have hz2:=X1.size;clear s2 hB1 O1 X1 b0x hm;go_wp2_with fail;obtain⟨W2,hW2⟩:∃W',W'=w1.setCell (dD hb 0) (.slice va m vc):=⟨_,rfl⟩;rw[<-hW2] at H2 HB2|-
 have U2:Upd [hb] w1 W2:=by rw[hW2];exact(Upd.refl _ _).setCell _ _ (.inl (by simp))
 have r3:=U2.cell r2 (by simp at hrg|-;omega);have HS2:=hid ((HO1.o.upd U2 (λ g hg=>by have:=(HO1.o.lt hg).1;simp;omega)).sl HWn.o);have hz3:=U2.size;have hrgl3:rg<W2.heap.size:=by omega
 clear U2 hW2 c1 c1f r2 r1;go_loopw [31] (λ v wr=>(v= iI 0/\wr=W2)\/(v= iI 1/\WrQ hb ab hv av fv base a [] ds (ls++leN 1 2++(leN s.size 2++sb s)) w0 wr)) (λ v _=>2-(intOf v).toNat)
 case atStart=>exact .inl ⟨rfl,rfl⟩
 case round=>
  rcases hrel with⟨rfl,rfl⟩|⟨rfl,hD⟩
  ·obtain⟨W3,hW3⟩:∃W',W'=wr.alloc (.cells #[.string s] 9):=⟨_,rfl⟩;have X3:Ext wr W3:=by rw[hW3];exact(Ext.refl _).alloc _
   have hc3:W3.heap[wr.heap.size]?=oC #[.string s] 9:=by rw[hW3];exact Ub wr _
   have HX3:=hid (H2.o.ext X3);have hbl3:=lH HB2.o;have HT:=hid (GQ (show W3.heap[hb]?=oC #[.slice va (ls++leN 1 2).length vc,.bool true] 428 by rw[<-HM.o];exact X3.heap HB2.o) (HS2.o.ext X3) (by rw[<-HM.o];have:=HML.o;omega) (cO hc3 0) (fO hc3 0) hs (by omega));have HX:=hid X3;have hz4:=X3.size;have HC3:=hid hc3;have HWE:=hid hW3;clear X3 hc3 hW3;go_wp2_with (rw[<-HWE.o]);clear HWE;refine HT.o.mono ?_;rintro e w' ⟨rfl,w5,ta,tc,X5,O5,rfl⟩;have s4:=(HX3.o.ext X5).lay (O5.low (b':=base) (by omega)) ((HWn.o.app (AQ _ 2)).app (Cl _)) (by have:=HML.o;have e1:(sb s).length=s.size:=(by simp[sb]);simp only[Uc,lL,e1];omega);have hne2:hb≠wr.heap.size:=by omega
   have hk5:(w5.setCell (dD hb 0) (.slice ta (ls++leN 1 2++leN s.size 2++sb s).length tc)).heap[wr.heap.size]?=oC #[.string s] 9:=(heap_setCell_other _ _ _ _ (Ne.symm hne2)).trans (X5.heap HC3.o);have s5:=s4.side hk5 ⟨hne2,by have:=HK.o.2.2.2;omega,by have:=HK.o.1;omega,by have:=HK.o.2.1;omega,by have:=HK.o.2.2.1;omega,by have:=HK.o.2.2.2;omega⟩ (eE);obtain⟨mm,hmm⟩:∃m,m=(ls++leN 1 2++leN s.size 2++sb s).length:=⟨_,rfl⟩;rw[Ui (ls++leN 1 2)] at s5 hmm O5|-
   rw[<-hmm] at s5 O5|-
   have H5:=hid s5;clear s4 s5 X5 O5 r3 hmm hk5;go_wp2_with fail;go_roundw
   case rel=>exact .inr ⟨by go_num,H5.o⟩
   case measure=>simp[intOf]
  ·go_wp2_with fail;go_end0;exact⟨rfl,hD⟩
end Go.Proofs.YtdakioiagpkfhaaGreatDoor
