import Derived.Test.YtdakioiagpkfhaaGreatDoorP07
import Derived.StillTailTactics
import Derived.IntWalk
set_option maxRecDepth 99999
set_option maxHeartbeats 0
set_option linter.all false
namespace Go.Proofs.YtdakioiagpkfhaaGreatDoor
open RowKit Conc
open Go.Proofs.Tryz
variable {F:List Nat} {L s:Int} {R:Value->List Int->Prop} {a:Option Addr} {base c cr ct f gs k m n os p sc:Nat} {bufR:Array Value} {ss y zs:List Int} {sz v x:Value} {w w':World} {xs:List Value} {ys yss:List (List Int)}
def IY (w:World) (p ct cr:Nat) (sz:Value) (k L:Int) (bufT bufR:Array Value) (fv:Value):Prop:=
 ∃s1 r1 s2 r2,w.heap[p]?=oC #[sz,iI k,.chan (some ct),.chan (some cr),fv,iI L] 123/\
  w.heap[ct]?=some (.chan 64 bufT false s1 r1 false)/\w.heap[cr]?=some (.chan 64 bufR false s2 r2 false)
theorem G6 (a:Addr) (m:Nat):(a.add m).block=a.block:=by unfold Addr.add;split<;>rfl
def Sf (w:World) (p ct cr:Nat) (sz:Value) (k n m:Nat) (x:Value) (bufT:Array Value) (fv:Value) (zs:List Int) (a:Option Addr):Prop:=
 (m=0/\IY w p ct cr sz k n bufT #[x] fv)\/(0<m/\m<n/\∃fv',IY w p ct cr sz k (n-m:Nat) #[] #[x] fv'/\Sl w fv' (zs.drop m)/\fv'.ownBlock=(Value.slice a 0 0).ownBlock)\/(0<m/\m=n/\IY w p ct cr sz k 0 #[] #[] (nN))
theorem IY.ne {k:Int} {bufT:Array Value} {fv:Value} (h:IY w p ct cr sz k L bufT bufR fv):p≠ct/\p≠cr:=by
 obtain⟨s1,r1,s2,r2,h1,h2,h3⟩:=h;exact⟨(λ e=>by subst e;rw[h1] at h2;cases h2),(λ e=>by subst e;rw[h1] at h3;cases h3)⟩
theorem pmore {k:Int} (hne:ct≠cr) (h:IY w p ct cr sz k L #[.slice a n c] bufR (nN)):
  Calls prog 97 #[pP p 0] w λ r w'=>r= .returned (.bool true)/\IY w' p ct cr sz k L #[] bufR (.slice a n c)/\Upd [p,ct,cr] w w':=by
 obtain⟨hpt,hpc⟩:=h.ne;obtain⟨s1,r1,s2,r2,hb,hct,hcr⟩:=h;obtain⟨c0,c1,c2,c3,c4,c5,fz⟩:=BY hb;have HB:=hid hb;have HT:=hid hct;have HR:=hid hcr;clear hb hct hcr;go_in;go_upto_region 2 with(fail);refine DB (AB.selRecv (z:= nN) rfl rfl ?_ HT.o (by simp) ?_)
 ·simp[execOp,rcase,Act.eval,go_sem,Sem.run_bind,zeroValue26]
 ·have u1:=Uz w ct 64 ((#[.slice a n c]:Array Value).extract 1 (#[.slice a n c]:Array Value).size) false s1 (r1+1) false;have ht1:=heap_setChan w ct 64 ((#[.slice a n c]:Array Value).extract 1 (#[.slice a n c]:Array Value).size) false s1 (r1+1) false (lH HT.o);generalize w.setChan ct 64 ((#[.slice a n c]:Array Value).extract 1 (#[.slice a n c]:Array Value).size) false s1 (r1+1) false=w1 at*;have hb1:=u1.heap HB.o (by simpa using hpt);have hr1:=u1.heap HR.o (by simpa using Ne.symm hne);clear c0 c1 c2 c3 c4 c5;obtain⟨c0,c1,c2,c3,c4,c5,fz1⟩:=BY hb1;have hf:=fz1 4;have HB1:=hid hb1;have HT1:=hid ht1;have HR1:=hid hr1;have HU1:=hid u1;clear hb1 ht1 hr1 u1 fz fz1;go_wp2_with fail;go_ret;have b1:=heap_setCell_same w1 p 4 _ _ (.slice a n c) HB1.o;have u4:Upd [p] w1 (w1.setCell (dD p 4) (.slice a n c)):=(Upd.refl [p] w1).setCell _ _ (by simp);exact⟨rfl,⟨_,_,_,_,by rw[b1];rfl,u4.heap HT1.o (by simpa using Ne.symm hpt),u4.heap HR1.o (by simpa using Ne.symm hpc)⟩,(HU1.o.mono (by simp)).trans (u4.mono (by simp))⟩
theorem TP {L:Nat} (hne:ct≠cr) (h:IY w p ct cr (sS gs os L sc) k n #[.slice a n c] #[x] (nN)) (hS:Sl w (.slice a n c) zs) (hz:zs.length=n) (hn:0<n) (hn2:n<=100000) (hs:w.cell? (dD gs (os+k))=some (iI s)) (hgs:gs≠p) (hk:k<L) (hL:L<=1000000) (h0:0<=s) (m:Nat) (hm:m=min s.toNat n) (K:Nat) (hK:K=(k+1)%L):
  Calls prog 61 #[pP p 0] w λ r w'=>∃v,r= .returned (.tuple #[v,.bool true])/\AA w' w.heap.size 5 v (bv (zs.take m))/\Sf w' p ct cr (sS gs os L sc) K n m x (if m=0 then#[.slice a n c] else#[]) (nN) zs a/\Upd [p,ct,cr] w w':=by
 obtain⟨hpt,hpc⟩:=h.ne;have hmn:m<=n:=by omega
 have hS2:=hS;obtain⟨sa',sc',he,hr,hp⟩:=hS2;injection he with e1 e2 e3;subst e1 e3;clear e2;obtain⟨s1,r1,s2,r2,hb,hct,hcr⟩:=h;obtain⟨c0,c1,c2,c3,c4,c5,fz⟩:=BY hb;have hg:=lH hb;have HB:=hid hb;have HT:=hid hct;have HR:=hid hcr;have HS:=hid hS;have HZ:=hid hz;have f1:=fz 1;have hd:((n:Int)==0)=false:=by simp;omega
 have hk0:(0:Int)<=(k:Int):=by omega
 have hk1:(k:Int)<(L:Int):=by omega
 have hcl:=hr.2.1;have hcm:=hr.2.2.1;unfold maxLen at hcm;rw[hz] at hr hcl;have HRow:=hid hr;have HP:=hid hp;clear hb hct hcr hS hz hr hp fz;go_in;go_wp2_with fail;go_quiet (fail);have hmin:(if(n:Int)<s then(n:Int) else s)=(m:Int):=by split<;>omega
 rw[hmin];have HM:=hid hm;clear hmin hm;have HK:=hid hK;clear hK;have hw1:IntKind.i64.wrap ((k:Int)+1)=(k:Int)+1:=Uh _ (by omega);have hr1:((k:Int)+1).tmod (L:Int)=(K:Int):=by rw[HK.o,Int.tmod_eq_emod_of_nonneg (by omega),Int.natCast_emod,Int.natCast_add];rfl
 go_wp2_with fail;go_region;clear hw1 hr1;have u1:Upd [p] w ((w.drewN (nq+1)).setCell (dD p 1) (iI (K:Int))):=(((Ext.refl w).drewN (nq+1)).upd [p]).setCell _ _ (by simp);have b1:=heap_setCell_same (w.drewN (nq+1)) p 1 _ _ (iI (K:Int)) (show(w.drewN (nq+1)).heap[p]?=_ from HB.o);generalize(w.drewN (nq+1)).setCell (dD p 1) (iI (K:Int))=w2 at*;have HB2:=hid b1;have HU2:=hid u1;have HT2:=hid (u1.heap HT.o (by simpa using Ne.symm hpt));have HR2:=hid (u1.heap HR.o (by simpa using Ne.symm hpc));have HS2:=hid (HS.o.upd u1 (λ b i z hq=>by
  have hb4:=HB.o;have:b≠p:=λ e=>by subst e;rw[cO hb4] at hq;match i,hq with|0,hq=>simp at hq|1,hq=>simp at hq|2,hq=>simp at hq|3,hq=>simp at hq|4,hq=>simp at hq|5,hq=>simp at hq|i+6,hq=>simp at hq
  simpa using this))
 clear c0 c1 c2 c3 c4 c5;obtain⟨c0,c1,c2,c3,c4,c5,fz⟩:=BY b1;have f4:=fz 4;have f5:=fz 5;have hg2:=lH b1;clear b1 u1 fz f1 hs hk0 hk1;by_cases hm0:m=0
 ·have HM0:=hid hm0;have hm1:(m:Int)<=0:=by omega
  have hm2:(0:Int)<=(m:Int):=by omega
  have hm3:decide (0<m)=false:=by simp;omega
  have hm4:decide ((0:Int)<(m:Int))=false:=by simp;omega
  clear hm0;go_wp2_with fail;refine wp_loop_rounds 1 ?_;rw[rounds_succ];go_wp2_with fail;go_ret2;have b3:=heap_setCell_same w2 p 5 _ _ (iI (n:Int)) HB2.o;have u3:Upd [p] w2 (w2.setCell (dD p 5) (iI (n:Int))):=(Upd.refl [p] w2).setCell _ _ (by simp);obtain rfl:=HM0.o;exact⟨_,rfl,AA.nil _ _ _,.inl ⟨rfl,_,_,_,_,by rw[b3];simp,u3.heap HT2.o (by simpa using Ne.symm hpt),u3.heap HR2.o (by simpa using Ne.symm hpc)⟩,(HU2.o.trans u3).mono (by simp)⟩
 ·have hm1:0<m:=by omega
  have hm2:(0:Int)<(m:Int):=by omega
  have R1:=hid (Bw a m n c hmn hcl);have R2:=hid (Bd a m n c hmn);clear hm0;go_wp2_with fail;refine wp_loop_rounds 2 ?_;rw[rounds_succ];go_upto_region 8 with(fail);have hpm:=pmore (w:=w2) (p:=p) (ct:=ct) (cr:=cr) (sz:= sS gs os L sc) (k:=K) (L:=n) (bufR:= #[x]) (a:=a) (n:=n) (c:=c) hne ⟨_,_,_,_,by rw[HB2.o];rfl,HT2.o,HR2.o⟩;refine hpm.mono ?_;rintro r w2m ⟨rfl,⟨s1,r1,s2,r2,hbm,htm,hrm⟩,hum⟩;clear hpm;have HB2m:=hid hbm;have HU2m:=hid ((HU2.o.mono (T:=[p,ct,cr]) (by simp)).trans hum);have HT2m:=hid htm;have HR2m:=hid hrm;have HS2m:=hid (HS2.o.upd hum (λ b i z hq=>by
   have hb4:=HB2.o;have ht4:=HT2.o;have hr4:=HR2.o;intro hm4;simp only[Um,List.not_mem_nil,or_false] at hm4;rcases hm4 with rfl|rfl|rfl
   ·rw[cO hb4] at hq;match i,hq with|0,hq=>simp at hq|1,hq=>simp at hq|2,hq=>simp at hq|3,hq=>simp at hq|4,hq=>simp at hq|5,hq=>simp at hq|i+6,hq=>simp at hq
   ·simp[World.cell?,ht4] at hq
   ·simp[World.cell?,hr4] at hq))
  clear c0 c1 c2 c3 c4 c5 f4 f5 hg2;obtain⟨c0,c1,c2,c3,c4,c5,fz⟩:=BY hbm;have f4:=fz 4;have f5:=fz 5;have hg2:=lH hbm;clear fz hbm htm hrm hum;obtain⟨S1,S2⟩:Sl w2m (.slice a m c) (zs.take m)/\Sl w2m (.slice (if c=m then a else a.map (·.add m)) (n-m) (c-m)) (zs.drop m):=by
   obtain⟨a',c',he,q1,q2⟩:=HS2m.o;injection he with e1 e2 e3;subst e1 e3;have:=Sl.take_drop q1 q2 m (by rw[HZ.o];exact hmn)
   rwa [HZ.o] at this
  obtain⟨v1,w3,h1,h2,h3⟩:=(AA.nil w2m w2m.heap.size 5).app (zs:=[]) S1 (by simp;have:=HZ.o;omega) (Uf _) 26;rw[List.nil_append] at h2;have R3:=hid h1;have O3:=hid h2;have X3:=hid ((AA.nil w2m w2m.heap.size 5).grow_ext h3 (Ext.refl _) (Uf _));have R1':=hid (R1.o w2m);have S2:=hid S2;clear S1 h1 h2 h3;go_upto_region 9 with(first|((with_reducible refine AF (o:=⟨some 73,.slice _ (.tmp 71) none (some (.tmp 72)) none,_,_,_,none⟩) rfl _ _ _ _ _ rfl _ _ _ _ ?_ ?_ ?_ ?_ _ R1'.o ?_);(·rfl);(·rfl);(·rfl);(·rfl))|(at_builtin;refine jA rfl (.tmp 67) (.tmp 73) _ rfl _ _ _ rfl rfl R3.o ?_));obtain⟨a1,c1',rfl,hr1,hp1⟩:=O3.o.row2 (λ z hz=>HS2m.o.wf z (List.mem_of_mem_take hz));have hlen:(zs.take m).length=m:=by rw[Ul,HZ.o,Nat.min_eq_left hmn]
  rw[hlen] at O3 R3|-
  clear hlen;have hb3:=X3.o.heap HB2m.o;clear c0 c1 c2 c3 c4 c5 f4 f5;obtain⟨c0,c1,c2,c3,c4,c5,fz⟩:=BY hb3;have f4:=fz 4;have f5:=fz 5;have hg3:=lH hb3;have HB3:=hid hb3;have R2':=hid (R2.o w3);obtain⟨A,hA⟩:∃A,A=(if c=m then a else a.map (·.add m)):=⟨_,rfl⟩;rw[<-hA] at R2' S2;have HA:=hid (show(Value.slice A (n-m) (c-m)).ownBlock=(Value.slice a 0 0).ownBlock by subst hA;split<;>cases a<;>simp[Value.ownBlock,G6]);clear hA hr1 hp1 fz hb3;have b4:=heap_setCell_same w3 p 4 _ _ (.slice A (n-m) (c-m)) HB3.o;have u4:Upd [p] w3 (w3.setCell (dD p 4) (.slice A (n-m) (c-m))):=(Upd.refl [p] w3).setCell _ _ (by simp);have HB4:=hid b4;have HU4:=hid u4;clear b4 u4;by_cases hlt:m<n
  ·have hq1:((n-m:Nat):Int)=(n:Int)-(m:Int):=by omega
   have hq2:(((n-m:Nat):Int)==0)=false:=by simp;omega
   have HQ:=hid hq1;clear hq1;go_wp2_with ((with_reducible refine AF (o:=⟨some 81,.slice _ (.tmp 79) (some (.tmp 80)) none none,_,_,_,none⟩) rfl _ _ _ _ _ rfl _ _ _ _ ?_ ?_ ?_ ?_ _ R2'.o ?_);(·rfl);(·rfl);(·rfl);(·rfl));rw[rounds_succ];go_wp2_with fail;go_ret2;have b5:=heap_setCell_same _ p 5 _ _ (iI ((n:Int)-(m:Int))) HB4.o;have u5:Upd [p] w3 ((w3.setCell (dD p 4) (.slice A (n-m) (c-m))).setCell (dD p 5) (iI ((n:Int)-(m:Int)))):=HU4.o.setCell _ _ (by simp);refine⟨_,rfl,(O3.o.upd u5 (λ q hq=> ?_)).low HU2m.o.size,.inr (.inl ⟨hm1,hlt,_,⟨_,_,_,_,by rw[b5,HQ.o];rfl,u5.heap (X3.o.heap HT2m.o) (by simpa using Ne.symm hpt),u5.heap (X3.o.heap HR2m.o) (by simpa using Ne.symm hpc)⟩,(S2.o.ext X3.o).upd u5 (λ b i z hq=> ?_),HA.o⟩),(HU2m.o.mono (by simp)).trans ((X3.o.upd _).trans (u5.mono (by simp)))⟩
   ·have:=(O3.o.lt hq).1;have:=lH HB2m.o;simp;omega
   ·have hb4:=HB3.o;have:b≠p:=λ e=>by subst e;rw[cO hb4] at hq;match i,hq with|0,hq=>simp at hq|1,hq=>simp at hq|2,hq=>simp at hq|3,hq=>simp at hq|4,hq=>simp at hq|5,hq=>simp at hq|i+6,hq=>simp at hq
    simpa using this
  ·obtain rfl:m=n:=by omega
   have hq2:(((m-m:Nat):Int)==0)=true:=by simp
   go_upto_region 12 with((with_reducible refine AF (o:=⟨some 81,.slice _ (.tmp 79) (some (.tmp 80)) none none,_,_,_,none⟩) rfl _ _ _ _ _ rfl _ _ _ _ ?_ ?_ ?_ ?_ _ R2'.o ?_);(·rfl);(·rfl);(·rfl);(·rfl));refine Dh ?_;change VC prog _ _ [0,1,2,3,4] _ _;refine AB.same (i:=0) (v:= pP p 0) rfl rfl (by go_simp) ?_;refine AB.same (i:=1) (v:= pP p 0) rfl rfl (by go_simp) ?_;refine AB.same (i:=2) (v:= pP p 3) rfl rfl (by go_simp) ?_;refine AB.same (i:=3) (v:= .chan (some cr)) rfl rfl (by go_simp) ?_;refine AB.recv (i:=4) (c:=cr) (z:= .agg #[]) rfl rfl (by go_simp;rfl) ((((Upd.refl [p] w3).setCell (dD p 4) _ (by simp)).setCell (dD p 4) _ (by simp)).heap (X3.o.heap HR2m.o) (by simpa using Ne.symm hpc)) (by simp) ?_;refine VC.done ?_;go_simp;have b5:=heap_setCell_same w3 p 4 _ _ (.slice A 0 (c-m)) HB3.o;have b6:=heap_setCell_same _ p 4 _ _ (nN) b5;have u6:Upd [p] w3 ((w3.setCell (dD p 4) (.slice A 0 (c-m))).setCell (dD p 4) (nN)):=((Upd.refl [p] w3).setCell _ _ (by simp)).setCell _ _ (by simp);have q6:=u6.heap (X3.o.heap HR2m.o) (by simpa using Ne.symm hpc);have t6:=u6.heap (X3.o.heap HT2m.o) (by simpa using Ne.symm hpt);generalize(w3.setCell (dD p 4) (.slice A 0 (c-m))).setCell (dD p 4) (nN)=w6 at*;have u7:=Uz w6 cr 64 #[] false s2 (r2+1) false;have q7:=heap_setChan w6 cr 64 #[] false s2 (r2+1) false (lH q6);generalize w6.setChan cr 64 #[] false s2 (r2+1) false=w7 at*
   have b7:=u7.heap b6 (by simpa using hpc);have t7:=u7.heap t6 (by simpa using hne);clear c0 c1 c2 c3 c4 c5 f4 f5;obtain⟨c0,c1,c2,c3,c4,c5,fz⟩:=BY b7;have f5:=fz 5;have HB7:=hid b7;have HT7:=hid t7;have HR7:=hid q7;have HU7:=hid ((u6.mono (T:=[p,ct,cr]) (by simp)).trans (u7.mono (by simp)));clear b5 b6 b7 t6 t7 q6 q7 u6 u7 fz;go_wp2_with fail;rw[rounds_succ];go_wp2_with fail;go_ret2;have b8:=heap_setCell_same w7 p 5 _ _ (iI 0) HB7.o;have u8:Upd [p] w7 (w7.setCell (dD p 5) (iI 0)):=(Upd.refl [p] w7).setCell _ _ (by simp);have U8:=HU7.o.trans (u8.mono (by simp));refine⟨_,rfl,(O3.o.upd U8 (λ q hq=> ?_)).low HU2m.o.size,.inr (.inr ⟨hm1,rfl,_,_,_,_,by rw[b8];rfl,u8.heap HT7.o (by simpa using Ne.symm hpt),u8.heap HR7.o (by simpa using Ne.symm hpc)⟩),(HU2m.o.mono (by simp)).trans ((X3.o.upd _).trans U8)⟩;have:=(O3.o.lt hq).1;have e1:=lH HB2m.o;have e2:=lH HT2m.o;have e3:=lH HR2m.o;simp;omega
theorem TO {L:Nat} (hne:ct≠cr) (h:IY w p ct cr (sS gs os L sc) k n #[] #[x] (.slice a n c)) (hS:Sl w (.slice a n c) zs) (hz:zs.length=n) (hn:0<n) (hn2:n<=100000) (hs:w.cell? (dD gs (os+k))=some (iI s)) (hgs:gs≠p) (hk:k<L) (hL:L<=1000000) (h0:0<=s) (m:Nat) (hm:m=min s.toNat n) (K:Nat) (hK:K=(k+1)%L):
  Calls prog 61 #[pP p 0] w λ r w'=>∃v,r= .returned (.tuple #[v,.bool true])/\AA w' w.heap.size 5 v (bv (zs.take m))/\Sf w' p ct cr (sS gs os L sc) K n m x (if m=0 then#[] else#[]) (.slice a n c) zs a/\Upd [p,ct,cr] w w':=by
 obtain⟨hpt,hpc⟩:=h.ne;have hmn:m<=n:=by omega
 have hS2:=hS;obtain⟨sa',sc',he,hr,hp⟩:=hS2;injection he with e1 e2 e3;subst e1 e3;clear e2;obtain⟨s1,r1,s2,r2,hb,hct,hcr⟩:=h;obtain⟨c0,c1,c2,c3,c4,c5,fz⟩:=BY hb;have hg:=lH hb;have HB:=hid hb;have HT:=hid hct;have HR:=hid hcr;have HS:=hid hS;have HZ:=hid hz;have f1:=fz 1;have hd:((n:Int)==0)=false:=by simp;omega
 have hk0:(0:Int)<=(k:Int):=by omega
 have hk1:(k:Int)<(L:Int):=by omega
 have hcl:=hr.2.1;have hcm:=hr.2.2.1;unfold maxLen at hcm;rw[hz] at hr hcl;have HRow:=hid hr;have HP:=hid hp;clear hb hct hcr hS hz hr hp fz;go_in;go_wp2_with fail;go_quiet (fail);have hmin:(if(n:Int)<s then(n:Int) else s)=(m:Int):=by split<;>omega
 rw[hmin];have HM:=hid hm;clear hmin hm;have HK:=hid hK;clear hK;have hw1:IntKind.i64.wrap ((k:Int)+1)=(k:Int)+1:=Uh _ (by omega);have hr1:((k:Int)+1).tmod (L:Int)=(K:Int):=by rw[HK.o,Int.tmod_eq_emod_of_nonneg (by omega),Int.natCast_emod,Int.natCast_add];rfl
 go_wp2_with fail;go_region;clear hw1 hr1;have u1:Upd [p] w ((w.drewN (nq+1)).setCell (dD p 1) (iI (K:Int))):=(((Ext.refl w).drewN (nq+1)).upd [p]).setCell _ _ (by simp);have b1:=heap_setCell_same (w.drewN (nq+1)) p 1 _ _ (iI (K:Int)) (show(w.drewN (nq+1)).heap[p]?=_ from HB.o);generalize(w.drewN (nq+1)).setCell (dD p 1) (iI (K:Int))=w2 at*;have HB2:=hid b1;have HU2:=hid u1;have HT2:=hid (u1.heap HT.o (by simpa using Ne.symm hpt));have HR2:=hid (u1.heap HR.o (by simpa using Ne.symm hpc));have HS2:=hid (HS.o.upd u1 (λ b i z hq=>by
  have hb4:=HB.o;have:b≠p:=λ e=>by subst e;rw[cO hb4] at hq;match i,hq with|0,hq=>simp at hq|1,hq=>simp at hq|2,hq=>simp at hq|3,hq=>simp at hq|4,hq=>simp at hq|5,hq=>simp at hq|i+6,hq=>simp at hq
  simpa using this))
 clear c0 c1 c2 c3 c4 c5;obtain⟨c0,c1,c2,c3,c4,c5,fz⟩:=BY b1;have f4:=fz 4;have f5:=fz 5;have hg2:=lH b1;clear b1 u1 fz f1 hs hk0 hk1;by_cases hm0:m=0
 ·have HM0:=hid hm0;have hm1:(m:Int)<=0:=by omega
  have hm2:(0:Int)<=(m:Int):=by omega
  have hm3:decide (0<m)=false:=by simp;omega
  have hm4:decide ((0:Int)<(m:Int))=false:=by simp;omega
  clear hm0;go_wp2_with fail;refine wp_loop_rounds 1 ?_;rw[rounds_succ];go_wp2_with fail;go_ret2;have b3:=heap_setCell_same w2 p 5 _ _ (iI (n:Int)) HB2.o;have u3:Upd [p] w2 (w2.setCell (dD p 5) (iI (n:Int))):=(Upd.refl [p] w2).setCell _ _ (by simp);obtain rfl:=HM0.o;exact⟨_,rfl,AA.nil _ _ _,.inl ⟨rfl,_,_,_,_,by rw[b3];simp,u3.heap HT2.o (by simpa using Ne.symm hpt),u3.heap HR2.o (by simpa using Ne.symm hpc)⟩,(HU2.o.trans u3).mono (by simp)⟩
 ·have hm1:0<m:=by omega
  have hm2:(0:Int)<(m:Int):=by omega
  have R1:=hid (Bw a m n c hmn hcl);have R2:=hid (Bd a m n c hmn);clear hm0;go_wp2_with fail;refine wp_loop_rounds 2 ?_;rw[rounds_succ];obtain⟨S1,S2⟩:Sl w2 (.slice a m c) (zs.take m)/\Sl w2 (.slice (if c=m then a else a.map (·.add m)) (n-m) (c-m)) (zs.drop m):=by
   obtain⟨a',c',he,q1,q2⟩:=HS2.o;injection he with e1 e2 e3;subst e1 e3;have:=Sl.take_drop q1 q2 m (by rw[HZ.o];exact hmn)
   rwa [HZ.o] at this
  obtain⟨v1,w3,h1,h2,h3⟩:=(AA.nil w2 w2.heap.size 5).app (zs:=[]) S1 (by simp;have:=HZ.o;omega) (Uf _) 26;rw[List.nil_append] at h2;have R3:=hid h1;have O3:=hid h2;have X3:=hid ((AA.nil w2 w2.heap.size 5).grow_ext h3 (Ext.refl _) (Uf _));have R1':=hid (R1.o w2);have S2:=hid S2;clear S1 h1 h2 h3;go_upto_region 9 with(first|((with_reducible refine AF (o:=⟨some 73,.slice _ (.tmp 71) none (some (.tmp 72)) none,_,_,_,none⟩) rfl _ _ _ _ _ rfl _ _ _ _ ?_ ?_ ?_ ?_ _ R1'.o ?_);(·rfl);(·rfl);(·rfl);(·rfl))|(at_builtin;refine jA rfl (.tmp 67) (.tmp 73) _ rfl _ _ _ rfl rfl R3.o ?_));obtain⟨a1,c1',rfl,hr1,hp1⟩:=O3.o.row2 (λ z hz=>HS2.o.wf z (List.mem_of_mem_take hz));have hlen:(zs.take m).length=m:=by rw[Ul,HZ.o,Nat.min_eq_left hmn]
  rw[hlen] at O3 R3|-
  clear hlen;have hb3:=X3.o.heap HB2.o;clear c0 c1 c2 c3 c4 c5 f4 f5;obtain⟨c0,c1,c2,c3,c4,c5,fz⟩:=BY hb3;have f4:=fz 4;have f5:=fz 5;have hg3:=lH hb3;have HB3:=hid hb3;have R2':=hid (R2.o w3);obtain⟨A,hA⟩:∃A,A=(if c=m then a else a.map (·.add m)):=⟨_,rfl⟩;rw[<-hA] at R2' S2;have HA:=hid (show(Value.slice A (n-m) (c-m)).ownBlock=(Value.slice a 0 0).ownBlock by subst hA;split<;>cases a<;>simp[Value.ownBlock,G6]);clear hA hr1 hp1 fz hb3;have b4:=heap_setCell_same w3 p 4 _ _ (.slice A (n-m) (c-m)) HB3.o;have u4:Upd [p] w3 (w3.setCell (dD p 4) (.slice A (n-m) (c-m))):=(Upd.refl [p] w3).setCell _ _ (by simp);have HB4:=hid b4;have HU4:=hid u4;clear b4 u4;by_cases hlt:m<n
  ·have hq1:((n-m:Nat):Int)=(n:Int)-(m:Int):=by omega
   have hq2:(((n-m:Nat):Int)==0)=false:=by simp;omega
   have HQ:=hid hq1;clear hq1;go_wp2_with ((with_reducible refine AF (o:=⟨some 81,.slice _ (.tmp 79) (some (.tmp 80)) none none,_,_,_,none⟩) rfl _ _ _ _ _ rfl _ _ _ _ ?_ ?_ ?_ ?_ _ R2'.o ?_);(·rfl);(·rfl);(·rfl);(·rfl));rw[rounds_succ];go_wp2_with fail;go_ret2;have b5:=heap_setCell_same _ p 5 _ _ (iI ((n:Int)-(m:Int))) HB4.o;have u5:Upd [p] w3 ((w3.setCell (dD p 4) (.slice A (n-m) (c-m))).setCell (dD p 5) (iI ((n:Int)-(m:Int)))):=HU4.o.setCell _ _ (by simp);refine⟨_,rfl,(O3.o.upd u5 (λ q hq=> ?_)).low HU2.o.size,.inr (.inl ⟨hm1,hlt,_,⟨_,_,_,_,by rw[b5,HQ.o];rfl,u5.heap (X3.o.heap HT2.o) (by simpa using Ne.symm hpt),u5.heap (X3.o.heap HR2.o) (by simpa using Ne.symm hpc)⟩,(S2.o.ext X3.o).upd u5 (λ b i z hq=> ?_),HA.o⟩),(HU2.o.mono (by simp)).trans ((X3.o.upd _).trans (u5.mono (by simp)))⟩
   ·have:=(O3.o.lt hq).1;have:=lH HB2.o;simp;omega
   ·have hb4:=HB3.o;have:b≠p:=λ e=>by subst e;rw[cO hb4] at hq;match i,hq with|0,hq=>simp at hq|1,hq=>simp at hq|2,hq=>simp at hq|3,hq=>simp at hq|4,hq=>simp at hq|5,hq=>simp at hq|i+6,hq=>simp at hq
    simpa using this
  ·obtain rfl:m=n:=by omega
   have hq2:(((m-m:Nat):Int)==0)=true:=by simp
   go_upto_region 12 with((with_reducible refine AF (o:=⟨some 81,.slice _ (.tmp 79) (some (.tmp 80)) none none,_,_,_,none⟩) rfl _ _ _ _ _ rfl _ _ _ _ ?_ ?_ ?_ ?_ _ R2'.o ?_);(·rfl);(·rfl);(·rfl);(·rfl));refine Dh ?_;change VC prog _ _ [0,1,2,3,4] _ _;refine AB.same (i:=0) (v:= pP p 0) rfl rfl (by go_simp) ?_;refine AB.same (i:=1) (v:= pP p 0) rfl rfl (by go_simp) ?_;refine AB.same (i:=2) (v:= pP p 3) rfl rfl (by go_simp) ?_;refine AB.same (i:=3) (v:= .chan (some cr)) rfl rfl (by go_simp) ?_;refine AB.recv (i:=4) (c:=cr) (z:= .agg #[]) rfl rfl (by go_simp;rfl) ((((Upd.refl [p] w3).setCell (dD p 4) _ (by simp)).setCell (dD p 4) _ (by simp)).heap (X3.o.heap HR2.o) (by simpa using Ne.symm hpc)) (by simp) ?_;refine VC.done ?_;go_simp;have b5:=heap_setCell_same w3 p 4 _ _ (.slice A 0 (c-m)) HB3.o;have b6:=heap_setCell_same _ p 4 _ _ (nN) b5;have u6:Upd [p] w3 ((w3.setCell (dD p 4) (.slice A 0 (c-m))).setCell (dD p 4) (nN)):=((Upd.refl [p] w3).setCell _ _ (by simp)).setCell _ _ (by simp);have q6:=u6.heap (X3.o.heap HR2.o) (by simpa using Ne.symm hpc);have t6:=u6.heap (X3.o.heap HT2.o) (by simpa using Ne.symm hpt);generalize(w3.setCell (dD p 4) (.slice A 0 (c-m))).setCell (dD p 4) (nN)=w6 at*;have u7:=Uz w6 cr 64 #[] false s2 (r2+1) false;have q7:=heap_setChan w6 cr 64 #[] false s2 (r2+1) false (lH q6);generalize w6.setChan cr 64 #[] false s2 (r2+1) false=w7 at*
   have b7:=u7.heap b6 (by simpa using hpc);have t7:=u7.heap t6 (by simpa using hne);clear c0 c1 c2 c3 c4 c5 f4 f5;obtain⟨c0,c1,c2,c3,c4,c5,fz⟩:=BY b7;have f5:=fz 5;have HB7:=hid b7;have HT7:=hid t7;have HR7:=hid q7;have HU7:=hid ((u6.mono (T:=[p,ct,cr]) (by simp)).trans (u7.mono (by simp)));clear b5 b6 b7 t6 t7 q6 q7 u6 u7 fz;go_wp2_with fail;rw[rounds_succ];go_wp2_with fail;go_ret2;have b8:=heap_setCell_same w7 p 5 _ _ (iI 0) HB7.o;have u8:Upd [p] w7 (w7.setCell (dD p 5) (iI 0)):=(Upd.refl [p] w7).setCell _ _ (by simp);have U8:=HU7.o.trans (u8.mono (by simp));refine⟨_,rfl,(O3.o.upd U8 (λ q hq=> ?_)).low HU2.o.size,.inr (.inr ⟨hm1,rfl,_,_,_,_,by rw[b8];rfl,u8.heap HT7.o (by simpa using Ne.symm hpt),u8.heap HR7.o (by simpa using Ne.symm hpc)⟩),(HU2.o.mono (by simp)).trans ((X3.o.upd _).trans U8)⟩;have:=(O3.o.lt hq).1;have e1:=lH HB2.o;have e2:=lH HT2.o;have e3:=lH HR2.o;simp;omega
def pm (ss:List Int) (k:Nat) (zs:List Int):Nat:=min (ss.getD k 0).toNat zs.length
theorem Ny (h:PW w p ct cr ss k [] F):
  Calls prog 61 #[pP p 0] w λ r w'=>r= .returned (.tuple #[nN,.bool false])/\w=w':=by
 obtain⟨sa,sc,bufT,bufR,fv,s1,r1,s2,r2,hb,hct,hcr,hne,hscr,hk,hleft,hty⟩:=h;obtain⟨c0,c1,c2,c3,c4,c5,fz⟩:=BY hb;clear hb hct hcr hscr hleft c0 c1 c2 c3 c4;simp only[List.length_nil] at c5;go_in;go_wp2_with fail;go_ret2;exact⟨rfl,rfl⟩
theorem FY {t:TypeId} {c1 c2:Nat} {b1 b2:Array Value} {y1 y2:Bool} {s1 s2 r1 r2:Nat} {t1 t2:Bool} {k:Int} {sa:Option Addr} {sl:Nat} {fa:Option Addr} {fl fc:Nat} {ct' cr':Nat} (hb:w.heap[p]?=oC #[.slice sa sl sc,iI k,.chan (some ct'),.chan (some cr'),.slice fa fl fc,iI L] t) (ht:w.heap[ct]?=some (.chan c1 b1 y1 s1 r1 t1)) (hr:w.heap[cr]?=some (.chan c2 b2 y2 s2 r2 t2)):
  ∀b i z,w.cell? (dD b i)=some (.int .u8 z)->b∉[p,ct,cr]:=by
 intro b i z hq hm;simp only[Um,List.not_mem_nil,or_false] at hm;rcases hm with rfl|rfl|rfl
 ·rw[cO hb] at hq;match i,hq with|0,hq=>simp at hq|1,hq=>simp at hq|2,hq=>simp at hq|3,hq=>simp at hq|4,hq=>simp at hq|5,hq=>simp at hq|i+6,hq=>simp at hq
 ·simp[World.cell?,ht] at hq
 ·simp[World.cell?,hr] at hq
theorem Nz (h:PW w p ct cr ss k zs F) (hz:0<zs.length) (hl:zs.length<=100000) (hL:ss.length<=1000000):
  Calls prog 61 #[pP p 0] w λ r w'=>∃v,r= .returned (.tuple #[v,.bool true])/\AA w' w.heap.size 5 v (bv (zs.take (pm ss k zs)))/\PW w' p ct cr ss ((k+1)%ss.length) (zs.drop (pm ss k zs)) F/\Upd [p,ct,cr] w w':=by
 obtain⟨sa,sc,bufT,bufR,fv,s1,r1,s2,r2,hb,hct,hcr,hne,hscr,hk,hleft,hty⟩:=h;obtain⟨gs,os,rfl,hs⟩:=hscr.1.at_ hk;have h0:0<=ss.getD k 0:=hscr.2.1 _ (by simp[List.getD,Ud hk]);have hgs:=hscr.2.2 gs os rfl;have hap:=hscr.apart hct hcr;have hk':(k+1)%ss.length<ss.length:=Nat.mod_lt _ (by omega);rcases hleft with⟨rfl,_⟩|⟨_,x,rfl,⟨tv,rfl,hS,rfl⟩|⟨rfl,hS⟩⟩
 ·simp at hz
 ·obtain⟨a,c,rfl,hr,hp⟩:=hS;refine(TP (n:=zs.length) hne ⟨s1,r1,s2,r2,hb,hct,hcr⟩ ⟨a,c,rfl,hr,hp⟩ rfl hz hl hs hgs hk hL h0 (pm ss k zs) rfl _ rfl).mono ?_;rintro r w' ⟨v,rfl,hO,hP,hU⟩;refine⟨v,rfl,hO,?_,hU⟩;rcases hP with⟨e0,s1',r1',s2',r2',q1,q2,q3⟩|⟨e0,e1,fv',⟨s1',r1',s2',r2',q1,q2,q3⟩,q4,q5⟩|⟨e0,e1,s1',r1',s2',r2',q1,q2,q3⟩
  ·rw[e0,if_pos rfl] at q2;rw[e0];exact⟨_,_,_,_,_,_,_,_,_,q1,q2,q3,hne,hscr.upd hU hap,hk',.inr ⟨by intro e;simp at e;simp[e] at hz,x,rfl,.inl ⟨_,rfl,(Sl.upd ⟨a,c,rfl,hr,hp⟩ hU (FY hb hct hcr)),rfl⟩⟩,hty.same hU.size⟩
  ·exact⟨_,_,_,_,_,_,_,_,_,by rw[q1,List.length_drop],q2,q3,hne,hscr.upd hU hap,hk',.inr ⟨by intro e;have:=congrArg List.length e;simp at this;omega,x,rfl,.inr ⟨rfl,q4⟩⟩,hty.keep hU.size (λ g hg=>hty.2.2.2.2 (.slice a zs.length c) (by simp) g (by rw[q5] at hg;cases a<;>exact hg)) (λ v hv=>by cases hv)⟩
  ·have e2:zs.drop (pm ss k zs)=[]:=by rw[e1];simp
   rw[e2];exact⟨_,_,_,_,_,_,_,_,_,q1,q2,q3,hne,hscr.upd hU hap,hk',.inl ⟨rfl,rfl,rfl,rfl⟩,hty.keep hU.size (λ g hg=>by simp[Value.ownBlock] at hg) (λ v hv=>by cases hv)⟩
 ·obtain⟨a,c,rfl,hr,hp⟩:=hS;refine(TO (n:=zs.length) hne ⟨s1,r1,s2,r2,hb,hct,hcr⟩ ⟨a,c,rfl,hr,hp⟩ rfl hz hl hs hgs hk hL h0 (pm ss k zs) rfl _ rfl).mono ?_;rintro r w' ⟨v,rfl,hO,hP,hU⟩;refine⟨v,rfl,hO,?_,hU⟩;rcases hP with⟨e0,s1',r1',s2',r2',q1,q2,q3⟩|⟨e0,e1,fv',⟨s1',r1',s2',r2',q1,q2,q3⟩,q4,q5⟩|⟨e0,e1,s1',r1',s2',r2',q1,q2,q3⟩
  ·rw[e0,if_pos rfl] at q2;rw[e0];exact⟨_,_,_,_,_,_,_,_,_,q1,q2,q3,hne,hscr.upd hU hap,hk',.inr ⟨by intro e;simp at e;simp[e] at hz,x,rfl,.inr ⟨rfl,(Sl.upd ⟨a,c,rfl,hr,hp⟩ hU (FY hb hct hcr))⟩⟩,hty.same hU.size⟩
  ·exact⟨_,_,_,_,_,_,_,_,_,by rw[q1,List.length_drop],q2,q3,hne,hscr.upd hU hap,hk',.inr ⟨by intro e;have:=congrArg List.length e;simp at this;omega,x,rfl,.inr ⟨rfl,q4⟩⟩,hty.keep hU.size (λ g hg=>hty.2.2.2.1 g (by rw[q5] at hg;cases a<;>exact hg)) (λ v hv=>by cases hv)⟩
  ·have e2:zs.drop (pm ss k zs)=[]:=by rw[e1];simp
   rw[e2];exact⟨_,_,_,_,_,_,_,_,_,q1,q2,q3,hne,hscr.upd hU hap,hk',.inl ⟨rfl,rfl,rfl,rfl⟩,hty.keep hU.size (λ g hg=>by simp[Value.ownBlock] at hg) (λ v hv=>by cases hv)⟩
def cnt (n s:Nat):Nat:=if n=0 then 1 else(n+s-1)/s
def Au (n s i:Nat):Nat:=min s (n-i*s)
theorem IS (n s:Nat) (hs:1<=s):1<=cnt n s:=by
 unfold cnt
 split
 ·omega
 ·exact(Nat.le_div_iff_mul_le (by omega)).2 (by omega)
def hdr (n s i:Nat):Int:=Au n s i+(if i+1=cnt n s then 2147483648 else 0)
def part (zs:List Int) (s i:Nat):List Int:=be4 (hdr zs.length s i)++((zs.drop (i*s)).take (Au zs.length s i))
def fr (zs:List Int) (s k:Nat):List Int:=(List.range k).flatMap (part zs s)
theorem IM (zs:List Int) (s k:Nat):fr zs s (k+1)=(fr zs s k++be4 (hdr zs.length s k))++((zs.drop (k*s)).take (Au zs.length s k)):=by simp[fr,List.range_succ,part,Ui]
theorem Ka (n s i:Nat) (hn:n<=4096):0<=hdr n s i/\hdr n s i<4294967296:=by
 have:Au n s i<=n:=by unfold Au;omega
 unfold hdr
 split<;>omega
theorem Ow (hz:∀z∈zs,(Lit.int .u8 z).wf=true) (hn:zs.length<=4096) (s k:Nat):∀z∈fr zs s k,(Lit.int .u8 z).wf=true:=by
 intro z hm;simp only[fr,List.mem_flatMap,List.mem_range,part,List.mem_append] at hm;obtain⟨i,_,h|h⟩:=hm
 ·have hb:=Ka zs.length s i hn;exact Bf _ hb.1 hb.2 z h
 ·exact hz z (List.mem_of_mem_drop (List.mem_of_mem_take h))
theorem UC (zs:List Int) (hn:zs.length<=4096) (s k:Nat):(fr zs s k).length<=k*4100:=by
 induction k with
 |zero=>simp[fr]
 |succ k ih=>
  rw[IM];simp only[Uc,Ul,List.length_drop,be4,Un,List.length_nil];omega
def two (a b:Int) (i:Nat):Int:=if i=0 then a else b
def IZ (Q:Option Addr->Nat->Prop) (w:World) (a:Option Addr) (len cap:Nat) (yss:List (List Int)):Prop:=
 yss.length=len/\len<=cap/\cap<=maxLen/\(len=0\/∃g o,a=some ⟨g,o,none⟩/\∀i,i<len->∃ai ci,w.cell? (dD g (o+i))=some (.slice ai (yss.getD i []).length ci)/\AI .u8 w ai (yss.getD i []).length ci (yss.getD i [])/\Q ai ci)
theorem IZ.ext {Q:Option Addr->Nat->Prop} {len cap:Nat} (h:IZ Q w a len cap yss) (hx:Ext w w'):IZ Q w' a len cap yss:=by
 obtain⟨h1,h2,h3,h5⟩:=h;refine⟨h1,h2,h3,?_⟩;rcases h5 with h5|⟨g,o,h6,h7⟩
 ·exact .inl h5
 ·refine .inr ⟨g,o,h6,λ i hi=> ?_⟩;obtain⟨ai,ci,q1,q2,q3⟩:=h7 i hi;exact⟨ai,ci,hx.cell q1,q2.ext hx,q3⟩
inductive Dx (R:Value->List Int->Prop):List Value->List (List Int)->Prop
 |nil:Dx R [] []
 |cons {x:Value} {y:List Int} {xs:List Value} {ys:List (List Int)}:R x y->Dx R xs ys->Dx R (x::xs) (y::ys)
theorem Dx.len (h:Dx R xs ys):xs.length=ys.length:=by
 induction h with
 |nil=>rfl
 |cons _ _ ih=>simp[ih]
theorem Dx.mono {S:Value->List Int->Prop} (h:Dx R xs ys) (hs:∀x y,R x y->S x y):Dx S xs ys:=by
 induction h with
 |nil=>exact .nil
 |cons h1 _ ih=>exact .cons (hs _ _ h1) ih
theorem Dx.snoc (h:Dx R xs ys) (hx:R x y):Dx R (xs++[x]) (ys++[y]):=by
 induction h with
 |nil=>exact .cons hx .nil
 |cons h1 _ ih=>exact .cons h1 ih
theorem Dx.get (h:Dx R xs ys) {i:Nat} (hi:i<xs.length):R xs[i] (ys.getD i []):=by
 induction h generalizing i with
 |nil=>simp at hi
 |cons h1 _ ih=>
  cases i with
  |zero=>simpa using h1
  |succ i=>simpa using ih (by simpa using hi)
def BU (w:World) (base:Nat) (x:Value) (y:List Int):Prop:=AA w base 5 x (bv y)/\∀z∈y,(Lit.int .u8 z).wf=true
def AN (w:World) (base:Nat) (v:Value) (yss:List (List Int)):Prop:=∃xs,AA w base 26 v xs/\Dx (BU w base) xs yss
theorem AN.nil (w:World) (base:Nat):AN w base (nN) []:=⟨[],AA.nil _ _ _,.nil⟩
theorem AN.ext (h:AN w base v yss) (hx:Ext w w'):AN w' base v yss:=by
 obtain⟨xs,h1,h2⟩:=h;exact⟨xs,h1.ext hx,h2.mono λ x y h=>⟨h.1.ext hx,h.2⟩⟩
theorem FD:(prog.info? 26).map (λ i=>(i.zero,i.size,i.bytes))=some (some (nN),1,24):=by kernel_rfl
theorem AA.one {e:TypeId} (h:AA w base e v xs):v.oneCell'=true:=by
 rcases h.form with⟨rfl,_⟩|⟨g,cap,cur,rfl,_⟩<;>rfl
theorem AA.apart {b1 b2:Nat} {e1 e2:TypeId} {v1 v2:Value} {x1 x2:List Value} (h1:AA w b1 e1 v1 x1) (h2:AA w b2 e2 v2 x2) (he:e1≠e2) {g:Nat} (hg:v1.ownBlock=some g):v2.ownBlock≠some g:=by
 intro hg2;rcases h1.form with⟨rfl,_⟩|⟨g1,c1,k1,rfl,_,_,_,hh1,_⟩
 ·simp[Value.ownBlock] at hg
 ·rcases h2.form with⟨rfl,_⟩|⟨g2,c2,k2,rfl,_,_,_,hh2,_⟩
  ·simp[Value.ownBlock] at hg2
  ·simp only[Value.ownBlock,Option.some.injEq] at hg hg2;subst hg;subst hg2;rw[hh1] at hh2;injection hh2 with hh2;injection hh2 with _ h _;exact he h
theorem AN.push (h:AN w base v yss) (hx:BU w base x y) (hb:base<=w.heap.size) (hl:yss.length<=1000):
  ∃v' w',(Builtin.append_ #[71,71] 71 #[v,sS w.heap.size 0 1 1]).run prog (w.alloc (.cells #[x] 26))= .ok v' w'/\AN w' base v' (yss++[y])/\∀o,o.heap.size<=base->Ext o w->Ext o w':=by
 obtain⟨xs,h1,h2⟩:=h;have hlen:=h2.len;obtain⟨v',w',p1,p2,p3,_⟩:=h1.append1 (P:=prog) (t:=71) (ty:=71) (nN) 24 underlying71 FD rfl x hx.1.one (by unfold maxLen;omega) (by omega) hb;have far:∀x y,BU w base x y->BU w' base x y:=λ x1 y1 hxy=>by
  refine⟨?_,hxy.2⟩;refine⟨hxy.1.1,?_⟩;rcases hxy.1.2 with hn|⟨g,cap,cur,hv,hb,hg,rest⟩
  ·exact .inl hn
  ·refine .inr ⟨g,cap,cur,hv,hb,?_,rest⟩;have hga:=((Ext.refl w).alloc (.cells #[x] 26)).heap hg;refine Br p3 hga (λ e=> ?_);exact hxy.1.apart h1 (by decide) (g:=g) (by rw[hv];rfl) e.symm
 exact⟨v',w',p1,⟨xs++[x],p2,(h2.mono far).snoc (far _ _ hx)⟩,λ o ho hxo=>Uu p3 (hxo.alloc _) (λ g hg=>by have:=(h1.lt hg).1;omega)⟩
theorem AN.rows (h:AN w base v yss):∃a cap,v= .slice a yss.length cap/\IZ Bj w a yss.length cap yss/\Bj a cap:=by
 obtain⟨xs,h1,h2⟩:=h;have hlen:=h2.len;rcases h1.form with⟨rfl,h0⟩|⟨g,cap,cur,hv,hb,hn,hm,hg,hs,ht⟩
 ·subst h0;have hy:yss=[]:=List.eq_nil_of_length_eq_zero (by simpa using hlen.symm);subst hy;exact⟨none,0,rfl,⟨rfl,by simp,by unfold maxLen;omega,.inl rfl⟩,.inl ⟨rfl,rfl⟩⟩
 ·rw[hlen] at hv hn ht;refine⟨_,cap,hv,⟨rfl,hn,hm,.inr ⟨g,0,rfl,λ i hi=> ?_⟩⟩,.inr ⟨g,0,rfl⟩⟩;have hi':i<xs.length:=by omega
  have hr:=h2.get hi';obtain⟨ai,ci,e1,e2,e3⟩:=hr.1.row2 hr.2;refine⟨ai,ci,?_,e2,e3⟩;have h3:(cur.toList.take yss.length)[i]?=cur[i]?:=by rw[List.getElem?_take,if_pos hi];simp
  rw[Nat.zero_add,cO hg i,<-h3,ht,Ud hi',e1]
theorem Ro (n s i:Nat) (hs:1<=s):i<cnt n s↔(i=0\/i*s<n):=by
 unfold cnt
 split
 ·next h=>subst h;omega
 ·next h=>
  rw[show(i<(n+s-1)/s)↔i+1<=(n+s-1)/s from Iff.rfl,Nat.le_div_iff_mul_le (by omega),Nat.add_mul];constructor
  ·intro h1;right;omega
  ·rintro(rfl|h1)
   ·omega
   ·omega
theorem IL:(prog.info? 3).map (λ i=>(i.zero,i.size,i.bytes))=some (some (iI 0),1,8):=by kernel_rfl
theorem more (h:AA w base 3 v xs) (x:Int) (hl:xs.length<=5000) (hb:base<=w.heap.size):
  ∃v' w',(Builtin.append_ #[23,23] 23 #[v,sS w.heap.size 0 1 1]).run prog (w.alloc (.cells #[iI x] 3))= .ok v' w'/\AA w' base 3 v' (xs++[iI x])/\
   Ext w (w.alloc (.cells #[iI x] 3))/\∀o,o.heap.size<=base->Ext o w->Ext o w':=by
 obtain⟨v',w',h1,h2,h3,_⟩:=h.append1 (P:=prog) (t:=23) (ty:=23) (iI 0) 8 underlying23 IL rfl (iI x) rfl (by unfold maxLen;omega) (by omega) hb;exact⟨v',w',h1,h2,(Ext.refl w).alloc _,λ o ho hx=>Uu h3 (hx.alloc _) (λ g hg=>by have:=(h.lt hg).1;omega)⟩
structure St where
 mode:Nat
 num:List Int
 rc:List Int
 count:Nat
 need:Nat
 ends:Bool
 err:Int
def St.new:St:=⟨0,[],[],0,0,false,0⟩
def BJ (x:Int):Nat:=(x%2147483648).toNat
def DM (x:Int):Bool:=decide (2147483648<=x)
def St.fail (s:St) (e:Int):St:=⟨2,[],[],0,s.need,s.ends,e⟩
def Ak (m f:Nat) (s:St) (c:Int):St×Bool:=
 if s.num.length<3 then(⟨0,s.num++[c],s.rc,s.count,s.need,s.ends,s.err⟩,false)
 else if s.count=f then(s.fail 5,false)
 else if m<s.rc.length+BJ (val (s.num++[c])) then(s.fail 4,false)
 else if BJ (val (s.num++[c]))=0 then(⟨0,[],s.rc,s.count+1,0,DM (val (s.num++[c])),s.err⟩,DM (val (s.num++[c])))
 else(⟨1,[],s.rc,s.count+1,BJ (val (s.num++[c])),DM (val (s.num++[c])),s.err⟩,false)
def A7 (s:St) (c:Int):St×Bool:=
 if 1<s.need then(⟨1,s.num,s.rc++[c],s.count,s.need-1,s.ends,s.err⟩,false)
 else(⟨0,s.num,s.rc++[c],s.count,0,s.ends,s.err⟩,s.ends)
def step (m f:Nat) (s:St) (c:Int):St×Bool:=if s.mode=0 then Ak m f s c else if s.mode=1 then A7 s c else(s,false)
def tell (p:St×Bool) (L:List (List Int)):St×List (List Int):=
 if p.2 then(⟨p.1.mode,p.1.num,[],0,p.1.need,p.1.ends,p.1.err⟩,L++[p.1.rc]) else(p.1,L)
def stepF (m f:Nat) (p:St×List (List Int)) (c:Int):St×List (List Int):=tell (step m f p.1 c) p.2
def feed (m f:Nat) (b:List Int) (p:St×List (List Int)):St×List (List Int):=b.foldl (stepF m f) p
theorem PJ (m f:Nat) (p:St×List (List Int)):feed m f [] p=p:=rfl
theorem BN (m f:Nat) (c:Int) (b:List Int) (p:St×List (List Int)):feed m f (c::b) p=feed m f b (stepF m f p c):=rfl
theorem Fv (m f:Nat) (a b:List Int) (p:St×List (List Int)):feed m f (a++b) p=feed m f b (feed m f a p):=by simp[feed]
theorem Mp (m f:Nat) (b:List Int) (c:Int) (p:St×List (List Int)):feed m f (b++[c]) p=stepF m f (feed m f b p) c:=by simp[feed]
theorem JR (m f:Nat) (b:List Int):∀(s:St) (L:List (List Int)),feed m f b (s,L)=((feed m f b (s,[])).1,L++(feed m f b (s,[])).2):=by
 induction b with
 |nil=>intro s L;simp[feed]
 |cons c b ih=>
  intro s L;rw[BN,BN];unfold stepF tell;simp only
  split
  ·rw[ih,ih _ ([]++_)];simp[Ui]
  ·rw[ih]
def Inv (m f:Nat) (s:St):Prop:=
 s.mode<=2/\s.num.length<=3/\s.rc.length<=m/\s.count<=f/\(s.mode=1->1<=s.need/\s.rc.length+s.need<=m/\s.num=[])/\(s.mode=2->s.num=[]/\s.rc=[]/\s.count=0)
theorem Inv.new (m f:Nat):Inv m f St.new:=by simp[Inv,St.new]
theorem Inv.step {s:St} (h:Inv m f s) (c:Int):Inv m f (step m f s c).1:=by
 obtain⟨h1,h2,h3,h4,h5,h6⟩:=h;unfold Proofs.YtdakioiagpkfhaaGreatDoor.step
 split
 ·unfold Ak
  split
  ·simp[Inv];omega
  ·split
   ·simp[Inv,St.fail]
   ·split
    ·simp[Inv,St.fail]
    ·split
     ·simp[Inv];omega
     ·simp[Inv];omega
 ·split
  ·next hm=>
   have:=h5 hm;unfold A7
   split
   ·simp[Inv];refine⟨h2,by omega,h4,by omega,by omega,this.2.2⟩
   ·simp[Inv];refine⟨h2,by omega,h4⟩
  ·exact⟨h1,h2,h3,h4,h5,h6⟩
theorem Inv.tell {p:St×Bool} (h:Inv m f p.1) (hb:p.2=true->p.1.mode=0) (L:List (List Int)):Inv m f (tell p L).1:=by
 obtain⟨h1,h2,h3,h4,h5,h6⟩:=h;unfold Proofs.YtdakioiagpkfhaaGreatDoor.tell
 split
 ·next hp=>have:=hb hp;simp[Inv];omega
 ·exact⟨h1,h2,h3,h4,h5,h6⟩
theorem MA {s:St} {c:Int} (h:(step m f s c).2=true):(step m f s c).1.mode=0:=by
 unfold step at h|-
 split
 ·next h0=>
  rw[if_pos h0] at h;unfold Ak at h|-
  repeat' split
  all_goals first|rfl|(exfalso;revert h;repeat' split)<;>simp_all
 ·next h0=>
  rw[if_neg h0] at h
  split
  ·next h1=>
   rw[if_pos h1] at h;unfold A7 at h|-
   split
   ·next h2=>rw[if_pos h2] at h;simp at h
   ·rfl
  ·next h1=>rw[if_neg h1] at h;simp at h
theorem Inv.stepF {p:St×List (List Int)} (h:Inv m f p.1) (c:Int):Inv m f (stepF m f p c).1:=Inv.tell (h.step c) MA _
theorem Inv.feed:∀(b:List Int) {p:St×List (List Int)},Inv m f p.1->Inv m f (feed m f b p).1
 |[],_,h=>h
 |c::b,p,h=>by rw[BN];exact Inv.feed b (h.stepF c)
theorem Fq (m f:Nat):∀(t:List Int) (rc:List Int) (count need:Nat) (ends:Bool) (err:Int) (L:List (List Int)),1<=need->need<=t.length->
  feed m f t (⟨1,[],rc,count,need,ends,err⟩,L)=feed m f (t.drop need) (if ends then(⟨0,[],[],0,0,ends,err⟩,L++[rc++t.take need]) else(⟨0,[],rc++t.take need,count,0,ends,err⟩,L))
 |[],rc,count,need,ends,err,L,h1,h2=>by simp at h2;omega
 |c::t,rc,count,need,ends,err,L,h1,h2=>by
  simp only[Un] at h2;rw[BN];by_cases hn:1<need
  ·have:stepF m f (⟨1,[],rc,count,need,ends,err⟩,L) c=(⟨1,[],rc++[c],count,need-1,ends,err⟩,L):=by
    simp[stepF,step,A7,tell,hn]
   rw[this,Fq m f t _ _ _ _ _ _ (by omega) (by omega)];obtain⟨k,rfl⟩:∃k,need=k+1:=⟨need-1,by omega⟩;simp
  ·obtain rfl:need=1:=by omega
   have:stepF m f (⟨1,[],rc,count,1,ends,err⟩,L) c=(if ends then(⟨0,[],[],0,0,ends,err⟩,L++[rc++[c]]) else(⟨0,[],rc++[c],count,0,ends,err⟩,L)):=by
    cases ends<;>simp[stepF,step,A7,tell]
   rw[this];simp
theorem feed4 (m f:Nat) (x y z u:Int) (t rc:List Int) (n need:Nat) (ends:Bool) (L:List (List Int)):
  feed m f (x::y::z::u::t) (⟨0,[],rc,n,need,ends,0⟩,L)=feed m f t (tell (Ak m f ⟨0,[x,y,z],rc,n,need,ends,0⟩ u) L):=by
 rw[BN,BN,BN,BN];simp[stepF,step,Ak,tell]
theorem OQ (n:Nat) (h:n<2147483648):BJ n=n:=by unfold BJ;omega
theorem Ma (n:Nat) (h:n<2147483648):BJ ((n:Int)+2147483648)=n:=by unfold BJ;omega
theorem K8 (n s i:Nat):Au n s i<=n:=by unfold Au;omega
theorem RN (n s i:Nat) (hn:n<=4096):BJ (hdr n s i)=Au n s i:=by
 have:=K8 n s i;unfold hdr
 split
 ·exact Ma _ (by omega)
 ·rw[Int.add_zero];exact OQ _ (by omega)
theorem RM (n s i:Nat) (hn:n<=4096):DM (hdr n s i)=decide (i+1=cnt n s):=by
 have:=K8 n s i;unfold hdr DM
 split
 ·next h=>simp[h];omega
 ·next h=>simp[h];omega
theorem Gp (m f:Nat) (zs:List Int) (s i:Nat) (hn:zs.length<=4096) (_hm:zs.length<=m) (rc:List Int) (hr:rc.length+Au zs.length s i<=m) (n need:Nat) (hf:n<f) (ends:Bool) (L:List (List Int)) (t:List Int):
  ∃need' ends',feed m f (part zs s i++t) (⟨0,[],rc,n,need,ends,0⟩,L)=
   feed m f t (if i+1=cnt zs.length s then(⟨0,[],[],0,need',ends',0⟩,L++[rc++(zs.drop (i*s)).take (Au zs.length s i)]) else(⟨0,[],rc++(zs.drop (i*s)).take (Au zs.length s i),n+1,need',ends',0⟩,L)):=by
 have hb:=Ka zs.length s i hn;have e:part zs s i++t=hdr zs.length s i/16777216::hdr zs.length s i/65536%256::hdr zs.length s i/256%256::hdr zs.length s i%256::((zs.drop (i*s)).take (Au zs.length s i)++t):=by
  simp[part,be4]
 have hv:val [hdr zs.length s i/16777216,hdr zs.length s i/65536%256,hdr zs.length s i/256%256,hdr zs.length s i%256]=hdr zs.length s i:=Ez _ hb.1 hb.2;rw[e,feed4];unfold Ak;rw[if_neg (by simp)];simp only[List.cons_append,List.nil_append];rw[hv,RN _ _ _ hn,RM _ _ _ hn,if_neg (by omega),if_neg (by omega)];have hlen:((zs.drop (i*s)).take (Au zs.length s i)).length=Au zs.length s i:=by
  simp only[Ul,List.length_drop];unfold Au;omega
 generalize(zs.drop (i*s)).take (Au zs.length s i)=d at*;by_cases h0:Au zs.length s i=0
 ·have hd:d=[]:=List.eq_nil_of_length_eq_zero (by omega);subst hd;rw[if_pos h0];refine⟨0,decide (i+1=cnt zs.length s),?_⟩;by_cases hl:i+1=cnt zs.length s
  ·simp[tell,hl]
  ·simp[tell,hl]
 ·rw[if_neg h0];simp only[tell,Bool.false_eq_true,if_false];refine⟨0,decide (i+1=cnt zs.length s),?_⟩;rw[Fq m f _ _ _ _ _ _ _ (by omega) (by simp;omega)];rw[<-hlen,List.drop_left,List.take_left];by_cases hl:i+1=cnt zs.length s
  ·simp[hl]
  ·simp[hl]
theorem Dj (zs:List Int) (s i:Nat):zs.take (i*s)++(zs.drop (i*s)).take (Au zs.length s i)=zs.take ((i+1)*s):=by
 have:(zs.drop (i*s)).take (Au zs.length s i)=(zs.drop (i*s)).take s:=by
  unfold Au;rcases Nat.le_total s (zs.length-i*s) with h|h
  ·rw[Nat.min_eq_left h]
  ·rw[Nat.min_eq_right h,List.take_of_length_le (by simp),List.take_of_length_le (by simp;omega)]
 rw[this,Nat.add_mul,Nat.one_mul,List.take_add]
theorem LY (zs:List Int) (s k:Nat):fr zs s (k+1)=fr zs s k++part zs s k:=by simp[fr,List.range_succ]
theorem Rg (m f:Nat) (zs:List Int) (s:Nat) (hn:zs.length<=4096) (hm:zs.length<=m) (L:List (List Int)) (hf:cnt zs.length s<=f) (need:Nat) (ends:Bool):∀(i:Nat),i<cnt zs.length s->∀t,
  ∃need' ends',feed m f (fr zs s i++t) (⟨0,[],[],0,need,ends,0⟩,L)=feed m f t (⟨0,[],zs.take (i*s),i,need',ends',0⟩,L):=by
 intro i
 induction i with
 |zero=>intro _ t;exact⟨need,ends,by simp[fr]⟩
 |succ i ih=>
  intro hi t;obtain⟨n1,e1,h1⟩:=ih (by omega) (part zs s i++t);have hr:(zs.take (i*s)).length+Au zs.length s i<=m:=by
   simp only[Ul];unfold Au;omega
  obtain⟨n2,e2,h2⟩:=Gp m f zs s i hn hm (zs.take (i*s)) hr i n1 (by omega) e1 L t;refine⟨n2,e2,?_⟩;rw[LY,Ui,h1,h2,if_neg (by omega),Dj]
theorem NW (n s:Nat) (hs:1<=s):n<=cnt n s*s:=by
 have h:=Ro n s (cnt n s) hs;have:¬cnt n s*s<n:=λ h1=>by have:=h.2 (.inr h1);omega
 omega
theorem PI (m f:Nat) (zs:List Int) (s:Nat) (hs:1<=s) (hn:zs.length<=4096) (hm:zs.length<=m) (L:List (List Int)) (hf:cnt zs.length s<=f) (need:Nat) (ends:Bool) (t:List Int):
  ∃need' ends',feed m f (fr zs s (cnt zs.length s)++t) (⟨0,[],[],0,need,ends,0⟩,L)=feed m f t (⟨0,[],[],0,need',ends',0⟩,L++[zs]):=by
 have hp:=IS zs.length s hs;obtain⟨c,hc⟩:∃c,cnt zs.length s=c+1:=⟨cnt zs.length s-1,by omega⟩;obtain⟨n1,e1,h1⟩:=Rg m f zs s hn hm L hf need ends c (by omega) (part zs s c++t);have hr:(zs.take (c*s)).length+Au zs.length s c<=m:=by
  simp only[Ul];unfold Au;omega
 obtain⟨n2,e2,h2⟩:=Gp m f zs s c hn hm (zs.take (c*s)) hr c n1 (by omega) e1 L t;refine⟨n2,e2,?_⟩;rw[hc,LY,Ui,h1,h2,if_pos hc.symm,Dj];have h3:=NW zs.length s hs;rw[hc] at h3;rw[List.take_of_length_le (by omega)]
end Go.Proofs.YtdakioiagpkfhaaGreatDoor
