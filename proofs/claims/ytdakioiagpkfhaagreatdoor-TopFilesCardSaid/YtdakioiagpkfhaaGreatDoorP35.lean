import Derived.Test.YtdakioiagpkfhaaGreatDoorP34
set_option maxRecDepth 99999
set_option maxHeartbeats 0
set_option linter.all false
namespace Go.Proofs.YtdakioiagpkfhaaGreatDoor
open RowKit Conc
open Go.Proofs.Tryz
variable {F:List Nat} {X:SX} {c:SC} {n:Nat} {rs:List Int} {rv:RV} {w:World}
def pmW (c:SC) (w:World):Nat:=
 match w.cell? (dD c.bp 5),w.cell? (dD c.bp 1) with
 |some (.int _ l),some (.int _ k)=>l.toNat*(c.bs.length+1)+CK c.bs c.bs.length k.toNat
 |_,_=>0
theorem SP.pm (h:SP c X w F):pmW c w=DD c.bs X.kb X.zb/\X.kb<c.bs.length/\(∀z∈X.zb,(Lit.int .u8 z).wf=true):=by
 obtain⟨G,hp,-⟩:=h.step 4 rfl;have hp:PW w c.bp c.bc c.br c.bs X.kb X.zb G:=hp;have hk:=hp.klt;have hw:=hp.wf;obtain⟨sa,sc,bufT,bufR,fv,s1,r1,s2,r2,hb,-⟩:=hp;have e5:w.cell? (dD c.bp 5)=some (iI X.zb.length):=cO hb 5;have e1:w.cell? (dD c.bp 1)=some (iI X.kb):=cO hb 1;refine⟨?_,hk,hw⟩;unfold pmW DD;rw[e5,e1];simp
structure Far (A B N:Nat) (w:World) (F:List Nat):Prop where
 a:A∉F
 b:B∉F
 la:A<N
 lb:B<N
 n:N<=w.heap.size
theorem Far.step {A B N:Nat} {w':World} {F':List Nat} (h:Far A B N w F) (M:Mv w w' F F'):Far A B N w' F':=
 have h1:=h.la;have h2:=h.lb;have h3:=h.n
 ⟨λ hm=>by rcases M.2 _ hm with k|k;exact h.a k;omega,λ hm=>by rcases M.2 _ hm with k|k;exact h.b k;omega,h1,h2,Nat.le_trans h3 M.size⟩
def Ln (c:SC) (X:SX) (rv:RV) (rs:List Int) (A B N:Nat) (kb:Nat) (zb:List Int) (s:St) (w wr:World) (F:List Nat):Prop:=
 ∃F' d,Mv w wr F F'/\Far A B N wr F'/\wr.heap[A]?=oC Bk 142/\SP c {X with l:=[],kb:=kb,zb:=zb,sd:=s} wr F'/\wr.heap[B]?=oC (rv.cells d) 142/\AA wr N 5 d (bv rs)/\∀g,d.ownBlock=some g->g∉F'
def Lm (c:SC) (X:SX) (R:List Int) (rv:RV) (rs:List Int) (T:List Int) (A B N:Nat) (w wr:World) (F:List Nat):Prop:=
 ∃pre zb kb,pre++zb=T/\(((feed 4096 64 pre (X.sd,[])).2=[]/\∃F',Mv w wr F F'/\Far A B N wr F'/\wr.heap[A]?=oC Bk 142/\SP c {X with kb:=kb,zb:=zb,sd:=(feed 4096 64 pre (X.sd,[])).1} wr F'/\wr.heap[B]?=oC Bk 142)\/
  ((feed 4096 64 pre (X.sd,[])).2=[R]/\Ln c X rv rs A B N kb zb (feed 4096 64 pre (X.sd,[])).1 w wr F))
theorem NU (h:SP c X w F) (hc:c.Scripts) {x p:Int} (hl:X.l=[⟨x,p,p⟩]) (ok:BH p rv rs) (hw:Wf rs) (hx:0<=x/\x<4294967296) (hp:0<=p/\p<4294967296) {need:Nat} {ends:Bool} (hsd:X.sd=idle need ends) {s:Nat} (hs:64<=s) (hzb:X.zb=fr (Aj true x p (Bz p rv rs)) s (cnt (Aj true x p (Bz p rv rs)).length s)):
  Calls prog 48 #[pP c.sp 0] w λ r w'=>∃d,r= .returned (rv.val d)/\AA w' w.heap.size 5 d (bv rs)/\∃F' kb need ends,SP c {X with l:=[],kb:=kb,zb:=[],sd:=idle need ends} w' F'/\Mv w w' F F'/\∀g,d.ownBlock=some g->g∉F':=by
 obtain⟨R,hR⟩:∃R,R=Aj true x p (Bz p rv rs):=⟨_,rfl⟩;rw[<-hR] at hzb;have hRl:R.length<=4096:=by have h1:=C5 true x p (Bz p rv rs);have h2:=DN ok;rw[hR];omega
 have HRec:=hid (λ (Y:SX) (W:World) (G:List Nat) (v:Value) (hP:SP c Y W G) (e:Y.l=X.l) (q:Sl W v R)=>KE hP (e.trans hl) ok hw hx hp (by rw[<-hR];exact q));have hTl:=(Fl hs hRl).2;obtain⟨T,hT⟩:∃T,T=fr R s (cnt R.length s):=⟨_,rfl⟩;rw[<-hT] at hzb hTl;obtain⟨need2,ends2,hfeed⟩:=JS (zs:=R) hs hRl need ends;rw[<-hT,<-hsd] at hfeed;have HFe:=hid hfeed;have HZ:=hid hzb;have HSc:=hid hc;have HIv:=hid (show Inv 4096 64 X.sd by rw[hsd];exact JJ _ _);have HEr:=hid (show X.sd.err=0 by rw[hsd];rfl);have HWr:=hid hw;have HTl:=hid hTl;have HFl:=hid h.lt;have HP:=hid h;clear hl ok hw hx hp hsd hs hR hRl hT hfeed hzb h hc hTl;go_in;go_upto_region 2 with fail;obtain⟨W0,hW0⟩:∃W,W=((w.alloc (.cells Bk 142)).alloc (.cells Bk 142)):=⟨_,rfl⟩;unfold Bk at hW0;rw[<-hW0];obtain⟨hA,hB,X0⟩:=AH w (.cells Bk 142) (.cells Bk 142);unfold Bk at hA hB X0;rw[<-hW0] at hA hB X0;have hz0:w.heap.size+2<=W0.heap.size:=by rw[hW0];simp
 have HI0:=hid (show Lm c X R rv rs T w.heap.size (w.heap.size+1) (w.heap.size+2) w W0 F from⟨[],T,X.kb,rfl,.inl ⟨rfl,F,Mv.of_ext X0 F,⟨λ hm=>by have:=HFl.o _ hm;omega,λ hm=>by have:=HFl.o _ hm;omega,by omega,by omega,hz0⟩,hA,by rw[<-HZ.o];exact HP.o.ext X0,hB⟩⟩);clear hW0 hA hB X0;go_loopw [4] (λ v4 wr=>Lm c X R rv rs T w.heap.size (w.heap.size+1) (w.heap.size+2) w wr F) (λ v4 wr=>pmW c wr)
 case atStart=>exact HI0.o
 case round=>
  obtain⟨pre,zb,kb,hpz,hst⟩:=hrel;by_cases hz:zb=[]
  ·subst hz;rw[List.append_nil] at hpz;subst hpz;rw[HFe.o] at hst;rcases hst with⟨h0,-⟩|⟨-,F',d,hM,hFr,hA,hP,hB,hO,hd⟩
   ·cases h0
   ·obtain⟨da,dc,rfl,-,-⟩:=hO.sl HWr.o;obtain⟨k,hk⟩:∃k,k=rs.length:=⟨_,rfl⟩;rw[<-hk] at hO hB hd;have c15:wr.cell? (dD c.sp 15)=some (.bool false):=cO hP.blk.1 15;have c9:wr.cell? (dD c.sp 9)=some (pP c.bp 0):=cO hP.blk.1 9;have HN:=hid (TC hP rfl);have HP:=hid hP;have HM:=hid hM;have HO:=hid hO;have HD:=hid hd;have HA:=hid hA;have HFr:=hid hFr;obtain⟨s0,s1,s2,s3,s4,s5,s6,s7,s8,s9,-⟩:=AC (show wr.heap[w.heap.size+1]?=oC (rR rv.e rv.h1 rv.h2 rv.kind rv.mode rv.size (.slice da k dc) rv.count rv.eof (nN)) 142 from hB);obtain⟨r0,r1,r2,r3,r4,r5,r6,r7,r8,r9,rf⟩:=AC (show wr.heap[w.heap.size]?=oC rZ 142 from hA);clear hM hA hP hB hO hd hk HRec hFr;go_wp2_with (go_at_call 61;refine HN.o.mono ?_;rintro r w1 ⟨rfl,rfl⟩);refine Aa (R:=w.heap.size) (w0:=wr) (Pr:=λ W=>bodyPost _ _ _ _ _ W) _ (Ao (show wr.heap[w.heap.size]?=oC rZ 142 from HA.o)) (AX _ _ _ _ _ _ _ _ _ _ _ _) ?_;clear r0 r1 r2 r3 r4 r5 r6 r7 r8 r9 rf s0 s1 s2 s3 s4 s5 s6 s7 s8 s9;intro W hR hU;have hn:=HFr.o.a;have P6:=(SP.loc c _).2 _ _ _ _ HP.o hU (λ b hb hm=>by simp at hm;subst hm;exact hn hb);have M6:=HM.o
    refine Ue (v:=rv.val (.slice da k dc)) (Uj rfl _ _ w.heap.size 142 (rv.cells (.slice da k dc)) (0,0) _ rfl hR underlying142 rfl FE) rfl ⟨_,rfl,?_,F',kb,need2,ends2,P6,⟨M6.1.trans2 hU (λ i hi=> .inr (by simp at hi;omega)),M6.2⟩,HD.o⟩;exact(HO.o.upd hU (λ g hg hm=>by have:=(HO.o.lt hg).1;simp at hm;omega)).low (by omega)
  ·obtain⟨m,hm⟩:∃m,m=pm c.bs kb zb:=⟨_,rfl⟩;have hzl:0<zb.length:=List.length_pos_iff.2 hz;have hzT:zb.length<=4400:=by have:=HTl.o;rw[<-hpz,Uc] at this;omega
   obtain⟨t1,o,t2,p',q,g1,g2,g3,hcs⟩:=Fu (a:=pre) (y:=zb.take m) (b:=zb.drop m) (s:=X.sd) (by rw[Ui,List.take_append_drop,hpz];exact HFe.o);have he2:t2.err=0:=by
    have:=N0 (b:=pre++zb.take m) (c:=zb.drop m) (t:=idle need2 ends2) (L:=[R]) (by rw[Ui,List.take_append_drop,hpz];exact HFe.o) HEr.o rfl;rw[g3] at this;exact this
   have hi1:Inv 4096 64 t1:=by have:=Inv.feed pre (p:=(X.sd,[])) HIv.o;rw[g1] at this;exact this
   have hpz2:(pre++zb.take m)++zb.drop m=T:=by rw[Ui,List.take_append_drop,hpz]
   have hst2:∃Y F',SP c Y wr F'/\Mv w wr F F'/\Far w.heap.size (w.heap.size+1) (w.heap.size+2) wr F'/\Y.zb=zb/\Y.kb=kb/\Y.sd=t1/\wr.heap[w.heap.size]?=oC Bk 142/\
     ((o=[]/\∀w3 F3 kb',SP c {Y with kb:=kb',zb:=zb.drop m,sd:=t2} w3 F3->Mv wr w3 F' F3->Lm c X R rv rs T w.heap.size (w.heap.size+1) (w.heap.size+2) w w3 F)\/
      (o=[R]/\Y={X with kb:=kb,zb:=zb,sd:=t1}/\wr.heap[w.heap.size+1]?=oC Bk 142/\∀w3 kb',Ln c X rv rs w.heap.size (w.heap.size+1) (w.heap.size+2) kb' (zb.drop m) t2 w w3 F->Lm c X R rv rs T w.heap.size (w.heap.size+1) (w.heap.size+2) w w3 F)):=by
    simp only[g1] at hst;rcases hst with⟨h0,F',hM,hFr,hA,hP,hB⟩|⟨h0,F',d,hM,hFr,hA,hP,hB,hO,hd⟩
    ·refine⟨_,F',hP,hM,hFr,rfl,rfl,rfl,hA,?_⟩;have n1:=hFr.a;have n2:=hFr.b;rcases hcs with⟨-,ho,hq⟩|⟨-,ho,hq⟩|⟨h3,-,-⟩
     ·exact .inl ⟨ho,λ w3 F3 kb' hP3 hM3=>⟨pre++zb.take m,zb.drop m,kb',hpz2,.inl (by rw[g3];exact⟨hq,F3,hM.trans hM3,hFr.step hM3,hM3.1.heap hA n1,hP3,hM3.1.heap hB n2⟩)⟩⟩
     ·exact .inr ⟨ho,rfl,hB,λ w3 kb' hT=>⟨pre++zb.take m,zb.drop m,kb',hpz2,.inr (by rw[g3];exact⟨hq,hT⟩)⟩⟩
     ·rw[h0] at h3;cases h3
    ·refine⟨_,F',hP,hM,hFr,rfl,rfl,rfl,hA,?_⟩;have n1:=hFr.a;have n2:=hFr.b;rcases hcs with⟨h3,-,-⟩|⟨h3,-,-⟩|⟨-,ho,hq⟩
     ·rw[h0] at h3;cases h3
     ·rw[h0] at h3;cases h3
     ·exact .inl ⟨ho,λ w3 F3 kb' hP3 hM3=>⟨pre++zb.take m,zb.drop m,kb',hpz2,.inr (by
       rw[g3];exact⟨hq,F3,d,hM.trans hM3,hFr.step hM3,hM3.1.heap hA n1,hP3,hM3.1.heap hB n2,hO.upd hM3.1 (λ g hg hm=>hd g hg hm),λ g hg hm=>by
        rcases hM3.2 g hm with k|k
        ·exact hd g hg k
        ·have:=(hO.lt hg).2;omega⟩)⟩⟩
   obtain⟨Y,F',hP,hM,hFr,hYz,hYk,hYs,hA,hfin⟩:=hst2;have hpm:=hP.pm;rw[hYz,hYk] at hpm;have hdec:=Dr hpm.2.1 HSc.o.b.2 hzl;have hN:=TD hP (by rw[hYz];exact hzl) (by rw[hYz];omega) (by have:=HSc.o.b.1;omega);rw[hYz,hYk,<-hm] at hN;have hwz:Wf zb:=hpm.2.2;have HN:=hid hN;have HP:=hid hP;have HM:=hid hM;have HFin:=hid hfin;have HA:=hid hA;have HG2:=hid g2;have HWz:=hid hwz;have HE2:=hid he2;have HI1:=hid hi1;have HYs:=hid hYs;have HYk:=hid hYk;have HYz:=hid hYz;have HFr:=hid hFr;have HMz:=hid (λ (Z:SX) (W:World) (G:List Nat) (hP:SP c Z W G) (e1:Z.kb=(kb+1)%c.bs.length) (e2:Z.zb=zb.drop m)=>(show pmW c W<pmW c wr by rw[hP.pm.1,hpm.1,e1,e2,hm];exact hdec));have c15:wr.cell? (dD c.sp 15)=some (.bool false):=cO hP.blk.1 15;have c9:wr.cell? (dD c.sp 9)=some (pP c.bp 0):=cO hP.blk.1 9;clear hFr hst g1 g2 g3 hcs he2 hi1 hpz2 hpz hP hM hfin hA hpm hdec hN hwz hYs hm hYk hYz hz;go_wp2_with fail;refine HN.o.mono ?_;rintro r w2 ⟨v,rfl,O2,P2,M2⟩;have hs2:=O2.sl (λ z hz=>HWz.o z (List.mem_of_mem_take hz));have hfd:=QX P2 (show Inv 4096 64 Y.sd by rw[HYs.o];exact HI1.o) hs2 (by rw[Ul];omega) (λ k hk hm=>by have:=(O2.lt hk).1;have:=HP.o.lt k hm;omega);simp only[HYs.o,HG2.o] at hfd;have HFd:=hid hfd;have c11:w2.cell? (dD c.sp 11)=some (pP c.dp 0):=cO P2.blk.1 11;have HM2:=hid M2;obtain⟨xa,xc,rfl,-,-⟩:=hs2;obtain⟨xn,hxn⟩:∃n,n=(zb.take m).length:=⟨_,rfl⟩;rw[<-hxn] at HFd|-
   clear O2 P2 M2 hfd c15 c9 hxn;go_wp2_with fail;refine HFd.o.mono ?_;rintro r w3 ⟨v3,b3,rfl,O3,F3,P3,M3⟩;have HM3:=hid (HM2.o.trans M3);rcases HFin.o with⟨rfl,hf⟩|⟨rfl,rfl,hB,hf⟩
   ·obtain⟨a3,n3,rfl⟩:=O3.isSlice;have HF3:=hid (hf w3 F3 _ P3 HM3.o);have he:=LC P3;dsimp only at he;rw[HE2.o] at he;have HE:=hid he;have c311:w3.cell? (dD c.sp 11)=some (pP c.dp 0):=cO P3.blk.1 11;have hsl3:=lH P3.blk.1;have HMs:=hid (HMz.o _ w3 F3 P3 rfl rfl);clear O3 P3 M3 HFin hf c11 HFd he HRec;go_wp2_with fail;go_loopw [32] (λ v wr'=>v= iI 0/\wr'=w3) (λ _ _=>0)
    case atStart=>exact⟨rfl,rfl⟩
    case round=>
     obtain⟨rfl,rfl⟩:=hrel;go_wp2_with (go_at_call 94;refine HE.o.mono ?_;rintro r w4 ⟨rfl,rfl⟩);go_roundw
     case rel=>exact HF3.o
     case measure=>exact HMs.o
   ·obtain⟨g3,n3,x3,ev3,hn3,hn4,cx3,hs3,-⟩:=O3.piece (S:=[]) (Upd.refl [] w3) (by simp) (j:=0) (by simp);obtain rfl:v3= sS g3 0 1 n3:=ev3;have hs3:Sl w3 x3 R:=hs3;have HR3:=hid (HRec.o _ w3 F3 x3 P3 rfl hs3);have hM03:=HM.o.trans HM3.o;have HM03:=hid hM03;have hF3:=HFr.o.step HM3.o;have HN3:=hid hF3;have HB3:=hid (HM3.o.1.heap hB HFr.o.b);have HA3:=hid (HM3.o.1.heap HA.o HFr.o.a);have hz3:=hF3.n;have HF3l:=hid P3.lt;have HFx:=hid hf;obtain⟨ya,yc,rfl,-,-⟩:=hs3;obtain⟨yn,hyn⟩:∃n,n=R.length:=⟨_,rfl⟩;rw[<-hyn] at HR3 cx3;have hn3:1<=n3:=hn3;clear O3 P3 M3 HFin hf c11 HFd HRec hM03 hF3 hyn hB;go_wp2_with fail;go_loopw [32] (λ v wr'=>(v= iI 0/\w3=wr')\/(v= iI 1/\Ln c X rv rs w.heap.size (w.heap.size+1) (w.heap.size+2) ((kb+1)%c.bs.length) (zb.drop m) t2 w wr' F)) (λ v _=>2-(intOf v).toNat)
    case atStart=>exact .inl ⟨rfl,rfl⟩
    case round=>
     rcases hrel with⟨rfl,rfl⟩|⟨rfl,hS⟩
     ·go_wp2_with fail;refine HR3.o.mono ?_;rintro r w4 ⟨d,rfl,O4,P4,M4⟩;obtain⟨da,dc,rfl,-,-⟩:=O4.sl HWr.o;obtain⟨k,hk⟩:∃k,k=rs.length:=⟨_,rfl⟩;rw[<-hk] at O4|-
      have HO4:=hid O4;have HP4:=hid P4;have HM4:=hid M4;have HB4:=hid (M4.1.heap HB3.o HN3.o.b);have HA4:=hid (M4.1.heap HA3.o HN3.o.a);have hz4:=M4.size;clear O4 P4 M4 HR3 cx3 hk;dsimp only[RV.val];go_upto_region 10 with fail;obtain⟨W5,hW5⟩:∃W,W=w4.alloc (.cells (rR rv.e rv.h1 rv.h2 rv.kind rv.mode rv.size (.slice da k dc) rv.count rv.eof (nN)) 142):=⟨_,rfl⟩;rw[<-hW5];have X5:Ext w4 W5:=by rw[hW5];exact(Ext.refl _).alloc _
      have h5:W5.heap[w4.heap.size]?=oC (rR rv.e rv.h1 rv.h2 rv.kind rv.mode rv.size (.slice da k dc) rv.count rv.eof (nN)) 142:=by rw[hW5];exact Ub w4 _
      have HX5:=hid X5;have hB5:=X5.heap HB4.o;have HB5:=hid hB5;have HA5:=hid (X5.heap HA4.o);obtain⟨s0,s1,s2,s3,s4,s5,s6,s7,s8,s9,-⟩:=AC h5;obtain⟨r0,r1,r2,r3,r4,r5,r6,r7,r8,r9,rf⟩:=AC (show W5.heap[w.heap.size+1]?=oC rZ 142 from hB5);have hrs:=lH hB5;clear h5 hW5 X5 hB5;go_upto_region 11 with fail;refine Aa (R:=w.heap.size+1) (w0:=W5) (Pr:=λ W=>Code.wp _ _ _ _ W) _ (Ao (show W5.heap[w.heap.size+1]?=oC rZ 142 from HB5.o)) (AX _ _ _ _ _ _ _ _ _ _ _ _) ?_;clear r0 r1 r2 r3 r4 r5 r6 r7 r8 r9 rf s0 s1 s2 s3 s4 s5 s6 s7 s8 s9;intro W hR hU;have hq:∀b∈F3,b∉[w.heap.size+1]:=λ b hb hm=>by simp at hm;subst hm;exact HN3.o.b hb
      have P6:=(SP.loc c _).2 _ _ _ _ (HP4.o.ext HX5.o) hU hq;have M6:=(HM03.o.trans HM4.o).ext HX5.o;have hdl:∀g,(Value.slice da k dc).ownBlock=some g->w3.heap.size<=g:=λ g hg=>(HO4.o.lt hg).1
      have hTB:Ln c X rv rs w.heap.size (w.heap.size+1) (w.heap.size+2) ((kb+1)%c.bs.length) (zb.drop m) t2 w W F:=by
       refine⟨F3,.slice da k dc,⟨M6.1.trans2 hU (λ i hi=> .inr (by simp at hi;omega)),M6.2⟩,⟨HN3.o.a,HN3.o.b,HN3.o.la,HN3.o.lb,by have:=hU.size;have:=HX5.o.size;omega⟩,hU.heap HA5.o (by simp),P6,hR,?_,?_⟩
       ·exact((HO4.o.ext HX5.o).upd hU (λ g hg hm=>by have:=hdl g hg;simp at hm;omega)).low hz3
       ·intro g hg hm;have:=hdl g hg;have:=HF3l.o g hm;omega
      have HTB:=hid hTB;have c15:W.cell? (dD c.sp 15)=some (.bool false):=cO P6.blk.1 15;clear P6 M6 hq hR hU hTB;go_wp2_with fail;go_roundw
      case rel=>exact .inr ⟨rfl,HTB.o⟩
      case measure=>simp[intOf]
     ·have HS:=hid hS;obtain⟨F6,d6,M6,-,A6,P6,-⟩:=HS.o;have he:=LC P6;dsimp only at he;rw[HE2.o] at he;have HE:=hid he;have hm6:=HMz.o _ _ _ P6 rfl rfl;have c611:wr.cell? (dD c.sp 11)=some (pP c.dp 0):=cO P6.blk.1 11;have HMs:=hid hm6;clear M6 A6 P6 he hm6 hS HR3;go_wp2_with (go_at_call 94;refine HE.o.mono ?_;rintro r w4 ⟨rfl,rfl⟩);go_roundw
      case rel=>exact HFx.o _ _ HS.o
      case measure=>exact HMs.o
structure Calm (c:SC) (X:SX):Prop where
 k:c.Ok X.k
 zt:X.zt=[]
 zb:X.zb=[]
 l:X.l=[]
 sa:∃need ends,X.sa=idle need ends
 sd:∃need ends,X.sd=idle need ends
 x:0<=X.x/\X.x<4294967296
 ns:X.ns<=X.n
def DU (c:SC) (rest out:Value) (st:Option AE) (n:Nat) (w:World) (F:List Nat):Prop:=∃X:SX,SP c X w F/\X.rest=rest/\X.o=out/\X.st=st/\X.n=n/\Calm c X
theorem DU.loc (c:SC) (rest out:Value) (st:Option AE) (n:Nat):Loc (DU c rest out st n):=
 ⟨λ w F ⟨X,h,_⟩=>h.lt,λ w w' F S ⟨X,h,r⟩ hu hs=>⟨X,(SP.loc c X).2 _ _ _ _ h hu hs,r⟩⟩
theorem s_add (h:SP c X w F) (hn:X.n<=1000):
  Calls prog 45 #[pP c.sp 16,iI 1] w λ r w'=>r= .returned (iI (X.n+1))/\SP c {X with n:=X.n+1} w' F/\Mv w w' F F:=by
 refine(add64 (x:=X.n) (cO h.blk.1 16) (fO h.blk.1 16) (by omega) (by omega)).mono ?_;rintro r w' ⟨rfl,rfl⟩;have hb:=jP (i:=16) (iI ((X.n:Int)+1)) h.blk.1;exact⟨rfl,h.put ((Upd.refl _ _).setCell _ _ (.inl (by simp))) (r:=X.rest) (o:=X.o) (k:=X.k) (n:=X.n+1) hb⟩
theorem OW:∀(l:List Nat) (a:AV) (ds:List Int),a.Ok ds->Wf ds->Wf (a.lay ds l)
 |[],_,_,_,_=>Wf.nil
 |f::l,a,ds,h,hw=>(AV.fb_wf h hw f).app (OW l _ _ (h.less f) (by unfold CW;split;exact Wf.nil;exact hw))
theorem Nd (hc:c.Scripts) {rest out:Value} {st st':Option AE} {a:AV} {ds:List Int} {d:Value} (A:B4 c.fb c.room c.nodes st st' a ds rv rs) (hn:n<100) (h:DU c rest out st n w F) (hd:Sl w d ds) (hdb:∀g,d.ownBlock=some g->g<w.heap.size):
  Calls prog 23 #[pP c.sp 0,a.val d] w λ r w'=>∃v,r= .returned (rv.val v)/\AA w' w.heap.size 5 v (bv rs)/\∃F',DU c rest out st' (n+1) w' F'/\Mv w w' F F':=by
 obtain⟨X,hP,rfl,rfl,rfl,rfl,hC⟩:=h;have HNn:=hid hn;have hp:0<=a.proc/\a.proc<4294967296:=by have:=A.c.p;omega
 have HW:=hid (λ W (X:Ext w W)=>Kh A.c.p A.c.ok A.rst A.rsd (hd.ext X) (λ g hg=>Nat.lt_of_lt_of_le (hdb g hg) X.size));have HA:=hid A;have HC:=hid hC;have HP:=hid hP;have HSc:=hid hc;have HLy:=hid (OX A.c);have HFl:=hid hP.lt;have e1:IntKind.u32.wrap a.proc=a.proc:=by show a.proc%4294967296=a.proc;omega
 have HLw:=hid (OW (AD a.proc) a ds A.c.ok A.c.wf);have HPr:=hid hp;clear A hc hn hP hC hd hdb;dsimp only[AV.val] at*;go_in;go_upto_region 1 with fail;obtain⟨W0,hW0⟩:∃W,W=((w.alloc (.cells (pR a.proc a.off a.count a.size a.mode a.h1 a.h2 a.k1 a.k2 a.name a.name2 d) 137)).alloc (.cells Bk 142)):=⟨_,rfl⟩;unfold Bk at hW0;rw[<-hW0];obtain⟨hA,hB,X0⟩:=AH w (.cells (pR a.proc a.off a.count a.size a.mode a.h1 a.h2 a.k1 a.k2 a.name a.name2 d) 137) (.cells Bk 142);unfold Bk at hA hB X0;rw[<-hW0] at hA hB X0;have hz0:w.heap.size+2<=W0.heap.size:=by rw[hW0];simp
 obtain⟨b0,b1,b2,b3,b4,b5,b6,b7,b8,b9,b10,b11,-⟩:=CM hA;have HX0:=hid X0;have HA0:=hid hA;have HB0:=hid hB;have P0:=HP.o.ext X0;have c15:W0.cell? (dD c.sp 15)=some (.bool false):=cO P0.blk.1 15;have HP0:=hid P0;have HW0:=hid (HW.o W0 X0);clear hW0 hA hB X0 P0 HW;go_wp2_with fail;refine HW0.o.mono ?_;rintro r w1 ⟨v1,rfl,O1,X1⟩;obtain⟨va,vc,rfl,-,-⟩:=O1.sl HLw.o;obtain⟨m,hm⟩:∃m,m=(a.lay ds (AD a.proc)).length:=⟨_,rfl⟩;rw[<-hm] at O1|-
 have X2:Ext W0 w1.drew:=X1.drew;have HO2:=hid (show AA w1.drew W0.heap.size 5 (.slice va m vc) (bv (a.lay ds (AD a.proc))) from O1);have P2:=HP0.o.ext X2;have c7:w1.drew.cell? (dD c.sp 7)=some (pP c.mp 0):=cO P2.blk.1 7;have hA2:=X2.heap HA0.o;have HB2:=hid (X2.heap HB0.o);have a0:w1.drew.cell? (dD w.heap.size 0)=some (iI a.proc):=cO hA2 0;have a0':w1.cell? (dD w.heap.size 0)=some (iI a.proc):=cO (X1.heap HA0.o) 0;have hz2:=X2.size;have HX2:=hid (HX0.o.trans X2);have HCl:=hid (TF P2 HC.o.l HC.o.x a.proc a.proc);have HMm:=hid hm;clear O1 X1 X2 P2 hA2 b0 b1 b2 b3 b4 b5 b6 b7 b8 b9 b10 b11 c15 hm;go_upto_region 7 with fail;go_cut [8,6] (λ q8 q6 wx=>q8= .int .u32 X.x/\q6= iI 0/\SP c {X with x:=(X.x+1)%4294967296,l:=[⟨X.x,a.proc,a.proc⟩]} wx F/\Mv w1.drew wx F F)
 case first=>
  go_region_with (go_at_call 44;refine HCl.o.mono ?_;rintro r w3 ⟨rfl,P3,M3⟩)
  all_goals
   go_wp2_with fail;go_meet
   case rel=>exact⟨rfl,rfl,P3,M3⟩
 case rest=>
 obtain⟨rfl,rfl,P3,M3⟩:=hcut;obtain⟨w3,hw3⟩:∃w3,w3=wc:=⟨_,rfl⟩;rw[<-hw3] at P3 M3|-
 clear hw3;have hO3:=HO2.o.upd M3.1 (λ g hg hm=>by have:=(HO2.o.lt hg).1;have:=HFl.o _ hm;omega);have HO3:=hid hO3;have HB3:=hid (M3.1.heap HB2.o (λ hm=>by have:=HFl.o _ hm;omega));have HM3:=hid ((Mv.of_ext HX2.o F).trans M3);have HAd:=hid (s_add P3 (by have:=HNn.o;show X.n<=1000;omega));have hz3:=M3.size;clear P3 M3 hO3 c7 a0 a0' HCl;go_wp2_with fail;refine HAd.o.mono ?_;rintro r w4 ⟨rfl,P4,M4⟩;have hO4:=HO3.o.upd M4.1 (λ g hg hm=>by have:=(HO3.o.lt hg).1;have:=HFl.o _ hm;omega);have hs4:=hO4.sl HLw.o;rw[HMm.o] at hs4;have HB4:=hid (M4.1.heap HB3.o (λ hm=>by have:=HFl.o _ hm;omega));have HM4:=hid (HM3.o.trans M4);have HP4:=hid P4;have HMw:=hid (OE false HC.o.x HPr.o (by have:=HLy.o;omega) hs4);rw[<-HMm.o] at HMw;have hsl4:=lH P4.blk.1;have hz4:=M4.size;clear P4 M4 hO4 hs4;go_wp2_with fail;refine HMw.o.mono ?_;rintro r w5 ⟨d5,rfl,O5,X5⟩;have hbw:=Gx (r:=false) HC.o.x HPr.o HLw.o;have hs5:=O5.sl hbw;obtain⟨na,ea,hsa⟩:=HC.o.sa;obtain⟨nd,ed,hsd⟩:=HC.o.sd;have HSd:=hid (Nc (HP4.o.ext X5) HC.o.k HSc.o HC.o.zt HC.o.zb hsa HA.o HC.o.x (by have:=HNn.o;have:=HC.o.ns;show X.ns<=1000000;omega) hs5 (λ g hg=>by have:=(O5.lt hg).1;omega));have HB5:=hid (X5.heap HB4.o);have HM5:=hid (HM4.o.ext X5);have HSdi:=hid hsd;have hz5:=X5.size;obtain⟨da,dc,rfl,-,-⟩:=hs5;obtain⟨k5,hk5⟩:∃k,k=(Aj false X.x a.proc (a.lay ds (AD a.proc))).length:=⟨_,rfl⟩;rw[<-hk5] at HSd|-
 clear O5 X5 hbw hsa hsd hk5 HMw;go_wp2_with fail;refine HSd.o.mono ?_;rintro r w6 ⟨rfl,kt,n6,e6,F6,k6,s6,M6,hs6,ok6,P6⟩;have hB6:w.heap.size+1∉F6:=λ hm=>by rcases M6.2 _ hm with k|k;have:=HFl.o _ k;omega;omega
 have HT:=hid (NU P6 HSc.o rfl HA.o.r HA.o.w HC.o.x HPr.o HSdi.o hs6 rfl);have HB6:=hid (M6.1.heap HB5.o (λ hm=>by have:=HFl.o _ hm;omega));have HM6:=hid (HM5.o.trans M6);have HK6:=hid ok6;have hz6:=M6.size;clear M6 P6 hs6 ok6 HSd;go_wp2_with fail;refine HT.o.mono ?_;rintro r w7 ⟨d7,rfl,O7,F7,kb7,n7,e7,P7,M7,hd7⟩;have hB7:w.heap.size+1∉F7:=λ hm=>by rcases M7.2 _ hm with k|k;exact hB6 k;omega
 obtain⟨ta,tc,rfl,-,-⟩:=O7.sl HA.o.w;obtain⟨k,hk⟩:∃k,k=rs.length:=⟨_,rfl⟩;rw[<-hk] at O7 hd7|-
 have HO7:=hid O7;have HB7:=hid (M7.1.heap HB6.o hB6);have HM7:=hid (HM6.o.trans M7);have hz7:=M7.size;have HF7:=hid P7.lt;have HP7:=hid P7;clear O7 M7 P7 hk HT;dsimp only[RV.val];go_upto_region 13 with fail;obtain⟨W8,hW8⟩:∃W,W=w7.alloc (.cells (rR rv.e rv.h1 rv.h2 rv.kind rv.mode rv.size (.slice ta k tc) rv.count rv.eof (nN)) 142):=⟨_,rfl⟩;rw[<-hW8];have X8:Ext w7 W8:=by rw[hW8];exact(Ext.refl _).alloc _
 have h8:W8.heap[w7.heap.size]?=oC (rR rv.e rv.h1 rv.h2 rv.kind rv.mode rv.size (.slice ta k tc) rv.count rv.eof (nN)) 142:=by rw[hW8];exact Ub w7 _
 have P8:=HP7.o.ext X8;have c87:W8.cell? (dD c.sp 7)=some (pP c.mp 0):=cO P8.blk.1 7;have HDr:=hid (TE P8 rfl X.x);have HX8:=hid X8;have HR8:=hid h8;have HB8:=hid (X8.heap HB7.o);have HO8:=hid (HO7.o.ext X8);clear hW8 X8 h8 P8;go_wp2_with fail;refine HDr.o.mono ?_;rintro r w9 ⟨rfl,P9,M9⟩;have h9:=M9.1.heap HR8.o (λ hm=>by have:=HF7.o _ hm;omega);have hB9:=M9.1.heap HB8.o hB7;have c15:w9.cell? (dD c.sp 15)=some (.bool false):=cO P9.blk.1 15;have HB9:=hid hB9;obtain⟨s0,s1,s2,s3,s4,s5,s6,s7,s8,s9,-⟩:=AC h9;obtain⟨r0,r1,r2,r3,r4,r5,r6,r7,r8,r9,rf⟩:=AC hB9;have HO9:=hid (HO8.o.upd M9.1 hd7);have HM9:=hid ((HM7.o.ext HX8.o).trans M9);have HP9:=hid P9;clear P9 M9 h9 hB9 HDr;go_wp2_with fail;refine Aa (R:=w.heap.size+1) (w0:=w9) (Pr:=λ W=>bodyPost _ _ _ _ _ W) _ (Ao HB9.o) (AX _ _ _ _ _ _ _ _ _ _ _ _) ?_;clear r0 r1 r2 r3 r4 r5 r6 r7 r8 r9 rf s0 s1 s2 s3 s4 s5 s6 s7 s8 s9;intro W hR hU;have P10:=(SP.loc c _).2 _ _ _ _ HP9.o hU (λ b hb hm=>by simp at hm;subst hm;exact hB7 hb);refine Ue (v:=rv.val (.slice ta k tc)) (Uj rfl _ _ (w.heap.size+1) 142 (rv.cells (.slice ta k tc)) (0,0) _ rfl hR underlying142 rfl FE) rfl ⟨_,rfl,?_,F7,⟨_,P10,rfl,rfl,rfl,rfl,⟨HK6.o,HC.o.zt,rfl,rfl,⟨n6,e6,rfl⟩,⟨n7,e7,rfl⟩,⟨by dsimp;omega,by dsimp;omega⟩,by have:=HC.o.ns;dsimp;omega⟩⟩,HM9.o.1.trans2 hU (λ i hi=> .inr (by simp at hi;omega)),HM9.o.2⟩;exact(HO9.o.upd hU (λ g hg hm=>by have:=(HO9.o.lt hg).1;simp at hm;omega)).low (by omega)
theorem askC (hc:c.Scripts) (rest out:Value):DJ c.sp c.fb c.room c.nodes (DU c rest out):=⟨λ st n=>DU.loc c rest out st n,λ A hn h hd hdb=>Nd hc A hn h hd hdb⟩
theorem Kq (n m:Int) (w:World) (hm:0<m) (hn: -9223372036854775808<=n) (hn2:n<=9223372036854775807):
  Calls prog 6 #[iI n,iI m] w λ r w'=>r= .returned (iI (Kr n m))/\w=w':=by
 by_cases h:n<0
 ·have H:=hid (Pn n m h);go_in;go_wp2;go_ret;exact⟨DX H.o.symm,rfl⟩
 ·have H:=hid (Pm n m h);go_in;go_wp2;go_ret;exact⟨DX H.o.symm,rfl⟩
theorem BT (n:Int) (m:Nat) (hm:0<m) (hw:(Lit.int .i64 n).wf=true):∃k:Nat,k<m/\∀W,Calls prog 6 #[iI n,iI m] W λ r w'=>r= .returned (iI k)/\W=w':=by
 have hn: -9223372036854775808<=n/\n<=9223372036854775807:=by simpa [Lit.wf,IntKind.min,IntKind.max,IntKind.signed,IntKind.bits] using hw
 have hab:=R7 n m (by omega);obtain⟨k,hk⟩:=Int.eq_ofNat_of_zero_le hab.1;exact⟨k,by omega,λ W=>(Kq n m W (by omega) hn.1 hn.2).mono λ r w' h=>by rw[<-hk];exact h⟩
theorem Rf (a:Option Addr) (n cap:Nat) (zs:List Int) (m:Nat) (hm:m<=1000000) (w:World) (h:AI .u8 w a n cap zs) (ha:a=none->cap=0):
  Calls prog 7 #[.slice a n cap,iI m] w λ r w'=>∃v,r= .returned v/\AA w' w.heap.size 5 v (bv (zs.take m))/\Ext w w':=by
 have hcm:=h.2.2.1;have hlc:=h.2.1;have hl:=h.1;unfold maxLen at hcm;obtain⟨j,hj⟩:∃j,j=min n m:=⟨_,rfl⟩;obtain⟨v',w',h1,h2,h3⟩:=De (AA.nil w w.heap.size 5) (h.head (j:=j) (by omega)) ha (by simp;omega) (Uf _) 26;have H1:=hid h1;have H2:=hid (show AA w' w.heap.size 5 v' (bv (zs.take m)) by
  have e:zs.take j=zs.take m:=by
   rw[hj,<-hl];by_cases hx:zs.length<=m
   ·rw[Nat.min_eq_left hx,List.take_length,List.take_of_length_le hx]
   ·rw[Nat.min_eq_right (by omega)]
  rw[e] at h2;exact h2)
 have H3:=hid (Uu h3 (Ext.refl w) (λ g hg=>by simp[Value.ownBlock] at hg));clear h h1 h2 h3 hl;cases a with
 |none=>
  have hc0:cap<=0:=by have:=ha rfl;omega
  clear ha;by_cases hmn:m<n
  ·omega
  ·go_in;go_wp2_with (at_builtin;refine jA rfl (.tmp 6) (.tmp 12) _ rfl _ _ _ ?_ ?_ H1.o ?_)
   ·rfl
   ·go_simp<;>omega
   ·go_ret;exact⟨_,rfl,H2.o,H3.o⟩
 |some ad=>
  clear ha;by_cases hmn:m<n
  ·obtain rfl:j=m:=by omega
   clear hj;go_in;go_wp2_with (at_builtin;refine jA rfl (.tmp 6) (.tmp 12) _ rfl _ _ _ ?_ ?_ H1.o ?_)
   ·rfl
   ·go_simp<;>omega
   ·go_ret;exact⟨_,rfl,H2.o,H3.o⟩
  ·obtain rfl:j=n:=by omega
   clear hj;go_in;go_wp2_with (at_builtin;refine jA rfl (.tmp 6) (.tmp 12) _ rfl _ _ _ ?_ ?_ H1.o ?_)
   ·rfl
   ·go_simp<;>omega
   ·go_ret;exact⟨_,rfl,H2.o,H3.o⟩
def H9:List ByteArray:=[⟨#[97]⟩,⟨#[98]⟩,⟨#[97,98]⟩,⟨#[99]⟩,⟨#[122]⟩,⟨#[66]⟩,⟨#[97,32,98]⟩,⟨#[46,46,46]⟩,⟨#[97,97,97,97,97,97,97,97,97,97,97,97,97,97,97,97,97,97,97,97,97,97,97,97,97,97,97,97,97,97,97,97]⟩,⟨#[45]⟩]
theorem Oo {s:ByteArray} (h:(decide (1<=s.data.toList.length)&&decide (s.data.toList.length<=32)&&decide (s.data.toList≠[46])&&decide (s.data.toList≠[46,46])&&s.data.toList.all (λ b=>b !=0&&b !=47))=true):AP s:=by
 simp only[Bool.and_eq_true,decide_eq_true_eq,List.all_eq_true,bne_iff_ne] at h;obtain⟨⟨⟨⟨h1,h2⟩,h3⟩,h4⟩,h5⟩:=h;have hs:s.data.toList.length=s.size:=by rw[Array.length_toList];rfl
 refine⟨by omega,by omega,h3,h4,λ i hi=> ?_⟩;have hi2:i<s.data.toList.length:=by omega
 exact⟨_,Ud hi2,h5 _ (List.getElem_mem hi2)⟩
theorem H8:∀s∈H9,AP s:=by
 intro s hs;simp only[H9,Um,List.not_mem_nil,or_false] at hs;rcases hs with rfl|rfl|rfl|rfl|rfl|rfl|rfl|rfl|rfl|rfl<;>exact Oo (by decide)
theorem Gb (n:Int) (hw:(Lit.int .i64 n).wf=true):∃s,AP s/\∀w,Calls prog 8 #[iI n] w λ r w'=>r= .returned (.string s)/\Ext w w':=by
 obtain⟨k,hk,hA⟩:=BT n 10 (by omega) hw;refine⟨H9[k],H8 _ (List.getElem_mem hk),λ w=> ?_⟩;have HA:=hid hA;clear hA hw;have hk2:k=0\/k=1\/k=2\/k=3\/k=4\/k=5\/k=6\/k=7\/k=8\/k=9:=by omega
 rcases hk2 with rfl|rfl|rfl|rfl|rfl|rfl|rfl|rfl|rfl|rfl
 all_goals
  go_in;go_wp2_with fail;refine(HA.o _).mono ?_;rintro r w1 ⟨rfl,rfl⟩;go_wp2_with fail;go_ret;exact⟨rfl,(Ext.refl w).alloc _⟩
theorem AA.sliceN {base:Nat} {e:TypeId} {v:Value} {xs:List Value} (h:AA w base e v xs):∃a c,v= .slice a xs.length c:=by
 rcases h.form with⟨h1,h2⟩|⟨g,cap,cur,h1,_⟩
 ·exact⟨none,0,by rw[h1,h2];rfl⟩
 ·exact⟨_,_,h1⟩
theorem Hv {a:Option Addr} {cap:Nat} {zs:List Int} (h:AI .i64 w a n cap zs) {i:Nat} (hi:i<n):∃g o,a=some ⟨g,o,none⟩/\w.cell? (dD g (o+i))=some (iI (zs.getD i 0))/\(Lit.int .i64 (zs.getD i 0)).wf=true:=by
 obtain⟨h1,h2,h3,h4,h5⟩:=h;rcases h5 with h5|⟨g,o,e,hc⟩
 ·omega
 ·refine⟨g,o,e,hc i hi,h4 _ ?_⟩;rw[List.getD,Ud (by omega),Option.getD_some];exact List.getElem_mem _
structure CO (ss:List Int):Prop where
 len:ss.length<=6
 pos:∀s∈ss,0<=s/\s<=9
 one:∃s∈ss,0<s
theorem Oq (a:Option Addr) (n cap:Nat) (zs:List Int) (w:World) (h:AI .i64 w a n cap zs):
  Calls prog 11 #[.slice a n cap] w λ r w'=>∃v ss,r= .returned v/\AA w' w.heap.size 3 v (nv ss)/\CO ss/\Ext w w':=by
 have hc:=h.2.2.1;unfold maxLen at hc;have HR:=hid h;clear h;go_in;go_wp2_with fail;go_loopw [3,4,5] (λ v3 v4 v5 wr=>∃(i:Nat) (ss:List Int) (b:Bool),i<=n/\i<=5/\v5= iI i/\v4= .bool b/\AA wr w.heap.size 3 v3 (nv ss)/\ss.length=i/\(∀s∈ss,0<=s/\s<=9)/\(b=true->∃s∈ss,0<s)/\Ext w wr) (λ _ _ v5 _=>5-(intOf v5).toNat)
 case atStart=>exact⟨0,[],false,by omega,by omega,rfl,rfl,AA.nil _ _ _,rfl,by simp,by simp,Ext.refl w⟩
 case round=>
  obtain⟨i,ss,b,hin,hi5,rfl,rfl,hO,hl,hp,hb,hX⟩:=hrel;have hO3:=hO;obtain⟨va,vc,rfl⟩:=hO.sliceN;obtain⟨m,hm⟩:∃m,m=(nv ss).length:=⟨_,rfl⟩;rw[<-hm] at hO|-
  have HO:=hid hO;have HP:=hid hp;have HB:=hid hb;have HX:=hid hX;have HL:=hid hl;have hxs:=hX.size;clear hO3 hO hm hp hb hX hl;by_cases h1:i<n
  ·by_cases h2:i<5
   ·obtain⟨g,o,rfl,hcl,hw⟩:=Hv HR.o h1;have hcl:=HX.o.cell hcl;obtain⟨k,hk,hA⟩:=BT _ 10 (by omega) hw;have HA:=hid hA;obtain⟨v',w',q1,q2,q3,q4⟩:=more HO.o (k:Int) (by rw[Bp];have:=HL.o;omega) hxs;obtain⟨va',vc',rfl⟩:=q2.sliceN;have HQ:=hid q1;have HO2:=hid q2;have HX2:=hid (q4 w (Uf _) HX.o);have e1:IntKind.i64.wrap ((i:Int)+1)=(i:Int)+1:=Uh _ (by omega);have i1:(i:Int)<(n:Int):=by omega
    have i2:(i:Int)<5:=by omega
    have d1:decide ((i:Int)<(n:Int))=true:=by simp;omega
    have d2:decide ((i:Int)<5)=true:=by simp;omega
    clear hA q1 q2 q3 q4 hw;have hsum:∀(b':Bool),(b'=true->b=true\/0<k)->∃(i':Nat) (ss':List Int) (b2:Bool),i'<=n/\i'<=5/\Value.int .i64 ((i:Int)+1)= iI i'/\Value.bool b'= .bool b2/\AA w' w.heap.size 3 (.slice va' (nv ss++[Value.int .i64 k]).length vc') (nv ss')/\ss'.length=i'/\(∀s∈ss',0<=s/\s<=9)/\(b2=true->∃s∈ss',0<s)/\Ext w w':=λ b' hb'=>by
     refine⟨i+1,ss++[(k:Int)],b',by omega,by omega,congrArg (Value.int .i64) (by omega),rfl,by simpa [nv] using HO2.o,by simp[HL.o],?_,?_,HX2.o⟩
     ·intro s hs;rcases List.mem_append.1 hs with q|q
      ·exact HP.o s q
      ·simp at q;omega
     ·intro e;rcases hb' e with q|q
      ·obtain⟨s,q1,q2⟩:=HB.o q;exact⟨s,List.mem_append_left _ q1,q2⟩
      ·exact⟨k,by simp,by omega⟩
    have HS:=hid hsum;obtain⟨ml,hml⟩:∃m,m=(nv ss++[Value.int .i64 k]).length:=⟨_,rfl⟩;rw[<-hml] at HS HQ;clear hsum hml;go_wp2_with (first|(at_builtin;refine jA rfl (.tmp 22) (.tmp 24) _ rfl _ _ _ rfl rfl HQ.o ?_)|(go_at_call 6;refine(HA.o _).mono ?_;rintro r w1 ⟨rfl,rfl⟩))
    all_goals first
     |exact⟨HS.o _ (λ _=> .inl (by assumption)),by simp only[intOf];omega⟩
     |exact⟨HS.o _ (λ q=> .inr (of_decide_eq_true q)),by simp only[intOf];omega⟩
   ·have i1:(i:Int)<(n:Int):=by omega
    have d1:decide ((i:Int)<(n:Int))=true:=by simp;omega
    have d2:decide ((i:Int)<5)=false:=by simp;omega
    obtain⟨v',w',q1,q2,q3,q4⟩:=more HO.o 3 (by rw[Bp];have:=HL.o;omega) hxs;obtain⟨va',vc',rfl⟩:=q2.sliceN;have HQ:=hid q1;have HO2:=hid q2;have HX2:=hid (q4 w (Uf _) HX.o);obtain⟨ml,hml⟩:∃m,m=(nv ss++[Value.int .i64 3]).length:=⟨_,rfl⟩;rw[<-hml] at HQ HO2;clear q1 q2 q3 q4 hml;cases b with
    |true=>
     go_wp2_with fail;go_ret;exact⟨_,rfl,ss,HO.o,⟨by have:=HL.o;omega,HP.o,HB.o trivial⟩,HX.o⟩
    |false=>
     go_wp2_with (at_builtin;refine jA rfl (.tmp 33) (.tmp 34) _ rfl _ _ _ rfl rfl HQ.o ?_);go_ret;exact⟨_,ss++[3],rfl,by simpa [nv] using HO2.o,⟨by have:=HL.o;simp;omega,λ s hs=>by rcases List.mem_append.1 hs with q|q;exact HP.o s q;simp at q;omega,3,by simp,by omega⟩,HX2.o⟩
  ·have d1:decide ((i:Int)<(n:Int))=false:=by simp;omega
   obtain⟨v',w',q1,q2,q3,q4⟩:=more HO.o 3 (by rw[Bp];have:=HL.o;omega) hxs;obtain⟨va',vc',rfl⟩:=q2.sliceN;have HQ:=hid q1;have HO2:=hid q2;have HX2:=hid (q4 w (Uf _) HX.o);obtain⟨ml,hml⟩:∃m,m=(nv ss++[Value.int .i64 3]).length:=⟨_,rfl⟩;rw[<-hml] at HQ HO2;clear q1 q2 q3 q4 hml;cases b with
   |true=>
    go_wp2_with fail;go_ret;exact⟨_,rfl,ss,HO.o,⟨by have:=HL.o;omega,HP.o,HB.o trivial⟩,HX.o⟩
   |false=>
    go_wp2_with (at_builtin;refine jA rfl (.tmp 33) (.tmp 34) _ rfl _ _ _ rfl rfl HQ.o ?_);go_ret;exact⟨_,ss++[3],rfl,by simpa [nv] using HO2.o,⟨by have:=HL.o;simp;omega,λ s hs=>by rcases List.mem_append.1 hs with q|q;exact HP.o s q;simp at q;omega,3,by simp,by omega⟩,HX2.o⟩
end Go.Proofs.YtdakioiagpkfhaaGreatDoor
