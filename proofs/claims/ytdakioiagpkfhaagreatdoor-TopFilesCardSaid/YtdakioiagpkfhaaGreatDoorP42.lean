import Derived.Test.YtdakioiagpkfhaaGreatDoorP41
set_option maxRecDepth 99999
set_option maxHeartbeats 0
set_option linter.all false
namespace Go.Proofs.YtdakioiagpkfhaaGreatDoor
open RowKit Conc
open Go.Proofs.Tryz
variable {F:List Nat} {ds zs:List Int} {ns:List ByteArray} {v:Value} {w:World} {x:Int}
section
variable {d:SD} {l l':List (Int×FV)} {st st':Option AE} {n n' k:Nat} {zf:List Int} {q:List (QV×List ByteArray×List Int)} {zr zo:List Int} {w w':World} {F:List Nat}
theorem SS.pick {a:QV} (h:SS d l st n k zf ((a,ns,ds)::q) zr zo w F) (hq:q.length<=2):
  Calls prog 68 #[pP d.c.tp 0,iI 0] w λ r w'=>∃nv dv,r= .returned (.tuple #[a.val nv dv,iI 0])/\SlS w' nv ns/\Sl w' dv ds/\(∀g,dv.ownBlock=some g->g<w.heap.size)/\∃F',SS d l st n k zf q zr zo w' F'/\Mv w w' F F':=by
 obtain⟨rv,ov,Fs,rfl,hP⟩:=h;obtain⟨F2,hT,-,-,-,hst⟩:=hP.step 2 rfl;refine(Sz hT hq).mono ?_;rintro r w' ⟨nv,dv,rfl,h1,h2,-,h4,F',hT',hM⟩;obtain⟨Fs',hP',hM',-⟩:=hst w' _ F' (TgP.loc _ _ _) hT' hM;exact⟨nv,dv,rfl,h1,h2,h4,_,⟨rv,ov,Fs',rfl,hP'⟩,hM'⟩
theorem SS.idle (h:SS d l st n k zf [] zr zo w F):
  Calls prog 68 #[pP d.c.tp 0,iI 0] w λ r w'=>r= .returned (.tuple #[({typ:=0}:QV).val (nN) (nN),iI 6])/\Ext w w':=by
 obtain⟨rv,ov,Fs,rfl,hP⟩:=h;obtain⟨F2,hT,-⟩:=hP.step 2 rfl;exact S0 hT
theorem SS.does (h:SS d l st n k zf q zr zo w F) (hc:d.c.Scripts) {a:QV} {t:TV} {o:Option QI} (op:GOp d.c.room l st n a ns ds l' st' n' t o zs) {nv dv:Value} (hn:SlS w nv ns) (hd:Sl w dv ds) (hdb:∀g,dv.ownBlock=some g->g<w.heap.size):
  Calls prog 70 #[pP d.c.gp 0,a.val nv dv] w λ r w'=>∃qv dv,r= .returned (t.val qv dv)/\Cg w.heap.size qv dv o zs w'/\∃F',SS d l' st' n' k zf q zr zo w' F'/\Mv w w' F F':=by
 obtain⟨rv,ov,Fs,rfl,hP⟩:=h;obtain⟨F0,hG,-,-,-,hst⟩:=hP.step 0 rfl;have A:=askC hc rv ov;refine(RY A (λ st n w F ⟨X,h,_⟩=>h.tab) op hG hn hd hdb).mono ?_;rintro r w' ⟨qv,dv',rfl,hR,F',hG',hM⟩;obtain⟨Fs',hP',hM',-⟩:=hst w' _ F' (GS.loc A.loc) hG' hM;exact⟨qv,dv',rfl,hR,_,⟨rv,ov,Fs',rfl,hP'⟩,hM'⟩
theorem Ga (hc:d.c.Scripts) {a:QV} {t:TV} {o:Option QI} (h:SS d l st n k zf ((a,ns,ds)::q) zr zo w F) (op:GOp d.c.room l st n a ns ds l' st' n' t o zs) (T:TIs t o zs) (hq:q.length<=2) (hz:zo.length<=90000):
  Calls prog 31 #[pP d.c.sp 0,iI 0] w λ r w'=>r= .returned (.bool true)/\∃F',SS d l' st' n' k zf q zr (zo++msg t.typ t.tag (tb t o zs)) w' F'/\Mv w w' F F':=by
 have HPk:=hid (SS.pick h hq);have HDo:=hid (λ W F (h:SS d l st n k zf q zr zo W F) nv dv (h1:SlS W nv ns) (h2:Sl W dv ds) h3=>SS.does h hc op h1 h2 h3);have HRp:=hid (λ W F (h:SS d l' st' n' k zf q zr zo W F) base qv dv (hR:Cg base qv dv o zs W)=>ML h T hR (by omega));obtain⟨rv,ov,j,hb,-⟩:=h.outs;have c2:=cO hb 2;simp only[SC.cl,ptr] at c2;dsimp only[QV.val] at HPk HDo;clear h hb op T hq hc hz;go_in;go_wp2_with fail;refine HPk.o.mono ?_;rintro r w1 ⟨nv,dv,rfl,e1,e2,e3,F1,hS1,M1⟩;obtain⟨na,nc,rfl,-⟩:=id e1;obtain⟨da,dc,rfl,-⟩:=id e2;obtain⟨nk,hnk⟩:∃m,m=ns.length:=⟨_,rfl⟩;obtain⟨dk,hdk⟩:∃m,m=ds.length:=⟨_,rfl⟩;rw[<-hnk] at e1|-
 rw[<-hdk] at e2 e3|-
 obtain⟨rv',ov',j',hb1,-⟩:=hS1.outs;have hz1:=M1.size;have E1:=hid e1;have E2:=hid e2;have E3:=hid e3;have HS1:=hid hS1;have HM1:=hid M1;have HB1:=hid hb1;clear e1 e2 e3 hS1 M1 hnk hdk c2 hb1;go_upto_region 2 with fail;obtain⟨W2,hW2⟩:∃W,W=w1.alloc (.cells (a.cells (.slice na nk nc) (.slice da dk dc)) 43):=⟨_,rfl⟩;have hb2:W2.heap[w1.heap.size]?=oC (a.cells (.slice na nk nc) (.slice da dk dc)) 43:=by rw[hW2];exact Ub w1 _
 have X2:Ext w1 W2:=by rw[hW2];exact(Ext.refl w1).alloc _
 simp only[QV.cells] at hW2 hb2;rw[<-hW2];have hbs:=X2.heap HB1.o;have hz2:=X2.size;have HD2:=hid (HDo.o W2.drew F1 ((HS1.o.ext X2).ext (dE _)) _ _ ((E1.o.ext X2).ext (dE _)) ((E2.o.ext X2).ext (dE _)) (λ g hg=>by have:=E3.o g hg;show g<W2.heap.size;omega));have HX2:=hid (X2.trans (dE _));have c1:=cO hbs 1;simp only[SC.cl,ptr] at c1;obtain⟨b0,b1,b2,b3,b4,b5,b6,b7,b8,b9,b10,b11,b12,b13,-⟩:=BG hb2;clear hW2 X2 hbs hb2 HPk HDo;go_cut [0,5,17] (λ q0 q5 q17 wx=>q0= pP d.c.sp 0/\q5= pP w1.heap.size 0/\q17= .bool false/\W2=wx)
 case first=>
  go_wp2_with fail;go_meet
  case rel=>exact⟨rfl,rfl,rfl,rfl⟩
 case rest=>
 obtain⟨rfl,rfl,rfl,rfl⟩:=hcut;go_wp2_with fail;go_region_with (first|(go_at_call 70;refine HD2.o.mono ?_;rintro r w3 ⟨qv,dv3,rfl,hR3,F3,hS3,hM3⟩;have HR3:=hid (HRp.o w3 F3 hS3 _ qv dv3 hR3);have HM3:=hid hM3;clear hR3 hS3 hM3)|(go_at_call 69;refine HR3.o.mono ?_;rintro r w4 ⟨rfl,F4,hS4,hM4⟩;have HS4:=hid hS4;have HM4:=hid hM4;clear hS4 hM4))
 all_goals
  clear b0 b1 b2 b3 b4 b5 b6 b7 b8 b9 b10 b11 b12 b13;go_wp2_with fail;go_ret;exact⟨rfl,F4,HS4.o,((HM1.o.ext HX2.o).trans HM3.o).trans HM4.o⟩
theorem J4 (h:SS d l st n k zf [] zr zo w F):
  Calls prog 31 #[pP d.c.sp 0,iI 0] w λ r w'=>r= .returned (.bool false)/\SS d l st n k zf [] zr zo w' F/\Mv w w' F F:=by
 have HPk:=hid (SS.idle h);obtain⟨rv,ov,j,hb,-⟩:=h.outs;have c2:=cO hb 2;simp only[SC.cl,ptr] at c2;have HS:=hid h;dsimp only[QV.val] at HPk;clear h hb;go_in;go_wp2_with fail;refine HPk.o.mono ?_;rintro r w1 ⟨rfl,X1⟩;go_wp2_with fail;go_ret;exact⟨rfl,HS.o.ext (X1.trans ((Ext.refl _).alloc _)),Mv.of_ext (X1.trans ((Ext.refl _).alloc _)) F⟩
end
def SD.Front (d:SD):Prop:=d.fs.length<=100/\∃s∈d.fs,0<s
def pmF (d:SD) (w:World):Nat:=
 match w.cell? (dD d.c.fp 5),w.cell? (dD d.c.fp 1) with
 |some (.int _ l),some (.int _ k)=>l.toNat*(d.fs.length+1)+CK d.fs d.fs.length k.toNat
 |_,_=>0
section
variable {d:SD} {l:List (Int×FV)} {st:Option AE} {n k:Nat} {zf:List Int} {q:List (QV×List ByteArray×List Int)} {zr zo:List Int} {w w':World} {F:List Nat}
theorem SS.pmF (h:SS d l st n k zf q zr zo w F):pmF d w=DD d.fs k zf/\k<d.fs.length/\Wf zf:=by
 obtain⟨rv,ov,Fs,rfl,hP⟩:=h;obtain⟨G,hp,-⟩:=hP.get 1 rfl;have hp:PW w d.c.fp d.ft d.fr d.fs k zf G:=hp;have hk:=hp.klt;have hw:=hp.wf;obtain⟨sa,sc,bufT,bufR,fv,s1,r1,s2,r2,hb,-⟩:=hp;have e5:w.cell? (dD d.c.fp 5)=some (iI zf.length):=cO hb 5;have e1:w.cell? (dD d.c.fp 1)=some (iI k):=cO hb 1;refine⟨?_,hk,hw⟩;unfold pmF DD;rw[e5,e1];simp
theorem SS.send (h:SS d l st n k [] q zr zo w F) {ys:List Int} (hv:Sl w v ys) (hy:0<ys.length) (hl:ys.length<=100000):
  Calls prog 60 #[pP d.c.fp 0,v] w λ r w'=>r= .returned (iI 0)/\∃F',SS d l st n k ys q zr zo w' F'/\Mv w w' F F':=by
 obtain⟨rv,ov,Fs,rfl,hP⟩:=h;obtain⟨G,h1,-,-,-,hst⟩:=hP.step 1 rfl;have h1:PW w d.c.fp d.ft d.fr d.fs k [] G:=h1;refine(Nx h1 hv hy hl).mono ?_;rintro r w' ⟨rfl,G',hp',hG,U⟩;obtain⟨Fs',hP',hM',-⟩:=hst w' (PwP d.c.fp d.ft d.fr d.fs k ys) G' (PwP.loc _ _ _ _ _ _) hp' ⟨mv3 h1 U,hG⟩;exact⟨rfl,_,⟨rv,ov,Fs',rfl,hP'⟩,hM'⟩
theorem SS.next (h:SS d l st n k zf q zr zo w F) (hz:0<zf.length) (hl:zf.length<=100000) (hL:d.fs.length<=1000000):
  Calls prog 61 #[pP d.c.fp 0] w λ r w'=>∃v,r= .returned (.tuple #[v,.bool true])/\AA w' w.heap.size 5 v (bv (zf.take (pm d.fs k zf)))/\
   SS d l st n ((k+1)%d.fs.length) (zf.drop (pm d.fs k zf)) q zr zo w' F/\Mv w w' F F:=by
 obtain⟨rv,ov,Fs,rfl,hP⟩:=h;obtain⟨G,h1,-,-,-,hst⟩:=hP.step 1 rfl;have h1:PW w d.c.fp d.ft d.fr d.fs k zf G:=h1;refine(Nz h1 hz hl hL).mono ?_;rintro r w' ⟨v,rfl,O,hp',U⟩;obtain⟨Fs',hP',hM',heq⟩:=hst w' (PwP d.c.fp d.ft d.fr d.fs _ _) G (PwP.loc _ _ _ _ _ _) hp' (Mv.same (mv3 h1 U));obtain rfl:=heq rfl;exact⟨v,rfl,O,⟨rv,ov,_,rfl,hP'⟩,hM'⟩
theorem SS.nomore (h:SS d l st n k [] q zr zo w F):
  Calls prog 61 #[pP d.c.fp 0] w λ r w'=>r= .returned (.tuple #[nN,.bool false])/\w=w':=by
 obtain⟨rv,ov,Fs,rfl,hP⟩:=h;obtain⟨G,h1,-⟩:=hP.step 1 rfl;have h1:PW w d.c.fp d.ft d.fr d.fs k [] G:=h1;exact Ny h1
theorem Sb {k t:Int} {b:List Int} (h:(msg k t b).length<=1024):Lo (msg k t b):=by
 have hl:=Cw k t b;have h4:(msg k t b).take 4=leN (7+b.length) 4:=by unfold msg;rw[Ui,Ui,List.take_left' (lL _ _)]
 refine⟨by omega,h,?_⟩;rw[h4,hl]
 norm_cast
theorem Ts {M zr:List Int} {r:List Int} (h:Lo M) (he:zr++r=M) (hl:zr.length<M.length):GF zr:=by
 by_cases h4:zr.length<4
 ·exact .inl h4
 ·refine .inr ⟨M.length,?_,hl,h.1,h.2.1⟩;rw[<-h.2.2,<-he,List.take_append_of_le_length (by omega)]
end
def Sg (d:SD) (l:List (Int×FV)) (st:Option AE) (n:Nat) (q:List (QV×List ByteArray×List Int)) (x:QV×List ByteArray×List Int) (M zo:List Int) (w:World) (F:List Nat) (wr:World):Prop:=
 (∃k zf zr F',SS d l st n k zf q zr zo wr F'/\Mv w wr F F'/\zr++zf=M/\zr.length<M.length)\/∃k F',SS d l st n k [] (q++[x]) [] zo wr F'/\Mv w wr F F'
section
variable {d:SD} {l:List (Int×FV)} {st:Option AE} {n k:Nat} {q:List (QV×List ByteArray×List Int)} {zo:List Int} {w:World} {F:List Nat}
theorem GZ (h:SS d l st n k [] q [] zo w F) (hfr:d.Front) {a:QV} (Q:QIs a ns ds) (hM:(msg a.typ a.tag (qb a ns ds)).length<=1024) (ht:∀x∈q,x.1.tag≠a.tag) (hm:(q.length:Int)<d.m/\d.m<=8) (hv:Sl w v (msg a.typ a.tag (qb a ns ds))):
  Calls prog 29 #[pP d.c.sp 0,v] w λ r w'=>r= .returned (iI 0)/\∃k F',SS d l st n k [] (q++[(a,ns,ds)]) [] zo w' F'/\Mv w w' F F':=by
 have hIM:=Sb hM;have hqbl:(qb a ns ds).length<=5000:=by rw[Cw] at hM;omega
 have HMs:=hid (λ k zf zr W F (h:SS d l st n k zf q zr zo W F) v (h2:Sl W v (msg a.typ a.tag (qb a ns ds)))=>I6 h Q hqbl ht hm h2);obtain⟨M,hMe⟩:∃M,M=msg a.typ a.tag (qb a ns ds):=⟨_,rfl⟩;rw[<-hMe] at hIM hM hv HMs;have HSd:=hid (SS.send h hv (by have:=hIM.1;omega) (by omega));have hWM:=hv.wf;have HIM:=hid hIM;have HFr:=hid hfr;have HWM:=hid hWM;obtain⟨rv,ov,j,hb,-⟩:=h.outs;have c6:=cO hb 6;have c3:=cO hb 3;simp only[SC.cl,ptr] at c3 c6;have hvs:∃x y z,v= .slice x y z:=by obtain⟨x,z,rfl,-⟩:=hv;exact⟨_,_,_,rfl⟩
 obtain⟨va,vn,vc,rfl⟩:=hvs;clear h hb hv ht hm Q hMe hIM hfr hWM hqbl;go_in;go_wp2_with fail;refine HSd.o.mono ?_;rintro r w1 ⟨rfl,F1,hS1,hM1⟩;have HM1:=hid hM1;have HI1:=hid (show Sg d l st n q (a,ns,ds) M zo w1 F1 w1 from .inl ⟨k,M,[],F1,hS1,Mv.refl _ _,rfl,by have:=HIM.o.1;simp;omega⟩);clear hS1 hM1 c6 c3 HSd;go_wp2_with fail;go_loopw [5,6,7,8,9,11] (λ v5 v6 v7 v8 v9 v11 wr=>Sg d l st n q (a,ns,ds) M zo w1 F1 wr) (λ _ _ _ _ _ _ wr=>pmF d wr)
 case atStart=>exact HI1.o
 case round=>
  rcases hrel with⟨k,zf,zr,F',hS,hMv,hzz,hzl⟩|⟨k,F',hS,hMv⟩
  ·have hzf:0<zf.length:=by have:=congrArg List.length hzz;rw[Uc] at this;omega
   have hzl2:zr.length<=1024/\zf.length<=1024:=by have:=congrArg List.length hzz;rw[Uc] at this;omega
   obtain⟨hpm,hkl,hwz⟩:=hS.pmF;have hdec:=Dr hkl HFr.o.2 hzf;have hN:=SS.next hS hzf (by omega) (by have:=HFr.o.1;omega);obtain⟨p,hp⟩:∃p,p=pm d.fs k zf:=⟨_,rfl⟩;obtain⟨k',hk'⟩:∃k',k'=(k+1)%d.fs.length:=⟨_,rfl⟩;rw[<-hp,<-hk'] at hN hdec;have hcase:∃ms tl,zr++zf.take p=ms.flatten++tl/\(∀m∈ms,Lo m)/\GF tl/\Wf tl/\ms.length<=1/\((ms=[]/\tl.length<M.length/\tl++zf.drop p=M)\/(ms=[M]/\tl=[]/\zf.drop p=[])):=by
    have he:(zr++zf.take p)++zf.drop p=M:=by rw[Ui,List.take_append_drop,hzz]
    have hw:Wf (zr++zf.take p):=λ z hz=>HWM.o z (by rw[<-he];exact List.mem_append_left _ hz)
    by_cases hfull:(zr++zf.take p).length<M.length
    ·exact⟨[],_,by simp,by simp,Ts HIM.o he hfull,hw,by simp,.inl ⟨rfl,hfull,he⟩⟩
    ·have hd:zf.drop p=[]:=by
      have:=congrArg List.length he;rw[Uc] at this;exact List.eq_nil_of_length_eq_zero (by omega)
     rw[hd,List.append_nil] at he;exact⟨[M],[],by simpa using he,by simpa using HIM.o,.inl (by simp),Wf.nil,by simp,.inr ⟨rfl,rfl,hd⟩⟩
   obtain⟨ms,tl,hcut,hms,htl,hwtl,hml,hcase⟩:=hcase;have hcl:(ms.flatten++tl).length<=2048:=by rw[<-hcut,Uc,Ul];omega
   obtain⟨rv,ov,j,hb,-⟩:=hS.outs;have c6:=cO hb 6;have c3:=cO hb 3;simp only[SC.cl,ptr] at c3 c6;have HN:=hid hN;have HPm:=hid (show DD d.fs k' (zf.drop p)<pmF d wr by rw[hpm];exact hdec);have HCs:=hid hcase;have HCut:=hid hcut;have HMs2:=hid hms;have HTl:=hid (show GF tl/\Wf tl/\ms.length<=1 from⟨htl,hwtl,hml⟩);have HMv:=hid hMv;have HFl:=hid ((SS.loc _ _ _ _ _ _ _ _ _).1 _ _ hS);have HWz:=hid hwz;clear hS hMv hzz hzl hpm hkl hwz hdec hN hcase hcut hms htl hwtl hml hb hp hk';go_wp2_with (fail);refine HN.o.mono ?_;rintro r w2 ⟨v2,rfl,O2,hS2,hM2⟩;obtain⟨rv,ov,j,hb,hin,hO,hWr,-⟩:=hS2.rests;have c4:=cO hb 4;simp only[SC.cl] at c4;have hrs:=hO.sl hWr;have hvs:=O2.sl (λ z hz=>HWz.o z (List.mem_of_mem_take hz));obtain⟨ra,rc,rfl,-,-⟩:=id hrs;obtain⟨pa,pc,rfl,-,-⟩:=id hvs;obtain⟨rn,hrn⟩:∃m,m=zr.length:=⟨_,rfl⟩;obtain⟨pn,hpn⟩:∃m,m=(zf.take p).length:=⟨_,rfl⟩;rw[<-hrn] at c4 hrs;rw[<-hpn] at hvs|-
   obtain⟨W3,hW3⟩:∃W,W=w2.alloc (.cells #[.slice ra rn rc,.slice pa pn pc] 26):=⟨_,rfl⟩;have hb3:W3.heap[w2.heap.size]?=oC #[.slice ra rn rc,.slice pa pn pc] 26:=by rw[hW3];exact Ub w2 _
   have X3:Ext w2 W3:=by rw[hW3];exact(Ext.refl w2).alloc _
   have HC:=hid (Rn hb3 (hrs.ext X3) (hvs.ext X3) (by have:=congrArg List.length HCut.o;rw[Uc] at this;omega));have HS2:=hid hS2;have HM2:=hid hM2;have HX3:=hid X3;have HW3:=hid hW3;have hz2:=hM2.size;clear hrn hpn hW3 hb3 X3 hrs hvs hb hO hWr O2 hS2 hM2 c6 c3 HN;go_wp2_with (rw[<-HW3.o]);refine HC.o.mono ?_;rintro r w4 ⟨v4,rfl,O4,X4⟩;rw[HCut.o] at O4;have hs4:=O4.sl (λ z hz=>by
    rcases List.mem_append.1 hz with q|q
    ·obtain⟨m,hm,hzm⟩:=List.mem_flatten.1 q;rcases HCs.o with⟨e,-⟩|⟨e,-⟩
     ·rw[e] at hm;cases hm
     ·rw[e] at hm;rw[List.mem_singleton.1 hm] at hzm;exact HWM.o z hzm
    ·exact HTl.o.2.1 z q)
   have HSp:=hid (GY hs4 HMs2.o HTl.o.1 (by omega) (by have:=HTl.o.2.2;omega));have HX4:=hid (HX3.o.trans X4);clear O4 X4 hs4 HC c4;go_wp2_with fail;refine HSp.o.mono ?_;rintro r w5 ⟨lv,restv,rfl,hR5,O5,X5⟩;have hX25:=HX4.o.trans X5;have hS5:=HS2.o.ext hX25;have hz25:=HX4.o.size;have hrest:∀g,restv.ownBlock=some g->w2.heap.size<=g/\g<w5.heap.size:=λ g hg=>by have:=O5.lt hg;omega
   obtain⟨ra5,rn5,rc5,hrv⟩:∃x y z,restv= .slice x y z:=by obtain⟨x,z,e,-⟩:=O5.sl HTl.o.2.1;exact⟨_,_,_,e⟩
   obtain⟨la,lc,hlv⟩:=hR5.isSlice;have HO5:=hid (O5.low (Nat.zero_le _));have HR5:=hid hR5;have HRe:=hid hrest;have HS5:=hid hS5;have HX25:=hid hX25;have HSz:=hid hz2;have HEnd:=hid (λ w6 q6 F6 (h6:SS d l st n k' (zf.drop p) q6 zr zo w6 F6) (M6:Mv w5 w6 F' F6)=>show∃rv ov,∃j:Nat,w6.heap[d.c.sp]?=oC (d.c.cl rv ov j n) 78/\∀w7,Upd [d.c.sp] w6 w7->w7.heap[d.c.sp]?=oC (d.c.cl restv ov j n) 78->∃F7,SS d l st n k' (zf.drop p) q6 tl zo w7 F7/\Mv wr w7 F' F7 from by
    obtain⟨rv6,ov6,j6,hb6,hin6,-,-,hnext⟩:=h6.rests;refine⟨rv6,ov6,j6,hb6,λ w7 hu7 hb7=> ?_⟩;have hF':=HFl.o;have hO6:AA w6 0 5 restv (bv tl):=HO5.o.upd M6.1 (λ g hg hm=>by have:=HRe.o g hg;have:=hF' g hm;have:=HSz.o;omega);obtain⟨F7,h7,hU7,hF7⟩:=hnext restv tl hO6 HTl.o.2.1 (λ g hg hm=>by
     have:=HRe.o g hg;rcases M6.2 g hm with q|q
     ·have:=hF' g q;have:=HSz.o;omega
     ·omega) w7 hu7 hb7
    refine⟨F7,h7,((HM2.o.ext HX25.o).1.trans2 (M6.1.trans2 hU7 M6.2) (λ b hb=> .inl hb)),λ b hb=> ?_⟩;rcases hF7 b hb with q|q
    ·rcases M6.2 b q with q|q
     ·exact .inl q
     ·exact .inr (by have:=HX25.o.size;have:=HSz.o;omega)
    ·exact .inr (by have:=HRe.o b q;have:=HSz.o;omega))
   subst hrv;subst hlv;clear hX25 hS5 hrest hR5 O5 X5 HSp;rcases HCs.o with⟨hms0,htl0,htl1⟩|⟨hms1,htl2,htl3⟩
   ·subst hms0;have HT0:=hid (show tl.length<M.length/\tl++zf.drop p=M from⟨htl0,htl1⟩);clear htl0 htl1;go_wp2_with fail;go_loopw [11,56] (λ v11 v56 w6=>v56= iI 0/\w5=w6) (λ _ _ _=>0)
    case atStart=>exact⟨rfl,rfl⟩
    case round=>
     obtain⟨rfl,rfl⟩:=hrel;obtain⟨rv6,ov6,j6,hb6,hend⟩:=HEnd.o w5 q F' HS5.o (Mv.refl _ _);have c4:=cO hb6 4;have c6:=cO hb6 6;have f6:=fO hb6;simp only[SC.cl] at c4 c6;have HB6:=hid hb6;have HE6:=hid hend;clear hb6 hend;go_wp2_with fail;go_roundw
     case rel=>
      obtain⟨F7,h7,M7⟩:=HE6.o ((w5.setCell (dD d.c.sp 4) (.slice ra5 rn5 rc5)).setCell (dD d.c.sp 6) (iI 0)) (((Upd.refl _ _).setCell _ _ (.inl (by simp))).setCell _ _ (.inl (by simp))) (jP (i:=6) _ (jP (i:=4) _ HB6.o));exact .inl ⟨k',zf.drop p,tl,F7,h7,HMv.o.trans M7,HT0.o.2,HT0.o.1⟩
     case measure=>
      obtain⟨F7,h7,M7⟩:=HE6.o ((w5.setCell (dD d.c.sp 4) (.slice ra5 rn5 rc5)).setCell (dD d.c.sp 6) (iI 0)) (((Upd.refl _ _).setCell _ _ (.inl (by simp))).setCell _ _ (.inl (by simp))) (jP (i:=6) _ (jP (i:=4) _ HB6.o));rw[h7.pmF.1];exact HPm.o
   ·subst hms1;subst htl2;obtain⟨lg,ln,lx,hlx,hl1,hl2,hlc,hlS,-⟩:=HR5.o.piece (S:=[]) (Upd.refl [] w5) (by simp) (j:=0) (by simp);injection hlx with e1 e2 e3;subst e1 e3;have hxs:∃x y z,lx= .slice x y z:=by obtain⟨x,z,e,-⟩:=hlS;exact⟨_,_,_,e⟩
    obtain⟨xa,xn,xc,rfl⟩:=hxs;have HMg:=hid (HMs.o k' (zf.drop p) zr w5 F' HS5.o _ hlS);have HT0:=hid htl3;clear htl3 hlS e2 HMs;go_wp2_with fail;go_loopw [11,56] (λ v11 v56 w6=>(v56= iI 0/\w5=w6)\/(v56= iI 1/\∃F6,SS d l st n k' (zf.drop p) (q++[(a,ns,ds)]) zr zo w6 F6/\Mv w5 w6 F' F6)) (λ _ v56 _=>1-(intOf v56).toNat)
    case atStart=>exact .inl ⟨rfl,rfl⟩
    case round=>
     rcases hrel with⟨rfl,rfl⟩|⟨rfl,F6,hS6,hM6⟩
     ·go_wp2_with (go_at_call 64;refine HMg.o.mono ?_;rintro r w6 ⟨rfl,F6,hS6,hM6⟩;have HS6:=hid hS6;have HM6:=hid hM6;clear hS6 hM6);go_roundw
      case rel=>exact .inr ⟨by go_num,F6,HS6.o,HM6.o⟩
      case measure=>simp[intOf]
     ·obtain⟨rv6,ov6,j6,hb6,hend⟩:=HEnd.o _ _ F6 hS6 hM6;have c4:=cO hb6 4;have c6:=cO hb6 6;have f6:=fO hb6;simp only[SC.cl] at c4 c6;have HB6:=hid hb6;have HE6:=hid hend;clear hb6 hend hS6 hM6 HMg;go_wp2_with fail;go_roundw
      case rel=>
       obtain⟨F7,h7,M7⟩:=HE6.o _ (((Upd.refl _ _).setCell _ (.slice ra5 rn5 rc5) (.inl (by simp))).setCell _ (iI 0) (.inl (by simp))) (jP (i:=6) _ (jP (i:=4) _ HB6.o));rw[HT0.o] at h7;exact .inr ⟨k',F7,h7,HMv.o.trans M7⟩
      case measure=>
       obtain⟨F7,h7,M7⟩:=HE6.o _ (((Upd.refl _ _).setCell _ (.slice ra5 rn5 rc5) (.inl (by simp))).setCell _ (iI 0) (.inl (by simp))) (jP (i:=6) _ (jP (i:=4) _ HB6.o));rw[h7.pmF.1];exact HPm.o
  ·obtain⟨rv,ov,j,hb,-⟩:=hS.outs;have c6:=cO hb 6;have c3:=cO hb 3;simp only[SC.cl,ptr] at c3 c6;have HN:=hid (SS.nomore hS);have HS:=hid hS;have HMv:=hid hMv;clear hb hS hMv;go_wp2_with (go_at_call 61;refine HN.o.mono ?_;rintro r w2 ⟨rfl,rfl⟩);go_ret;exact⟨rfl,k,F',HS.o,HM1.o.trans HMv.o⟩
end
theorem TQ.new {tb:Nat} {m:Int} (h:VA tb Dn 0 m w):TQ tb [] m w:=
 ⟨⟨by simp,by simp⟩,_,h,by simp[Dn,z7],rfl,rfl,λ j hj=>by simp at hj⟩
theorem Ag {l:List (World->List Nat->Prop)} {Fs:List (List Nat)} (h:Ac w l Fs) {R:World->List Nat->Prop} (hR:R w F) (hL:Loc R) (ha:∀G∈Fs,∀b∈F,b∉G):Ac w (R::l) (F::Fs):=
 h.cons hR hL (λ b hb hm=>by
  obtain⟨G,hG,hm⟩:=List.mem_flatten.1 hm;exact ha G hG b hb hm)
theorem AM {G:List Nat} {a b c e:Nat} (hF:∀x∈F,a<=x/\x<b) (hG:∀x∈G,c<=x/\x<e) (h:b<=c\/e<=a):∀x∈F,x∉G:=λ x hx hm=>by
 have:=hF x hx;have:=hG x hm;omega
structure Bds (n0 n1 n2 n3 n4 n5 n6 n7 n8 n9 n10:Nat):Prop where
 h0:n0<=n1
 h1:n1<=n2
 h2:n2<=n3
 h3:n3<=n4
 h4:n4<=n5
 h5:n5<=n6
 h6:n6<=n7
 h7:n7<=n8
 h8:n8<=n9
 h9:n9<=n10
theorem SS.make {d:SD} {n0 n1 n2 n3 n4 n5 n6 n7 n8 n9 n10:Nat} (hn:Bds n0 n1 n2 n3 n4 n5 n6 n7 n8 n9 n10) {F0 Ff Fh Fb:List Nat} (hs:FsW d.c.fb d.c.room d.c.nodes none w F0) (hsv:Ps d.c.sb d.c.fb 0 w) (hsb:d.c.sb∉F0) (i0:∀b∈d.c.sb::F0,n0<=b/\b<n1) (ht:VA d.c.tp Dn 0 d.m w) (i1:n1<=d.c.tp/\d.c.tp<n2) (hf:PW w d.c.fp d.ft d.fr d.fs 0 [] Ff) (i2:∀b∈Ff,n2<=b/\b<n3) (hh:PW w d.c.hp d.c.hc d.c.hr d.c.hs 0 [] Fh) (i3:∀b∈Fh,n3<=b/\b<n4) (hb:PW w d.c.bp d.c.bc d.c.br d.c.bs 0 [] Fb) (i4:∀b∈Fb,n4<=b/\b<n5) (hm:Ur w d.c.mp d.c.mm x 1 []) (i5:(n5<=d.c.mp/\d.c.mp<n6)/\n5<=d.c.mm/\d.c.mm<n6) {ba bd:Nat} (ha:DW w ba d.c.ap 4096 64 St.new (nN) (nN)) (i6:n6<=d.c.ap/\d.c.ap<n7) (hd:DW w bd d.c.dp 4096 64 St.new (nN) (nN)) (i7:n7<=d.c.dp/\d.c.dp<n8) (hfr:AA w n8 3 d.c.fr (nv d.c.fs)) (i8:∀g,d.c.fr.ownBlock=some g->n8<=g/\g<n9) (hsp:w.heap[d.c.sp]?=oC (d.c.cl (nN) (nN) 0 0) 78) (i9:n9<=d.c.sp/\d.c.sp<n10) (hg:w.heap[d.c.gp]?=oC (DP d.c.sp d.pb) 135) (hfid:B3 w d.pb d.mb 16 []) (i10:n10<=d.c.gp/\n10<=d.pb/\n10<=d.mb/\d.c.gp≠d.pb/\d.c.gp≠d.mb) (htab:Aw w) (i11:1<n0) (hok:d.c.Ok 0) (hx:0<=x/\x<4294967296):
  ∃F,SS d [] none 0 0 [] [] [] [] w F/\∀b∈F,b=1\/n0<=b:=by
 obtain⟨h0,h1,h2,h3,h4,h5,h6,h7,h8,h9⟩:=hn;have j8:∀b∈d.c.fr.ownBlock.toList,n8<=b/\b<n9:=λ b hb=>i8 b (by simpa using hb)
 have jt:∀b∈[1],0<=b/\b<n0:=λ b hb=>by simp at hb;omega
 have j7:∀b∈A9 d.c.dp (nN) (nN),n7<=b/\b<n8:=λ b hb=>by simp[A9,Value.ownBlock] at hb;omega
 have j6:∀b∈A9 d.c.ap (nN) (nN),n6<=b/\b<n7:=λ b hb=>by simp[A9,Value.ownBlock] at hb;omega
 have j5:∀b∈[d.c.mp,d.c.mm],n5<=b/\b<n6:=λ b hb=>by simp at hb;omega
 have j9:∀b∈[d.c.sp],n9<=b/\b<n10:=λ b hb=>by simp at hb;omega
 have P0:Ac w [FrP d.c] [d.c.fr.ownBlock.toList]:=Ag (Ac.nil w) ⟨rfl,hfr.low (Nat.zero_le _)⟩ (FrP.loc _) (by simp);have P1:Ac w [TbP,FrP d.c] _:=Ag P0 (F:=[1]) ⟨rfl,htab⟩ TbP.loc (by
  intro G hG;simp only[Um,List.not_mem_nil,or_false] at hG;subst hG;exact AM jt j8 (by omega))
 have P2:Ac w [DfP d.c.dp St.new,TbP,FrP d.c] _:=Ag P1 ⟨bd,_,_,rfl,hd⟩ (DfP.loc _ _) (by
  intro G hG;simp only[Um,List.not_mem_nil,or_false] at hG;rcases hG with rfl|rfl
  ·exact AM j7 jt (by omega)
  ·exact AM j7 j8 (by omega))
 have P3:Ac w [DfP d.c.ap St.new,DfP d.c.dp St.new,TbP,FrP d.c] _:=Ag P2 ⟨ba,_,_,rfl,ha⟩ (DfP.loc _ _) (by
  intro G hG;simp only[Um,List.not_mem_nil,or_false] at hG;rcases hG with rfl|rfl|rfl
  ·exact AM j6 j7 (by omega)
  ·exact AM j6 jt (by omega)
  ·exact AM j6 j8 (by omega))
 have P4:Ac w [PwP d.c.bp d.c.bc d.c.br d.c.bs 0 [],DfP d.c.ap St.new,DfP d.c.dp St.new,TbP,FrP d.c] _:=Ag P3 hb (PwP.loc _ _ _ _ _ _) (by
  intro G hG;simp only[Um,List.not_mem_nil,or_false] at hG;rcases hG with rfl|rfl|rfl|rfl
  ·exact AM i4 j6 (by omega)
  ·exact AM i4 j7 (by omega)
  ·exact AM i4 jt (by omega)
  ·exact AM i4 j8 (by omega))
 have P5:Ac w [PwP d.c.hp d.c.hc d.c.hr d.c.hs 0 [],PwP d.c.bp d.c.bc d.c.br d.c.bs 0 [],DfP d.c.ap St.new,DfP d.c.dp St.new,TbP,FrP d.c] _:=Ag P4 hh (PwP.loc _ _ _ _ _ _) (by
  intro G hG;simp only[Um,List.not_mem_nil,or_false] at hG;rcases hG with rfl|rfl|rfl|rfl|rfl
  ·exact AM i3 i4 (by omega)
  ·exact AM i3 j6 (by omega)
  ·exact AM i3 j7 (by omega)
  ·exact AM i3 jt (by omega)
  ·exact AM i3 j8 (by omega))
 have P6:Ac w [MxP d.c.mp d.c.mm x [],PwP d.c.hp d.c.hc d.c.hr d.c.hs 0 [],PwP d.c.bp d.c.bc d.c.br d.c.bs 0 [],DfP d.c.ap St.new,DfP d.c.dp St.new,TbP,FrP d.c] _:=Ag P5 ⟨rfl,hm⟩ (MxP.loc _ _ _ _) (by
  intro G hG;simp only[Um,List.not_mem_nil,or_false] at hG;rcases hG with rfl|rfl|rfl|rfl|rfl|rfl
  ·exact AM j5 i3 (by omega)
  ·exact AM j5 i4 (by omega)
  ·exact AM j5 j6 (by omega)
  ·exact AM j5 j7 (by omega)
  ·exact AM j5 jt (by omega)
  ·exact AM j5 j8 (by omega))
 have P7:Ac w [Kt d.c.sb d.c.fb d.c.room d.c.nodes none 0,MxP d.c.mp d.c.mm x [],PwP d.c.hp d.c.hc d.c.hr d.c.hs 0 [],PwP d.c.bp d.c.bc d.c.br d.c.bs 0 [],DfP d.c.ap St.new,DfP d.c.dp St.new,TbP,FrP d.c] _:=Ag P6 ⟨F0,rfl,hsb,hsv,hs⟩ (Kt.loc _ _ _ _ _ _) (by
  intro G hG;simp only[Um,List.not_mem_nil,or_false] at hG;rcases hG with rfl|rfl|rfl|rfl|rfl|rfl|rfl
  ·exact AM i0 j5 (by omega)
  ·exact AM i0 i3 (by omega)
  ·exact AM i0 i4 (by omega)
  ·exact AM i0 j6 (by omega)
  ·exact AM i0 j7 (by omega)
  ·exact AM i0 jt (by omega)
  ·exact AM i0 j8 (by omega))
 have P8:Ac w (d.c.L ⟨nN,nN,0,0,none,0,x,[],0,[],0,[],St.new,St.new⟩) _:=Ag P7 (F:=[d.c.sp]) ⟨rfl,hsp⟩ (Blk.loc _ _ _) (by
  intro G hG;simp only[Um,List.not_mem_nil,or_false] at hG;rcases hG with rfl|rfl|rfl|rfl|rfl|rfl|rfl|rfl
  ·exact AM j9 i0 (by omega)
  ·exact AM j9 j5 (by omega)
  ·exact AM j9 i3 (by omega)
  ·exact AM j9 i4 (by omega)
  ·exact AM j9 j6 (by omega)
  ·exact AM j9 j7 (by omega)
  ·exact AM j9 jt (by omega)
  ·exact AM j9 j8 (by omega))
 have hin:∀b∈([d.c.sp]::(d.c.sb::F0)::[d.c.mp,d.c.mm]::Fh::Fb::A9 d.c.ap (nN) (nN)::A9 d.c.dp (nN) (nN)::[1]::d.c.fr.ownBlock.toList::[]).flatten,(b=1\/n0<=b/\b<n2\/n3<=b)/\b<n10/\b≠d.c.tp:=by
  intro b hb;obtain⟨G,hG,hbG⟩:=List.mem_flatten.1 hb;simp only[Um,List.not_mem_nil,or_false] at hG;rcases hG with rfl|rfl|rfl|rfl|rfl|rfl|rfl|rfl|rfl
  ·have:=j9 b hbG;omega
  ·have:=i0 b hbG;omega
  ·have:=j5 b hbG;omega
  ·have:=i3 b hbG;omega
  ·have:=i4 b hbG;omega
  ·have:=j6 b hbG;omega
  ·have:=j7 b hbG;omega
  ·have:=jt b hbG;simp at hbG;omega
  ·have:=j8 b hbG;omega
 have hSP:SP d.c ⟨nN,nN,0,0,none,0,x,[],0,[],0,[],St.new,St.new⟩ w _:=⟨_,rfl,P8⟩;have hA:DU d.c (nN) (nN) none 0 w _:=⟨_,hSP,rfl,rfl,rfl,rfl,⟨hok,rfl,rfl,rfl,⟨0,false,rfl⟩,⟨0,false,rfl⟩,hx,Uf _⟩⟩;have hG:GS (DU d.c (nN) (nN)) d.c.sp d.c.gp d.pb d.mb [] none 0 w _:=
  ⟨_,rfl,hg,hfid,hA,i10.2.2.2.1,i10.2.2.2.2,λ hm=>by have:=hin _ hm;omega,λ hm=>by have:=hin _ hm;omega,λ hm=>by have:=hin _ hm;omega⟩
 have iG:∀b∈d.c.gp::d.pb::d.mb::([d.c.sp]::(d.c.sb::F0)::[d.c.mp,d.c.mm]::Fh::Fb::A9 d.c.ap (nN) (nN)::A9 d.c.dp (nN) (nN)::[1]::d.c.fr.ownBlock.toList::[]).flatten,(b=1\/n0<=b/\b<n2\/n3<=b)/\b≠d.c.tp:=by
  intro b hb;simp only[Um] at hb;rcases hb with rfl|rfl|rfl|hb
  ·omega
  ·omega
  ·omega
  ·have:=hin b (by simpa using hb);exact⟨this.1,this.2.2⟩
 have Q0:Ac w [B1 (nN) []] [[]]:=Ag (Ac.nil w) ⟨rfl,AA.nil _ _ _,Wf.nil⟩ (B1.loc _ _) (by simp);have Q1:Ac w [B1 (nN) [],B1 (nN) []] [[],[]]:=Ag Q0 ⟨rfl,AA.nil _ _ _,Wf.nil⟩ (B1.loc _ _) (by simp);have Q2:Ac w [TgP d.c.tp d.m [],B1 (nN) [],B1 (nN) []] _:=Ag Q1 (F:=[d.c.tp]) ⟨_,_,rfl,by simp,TQ.new ht,.nil⟩ (TgP.loc _ _ _) (by simp);have Q3:Ac w [PwP d.c.fp d.ft d.fr d.fs 0 [],TgP d.c.tp d.m [],B1 (nN) [],B1 (nN) []] _:=Ag Q2 hf (PwP.loc _ _ _ _ _ _) (by
  intro G hG;simp only[Um,List.not_mem_nil,or_false] at hG;rcases hG with rfl|rfl|rfl
  ·intro b hb hm;have:=i2 b hb;simp at hm;omega
  ·simp
  ·simp)
 have Q4:Ac w (d.L (nN) (nN) [] none 0 0 [] [] [] []) _:=Ag Q3 hG (GS.loc (λ st n=>DU.loc _ _ _ _ _)) (by
  intro G hG';simp only[Um,List.not_mem_nil,or_false] at hG';rcases hG' with rfl|rfl|rfl|rfl
  ·intro b hb hm;have:=i2 b hm;have:=iG b hb;omega
  ·intro b hb hm;have:=iG b hb;simp at hm;omega
  ·simp
  ·simp)
 refine⟨_,⟨_,_,_,rfl,Q4⟩,λ b hb=> ?_⟩;obtain⟨G,hG',hbG⟩:=List.mem_flatten.1 hb;simp only[Um,List.not_mem_nil,or_false] at hG';rcases hG' with rfl|rfl|rfl|rfl|rfl
 ·have:=iG b hbG;omega
 ·have:=i2 b hbG;omega
 ·simp at hbG;omega
 ·cases hbG
 ·cases hbG
section
open inoP
def SlN (w:World) (v:Value) (zs:List Int):Prop:=∃a c,v= .slice a zs.length c/\AI .i64 w a zs.length c zs/\Bj a c
theorem SlN.ext {w':World} (h:SlN w v zs) (hx:Ext w w'):SlN w' v zs:=by
 obtain⟨a,c,e,h1,h2⟩:=h;exact⟨a,c,e,h1.ext hx,h2⟩
structure Er (zs:List Int):Prop where
 len:zs.length<=99
 pos:∀s∈zs,0<=s
 one:zs=[]\/∃s∈zs,0<s
theorem Er.script (h:Er zs):(BI zs).length<=100/\∃s∈BI zs,0<s:=by
 unfold BI;by_cases e:zs=[]
 ·rw[if_pos e];exact⟨by simp,4096,by simp,by omega⟩
 ·rw[if_neg e];exact⟨by have:=h.len;omega,h.one.resolve_left e⟩
theorem Qf {fb room nodes:Nat} (h:FsW fb room nodes none w F):
  Calls prog 24 #[pP fb 0] w λ r w'=>r= .returned (.agg #[iI 1,iI 1])/\Ext w w':=by
 obtain⟨c,ps,Fd,rfl,-,hI,-⟩:=h;obtain⟨W0,hW0⟩:∃W,W=w.alloc (.cells #[iI 0,iI 0] 82):=⟨_,rfl⟩;have hb:W0.heap[w.heap.size]?=oC #[iI 0,iI 0] 82:=by rw[hW0];exact Ub w _
 have X0:Ext w W0:=by rw[hW0];exact(Ext.refl w).alloc _
 have hf:=X0.heap hI.fs;have c1:=cO hf 1;have c2:=cO hf 2;obtain⟨b0,b1,f0,f1⟩:=Al hb;have HX0:=hid X0;have HB:=hid hb;have HW:=hid hW0;clear hI hb X0 hf hW0;go_in;go_wp2_with (rw[<-HW.o]);have U:Upd [w.heap.size] W0 ((W0.setCell (dD w.heap.size 0) (iI 1)).setCell (dD w.heap.size 1) (iI 1)):=((Upd.refl _ _).setCell _ _ (.inl (by simp))).setCell _ _ (.inl (by simp));have hR:((W0.setCell (dD w.heap.size 0) (iI 1)).setCell (dD w.heap.size 1) (iI 1)).heap[w.heap.size]?=oC #[iI 1,iI 1] 82:=jP (i:=1) _ (jP (i:=0) _ HB.o);obtain⟨k0,k1,-,-⟩:=Al hR;exact Ue (v:= .agg #[iI 1,iI 1]) (by simp[results,results24,go_sem,k0,k1]) rfl ⟨rfl,U.ext HX0.o (by simp)⟩
theorem snew {xn xr xm:Nat} (hn1:2<=xn) (hn2:xn<=64) (hr:xr<=65536) (hm1:1<=xm) (hm2:xm<=8) (hx:0<=x/\x<4294967296) {va vb vg:Value} {za zb zg:List Int} (ra:SlN w va za) (rb:SlN w vb zb) (rg:SlN w vg zg) (ka:Er za) (kb:Er zb) (kg:zg.length<=100/\∀z∈zg,64<=z/\z<=4096) (htab:Aw w):
  Calls prog 12 #[.agg (cC xn xr xm x va vb vg)] w λ r w'=>∃(d:SD) (F:List Nat),r= .returned (.tuple #[pP d.c.sp 0,iI 0])/\SS d [] none 0 0 [] [] [] [] w' F/\d.c.Scripts/\d.Front/\d.m=xm/\d.c.room=xr/\Ext w w'/\∀b∈F,b=1\/w.heap.size<=b:=by
 have HS:=hid (λ W=>MF xn xr hn1 hn2 hr W);have HT:=hid (λ W=>NV xm hm1 hm2 W);have HA:=hid (λ W (X:Ext w W)=>show Calls prog 18 #[va] W λ r w'=>∃p ct cr F,r= .returned (.tuple #[pP p 0,iI 0])/\PW w' p ct cr (BI za) 0 [] F/\(∀b∈F,W.heap.size<=b)/\Ext W w' from by
  obtain⟨a,c,rfl,h1,h2⟩:=ra.ext X;exact Iy (by have:=ka.len;omega) h1 h2 ka.pos ka.one)
 have HB:=hid (λ W (X:Ext w W)=>show Calls prog 18 #[vb] W λ r w'=>∃p ct cr F,r= .returned (.tuple #[pP p 0,iI 0])/\PW w' p ct cr (BI zb) 0 [] F/\(∀b∈F,W.heap.size<=b)/\Ext W w' from by
  obtain⟨a,c,rfl,h1,h2⟩:=rb.ext X;exact Iy (by have:=kb.len;omega) h1 h2 kb.pos kb.one)
 have HG:=hid (λ W (X:Ext w W)=>show Calls prog 21 #[vg] W λ r w'=>∃v,r= .returned v/\AA w' W.heap.size 3 v (nv zg)/\Ext W w' from by
  obtain⟨a,c,rfl,h1,h2⟩:=rg.ext X;exact GA a _ c zg (by have:=kg.1;omega) W h1 h2.nil0)
 have HM:=hid (λ W=>new_yes x 1 W (by omega) (by omega));have HD:=hid (λ W=>TX 4096 64 (by omega) (by omega) (by omega) W);obtain⟨aa,ac,rfl,-⟩:=id ra;obtain⟨ba,bc,rfl,-⟩:=id rb;obtain⟨ga,gc,rfl,hrow,-⟩:=id rg;have HRow:=hid hrow;have HKs:=hid (And.intro ka (And.intro kb kg));have HTab:=hid htab;have HBd:=hid (show(1<=xm/\xm<=8)/\(0<=x/\x<4294967296) from⟨⟨hm1,hm2⟩,hx⟩);obtain⟨an,han⟩:∃m,m=za.length:=⟨_,rfl⟩;obtain⟨bn,hbn⟩:∃m,m=zb.length:=⟨_,rfl⟩;obtain⟨gn,hgn⟩:∃m,m=zg.length:=⟨_,rfl⟩;rw[<-han] at HA|-
 rw[<-hbn] at HB|-
 rw[<-hgn] at HG HRow|-
 have HGn:=hid hgn;have hg100:gn<=100:=by have:=kg.1;omega
 obtain⟨W0,hW0⟩:∃W,W=w.alloc (.cells (cC xn xr xm x (.slice aa an ac) (.slice ba bn bc) (.slice ga gn gc)) 50):=⟨_,rfl⟩;have hb0:W0.heap[w.heap.size]?=oC (cC xn xr xm x (.slice aa an ac) (.slice ba bn bc) (.slice ga gn gc)) 50:=by rw[hW0];exact Ub w _
 have X0:Ext w W0:=by rw[hW0];exact(Ext.refl w).alloc _
 have c1:=cO hb0 1;have hz0:=X0.size;have HX0:=hid X0;have HB0:=hid hb0;clear ra rb rg ka kb kg htab hrow han hbn hgn hx hn1 hn2 hr hm1 hm2 hb0 X0;go_in;go_wp2_with (rw[<-hW0]);clear hW0;refine(HS.o W0).mono ?_;rintro r w1 ⟨sb,fb,F0,rfl,hFs,hSv,hsb,X1,hF0,hs0⟩;have HP1:=hid (And.intro hFs (And.intro hSv (And.intro hsb (And.intro hF0 hs0))));have HX1:=hid X1;have c2:=cO (X1.heap HB0.o) 2;clear hFs hSv hsb hF0 hs0 X1 c1 HS;go_wp2_with fail;refine(HT.o w1).mono ?_;rintro r w2 ⟨rfl,hT,X2⟩;have HP2:=hid hT;have HX2:=hid (HX1.o.trans X2);have HY2:=hid X2;have c4:=cO (HX2.o.heap HB0.o) 4;clear hT X2 c2 HT;go_wp2_with fail;refine(HA.o w2 (HX0.o.trans HX2.o)).mono ?_;rintro r w3 ⟨fp,ft,fr,Ff,rfl,hPf,hFf,X3⟩;have HP3:=hid (And.intro hPf hFf);have HX3:=hid (HX2.o.trans X3);have HY3:=hid X3;have c5:=cO (HX3.o.heap HB0.o) 5;clear hPf hFf X3 c4 HA;go_wp2_with fail;refine(HB.o w3 (HX0.o.trans HX3.o)).mono ?_;rintro r w4 ⟨hp,hc,hrr,Fh,rfl,hPh,hFh,X4⟩;have HP4:=hid (And.intro hPh hFh);have HX4:=hid (HX3.o.trans X4);have HY4:=hid X4;have d5:=cO (HX4.o.heap HB0.o) 5;clear hPh hFh X4 c5;go_wp2_with fail;refine(HB.o w4 (HX0.o.trans HX4.o)).mono ?_;rintro r w5 ⟨bp,bcc,brr,Fb,rfl,hPb,hFb,X5⟩;have HP5:=hid (And.intro hPb hFb);have HX5:=hid (HX4.o.trans X5);have HY5:=hid X5;have c6:=cO (HX5.o.heap HB0.o) 6;have c3:=cO (HX5.o.heap HB0.o) 3;clear hPb hFb X5 d5 HB;go_wp2_with fail;go_loop [15,73] (λ v15 v73=>∃i:Nat,i<=gn/\v73= iI i) (λ _ v73=>gn-(intOf v73).toNat)
 case atStart=>exact⟨0,by omega,rfl⟩
 case round=>
  obtain⟨i,hi,rfl⟩:=hrel;by_cases hlt:i<gn
  ·have d1:decide ((i:Int)<(gn:Int))=true:=by simp;omega
   have i0:(0:Int)<=(i:Int):=by omega
   have i1:(i:Int)<(gn:Int):=by omega
   obtain⟨g,o,rfl,hcl,-⟩:=Hv HRow.o hlt;have hcl5:=(HX0.o.trans HX5.o).cell hcl;have hzb:64<=zg.getD i 0/\zg.getD i 0<=4096:=by
    have h2:=HKs.o.2.2.2;have hl:i<zg.length:=by rw[<-HGn.o];exact hlt
    rw[List.getD_eq_getElem?_getD,Ud hl,Option.getD_some];exact h2 _ (List.getElem_mem hl)
   obtain⟨z,hz⟩:∃z,z=zg.getD i 0:=⟨_,rfl⟩;rw[<-hz] at hcl5 hzb;have q1:decide (z<64)=false:=by simp;omega
   have q2:decide (z>4096)=false:=by simp;omega
   clear hcl hz;go_wp2_with fail;go_round
   case rel=>exact⟨i+1,by omega,by go_num⟩
   case measure=>simp[intOf];omega
  ·have d1:decide ((i:Int)<(gn:Int))=false:=by simp;omega
   obtain rfl:i=gn:=by omega
   go_wp2_with fail;refine(HM.o w5).mono ?_;rintro r w6 ⟨rfl,hM,X6⟩;have HP6:=hid hM;have HX6:=hid (HX5.o.trans X6);have HY6:=hid X6;clear hM X6 HM c6 c3;go_wp2_with fail;refine(HD.o w6).mono ?_;rintro r w7 ⟨rfl,hD7,X7⟩;have HP7:=hid hD7;have HX7:=hid (HX6.o.trans X7);have HY7:=hid X7;clear hD7 X7;go_wp2_with fail;refine(HD.o w7).mono ?_;rintro r w8 ⟨rfl,hD8,X8⟩;have HP8:=hid hD8;have HX8:=hid (HX7.o.trans X8);have HY8:=hid X8;have c6:=cO (HX8.o.heap HB0.o) 6;clear hD8 X8 HD;go_wp2_with fail;refine(HG.o w8 (HX0.o.trans HX8.o)).mono ?_;rintro r w9 ⟨frv,rfl,hO9,X9⟩;have hfs:∃x y z,frv= .slice x y z:=by
    obtain⟨a,c,e⟩:=hO9.sliceN;exact⟨_,_,_,e⟩
   obtain⟨fa,fn,fcp,rfl⟩:=hfs;have HP9:=hid hO9;have HY9:=hid X9;clear hO9 X9 c6 HG;go_upto_region 20 with fail;obtain⟨W10,hW10⟩:∃W,W=w9.alloc (.cells #[pP sb 0,.pointer none,pP w1.heap.size 0,pP fp 0,nN,nN,iI 0,pP (w5.heap.size+1) 0,pP hp 0,pP bp 0,pP w6.heap.size 0,pP w7.heap.size 0,.slice fa fn fcp,iI 0,nN,.bool false,iI 0,iI 0] 78):=⟨_,rfl⟩;have hb10:W10.heap[w9.heap.size]?=oC #[pP sb 0,.pointer none,pP w1.heap.size 0,pP fp 0,nN,nN,iI 0,pP (w5.heap.size+1) 0,pP hp 0,pP bp 0,pP w6.heap.size 0,pP w7.heap.size 0,.slice fa fn fcp,iI 0,nN,.bool false,iI 0,iI 0] 78:=by rw[hW10];exact Ub w9 _
   have X10:Ext w9 W10:=by rw[hW10];exact(Ext.refl _).alloc _
   rw[<-hW10];have X110:Ext w1 W10:=(HY2.o.trans (HY3.o.trans (HY4.o.trans (HY5.o.trans (HY6.o.trans (HY7.o.trans (HY8.o.trans (HY9.o.trans X10))))))));have s0:=cO (X110.heap HP1.o.2.1) 0;have HRt:=hid (Qf (HP1.o.1.ext X110));have HGn:=hid (λ W=>gnew w9.heap.size W);have HB10:=hid hb10;have HX10:=hid X10;unfold Gm at HGn;clear hW10 hb10 X10 X110;go_wp2_with fail;refine HRt.o.mono ?_;rintro r w11 ⟨rfl,X11⟩;have HX11:=hid X11;clear X11 HRt s0;go_wp2_with fail;refine(HGn.o w11).mono ?_;rintro r w12 ⟨gp,pb,mb,rfl,hgp,hfid,X12,g1,g2,g3,g4,g5⟩;have hb12:=X12.heap (HX11.o.heap HB10.o);have c1:=cO hb12 1;have f12:=fO hb12;have HQ:=hid (show w12.heap[gp]?=oC (DP w9.heap.size pb) 135/\B3 w12 pb mb 16 []/\w11.heap.size<=gp/\w11.heap.size<=pb/\w11.heap.size<=mb/\gp≠pb/\gp≠mb from⟨hgp,hfid,g1,g2,g3,g4,g5⟩);have HB12:=hid hb12;have HX12:=hid (HX11.o.trans X12);clear hgp hfid X12 g1 g2 g3 g4 g5 hb12 HGn;go_wp2_with fail;go_ret2;clear c1 f12;have X1:=HX1.o;have z1:=HX1.o.size;have z2:=HY2.o.size;have z3:=HY3.o.size;have z4:=HY4.o.size;have z5:=HY5.o.size;have z6:=HY6.o.size;have z7:=HY7.o.size;have z8:=HY8.o.size;have z9:=HY9.o.size;have z10:=HX10.o.size;have z11:=HX11.o.size;obtain⟨W,hW⟩:∃W,W=w12.setCell (dD w9.heap.size 1) (pP gp 0):=⟨_,rfl⟩;have U:Upd [w9.heap.size] w12 W:=by rw[hW];exact(Upd.refl _ _).setCell _ _ (.inl (by simp))
   have hWb:W.heap[w9.heap.size]?=oC #[pP sb 0,pP gp 0,pP w1.heap.size 0,pP fp 0,nN,nN,iI 0,pP (w5.heap.size+1) 0,pP hp 0,pP bp 0,pP w6.heap.size 0,pP w7.heap.size 0,.slice fa fn fcp,iI 0,nN,.bool false,iI 0,iI 0] 78:=by rw[hW];exact jP (i:=1) _ HB12.o
   have E9:=HX10.o.trans HX12.o;have E8:=HY9.o.trans E9;have E7:=HY8.o.trans E8;have E6:=HY7.o.trans E7;have E5:=HY6.o.trans E6;have E4:=HY5.o.trans E5;have E3:=HY4.o.trans E4;have E2:=HY3.o.trans E3;have E1:=HY2.o.trans E2;obtain⟨pFs,pSv,psb,pF0,ps0⟩:=HP1.o;have lF0:=(FsW.loc _ _ _ _).1 _ _ pFs;have lsb:=lH pSv;have lT:=lH HP2.o;obtain⟨pf,pf0⟩:=HP3.o;have lf:=(PwP.loc _ _ _ _ _ _).1 _ _ pf;obtain⟨ph,ph0⟩:=HP4.o;have lh:=(PwP.loc _ _ _ _ _ _).1 _ _ ph;obtain⟨pb',pb0⟩:=HP5.o;have lb:=(PwP.loc _ _ _ _ _ _).1 _ _ pb';have lm1:=lH HP6.o.ptr;have la:=HP7.o.lt;have ld:=HP8.o.lt;have lfr:=λ g hg=>HP9.o.lt (g:=g) hg
   have lsp:=lH HB10.o;obtain⟨qg,qf,q1,q2,q3,q4,q5⟩:=HQ.o;have ltab:=HTab.o.lt;obtain⟨d,hd⟩:∃d:SD,d=⟨⟨w9.heap.size,sb,gp,w1.heap.size,fp,w5.heap.size+1,hp,bp,w6.heap.size,w7.heap.size,.slice fa fn fcp,zg,fb,xr,xn,w5.heap.size,hc,hrr,BI zb,bcc,brr,BI zb⟩,pb,mb,ft,fr,BI za,xm⟩:=⟨_,rfl⟩;have hno:∀b,b<w9.heap.size->b∉[w9.heap.size]:=λ b hb hm=>by simp at hm;omega
   have hsb9:=hno sb (by omega);obtain⟨F,hS,hF⟩:=SS.make (d:=d) (w:=W) (n0:=W0.heap.size) (n1:=w1.heap.size) (n2:=w2.heap.size) (n3:=w3.heap.size) (n4:=w4.heap.size) (n5:=w5.heap.size) (n6:=w6.heap.size) (n7:=w7.heap.size) (n8:=w8.heap.size) (n9:=w9.heap.size) (n10:=W10.heap.size) (F0:=F0) (Ff:=Ff) (Fh:=Fh) (Fb:=Fb) (x:=x) (ba:=w6.heap.size) (bd:=w7.heap.size)
    ⟨z1,z2,z3,z4,z5,z6,z7,z8,z9,z10⟩
    (by rw[hd];exact(FsW.loc _ _ _ _).2 _ _ _ _ (pFs.ext E1) U (λ b hb=>hno b (by have:=lF0 b hb;omega)))
    (by rw[hd];exact U.heap (E1.heap pSv) hsb9) (by rw[hd];exact psb)
    (by rw[hd];intro b hb;exact(Um.1 hb).elim (λ e=>by rw[e];exact⟨ps0,lsb⟩) (λ k=>⟨pF0 b k,lF0 b k⟩))
    (by rw[hd];exact U.heap (E2.heap HP2.o) (hno _ (by first|omega|(dsimp only;omega)))) (by rw[hd];exact⟨Uf _,lT⟩)
    (by rw[hd];exact(PwP.loc _ _ _ _ _ _).2 _ _ _ _ ((PwP.loc _ _ _ _ _ _).2 _ _ _ [] pf (E3.upd []) (by simp)) U (λ b hb=>hno b (by have:=lf b hb;omega))) (λ b hb=>⟨pf0 b hb,lf b hb⟩)
    (by rw[hd];exact(PwP.loc _ _ _ _ _ _).2 _ _ _ _ ((PwP.loc _ _ _ _ _ _).2 _ _ _ [] ph (E4.upd []) (by simp)) U (λ b hb=>hno b (by have:=lh b hb;omega))) (λ b hb=>⟨ph0 b hb,lh b hb⟩)
    (by rw[hd];exact(PwP.loc _ _ _ _ _ _).2 _ _ _ _ ((PwP.loc _ _ _ _ _ _).2 _ _ _ [] pb' (E5.upd []) (by simp)) U (λ b hb=>hno b (by have:=lb b hb;omega))) (λ b hb=>⟨pb0 b hb,lb b hb⟩)
    (by rw[hd];exact(HP6.o.upd (E6.upd []) (by simp) (by simp)).upd U (hno _ (by first|omega|(dsimp only;omega))) (hno _ (by first|omega|(dsimp only;omega)))) (by rw[hd];dsimp only;omega)
    (by rw[hd];exact(HP7.o.upd (E7.upd []) (by simp)).upd U (λ b hb=>hno b (by simp[A9,Value.ownBlock] at hb;omega))) (by rw[hd];exact⟨Uf _,la⟩)
    (by rw[hd];exact(HP8.o.upd (E8.upd []) (by simp)).upd U (λ b hb=>hno b (by simp[A9,Value.ownBlock] at hb;omega))) (by rw[hd];exact⟨Uf _,ld⟩)
    (by rw[hd];exact(HP9.o.ext E9).upd U (λ g hg=>hno g (lfr g hg).2)) (by rw[hd];exact λ g hg=>lfr g hg)
    (by rw[hd];exact hWb) (by rw[hd];exact⟨Uf _,lsp⟩)
    (by rw[hd];exact U.heap qg (by simp;omega)) (by rw[hd];exact qf.upd U (by simp;omega) (by simp;omega)) (by rw[hd];dsimp only;omega)
    ((HTab.o.ext (HX0.o.trans (X1.trans E1))).upd U (by simp;omega)) (by omega) (by rw[hd];exact⟨HKs.o.2.2.2,by rcases Nat.eq_zero_or_pos zg.length with e|e;exact .inl (List.eq_nil_of_length_eq_zero e);exact .inr e,HKs.o.2.2.1⟩) HBd.o.2
   rw[<-hW];have k1:=HKs.o.1.script;have k2:=HKs.o.2.1.script;refine⟨d,F,by(rw[hd];first|done|rfl),hS,by rw[hd];exact⟨k2,k2⟩,by rw[hd];exact k1,by(rw[hd];first|done|rfl),by(rw[hd];first|done|rfl),U.ext ((HX0.o.trans X1).trans E1) (λ g hg=>by simp at hg;omega),λ b hb=> ?_⟩;have:=hF b hb;omega
end
end Go.Proofs.YtdakioiagpkfhaaGreatDoor
