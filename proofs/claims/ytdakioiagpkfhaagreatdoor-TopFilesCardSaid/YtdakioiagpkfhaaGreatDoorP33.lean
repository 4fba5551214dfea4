import Derived.Test.YtdakioiagpkfhaaGreatDoorP31
import Derived.Laws.LoneSync
set_option maxRecDepth 99999
set_option maxHeartbeats 0
set_option linter.all false
namespace Go.Proofs.YtdakioiagpkfhaaGreatDoor
open RowKit Conc
open Go.Proofs.Tryz
variable {a:QV} {dv v:Value} {f:AE} {f10 f8 f9 k p:Int} {f6 f7:Bool} {g n o:Nat} {s:ByteArray} {w:World} {zs:List Int}
section
variable {I:Option AE->Nat->World->List Nat->Prop} {sp fb room nodes gp pb mb n:Nat} {l:List (Int×FV)} {w:World} {G:List Nat}
theorem gread (A:DJ sp fb room nodes I) (hf:Ay f) (hw:Wf f.zs) {kc:Nat} (ho:o<=5000) (hkc:kc<=1000) {nv:Value} {mo:Int} (hmo:mo=0\/mo=2) {f3 f4:Int} {f5:ByteArray} (ha:a.fid=k/\a.off=o/\a.count=kc) (hzs:zs=(f.zs.drop o).take kc) (h:GS I sp gp pb mb l (some f) n w G) (hn:n<100) (hk:Ah l k=some ⟨2,1,f3,f4,f5,false,true,mo,f9,f10⟩):
  Calls prog 166 #[pP gp 0,a.val nv dv] w λ r w'=>∃v,r= .returned (.tuple #[.agg (tT 0 0 0 0 0 false 0 0 (nN) v),iI 0])/\AA w' w.heap.size 5 v (bv zs)/\∃G',GS I sp gp pb mb l (some f) (n+1) w' G'/\Mv w w' G G':=by
 have HG:=hid h;have HL:=hid ((GS.loc A.loc).1 _ _ h);have HA:=hid A.loc;have HAs:=hid (λ W (X:Ext w W)=>Bc A (Ph (k:=kc) hf hw ho (by omega)) (h.ext A.loc X) hn (Sl.nil W) (λ g hg=>by simp[Value.ownBlock] at hg));rw[<-hzs] at HAs;have HGt:=hid (λ W (X:Ext w W)=>get_ok pb mb 16 l k W ((h.ext A.loc X).fid A.loc).1 hk);have HRd:=hid (λ W=>S7 hmo W);have hWf:Wf zs:=by rw[hzs];exact λ z hz=>hw z (List.mem_of_mem_drop (List.mem_of_mem_take hz))
 have hzl:zs.length<=1000:=by rw[hzs];simp;omega
 have HWf:=hid hWf;have HZl:=hid hzl;simp only[QV.val,ha.1,ha.2.1,ha.2.2];simp only[AV.val,RV.val,List.length_nil,FV.val] at HAs HGt;obtain⟨ef,hef⟩:∃x:Bool,x=decide (f.zs.length<=o+kc):=⟨_,rfl⟩;obtain⟨zk,hzk⟩:∃x:Nat,x=zs.length:=⟨_,rfl⟩;rw[<-hef,<-hzk] at HAs;clear A h hn hk ha hf hmo hef hzk hWf hzl hzs hw ho;go_in;go_upto_region 1 with fail;obtain⟨W0,hW0⟩:∃W,W=((w.alloc (.cells (aA a.typ a.tag k a.nfid a.otag a.msize a.mode a.perm (o:Int) (kc:Int) a.name nv a.size dv) 43)).alloc (.cells tZ 39)):=⟨_,rfl⟩;rw[<-hW0];obtain⟨hA0,hT0,X0⟩:=AH w (.cells (aA a.typ a.tag k a.nfid a.otag a.msize a.mode a.perm (o:Int) (kc:Int) a.name nv a.size dv) 43) (.cells tZ 39);rw[<-hW0] at hA0 hT0 X0;have hz0:w.heap.size+2<=W0.heap.size:=by rw[hW0];simp
 have HX0:=hid X0;have HA0:=hid hA0;have HT0:=hid hT0;have c2:W0.cell? (dD w.heap.size 2)=some (iI k):=cO hA0 2;have g3:W0.cell? (dD gp 3)=some (pP pb 0):=cO (HX0.o.heap HG.o.gate) 3;have hal0:=lH hA0;have hgl0:=lH (HX0.o.heap HG.o.gate);clear hW0 hA0 hT0 X0;go_wp2_with fail;go_cut [6,7] (λ q6 q7 wx=>∃g6,q6= pP g6 0/\q7= iI 0/\W0.heap.size<=g6/\wx.heap[g6]?=oC (fR 2 1 f3 f4 f5 false true mo f9 f10) 381/\Ext W0 wx)
 case first=>
  go_region_with (go_at_call 272;first|(refine(HGt.o (World.alloc (World.drew W0) _) (HX0.o.trans ((dE _).alloc _))).mono ?_;rintro r w1 ⟨rfl,X1⟩;have hB:=X1.heap (Ub (World.drew W0) (.cells FV.zero.cells 381));have hB2:w1.heap[W0.heap.size]?=oC fZ 381:=hB;obtain⟨r0,r1,r2,r3,r4,r5,r6,r7,r8,r9,rf⟩:=AC hB2;have hl1:=lH hB2)|(refine(HGt.o _ (HX0.o.trans (dE _))).mono ?_;rintro r w1 ⟨rfl,X1⟩))
  all_goals
   go_wp2_with fail;go_meet
   case rel=>first|exact⟨_,rfl,rfl,X1.size,Ub w1 _,((dE W0).trans X1).alloc _⟩|exact⟨_,rfl,rfl,Uf _,Ao hB2,Upd.ext (AX _ _ _ _ _ _ _ _ _ _ _ _) (((dE W0).alloc _).trans X1) (by simp)⟩
 case rest=>
 obtain⟨g6,rfl,rfl,hg6,hF2,X2⟩:=hcut;obtain⟨W2,hW2⟩:∃W2,W2=wc:=⟨_,rfl⟩;rw[<-hW2] at hF2 X2|-
 clear c2 g3 HGt;have HX2:=hid (HX0.o.trans X2);have HA2:=hid (X2.heap HA0.o);have HT2:=hid (X2.heap HT0.o);have HF2:=hid hF2;have hz2:=lH hF2;clear hF2 X2 hW2;have f6:W2.cell? (dD g6 6)=some (.bool true):=cO HF2.o 6;have f7:W2.cell? (dD g6 7)=some (iI mo):=cO HF2.o 7;have c9:W2.cell? (dD w.heap.size 9)=some (iI (kc:Int)):=cO HA2.o 9;have hal2:=lH HA2.o;have HRm:=hid (λ W (X:Ext w W)=>LW (X.heap HG.o.gate));go_upto_region 6 with(go_at_call 273;refine(HRd.o _).mono ?_;rintro r wq ⟨rfl,rfl⟩);go_cut [8] (λ q8 wx=>q8= iI (kc:Int)/\Ext W2 wx)
 case first=>
  have em:min (kc:Int) 1000=kc:=by omega
  go_region_with (first|(go_at_call 269;refine(HRm.o _ (HX2.o.trans (dE _))).mono ?_;rintro r w7 ⟨rfl,rfl⟩))
  all_goals
   go_wp2_with fail;go_meet
   case rel=>exact⟨rfl,dE _⟩
 case rest=>
 obtain⟨rfl,X5⟩:=hcut;obtain⟨W6,hW6⟩:∃W6,W6=wc:=⟨_,rfl⟩;rw[<-hW6] at X5|-
 have HX6:=hid (HX2.o.trans X5);have HAs6:=hid (HAs.o W6 HX6.o);have HA6:=hid (X5.heap HA2.o);have HT6:=hid (X5.heap HT2.o);have HF6:=hid (X5.heap HF2.o);have hz6:=X5.size;clear X5 HAs hW6 c9 f6 f7;have f0:W6.cell? (dD g6 0)=some (iI 2):=cO HF6.o 0;have f1:W6.cell? (dD g6 1)=some (iI 1):=cO HF6.o 1;have f5_:W6.cell? (dD g6 5)=some (.bool false):=cO HF6.o 5;have c8:W6.cell? (dD w.heap.size 8)=some (iI (o:Int)):=cO HA6.o 8;have hal6:=lH HA6.o;have hfl6:=lH HF6.o;go_wp2_with fail;refine HAs6.o.mono ?_;rintro r w7 ⟨v,rfl,O7,G7,hG7,M7⟩;obtain⟨va,vc,rfl,q1,q2⟩:=O7.sl HWf.o;have hT7:w.heap.size+1∉G:=λ hm=>by have:=HL.o _ hm;omega
 have HT7:=hid (M7.1.heap HT6.o hT7);have HG7:=hid hG7;have HM7:=hid ((Mv.of_ext HX6.o G).trans M7);have HCn:=hid (λ W (X:Ext w7 W)=>Ar va _ vc zs (by have:=HZl.o;omega) W (q1.ext X) q2.nil0);have hTG:w.heap.size+1∉G7:=λ hm=>by rcases M7.2 _ hm with q|q;exact hT7 q;omega
 have hz7:=M7.size;clear O7 hG7 M7 f0 f1 f5_ c8 HAs6 hT7 q1 q2;go_upto_region 12 with fail;obtain⟨W8,hW8⟩:∃W,W=w7.alloc (.cells (rR 0 0 0 0 0 0 (.slice va zs.length vc) (zk:Int) ef (nN)) 142):=⟨_,rfl⟩;rw[<-hW8];have XW8:Ext w7 W8:=by rw[hW8];exact(Ext.refl _).alloc _
 have bW8:W8.heap[w7.heap.size]?=oC (rR 0 0 0 0 0 0 (.slice va zs.length vc) (zk:Int) ef (nN)) 142:=by rw[hW8];exact Ub w7 _
 clear hW8;have HG8:=hid (HG7.o.ext HA.o XW8);have HT8:=hid (XW8.heap HT7.o);have HM8:=hid (HM7.o.ext XW8);have HX8:=hid XW8;have s6:W8.cell? (dD w7.heap.size 6)=some (.slice va zs.length vc):=cO bW8 6;have hrl:=lH bW8;clear XW8 bW8;go_wp2_with fail;refine(HCn.o _ HX8.o).mono ?_;rintro r w9 ⟨y,rfl,O9,X9⟩;obtain⟨ya,yc,rfl,-,-⟩:=O9.sl HWf.o;have HG9:=hid (HG8.o.ext HA.o X9);have HT9:=hid (X9.heap HT8.o);have HM9:=hid (HM8.o.ext X9);have HO9:=hid O9;obtain⟨t0,t1,t2,t3,t4,t5,t6,t7,t8,t9,t10,t11,t12,t13,t14,t15,t16,t17,tf⟩:=A8 (show w9.heap[w.heap.size+1]?=oC tZ 39 from HT9.o);clear X9 O9 s6;go_wp2_with fail;refine Aa (R:=w.heap.size+1) (w0:=w9) (Pr:=λ W=>bodyPost _ _ _ _ _ W) _ (EF (show w9.heap[w.heap.size+1]?=oC tZ 39 from HT9.o)) (Cd _ _ _ _ _ _ _ _ _ _ _ _ _ _ _ _ _ _ _ _) ?_;clear t0 t1 t2 t3 t4 t5 t6 t7 t8 t9 t10 t11 t12 t13 t14 t15 t16 t17 tf;intro W hR hU;have hG':=(GS.loc HA.o).2 _ _ _ _ HG9.o hU (λ b hb hm=>by simp at hm;subst hm;exact hTG hb);have hO:=(HO9.o.upd hU (λ g hg=>by have:=(HO9.o.lt hg).1;simp;omega)).low (show w.heap.size<=_ by omega)
 exact Ue (v:= .tuple #[.agg (tT 0 0 0 0 0 false 0 0 (nN) (.slice ya zs.length yc)),iI 0]) (AO (g:=w.heap.size+1) (cs:= (tT 0 0 0 0 0 false 0 0 (nN) (.slice ya zs.length yc))) rfl _ _ _ _ rfl hR underlying39 rfl iT rfl) rfl ⟨_,rfl,hO,_,hG',HM9.o.1.trans2 hU (λ i hi=> .inr (by simp at hi;omega)),HM9.o.2⟩
end
section
variable {I:Option AE->Nat->World->List Nat->Prop} {sp fb room nodes gp pb mb n:Nat} {l:List (Int×FV)} {w:World} {G:List Nat}
theorem T6 (A:DJ sp fb room nodes I) (hf:Ay f) (hs:AP f.name) (hsf:s=f.name) (h:GS I sp gp pb mb l (some f) n w G) (hn:n<100):
  Calls prog 277 #[pP gp 0,.agg (fR 2 1 1 1 s f6 f7 f8 f9 f10)] w λ r w'=>r= .returned (iI 0)/\∃G',GS I sp gp pb mb l (some f) (n+1) w' G'/\Mv w w' G G':=by
 have HL:=hid ((GS.loc A.loc).1 _ _ h);have HA:=hid A.loc;have HAs:=hid (λ W (X:Ext w W)=>Bc A (Ll hf hs) (h.ext A.loc X) hn (Sl.nil W) (λ g hg=>by simp[Value.ownBlock] at hg));rw[<-hsf] at HAs hs;have hne:(s.toList==([]:List UInt8))=false:=by
  have:=hs.lo;rw[Lib.toList_data];have h2:s.data.toList.length=s.size:=Array.length_toList;cases h3:s.data.toList with
  |nil=>rw[h3] at h2;have h4:(0:Nat)=s.size:=h2;omega
  |cons=>rfl
 simp only[AV.val,Fo,RV.val,List.length_nil] at HAs;obtain⟨md,hmd⟩:∃x:Int,x=f.md:=⟨_,rfl⟩;obtain⟨sz,hsz⟩:∃x:Int,x=(f.zs.length:Int):=⟨_,rfl⟩;rw[<-hmd,<-hsz] at HAs;clear A h hn hf hs hmd hsz hsf;go_in;go_upto_region 1 with fail;obtain⟨W0,hW0⟩:∃W,W=w.alloc (.cells (fR 2 1 1 1 s f6 f7 f8 f9 f10) 381):=⟨_,rfl⟩;rw[<-hW0];have XW0:Ext w W0:=by rw[hW0];exact(Ext.refl _).alloc _
 have bW0:W0.heap[w.heap.size]?=oC (fR 2 1 1 1 s f6 f7 f8 f9 f10) 381:=by rw[hW0];exact Ub w _
 clear hW0;have HX0:=hid XW0;have HF0:=hid bW0;have f0:W0.cell? (dD w.heap.size 0)=some (iI 2):=cO bW0 0;have f2:W0.cell? (dD w.heap.size 2)=some (iI 1):=cO bW0 2;have f3:W0.cell? (dD w.heap.size 3)=some (iI 1):=cO bW0 3;have f4:W0.cell? (dD w.heap.size 4)=some (.string s):=cO bW0 4;have HAs0:=hid (HAs.o W0 XW0);clear XW0 bW0 HAs;go_wp2_with fail;refine HAs0.o.mono ?_;rintro r w1 ⟨v,rfl,O1,G1,hG1,M1⟩;obtain⟨va,vc,rfl,-,-⟩:=O1.sl Wf.nil;have hlow:∀i,w.heap.size<=i->i∉G:=λ i hi hm=>by have:=HL.o _ hm;omega
 have HF1:=hid (M1.1.heap HF0.o (hlow _ (by omega)));have HM1:=hid ((Mv.of_ext HX0.o G).trans M1);have HG1:=hid hG1;clear O1 hG1 M1 f0 f2 f3 f4 HAs0;go_upto_region 4 with fail;obtain⟨W2,hW2⟩:∃W,W=w1.alloc (.cells (rR 0 2 1 2 md sz (.slice va 0 vc) 0 false (nN)) 142):=⟨_,rfl⟩;rw[<-hW2];have XW2:Ext w1 W2:=by rw[hW2];exact(Ext.refl _).alloc _
 have bW2:W2.heap[w1.heap.size]?=oC (rR 0 2 1 2 md sz (.slice va 0 vc) 0 false (nN)) 142:=by rw[hW2];exact Ub w1 _
 clear hW2;have HG2:=hid (HG1.o.ext HA.o XW2);have HM2:=hid (HM1.o.ext XW2);have s1:W2.cell? (dD w1.heap.size 1)=some (iI 2):=cO bW2 1;have s2:W2.cell? (dD w1.heap.size 2)=some (iI 1):=cO bW2 2;have f0:W2.cell? (dD w.heap.size 0)=some (iI 2):=cO (XW2.heap HF1.o) 0;have f1:W2.cell? (dD w.heap.size 1)=some (iI 1):=cO (XW2.heap HF1.o) 1;clear XW2 bW2;go_wp2_with fail;go_ret;exact⟨rfl,_,HG2.o,HM2.o⟩
end
section
variable {I:Option AE->Nat->World->List Nat->Prop} {sp fb room nodes gp pb mb n:Nat} {l:List (Int×FV)} {w:World} {G:List Nat}
theorem AP.notNil (hs:AP s):(s.toList==([]:List UInt8))=false:=by
 have:=hs.lo;rw[Lib.toList_data];have h2:s.data.toList.length=s.size:=Array.length_toList;cases h3:s.data.toList with
 |nil=>rw[h3] at h2;have h4:(0:Nat)=s.size:=h2;omega
 |cons=>rfl
theorem R6 (hg:AP f.name) (hs:AP s):B4 fb room nodes (some f) (some {f with name:=s}) {proc:=14,h1:=1,h2:=1,k1:=1,k2:=1,name:=f.name,name2:=s} [] {} []:=by
 by_cases h:f.name=s
 ·subst h;exact Pf hg
 ·exact VS hg hs h
theorem Tw (A:DJ sp fb room nodes I) (hf:Ay f) (hs:AP f.name) {s0:ByteArray} (hs2:AP s) (hs0:s0=f.name) {nv:Value} (ha:a.fid=k/\a.name=s/\a.size= -1) (h:GS I sp gp pb mb l (some f) n w G) (hn:n<99) (hk:Ah l k=some ⟨2,1,1,1,s0,f6,f7,f8,f9,f10⟩):
  Calls prog 171 #[pP gp 0,a.val nv dv] w λ r w'=>r= .returned (.tuple #[.agg tZ,iI 0])/\∃G',GS I sp gp pb mb (EE l k ⟨2,1,1,1,s,f6,f7,f8,f9,f10⟩) (some {f with name:=s}) (n+2) w' G'/\Mv w w' G G':=by
 have HG:=hid h;have HL:=hid ((GS.loc A.loc).1 _ _ h);have HA:=hid A.loc;have hpl:=lH (h.fid A.loc).1.ptr;have hml:=(h.fid A.loc).1.map.lt;have HNd:=hid (λ W (X:Ext w W)=>T6 (f8:=f8) (f9:=f9) (f10:=f10) (f6:=f6) (f7:=f7) A hf hs hs0 (h.ext A.loc X) (by omega));have HAs:=hid (λ W G' (h:GS I sp gp pb mb l (some f) (n+1) W G')=>Bc A (R6 (s:=s) hs hs2) h (by omega) (Sl.nil W) (λ g hg=>by simp[Value.ownBlock] at hg));rw[<-hs0] at HAs;have HGt:=hid (λ W (X:Ext w W)=>get_ok pb mb 16 l k W ((h.ext A.loc X).fid A.loc).1 hk);have HK:=hid hk;have HNm:=hid (λ W=>CV hs2 W);have hne:=hs2.notNil;simp only[QV.val,ha.1,ha.2.1,ha.2.2];simp only[AV.val,RV.val,List.length_nil,FV.val] at HAs HGt;clear A h hn hk ha hf hs hs2 hs0;go_in;go_upto_region 1 with fail;obtain⟨W0,hW0⟩:∃W,W=((w.alloc (.cells (aA a.typ a.tag k a.nfid a.otag a.msize a.mode a.perm a.off a.count s nv (-1) dv) 43)).alloc (.cells tZ 39)):=⟨_,rfl⟩;rw[<-hW0];obtain⟨hA0,hT0,X0⟩:=AH w (.cells (aA a.typ a.tag k a.nfid a.otag a.msize a.mode a.perm a.off a.count s nv (-1) dv) 43) (.cells tZ 39)
 rw[<-hW0] at hA0 hT0 X0;have hz0:w.heap.size+2<=W0.heap.size:=by rw[hW0];simp
 have HX0:=hid X0;have HA0:=hid hA0;have HT0:=hid hT0;have c2:W0.cell? (dD w.heap.size 2)=some (iI k):=cO hA0 2;have g3:W0.cell? (dD gp 3)=some (pP pb 0):=cO (HX0.o.heap HG.o.gate) 3;have hal0:=lH hA0;have hgl0:=lH (HX0.o.heap HG.o.gate);clear hW0 hA0 hT0 X0;go_wp2_with fail;go_cut [6,7] (λ q6 q7 wx=>∃g6,q6= pP g6 0/\q7= iI 0/\W0.heap.size<=g6/\wx.heap[g6]?=oC (fR 2 1 1 1 s0 f6 f7 f8 f9 f10) 381/\Ext W0 wx)
 case first=>
  go_region_with (go_at_call 272;first|(refine(HGt.o (World.alloc (World.drew W0) _) (HX0.o.trans ((dE _).alloc _))).mono ?_;rintro r w1 ⟨rfl,X1⟩;have hB:=X1.heap (Ub (World.drew W0) (.cells FV.zero.cells 381));have hB2:w1.heap[W0.heap.size]?=oC fZ 381:=hB;obtain⟨r0,r1,r2,r3,r4,r5,r6,r7,r8,r9,rf⟩:=AC hB2;have hl1:=lH hB2)|(refine(HGt.o _ (HX0.o.trans (dE _))).mono ?_;rintro r w1 ⟨rfl,X1⟩))
  all_goals
   go_wp2_with fail;go_meet
   case rel=>first|exact⟨_,rfl,rfl,X1.size,Ub w1 _,((dE W0).trans X1).alloc _⟩|exact⟨_,rfl,rfl,Uf _,Ao hB2,Upd.ext (AX _ _ _ _ _ _ _ _ _ _ _ _) (((dE W0).alloc _).trans X1) (by simp)⟩
 case rest=>
 obtain⟨g6,rfl,rfl,hg6,hF2,X2⟩:=hcut;obtain⟨W2,hW2⟩:∃W2,W2=wc:=⟨_,rfl⟩;rw[<-hW2] at hF2 X2|-
 clear c2 g3 HGt;have HX2:=hid (HX0.o.trans X2);have HA2:=hid (X2.heap HA0.o);have HT2:=hid (X2.heap HT0.o);have HF2:=hid hF2;have hz2:=lH hF2;clear hF2 X2 hW2;obtain⟨e0,e1,e2,e3,e4,e5,e6,e7,e8,e9,ef⟩:=AC HF2.o;have c10:W2.cell? (dD w.heap.size 10)=some (.string s):=cO HA2.o 10;have hal2:=lH HA2.o;have HNd2:=hid (HNd.o W2 HX2.o);clear HNd;go_wp2_with (go_at_call 271;refine(HNm.o _).mono ?_;rintro r wq ⟨rfl,rfl⟩);refine HNd2.o.mono ?_;rintro r w3 ⟨rfl,G3,hG3,M3⟩;have hlow:∀i,w.heap.size<=i->i∉G:=λ i hi hm=>by have:=HL.o _ hm;omega
 have HA3:=hid (M3.1.heap HA2.o (hlow _ (by omega)));have HT3:=hid (M3.1.heap HT2.o (hlow _ (by omega)));have HF3:=hid (M3.1.heap HF2.o (hlow _ (by omega)));have HM3:=hid ((Mv.of_ext HX2.o G).trans M3);have HG3:=hid hG3;have hTG3:w.heap.size+1∉G3:=λ hm=>by rcases M3.2 _ hm with q|q;exact hlow _ (by omega) q;omega
 have hAG3:w.heap.size∉G3:=λ hm=>by rcases M3.2 _ hm with q|q;exact hlow _ (by omega) q;omega
 have hFG3:g6∉G3:=λ hm=>by rcases M3.2 _ hm with q|q;exact hlow _ (by omega) q;omega
 clear hG3 M3 e0 e1 e2 e3 e4 e5 e6 e7 e8 e9 ef c10 HNd2;have f2:w3.cell? (dD g6 2)=some (iI 1):=cO HF3.o 2;have f3:w3.cell? (dD g6 3)=some (iI 1):=cO HF3.o 3;have f4:w3.cell? (dD g6 4)=some (.string s0):=cO HF3.o 4;have c10:w3.cell? (dD w.heap.size 10)=some (.string s):=cO HA3.o 10;have hfl3:=lH HF3.o;go_upto_region 11 with fail;obtain⟨W4,hW4⟩:∃W,W=w3.alloc (.cells (pR 14 0 0 0 0 1 1 1 1 s0 s (nN)) 137):=⟨_,rfl⟩;rw[<-hW4];have XW4:Ext w3 W4:=by rw[hW4];exact(Ext.refl _).alloc _
 have bW4:W4.heap[w3.heap.size]?=oC (pR 14 0 0 0 0 1 1 1 1 s0 s (nN)) 137:=by rw[hW4];exact Ub w3 _
 clear hW4;have HA4:=hid (XW4.heap HA3.o);have HT4:=hid (XW4.heap HT3.o);have HF4:=hid (XW4.heap HF3.o);have HM4:=hid (HM3.o.ext XW4);have HG4:=hid (HG3.o.ext HA.o XW4);have HAs4:=hid (HAs.o W4 G3 HG4.o);have hz4:=lH bW4;obtain⟨b0,b1,b2,b3,b4,b5,b6,b7,b8,b9,b10,b11,bf⟩:=CM bW4;clear XW4 bW4 f2 f3 f4 c10 HAs;go_wp2_with fail;refine HAs4.o.mono ?_;rintro r w5 ⟨v,rfl,O5,G5,hG5,M5⟩;obtain⟨va,vc,rfl,-,-⟩:=O5.sl Wf.nil;have HA5:=hid (M5.1.heap HA4.o hAG3);have HT5:=hid (M5.1.heap HT4.o hTG3);have HF5:=hid (M5.1.heap HF4.o hFG3);have HM5:=hid (HM4.o.trans M5);have HG5:=hid hG5;have hTG:w.heap.size+1∉G5:=λ hm=>by rcases M5.2 _ hm with q|q;exact hTG3 q;omega
 have hFG:g6∉G5:=λ hm=>by rcases M5.2 _ hm with q|q;exact hFG3 q;omega
 clear O5 hG5 M5 HAs4 b0 b1 b2 b3 b4 b5 b6 b7 b8 b9 b10 b11 bf;go_upto_region 12 with fail;obtain⟨W6,hW6⟩:∃W,W=w5.alloc (.cells (rR 0 0 0 0 0 0 (.slice va 0 vc) 0 false (nN)) 142):=⟨_,rfl⟩;rw[<-hW6];have XW6:Ext w5 W6:=by rw[hW6];exact(Ext.refl _).alloc _
 clear hW6;have HA6:=hid (XW6.heap HA5.o);have HT6:=hid (XW6.heap HT5.o);have HF6:=hid (XW6.heap HF5.o);have HM6:=hid (HM5.o.ext XW6);have HG6:=hid (HG5.o.ext HA.o XW6);have c10:W6.cell? (dD w.heap.size 10)=some (.string s):=cO HA6.o 10;have hfl6:=lH HF6.o;obtain⟨f0,f1,f2,f3,f4,f5_,f6_,f7_,f8_,f9_,ff⟩:=AC HF6.o;clear XW6;go_upto_region 15 with fail;obtain⟨W7,hW7⟩:∃W,W=W6.setCell (dD g6 4) (.string s):=⟨_,rfl⟩;rw[<-hW7];have U7:Upd [g6] W6 W7:=by rw[hW7];exact(Upd.refl [g6] W6).setCell _ _ (.inl (by simp))
 have hF7:W7.heap[g6]?=oC (fR 2 1 1 1 s f6 f7 f8 f9 f10) 381:=by rw[hW7];exact jP (i:=4) _ HF6.o
 have HG7:=hid ((GS.loc HA.o).2 _ _ _ _ HG6.o U7 (λ b hb hm=>by simp at hm;subst hm;exact hFG hb));have HA7:=hid (U7.heap HA6.o (by simp;omega));have HT7:=hid (U7.heap HT6.o (by simp;omega));have HM7:=hid (show Mv w W7 G G5 from⟨HM6.o.1.trans2 U7 (λ i hi=> .inr (by simp at hi;omega)),HM6.o.2⟩);have HSt:=hid (λ W (X:Ext W7 W)=>J2 pb mb 16 l k W ⟨2,1,1,1,s,f6,f7,f8,f9,f10⟩ ((HG7.o.ext HA.o X).fid HA.o).1 HK.o);simp only[FV.val] at HSt;clear f0 f1 f2 f3 f4 f5_ f6_ f7_ f8_ f9_ ff c10 hW7 U7;obtain⟨f0,f1,f2,f3,f4,f5_,f6_,f7_,f8_,f9_,ff⟩:=AC hF7;have c2:W7.cell? (dD w.heap.size 2)=some (iI k):=cO HA7.o 2;have g3:W7.cell? (dD gp 3)=some (pP pb 0):=cO HG7.o.gate 3;have hTn:w.heap.size+1∉[pb,mb]:=by simp;omega
 have hAn:w.heap.size∉[pb,mb]:=by simp;omega
 clear hF7;go_cut [72] (λ q72 wx=>q72= iI 0/\∃G8,GS I sp gp pb mb (EE l k ⟨2,1,1,1,s,f6,f7,f8,f9,f10⟩) (some {f with name:=s}) (n+2) wx G8/\Mv w wx G G8/\w.heap.size+1∉G8/\wx.heap[w.heap.size+1]?=oC tZ 39/\wx.heap[w.heap.size]?=oC (aA a.typ a.tag k a.nfid a.otag a.msize a.mode a.perm a.off a.count s nv (-1) dv) 43)
 case first=>
  go_region_with (go_at_call 266;refine(HSt.o _ (dE _)).mono ?_;rintro r w8 ⟨rfl,F8,U8⟩)
  all_goals
   go_wp2_with fail;go_meet
   case rel=>
    obtain⟨q1,q2⟩:=(HG7.o.fid HA.o).2.2 w8 _ F8 (((dE W7).upd _).trans U8);exact⟨rfl,_,q1,HM7.o.trans q2,hTG,U8.heap (show(World.drew W7).heap[_]?=_ from HT7.o) hTn,U8.heap (show(World.drew W7).heap[_]?=_ from HA7.o) hAn⟩
 case rest=>
 obtain⟨rfl,G8,hG8,hM8,hTG8,hT8,hA8⟩:=hcut;obtain⟨W8,hW8⟩:∃W8,W8=wc:=⟨_,rfl⟩;rw[<-hW8] at hG8 hM8 hT8 hA8|-
 have HG8:=hid hG8;have HM8:=hid hM8;have HT8:=hid hT8;have d12:W8.cell? (dD w.heap.size 12)=some (iI (-1)):=cO hA8 12;obtain⟨t0,t1,t2,t3,t4,t5,t6,t7,t8,t9,t10,t11,t12,t13,t14,t15,t16,t17,tf⟩:=A8 (show W8.heap[w.heap.size+1]?=oC tZ 39 from HT8.o);clear hG8 hM8 hA8 hT8 hW8 f0 f1 f2 f3 f4 f5_ f6_ f7_ f8_ f9_ ff c2 g3;go_wp2_with fail;refine Aa (R:=w.heap.size+1) (w0:=W8) (Pr:=λ W=>bodyPost _ _ _ _ _ W) _ (EF (show W8.heap[w.heap.size+1]?=oC tZ 39 from HT8.o)) (Cd _ _ _ _ _ _ _ _ _ _ _ _ _ _ _ _ _ _ _ _) ?_;clear t0 t1 t2 t3 t4 t5 t6 t7 t8 t9 t10 t11 t12 t13 t14 t15 t16 t17 tf;intro W hR hU;have hG':=(GS.loc HA.o).2 _ _ _ _ HG8.o hU (λ b hb hm=>by simp at hm;subst hm;exact hTG8 hb);exact Ue (v:= .tuple #[.agg tZ,iI 0]) (AO (g:=w.heap.size+1) (cs:= tZ) rfl _ _ _ _ rfl hR underlying39 rfl iT rfl) rfl ⟨rfl,_,hG',HM8.o.1.trans2 hU (λ i hi=> .inr (by simp at hi;omega)),HM8.o.2⟩
end
theorem gnew (sp:Nat) (w:World):
  Calls prog 22 #[Gm sp,.agg #[iI 1,iI 1]] w λ r w'=>∃gp pb mb,r= .returned (pP gp 0)/\w'.heap[gp]?=oC (DP sp pb) 135/\B3 w' pb mb 16 []/\Ext w w'/\
   w.heap.size<=gp/\w.heap.size<=pb/\w.heap.size<=mb/\gp≠pb/\gp≠mb:=by
 have H:=hid (λ W=>OD 16 W (by omega) (by omega));unfold Gm;go_in;go_upto_region 1 with fail;obtain⟨W0,hW0⟩:∃W,W=w.alloc (.cells #[iI 1,iI 1] 82):=⟨_,rfl⟩;rw[<-hW0];have X0:Ext w W0:=by rw[hW0];exact(Ext.refl _).alloc _
 have hb0:W0.heap[w.heap.size]?=oC #[iI 1,iI 1] 82:=by rw[hW0];exact Ub w _
 have hz0:=X0.size;clear hW0;have HB:=hid hb0;have HX0:=hid X0;clear hb0 X0;go_wp2_with fail;refine(H.o W0).mono ?_;rintro r w1 ⟨rfl,hF,X1⟩;have HF:=hid hF;have HX:=hid (HX0.o.trans X1);have hb1:=X1.heap HB.o;have c0:=cO hb1 0;have c1:=cO hb1 1;have hp1:=lH hF.ptr;clear hF X1 hb1 H;go_wp2_with fail;go_ret;exact⟨w1.heap.size,_,_,rfl,Ub w1 _,HF.o.ext ((Ext.refl _).alloc _),HX.o.alloc _,HX.o.size,by omega,by omega,by omega,by omega⟩
theorem AJ {P:Program} {ops:Array Oper} {rest:List Oper} {o:Oper} {a:Act} {Q:Exit->Act->World->Prop} (hgd:o.guard=none) (ty:TypeId) (x:Operand) (ho:o.op= .load ty x) (g:Nat) (cells:Array Value) (hx:a.eval x= pP g 0) (t:TypeId) (hg:w.heap[g]?=oC cells t) (d:TypeDesc) (hu:P.underlying ty=some d) (hd:d.isRow=true) (hi:(P.info? ty).map (·.size)=some cells.size) (h:wpList P ops Q rest (a.put o.dst (.agg cells)) w):wpList P ops Q (o::rest) a w:=
 wpList_load_mid hgd ty x ho g 0 hx cells.toList d (λ j v hv=>by rw[cO hg,Nat.zero_add];simpa using hv) hu hd (by simpa using hi) (by simpa using h)
theorem gdo {gp:Nat} {nv:Value} {tg:Int} (hpt:a.typ=p/\a.tag=tg) (h1:100<=p/\p<=126) (hg:look LX p=some (fnv g)) (eg:∀args w,(callFunc g args).run prog w= .ok (.enter g args) w) {R:TV->Value->Value->World->World->Prop} {R':TV->Value->Value->World->Prop} (H:∀W,Ext w W->Calls prog g #[pP gp 0,a.val nv dv] W λ r w'=>∃(t:TV) (qa:Option Addr) (qn qc:Nat) (da:Option Addr) (dn dc:Nat),t.typ=0/\t.tag=0/\r= .returned (.tuple #[t.val (.slice qa qn qc) (.slice da dn dc),iI 0])/\R t (.slice qa qn qc) (.slice da dn dc) W w') (hk:∀t qv dv W w1,Ext w W->R t qv dv W w1->W.heap.size<=w1.heap.size/\∀b x,w.heap.size<=b->W.heap[b]?=some x->w1.heap[b]?=some x) (hR:∀t qv dv W w1 w2 S,Ext w W->w.heap.size+2<=W.heap.size->R t qv dv W w1->Upd S w1 w2->(∀b∈S,b=w.heap.size+1\/w1.heap.size<=b)->R' t qv dv w2):
  Calls prog 70 #[pP gp 0,a.val nv dv] w λ r w'=>∃(t:TV) (qv dv:Value),r= .returned (({t with typ:=p+1,tag:=tg}:TV).val qv dv)/\R' t qv dv w':=by
 have HH:=hid H;have HK:=hid hk;have HR:=hid hR;have HG:=hid hg;have ep:IntKind.i64.wrap (p+1)=p+1:=Uh _ (by omega);simp only[QV.val,hpt.1,hpt.2] at HH|-
 clear H hk hR hg hpt h1;go_in;go_upto_region 1 with fail;obtain⟨W0,hW0⟩:∃W,W=((w.alloc (.cells (aA p tg a.fid a.nfid a.otag a.msize a.mode a.perm a.off a.count a.name nv a.size dv) 43)).alloc (.cells tZ 39)):=⟨_,rfl⟩;rw[<-hW0];obtain⟨hA0,hT0,X0⟩:=AH w (.cells (aA p tg a.fid a.nfid a.otag a.msize a.mode a.perm a.off a.count a.name nv a.size dv) 43) (.cells tZ 39);rw[<-hW0] at hA0 hT0 X0;have hz0:w.heap.size+2<=W0.heap.size:=by rw[hW0];simp
 have HX0:=hid X0;have HA0:=hid hA0;have HT0:=hid hT0;have c0:W0.cell? (dD w.heap.size 0)=some (iI p):=cO hA0 0;clear hW0 hA0 hT0 X0;go_wp2_with fail;go_region_held3 (λ w'=>w'.cell? (dD w.heap.size 0)=some (iI p)/\Ext W0 w') (first|exact⟨c0,(Ext.refl W0).drew⟩|exact En (by assumption) M1.ext|assumption) (first|(go_at_call 112;refine(GV _).mono ?_;rintro r w1 ⟨m,rfl,M1⟩;have hl:=M1.is.lookup (P:=prog) underlying236 underlying3 (NC w1) p;rw[HG.o] at hl;simp only[Option.getD_some,Option.isSome_some,fnv] at hl));have HY1:=hid (show Ext W0 w1 from Uk (by assumption));have HX1:=hid (HX0.o.trans HY1.o);clear M1 c0;obtain⟨b0,b1,b2,b3,b4,b5,b6,b7,b8,b9,b10,b11,b12,b13,bf⟩:=BG (HY1.o.heap HA0.o);have hbs:=lH (HY1.o.heap HA0.o);have hz1:=HY1.o.size;go_wp2_with fail;refine(HH.o w1 HX1.o).mono ?_
 as_aux_lemma=>
  rintro r w3 ⟨t,qa,qn,qc,da,dn,dc,ht0,ht1,rfl,hRc⟩;obtain⟨x0,x1,x2,x3,x4,⟨q0,q1,q2⟩⟩:=t;dsimp only at ht0 ht1;subst ht0 ht1;obtain⟨hz3,hkk⟩:=HK.o _ _ _ w1 w3 HX1.o hRc;have HRc:=hid hRc;have HA3:=hid (hkk _ _ (Uf _) (HY1.o.heap HA0.o));have HT3:=hid (hkk _ _ (by omega) (HY1.o.heap HT0.o));dsimp only[TV.val];clear b0 b1 b2 b3 b4 b5 b6 b7 b8 b9 b10 b11 b12 b13 bf hRc hkk hl;go_upto_region 5 with fail;obtain⟨W4,hW4⟩:∃W,W=w3.alloc (.cells (tT 0 0 x2 x3 x4 q0 q1 q2 (.slice qa qn qc) (.slice da dn dc)) 39):=⟨_,rfl⟩;rw[<-hW4];have XW4:Ext w3 W4:=by rw[hW4];exact(Ext.refl _).alloc _
  have bW4:W4.heap[w3.heap.size]?=oC (tT 0 0 x2 x3 x4 q0 q1 q2 (.slice qa qn qc) (.slice da dn dc)) 39:=by rw[hW4];exact Ub w3 _
  clear hW4;have HA4:=hid (XW4.heap HA3.o);have HT4:=hid (XW4.heap HT3.o);have HB4:=hid bW4;have HX4:=hid XW4;have c0:W4.cell? (dD w.heap.size 0)=some (iI p):=cO HA4.o 0;have c1:W4.cell? (dD w.heap.size 1)=some (iI tg):=cO HA4.o 1;obtain⟨t0,t1,t2,t3,t4,t5,t6,t7,t8,t9,t10,t11,t12,t13,t14,t15,t16,t17,tf⟩:=A8 bW4;clear XW4 bW4;go_wp2_with fail;go_cut [0] (λ q wx=>q= pP gp 0/\wx.heap[w3.heap.size]?=oC (tT (p+1) tg x2 x3 x4 q0 q1 q2 (.slice qa qn qc) (.slice da dn dc)) 39/\Upd [w3.heap.size] W4 wx)
  case first=>
   go_region
   all_goals
    go_wp2_with fail;go_meet
    case rel=>first|exact⟨rfl,jP (i:=1) _ (jP (i:=0) _ HB4.o),((Upd.refl [w3.heap.size] W4).setCell _ _ (.inl (by simp))).setCell _ _ (.inl (by simp))|>.drew⟩|exact⟨rfl,jP (i:=0) _ (jP (i:=1) _ HB4.o),((Upd.refl [w3.heap.size] W4).setCell _ _ (.inl (by simp))).setCell _ _ (.inl (by simp))|>.drew⟩
  case rest=>
  obtain⟨rfl,hB5,U5⟩:=hcut;obtain⟨W5,hW5⟩:∃W5,W5=wc:=⟨_,rfl⟩;rw[<-hW5] at hB5 U5|-
  have HT5:=hid (U5.heap HT4.o (by simp;omega));have HU5:=hid U5;clear t0 t1 t2 t3 t4 t5 t6 t7 t8 t9 t10 t11 t12 t13 t14 t15 t16 t17 tf c0 c1 hW5 U5;go_upto_region 8 with fail;refine wp_region_lit ?_;refine AJ rfl _ _ rfl w3.heap.size (tT (p+1) tg x2 x3 x4 q0 q1 q2 (.slice qa qn qc) (.slice da dn dc)) rfl 39 hB5 _ underlying39 rfl iT ?_;refine AT rfl _ _ _ rfl (w.heap.size+1) (tT (p+1) tg x2 x3 x4 q0 q1 q2 (.slice qa qn qc) (.slice da dn dc)) rfl rfl 39 _ HT5.o iT rfl (by simp[Value.oneCell']) ?_;intro W hRw hU;refine wpList_nil ?_;go_wp2_with fail;exact Ue (Uj rfl _ _ (w.heap.size+1) 39 (tT (p+1) tg x2 x3 x4 q0 q1 q2 (.slice qa qn qc) (.slice da dn dc)) (0,0) _ rfl hRw underlying39 rfl iT) rfl ⟨_,_,_,rfl,HR.o _ _ _ w1 w3 W [w3.heap.size,w.heap.size+1] HX1.o (by omega) HRc.o (((HX4.o.upd _).trans (HU5.o.mono (by simp))).trans (hU.mono (by simp))) (λ b hb=>by simp at hb;omega)⟩
theorem Om (hn:n<=1000000) (w:World):
  Calls prog 100 #[nN,iI n] w λ r w'=>∃v,r= .returned v/\AA w' w.heap.size 5 v (bv [])/\Ext w w':=by
 have e1:IntKind.i64.wrap ((n:Int)-0)=n:=Uh _ (by omega);have d1:decide ((n:Int)<0)=false:=by simp
 by_cases h0:n=0
 ·subst h0;go_in;go_wp2_with fail;go_ret;exact⟨_,rfl,AA.nil _ _ _,Ext.refl w⟩
 ·have d2:decide ((0:Int)<n)=true:=by simp;omega
  obtain⟨i0,hi,hz0,hz1,hz2⟩:=info_parts BR;have hz:=hid (Lib.run_append_nil_zeros (P:=prog) w 26 3 26 5 i0 _ .i64 .i64 underlying26 underlying3 hi hz0 n (by omega) (by omega) (by omega) (by rw[hz2];omega));go_in;go_wp2_with (at_builtin;refine jA rfl (.tmp 20) (.tmp 21) _ rfl _ _ _ rfl rfl hz.o ?_);go_ret;refine⟨_,rfl,⟨rfl,.inr ⟨w.heap.size,grownCap w n 0 5,_,rfl,Uf _,Ub w.drew _,Nat.zero_le _,grownCap_le_maxLen w n 0 _ (by unfold maxLen;omega),?_,by simp[bv]⟩⟩,((Ext.refl w).drew).alloc _⟩;have:=grownCap_ge w n 0 5;simp[size_zeroCells,Value.cells];omega
theorem Rn {v1 v2:Value} {xs ys:List Int} (hg:w.heap[g]?=oC #[v1,v2] 26) (h1:Sl w v1 xs) (h2:Sl w v2 ys) (hl:xs.length+ys.length<=100000):
  Calls prog 63 #[sS g 0 2 2] w λ r w'=>∃v,r= .returned v/\AA w' w.heap.size 5 v (bv (xs++ys))/\Ext w w':=by
 have H1:=hid h1;have H2:=hid h2;obtain⟨a1,c1,rfl,-⟩:=h1;obtain⟨a2,c2,rfl,-⟩:=h2;obtain⟨n1,hn1⟩:∃n,n=xs.length:=⟨_,rfl⟩;obtain⟨n2,hn2⟩:∃n,n=ys.length:=⟨_,rfl⟩;rw[<-hn1] at H1 hg hl;rw[<-hn2] at H2 hg hl;have e0:=cO hg 0;have e1:=cO hg 1;have hgl:=lH hg;have q1:IntKind.i64.wrap (0+(n1:Int))=n1:=(Uh (0+(n1:Int)) (by omega)).trans (by omega);have q2:IntKind.i64.wrap ((n1:Int)+n2)=(n1+n2:Nat):=(Uh ((n1:Int)+n2) (by omega)).trans (by omega);have d1:decide ((n1:Int)<0)=false:=by simp
 have HG:=hid (Om (n:=n1+n2) (by omega) w);have HC:=hid (show xs.length=n1/\ys.length=n2 from⟨hn1.symm,hn2.symm⟩);clear hn1 hn2;go_in;go_wp2_with fail;go_loop [11,3] (λ v11 v3=>(v11= iI 0/\v3= iI 0)\/(v11= iI 1/\v3= iI n1)\/(v11= iI 2/\v3= iI (n1+n2:Nat))) (λ v11 _=>2-(intOf v11).toNat)
 case atStart=>exact .inl ⟨rfl,rfl⟩
 case round=>
  rcases hrel with⟨rfl,rfl⟩|⟨rfl,rfl⟩|⟨rfl,rfl⟩
  ·go_wp2_with fail;go_round
   case rel=>exact .inr (.inl ⟨by go_num,by first|rfl|simp[q1]⟩)
   case measure=>simp[intOf]
  ·go_wp2_with fail;go_round
   case rel=>exact .inr (.inr ⟨by go_num,by first|rfl|simp[q2]⟩)
   case measure=>simp[intOf]
  ·go_wp2_with fail;refine HG.o.mono ?_;rintro r wg ⟨v,rfl,Og,Xg⟩;have HO:=hid Og;have HX:=hid Xg;clear Og Xg;go_wp2_with fail;clear e0 e1;have e0:=cO hg 0;have e1:=cO hg 1;go_loopw [27,6] (λ v27 v6 wr=>(v27= iI 0/\AA wr w.heap.size 5 v6 (bv [])/\Ext w wr)\/(v27= iI 1/\AA wr w.heap.size 5 v6 (bv xs)/\Ext w wr)\/(v27= iI 2/\AA wr w.heap.size 5 v6 (bv (xs++ys))/\Ext w wr)) (λ v27 _ _=>2-(intOf v27).toNat)
   case atStart=>exact .inl ⟨rfl,HO.o,HX.o⟩
   case round=>
    rcases hrel with⟨rfl,hO,hX⟩|⟨rfl,hO,hX⟩|⟨rfl,hO,hX⟩
    ·have j0:=hX.cell e0;have j1:=hX.cell e1;obtain⟨v',w',hrun,hO',hgr⟩:=hO.app (H1.o.ext hX) (by have:=HC.o;simp;omega) hX.size 26;have hX':=hO.grow_ext hgr hX (Uf _);have HO':=hid hO';have HX':=hid hX';have HR:=hid hrun;clear hO hX hrun hgr hO' hX';go_wp2_with (at_builtin;refine jA rfl (.tmp 31) (.tmp 32) _ rfl _ _ _ rfl rfl HR.o ?_);go_roundw
     case rel=>exact .inr (.inl ⟨by go_num,by simpa using HO'.o,HX'.o⟩)
     case measure=>simp[intOf]
    ·have j0:=hX.cell e0;have j1:=hX.cell e1;obtain⟨v',w',hrun,hO',hgr⟩:=hO.app (H2.o.ext hX) (by have:=HC.o;simp;omega) hX.size 26;have hX':=hO.grow_ext hgr hX (Uf _);have HO':=hid hO';have HX':=hid hX';have HR:=hid hrun;clear hO hX hrun hgr hO' hX';go_wp2_with (at_builtin;refine jA rfl (.tmp 31) (.tmp 32) _ rfl _ _ _ rfl rfl HR.o ?_);go_roundw
     case rel=>exact .inr (.inr ⟨by go_num,HO'.o,HX'.o⟩)
     case measure=>simp[intOf]
    ·go_wp2_with fail;go_ret;exact⟨_,rfl,hO,hX⟩
theorem add64 {x:Int} (hc:w.cell? (dD g o)=some (iI x)) (hz:w.frozen? (dD g o)=false) (h0:0<=x) (h1:x<=1000000):
  Calls prog 45 #[pP g o,iI 1] w λ r w'=>r= .returned (iI (x+1))/\w'=w.setCell (dD g o) (iI (x+1)):=by
 have e1:IntKind.i64.wrap (x+1)=x+1:=Uh _ (by omega);have hadd:=run_call_add (P:=prog) func87 (by kernel_rfl) (by kernel_rfl) (by kernel_rfl) .i64 (by kernel_rfl) (y:=1) (s:=x+1) hc hz (by simp[go_sem,e1]);go_in;go_wp2_with fail;go_ret;exact⟨rfl,rfl⟩
section
variable {pb mb:Nat} {x n:Int} {w:World}
theorem call1 (h:Ur w pb mb x 1 []) (hx:0<=x/\x<4294967296) (p y:Int):
  Calls prog 44 #[pP pb 0,.int .u32 p,iI y] w λ r w'=>r= .returned (.tuple #[.int .u32 x,iI 0])/\Ur w' pb mb ((x+1)%4294967296) 1 [⟨x,p,y⟩]/\Upd [pb,mb] w w':=by
 have e:(x+((0:Nat):Int))%4294967296=x:=by omega
 have h:=Mu pb mb x 1 [] p y w h (by decide) hx.1 hx.2 0 ⟨rfl,by omega⟩ (by decide);rw[e] at h;have e2:x+((0:Nat):Int)+1=x+1:=by omega
 rw[e2] at h;exact h
theorem TZ {y:Int} (h:Ur w pb mb x 1 [⟨n,p,y⟩]):
  Calls prog 146 #[pP pb 0,.int .u32 n,.int .u32 p] w λ r w'=>r= .returned (.tuple #[iI y,iI 0])/\Ur w' pb mb x 1 []/\Upd [pb,mb] w w':=by
 have h:=OI pb mb x 1 [⟨n,p,y⟩] n ⟨n,p,y⟩ w h (by simp[DG]);have e:Mr [⟨n,p,y⟩] n=[]:=by simp[Mr]
 rw[e] at h;exact h
theorem drop0 (h:Ur w pb mb x 1 []) (n:Int):
  Calls prog 49 #[pP pb 0,.int .u32 n] w λ r w'=>r= .returned (.bool false)/\Ur w' pb mb x 1 []/\Upd [pb,mb] w w':=by
 have HA:=hid (LV pb mb x 1 [] n w h);have H:=hid h;clear h;go_in;go_wp2_with fail;refine HA.o.mono ?_;rintro r w1 ⟨rfl,X1⟩;have hM:=H.o.ext X1;obtain⟨w3,hrun,hmap3,hupd3⟩:=hM.map.delete (P:=prog) underlying124 underlying22 n 0;rw[Kg] at hmap3;obtain⟨c0,c1,c2,f0,f1,f2⟩:=BZ hM.ptr;have hne:=hM.ne;have hptr3:=hupd3.heap hM.ptr (by simpa using hne);have Hrun:=hid hrun;have Hm3:=hid hmap3;have Hp3:=hid hptr3;have Hu3:=hid hupd3;have HX:=hid X1;clear hM hrun hmap3 hptr3 hupd3 X1 H;simp only[DG,Option.isSome_none] at*;go_wp2_with (at_delete;refine CS rfl _ _ _ rfl _ _ _ rfl rfl Hrun.o ?_);go_ret;exact⟨rfl,⟨Hp3.o,Hm3.o⟩,(HX.o.upd _).trans (Hu3.o.mono (by simp))⟩
end
structure SC where
 sp:Nat
 sb:Nat
 gp:Nat
 tp:Nat
 fp:Nat
 mp:Nat
 hp:Nat
 bp:Nat
 ap:Nat
 dp:Nat
 fr:Value
 fs:List Int
 fb:Nat
 room:Nat
 nodes:Nat
 mm:Nat
 hc:Nat
 hr:Nat
 hs:List Int
 bc:Nat
 br:Nat
 bs:List Int
def ptr (g:Nat):Value:= pP g 0
def SC.cl (c:SC) (rest out:Value) (k:Nat) (n:Nat):Array Value:=
 #[ptr c.sb,ptr c.gp,ptr c.tp,ptr c.fp,rest,out,iI 0,ptr c.mp,ptr c.hp,ptr c.bp,ptr c.ap,ptr c.dp,c.fr,iI k,nN,.bool false,iI n,iI 0]
def FrP (c:SC) (w:World) (F:List Nat):Prop:=F=c.fr.ownBlock.toList/\AA w 0 3 c.fr (nv c.fs)
theorem FrP.loc (c:SC):Loc (FrP c):=
 ⟨λ w F h b hb=>by rw[h.1] at hb;simp at hb;exact(h.2.lt hb).2,λ w w' F S h hu hs=>⟨h.1,h.2.upd hu (λ g hg=>hs g (by rw[h.1];simp[hg]))⟩⟩
structure SC.Ok (c:SC) (k:Nat):Prop where
 each:∀z∈c.fs,64<=z/\z<=4096
 k:c.fs=[]\/k<c.fs.length
 few:c.fs.length<=100
theorem ER {s:Nat} (hs:64<=s) (hn:n<=4096):cnt n s<=64:=by
 have h1:n/s<=n/64:=Nat.div_le_div_left hs (by omega);rw[Le n s (by omega)]
 split
 ·by_cases h:n/s=64
  ·have h2:64*s<=n:=by have:=Nat.div_mul_le_self n s;rw[h] at this;exact this
   have h3:s=64:=by omega
   subst h3;omega
  ·omega
 ·omega
theorem Rm {c:SC} {k:Nat} {rest out:Value} (ok:c.Ok k) (hb:w.heap[c.sp]?=oC (c.cl rest out k n) 78) (hf:AA w 0 3 c.fr (nv c.fs)) (hv:Sl w v zs) (hz:zs.length<=4096) (hvb:∀g,v.ownBlock=some g->g≠c.sp):
  Calls prog 88 #[pP c.sp 0,v] w λ r w'=>∃v' s k',r= .returned v'/\AA w' w.heap.size 5 v' (bv (fr zs s (cnt zs.length s)))/\64<=s/\c.Ok k'/\w'.heap[c.sp]?=oC (c.cl rest out k' n) 78/\Upd [c.sp] w w':=by
 have c12:=cO hb 12;have c13:=cO hb 13;have HS:=hid hv;have HB:=hid hb;have HK:=hid ok;rcases ok.k with h0|hk
 ·obtain⟨fa,fc,hfr⟩:∃fa fc,c.fr= .slice fa 0 fc:=by
   rcases hf.form with⟨h1,-⟩|⟨g,cap,cur,h1,-⟩
   ·exact⟨_,_,h1⟩
   ·rw[h0] at h1;exact⟨_,_,h1⟩
  simp only[SC.cl,hfr] at c12 c13;obtain⟨a,cc,rfl,hr,hp⟩:=hv;obtain⟨s,hs⟩:∃s:Nat,s=4096:=⟨_,rfl⟩;have e4:(s:Int)=4096:=by omega
  have HM:=LS a zs.length cc zs s (by omega) (by omega) hz (ER (by omega) hz) w hr hp;rw[e4] at HM;have HM:=hid HM;clear h0 hb ok hf hr hfr e4 hvb;obtain⟨m,hm⟩:∃m,m=zs.length:=⟨_,rfl⟩;rw[<-hm] at HM|-
  clear hm;go_in;go_wp2_with fail;refine HM.o.mono ?_;rintro r w1 ⟨v,rfl,O1,X1⟩;go_wp2_with fail;go_ret;exact⟨_,s,k,rfl,O1,by omega,HK.o,X1.heap HB.o,X1.upd _⟩
 ·obtain⟨g,cap,hfr,-,hgl,-,-,hgc,-⟩:=hf.cell (i:=k) (by rw[Bp];exact hk);have he:=ok.each c.fs[k] (List.getElem_mem hk);have hfw:=ok.few;have hgc':w.cell? (dD g k)=some (iI (c.fs[k])):=by rw[hgc];simp[nv]
  rw[Bp] at hfr;simp only[SC.cl,hfr] at c12 c13;obtain⟨s,hs⟩:∃s:Nat,(s:Int)=c.fs[k]:=⟨c.fs[k].toNat,by omega⟩;rw[<-hs] at he hgc';obtain⟨L,hL⟩:∃L,L=c.fs.length:=⟨_,rfl⟩;rw[<-hL] at c12 hk hfw;obtain⟨a,cc,rfl,hr,hp⟩:=hv;have e1:IntKind.i64.wrap ((k:Int)+1)=(k+1:Nat):=(Uh ((k:Int)+1) (by omega)).trans (by omega);have f13:=fO hb 13;clear hgc hfr hf hs;have HM:=hid (λ W (h:AI .u8 W a zs.length cc zs)=>LS a zs.length cc zs s (by omega) (by omega) hz (ER (by omega) hz) W h hp);have HR:=hid hr;have hvb:=hid hvb;have HL:=hid hL;clear hb ok hr hL;obtain⟨m,hm⟩:∃m,m=zs.length:=⟨_,rfl⟩;rw[<-hm] at HM HR hvb|-
  clear hm;go_in;go_wp2_with fail;go_region;go_wp2_with fail;go_region;obtain⟨W,hW⟩:∃W,W=(w.setCell (dD c.sp 13) (iI (((k:Int)+1)%L))).drew.drew:=⟨_,rfl⟩;rw[<-hW];have hB:W.heap[c.sp]?=oC (c.cl rest out ((k+1)%L) n) 78:=by
   rw[hW];refine(jP _ HB.o).trans ?_
   congr 2
  have hU:Upd [c.sp] w W:=by rw[hW];exact(((Upd.refl _ w).setCell _ _ (.inl (by simp))).drew).drew
  have hrW:=HR.o.upd2 hU (λ ga o e=>by simpa using hvb.o ga (by rw[e];rfl));clear hW;have HB2:=hid hB;have HU2:=hid hU;have HM2:=hid (HM.o W hrW);clear hB hU hrW HM;go_wp2_with fail;refine HM2.o.mono ?_;rintro r w1 ⟨v,rfl,O1,X1⟩;go_wp2_with fail;go_ret;refine⟨_,s,(k+1)%L,rfl,O1.low (HU2.o.size),by omega,⟨HK.o.each,.inr (by rw[<-HL.o];exact Nat.mod_lt _ (by omega)),HK.o.few⟩,X1.heap HB2.o,HU2.o.trans (X1.upd _)⟩
def PwP (p ct cr:Nat) (ss:List Int) (k:Nat) (zs:List Int) (w:World) (F:List Nat):Prop:=PW w p ct cr ss k zs F
theorem PwP.loc (p ct cr:Nat) (ss:List Int) (k:Nat) (zs:List Int):Loc (PwP p ct cr ss k zs):=
 ⟨λ _ _ h=>(PW.flt h).1,λ _ _ _ _ h hu hs=>PW.upd h hu hs⟩
def DfP (g:Nat) (s:St) (w:World) (F:List Nat):Prop:=∃b vn vr,F=A9 g vn vr/\DW w b g 4096 64 s vn vr
theorem DfP.loc (g:Nat) (s:St):Loc (DfP g s):=
 ⟨λ w F ⟨b,vn,vr,e,h⟩ k hk=>by
  subst e;rcases Cy hk with rfl|q|q
  ·exact h.lt
  ·exact(h.num.lt q).2
  ·exact(h.rc.lt q).2,λ w w' F S ⟨b,vn,vr,e,h⟩ hu hs=>⟨b,vn,vr,e,h.upd hu (by subst e;exact hs)⟩⟩
def Kt (sb fb room nodes:Nat) (st:Option AE) (n:Nat) (w:World) (F:List Nat):Prop:=∃F0,F=sb::F0/\sb∉F0/\Ps sb fb n w/\FsW fb room nodes st w F0
theorem Kt.loc (sb fb room nodes:Nat) (st:Option AE) (n:Nat):Loc (Kt sb fb room nodes st n):=
 ⟨λ w F ⟨F0,e,_,h,k⟩ b hb=>by
  subst e;rcases Um.1 hb with rfl|q
  ·exact lH h
  ·exact(FsW.loc _ _ _ _).1 _ _ k b q,λ w w' F S ⟨F0,e,hn,h,k⟩ hu hs=>⟨F0,e,hn,hu.heap h (hs _ (by simp[e])),(FsW.loc _ _ _ _).2 _ _ _ _ k hu (λ b hb=>hs b (by simp[e,hb]))⟩⟩
def TbP (w:World) (F:List Nat):Prop:=F=[1]/\Aw w
theorem TbP.loc:Loc TbP:=
 ⟨λ w F ⟨e,h⟩ b hb=>by subst e;simp at hb;subst hb;exact h.lt,λ w w' F S ⟨e,h⟩ hu hs=>⟨e,h.upd hu (hs _ (by simp[e]))⟩⟩
def MxP (pb mb:Nat) (x:Int) (l:List MC) (w:World) (F:List Nat):Prop:=F=[pb,mb]/\Ur w pb mb x 1 l
theorem MxP.loc (pb mb:Nat) (x:Int) (l:List MC):Loc (MxP pb mb x l):=
 ⟨λ w F ⟨e,h⟩ b hb=>by
  subst e;simp at hb;rcases hb with rfl|rfl
  ·exact lH h.ptr
  ·exact h.map.lt,λ w w' F S ⟨e,h⟩ hu hs=>⟨e,h.upd hu (hs _ (by simp[e])) (hs _ (by simp[e]))⟩⟩
def idle (need:Nat) (ends:Bool):St:=⟨0,[],[],0,need,ends,0⟩
theorem JJ (need:Nat) (ends:Bool):Inv 4096 64 (idle need ends):=⟨by simp[idle],by simp[idle],by simp[idle],by simp[idle],by simp[idle],by simp[idle]⟩
theorem Sc {s:St} {F:List Nat} (h:DfP g s w F) (hI:Inv 4096 64 s) (hv:Sl w v zs) (hn:zs.length<=5000) (ha:∀k,v.ownBlock=some k->k∉F):
  Calls prog 90 #[pP g 0,v] w λ r w'=>∃v b,r= .returned v/\AN w' b v (feed 4096 64 zs (s,[])).2/\∃F',DfP g (feed 4096 64 zs (s,[])).1 w' F'/\Mv w w' F F':=by
 obtain⟨b,vn,vr,rfl,hD⟩:=h;obtain⟨a,c,rfl,hr,hp⟩:=hv;refine(PL hD hI (by have:=hD.low;have:=hD.lt;omega) (by omega) (by omega) a _ c zs hr (λ ga o e=>ha ga (by rw[e];rfl)) hn).mono ?_;rintro r w' ⟨v,rfl,vn',vr',h1,h2,h3,h4,-⟩;exact⟨v,b,rfl,h2.owns,_,⟨b,vn',vr',rfl,h1⟩,h3,h4⟩
theorem JS {s:Nat} (hs:64<=s) (hz:zs.length<=4096) (need:Nat) (ends:Bool):∃need' ends',feed 4096 64 (fr zs s (cnt zs.length s)) (idle need ends,[])=(idle need' ends',[zs]):=by
 obtain⟨a,b,h⟩:=PI 4096 64 zs s (by omega) hz hz [] (ER hs hz) need ends [];rw[List.append_nil,PJ] at h;exact⟨a,b,h⟩
theorem PK {b c:List Int} {s:St} {t:St} (h:feed 4096 64 (b++c) (s,[])=(t,[zs])):
  ((feed 4096 64 b (s,[])).2=[]/\(feed 4096 64 c ((feed 4096 64 b (s,[])).1,[]))=(t,[zs]))\/((feed 4096 64 b (s,[])).2=[zs]/\(feed 4096 64 c ((feed 4096 64 b (s,[])).1,[]))=(t,[])):=by
 rw[Fv,show feed 4096 64 b (s,[])=((feed 4096 64 b (s,[])).1,(feed 4096 64 b (s,[])).2) from rfl,JR] at h;injection h with h1 h2;rcases hL:(feed 4096 64 b (s,[])).2 with _|⟨y,L⟩
 ·rw[hL] at h2;simp only[List.nil_append] at h2;exact .inl ⟨rfl,Prod.ext h1 h2⟩
 ·rw[hL] at h2;simp only[List.cons_append,List.cons.injEq,List.append_eq_nil_iff] at h2;obtain⟨h3,h4,h5⟩:=h2;subst h3 h4;exact .inr ⟨rfl,Prod.ext h1 h5⟩
end Go.Proofs.YtdakioiagpkfhaaGreatDoor
