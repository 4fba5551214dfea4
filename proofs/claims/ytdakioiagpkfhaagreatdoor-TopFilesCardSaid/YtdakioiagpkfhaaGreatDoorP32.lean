import Derived.Test.YtdakioiagpkfhaaGreatDoorP31
set_option maxRecDepth 99999
set_option maxHeartbeats 0
set_option linter.all false
namespace Go.Proofs.YtdakioiagpkfhaaGreatDoor
open RowKit Conc
open Go.Proofs.Tryz
variable {a:QV} {dv:Value} {f:AE} {f10 f3 f4 f8 f9 k k2:Int} {f5 s:ByteArray} {f6:Bool} {nc ng no:Nat}
theorem Tt:(prog.info? 34).map (λ i=>(i.zero,i.size,i.bytes))=some (some (.agg #[.bool false,iI 0,iI 0]),3,24):=by kernel_rfl
theorem LF (W:World) (q:QI) (ty:TypeId):∃c w',(Builtin.append_ #[35,35] ty #[nN,sS W.heap.size 0 1 1]).run prog (W.alloc (.cells #[.bool q.dir,iI q.ver,iI q.path] 34))= .ok (sS (W.heap.size+1) 0 1 c) w'/\
  SlQ w' (sS (W.heap.size+1) 0 1 c) (some q)/\Ext W w'/\W.heap.size+1<w'.heap.size:=by
 obtain⟨i0,hi,hz0,hz1,hz2⟩:=info_parts Tt;obtain⟨v',w',hrun,hown,hg,hnil,h5⟩:=run_append_own_at (P:=prog) (w:=W.alloc (.cells #[.bool q.dir,iI q.ver,iI q.path] 34)) W.heap.size 35 ty 34 i0 _ 3 24 underlying35 hi hz0 hz1 hz2 rfl (by decide) (nN) 0 [] ⟨by simp,.inl ⟨rfl,rfl⟩⟩ ⟨W.heap.size,0,none⟩ 1 1 [.bool q.dir,iI q.ver,iI q.path] rfl
  (λ j u hj=>by
   match j,hj with
   |0,hj=>simp at hj;subst hj;simp[Addr.add]
   |1,hj=>simp at hj;subst hj;simp[Addr.add]
   |2,hj=>simp at hj;subst hj;simp[Addr.add]
   |j+3,hj=>simp at hj) (by simp[Value.oneCell']) (by unfold maxLen;omega) (by omega) (by simp)
 obtain⟨-,h2⟩:=hown;rcases h2 with⟨hv,h0⟩|⟨g,cap,cur,hv,hb,hgc,hn,hm,hs,ht⟩
 ·omega
 ·subst hv;obtain rfl:g=W.heap.size+1:=by
   rcases h5 with h|h
   ·simp[Value.ownBlock] at h
   ·simpa [Value.ownBlock] using h
  have hx:Ext W w':=Uu hg ((Ext.refl W).alloc _) (λ g hg=>by simp[Value.ownBlock] at hg);have hc:∀i (v:Value),[Value.bool q.dir,iI q.ver,iI q.path][i]?=some v->w'.cell? (dD (W.heap.size+1) i)=some v:=λ i v hi=>by
   rw[cO hgc i,<-Array.getElem?_toList];have h3:i<3:=by have:=(List.getElem?_eq_some_iff.1 hi).1;simpa using this
   rw[<-hi];have ht':cur.toList.take 3=[Value.bool q.dir,iI q.ver,iI q.path]:=by simpa using ht
   rw[<-ht',List.getElem?_take_of_lt h3]
  exact⟨cap,w',hrun,⟨_,0,cap,rfl,hn,hm,hc 0 _ rfl,hc 1 _ rfl,hc 2 _ rfl⟩,hx,lH hgc⟩
theorem FC {o w w':World} {S:List Nat} {p0 p1 p2 p3 p4 p5 p6 p7 p8 p9 p10 p11:Addr} {v0 v1 v2 v3 v4 v5 v6 v7 v8 v9 v10 v11:Value} (h:w.cell? p0=some v0/\w.cell? p1=some v1/\w.cell? p2=some v2/\w.cell? p3=some v3/\w.cell? p4=some v4/\w.cell? p5=some v5/\w.cell? p6=some v6/\w.cell? p7=some v7/\w.cell? p8=some v8/\w.cell? p9=some v9/\w.cell? p10=some v10/\w.cell? p11=some v11/\Upd S o w) (hu:Upd S w w') (n0:p0.block∉S) (n1:p1.block∉S) (n2:p2.block∉S) (n3:p3.block∉S) (n4:p4.block∉S) (n5:p5.block∉S) (n6:p6.block∉S) (n7:p7.block∉S) (n8:p8.block∉S) (n9:p9.block∉S) (n10:p10.block∉S) (n11:p11.block∉S):w'.cell? p0=some v0/\w'.cell? p1=some v1/\w'.cell? p2=some v2/\w'.cell? p3=some v3/\w'.cell? p4=some v4/\w'.cell? p5=some v5/\w'.cell? p6=some v6/\w'.cell? p7=some v7/\w'.cell? p8=some v8/\w'.cell? p9=some v9/\w'.cell? p10=some v10/\w'.cell? p11=some v11/\Upd S o w':=
 ⟨hu.cell h.1 n0,hu.cell h.2.1 n1,hu.cell h.2.2.1 n2,hu.cell h.2.2.2.1 n3,hu.cell h.2.2.2.2.1 n4,hu.cell h.2.2.2.2.2.1 n5,hu.cell h.2.2.2.2.2.2.1 n6,hu.cell h.2.2.2.2.2.2.2.1 n7,hu.cell h.2.2.2.2.2.2.2.2.1 n8,hu.cell h.2.2.2.2.2.2.2.2.2.1 n9,hu.cell h.2.2.2.2.2.2.2.2.2.2.1 n10,hu.cell h.2.2.2.2.2.2.2.2.2.2.2.1 n11,h.2.2.2.2.2.2.2.2.2.2.2.2.trans hu⟩
section
variable {I:Option AE->Nat->World->List Nat->Prop} {sp fb room nodes gp pb mb n:Nat} {l:List (Int×FV)} {w:World} {G:List Nat}
theorem T2 (A:DJ sp fb room nodes I) {st:Option AE} {na:Option Addr} (ha:a.fid=k/\a.nfid=k2) (hkk:k2≠k) (h:GS I sp gp pb mb l st n w G) (hn:n<100) (hk:Ah l k=some ⟨1,1,f3,f4,f5,f6,false,f8,f9,f10⟩) (hk2:Ah l k2=none) (hl:l.length<16):
  Calls prog 163 #[pP gp 0,a.val (.slice na 0 nc) dv] w λ r w'=>r= .returned (.tuple #[.agg tZ,iI 0])/\∃G',GS I sp gp pb mb (l++[(k2,⟨1,1,f3,f4,f5,f6,false,f8,f9,f10⟩)]) st n w' G'/\Mv w w' G G':=by
 have HG:=hid h;have HL:=hid ((GS.loc A.loc).1 _ _ h);have HA:=hid A.loc;have hgl:=lH h.gate;have hpl:=lH (h.fid A.loc).1.ptr;have hml:=(h.fid A.loc).1.map.lt;have HFr:=hid (λ W (X:Ext w W)=>Cn pb mb 16 l k2 W ((h.ext A.loc X).fid A.loc).1 hk2 false (by simp;omega));have HK:=hid hk;have HK2:=hid hk2;have HLn:=hid hl;have e1:(k2==k)=false:=by simp[hkk]
 have e2:(k2 !=k)=true:=by simp[hkk]
 simp only[QV.val,ha.1,ha.2];clear A h hn hk hk2 ha hl;go_in;go_upto_region 1 with fail;obtain⟨W0,hW0⟩:∃W,W=((w.alloc (.cells (aA a.typ a.tag k k2 a.otag a.msize a.mode a.perm a.off a.count a.name (.slice na 0 nc) a.size dv) 43)).alloc (.cells tZ 39)):=⟨_,rfl⟩;rw[<-hW0];obtain⟨hA0,hT0,X0⟩:=AH w (.cells (aA a.typ a.tag k k2 a.otag a.msize a.mode a.perm a.off a.count a.name (.slice na 0 nc) a.size dv) 43) (.cells tZ 39);rw[<-hW0] at hA0 hT0 X0;have hz0:w.heap.size+2<=W0.heap.size:=by rw[hW0];simp
 have HX0:=hid X0;have HA0:=hid hA0;have HT0:=hid hT0;have c2:W0.cell? (dD w.heap.size 2)=some (iI k):=cO hA0 2;have HCl:=hid (Cp (HX0.o.heap HG.o.gate) ((HG.o.ext HA.o HX0.o).fid HA.o).1 HK.o rfl);dsimp only[FV.val] at HCl;clear hW0 hA0 hT0 X0;go_wp2_with fail;refine HCl.o.mono ?_;rintro r w1 ⟨rfl,X1⟩;have HX1:=hid (HX0.o.trans X1);have HA1:=hid (X1.heap HA0.o);have HT1:=hid (X1.heap HT0.o);have hz1:=X1.size;clear X1 HCl c2;go_upto_region 4 with fail;obtain⟨W2,hW2⟩:∃W,W=w1.alloc (.cells (fR 1 1 f3 f4 f5 f6 false f8 f9 f10) 381):=⟨_,rfl⟩;rw[<-hW2];have XW2:Ext w1 W2:=by rw[hW2];exact(Ext.refl _).alloc _
 have bW2:W2.heap[w1.heap.size]?=oC (fR 1 1 f3 f4 f5 f6 false f8 f9 f10) 381:=by rw[hW2];exact Ub w1 _
 clear hW2;have HX2:=hid (HX1.o.trans XW2);have HA2:=hid (XW2.heap HA1.o);have HT2:=hid (XW2.heap HT1.o);have HF2:=hid bW2;have c2:W2.cell? (dD w.heap.size 2)=some (iI k):=cO HA2.o 2;have c3:W2.cell? (dD w.heap.size 3)=some (iI k2):=cO HA2.o 3;have g3:W2.cell? (dD gp 3)=some (pP pb 0):=cO (HX2.o.heap HG.o.gate) 3;clear XW2 bW2;go_upto_region 5 with fail;go_cut [8] (λ q8 wx=>q8= iI 0/\Ext W2 wx)
 case first=>
  go_region_with (go_at_call 260;refine(HFr.o _ (HX2.o.trans (dE _))).mono ?_;rintro r w3 ⟨rfl,X3⟩)
  all_goals
   go_wp2_with fail;go_meet
   case rel=>exact⟨rfl,(dE _).trans X3⟩
 case rest=>
 obtain⟨rfl,X3⟩:=hcut;obtain⟨w3,hw3⟩:∃w3,w3=wc:=⟨_,rfl⟩;rw[<-hw3] at X3|-
 clear hw3 c2 c3 g3;have HX3:=hid (HX2.o.trans X3);have HA3:=hid (X3.heap HA2.o);have HT3:=hid (X3.heap HT2.o);have HF3:=hid (X3.heap HF2.o);have c2:w3.cell? (dD w.heap.size 2)=some (iI k):=cO HA3.o 2;have c3:w3.cell? (dD w.heap.size 3)=some (iI k2):=cO HA3.o 3;have c11:w3.cell? (dD w.heap.size 11)=some (.slice na 0 nc):=cO HA3.o 11;have HG3:=hid (HG.o.ext HA.o HX3.o);have HT:=HT3;have HAd:=hid (λ W (X:Ext w3 W)=>add_ok pb mb 16 l k2 W ⟨1,1,f3,f4,f5,f6,false,f8,f9,f10⟩ ((HG3.o.ext HA.o X).fid HA.o).1 HK2.o (by have:=HLn.o;omega));simp only[FV.val] at HAd;have hTn:w.heap.size+1∉[pb,mb]:=by simp;omega
 have hTG:w.heap.size+1∉G:=λ hm=>by have:=HL.o _ hm;omega
 have hgp:=HG3.o.gpn;have hpl4:pb<w1.heap.size:=by omega
 clear X3 HFr;go_wp2_with fail;go_loopw [9,45] (λ v9 v wr=>v9= nN/\v= iI 0/\w3=wr) (λ _ _ _=>0)
 case atStart=>exact⟨rfl,rfl,rfl⟩
 case round=>
 obtain⟨rfl,rfl,hwr⟩:=hrel;subst hwr;go_wp2_with fail;clear c2 c3 c11;have hTS:∀b∈[pb,mb],b∈[w.heap.size+1,pb,mb]:=by simp
 have hK0:(World.drew w3).cell? (dD gp 3)=some (pP pb 0)/\(World.drew w3).cell? (dD w.heap.size 3)=some (iI k2)/\(World.drew w3).cell? (dD w1.heap.size 0)=some (iI 1)/\(World.drew w3).cell? (dD w1.heap.size 1)=some (iI 1)/\(World.drew w3).cell? (dD w1.heap.size 2)=some (iI f3)/\(World.drew w3).cell? (dD w1.heap.size 3)=some (iI f4)/\(World.drew w3).cell? (dD w1.heap.size 4)=some (.string f5)/\(World.drew w3).cell? (dD w1.heap.size 5)=some (.bool f6)/\(World.drew w3).cell? (dD w1.heap.size 6)=some (.bool false)/\(World.drew w3).cell? (dD w1.heap.size 7)=some (iI f8)/\(World.drew w3).cell? (dD w1.heap.size 8)=some (iI f9)/\(World.drew w3).cell? (dD w1.heap.size 9)=some (iI f10)/\Upd [w.heap.size+1,pb,mb] w3 (World.drew w3):=⟨cO (GS.gate HG3.o) 3,cO HA3.o 3,cO HF3.o 0,cO HF3.o 1,cO HF3.o 2,cO HF3.o 3,cO HF3.o 4,cO HF3.o 5,cO HF3.o 6,cO HF3.o 7,cO HF3.o 8,cO HF3.o 9,((Ext.refl w3).drew.upd _)⟩;have hN0:(Addr.block ⟨gp,3,none⟩)∉[w.heap.size+1,pb,mb]:=by simp;omega
 have hN1:(Addr.block ⟨w.heap.size,3,none⟩)∉[w.heap.size+1,pb,mb]:=by simp;omega
 have hN2:(Addr.block ⟨w1.heap.size,0,none⟩)∉[w.heap.size+1,pb,mb]:=by simp;omega
 have hN3:(Addr.block ⟨w1.heap.size,1,none⟩)∉[w.heap.size+1,pb,mb]:=by simp;omega
 have hN4:(Addr.block ⟨w1.heap.size,2,none⟩)∉[w.heap.size+1,pb,mb]:=by simp;omega
 have hN5:(Addr.block ⟨w1.heap.size,3,none⟩)∉[w.heap.size+1,pb,mb]:=by simp;omega
 have hN6:(Addr.block ⟨w1.heap.size,4,none⟩)∉[w.heap.size+1,pb,mb]:=by simp;omega
 have hN7:(Addr.block ⟨w1.heap.size,5,none⟩)∉[w.heap.size+1,pb,mb]:=by simp;omega
 have hN8:(Addr.block ⟨w1.heap.size,6,none⟩)∉[w.heap.size+1,pb,mb]:=by simp;omega
 have hN9:(Addr.block ⟨w1.heap.size,7,none⟩)∉[w.heap.size+1,pb,mb]:=by simp;omega
 have hN10:(Addr.block ⟨w1.heap.size,8,none⟩)∉[w.heap.size+1,pb,mb]:=by simp;omega
 have hN11:(Addr.block ⟨w1.heap.size,9,none⟩)∉[w.heap.size+1,pb,mb]:=by simp;omega
 have K0:=hid hK0;clear hK0;go_region_held3 (λ w'=>w'.cell? (dD gp 3)=some (pP pb 0)/\w'.cell? (dD w.heap.size 3)=some (iI k2)/\w'.cell? (dD w1.heap.size 0)=some (iI 1)/\w'.cell? (dD w1.heap.size 1)=some (iI 1)/\w'.cell? (dD w1.heap.size 2)=some (iI f3)/\w'.cell? (dD w1.heap.size 3)=some (iI f4)/\w'.cell? (dD w1.heap.size 4)=some (.string f5)/\w'.cell? (dD w1.heap.size 5)=some (.bool f6)/\w'.cell? (dD w1.heap.size 6)=some (.bool false)/\w'.cell? (dD w1.heap.size 7)=some (iI f8)/\w'.cell? (dD w1.heap.size 8)=some (iI f9)/\w'.cell? (dD w1.heap.size 9)=some (iI f10)/\Upd [w.heap.size+1,pb,mb] w3 w') (first|with_reducible exact K0.o|with_reducible exact K6.o|with_reducible exact FC K6.o (Dz _ _ _ _ _ _ _ _ _ _ _ _ _ _ _ _ _ _ _ _ _) hN0 hN1 hN2 hN3 hN4 hN5 hN6 hN7 hN8 hN9 hN10 hN11) (first|(go_at_call 263;refine(HAd.o _ ((Ext.refl w3).drew)).mono ?_;rintro r w6 ⟨rfl,F6,U6⟩;have hT6:=U6.heap (show _=oC tZ 39 from((Ext.refl w3).drew).heap HT.o) hTn;obtain⟨t60,t61,t62,t63,t64,t65,t66,t67,t68,t69,t610,t611,t612,t613,t614,t615,t616,t617,rf6⟩:=A8 hT6;have hTl6:=lH hT6;have K6:=hid (FC K0.o (U6.mono hTS) hN0 hN1 hN2 hN3 hN4 hN5 hN6 hN7 hN8 hN9 hN10 hN11)))
 obtain⟨q1,q2⟩:=(HG3.o.fid HA.o).2.2 w6 _ F6 ((((Ext.refl w3).drew).upd _).trans U6);have HQ1:=hid q1;have HQ2:=hid ((Mv.of_ext HX3.o G).trans q2);refine Aa (R:=w.heap.size+1) (w0:=w6) (Pr:=λ W=>Exit.then _ _ _ _ W) _ (EF hT6) (Cd _ _ _ _ _ _ _ _ _ _ _ _ _ _ _ _ _ _ _ _) ?_;clear t60 t61 t62 t63 t64 t65 t66 t67 t68 t69 t610 t611 t612 t613 t614 t615 t616 t617 rf6 q1 q2;intro W hR hU;have hG':=(GS.loc HA.o).2 _ _ _ _ HQ1.o hU (λ b hb hm=>by simp at hm;subst hm;exact hTG hb);go_wp2_with fail;refine Ue (v:= .tuple #[.agg tZ,iI 0]) (AO (g:=w.heap.size+1) (cs:= tZ) rfl _ _ _ _ rfl hR underlying39 rfl iT rfl) rfl ⟨rfl,_,hG',HQ2.o.1.trans2 hU (λ i hi=> .inr (by simp at hi;omega)),HQ2.o.2⟩
end
section
variable {I:Option AE->Nat->World->List Nat->Prop} {sp fb room nodes gp pb mb n:Nat} {l:List (Int×FV)} {w:World} {G:List Nat}
theorem Tz (A:DJ sp fb room nodes I) (hf:Ay f) (hs:AP s) (hne:f.name≠s) (ha:a.fid=k/\a.nfid=k2) (hkk:k2≠k) (hN:w.cell? (dD ng no)=some (.string s)) (hnc:1<=nc/\nc<=maxLen) (h:GS I sp gp pb mb l (some f) n w G) (hn:n<100) (hk:Ah l k=some ⟨1,1,f3,f4,f5,f6,false,f8,f9,f10⟩) (hk2:Ah l k2=none) (hl:l.length<16):
  Calls prog 163 #[pP gp 0,a.val (sS ng no 1 nc) dv] w λ r w'=>r= .returned (.tuple #[.agg tZ,iI 9])/\∃G',GS I sp gp pb mb l (some f) (n+1) w' G'/\Mv w w' G G':=by
 have HG:=hid h;have HL:=hid ((GS.loc A.loc).1 _ _ h);have HA:=hid A.loc;have HSp:=hid (λ (W:World) (X:Ext w W)=>Kb (f3:=f3) (f4:=f4) (f5:=f5) (f6:=f6) (f7:=false) (f8:=f8) (f9:=f9) (f10:=f10) A hf hs hne (h.ext A.loc X) hn);have HFr:=hid (λ W (X:Ext w W)=>Cn pb mb 16 l k2 W ((h.ext A.loc X).fid A.loc).1 hk2 false (by simp;omega));have HK:=hid hk;have HN:=hid hN;have e2:(k2 !=k)=true:=by simp[hkk]
 simp only[QV.val,ha.1,ha.2];clear A h hn hk hk2 ha hl hf hs hN hne;go_in;go_upto_region 1 with fail;obtain⟨W0,hW0⟩:∃W,W=((w.alloc (.cells (aA a.typ a.tag k k2 a.otag a.msize a.mode a.perm a.off a.count a.name (sS ng no 1 nc) a.size dv) 43)).alloc (.cells tZ 39)):=⟨_,rfl⟩;rw[<-hW0];obtain⟨hA0,hT0,X0⟩:=AH w (.cells (aA a.typ a.tag k k2 a.otag a.msize a.mode a.perm a.off a.count a.name (sS ng no 1 nc) a.size dv) 43) (.cells tZ 39);rw[<-hW0] at hA0 hT0 X0;have hz0:w.heap.size+2<=W0.heap.size:=by rw[hW0];simp
 have HX0:=hid X0;have HA0:=hid hA0;have HT0:=hid hT0;have c2:W0.cell? (dD w.heap.size 2)=some (iI k):=cO hA0 2;have HCl:=hid (Cp (HX0.o.heap HG.o.gate) ((HG.o.ext HA.o HX0.o).fid HA.o).1 HK.o rfl);dsimp only[FV.val] at HCl;clear hW0 hA0 hT0 X0;go_wp2_with fail;refine HCl.o.mono ?_;rintro r w1 ⟨rfl,X1⟩;have HX1:=hid (HX0.o.trans X1);have HA1:=hid (X1.heap HA0.o);have HT1:=hid (X1.heap HT0.o);have hz1:=X1.size;clear X1 HCl c2;go_upto_region 4 with fail;obtain⟨W2,hW2⟩:∃W,W=w1.alloc (.cells (fR 1 1 f3 f4 f5 f6 false f8 f9 f10) 381):=⟨_,rfl⟩;rw[<-hW2];have XW2:Ext w1 W2:=by rw[hW2];exact(Ext.refl _).alloc _
 have bW2:W2.heap[w1.heap.size]?=oC (fR 1 1 f3 f4 f5 f6 false f8 f9 f10) 381:=by rw[hW2];exact Ub w1 _
 clear hW2;have HX2:=hid (HX1.o.trans XW2);have HA2:=hid (XW2.heap HA1.o);have HT2:=hid (XW2.heap HT1.o);have HF2:=hid bW2;have hz2:=lH bW2;have c2:W2.cell? (dD w.heap.size 2)=some (iI k):=cO HA2.o 2;have c3:W2.cell? (dD w.heap.size 3)=some (iI k2):=cO HA2.o 3;have g3:W2.cell? (dD gp 3)=some (pP pb 0):=cO (HX2.o.heap HG.o.gate) 3;have hal2:=lH HA2.o;clear XW2 bW2;go_upto_region 5 with fail;go_cut [8] (λ q8 wx=>q8= iI 0/\Ext W2 wx)
 case first=>
  go_region_with (go_at_call 260;refine(HFr.o _ (HX2.o.trans (dE _))).mono ?_;rintro r w3 ⟨rfl,X3⟩)
  all_goals
   go_wp2_with fail;go_meet
   case rel=>exact⟨rfl,(dE _).trans X3⟩
 case rest=>
 obtain⟨rfl,X3⟩:=hcut;obtain⟨w3,hw3⟩:∃w3,w3=wc:=⟨_,rfl⟩;rw[<-hw3] at X3|-
 clear hw3 c2 c3 g3;have HX3:=hid (HX2.o.trans X3);have HA3:=hid (X3.heap HA2.o);have HT3:=hid (X3.heap HT2.o);have HF3:=hid (X3.heap HF2.o);have hz3:=X3.size;have c2:w3.cell? (dD w.heap.size 2)=some (iI k):=cO HA3.o 2;have c3:w3.cell? (dD w.heap.size 3)=some (iI k2):=cO HA3.o 3;have c11:w3.cell? (dD w.heap.size 11)=some (sS ng no 1 nc):=cO HA3.o 11;have hal3:=lH HA3.o;have HSp3:=hid (HSp.o w3 HX3.o);have n1:w3.cell? (dD ng no)=some (.string s):=HX3.o.cell HN.o;obtain⟨y0,y1,y2,y3,y4,y5,y6,y7,y8,y9,-⟩:=AC HF3.o;have hfl3:=lH HF3.o;have hlow:∀i,w.heap.size<=i->i∉G:=λ i hi hm=>by have:=HL.o _ hm;omega
 clear X3 HFr HSp hnc;go_wp2_with fail;go_loopw [9,45] (λ v9 v wr=>v9= nN/\v= iI 0/\w3=wr) (λ _ _ _=>0)
 case atStart=>exact⟨rfl,rfl,rfl⟩
 case round=>
  obtain⟨rfl,rfl,hwr⟩:=hrel;subst hwr;go_wp2_with fail;refine HSp3.o.mono ?_;rintro r w4 ⟨rfl,G4,hG4,M4⟩;have HG4:=hid hG4;have HT4:=hid (M4.1.heap HT3.o (hlow _ (by omega)));have HM4:=hid ((Mv.of_ext HX3.o G).trans M4);have hTG:w.heap.size+1∉G4:=λ hm=>by rcases M4.2 _ hm with q|q;exact hlow _ (by omega) q;omega
  clear hG4 M4 y0 y1 y2 y3 y4 y5 y6 y7 y8 y9 n1 c2 c3 c11;go_upto_region 14 with fail;obtain⟨W5,hW5⟩:∃W,W=((w4.alloc (.cells fZ 381)).alloc (.cells #[.bool false,iI 0,iI 0] 34)):=⟨_,rfl⟩;rw[<-hW5];obtain⟨hD5,hQ5,X5⟩:=AH w4 (.cells fZ 381) (.cells #[.bool false,iI 0,iI 0] 34);rw[<-hW5] at hD5 hQ5 X5;have HG5:=hid (HG4.o.ext HA.o X5);have HT5:=hid (X5.heap HT4.o);have HM5:=hid (HM4.o.ext X5);clear hW5 hD5 hQ5 X5;obtain⟨t0,t1,t2,t3,t4,t5,t6,t7,t8,t9,t10,t11,t12,t13,t14,t15,t16,t17,tf⟩:=A8 (show W5.heap[w.heap.size+1]?=oC tZ 39 from HT5.o);go_wp2_with fail;refine Aa (R:=w.heap.size+1) (w0:=W5) (Pr:=λ W=>bodyPost _ _ _ _ _ W) _ (EF (show W5.heap[w.heap.size+1]?=oC tZ 39 from HT5.o)) (Cd _ _ _ _ _ _ _ _ _ _ _ _ _ _ _ _ _ _ _ _) ?_
  clear t0 t1 t2 t3 t4 t5 t6 t7 t8 t9 t10 t11 t12 t13 t14 t15 t16 t17 tf;intro W hR hU;have hG':=(GS.loc HA.o).2 _ _ _ _ HG5.o hU (λ b hb hm=>by simp at hm;subst hm;exact hTG hb);exact Ue (v:= .tuple #[.agg tZ,iI 9]) (AO (g:=w.heap.size+1) (cs:= tZ) rfl _ _ _ _ rfl hR underlying39 rfl iT rfl) rfl ⟨rfl,_,hG',HM5.o.1.trans2 hU (λ i hi=> .inr (by simp at hi;omega)),HM5.o.2⟩
theorem T0 (A:DJ sp fb room nodes I) (hf:Ay f) (hs:AP f.name) (hsf:s=f.name) (ha:a.fid=k/\a.nfid=k2) (hkk:k2≠k) (hN:w.cell? (dD ng no)=some (.string s)) (hnc:1<=nc/\nc<=maxLen) (h:GS I sp gp pb mb l (some f) n w G) (hn:n<100) (hk:Ah l k=some ⟨1,1,f3,f4,f5,f6,false,f8,f9,f10⟩) (hk2:Ah l k2=none) (hl:l.length<16):
  Calls prog 163 #[pP gp 0,a.val (sS ng no 1 nc) dv] w λ r w'=>∃qg qc,r= .returned (.tuple #[.agg (tT 0 0 0 0 0 false 0 0 (sS qg 0 1 qc) (nN)),iI 0])/\SlQ w' (sS qg 0 1 qc) (some ⟨false,1,2⟩)/\w.heap.size<=qg/\qg<w'.heap.size/\∃G',GS I sp gp pb mb (l++[(k2,⟨2,1,1,1,s,false,false,0,0,0⟩)]) (some f) (n+1) w' G'/\Mv w w' G G':=by
 have HG:=hid h;have HL:=hid ((GS.loc A.loc).1 _ _ h);have HA:=hid A.loc;have hgl:=lH h.gate;have hpl:=lH (h.fid A.loc).1.ptr;have hml:=(h.fid A.loc).1.map.lt;have HSp:=hid (λ (W:World) (X:Ext w W)=>Ml (f3:=f3) (f4:=f4) (f5:=f5) (f6:=f6) (f7:=false) (f8:=f8) (f9:=f9) (f10:=f10) A hf hs hsf (h.ext A.loc X) hn);have HFr:=hid (λ W (X:Ext w W)=>Cn pb mb 16 l k2 W ((h.ext A.loc X).fid A.loc).1 hk2 false (by simp;omega));have HK:=hid hk;have HK2:=hid hk2;have HLn:=hid hl;have HN:=hid hN;have e1:(k2==k)=false:=by simp[hkk]
 have e2:(k2 !=k)=true:=by simp[hkk]
 simp only[QV.val,ha.1,ha.2];clear A h hn hk hk2 ha hl hf hs hN hsf;go_in;go_upto_region 1 with fail;obtain⟨W0,hW0⟩:∃W,W=((w.alloc (.cells (aA a.typ a.tag k k2 a.otag a.msize a.mode a.perm a.off a.count a.name (sS ng no 1 nc) a.size dv) 43)).alloc (.cells tZ 39)):=⟨_,rfl⟩;rw[<-hW0];obtain⟨hA0,hT0,X0⟩:=AH w (.cells (aA a.typ a.tag k k2 a.otag a.msize a.mode a.perm a.off a.count a.name (sS ng no 1 nc) a.size dv) 43) (.cells tZ 39);rw[<-hW0] at hA0 hT0 X0;have hz0:w.heap.size+2<=W0.heap.size:=by rw[hW0];simp
 have HX0:=hid X0;have HA0:=hid hA0;have HT0:=hid hT0;have c2:W0.cell? (dD w.heap.size 2)=some (iI k):=cO hA0 2;have HCl:=hid (Cp (HX0.o.heap HG.o.gate) ((HG.o.ext HA.o HX0.o).fid HA.o).1 HK.o rfl);dsimp only[FV.val] at HCl;clear hW0 hA0 hT0 X0;go_wp2_with fail;refine HCl.o.mono ?_;rintro r w1 ⟨rfl,X1⟩;have HX1:=hid (HX0.o.trans X1);have HA1:=hid (X1.heap HA0.o);have HT1:=hid (X1.heap HT0.o);have hz1:=X1.size;clear X1 HCl c2;go_upto_region 4 with fail;obtain⟨W2,hW2⟩:∃W,W=w1.alloc (.cells (fR 1 1 f3 f4 f5 f6 false f8 f9 f10) 381):=⟨_,rfl⟩;rw[<-hW2];have XW2:Ext w1 W2:=by rw[hW2];exact(Ext.refl _).alloc _
 have bW2:W2.heap[w1.heap.size]?=oC (fR 1 1 f3 f4 f5 f6 false f8 f9 f10) 381:=by rw[hW2];exact Ub w1 _
 clear hW2;have HX2:=hid (HX1.o.trans XW2);have HA2:=hid (XW2.heap HA1.o);have HT2:=hid (XW2.heap HT1.o);have HF2:=hid bW2;have hz2:=lH bW2;have c2:W2.cell? (dD w.heap.size 2)=some (iI k):=cO HA2.o 2;have c3:W2.cell? (dD w.heap.size 3)=some (iI k2):=cO HA2.o 3;have g3:W2.cell? (dD gp 3)=some (pP pb 0):=cO (HX2.o.heap HG.o.gate) 3;have hal2:=lH HA2.o;clear XW2 bW2;go_upto_region 5 with fail;go_cut [8] (λ q8 wx=>q8= iI 0/\Ext W2 wx)
 case first=>
  go_region_with (go_at_call 260;refine(HFr.o _ (HX2.o.trans (dE _))).mono ?_;rintro r w3 ⟨rfl,X3⟩)
  all_goals
   go_wp2_with fail;go_meet
   case rel=>exact⟨rfl,(dE _).trans X3⟩
 case rest=>
 obtain⟨rfl,X3⟩:=hcut;obtain⟨w3,hw3⟩:∃w3,w3=wc:=⟨_,rfl⟩;rw[<-hw3] at X3|-
 clear hw3 c2 c3 g3;have HX3:=hid (HX2.o.trans X3);have HA3:=hid (X3.heap HA2.o);have HT3:=hid (X3.heap HT2.o);have HF3:=hid (X3.heap HF2.o);have hz3:=X3.size;have c2:w3.cell? (dD w.heap.size 2)=some (iI k):=cO HA3.o 2;have c3:w3.cell? (dD w.heap.size 3)=some (iI k2):=cO HA3.o 3;have c11:w3.cell? (dD w.heap.size 11)=some (sS ng no 1 nc):=cO HA3.o 11;have hal3:=lH HA3.o;have HSp3:=hid (HSp.o w3 HX3.o);have n1:w3.cell? (dD ng no)=some (.string s):=HX3.o.cell HN.o;obtain⟨y0,y1,y2,y3,y4,y5,y6,y7,y8,y9,-⟩:=AC HF3.o;have hfl3:=lH HF3.o;have hlow:∀i,w.heap.size<=i->i∉G:=λ i hi hm=>by have:=HL.o _ hm;omega
 clear X3 HFr HSp hnc;go_wp2_with fail;go_loopw [9,45] (λ v9 v wr=>(v9= nN/\v= iI 0/\w3=wr)\/(∃qg qc G4,v9= sS qg 0 1 qc/\v= iI 1/\SlQ wr (sS qg 0 1 qc) (some ⟨false,1,2⟩)/\w3.heap.size<=qg/\qg<wr.heap.size/\GS I sp gp pb mb l (some f) (n+1) wr G4/\Mv w wr G G4/\wr.heap[w.heap.size+1]?=oC tZ 39/\wr.heap[w.heap.size]?=oC (aA a.typ a.tag k k2 a.otag a.msize a.mode a.perm a.off a.count a.name (sS ng no 1 nc) a.size dv) 43/\wr.heap[w1.heap.size]?=oC (fR 2 1 1 1 s false false 0 0 0) 381/\w.heap.size+1∉G4)) (λ _ v _=>2-(intOf v).toNat)
 case atStart=>exact .inl ⟨rfl,rfl,rfl⟩
 case round=>
 rcases hrel with⟨rfl,rfl,hwr⟩|⟨qg,qc,G4,rfl,rfl,hQ,hq1,hq2,hG4,hM4,hT4,hA4,hF4,hTG⟩
 ·subst hwr;go_wp2_with fail;refine HSp3.o.mono ?_;rintro r w4 ⟨rfl,G4,hG4,M4⟩;have HG4:=hid hG4;have HT4:=hid (M4.1.heap HT3.o (hlow _ (by omega)));have HA4:=hid (M4.1.heap HA3.o (hlow _ (by omega)));have HF4:=hid (M4.1.heap HF3.o (hlow _ (by omega)));have HM4:=hid ((Mv.of_ext HX3.o G).trans M4);have hTG:w.heap.size+1∉G4:=λ hm=>by rcases M4.2 _ hm with q|q;exact hlow _ (by omega) q;omega
  have hFG:w1.heap.size∉G4:=λ hm=>by rcases M4.2 _ hm with q|q;exact hlow _ (by omega) q;omega
  have hz4:=M4.size;clear hG4 M4 y0 y1 y2 y3 y4 y5 y6 y7 y8 y9 n1 c2 c3 c11;go_upto_region 17 with fail;obtain⟨W5,hW5⟩:∃W,W=((w4.alloc (.cells (fR 2 1 1 1 s false false 0 0 0) 381)).alloc (.cells #[.bool false,iI 1,iI 2] 34)):=⟨_,rfl⟩;rw[<-hW5];obtain⟨hD5,hQ5,X5⟩:=AH w4 (.cells (fR 2 1 1 1 s false false 0 0 0) 381) (.cells #[.bool false,iI 1,iI 2] 34);rw[<-hW5] at hD5 hQ5 X5;have HX5:=hid X5;have HG5:=hid (HG4.o.ext HA.o X5);have HT5:=hid (X5.heap HT4.o);have HM5:=hid (HM4.o.ext X5);have HA5:=hid (X5.heap HA4.o);have HF5:=hid (X5.heap HF4.o);have HQ5:=hid hQ5;obtain⟨s0,s1,s2,s3,s4,s5,s6,s7,s8,s9,-⟩:=AC hD5;obtain⟨r0,r1,r2,r3,r4,r5,r6,r7,r8,r9,rf⟩:=AC (show W5.heap[w1.heap.size]?=oC (fR 1 1 f3 f4 f5 f6 false f8 f9 f10) 381 from HF5.o);clear hW5 hD5 hQ5 X5;go_upto_region 18 with fail;refine Aa (R:=w1.heap.size) (w0:=W5) (Pr:=λ W=>Code.wp _ _ _ _ W) _ (Ao (show W5.heap[w1.heap.size]?=oC (fR 1 1 f3 f4 f5 f6 false f8 f9 f10) 381 from HF5.o)) (AX _ _ _ _ _ _ _ _ _ _ _ _) ?_;clear r0 r1 r2 r3 r4 r5 r6 r7 r8 r9 rf s0 s1 s2 s3 s4 s5 s6 s7 s8 s9;intro W6 hR hU
  have hq6:=hU.heap HQ5.o (by simp;omega);obtain⟨q0,q1,q2,-⟩:=BZ hq6;have hql6:=lH hq6;obtain⟨qc,w7,hrun,hSl,hX7,hl7⟩:=LF W6 ⟨false,1,2⟩ 35;have HRun:=hid hrun;have hG6:=(GS.loc HA.o).2 _ _ _ _ HG5.o hU (λ b hb hm=>by simp at hm;subst hm;exact hFG hb);have HRel:=hid (show SlQ w7 (sS (W6.heap.size+1) 0 1 qc) (some ⟨false,1,2⟩)/\w3.heap.size<=W6.heap.size+1/\W6.heap.size+1<w7.heap.size/\GS I sp gp pb mb l (some f) (n+1) w7 G4/\Mv w w7 G G4/\w7.heap[w.heap.size+1]?=oC tZ 39/\w7.heap[w.heap.size]?=oC (aA a.typ a.tag k k2 a.otag a.msize a.mode a.perm a.off a.count a.name (sS ng no 1 nc) a.size dv) 43/\w7.heap[w1.heap.size]?=oC (fR 2 1 1 1 s false false 0 0 0) 381/\w.heap.size+1∉G4 from
   ⟨hSl,by have:=hU.size;have:=HX5.o.size;omega,hl7,hG6.ext HA.o hX7,Mv.ext ⟨HM5.o.1.trans2 hU (λ i hi=> .inr (by simp at hi;omega)),HM5.o.2⟩ hX7,hX7.heap (hU.heap HT5.o (by simp;omega)),hX7.heap (hU.heap HA5.o (by simp;omega)),hX7.heap hR,hTG⟩)
  clear hR hU hq6 hrun hSl hX7 hl7 hG6;go_wp2_with (at_builtin;refine jA rfl (.tmp 71) (.tmp 73) _ rfl _ _ _ rfl rfl HRun.o ?_);go_roundw
  case rel=>exact .inr ⟨_,_,G4,rfl,rfl,HRel.o⟩
  case measure=>simp[intOf]
 ·have HG4:=hid hG4;have HM4:=hid hM4;have HT:=hid hT4;have HA4:=hid hA4;have HF4:=hid hF4;have HQ:=hid hQ;obtain⟨W4,hW4⟩:∃W4,W4=wr:=⟨_,rfl⟩;rw[<-hW4] at HG4 HM4 HT HA4 HF4 HQ hq2|-
  clear hG4 hM4 hT4 hA4 hF4 hQ hW4 c2 c3 c11 y0 y1 y2 y3 y4 y5 y6 y7 y8 y9 n1;have c2:W4.cell? (dD w.heap.size 2)=some (iI k):=cO HA4.o 2;have c3:W4.cell? (dD w.heap.size 3)=some (iI k2):=cO HA4.o 3;have HAd:=hid (λ W (X:Ext W4 W)=>add_ok pb mb 16 l k2 W ⟨2,1,1,1,s,false,false,0,0,0⟩ ((HG4.o.ext HA.o X).fid HA.o).1 HK2.o (by have:=HLn.o;omega));simp only[FV.val] at HAd;have hTn:w.heap.size+1∉[pb,mb]:=by simp;omega
  have hgp:=HG4.o.gpn;have hpl4:pb<w1.heap.size:=by omega
  go_wp2_with fail;clear c2 c3;have hTS:∀b∈[pb,mb],b∈[w.heap.size+1,pb,mb]:=by simp
  have hK0:(World.drew W4).cell? (dD gp 3)=some (pP pb 0)/\(World.drew W4).cell? (dD w.heap.size 3)=some (iI k2)/\(World.drew W4).cell? (dD w1.heap.size 0)=some (iI 2)/\(World.drew W4).cell? (dD w1.heap.size 1)=some (iI 1)/\(World.drew W4).cell? (dD w1.heap.size 2)=some (iI 1)/\(World.drew W4).cell? (dD w1.heap.size 3)=some (iI 1)/\(World.drew W4).cell? (dD w1.heap.size 4)=some (.string s)/\(World.drew W4).cell? (dD w1.heap.size 5)=some (.bool false)/\(World.drew W4).cell? (dD w1.heap.size 6)=some (.bool false)/\(World.drew W4).cell? (dD w1.heap.size 7)=some (iI 0)/\(World.drew W4).cell? (dD w1.heap.size 8)=some (iI 0)/\(World.drew W4).cell? (dD w1.heap.size 9)=some (iI 0)/\Upd [w.heap.size+1,pb,mb] W4 (World.drew W4):=⟨cO (GS.gate HG4.o) 3,cO HA4.o 3,cO HF4.o 0,cO HF4.o 1,cO HF4.o 2,cO HF4.o 3,cO HF4.o 4,cO HF4.o 5,cO HF4.o 6,cO HF4.o 7,cO HF4.o 8,cO HF4.o 9,((Ext.refl W4).drew.upd _)⟩;have hN0:(Addr.block ⟨gp,3,none⟩)∉[w.heap.size+1,pb,mb]:=by simp;omega
  have hN1:(Addr.block ⟨w.heap.size,3,none⟩)∉[w.heap.size+1,pb,mb]:=by simp;omega
  have hN2:(Addr.block ⟨w1.heap.size,0,none⟩)∉[w.heap.size+1,pb,mb]:=by simp;omega
  have hN3:(Addr.block ⟨w1.heap.size,1,none⟩)∉[w.heap.size+1,pb,mb]:=by simp;omega
  have hN4:(Addr.block ⟨w1.heap.size,2,none⟩)∉[w.heap.size+1,pb,mb]:=by simp;omega
  have hN5:(Addr.block ⟨w1.heap.size,3,none⟩)∉[w.heap.size+1,pb,mb]:=by simp;omega
  have hN6:(Addr.block ⟨w1.heap.size,4,none⟩)∉[w.heap.size+1,pb,mb]:=by simp;omega
  have hN7:(Addr.block ⟨w1.heap.size,5,none⟩)∉[w.heap.size+1,pb,mb]:=by simp;omega
  have hN8:(Addr.block ⟨w1.heap.size,6,none⟩)∉[w.heap.size+1,pb,mb]:=by simp;omega
  have hN9:(Addr.block ⟨w1.heap.size,7,none⟩)∉[w.heap.size+1,pb,mb]:=by simp;omega
  have hN10:(Addr.block ⟨w1.heap.size,8,none⟩)∉[w.heap.size+1,pb,mb]:=by simp;omega
  have hN11:(Addr.block ⟨w1.heap.size,9,none⟩)∉[w.heap.size+1,pb,mb]:=by simp;omega
  have K0:=hid hK0;clear hK0;go_region_held3 (λ w'=>w'.cell? (dD gp 3)=some (pP pb 0)/\w'.cell? (dD w.heap.size 3)=some (iI k2)/\w'.cell? (dD w1.heap.size 0)=some (iI 2)/\w'.cell? (dD w1.heap.size 1)=some (iI 1)/\w'.cell? (dD w1.heap.size 2)=some (iI 1)/\w'.cell? (dD w1.heap.size 3)=some (iI 1)/\w'.cell? (dD w1.heap.size 4)=some (.string s)/\w'.cell? (dD w1.heap.size 5)=some (.bool false)/\w'.cell? (dD w1.heap.size 6)=some (.bool false)/\w'.cell? (dD w1.heap.size 7)=some (iI 0)/\w'.cell? (dD w1.heap.size 8)=some (iI 0)/\w'.cell? (dD w1.heap.size 9)=some (iI 0)/\Upd [w.heap.size+1,pb,mb] W4 w') (first|with_reducible exact K0.o|with_reducible exact K6.o|with_reducible exact FC K6.o (Dz _ _ _ _ _ _ _ _ _ _ _ _ _ _ _ _ _ _ _ _ _) hN0 hN1 hN2 hN3 hN4 hN5 hN6 hN7 hN8 hN9 hN10 hN11) (first|(go_at_call 263;refine(HAd.o _ ((Ext.refl W4).drew)).mono ?_;rintro r w6 ⟨rfl,F6,U6⟩;have hT6:=U6.heap (show _=oC tZ 39 from((Ext.refl W4).drew).heap HT.o) hTn;obtain⟨t60,t61,t62,t63,t64,t65,t66,t67,t68,t69,t610,t611,t612,t613,t614,t615,t616,t617,rf6⟩:=A8 hT6;have hTl6:=lH hT6;have K6:=hid (FC K0.o (U6.mono hTS) hN0 hN1 hN2 hN3 hN4 hN5 hN6 hN7 hN8 hN9 hN10 hN11)))
  obtain⟨q1,q2⟩:=(HG4.o.fid HA.o).2.2 w6 _ F6 ((((Ext.refl W4).drew).upd _).trans U6);have HQ1:=hid q1;have HQ2:=hid (HM4.o.trans q2);refine Aa (R:=w.heap.size+1) (w0:=w6) (Pr:=λ W=>Exit.then _ _ _ _ W) _ (EF hT6) (Cd _ _ _ _ _ _ _ _ _ _ _ _ _ _ _ _ _ _ _ _) ?_;clear t60 t61 t62 t63 t64 t65 t66 t67 t68 t69 t610 t611 t612 t613 t614 t615 t616 t617 rf6 q1 q2;intro W hR hU;have hG':=(GS.loc HA.o).2 _ _ _ _ HQ1.o hU (λ b hb hm=>by simp at hm;subst hm;exact hTG hb);go_wp2_with fail;refine Ue (v:= .tuple #[.agg (tT 0 0 0 0 0 false 0 0 (sS qg 0 1 qc) (nN)),iI 0]) (AO (g:=w.heap.size+1) (cs:= (tT 0 0 0 0 0 false 0 0 (sS qg 0 1 qc) (nN))) rfl _ _ _ _ rfl hR underlying39 rfl iT rfl) rfl ⟨qg,qc,rfl,?_,by omega,by have:=hU.size;have:=U6.size;have:W4.heap.size<=w6.heap.size:=this;omega,_,hG',HQ2.o.1.trans2 hU (λ i hi=> .inr (by simp at hi;omega)),HQ2.o.2⟩;obtain⟨g',o',c',e',h1,h2,h3,h4,h5⟩:=HQ.o;have hu6:Upd [pb,mb] W4 w6:=((Ext.refl W4).drew.upd _).trans U6;injection e' with e1' e2' e3';injection e1' with e1';injection e1' with e1' e4' e5';subst e1' e4' e3'
  exact⟨_,_,_,rfl,h1,h2,hU.cell (hu6.cell h3 (by simp;omega)) (by simp;omega),hU.cell (hu6.cell h4 (by simp;omega)) (by simp;omega),hU.cell (hu6.cell h5 (by simp;omega)) (by simp;omega)⟩
end
section
variable {I:Option AE->Nat->World->List Nat->Prop} {sp fb room nodes gp pb mb n:Nat} {l:List (Int×FV)} {w:World} {G:List Nat}
theorem Tx (A:DJ sp fb room nodes I) (hfr:f.fresh=true) (hf:Ay f) {o:Nat} {ds:List Int} (hlm:o+ds.length<=1000) (hr:o+ds.length<=room) (hrm:room<=100000) {nv:Value} {mo:Int} (hmo:mo=1\/mo=2) (ha:a.fid=k/\a.off=o) (hd:Sl w dv ds) (hdb:∀g,dv.ownBlock=some g->g<w.heap.size) (h:GS I sp gp pb mb l (some f) n w G) (hn:n<100) (hk:Ah l k=some ⟨2,1,f3,f4,f5,f6,true,mo,f9,f10⟩):
  Calls prog 167 #[pP gp 0,a.val nv dv] w λ r w'=>r= .returned (.tuple #[.agg (tT 0 0 0 0 (ds.length:Int) false 0 0 (nN) (nN)),iI 0])/\∃G',GS I sp gp pb mb l (some {f with zs:=wrote o ds,fresh:=false}) (n+1) w' G'/\Mv w w' G G':=by
 have HG:=hid h;have HL:=hid ((GS.loc A.loc).1 _ _ h);have HA:=hid A.loc;have hWf:=hd.wf;have HAs:=hid (λ W (X:Ext w W) d (h1:Sl W d ds) h2=>Bc A (Mz hfr hf hWf (by omega) hr hrm (by have:=GR o ds;omega)) (h.ext A.loc X) hn h1 h2);have HGt:=hid (λ W (X:Ext w W)=>get_ok pb mb 16 l k W ((h.ext A.loc X).fid A.loc).1 hk);have HWr:=hid (λ W=>QN hmo W);have HWf:=hid hWf;obtain⟨da,dc,rfl,q1,q2⟩:=hd;have HCn:=hid (λ W (X:Ext w W)=>Ar da _ dc ds (by omega) W (q1.ext X) q2.nil0);have hlc:=q1.2.1;simp only[QV.val,ha.1,ha.2];simp only[AV.val,RV.val,List.length_nil,FV.val] at HAs HGt;obtain⟨md,hmd⟩:∃x:Int,x=f.md:=⟨_,rfl⟩;obtain⟨sz,hsz⟩:∃x:Int,x=((wrote o ds).length:Int):=⟨_,rfl⟩;rw[<-hmd,<-hsz] at HAs;obtain⟨dk,hdk⟩:∃x:Nat,x=ds.length:=⟨_,rfl⟩;rw[<-hdk] at HAs HCn hlm hlc|-
 have HDk:=hid hdk;have HMd:=hid hmd;have hdk1:dk<=1000:=by omega
 clear A h hn hk ha hf hmo hmd hsz hWf q1 q2 hdk hfr hr hrm hlm;go_in;go_upto_region 1 with fail;obtain⟨W0,hW0⟩:∃W,W=((w.alloc (.cells (aA a.typ a.tag k a.nfid a.otag a.msize a.mode a.perm (o:Int) a.count a.name nv a.size (.slice da dk dc)) 43)).alloc (.cells tZ 39)):=⟨_,rfl⟩;rw[<-hW0];obtain⟨hA0,hT0,X0⟩:=AH w (.cells (aA a.typ a.tag k a.nfid a.otag a.msize a.mode a.perm (o:Int) a.count a.name nv a.size (.slice da dk dc)) 43) (.cells tZ 39);rw[<-hW0] at hA0 hT0 X0;have hz0:w.heap.size+2<=W0.heap.size:=by rw[hW0];simp
 have HX0:=hid X0;have HA0:=hid hA0;have HT0:=hid hT0;have c2:W0.cell? (dD w.heap.size 2)=some (iI k):=cO hA0 2;have g3:W0.cell? (dD gp 3)=some (pP pb 0):=cO (HX0.o.heap HG.o.gate) 3;have hal0:=lH hA0;have hgl0:=lH (HX0.o.heap HG.o.gate);clear hW0 hA0 hT0 X0;go_wp2_with fail;go_cut [6,7] (λ q6 q7 wx=>∃g6,q6= pP g6 0/\q7= iI 0/\W0.heap.size<=g6/\wx.heap[g6]?=oC (fR 2 1 f3 f4 f5 f6 true mo f9 f10) 381/\Ext W0 wx)
 case first=>
  go_region_with (go_at_call 272;first|(refine(HGt.o (World.alloc (World.drew W0) _) (HX0.o.trans ((dE _).alloc _))).mono ?_;rintro r w1 ⟨rfl,X1⟩;have hB:=X1.heap (Ub (World.drew W0) (.cells FV.zero.cells 381));have hB2:w1.heap[W0.heap.size]?=oC fZ 381:=hB;obtain⟨r0,r1,r2,r3,r4,r5,r6,r7,r8,r9,rf⟩:=AC hB2;have hl1:=lH hB2)|(refine(HGt.o _ (HX0.o.trans (dE _))).mono ?_;rintro r w1 ⟨rfl,X1⟩))
  all_goals
   go_wp2_with fail;go_meet
   case rel=>first|exact⟨_,rfl,rfl,X1.size,Ub w1 _,((dE W0).trans X1).alloc _⟩|exact⟨_,rfl,rfl,Uf _,Ao hB2,Upd.ext (AX _ _ _ _ _ _ _ _ _ _ _ _) (((dE W0).alloc _).trans X1) (by simp)⟩
 case rest=>
 obtain⟨g6,rfl,rfl,hg6,hF2,X2⟩:=hcut;obtain⟨W2,hW2⟩:∃W2,W2=wc:=⟨_,rfl⟩;rw[<-hW2] at hF2 X2|-
 clear c2 g3 HGt;have HX2:=hid (HX0.o.trans X2);have HA2:=hid (X2.heap HA0.o);have HT2:=hid (X2.heap HT0.o);have HF2:=hid hF2;have hz2:=lH hF2;clear hF2 X2 hW2;have f6:W2.cell? (dD g6 6)=some (.bool true):=cO HF2.o 6;have f7:W2.cell? (dD g6 7)=some (iI mo):=cO HF2.o 7;have c13:W2.cell? (dD w.heap.size 13)=some (.slice da dk dc):=cO HA2.o 13;have hal2:=lH HA2.o;have HRm:=hid (λ W (X:Ext w W)=>LW (X.heap HG.o.gate));go_upto_region 6 with(go_at_call 275;refine(HWr.o _).mono ?_;rintro r wq ⟨rfl,rfl⟩);go_cut [8] (λ q8 wx=>∃W5,Ext W2 W5/\AA wx W5.heap.size 5 q8 (bv ds)/\Ext W5 wx)
 case first=>
  have em:min (dk:Int) 1000=dk:=by omega
  go_region_with (first|(go_at_call 269;refine(HRm.o _ (HX2.o.trans (dE _))).mono ?_;rintro r w7 ⟨rfl,rfl⟩)|(go_at_call 96;refine(HCn.o _ (HX2.o.trans (dE _))).mono ?_;rintro r w7 ⟨d2,rfl,O7,X7⟩))
  all_goals
   go_wp2_with fail;go_meet
   case rel=>exact⟨_,dE _,O7,X7⟩
 case rest=>
 obtain⟨W5,X5,O5,X5'⟩:=hcut;obtain⟨W6,hW6⟩:∃W6,W6=wc:=⟨_,rfl⟩;rw[<-hW6] at O5 X5'|-
 have hb5:=λ g hg=>(O5.lt (g:=g) hg).2
 have hs6:=O5.sl HWf.o;have HX6:=hid (HX2.o.trans (X5.trans X5'));have HAs6:=hid (HAs.o W6 HX6.o _ hs6 hb5);have HA6:=hid ((X5.trans X5').heap HA2.o);have HT6:=hid ((X5.trans X5').heap HT2.o);have HF6:=hid ((X5.trans X5').heap HF2.o);obtain⟨va8,vc8,rfl,-,-⟩:=hs6;have hz6:=(X5.trans X5').size;clear X5 O5 X5' hb5 HAs hW6 c13 f6 f7;have f0:W6.cell? (dD g6 0)=some (iI 2):=cO HF6.o 0;have f1:W6.cell? (dD g6 1)=some (iI 1):=cO HF6.o 1;have c8:W6.cell? (dD w.heap.size 8)=some (iI (o:Int)):=cO HA6.o 8;have hal6:=lH HA6.o;go_wp2_with fail;refine HAs6.o.mono ?_;rintro r w7 ⟨v,rfl,O7,G7,hG7,M7⟩;obtain⟨va,vc,rfl,-,-⟩:=O7.sl Wf.nil;have hT7:w.heap.size+1∉G:=λ hm=>by have:=HL.o _ hm;omega
 have HT7:=hid (M7.1.heap HT6.o hT7);have HG7:=hid hG7;have HM7:=hid ((Mv.of_ext HX6.o G).trans M7);have hTG:w.heap.size+1∉G7:=λ hm=>by rcases M7.2 _ hm with q|q;exact hT7 q;omega
 clear O7 hG7 M7 f0 f1 c8 HAs6 hT7;go_upto_region 10 with fail;obtain⟨W8,hW8⟩:∃W,W=w7.alloc (.cells (rR 0 2 1 2 md sz (.slice va 0 vc) (dk:Int) false (nN)) 142):=⟨_,rfl⟩;rw[<-hW8];have XW8:Ext w7 W8:=by rw[hW8];exact(Ext.refl _).alloc _
 have bW8:W8.heap[w7.heap.size]?=oC (rR 0 2 1 2 md sz (.slice va 0 vc) (dk:Int) false (nN)) 142:=by rw[hW8];exact Ub w7 _
 clear hW8;have HG8:=hid (HG7.o.ext HA.o XW8);have HT8:=hid (XW8.heap HT7.o);have HM8:=hid (HM7.o.ext XW8);have s7:W8.cell? (dD w7.heap.size 7)=some (iI (dk:Int)):=cO bW8 7;obtain⟨t0,t1,t2,t3,t4,t5,t6,t7,t8,t9,t10,t11,t12,t13,t14,t15,t16,t17,tf⟩:=A8 (show W8.heap[w.heap.size+1]?=oC tZ 39 from HT8.o);clear XW8 bW8;go_wp2_with fail;refine Aa (R:=w.heap.size+1) (w0:=W8) (Pr:=λ W=>bodyPost _ _ _ _ _ W) _ (EF (show W8.heap[w.heap.size+1]?=oC tZ 39 from HT8.o)) (Cd _ _ _ _ _ _ _ _ _ _ _ _ _ _ _ _ _ _ _ _) ?_;clear t0 t1 t2 t3 t4 t5 t6 t7 t8 t9 t10 t11 t12 t13 t14 t15 t16 t17 tf s7;intro W hR hU;have hG':=(GS.loc HA.o).2 _ _ _ _ HG8.o hU (λ b hb hm=>by simp at hm;subst hm;exact hTG hb);rw[HDk.o] at hR|-
 rw[HMd.o] at hG';exact Ue (v:= .tuple #[.agg (tT 0 0 0 0 (ds.length:Int) false 0 0 (nN) (nN)),iI 0]) (AO (g:=w.heap.size+1) (cs:= (tT 0 0 0 0 (ds.length:Int) false 0 0 (nN) (nN))) rfl _ _ _ _ rfl hR underlying39 rfl iT rfl) rfl ⟨rfl,_,hG',HM8.o.1.trans2 hU (λ i hi=> .inr (by simp at hi;omega)),HM8.o.2⟩
end
end Go.Proofs.YtdakioiagpkfhaaGreatDoor
