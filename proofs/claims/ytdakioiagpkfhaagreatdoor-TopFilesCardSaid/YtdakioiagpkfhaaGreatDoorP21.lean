import Derived.Test.YtdakioiagpkfhaaGreatDoorP20
import Derived.Shelf.Bytes.SlSmallAll
set_option maxRecDepth 99999
set_option maxHeartbeats 0
set_option linter.all false
namespace Go.Proofs.YtdakioiagpkfhaaGreatDoor
open RowKit Conc
open Go.Proofs.Tryz
variable {P:Program} {base f i lb:Nat} {cs:Array Value} {ds zs:List Int} {n:Int} {o w w':World} {p0 p1 p10 p11 p12 p13 p14 p15 p16 p17 p18 p19 p2 p20 p21 p22 p23 p3 p4 p5 p6 p7 p8 p9:Addr} {s:ByteArray} {v v0 v1 v10 v11 v12 v13 v14 v15 v16 v17 v18 v19 v2 v20 v21 v22 v23 v3 v4 v5 v6 v7 v8 v9:Value}
section
open inoP
theorem UB (n room:Nat) (h1:2<=n) (h2:n<=64) (hr:room<=65536) (w:World):
  Calls prog 38 #[iI n,iI room] w λ r w'=>∃fb F,r= .returned (.tuple #[pP fb 0,iI 0])/\FsW fb room n none w' F/\Ext w w'/\(∀b∈F,w.heap.size<=b)/\w.heap.size<=fb:=by
 have HT:=hid (inoP.new_yes n w (by omega) h2);have d1:decide ((n:Int)<1)=false:=by simp;omega
 have d2:decide (64<(n:Int))=false:=by simp;omega
 have d3:decide ((room:Int)<0)=false:=by simp
 have d4:decide (65536<(room:Int))=false:=by simp;omega
 go_in;go_wp2_with (go_at_call 78;refine HT.o.mono ?_;rintro r w1 ⟨rfl,T1,X1⟩);have HT1:=hid T1;have HX1:=hid X1;clear T1 X1;refine(dnew w1).mono ?_;rintro r w2 ⟨rfl,D2,X2⟩;have HD2:=hid D2;have HX2:=hid X2;clear D2 X2;go_wp2_with fail;obtain⟨W3,hW3⟩:∃W,W=w2.alloc (.cells #[iI 493,iI 0,iI 0,pP w1.heap.size 0,nN] 197):=⟨_,rfl⟩;rw[<-hW3];have X3:Ext w2 W3:=by rw[hW3];exact(Ext.refl _).alloc _
 have h3:W3.heap[w2.heap.size]?=oC #[iI 493,iI 0,iI 0,pP w1.heap.size 0,nN] 197:=by rw[hW3];exact Ub w2 _
 clear hW3;have HA:=hid (show Calls prog 80 #[pP (w.heap.size+1) 0,pP w2.heap.size 0] W3 λ r w'=>r= .returned (.tuple #[.agg #[iI 1,iI 1],iI 0])/\B0 w' (w.heap.size+1) (w.heap.size+2) w.heap.size ((List.replicate n Pl.zero).set 0 ⟨true,1,some ⟨w2.heap.size,0,none⟩⟩)/\Upd [w.heap.size] W3 w' from by
  have q:=inoP.add_ok _ _ _ _ _ (some ⟨w2.heap.size,0,none⟩) (HT1.o.ext (HX2.o.trans X3)) 0 (by simp;omega) (by simp[Pl.zero]) (λ j hj hj0=>absurd hj0 (by omega)) (by simp[Pl.zero]) (by simp[Pl.zero]);simp only[List.getElem_replicate,Pl.zero] at q;exact q)
 refine HA.o.mono ?_;rintro r w4 ⟨rfl,T4,U4⟩;have hz2:=HX2.o.size;have l2:=lH HT1.o.var;have h4:=U4.heap h3 (by simp;omega);have l4:=(AW.loc _ _).1 _ _ HD2.o _ (List.mem_singleton.2 rfl);have HT4:=hid T4;have HD4:=hid ((AW.loc _ _).2 _ _ _ [w.heap.size] ((AW.loc _ _).2 _ _ _ [] HD2.o (X3.upd []) (λ _ _=>by simp)) U4 (λ b hb=>by simp at hb|-;omega));have HX4:=hid (U4.ext ((HX1.o.trans HX2.o).trans X3) (by simp));have H4:=hid h4;obtain⟨b0,b1,b2,b3,b4,bf⟩:=Cq h4;have l5:=lH h4;clear T4 U4 X3 h3 h4;go_wp2_with fail;obtain⟨wM,hM⟩:∃W,W=((w4.setCell (dD w2.heap.size 1) (iI 1)).setCell (dD w2.heap.size 2) (iI 1)):=⟨_,rfl⟩;rw[<-hM];have UM:=Jt w4 w2.heap.size (iI 1) (iI 1);have NM:=KJ (a1:= iI 1) (a2:= iI 1) H4.o;rw[<-hM] at UM NM;have hzM:wM.heap.size=w4.heap.size:=by rw[hM];simp
 obtain⟨W6,h6⟩:∃W,W=(wM.alloc (.cells #[iI 1,iI 1] 82)).alloc (.cells #[pP (w.heap.size+1) 0,iI 1,iI 1,iI room,iI 0] 156):=⟨_,rfl⟩;rw[<-h6];obtain⟨-,hf,XF⟩:=AH wM (.cells #[iI 1,iI 1] 82) (.cells #[pP (w.heap.size+1) 0,iI 1,iI 1,iI room,iI 0] 156);rw[<-h6] at hf XF;rw[hzM] at hf;have hT:=(HT4.o.upd UM (by simp;omega) (by simp;omega) (by simp;omega)).ext XF;have hD:=(AW.loc _ _).2 _ _ _ [] ((AW.loc _ _).2 _ _ _ _ HD4.o UM (λ b hb=>by simp at hb|-;omega)) (XF.upd []) (λ _ _=>by simp);have hX:=(UM.ext HX4.o (by simp;omega)).trans XF;clear hM h6 b0 b1 b2 b3 b4 bf;go_ret2;refine⟨w4.heap.size+1,_,rfl,⟨⟨w4.heap.size+1,w.heap.size+1,w.heap.size+2,w.heap.size,w2.heap.size,w1.heap.size⟩,_,_,rfl,?_,⟨hf,hT,XF.heap NM,?_⟩,hD,?_,rfl⟩,hX,?_,by omega⟩
 ·simp
 ·exact⟨by simp;omega,by simp⟩
 ·exact⟨by simp;omega,by simp[Pl.zero]⟩
 ·intro b hb;simp only[FsC.own,List.mem_append,Um,List.not_mem_nil,or_false] at hb;omega
end
def GP (lb:Nat) (cs:Array Value) (w:World):Prop:=w.heap[lb]?=oC cs 270
theorem Sl.updv {S:List Nat} (h:Sl w v zs) (hx:Upd S w w') (hs:∀g,v.ownBlock=some g->g∉S):Sl w' v zs:=by
 obtain⟨a,c,rfl,h2,h3⟩:=h;exact⟨a,c,rfl,h2.upd2 hx (λ ga o e=>hs ga (by subst e;rfl)),h3⟩
theorem RA (h:GP lb cs w) (hi:i<12) (hn:cs[i]?=some (iI n)) (hn0:0<=n) (hn1:n<4294967296) (hv:cs[12]?=some v) (hb:cs[13]?=some (.bool true)) (hz:Sl w v zs) (hva:v.ownBlock≠some lb) (hl:zs.length<=100000):
  Calls prog 297 #[pP lb 0,pP lb i] w λ r w'=>∃v',r= .returned (.tuple #[])/\GP lb (((cs.setIfInBounds 13 (.bool true)).setIfInBounds 12 v').setIfInBounds i (iI 0)) w'/\AA w' w.heap.size 5 v' (bv (zs++be4 n))/\Upd [lb] w w':=by
 have c13:=(cO h 13).trans hb;have c12:=(cO h 12).trans hv;have ci:=(cO h i).trans hn;have f:=fO h;have hls:=lH h;have e2:decide (n<=4294967295)=true:=by simp;omega
 have e3:IntKind.u32.wrap n=n:=by unfold IntKind.wrap;simp[IntKind.bits,IntKind.signed];omega
 have HB:=hid h;have HZ:=hid hz;clear h hn hv hb hz;go_in;go_wp2_with fail;obtain⟨W1,hW1⟩:∃W,W=w.setCell (dD lb 13) (.bool true):=⟨_,rfl⟩;rw[<-hW1];have h1:W1.heap[lb]?=oC (cs.setIfInBounds 13 (.bool true)) 270:=by rw[hW1];exact jP _ HB.o
 have U1:Upd [lb] w W1:=by rw[hW1];exact(Upd.refl [lb] w).setCell _ _ (.inl (by simp))
 have d12:W1.cell? (dD lb 12)=some v:=by rw[cO h1,Array.getElem?_setIfInBounds_ne (by decide),<-cO HB.o];exact c12
 have di:W1.cell? (dD lb i)=some (iI n):=by rw[cO h1,Array.getElem?_setIfInBounds_ne (by omega),<-cO HB.o];exact ci
 have g:=fO h1;have hz1:Sl W1 v zs:=HZ.o.updv U1 (λ g hg=>by simp only[List.mem_singleton];rintro rfl;exact hva hg);have HX:=hid (Es (hz1.ext ((Ext.refl W1).drew)) n hn0 hn1 (by omega));have H1:=hid h1;have HU1:=hid U1;clear hW1 h1 U1 hz1 c13 c12 ci f;go_region_with (go_at_call 92;refine HX.o.mono ?_;rintro r w2 ⟨v',rfl,O2,X2⟩;have k12:=X2.cell d12;have ki:=X2.cell di;have kf:=fO (X2.heap H1.o);have kl:=lH (X2.heap H1.o);obtain⟨ys,hys⟩:∃ys,ys=zs++be4 n:=⟨_,rfl⟩;rw[<-hys] at O2;have hwy:Wf ys:=(by rw[hys];exact HZ.o.wf.app (BL n hn0 hn1));obtain⟨n2,hn2⟩:∃n2,n2=ys.length:=⟨_,rfl⟩;obtain⟨a2,k2,rfl,-,-⟩:=O2.row2 hwy;rw[<-hn2] at*;have HX2:=hid X2;have HO2:=hid O2;clear X2 O2)
 all_goals
  have HYS:=hid hys;clear hys hwy hn2 g;go_wp2_with fail;go_end0;have hb:=jP (i:=i) (iI 0) (jP (i:=12) (.slice a2 n2 k2) (HX2.o.heap H1.o));have hz:=HU1.o.size;refine⟨_,rfl,hb,?_,(((HU1.o.trans (((Upd.refl [lb] W1).drew).trans (HX2.o.upd _))).setCell _ _ (.inl (by simp))).setCell _ _ (.inl (by simp)))⟩;have hO:=HO2.o;rw[HYS.o] at hO;refine((hO.upd (((Upd.refl [lb] w2).setCell (dD lb 12) (.slice a2 n2 k2) (.inl (by simp))).setCell (dD lb i) (iI 0) (.inl (by simp))) (λ g hg hm=> ?_)).low hz);have:=(hO.lt hg).1;simp at hm this;omega
theorem D4 (w:World) (s:ByteArray) (hs:s.size<=maxLen):∃a cap w',(convert 9 26 (.string s)).run prog w= .ok (sS a 0 s.size cap) w'/\Sl w' (sS a 0 s.size cap) (sb s)/\Ext w w'/\a=w.heap.size/\w'.heap.size=w.heap.size+1:=by
 refine⟨_,_,_,run_bytes_of_string w 9 26 5 s underlying9 underlying26 underlying5,?_,((Ext.refl w).drew).alloc _,rfl,by simp⟩;have hnew:∀C,(w.drew.alloc C).heap[w.heap.size]?=some C:=λ C=>Ub w.drew C
 refine⟨_,_,by rw[Ab],⟨rfl,by rw[Ab];exact grownCap_ge _ _ _ _,grownCap_le_maxLen _ _ _ _ hs,Cl s,.inr ⟨_,_,rfl,λ i hi=> ?_⟩⟩,.inr ⟨_,_,rfl⟩⟩;have hi':i<s.data.size:=by rw[Ab] at hi;exact hi
 simp only[World.cell?,Nat.zero_add,hnew,bytesRow];rw[Array.getElem?_append_left (by simpa using hi'),Array.getElem?_map,Array.getElem?_eq_getElem hi'];simp only[Option.map_some,sb]
 congr 2
 rw[List.getD_eq_getElem?_getD,List.getElem?_map,Ud (by simpa using hi')];simp
theorem Q5 (h:GP lb cs w) (hi:i<12) (hn:cs[i]?=some (.string s)) (hn1:s.size<=64) (hv:cs[12]?=some v) (hb:cs[13]?=some (.bool true)) (hz:Sl w v zs) (hva:v.ownBlock≠some lb) (hl:zs.length<=100000):
  Calls prog 298 #[pP lb 0,pP lb i] w λ r w'=>∃v',r= .returned (.tuple #[])/\GP lb (((cs.setIfInBounds 13 (.bool true)).setIfInBounds 12 v').setIfInBounds i (eE)) w'/\AA w' w.heap.size 5 v' (bv (zs++xt (sb s)))/\Upd [lb] w w':=by
 have c13:=(cO h 13).trans hb;have c12:=(cO h 12).trans hv;have ci:=(cO h i).trans hn;have f:=fO h;have hls:=lH h;have e2:decide ((s.size:Int)<=64)=true:=by simp;omega
 have HB:=hid h;have HZ:=hid hz;clear h hn hv hb hz;go_in;go_wp2_with fail;obtain⟨W1,hW1⟩:∃W,W=w.setCell (dD lb 13) (.bool true):=⟨_,rfl⟩;rw[<-hW1];have h1:W1.heap[lb]?=oC (cs.setIfInBounds 13 (.bool true)) 270:=by rw[hW1];exact jP _ HB.o
 have U1:Upd [lb] w W1:=by rw[hW1];exact(Upd.refl [lb] w).setCell _ _ (.inl (by simp))
 have d12:W1.cell? (dD lb 12)=some v:=by rw[cO h1,Array.getElem?_setIfInBounds_ne (by decide),<-cO HB.o];exact c12
 have di:W1.cell? (dD lb i)=some (.string s):=by rw[cO h1,Array.getElem?_setIfInBounds_ne (by omega),<-cO HB.o];exact ci
 have g:=fO h1;have hz1:Sl W1 v zs:=HZ.o.updv U1 (λ g hg=>by simp only[List.mem_singleton];rintro rfl;exact hva hg);obtain⟨ga,cap,Wc,hcv,hSc,Xc,hga,hsz⟩:=D4 W1.drew s (by unfold maxLen;omega);have HX:=hid (NG (hz1.ext ((Ext.refl W1).drew.trans Xc)) hSc (by rw[Ab];omega) hl);have HXc:=hid ((Ext.refl W1).drew.trans Xc);have e12:=HXc.o.cell d12;have ei:=HXc.o.cell di;have H1:=hid h1;have HU1:=hid U1;clear hW1 h1 U1 hz1 hSc Xc hga c13 c12 ci f;go_region_with (go_at_call 226;refine HX.o.mono ?_;rintro r w2 ⟨v',rfl,O2,X2⟩;have k12:=X2.cell e12;have ki:=X2.cell ei;have kf:=fO (X2.heap (HXc.o.heap H1.o));have kl:=lH (X2.heap (HXc.o.heap H1.o));obtain⟨ys,hys⟩:∃ys,ys=zs++xt (sb s):=⟨_,rfl⟩;rw[<-hys] at O2;have hwy:Wf ys:=(by rw[hys];exact HZ.o.wf.app (Dy (Cl s) (by rw[Ab];omega)));obtain⟨n2,hn2⟩:∃n2,n2=ys.length:=⟨_,rfl⟩;obtain⟨a2,k2,rfl,-,-⟩:=O2.row2 hwy;rw[<-hn2] at*;have HX2:=hid X2;have HO2:=hid O2;clear X2 O2)
 all_goals
  have HYS:=hid hys;clear hys hwy hn2 g;go_wp2_with fail;go_end0;have hb:=jP (i:=i) (eE) (jP (i:=12) (.slice a2 n2 k2) (HX2.o.heap (HXc.o.heap H1.o)));have hz:=HU1.o.size;have hzc:=HXc.o.size;refine⟨_,rfl,hb,?_,(((HU1.o.trans ((HXc.o.upd _).trans (HX2.o.upd _))).setCell _ _ (.inl (by simp))).setCell _ _ (.inl (by simp)))⟩;have hO:=HO2.o;rw[HYS.o] at hO;refine((hO.upd (((Upd.refl [lb] w2).setCell (dD lb 12) (.slice a2 n2 k2) (.inl (by simp))).setCell (dD lb i) (eE) (.inl (by simp))) (λ g hg hm=> ?_)).low (Nat.le_trans hz hzc));have:=(hO.lt hg).1;simp at hm this;omega
theorem Q8 (h:GP lb cs w) (hn:cs[1]?=some (iI n)) (hn0:0<=n) (hn1:n<=4611686018427387904) (hv:cs[12]?=some v) (hb:cs[13]?=some (.bool true)) (hz:Sl w v zs) (hva:v.ownBlock≠some lb) (hl:zs.length<=100000):
  Calls prog 210 #[pP lb 0] w λ r w'=>∃v',r= .returned (.tuple #[])/\GP lb (((cs.setIfInBounds 13 (.bool true)).setIfInBounds 12 v').setIfInBounds 1 (iI 0)) w'/\AA w' w.heap.size 5 v' (bv (zs++be8 n))/\Upd [lb] w w':=by
 have c13:=(cO h 13).trans hb;have c12:=(cO h 12).trans hv;have ci:=(cO h 1).trans hn;have f:=fO h;have hls:=lH h;have e3:IntKind.u64.wrap n=n:=by unfold IntKind.wrap;simp[IntKind.bits,IntKind.signed];omega
 have HB:=hid h;have HZ:=hid hz;clear h hn hv hb hz;go_in;go_wp2_with fail;obtain⟨W1,hW1⟩:∃W,W=w.setCell (dD lb 13) (.bool true):=⟨_,rfl⟩;rw[<-hW1];have h1:W1.heap[lb]?=oC (cs.setIfInBounds 13 (.bool true)) 270:=by rw[hW1];exact jP _ HB.o
 have U1:Upd [lb] w W1:=by rw[hW1];exact(Upd.refl [lb] w).setCell _ _ (.inl (by simp))
 have d12:W1.cell? (dD lb 12)=some v:=by rw[cO h1,Array.getElem?_setIfInBounds_ne (by decide),<-cO HB.o];exact c12
 have di:W1.cell? (dD lb 1)=some (iI n):=by rw[cO h1,Array.getElem?_setIfInBounds_ne (by omega),<-cO HB.o];exact ci
 have g:=fO h1;have hz1:Sl W1 v zs:=HZ.o.updv U1 (λ g hg=>by simp only[List.mem_singleton];rintro rfl;exact hva hg);have HX:=hid (xu64 (hz1.ext ((Ext.refl W1).drew)) n hn0 (by omega) hl);have H1:=hid h1;have HU1:=hid U1;clear hW1 h1 U1 hz1 c13 c12 ci f;go_region_with (go_at_call 299;refine HX.o.mono ?_;rintro r w2 ⟨v',rfl,O2,X2⟩;have k12:=X2.cell d12;have ki:=X2.cell di;have kf:=fO (X2.heap H1.o);have kl:=lH (X2.heap H1.o);obtain⟨ys,hys⟩:∃ys,ys=zs++be8 n:=⟨_,rfl⟩;rw[<-hys] at O2;have hwy:Wf ys:=(by rw[hys];exact HZ.o.wf.app (Kn n hn0 (by omega)));obtain⟨n2,hn2⟩:∃n2,n2=ys.length:=⟨_,rfl⟩;obtain⟨a2,k2,rfl,-,-⟩:=O2.row2 hwy;rw[<-hn2] at*;have HX2:=hid X2;have HO2:=hid O2;clear X2 O2)
 all_goals
  have HYS:=hid hys;clear hys hwy hn2 g;go_wp2_with fail;go_end0;have hb:=jP (i:=1) (iI 0) (jP (i:=12) (.slice a2 n2 k2) (HX2.o.heap H1.o));have hz:=HU1.o.size;refine⟨_,rfl,hb,?_,(((HU1.o.trans (((Upd.refl [lb] W1).drew).trans (HX2.o.upd _))).setCell _ _ (.inl (by simp))).setCell _ _ (.inl (by simp)))⟩;have hO:=HO2.o;rw[HYS.o] at hO;refine((hO.upd (((Upd.refl [lb] w2).setCell (dD lb 12) (.slice a2 n2 k2) (.inl (by simp))).setCell (dD lb 1) (iI 0) (.inl (by simp))) (λ g hg hm=> ?_)).low hz);have:=(hO.lt hg).1;simp at hm this;omega
theorem OV (h:GP lb cs w) {d:Value} (hn:cs[11]?=some d) (hd:Sl w d ds) (hda:d.ownBlock≠some lb) (hn1:ds.length<=2048) (hv:cs[12]?=some v) (hb:cs[13]?=some (.bool true)) (hz:Sl w v zs) (hva:v.ownBlock≠some lb) (hl:zs.length<=100000):
  Calls prog 214 #[pP lb 0] w λ r w'=>∃v',r= .returned (.tuple #[])/\GP lb (((cs.setIfInBounds 13 (.bool true)).setIfInBounds 12 v').setIfInBounds 11 (nN)) w'/\AA w' w.heap.size 5 v' (bv (zs++xt ds))/\Upd [lb] w w':=by
 have c13:=(cO h 13).trans hb;have c12:=(cO h 12).trans hv;have c11_:=(cO h 11).trans hn;have f:=fO h;have hls:=lH h;have HDS:=hid hd;have HDW:=hid hd.wf;obtain⟨m,hm⟩:∃m,m=ds.length:=⟨_,rfl⟩;obtain⟨da,dc,rfl,-,-⟩:=hd;rw[<-hm] at HDS hda c11_ hn1;have HM:=hid hm;clear hm;have e2:decide ((m:Int)<=2048)=true:=by simp;omega
 have HB:=hid h;have HZ:=hid hz;clear h hn hv hb hz;go_in;go_wp2_with fail;obtain⟨W1,hW1⟩:∃W,W=w.setCell (dD lb 13) (.bool true):=⟨_,rfl⟩;rw[<-hW1];have h1:W1.heap[lb]?=oC (cs.setIfInBounds 13 (.bool true)) 270:=by rw[hW1];exact jP _ HB.o
 have U1:Upd [lb] w W1:=by rw[hW1];exact(Upd.refl [lb] w).setCell _ _ (.inl (by simp))
 have d12:W1.cell? (dD lb 12)=some v:=by rw[cO h1,Array.getElem?_setIfInBounds_ne (by decide),<-cO HB.o];exact c12
 have di:W1.cell? (dD lb 11)=some (.slice da m dc):=by rw[cO h1,Array.getElem?_setIfInBounds_ne (by omega),<-cO HB.o];exact c11_
 have g:=fO h1;have hz1:Sl W1 v zs:=HZ.o.updv U1 (λ g hg=>by simp only[List.mem_singleton];rintro rfl;exact hva hg);have hz2:Sl W1 (.slice da m dc) ds:=HDS.o.updv U1 (λ g hg=>by simp only[List.mem_singleton];rintro rfl;exact hda hg);have HX:=hid (NG (hz1.ext ((Ext.refl W1).drew)) (hz2.ext ((Ext.refl W1).drew)) (by rw[<-HM.o];omega) hl);have H1:=hid h1;have HU1:=hid U1;clear hW1 h1 U1 hz1 hz2 c13 c12 c11_ f;go_region_with (go_at_call 226;refine HX.o.mono ?_;rintro r w2 ⟨v',rfl,O2,X2⟩;have k12:=X2.cell d12;have ki:=X2.cell di;have kf:=fO (X2.heap H1.o);have kl:=lH (X2.heap H1.o);obtain⟨ys,hys⟩:∃ys,ys=zs++xt ds:=⟨_,rfl⟩;rw[<-hys] at O2;have hwy:Wf ys:=(by rw[hys];exact HZ.o.wf.app (Dy HDW.o (by rw[<-HM.o];omega)));obtain⟨n2,hn2⟩:∃n2,n2=ys.length:=⟨_,rfl⟩;obtain⟨a2,k2,rfl,-,-⟩:=O2.row2 hwy;rw[<-hn2] at*;have HX2:=hid X2;have HO2:=hid O2;clear X2 O2)
 all_goals
  have HYS:=hid hys;clear hys hwy hn2 g;go_wp2_with fail;go_end0;have hb:=jP (i:=11) (nN) (jP (i:=12) (.slice a2 n2 k2) (HX2.o.heap H1.o));have hz:=HU1.o.size;refine⟨_,rfl,hb,?_,(((HU1.o.trans (((Upd.refl [lb] W1).drew).trans (HX2.o.upd _))).setCell _ _ (.inl (by simp))).setCell _ _ (.inl (by simp)))⟩;have hO:=HO2.o;rw[HYS.o] at hO;refine((hO.upd (((Upd.refl [lb] w2).setCell (dD lb 12) (.slice a2 n2 k2) (.inl (by simp))).setCell (dD lb 11) (nN) (.inl (by simp))) (λ g hg hm=> ?_)).low hz);have:=(hO.lt hg).1;simp at hm this;omega
def GM (a:AV) (d v:Value):Array Value:= #[iI a.proc,iI a.off,iI a.count,iI a.size,iI a.mode,iI a.h1,iI a.h2,iI a.k1,iI a.k2,.string a.name,.string a.name2,d,v,.bool true]
def Ax (lb:Nat) (a:AV) (ds zs:List Int) (base:Nat) (w:World):Prop:=
 ∃d v,GP lb (GM a d v) w/\AA w base 5 v (bv zs)/\Wf zs/\Sl w d ds/\d.ownBlock≠some lb/\v.ownBlock≠some lb/\base<=w.heap.size
def Way (g:FuncId) (lb:Nat) (a a':AV) (ds ds' zs zs':List Int) (base:Nat) (w:World) (extra:Array Value):Prop:=
 Calls prog g (#[pP lb 0]++extra) w λ r w'=>r= .returned (.tuple #[])/\Ax lb a' ds' zs' base w'/\Upd [lb] w w'
theorem Cx {a a':AV} (h:Ax lb a ds zs base w) (hl:zs.length<=100000) (i:Nat) (hi:i<12) (hn:∀d v,(GM a d v)[i]?=some (iI n)) (hn0:0<=n) (hn1:n<4294967296) (he:∀d v v',(((GM a d v).setIfInBounds 13 (.bool true)).setIfInBounds 12 v').setIfInBounds i (iI 0)=GM a' d v'):
  Way 297 lb a a' ds ds zs (zs++be4 n) base w #[pP lb i]:=by
 obtain⟨d,v,hB,hO,hW,hS,hd,hv,hb⟩:=h;refine(RA hB hi (hn d v) hn0 hn1 rfl rfl (hO.sl hW) hv hl).mono ?_;rintro r w' ⟨v',rfl,hB',hO',hU⟩;have hlt:=lH hB;rw[he] at hB';refine⟨rfl,⟨d,v',hB',hO'.low hb,hW.app (BL n hn0 hn1),hS.updv hU (λ g hg=>by simp only[List.mem_singleton];rintro rfl;exact hd hg),hd,λ hg=> ?_,Nat.le_trans hb hU.size⟩,hU⟩;have:=(hO'.lt hg).1;omega
theorem LT {a a':AV} (h:Ax lb a ds zs base w) (hl:zs.length<=100000) (i:Nat) (hi:i<12) (hn:∀d v,(GM a d v)[i]?=some (.string s)) (hn1:s.size<=64) (he:∀d v v',(((GM a d v).setIfInBounds 13 (.bool true)).setIfInBounds 12 v').setIfInBounds i (eE)=GM a' d v'):
  Way 298 lb a a' ds ds zs (zs++xt (sb s)) base w #[pP lb i]:=by
 obtain⟨d,v,hB,hO,hW,hS,hd,hv,hb⟩:=h;refine(Q5 hB hi (hn d v) hn1 rfl rfl (hO.sl hW) hv hl).mono ?_;rintro r w' ⟨v',rfl,hB',hO',hU⟩;have hlt:=lH hB;rw[he] at hB';refine⟨rfl,⟨d,v',hB',hO'.low hb,hW.app (Dy (Cl s) (by rw[Ab];omega)),hS.updv hU (λ g hg=>by simp only[List.mem_singleton];rintro rfl;exact hd hg),hd,λ hg=> ?_,Nat.le_trans hb hU.size⟩,hU⟩;have:=(hO'.lt hg).1;omega
theorem RB {a:AV} (h:Ax lb a ds zs base w) (hl:zs.length<=100000) (hn0:0<=a.off) (hn1:a.off<=5000):
  Way 210 lb a (a.less 4) ds ds zs (zs++be8 a.off) base w #[]:=by
 obtain⟨d,v,hB,hO,hW,hS,hd,hv,hb⟩:=h;refine(Q8 hB (n:=a.off) rfl hn0 (by omega) rfl rfl (hO.sl hW) hv hl).mono ?_;rintro r w' ⟨v',rfl,hB',hO',hU⟩;have hlt:=lH hB;refine⟨rfl,⟨d,v',hB',hO'.low hb,hW.app (Kn _ hn0 (by omega)),hS.updv hU (λ g hg=>by simp only[List.mem_singleton];rintro rfl;exact hd hg),hd,λ hg=> ?_,Nat.le_trans hb hU.size⟩,hU⟩;have:=(hO'.lt hg).1;omega
theorem OY {a:AV} (h:Ax lb a ds zs base w) (hl:zs.length<=100000) (hn1:ds.length<=2000):
  Way 214 lb a (a.less 8) ds [] zs (zs++xt ds) base w #[]:=by
 obtain⟨d,v,hB,hO,hW,hS,hd,hv,hb⟩:=h;refine(OV hB (d:=d) rfl hS hd (by omega) rfl rfl (hO.sl hW) hv hl).mono ?_;rintro r w' ⟨v',rfl,hB',hO',hU⟩;have hlt:=lH hB;refine⟨rfl,⟨_,v',hB',hO'.low hb,hW.app (Dy hS.wf (by omega)),Sl.nil _,by simp[Value.ownBlock],λ hg=> ?_,Nat.le_trans hb hU.size⟩,hU⟩;have:=(hO'.lt hg).1;omega
theorem QA {a:AV} (h:Ax lb a ds zs base w) (ok:a.Ok ds) (hl:zs.length<=50000):
  Way 206 lb a (a.less 0) ds ds zs (zs++a.fb ds 0) base w #[]:=by
 have H1:=hid (show∀W,Ax lb a ds zs base W->Calls prog 297 #[pP lb 0,pP lb 5] W λ r w'=>r= .returned (.tuple #[])/\Ax lb {a with h1:=0} ds (zs++be4 a.h1) base w'/\Upd [lb] W w' from λ W h=>Cx h (by omega) 5 (by decide) (n:=a.h1) (λ _ _=>rfl) ok.h1.1 (by have:=ok.h1.2;omega) (λ _ _ _=>rfl));have H2:=hid (show∀W,Ax lb {a with h1:=0} ds (zs++be4 a.h1) base W->Calls prog 297 #[pP lb 0,pP lb 6] W λ r w'=>r= .returned (.tuple #[])/\Ax lb (a.less 0) ds ((zs++be4 a.h1)++be4 a.h2) base w'/\Upd [lb] W w' from λ W h=>Cx h (by simp[CD];omega) 6 (by decide) (n:=a.h2) (λ _ _=>rfl) ok.h2.1 (by have:=ok.h2.2;omega) (λ _ _ _=>rfl));have HL:=hid h;clear h;show Calls prog 206 #[pP lb 0] w λ r w'=>r= .returned (.tuple #[])/\Ax lb (a.less 0) ds (zs++a.fb ds 0) base w'/\Upd [lb] w w'
 go_in;go_wp2_with fail;refine(H1.o _ HL.o).mono ?_;rintro r w1 ⟨rfl,L1,U1⟩;have HL1:=hid L1;have HU1:=hid U1;clear L1 U1;go_wp2_with fail;refine(H2.o _ HL1.o).mono ?_;rintro r w2 ⟨rfl,L2,U2⟩;have HL2:=hid L2;have HU2:=hid (HU1.o.trans U2);clear L2 U2;go_wp2_with fail;go_end0;exact⟨rfl,by have:=HL2.o;rwa [Ui] at this,HU2.o⟩
theorem NK {a:AV} (h:Ax lb a ds zs base w) (ok:a.Ok ds) (hl:zs.length<=50000):
  Way 207 lb a (a.less 1) ds ds zs (zs++a.fb ds 1) base w #[]:=by
 have H1:=hid (show∀W,Ax lb a ds zs base W->Calls prog 297 #[pP lb 0,pP lb 7] W λ r w'=>r= .returned (.tuple #[])/\Ax lb {a with k1:=0} ds (zs++be4 a.k1) base w'/\Upd [lb] W w' from λ W h=>Cx h (by omega) 7 (by decide) (n:=a.k1) (λ _ _=>rfl) ok.k1.1 (by have:=ok.k1.2;omega) (λ _ _ _=>rfl));have H2:=hid (show∀W,Ax lb {a with k1:=0} ds (zs++be4 a.k1) base W->Calls prog 297 #[pP lb 0,pP lb 8] W λ r w'=>r= .returned (.tuple #[])/\Ax lb (a.less 1) ds ((zs++be4 a.k1)++be4 a.k2) base w'/\Upd [lb] W w' from λ W h=>Cx h (by simp[CD];omega) 8 (by decide) (n:=a.k2) (λ _ _=>rfl) ok.k2.1 (by have:=ok.k2.2;omega) (λ _ _ _=>rfl));have HL:=hid h;clear h;show Calls prog 207 #[pP lb 0] w λ r w'=>r= .returned (.tuple #[])/\Ax lb (a.less 1) ds (zs++a.fb ds 1) base w'/\Upd [lb] w w'
 go_in;go_wp2_with fail;refine(H1.o _ HL.o).mono ?_;rintro r w1 ⟨rfl,L1,U1⟩;have HL1:=hid L1;have HU1:=hid U1;clear L1 U1;go_wp2_with fail;refine(H2.o _ HL1.o).mono ?_;rintro r w2 ⟨rfl,L2,U2⟩;have HL2:=hid L2;have HU2:=hid (HU1.o.trans U2);clear L2 U2;go_wp2_with fail;go_end0;exact⟨rfl,by have:=HL2.o;rwa [Ui] at this,HU2.o⟩
theorem Sk {a:AV} (h:Ax lb a ds zs base w) (ok:a.Ok ds) (hl:zs.length<=50000):
  Way 208 lb a (a.less 2) ds ds zs (zs++a.fb ds 2) base w #[]:=by
 have H1:=hid (show∀W,Ax lb a ds zs base W->Calls prog 298 #[pP lb 0,pP lb 9] W λ r w'=>r= .returned (.tuple #[])/\Ax lb (a.less 2) ds (zs++xt (sb a.name)) base w'/\Upd [lb] W w' from λ W h=>LT h (by omega) 9 (by decide) (s:=a.name) (λ _ _=>rfl) ok.name (λ _ _ _=>rfl));have HL:=hid h;clear h;show Calls prog 208 #[pP lb 0] w λ r w'=>r= .returned (.tuple #[])/\Ax lb (a.less 2) ds (zs++a.fb ds 2) base w'/\Upd [lb] w w'
 go_in;go_wp2_with fail;refine(H1.o _ HL.o).mono ?_;rintro r w1 ⟨rfl,L1,U1⟩;have HL1:=hid L1;have HU1:=hid U1;clear L1 U1;go_wp2_with fail;go_end0;exact⟨rfl,HL1.o,HU1.o⟩
theorem Pz {a:AV} (h:Ax lb a ds zs base w) (ok:a.Ok ds) (hl:zs.length<=50000):
  Way 209 lb a (a.less 3) ds ds zs (zs++a.fb ds 3) base w #[]:=by
 have H1:=hid (show∀W,Ax lb a ds zs base W->Calls prog 298 #[pP lb 0,pP lb 10] W λ r w'=>r= .returned (.tuple #[])/\Ax lb (a.less 3) ds (zs++xt (sb a.name2)) base w'/\Upd [lb] W w' from λ W h=>LT h (by omega) 10 (by decide) (s:=a.name2) (λ _ _=>rfl) ok.name2 (λ _ _ _=>rfl));have HL:=hid h;clear h;show Calls prog 209 #[pP lb 0] w λ r w'=>r= .returned (.tuple #[])/\Ax lb (a.less 3) ds (zs++a.fb ds 3) base w'/\Upd [lb] w w'
 go_in;go_wp2_with fail;refine(H1.o _ HL.o).mono ?_;rintro r w1 ⟨rfl,L1,U1⟩;have HL1:=hid L1;have HU1:=hid U1;clear L1 U1;go_wp2_with fail;go_end0;exact⟨rfl,HL1.o,HU1.o⟩
theorem QC {a:AV} (h:Ax lb a ds zs base w) (ok:a.Ok ds) (hl:zs.length<=50000):
  Way 211 lb a (a.less 5) ds ds zs (zs++a.fb ds 5) base w #[]:=by
 have H1:=hid (show∀W,Ax lb a ds zs base W->Calls prog 297 #[pP lb 0,pP lb 2] W λ r w'=>r= .returned (.tuple #[])/\Ax lb (a.less 5) ds (zs++be4 a.count) base w'/\Upd [lb] W w' from λ W h=>Cx h (by omega) 2 (by decide) (n:=a.count) (λ _ _=>rfl) ok.count.1 (by have:=ok.count.2;omega) (λ _ _ _=>rfl));have HL:=hid h;clear h;show Calls prog 211 #[pP lb 0] w λ r w'=>r= .returned (.tuple #[])/\Ax lb (a.less 5) ds (zs++a.fb ds 5) base w'/\Upd [lb] w w'
 go_in;go_wp2_with fail;refine(H1.o _ HL.o).mono ?_;rintro r w1 ⟨rfl,L1,U1⟩;have HL1:=hid L1;have HU1:=hid U1;clear L1 U1;go_wp2_with fail;go_end0;exact⟨rfl,HL1.o,HU1.o⟩
theorem Sj {a:AV} (h:Ax lb a ds zs base w) (ok:a.Ok ds) (hl:zs.length<=50000):
  Way 212 lb a (a.less 6) ds ds zs (zs++a.fb ds 6) base w #[]:=by
 have H1:=hid (show∀W,Ax lb a ds zs base W->Calls prog 297 #[pP lb 0,pP lb 3] W λ r w'=>r= .returned (.tuple #[])/\Ax lb (a.less 6) ds (zs++be4 a.size) base w'/\Upd [lb] W w' from λ W h=>Cx h (by omega) 3 (by decide) (n:=a.size) (λ _ _=>rfl) ok.size.1 (by have:=ok.size.2;omega) (λ _ _ _=>rfl));have HL:=hid h;clear h;show Calls prog 212 #[pP lb 0] w λ r w'=>r= .returned (.tuple #[])/\Ax lb (a.less 6) ds (zs++a.fb ds 6) base w'/\Upd [lb] w w'
 go_in;go_wp2_with fail;refine(H1.o _ HL.o).mono ?_;rintro r w1 ⟨rfl,L1,U1⟩;have HL1:=hid L1;have HU1:=hid U1;clear L1 U1;go_wp2_with fail;go_end0;exact⟨rfl,HL1.o,HU1.o⟩
theorem Sm {a:AV} (h:Ax lb a ds zs base w) (ok:a.Ok ds) (hl:zs.length<=50000):
  Way 213 lb a (a.less 7) ds ds zs (zs++a.fb ds 7) base w #[]:=by
 have H1:=hid (show∀W,Ax lb a ds zs base W->Calls prog 297 #[pP lb 0,pP lb 4] W λ r w'=>r= .returned (.tuple #[])/\Ax lb (a.less 7) ds (zs++be4 a.mode) base w'/\Upd [lb] W w' from λ W h=>Cx h (by omega) 4 (by decide) (n:=a.mode) (λ _ _=>rfl) ok.mode.1 (by have:=ok.mode.2;omega) (λ _ _ _=>rfl));have HL:=hid h;clear h;show Calls prog 213 #[pP lb 0] w λ r w'=>r= .returned (.tuple #[])/\Ax lb (a.less 7) ds (zs++a.fb ds 7) base w'/\Upd [lb] w w'
 go_in;go_wp2_with fail;refine(H1.o _ HL.o).mono ?_;rintro r w1 ⟨rfl,L1,U1⟩;have HL1:=hid L1;have HU1:=hid U1;clear L1 U1;go_wp2_with fail;go_end0;exact⟨rfl,HL1.o,HU1.o⟩
def AD (p:Int):List Nat:=if p=1 then[0] else if p=3 then[0,2] else if p=6 then[0,4,5] else if p=7 then[0,4,8] else if p=8 then[0,2,7] else[0,2,1,3]
def FldB (p:Int) (v:Value) (w:World):Prop:=∃g,v= .slice (some ⟨g,0,none⟩) (AD p).length (AD p).length/\w.heap[g]?=some (.cells ((AD p).map (λ f:Nat=>Value.int .i64 f)).toArray 273 (0,0))
theorem Fp (p:Int) (hp:p=1\/p=3\/p=6\/p=7\/p=8\/p=14) (w:World):Calls prog 135 #[iI p] w λ r w'=>∃v,r= .returned v/\FldB p v w'/\Ext w w':=by
 rcases hp with rfl|rfl|rfl|rfl|rfl|rfl
 all_goals
  go_in;go_wp2_with fail;go_ret;exact⟨_,rfl,⟨w.heap.size,rfl,Ub w _⟩,(Ext.refl w).alloc _⟩
def bnd (g lb:Nat):Value:= .func (.func g) #[pP lb 0] #[]
def SF (lb:Nat):List (Int×Value):=[(0,bnd 206 lb),(1,bnd 207 lb),(2,bnd 208 lb),(3,bnd 209 lb),(4,bnd 210 lb),(5,bnd 211 lb),(6,bnd 212 lb),(7,bnd 213 lb),(8,bnd 214 lb)]
theorem NI (lb:Nat) (w:World):Calls prog 136 #[pP lb 0] w λ r w'=>∃m,r= .returned (.map (some m))/\Dw w w' m (SF lb):=by
 have hmm:= @run_makeMap prog;have h0:=Dw.start w;go_in;go_wp2_with (refine Cr rfl rfl underlying271 underlying273 rfl rfl rfl (by assumption) ?_;intro w' hM);rename_i _ hM;go_ret;exact⟨_,rfl,hM⟩
theorem I5 (p0 p1 p2 p3 p4 p5 p6 p7 p8:Int) (s s2:ByteArray) (d:Value) (w:World):
  Calls prog 215 #[.agg (pR p0 p1 p2 p3 p4 p5 p6 p7 p8 s s2 d)] w λ r w'=>r= .returned (.agg #[iI p0,iI p1,iI p2,iI p3,iI p4,iI p5,iI p6,iI p7,iI p8])/\Ext w w':=by
 go_in;go_wp2_with fail;obtain⟨W0,hW0⟩:∃W,W=((w.alloc (.cells (pR p0 p1 p2 p3 p4 p5 p6 p7 p8 s s2 d) 137)).alloc (.cells #[iI p0,iI p1,iI p2,iI p3,iI p4,iI p5,iI p6,iI p7,iI p8] 325)):=⟨_,rfl⟩;rw[<-hW0];obtain⟨-,hr,X0⟩:=AH w (.cells (pR p0 p1 p2 p3 p4 p5 p6 p7 p8 s s2 d) 137) (.cells #[iI p0,iI p1,iI p2,iI p3,iI p4,iI p5,iI p6,iI p7,iI p8] 325);rw[<-hW0] at hr X0;have r0:=cO hr 0;have r1:=cO hr 1;have r2:=cO hr 2;have r3:=cO hr 3;have r4:=cO hr 4;have r5:=cO hr 5;have r6:=cO hr 6;have r7:=cO hr 7;have r8:=cO hr 8;exact Ue (v:= .agg #[iI p0,iI p1,iI p2,iI p3,iI p4,iI p5,iI p6,iI p7,iI p8]) (by simp[results,results215,go_sem,r0,r1,r2,r3,r4,r5,r6,r7,r8]) rfl ⟨rfl,X0⟩
theorem AI.str {a:Option Addr} {n c:Nat} (h:AI .u8 w a n c zs):(convert 26 9 (.slice a n c)).run prog w= .ok (.string (strOfNums zs)) w:=by
 have hl:=h.1;rcases h.2.2.2.2 with h0|⟨g,o,rfl,hc⟩
 ·have hz:zs=[]:=List.eq_nil_of_length_eq_zero (by omega);subst hz h0;exact run_convert_bytes_zero w 26 5 underlying26 underlying5 a c 9 underlying9
 ·exact run_convert_bytes_arg w 26 5 underlying26 underlying5 g o n c zs hl hc 9 underlying9
theorem eq9 (p:Int) (hp:p=1\/p=3\/p=6\/p=7\/p=8\/p=14) (w:World):(Op.equalIn 10000 325 (.agg #[iI p,iI 0,iI 0,iI 0,iI 0,iI 0,iI 0,iI 0,iI 0]) (.agg #[iI p,iI 0,iI 0,iI 0,iI 0,iI 0,iI 0,iI 0,iI 0])).run prog w= .ok true w:=by
 rcases hp with rfl|rfl|rfl|rfl|rfl|rfl
 all_goals kernel_rfl
theorem Db (a b:Option Addr) (n m c d:Nat) (zs ys:List Int) (w:World) (h1:AI .u8 w a n c zs) (h2:AI .u8 w b m d ys):
  Calls prog 216 #[.slice a n c,.slice b m d] w λ r w'=>r= .returned (.bool ((strOfNums zs).toList==(strOfNums ys).toList))/\Ext w w':=by
 have s1:=h1.str;have s2:=h2.str;clear h1 h2;go_in;go_wp2_with fail;go_ret;exact⟨rfl,Ext.refl _⟩
theorem Qt (h0:o.cell? p0=some v0) (h1:o.cell? p1=some v1) (h2:o.cell? p2=some v2) (h3:o.cell? p3=some v3) (h4:o.cell? p4=some v4) (h5:o.cell? p5=some v5) (h6:o.cell? p6=some v6) (h7:o.cell? p7=some v7) (h8:o.cell? p8=some v8) (h9:o.cell? p9=some v9) (h10:o.cell? p10=some v10) (h11:o.cell? p11=some v11) (h12:o.cell? p12=some v12) (h13:o.cell? p13=some v13) (h14:o.cell? p14=some v14) (h15:o.cell? p15=some v15) (h16:o.cell? p16=some v16) (h17:o.cell? p17=some v17) (h18:o.cell? p18=some v18) (h19:o.cell? p19=some v19) (h20:o.cell? p20=some v20) (h21:o.cell? p21=some v21) (h22:o.cell? p22=some v22) (h23:o.cell? p23=some v23) (hx:Ext o w'):w'.cell? p0=some v0/\w'.cell? p1=some v1/\w'.cell? p2=some v2/\w'.cell? p3=some v3/\w'.cell? p4=some v4/\w'.cell? p5=some v5/\w'.cell? p6=some v6/\w'.cell? p7=some v7/\w'.cell? p8=some v8/\w'.cell? p9=some v9/\w'.cell? p10=some v10/\w'.cell? p11=some v11/\w'.cell? p12=some v12/\w'.cell? p13=some v13/\w'.cell? p14=some v14/\w'.cell? p15=some v15/\w'.cell? p16=some v16/\w'.cell? p17=some v17/\w'.cell? p18=some v18/\w'.cell? p19=some v19/\w'.cell? p20=some v20/\w'.cell? p21=some v21/\w'.cell? p22=some v22/\w'.cell? p23=some v23/\Ext o w':=⟨hx.cell h0,hx.cell h1,hx.cell h2,hx.cell h3,hx.cell h4,hx.cell h5,hx.cell h6,hx.cell h7,hx.cell h8,hx.cell h9,hx.cell h10,hx.cell h11,hx.cell h12,hx.cell h13,hx.cell h14,hx.cell h15,hx.cell h16,hx.cell h17,hx.cell h18,hx.cell h19,hx.cell h20,hx.cell h21,hx.cell h22,hx.cell h23,hx⟩
theorem Oc (h:w.cell? p0=some v0/\w.cell? p1=some v1/\w.cell? p2=some v2/\w.cell? p3=some v3/\w.cell? p4=some v4/\w.cell? p5=some v5/\w.cell? p6=some v6/\w.cell? p7=some v7/\w.cell? p8=some v8/\w.cell? p9=some v9/\w.cell? p10=some v10/\w.cell? p11=some v11/\w.cell? p12=some v12/\w.cell? p13=some v13/\w.cell? p14=some v14/\w.cell? p15=some v15/\w.cell? p16=some v16/\w.cell? p17=some v17/\w.cell? p18=some v18/\w.cell? p19=some v19/\w.cell? p20=some v20/\w.cell? p21=some v21/\w.cell? p22=some v22/\w.cell? p23=some v23/\Ext o w) (hx:Ext w w'):w'.cell? p0=some v0/\w'.cell? p1=some v1/\w'.cell? p2=some v2/\w'.cell? p3=some v3/\w'.cell? p4=some v4/\w'.cell? p5=some v5/\w'.cell? p6=some v6/\w'.cell? p7=some v7/\w'.cell? p8=some v8/\w'.cell? p9=some v9/\w'.cell? p10=some v10/\w'.cell? p11=some v11/\w'.cell? p12=some v12/\w'.cell? p13=some v13/\w'.cell? p14=some v14/\w'.cell? p15=some v15/\w'.cell? p16=some v16/\w'.cell? p17=some v17/\w'.cell? p18=some v18/\w'.cell? p19=some v19/\w'.cell? p20=some v20/\w'.cell? p21=some v21/\w'.cell? p22=some v22/\w'.cell? p23=some v23/\Ext o w':=⟨hx.cell h.1,hx.cell h.2.1,hx.cell h.2.2.1,hx.cell h.2.2.2.1,hx.cell h.2.2.2.2.1,hx.cell h.2.2.2.2.2.1,hx.cell h.2.2.2.2.2.2.1,hx.cell h.2.2.2.2.2.2.2.1,hx.cell h.2.2.2.2.2.2.2.2.1,hx.cell h.2.2.2.2.2.2.2.2.2.1,hx.cell h.2.2.2.2.2.2.2.2.2.2.1,hx.cell h.2.2.2.2.2.2.2.2.2.2.2.1,hx.cell h.2.2.2.2.2.2.2.2.2.2.2.2.1,hx.cell h.2.2.2.2.2.2.2.2.2.2.2.2.2.1,hx.cell h.2.2.2.2.2.2.2.2.2.2.2.2.2.2.1,hx.cell h.2.2.2.2.2.2.2.2.2.2.2.2.2.2.2.1,hx.cell h.2.2.2.2.2.2.2.2.2.2.2.2.2.2.2.2.1,hx.cell h.2.2.2.2.2.2.2.2.2.2.2.2.2.2.2.2.2.1,hx.cell h.2.2.2.2.2.2.2.2.2.2.2.2.2.2.2.2.2.2.1,hx.cell h.2.2.2.2.2.2.2.2.2.2.2.2.2.2.2.2.2.2.2.1,hx.cell h.2.2.2.2.2.2.2.2.2.2.2.2.2.2.2.2.2.2.2.2.1,hx.cell h.2.2.2.2.2.2.2.2.2.2.2.2.2.2.2.2.2.2.2.2.2.1,hx.cell h.2.2.2.2.2.2.2.2.2.2.2.2.2.2.2.2.2.2.2.2.2.2.1,hx.cell h.2.2.2.2.2.2.2.2.2.2.2.2.2.2.2.2.2.2.2.2.2.2.2.1,h.2.2.2.2.2.2.2.2.2.2.2.2.2.2.2.2.2.2.2.2.2.2.2.2.trans hx⟩
theorem Ki {p:Int} (hp:p=1\/p=3\/p=6\/p=7\/p=8\/p=14) {d1 d2:Value} (h1:Sl w d1 []) (h2:Sl w d2 []):
  Calls prog 137 #[({proc:=p}:AV).val d1,({proc:=p}:AV).val d2] w λ r w'=>r= .returned (.bool true)/\Ext w w':=by
 obtain⟨a1,c1,rfl,q1,-⟩:=h1;obtain⟨a2,c2,rfl,q2,-⟩:=h2;obtain⟨n,hn⟩:∃n,n=([]:List Int).length:=⟨_,rfl⟩;rw[<-hn] at q1 q2|-
 have HE:=hid (show∀W,Ext w W->Calls prog 216 #[.slice a1 n c1,.slice a2 n c2] W λ r w'=>r= .returned (.bool true)/\Ext W w' from λ W hx=>(Db a1 a2 n n c1 c2 [] [] W (q1.ext hx) (q2.ext hx)).mono (λ r w' q=>⟨by rw[q.1];simp,q.2⟩));clear q1 q2 hn;have h9:=λ W=>eq9 p hp W
 clear hp;dsimp only[AV.val];go_in;go_wp2_with fail;obtain⟨W0,hW0⟩:∃W,W=((w.alloc (.cells (pR p 0 0 0 0 0 0 0 0 ⟨#[]⟩ ⟨#[]⟩ (.slice a1 n c1)) 137)).alloc (.cells (pR p 0 0 0 0 0 0 0 0 ⟨#[]⟩ ⟨#[]⟩ (.slice a2 n c2)) 137)):=⟨_,rfl⟩;rw[<-hW0];obtain⟨hb,hr,X0⟩:=AH w (.cells (pR p 0 0 0 0 0 0 0 0 ⟨#[]⟩ ⟨#[]⟩ (.slice a1 n c1)) 137) (.cells (pR p 0 0 0 0 0 0 0 0 ⟨#[]⟩ ⟨#[]⟩ (.slice a2 n c2)) 137);rw[<-hW0] at hb hr X0;have HX0:=hid X0;obtain⟨b0,b1,b2,b3,b4,b5,b6,b7,b8,b9,b10,b11,-⟩:=CM hb;obtain⟨d0,d1,d2,d3,d4,d5,d6,d7,d8,d9,d10,d11,-⟩:=CM hr;clear hW0 X0 hb hr;have XD:=(Ext.refl W0).drew;go_region_held3 (λ w'=>w'.cell? (dD w.heap.size 0)=some (iI p)/\w'.cell? (dD w.heap.size 1)=some (iI 0)/\w'.cell? (dD w.heap.size 2)=some (iI 0)/\w'.cell? (dD w.heap.size 3)=some (iI 0)/\w'.cell? (dD w.heap.size 4)=some (iI 0)/\w'.cell? (dD w.heap.size 5)=some (iI 0)/\w'.cell? (dD w.heap.size 6)=some (iI 0)/\w'.cell? (dD w.heap.size 7)=some (iI 0)/\w'.cell? (dD w.heap.size 8)=some (iI 0)/\w'.cell? (dD w.heap.size 9)=some (eE)/\w'.cell? (dD w.heap.size 10)=some (eE)/\w'.cell? (dD w.heap.size 11)=some (.slice a1 n c1)/\w'.cell? (dD (w.heap.size+1) 0)=some (iI p)/\w'.cell? (dD (w.heap.size+1) 1)=some (iI 0)/\w'.cell? (dD (w.heap.size+1) 2)=some (iI 0)/\w'.cell? (dD (w.heap.size+1) 3)=some (iI 0)/\w'.cell? (dD (w.heap.size+1) 4)=some (iI 0)/\w'.cell? (dD (w.heap.size+1) 5)=some (iI 0)/\w'.cell? (dD (w.heap.size+1) 6)=some (iI 0)/\w'.cell? (dD (w.heap.size+1) 7)=some (iI 0)/\w'.cell? (dD (w.heap.size+1) 8)=some (iI 0)/\w'.cell? (dD (w.heap.size+1) 9)=some (eE)/\w'.cell? (dD (w.heap.size+1) 10)=some (eE)/\w'.cell? (dD (w.heap.size+1) 11)=some (.slice a2 n c2)/\Ext W0 w') (first|with_reducible exact Qt b0 b1 b2 b3 b4 b5 b6 b7 b8 b9 b10 b11 d0 d1 d2 d3 d4 d5 d6 d7 d8 d9 d10 d11 XD|with_reducible exact Oc (by assumption) X1|with_reducible exact Oc (by assumption) X3) (first|(go_at_call 215;refine(I5 _ _ _ _ _ _ _ _ _ _ _ _ _).mono ?_;first|(rintro r w1 ⟨rfl,X1⟩))|(go_at_call 216;refine(HE.o _ (HX0.o.trans (Uk (Uk (Uk (Uk (Uk (Uk (Uk (Uk (Uk (Uk (Uk (Uk (Uk (Uk (Uk (Uk (Uk (Uk (Uk (Uk (Uk (Uk (Uk (Uk (by assumption))))))))))))))))))))))))))).mono ?_;rintro r w3 ⟨rfl,X3⟩))
 have HX3:=hid (HX0.o.trans (show Ext W0 w3 from(Uk (Uk (Uk (Uk (Uk (Uk (Uk (Uk (Uk (Uk (Uk (Uk (Uk (Uk (Uk (Uk (Uk (Uk (Uk (Uk (Uk (Uk (Uk (Uk (by assumption)))))))))))))))))))))))))));clear b0 b1 b2 b3 b4 b5 b6 b7 b8 b9 b10 b11 d0 d1 d2 d3 d4 d5 d6 d7 d8 d9 d10 d11 X3;go_wp2_with fail;go_ret;exact⟨rfl,HX3.o⟩
def NJ:Nat->FuncId
 |0=>206
 |1=>207
 |2=>208
 |3=>209
 |4=>210
 |5=>211
 |6=>212
 |7=>213
 |_=>214
theorem Lw (lb:Nat) (hf:f<=8):look (SF lb) (f:Int)=some (bnd (NJ f) lb):=by
 have:f=0\/f=1\/f=2\/f=3\/f=4\/f=5\/f=6\/f=7\/f=8:=by omega
 rcases this with rfl|rfl|rfl|rfl|rfl|rfl|rfl|rfl|rfl<;>rfl
theorem Py {a:AV} (f:Nat) (hf:f<=8) (h:Ax lb a ds zs base w) (ok:a.Ok ds) (hl:zs.length<=50000):
  Way (NJ f) lb a (a.less f) ds (CW ds f) zs (zs++a.fb ds f) base w #[]:=by
 have:f=0\/f=1\/f=2\/f=3\/f=4\/f=5\/f=6\/f=7\/f=8:=by omega
 rcases this with rfl|rfl|rfl|rfl|rfl|rfl|rfl|rfl|rfl
 ·exact QA h ok hl
 ·exact NK h ok hl
 ·exact Sk h ok hl
 ·exact Pz h ok hl
 ·exact RB h (by omega) ok.off.1 ok.off.2
 ·exact QC h ok hl
 ·exact Sj h ok hl
 ·exact Sm h ok hl
 ·exact OY h (by omega) ok.data
def B7:List Int->List Nat->List Int
 |ds,[]=>ds
 |ds,f::l=>B7 (CW ds f) l
theorem EX (f:Nat):∀(l:List Nat) (a:AV),a.rest (l++[f])=(a.rest l).less f
 |[],_=>rfl
 |g::l,a=>EX f l (a.less g)
theorem Dq (f:Nat):∀(l:List Nat) (ds:List Int),B7 ds (l++[f])=CW (B7 ds l) f
 |[],_=>rfl
 |g::l,ds=>Dq f l (CW ds g)
theorem JE (f:Nat):∀(l:List Nat) (a:AV) (ds:List Int),a.lay ds (l++[f])=a.lay ds l++(a.rest l).fb (B7 ds l) f
 |[],a,ds=>by simp[AV.lay,AV.rest,B7]
 |g::l,a,ds=>by
  show a.fb ds g++(a.less g).lay (CW ds g) (l++[f])=_
  rw[JE f l];simp[AV.lay,AV.rest,B7]
theorem Hw:∀(l:List Nat) (a:AV) (ds:List Int),a.Ok ds->(a.rest l).Ok (B7 ds l)
 |[],_,_,h=>h
 |f::l,a,ds,h=>Hw l _ _ (h.less f)
theorem FB:∀(l:List Nat) (a:AV) (ds:List Int),a.Ok ds->(a.lay ds l).length<=2100*l.length
 |[],_,_,_=>by simp[AV.lay]
 |f::l,a,ds,h=>by
  have h1:=AV.fb_len h f;have h2:=FB l _ _ (h.less f);simp only[AV.lay,Uc,Un];omega
theorem AL {f:FuncId} {fn:Func} {c:Code} (hf:P.funcs[f]?=some fn) (hname:(fn.name== "runtime.NumGoroutine")=false) (hb:fn.body=some c) (args:Array Value) (w:World):
  (callFunc f args).run P w= .ok (.enter f args) w:=by
 have h1:fn.name≠ "runtime.NumGoroutine" :=by simpa using hname
 simp[callFunc,hf,h1,hb]
theorem Jr (hf:f<=8) (args:Array Value) (w:World):(callFunc (NJ f) args).run prog w= .ok (.enter (NJ f) args) w:=by
 have:f=0\/f=1\/f=2\/f=3\/f=4\/f=5\/f=6\/f=7\/f=8:=by omega
 rcases this with rfl|rfl|rfl|rfl|rfl|rfl|rfl|rfl|rfl
 ·exact AL func206 (by kernel_rfl) rfl _ _
 ·exact AL func207 (by kernel_rfl) rfl _ _
 ·exact AL func208 (by kernel_rfl) rfl _ _
 ·exact AL func209 (by kernel_rfl) rfl _ _
 ·exact AL func210 (by kernel_rfl) rfl _ _
 ·exact AL func211 (by kernel_rfl) rfl _ _
 ·exact AL func212 (by kernel_rfl) rfl _ _
 ·exact AL func213 (by kernel_rfl) rfl _ _
 ·exact AL func214 (by kernel_rfl) rfl _ _
theorem Ap.lookup1 {b:Nat} {q:IntKind} {l:List (Int×Value)} {T K E:TypeId} (h:Ap w b q l) (hT:P.underlying T=some (.map K E)) (hK:P.underlying K=some (.int q)) {k:Int} {u:Value} (hu:look l k=some u):
  (Instr.lookup T (.map (some b)) (.int q k) false).run P w= .ok u w:=by
 obtain⟨es,clock,hb,he,_⟩:=h;unfold Instr.lookup;cases hs:EW l k 0 with
 |none=>
  have hl:=(Ck l 0 hs).1;rw[hl] at hu;cases hu
 |some r=>
  obtain⟨j,v⟩:=r;obtain⟨_,_,_,hl,_⟩:=Cj l 0 j v hs;rw[hl] at hu;injection hu with hu;subst hu;simp[Sem.run_bind,run_underlying hT,getObj,Sem.run,hb,BC hK,Ai hK he,hs]
theorem Ax.ext {a:AV} (h:Ax lb a ds zs base w) (hx:Ext w w'):Ax lb a ds zs base w':=by
 obtain⟨d,v,hB,hO,hW,hS,hd,hv,hb⟩:=h;exact⟨d,v,hx.heap hB,hO.ext hx,hW,hS.ext hx,hd,hv,Nat.le_trans hb hx.size⟩
end Go.Proofs.YtdakioiagpkfhaaGreatDoor
