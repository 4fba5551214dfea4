import Derived.Test.YtdakioiagpkfhaaGreatDoorP19
set_option maxRecDepth 99999
set_option maxHeartbeats 0
set_option linter.all false
namespace Go.Proofs.YtdakioiagpkfhaaGreatDoor
open RowKit Conc
open Go.Proofs.Tryz
variable {F Fr:List Nat} {a1 a2 d dv v:Value} {db fb g nb nodes o room used:Nat} {md:Int} {s:ByteArray} {t:TypeId} {w w':World} {zs:List Int}
section
open inoP
theorem EZ {o:World} {p1 p2:Addr} (h1:o.cell? p1=some a1) (h2:o.cell? p2=some a2) (hx:Ext o w'):w'.cell? p1=some a1/\w'.cell? p2=some a2/\Ext o w':=⟨hx.cell h1,hx.cell h2,hx⟩
theorem Ir {c:FsC} {ps:List Pl} (h:FsI c room used ps w) (hs:AP s) (hD:AW c.db [⟨s,2,1⟩] w F) (hp:∃h:1<ps.length,ps[1]=⟨true,1,some ⟨nb,0,none⟩⟩) {a:AV} (ha1:a.h1=1) (ha2:a.h2=1) (hk1:a.k1=1) (hk2:a.k2=1) (hn:a.name=s) (hn2:a.name2=s):
  Calls prog 379 #[pP c.fb 0,a.val d] w λ r w'=>r= .returned (.tuple #[({}:RV).val (nN),iI 0])/\Ext w w':=by
 have HFo:=hid (λ W (hx:Ext w W)=>BX (h.ext hx));have HNm:=hid (λ W=>CV hs W);have HFi:=hid (λ W (hx:Ext w W)=>Gn (h.ext hx) hs ((AW.loc _ _).2 _ _ _ [] hD (hx.upd []) (λ _ _=>by simp)) hp);have HHo:=hid (λ W (hx:Ext w W)=>JK (h.ext hx));have HGe:=hid (λ W (hx:Ext w W)=>IP ((AW.loc c.db [⟨s,2,1⟩]).2 _ _ _ [] hD (hx.upd []) (λ _ _=>by simp)) (by intro i j hi hj hij;simp at hi hj;omega) (by simp) (k:=0) (by simp));have HI:=hid h;obtain⟨p0,p1,p2,p3,p4,q5,q6,q7,q8,q9,q10⟩:=a;obtain rfl:q5=1:=ha1;obtain rfl:q6=1:=ha2;obtain rfl:q7=1:=hk1;obtain rfl:q8=1:=hk2;obtain rfl:q9=s:=hn;obtain rfl:q10=q9:=hn2;dsimp only[AV.val,RV.val] at*;dsimp only[List.getElem_cons_zero] at HGe;clear h hs hD hp;go_in;go_wp2_with fail;obtain⟨W0,hW0⟩:∃W,W=((w.alloc (.cells (pR p0 p1 p2 p3 p4 1 1 1 1 q10 q10 d) 137)).alloc (.cells rZ 142)):=⟨_,rfl⟩;rw[<-hW0];obtain⟨hb,hr,X0⟩:=AH w (.cells (pR p0 p1 p2 p3 p4 1 1 1 1 q10 q10 d) 137) (.cells rZ 142);rw[<-hW0] at hb hr X0;have HX0:=hid X0;have HR:=hid hr;have HB:=hid hb
 clear hW0 X0 hb hr;go_wp2_with fail;refine(HFo.o W0 HX0.o).mono ?_;rintro r w1 ⟨rfl,X1⟩;have HX1:=hid (HX0.o.trans X1);have HY1:=hid X1;have c7:=cA (X1.heap HB.o) 7 rfl;have c8:=cA (X1.heap HB.o) 8 rfl;clear X1;go_wp2_with fail;refine(HFo.o _ HX1.o).mono ?_;rintro r w2 ⟨rfl,X2⟩;have HX2:=hid (HX1.o.trans X2);have HY2:=hid (HY1.o.trans X2);obtain⟨b0,b1,b2,b3,b4,b5,b6,b7,b8,b9,b10,b11,-⟩:=CM (HY2.o.heap HB.o);clear X2 c7 c8;go_wp2_with (go_at_call 271;refine(HNm.o _).mono ?_;rintro r w3 ⟨rfl,rfl⟩);refine(HFi.o _ HX2.o).mono ?_;rintro r w3 ⟨rfl,X3⟩;have HX3:=hid (HX2.o.trans X3);have HY3:=hid (HY2.o.trans X3);clear X3 b0 b1 b2 b3 b4 b5 b6 b7 b8 b9 b10 b11;have c7:w3.cell? (dD w.heap.size 7)=some (iI 1):=cA (HY3.o.heap HB.o) 7 rfl;have c8:w3.cell? (dD w.heap.size 8)=some (iI 1):=cA (HY3.o.heap HB.o) 8 rfl;have hbs:=lH (HY3.o.heap HB.o);go_wp2_with fail;obtain⟨W4,hW4⟩:∃W,W=w3.alloc (.cells #[iI 2,iI 1] 82):=⟨_,rfl⟩;rw[<-hW4];have X4:Ext w3 W4:=by rw[hW4];exact(Ext.refl _).alloc _
 have hh:W4.heap[w3.heap.size]?=oC #[iI 2,iI 1] 82:=by rw[hW4];exact Ub w3 _
 have HX4:=hid (HX3.o.trans X4);have HY4:=hid (HY3.o.trans X4);have HH:=hid hh;clear c7 c8 X4 hh;clear hW4;refine(HHo.o _ HX4.o).mono ?_;rintro r w5 ⟨rfl,X5⟩;have HX5:=hid (HX4.o.trans X5);have HY5:=hid (HY4.o.trans X5);have HH5:=hid (X5.heap HH.o);have r3:=cA (HX5.o.heap HI.o.root) 3 rfl;have c10:=cA (HY5.o.heap HB.o) 10 rfl;clear X5;go_wp2_with fail;go_region_held3 (λ w'=>w'.cell? (dD c.rb 3)=some (pP c.db 0)/\w'.cell? (dD w.heap.size 10)=some (.string q10)/\Ext w5 w') (first|exact⟨r3,c10,(Ext.refl w5).drew⟩|exact Fe (by assumption) X6|exact Fe (by assumption) ((Ext.refl _).alloc _)|exact EZ r3 c10 (((Ext.refl w5).drew.trans X6).alloc _)|exact EZ r3 c10 (((Ext.refl w5).drew).alloc _)|exact EZ r3 c10 ((DC _ _ _ _).ext ((((Ext.refl w5).drew).alloc _).trans X6) (by simp))|assumption) (first|(go_at_call 413;refine(HGe.o _ (HX5.o.trans (Uk (Uk (by assumption))))).mono ?_;rintro r w6 ⟨rfl,X6⟩;try(obtain⟨z0,z1,z2,z3⟩:=Al (by with_reducible exact X6.heap (Ub _ _));have hzs:=lH (by with_reducible exact X6.heap (Ub _ _)))))
 ·obtain⟨W7,hW7⟩:∃W,W=(w6.alloc (.cells #[iI 2,iI 1] 82)):=⟨_,rfl⟩;rw[<-hW7];have X7:Ext w5 W7:=by rw[hW7];exact(((Ext.refl w5).drew.trans X6).alloc _)
  have hh7:W7.heap[w6.heap.size]?=oC #[iI 2,iI 1] 82:=by rw[hW7];exact Ub w6 _
  obtain⟨m0,m1,-,-⟩:=Al hh7;obtain⟨h0,h1,-,-⟩:=Al (X7.heap HH5.o);have hr7:=X7.heap (HY5.o.heap HR.o);obtain⟨r0,r1,r2,r3,r4,r5,r6,r7,r8,r9,rf⟩:=AC hr7;have HR7:=hid hr7;have HX7:=hid (HX5.o.trans X7);clear X7 hh7 hr7 hW7 X6;go_wp2_with fail;refine Aa (R:=w.heap.size+1) (w0:=W7) (Pr:=λ W=>bodyPost _ _ _ _ _ W) _ (Ao HR7.o) (AX _ _ _ _ _ _ _ _ _ _ _ _) ?_;clear r0 r1 r2 r3 r4 r5 r6 r7 r8 r9 rf;intro W hR hU;obtain⟨r0,r1,r2,r3,r4,r5,r6,r7,r8,r9,-⟩:=AC hR;exact Ue (v:= .tuple #[.agg rZ,iI 0]) (by simp[results,results379,go_sem,r0,r1,r2,r3,r4,r5,r6,r7,r8,r9]) rfl ⟨rfl,hU.ext HX7.o (by simp)⟩
 ·obtain⟨W7,hW7⟩:∃W,W=((w6.setCell (dD w5.heap.size 0) (iI 2)).setCell (dD w5.heap.size 1) (iI 1)):=⟨_,rfl⟩;rw[<-hW7];have X7:Ext w5 W7:=by rw[hW7];exact((DC _ _ _ _).ext ((((Ext.refl w5).drew).alloc _).trans X6) (by simp))
  have hh7:W7.heap[w5.heap.size]?=oC #[iI 2,iI 1] 82:=by rw[hW7];exact MR (X6.heap (Ub w5.drew _))
  obtain⟨m0,m1,-,-⟩:=Al hh7;obtain⟨h0,h1,-,-⟩:=Al (X7.heap HH5.o);have hr7:=X7.heap (HY5.o.heap HR.o);obtain⟨r0,r1,r2,r3,r4,r5,r6,r7,r8,r9,rf⟩:=AC hr7;have HR7:=hid hr7;have HX7:=hid (HX5.o.trans X7);clear X7 hh7 hr7 hW7 X6;go_wp2_with fail;refine Aa (R:=w.heap.size+1) (w0:=W7) (Pr:=λ W=>bodyPost _ _ _ _ _ W) _ (Ao HR7.o) (AX _ _ _ _ _ _ _ _ _ _ _ _) ?_;clear r0 r1 r2 r3 r4 r5 r6 r7 r8 r9 rf;intro W hR hU;obtain⟨r0,r1,r2,r3,r4,r5,r6,r7,r8,r9,-⟩:=AC hR;exact Ue (v:= .tuple #[.agg rZ,iI 0]) (by simp[results,results379,go_sem,r0,r1,r2,r3,r4,r5,r6,r7,r8,r9]) rfl ⟨rfl,hU.ext HX7.o (by simp)⟩
end
section
open inoP
theorem PQ {e0 e:EV} {i:Nat} (hi:i<=1) (h:AW db ([e0].insertIdx i e) w F) (hr:Bg ([e0].insertIdx i e)):
  Calls prog 409 #[pP db 0,.string e0.name] w λ r w'=>
   r= .returned (iI 0)/\∃F',AW db [e] w' F'/\Mv w w' F F':=by
 obtain rfl|rfl:i=0\/i=1:=by omega
 ·exact Sd (e0:=e) (e1:=e0) h hr (i:=1) (by decide) _ (by simp) (by simp)
 ·exact Sd (e0:=e0) (e1:=e) h hr (i:=0) (by decide) _ (by simp) (by simp)
theorem KJ {c0 c1 c2 c3 c4:Value} (h:w.heap[g]?=oC #[c0,c1,c2,c3,c4] t):((w.setCell (dD g 1) a1).setCell (dD g 2) a2).heap[g]?=oC #[c0,a1,a2,c3,c4] t:=by
 replace h:=show _=some (Obj.cells #[c0,a1,c2,c3,c4] t (0,0)) from jP (i:=1) a1 h
 replace h:=show _=some (Obj.cells #[c0,a1,a2,c3,c4] t (0,0)) from jP (i:=2) a2 h
 exact h
theorem Jt (w:World) (g:Nat) (a1 a2:Value):Upd [g] w ((w.setCell (dD g 1) a1).setCell (dD g 2) a2):=(((Upd.refl [g] w).setCell _ _ (.inl (by simp))).setCell _ _ (.inl (by simp)))
theorem KD {c:FsC} {ps:List Pl} (h:FsI c room used ps w) {s2:ByteArray} (hs:AP s) (hs2:AP s2) (hne:s≠s2) (hD:AW c.db [⟨s,2,1⟩] w F) (hn:Az nb md dv w) (hp:∃h:1<ps.length,ps[1]=⟨true,1,some ⟨nb,0,none⟩⟩) {a:AV} (ha1:a.h1=1) (ha2:a.h2=1) (hk1:a.k1=1) (hk2:a.k2=1) (hn1:a.name=s) (hn2:a.name2=s2):
  Calls prog 379 #[pP c.fb 0,a.val d] w λ r w'=>r= .returned (.tuple #[({}:RV).val (nN),iI 0])/\
   FsI c room used ps w'/\Az nb md dv w'/\∃F',AW c.db [⟨s2,2,1⟩] w' F'/\Upd (nb::F) w w'/\∀b∈F',b∈F\/w.heap.size<=b:=by
 have HFo:=hid (λ W (hx:Ext w W)=>BX (h.ext hx));have HNm:=hid (λ W=>CV hs W);have HNm2:=hid (λ W=>CV hs2 W);have HFi:=hid (λ W (hx:Ext w W)=>Gn (h.ext hx) hs ((AW.loc _ _).2 _ _ _ [] hD (hx.upd []) (λ _ _=>by simp)) hp);have HHo:=hid (λ W (hx:Ext w W)=>JK (h.ext hx));have HGe:=hid (λ W (hx:Ext w W)=>IQ ((AW.loc c.db [⟨s,2,1⟩]).2 _ _ _ [] hD (hx.upd []) (λ _ _=>by simp)) (by intro i j hi hj hij;simp at hi hj;omega) (by simp) s2 (by intro k hk;simp at hk;subst hk;exact hne));have HPu:=hid (λ W (hx:Ext w W)=>dput ((AW.loc c.db [⟨s,2,1⟩]).2 _ _ _ [] hD (hx.upd []) (λ _ _=>by simp)) (by intro i j hi hj hij;simp at hi hj;omega) (by simp) (e:=⟨s2,2,1⟩) hs2 (by intro k hk;simp at hk;subst hk;exact hne));have HI:=hid h;have HN:=hid hn;have HD:=hid hD;have hfl:=lH h.fs;have hnl:=lH hn;obtain⟨p0,p1,p2,p3,p4,q5,q6,q7,q8,q9,q10⟩:=a;obtain rfl:q5=1:=ha1;obtain rfl:q6=1:=ha2;obtain rfl:q7=1:=hk1;obtain rfl:q8=1:=hk2;obtain rfl:q9=s:=hn1;obtain rfl:q10=s2:=hn2;dsimp only[AV.val,RV.val] at*;clear h hs hs2 hne hD hp hn;go_in;go_wp2_with fail;obtain⟨W0,hW0⟩:∃W,W=((w.alloc (.cells (pR p0 p1 p2 p3 p4 1 1 1 1 q9 q10 d) 137)).alloc (.cells rZ 142)):=⟨_,rfl⟩;rw[<-hW0];obtain⟨hb,hr,X0⟩:=AH w (.cells (pR p0 p1 p2 p3 p4 1 1 1 1 q9 q10 d) 137) (.cells rZ 142)
 rw[<-hW0] at hb hr X0;have HX0:=hid X0;have HR:=hid hr;have HB:=hid hb;clear hW0 X0 hb hr;go_wp2_with fail;refine(HFo.o W0 HX0.o).mono ?_;rintro r w1 ⟨rfl,X1⟩;have HX1:=hid (HX0.o.trans X1);have HY1:=hid X1;have c7:=cA (X1.heap HB.o) 7 rfl;have c8:=cA (X1.heap HB.o) 8 rfl;clear X1;go_wp2_with fail;refine(HFo.o _ HX1.o).mono ?_;rintro r w2 ⟨rfl,X2⟩;have HX2:=hid (HX1.o.trans X2);have HY2:=hid (HY1.o.trans X2);obtain⟨b0,b1,b2,b3,b4,b5,b6,b7,b8,b9,b10,b11,-⟩:=CM (HY2.o.heap HB.o);clear X2 c7 c8;go_wp2_with (go_at_call 271;(first|with_reducible refine(HNm.o _).mono ?_|with_reducible refine(HNm2.o _).mono ?_);rintro r w3 ⟨rfl,rfl⟩);refine(HFi.o _ HX2.o).mono ?_;rintro r w3 ⟨rfl,X3⟩;have HX3:=hid (HX2.o.trans X3);have HY3:=hid (HY2.o.trans X3);clear X3 b0 b1 b2 b3 b4 b5 b6 b7 b8 b9 b10 b11;have c7:w3.cell? (dD w.heap.size 7)=some (iI 1):=cA (HY3.o.heap HB.o) 7 rfl;have c8:w3.cell? (dD w.heap.size 8)=some (iI 1):=cA (HY3.o.heap HB.o) 8 rfl;have hbs:=lH (HY3.o.heap HB.o);go_wp2_with fail;obtain⟨W4,hW4⟩:∃W,W=w3.alloc (.cells #[iI 2,iI 1] 82):=⟨_,rfl⟩;rw[<-hW4];have X4:Ext w3 W4:=by rw[hW4];exact(Ext.refl _).alloc _
 have hh:W4.heap[w3.heap.size]?=oC #[iI 2,iI 1] 82:=by rw[hW4];exact Ub w3 _
 have HX4:=hid (HX3.o.trans X4);have HY4:=hid (HY3.o.trans X4);have HH:=hid hh;clear c7 c8 X4 hh;clear hW4;refine(HHo.o _ HX4.o).mono ?_;rintro r w5 ⟨rfl,X5⟩;have HX5:=hid (HX4.o.trans X5);have HY5:=hid (HY4.o.trans X5);have HH5:=hid (X5.heap HH.o);have r3:=cA (HX5.o.heap HI.o.root) 3 rfl;have c10:=cA (HY5.o.heap HB.o) 10 rfl;clear X5;go_wp2_with fail;go_region_held3 (λ w'=>w'.cell? (dD c.rb 3)=some (pP c.db 0)/\w'.cell? (dD w.heap.size 10)=some (.string q10)/\Ext w5 w') (first|exact⟨r3,c10,(Ext.refl w5).drew⟩|exact Fe (by assumption) X6|exact Fe (by assumption) ((Ext.refl _).alloc _)|exact EZ r3 c10 (((Ext.refl w5).drew.trans X6).alloc _)|exact EZ r3 c10 (((Ext.refl w5).drew).alloc _)|exact EZ r3 c10 ((DC _ _ _ _).ext ((((Ext.refl w5).drew).alloc _).trans X6) (by simp))|assumption) (first|(go_at_call 413;refine(HGe.o _ (HX5.o.trans (Uk (Uk (by assumption))))).mono ?_;rintro r w6 ⟨rfl,X6⟩;try(obtain⟨z0,z1,z2,z3⟩:=Al (by with_reducible exact X6.heap (Ub _ _));have hzs:=lH (by with_reducible exact X6.heap (Ub _ _)))))
 ·obtain⟨W7,hW7⟩:∃W,W=(w6.alloc (.cells #[iI 0,iI 0] 82)):=⟨_,rfl⟩;rw[<-hW7];have X7:Ext w5 W7:=by rw[hW7];exact(((Ext.refl w5).drew.trans X6).alloc _)
  have HX7:=hid (HX5.o.trans X7);have HY7:=hid (HY5.o.trans X7);have HH7:=hid (X7.heap HH5.o);have HF:=hid ((AW.loc _ _).1 _ _ HD.o);have hF:=HF.o;have hrb:=(HI.o.notin HD.o).2.2.2.2;have q1:w.heap.size∉F:=λ hm=>by have:=hF _ hm;omega
  have q2:w.heap.size+1∉F:=λ hm=>by have:=hF _ hm;omega
  have q3:w3.heap.size∉F:=λ hm=>by have:=hF _ hm;omega
  have q4:nb∉F:=HD.o.notin HN.o (by decide) (by decide);have hrbl:=HI.o.lt.2.2.2.2;have hb7:=lH (HY7.o.heap HR.o);obtain⟨h0,h1,-,-⟩:=Al HH7.o;have r3:=cA (HX7.o.heap HI.o.root) 3 rfl;have c10:=cA (HY7.o.heap HB.o) 10 rfl;clear X7 hW7 X6 hF;go_wp2_with fail;have s0:W7.drew.cell? (dD c.rb 3)=some (pP c.db 0):=r3;have s1:W7.drew.cell? (dD w.heap.size 10)=some (.string q10):=c10;have s2:W7.drew.cell? (dD w3.heap.size 0)=some (iI 2):=h0;have s3:W7.drew.cell? (dD w3.heap.size 1)=some (iI 1):=h1;have s4:Upd F W7 W7.drew:=(Upd.refl F W7).drew;go_region_held3 (λ w'=>w'.cell? (dD c.rb 3)=some (pP c.db 0)/\w'.cell? (dD w.heap.size 10)=some (.string q10)/\w'.cell? (dD w3.heap.size 0)=some (iI 2)/\w'.cell? (dD w3.heap.size 1)=some (iI 1)/\Upd F W7 w') (first|with_reducible exact⟨s0,s1,s2,s3,s4⟩|with_reducible exact IJ (by assumption) (M8) hrb q1 q3 q3|with_reducible assumption) (first|(go_at_call 416;refine(HPu.o _ HX7.o.drew).mono ?_;rintro r w8 ⟨rfl,i8,F8,hi8,D8,R8,M8,N8⟩));have HD8:=hid D8;have HR8:=hid R8;have HU8:=hid ((Upd.refl F W7).drew.trans M8);have HN8:=hid (show∀b∈F8,b∈F\/W7.heap.size<=b from N8);have HL8:=hid hi8;clear s0 s1 s2 s3 s4 h0 h1 r3 c10 D8 R8 M8 N8 hi8;have hz8:=HU8.o.size;have r3:=cA (HU8.o.heap (HX7.o.heap HI.o.root) hrb) 3 rfl;have c9:=cA (HU8.o.heap (HY7.o.heap HB.o) q1) 9 rfl;have hrb8:c.rb∉F8:=λ hm=>by rcases HN8.o _ hm with k|k;exact hrb k;omega
  have p1:w.heap.size∉F8:=λ hm=>by rcases HN8.o _ hm with k|k;exact q1 k;omega
  have p2:w.heap.size+1∉F8:=λ hm=>by rcases HN8.o _ hm with k|k;exact q2 k;omega
  have p4:nb∉F8:=λ hm=>by rcases HN8.o _ hm with k|k;exact q4 k;omega
  go_wp2_with fail;have s0:w8.drew.cell? (dD c.rb 3)=some (pP c.db 0):=r3;have s1:w8.drew.cell? (dD w.heap.size 9)=some (.string q9):=c9;have s4:Upd F8 w8 w8.drew:=(Upd.refl F8 w8).drew;go_region_held3 (λ w'=>w'.cell? (dD c.rb 3)=some (pP c.db 0)/\w'.cell? (dD w.heap.size 9)=some (.string q9)/\Upd F8 w8 w') (first|with_reducible exact⟨s0,s1,s4⟩|with_reducible exact Oa (by assumption) (M9) hrb8 p1|with_reducible assumption) (first|(go_at_call 409;refine(PQ (e0:=⟨q9,2,1⟩) HL8.o ((AW.loc _ _).2 _ _ _ [] HD8.o ((Upd.refl [] w8).drew) (λ _ _=>by simp)) HR8.o).mono ?_;rintro r w9 ⟨rfl,F9,D9,M9,N9⟩));have HD9:=hid D9;have HU9:=hid (HU8.o.trans2 ((Upd.refl F8 w8).drew.trans M9) HN8.o);have HN9:=hid (show∀b∈F9,b∈F\/W7.heap.size<=b from λ b hb=>by
   rcases N9 b hb with k|k
   ·exact HN8.o b k
   ·exact .inr (Nat.le_trans hz8 k))
  clear s0 s1 s4 r3 c9 D9 M9 N9;have c7:w9.cell? (dD w.heap.size 7)=some (iI 1):=cA (HU9.o.heap (HY7.o.heap HB.o) q1) 7 rfl;have c8:w9.cell? (dD w.heap.size 8)=some (iI 1):=cA (HU9.o.heap (HY7.o.heap HB.o) q1) 8 rfl;have HN9n:=hid (HU9.o.heap (HX7.o.heap HN.o) q4);obtain⟨n0,n1,n2,n3,n4,nf⟩:=Cq HN9n.o;have HR9:=hid (HU9.o.heap (HY7.o.heap HR.o) q2);obtain⟨r0,r1,r2,r3,r4,r5,r6,r7,r8,r9,rf⟩:=AC HR9.o;have hns:=lH HN9n.o;have hbs:=lH (HU9.o.heap (HY7.o.heap HB.o) q1);go_wp2_with fail;obtain⟨wM,hM⟩:∃W,W=((w9.setCell (dD nb 1) (iI 1)).setCell (dD nb 2) (iI 1)):=⟨_,rfl⟩;rw[<-hM];have UM:=Jt w9 nb (iI 1) (iI 1);have NM:=KJ (a1:= iI 1) (a2:= iI 1) HN9n.o;rw[<-hM] at UM NM;refine Aa (R:=w.heap.size+1) (w0:=wM) (Pr:=λ W=>bodyPost _ _ _ _ _ W) _ (Ao (UM.heap HR9.o (by simp;omega))) (AX _ _ _ _ _ _ _ _ _ _ _ _) ?_;clear r0 r1 r2 r3 r4 r5 r6 r7 r8 r9 rf n0 n1 n2 n3 n4 nf hM;intro W hR hU;obtain⟨r0,r1,r2,r3,r4,r5,r6,r7,r8,r9,-⟩:=AC hR;have nn:=Az.ne HI.o HN.o;have fo:=HI.o.notin HD.o;have fl:=HI.o.lt;have f9:∀b,b<w.heap.size\/b=w.heap.size+1->b∉F->b∉F9:=λ b hb hn hm=>by rcases HN9.o b hm with k|k;exact hn k;omega
  refine Ue (v:= .tuple #[.agg rZ,iI 0]) (by simp[results,results379,go_sem,r0,r1,r2,r3,r4,r5,r6,r7,r8,r9]) rfl ⟨rfl,?_,?_,F9,?_,?_,?_⟩
  ·have i9:=(HI.o.ext HX7.o).upd HU9.o fo.1 fo.2.1 fo.2.2.1 fo.2.2.2.1 fo.2.2.2.2;have iM:=i9.upd UM (by simp;omega) (by simp;omega) (by simp;omega) (by simp;omega) (by simp;omega);exact iM.upd hU (by simp;omega) (by simp;omega) (by simp;omega) (by simp;omega) (by simp;omega)
  ·exact hU.heap NM (by simp;omega)
  ·refine(AW.loc _ _).2 _ _ _ _ ((AW.loc _ _).2 _ _ _ _ HD9.o UM (λ b hb=> ?_)) hU (λ b hb=> ?_)
   ·simp only[List.mem_singleton];rintro rfl;exact f9 _ (.inl hnl) q4 hb
   ·simp only[List.mem_singleton];rintro rfl;exact f9 _ (.inr rfl) q2 hb
  ·exact(((HX7.o.upd _).trans (HU9.o.mono (λ k hk=>List.mem_cons_of_mem _ hk))).trans (UM.mono (λ k hk=>by simp at hk;simp[hk]))).trans2 hU (λ i hi=> .inr (by simp at hi;omega))
  ·intro b hb;rcases HN9.o b hb with k|k
   ·exact .inl k
   ·exact .inr (by omega)
 ·obtain⟨W7,hW7⟩:∃W,W=((w6.setCell (dD w5.heap.size 0) (iI 0)).setCell (dD w5.heap.size 1) (iI 0)):=⟨_,rfl⟩;rw[<-hW7];have X7:Ext w5 W7:=by rw[hW7];exact((DC _ _ _ _).ext ((((Ext.refl w5).drew).alloc _).trans X6) (by simp))
  have HX7:=hid (HX5.o.trans X7);have HY7:=hid (HY5.o.trans X7);have HH7:=hid (X7.heap HH5.o);have HF:=hid ((AW.loc _ _).1 _ _ HD.o);have hF:=HF.o;have hrb:=(HI.o.notin HD.o).2.2.2.2;have q1:w.heap.size∉F:=λ hm=>by have:=hF _ hm;omega
  have q2:w.heap.size+1∉F:=λ hm=>by have:=hF _ hm;omega
  have q3:w3.heap.size∉F:=λ hm=>by have:=hF _ hm;omega
  have q4:nb∉F:=HD.o.notin HN.o (by decide) (by decide);have hrbl:=HI.o.lt.2.2.2.2;have hb7:=lH (HY7.o.heap HR.o);obtain⟨h0,h1,-,-⟩:=Al HH7.o;have r3:=cA (HX7.o.heap HI.o.root) 3 rfl;have c10:=cA (HY7.o.heap HB.o) 10 rfl;clear X7 hW7 X6 hF;go_wp2_with fail;have s0:W7.drew.cell? (dD c.rb 3)=some (pP c.db 0):=r3;have s1:W7.drew.cell? (dD w.heap.size 10)=some (.string q10):=c10;have s2:W7.drew.cell? (dD w3.heap.size 0)=some (iI 2):=h0;have s3:W7.drew.cell? (dD w3.heap.size 1)=some (iI 1):=h1;have s4:Upd F W7 W7.drew:=(Upd.refl F W7).drew;go_region_held3 (λ w'=>w'.cell? (dD c.rb 3)=some (pP c.db 0)/\w'.cell? (dD w.heap.size 10)=some (.string q10)/\w'.cell? (dD w3.heap.size 0)=some (iI 2)/\w'.cell? (dD w3.heap.size 1)=some (iI 1)/\Upd F W7 w') (first|with_reducible exact⟨s0,s1,s2,s3,s4⟩|with_reducible exact IJ (by assumption) (M8) hrb q1 q3 q3|with_reducible assumption) (first|(go_at_call 416;refine(HPu.o _ HX7.o.drew).mono ?_;rintro r w8 ⟨rfl,i8,F8,hi8,D8,R8,M8,N8⟩));have HD8:=hid D8;have HR8:=hid R8;have HU8:=hid ((Upd.refl F W7).drew.trans M8);have HN8:=hid (show∀b∈F8,b∈F\/W7.heap.size<=b from N8);have HL8:=hid hi8;clear s0 s1 s2 s3 s4 h0 h1 r3 c10 D8 R8 M8 N8 hi8;have hz8:=HU8.o.size;have r3:=cA (HU8.o.heap (HX7.o.heap HI.o.root) hrb) 3 rfl;have c9:=cA (HU8.o.heap (HY7.o.heap HB.o) q1) 9 rfl;have hrb8:c.rb∉F8:=λ hm=>by rcases HN8.o _ hm with k|k;exact hrb k;omega
  have p1:w.heap.size∉F8:=λ hm=>by rcases HN8.o _ hm with k|k;exact q1 k;omega
  have p2:w.heap.size+1∉F8:=λ hm=>by rcases HN8.o _ hm with k|k;exact q2 k;omega
  have p4:nb∉F8:=λ hm=>by rcases HN8.o _ hm with k|k;exact q4 k;omega
  go_wp2_with fail;have s0:w8.drew.cell? (dD c.rb 3)=some (pP c.db 0):=r3;have s1:w8.drew.cell? (dD w.heap.size 9)=some (.string q9):=c9;have s4:Upd F8 w8 w8.drew:=(Upd.refl F8 w8).drew;go_region_held3 (λ w'=>w'.cell? (dD c.rb 3)=some (pP c.db 0)/\w'.cell? (dD w.heap.size 9)=some (.string q9)/\Upd F8 w8 w') (first|with_reducible exact⟨s0,s1,s4⟩|with_reducible exact Oa (by assumption) (M9) hrb8 p1|with_reducible assumption) (first|(go_at_call 409;refine(PQ (e0:=⟨q9,2,1⟩) HL8.o ((AW.loc _ _).2 _ _ _ [] HD8.o ((Upd.refl [] w8).drew) (λ _ _=>by simp)) HR8.o).mono ?_;rintro r w9 ⟨rfl,F9,D9,M9,N9⟩));have HD9:=hid D9;have HU9:=hid (HU8.o.trans2 ((Upd.refl F8 w8).drew.trans M9) HN8.o);have HN9:=hid (show∀b∈F9,b∈F\/W7.heap.size<=b from λ b hb=>by
   rcases N9 b hb with k|k
   ·exact HN8.o b k
   ·exact .inr (Nat.le_trans hz8 k))
  clear s0 s1 s4 r3 c9 D9 M9 N9;have c7:w9.cell? (dD w.heap.size 7)=some (iI 1):=cA (HU9.o.heap (HY7.o.heap HB.o) q1) 7 rfl;have c8:w9.cell? (dD w.heap.size 8)=some (iI 1):=cA (HU9.o.heap (HY7.o.heap HB.o) q1) 8 rfl;have HN9n:=hid (HU9.o.heap (HX7.o.heap HN.o) q4);obtain⟨n0,n1,n2,n3,n4,nf⟩:=Cq HN9n.o;have HR9:=hid (HU9.o.heap (HY7.o.heap HR.o) q2);obtain⟨r0,r1,r2,r3,r4,r5,r6,r7,r8,r9,rf⟩:=AC HR9.o;have hns:=lH HN9n.o;have hbs:=lH (HU9.o.heap (HY7.o.heap HB.o) q1);go_wp2_with fail;obtain⟨wM,hM⟩:∃W,W=((w9.setCell (dD nb 1) (iI 1)).setCell (dD nb 2) (iI 1)):=⟨_,rfl⟩;rw[<-hM];have UM:=Jt w9 nb (iI 1) (iI 1);have NM:=KJ (a1:= iI 1) (a2:= iI 1) HN9n.o;rw[<-hM] at UM NM;refine Aa (R:=w.heap.size+1) (w0:=wM) (Pr:=λ W=>bodyPost _ _ _ _ _ W) _ (Ao (UM.heap HR9.o (by simp;omega))) (AX _ _ _ _ _ _ _ _ _ _ _ _) ?_;clear r0 r1 r2 r3 r4 r5 r6 r7 r8 r9 rf n0 n1 n2 n3 n4 nf hM;intro W hR hU;obtain⟨r0,r1,r2,r3,r4,r5,r6,r7,r8,r9,-⟩:=AC hR;have nn:=Az.ne HI.o HN.o;have fo:=HI.o.notin HD.o;have fl:=HI.o.lt;have f9:∀b,b<w.heap.size\/b=w.heap.size+1->b∉F->b∉F9:=λ b hb hn hm=>by rcases HN9.o b hm with k|k;exact hn k;omega
  refine Ue (v:= .tuple #[.agg rZ,iI 0]) (by simp[results,results379,go_sem,r0,r1,r2,r3,r4,r5,r6,r7,r8,r9]) rfl ⟨rfl,?_,?_,F9,?_,?_,?_⟩
  ·have i9:=(HI.o.ext HX7.o).upd HU9.o fo.1 fo.2.1 fo.2.2.1 fo.2.2.2.1 fo.2.2.2.2;have iM:=i9.upd UM (by simp;omega) (by simp;omega) (by simp;omega) (by simp;omega) (by simp;omega);exact iM.upd hU (by simp;omega) (by simp;omega) (by simp;omega) (by simp;omega) (by simp;omega)
  ·exact hU.heap NM (by simp;omega)
  ·refine(AW.loc _ _).2 _ _ _ _ ((AW.loc _ _).2 _ _ _ _ HD9.o UM (λ b hb=> ?_)) hU (λ b hb=> ?_)
   ·simp only[List.mem_singleton];rintro rfl;exact f9 _ (.inl hnl) q4 hb
   ·simp only[List.mem_singleton];rintro rfl;exact f9 _ (.inr rfl) q2 hb
  ·exact(((HX7.o.upd _).trans (HU9.o.mono (λ k hk=>List.mem_cons_of_mem _ hk))).trans (UM.mono (λ k hk=>by simp at hk;simp[hk]))).trans2 hU (λ i hi=> .inr (by simp at hi;omega))
  ·intro b hb;rcases HN9.o b hb with k|k
   ·exact .inl k
   ·exact .inr (by omega)
end
section
open inoP
structure AE where
 name:ByteArray
 md:Int
 zs:List Int:=[]
 fresh:Bool:=true
def FsC.own (c:FsC):List Nat:=[c.fb,c.pb,c.tb,c.pl,c.rb]
def FsNew (fb room nodes:Nat) (w:World) (F:List Nat):Prop:=
 ∃c ps Fd,c.fb=fb/\ps.length=nodes/\FsI c room 0 ps w/\AW c.db [] w Fd/\(∃h:1<ps.length,ps[1].is=false/\ps[1].gen=0)/\F=c.own++Fd
def FsOne (fb room nodes:Nat) (f:AE) (w:World) (F:List Nat):Prop:=
 ∃c ps Fd nb dv Fr,c.fb=fb/\ps.length=nodes/\FsI c room f.zs.length ps w/\AW c.db [⟨f.name,2,1⟩] w Fd/\(∃h:1<ps.length,ps[1]=⟨true,1,some ⟨nb,0,none⟩⟩)/\
  Az nb f.md dv w/\B1 dv f.zs w Fr/\(f.fresh=true->f.zs=[]/\dv= nN)/\F=(c.own++Fd)++nb::Fr
def FsW (fb room nodes:Nat):Option AE->World->List Nat->Prop
 |none=>FsNew fb room nodes
 |some f=>FsOne fb room nodes f
theorem FsI.mv {c:FsC} {ps:List Pl} {S:List Nat} (h:FsI c room used ps w) (hu:Upd S w w') (hs:∀b∈c.own,b∉S):FsI c room used ps w':=
 h.upd hu (hs _ (by simp[FsC.own])) (hs _ (by simp[FsC.own])) (hs _ (by simp[FsC.own])) (hs _ (by simp[FsC.own])) (hs _ (by simp[FsC.own]))
theorem FsI.ownlt {c:FsC} {ps:List Pl} (h:FsI c room used ps w):∀b∈c.own,b<w.heap.size:=by
 have:=h.lt;intro b hb;simp only[FsC.own,Um,List.not_mem_nil,or_false] at hb;omega
theorem FsW.loc (fb room nodes:Nat) (st:Option AE):Loc (FsW fb room nodes st):=by
 cases st with
 |none=>
  refine⟨?_,?_⟩
  ·rintro w F ⟨c,ps,Fd,-,-,hI,hD,-,rfl⟩ b hb;rcases List.mem_append.1 hb with h|h
   ·exact hI.ownlt b h
   ·exact(AW.loc _ _).1 _ _ hD b h
  ·rintro w w' F S ⟨c,ps,Fd,hc,hl,hI,hD,hp,rfl⟩ hu hs;exact⟨c,ps,Fd,hc,hl,hI.mv hu (λ b hb=>hs b (List.mem_append_left _ hb)),(AW.loc _ _).2 _ _ _ _ hD hu (λ b hb=>hs b (List.mem_append_right _ hb)),hp,rfl⟩
 |some f=>
  refine⟨?_,?_⟩
  ·rintro w F ⟨c,ps,Fd,nb,dv,Fr,-,-,hI,hD,-,hN,hR,-,rfl⟩ b hb;simp only[List.mem_append,Um] at hb;rcases hb with(h|h)|rfl|h
   ·exact hI.ownlt b h
   ·exact(AW.loc _ _).1 _ _ hD b h
   ·exact lH hN
   ·exact(B1.loc _ _).1 _ _ hR b h
  ·rintro w w' F S ⟨c,ps,Fd,nb,dv,Fr,hc,hl,hI,hD,hp,hN,hR,hf,rfl⟩ hu hs;exact⟨c,ps,Fd,nb,dv,Fr,hc,hl,hI.mv hu (λ b hb=>hs b (by simp[hb])),(AW.loc _ _).2 _ _ _ _ hD hu (λ b hb=>hs b (by simp[hb])),hp,hu.heap hN (hs nb (by simp)),(B1.loc _ _).2 _ _ _ _ hR hu (λ b hb=>hs b (by simp[hb])),hf,rfl⟩
theorem FsW.ext {st:Option AE} (h:FsW fb room nodes st w F) (hx:Ext w w'):FsW fb room nodes st w' F:=(FsW.loc _ _ _ _).2 _ _ _ [] h (hx.upd []) (λ _ _=>by simp)
def B6 (g:FuncId) (fb room nodes:Nat) (st st':Option AE) (a:AV) (d:Value) (rv:RV) (zs:List Int) (e:Int) (w:World) (F:List Nat):Prop:=
 Calls prog g #[pP fb 0,a.val d] w λ r w'=>∃v F',r= .returned (.tuple #[rv.val v,iI e])/\(zs=[]->v= nN\/True)/\AA w' w.heap.size 5 v (bv zs)/\Wf zs/\FsW fb room nodes st' w' F'/\Mv w w' F F'
theorem Cc:Wf []:=by intro z hz;simp at hz
theorem Ni {st:Option AE} (h:FsW fb room nodes st w F) {a:AV} (h1:a.h1=1) (h2:a.h2=1) (d:Value):
  B6 370 fb room nodes st st a d {h1:=1,h2:=1,kind:=1,mode:=493,size:=(if st.isSome then 1 else 0)} [] 0 w F:=by
 have key:∀(c:FsC) (used:Nat) (ps:List Pl) (es:List EV) (Fd:List Nat),c.fb=fb->FsI c room used ps w->AW c.db es w Fd->Calls prog 370 #[pP fb 0,a.val d] w λ r w'=>r= .returned (.tuple #[({h1:=a.h1,h2:=a.h2,kind:=1,mode:=493,size:=es.length}:RV).val (nN),iI 0])/\Ext w w':=by
  intro c used ps es Fd hc hI hD;subst hc;refine Eo (pb:=c.pb) (nb:=c.rb) (cA hI.fs 0 rfl) (λ W hx=> ?_) (λ W hx=> ?_)
  ·rw[h1,h2];exact Ip (hI.ext hx)
  ·rw[h1,h2];exact VN (hI.ext hx) ((AW.loc _ _).2 _ _ _ [] hD (hx.upd []) (λ _ _=>by simp))
 rw[h1,h2] at key;cases st with
 |none=>
  obtain⟨c,ps,Fd,hc,hl,hI,hD,hp,hF⟩:=id h;refine(key c _ ps _ Fd hc hI hD).mono ?_;rintro r w' ⟨rfl,hx⟩;exact⟨_,F,rfl,λ _=> .inr trivial,AA.nil _ _ _,Cc,h.ext hx,Mv.of_ext hx F⟩
 |some f=>
  obtain⟨c,ps,Fd,nb,dv,Fr,hc,hl,hI,hD,hp,hN,hR,hf,hF⟩:=id h;refine(key c _ ps _ Fd hc hI hD).mono ?_;rintro r w' ⟨rfl,hx⟩;exact⟨_,F,rfl,λ _=> .inr trivial,AA.nil _ _ _,Cc,h.ext hx,Mv.of_ext hx F⟩
theorem EO {c:FsC} {ps:List Pl} (hI:FsI c room used ps w) (hN:Az nb md dv w) (hR:B1 dv zs w Fr) (hp:∃h:1<ps.length,ps[1]=⟨true,1,some ⟨nb,0,none⟩⟩) {a:AV} (h1:a.h1=2) (h2:a.h2=1) (d:Value):Calls prog 370 #[pP c.fb 0,a.val d] w λ r w'=>r= .returned (.tuple #[({h1:=2,h2:=1,kind:=2,mode:=md,size:=zs.length}:RV).val (nN),iI 0])/\Ext w w':=by
 obtain⟨n,cap,rfl,-,-⟩:=hR.2.1.row2 hR.2.2;have q:=Eo (a:=a) (d:=d) (fb:=c.fb) (pb:=c.pb) (nb:=nb) (k:=2) (m:=md) (s:=zs.length) (cA hI.fs 0 rfl) (λ W hx=>by rw[h1,h2];exact VE (hI.ext hx) hp) (λ W hx=>by rw[h1,h2];exact Ee (hN.ext hx));rw[h1,h2] at q;exact q
theorem Oy {f:AE} (h:FsW fb room nodes (some f) w F) {a:AV} (h1:a.h1=2) (h2:a.h2=1) (d:Value):
  B6 370 fb room nodes (some f) (some f) a d {h1:=2,h2:=1,kind:=2,mode:=f.md,size:=f.zs.length} [] 0 w F:=by
 obtain⟨c,ps,Fd,nb,dv,Fr,rfl,hl,hI,hD,hp,hN,hR,hf,hF⟩:=id h;refine(EO hI hN hR hp h1 h2 d).mono ?_;rintro r w' ⟨rfl,hx⟩;exact⟨_,F,rfl,λ _=> .inr trivial,AA.nil _ _ _,Cc,h.ext hx,Mv.of_ext hx F⟩
theorem RL {f:AE} (h:FsW fb room nodes (some f) w F) {a:AV} (h1:a.h1=1) (h2:a.h2=1) (hn:a.name=f.name) (hg:AP f.name) (hdd:(f.name.toList==[46,46])=false) (d:Value):
  B6 372 fb room nodes (some f) (some f) a d {h1:=2,h2:=1,kind:=2,mode:=f.md,size:=f.zs.length} [] 0 w F:=by
 obtain⟨c,ps,Fd,nb,dv,Fr,rfl,hl,hI,hD,hp,hN,hR,hf,hF⟩:=id h;have q:=Fa (a:=a) (d:=d) (fb:=c.fb) (rb:=c.rb) (x:=2) (y:=1) (e:=0) (w:=w) (rv:={h1:=2,h2:=1,kind:=2,mode:=f.md,size:=f.zs.length}) (by rw[hn];exact hdd) ⟨cA hI.root 1 rfl,cA hI.root 2 rfl⟩
  (λ W hx=>by rw[h1,h2];exact BX (hI.ext hx))
  (λ W hx=>by rw[hn];exact Dc hg (cA (hx.heap hI.root) 3 rfl) (λ W' hx'=>IP ((AW.loc _ _).2 _ _ _ [] hD ((hx.trans hx').upd []) (λ _ _=>by simp)) (by intro i j hi hj hij;simp at hi hj;omega) (by simp) (k:=0) (by simp)))
  (λ _ W hx=>EO (hI.ext hx) (hN.ext hx) ((B1.loc _ _).2 _ _ _ [] hR (hx.upd []) (λ _ _=>by simp)) hp rfl rfl _) (λ h=>absurd rfl h) rfl
 refine q.mono ?_;rintro r w' ⟨rfl,hx⟩;exact⟨_,F,rfl,λ _=> .inr trivial,AA.nil _ _ _,Cc,h.ext hx,Mv.of_ext hx F⟩
theorem OG {f:AE} (h:FsW fb room nodes (some f) w F) {a:AV} (h1:a.h1=1) (h2:a.h2=1) (hn:f.name≠a.name) (hg:AP a.name) (hdd:(a.name.toList==[46,46])=false) (d:Value):
  B6 372 fb room nodes (some f) (some f) a d {} [] 9 w F:=by
 obtain⟨c,ps,Fd,nb,dv,Fr,rfl,hl,hI,hD,hp,hN,hR,hf,hF⟩:=id h;have q:=Fa (a:=a) (d:=d) (fb:=c.fb) (rb:=c.rb) (x:=0) (y:=0) (e:=9) (w:=w) (rv:={}) hdd ⟨cA hI.root 1 rfl,cA hI.root 2 rfl⟩
  (λ W hx=>by rw[h1,h2];exact BX (hI.ext hx))
  (λ W hx=>Dc hg (cA (hx.heap hI.root) 3 rfl) (λ W' hx'=>IQ ((AW.loc _ _).2 _ _ _ [] hD ((hx.trans hx').upd []) (λ _ _=>by simp)) (by intro i j hi hj hij;simp at hi hj;omega) (by simp) _ (by intro k hk;simp at hk;subst hk;exact hn)))
  (λ h=>absurd h (by decide)) (λ _=>rfl) rfl
 refine q.mono ?_;rintro r w' ⟨rfl,hx⟩;exact⟨_,F,rfl,λ _=> .inr trivial,AA.nil _ _ _,Cc,h.ext hx,Mv.of_ext hx F⟩
end
section
open inoP
theorem Kj (h:FsW fb room nodes none w F) {a:AV} (h1:a.h1=1) (h2:a.h2=1) (hg:AP a.name) (d:Value):
  B6 375 fb room nodes none (some {name:=a.name,md:=a.mode}) a d {h1:=2,h2:=1,kind:=2,mode:=a.mode,size:=0} [] 0 w F:=by
 obtain⟨c,ps,Fd,rfl,hl,hI,hD,hp,rfl⟩:=id h;refine(JW hI hD hp h1 h2 hg (d:=d)).mono ?_;rintro r w' ⟨rfl,hI',hN',Fd',hD',hU,hS⟩;refine⟨_,(c.own++Fd')++[w.heap.size+1+1],rfl,λ _=> .inr trivial,AA.nil _ _ _,Cc,⟨c,_,Fd',_,_,[],rfl,by rw[List.length_set];exact hl,hI',hD',?_,hN',⟨rfl,AA.nil _ _ _,Cc⟩,λ _=>⟨rfl,rfl⟩,rfl⟩,hU.mono ?_,?_⟩
 ·obtain⟨hp1,-⟩:=hp;exact⟨by simpa using hp1,by simp⟩
 ·intro k hk;rcases Um.1 hk with rfl|hk
  ·simp[FsC.own]
  ·exact List.mem_append_right _ hk
 ·intro b hb;simp only[List.mem_append,List.mem_singleton] at hb|-
  rcases hb with(k|k)|rfl
  ·exact .inl (.inl k)
  ·rcases hS b k with k|k
   ·exact .inl (.inr k)
   ·exact .inr k
  ·exact .inr (by omega)
theorem Ls {f:AE} (hfr:f.fresh=true) (h:FsW fb room nodes (some f) w F) {a:AV} (h1:a.h1=2) (h2:a.h2=1) (ho:a.off=o) {ys:List Int} (hd:Sl w d ys) (hlm:o+ys.length<=2048) (hr:o+ys.length<=room) (hrm:room<=100000):
  B6 374 fb room nodes (some f) (some {f with zs:=wrote o ys,fresh:=false}) a d {h1:=2,h2:=1,kind:=2,mode:=f.md,size:=(wrote o ys).length,count:=ys.length} [] 0 w F:=by
 obtain⟨c,ps,Fd,nb,dv,Fr,rfl,hl,hI,hD,hp,hN,hR,hf,rfl⟩:=id h;obtain⟨hz,rfl⟩:=hf hfr;rw[hz] at hI;have hne:=hI.notin hD;have hnb:nb∉Fd:=hD.notin hN (by decide) (by decide);refine(NH hI hN hp h1 h2 ho hd hlm hr hrm).mono ?_;rintro r w' ⟨v,rfl,hI',hN',hO,hU⟩;refine⟨_,(c.own++Fd)++nb::v.ownBlock.toList,rfl,λ _=> .inr trivial,AA.nil _ _ _,Cc,⟨c,_,Fd,nb,v,_,rfl,hl,hI',(AW.loc _ _).2 _ _ _ _ hD hU (λ b hb=> ?_),hp,hN',⟨rfl,hO.low (Nat.zero_le _),FL hd.wf⟩,λ k=>absurd k (by simp),rfl⟩,hU.mono ?_,?_⟩
 ·simp only[Um,List.not_mem_nil,or_false,not_or];exact⟨λ k=>hne.1 (k▸hb),λ k=>hnb (k▸hb)⟩
 ·intro k hk;simp only[Um,List.not_mem_nil,or_false] at hk;rcases hk with rfl|rfl
  ·simp[FsC.own]
  ·simp
 ·intro b hb;simp only[List.mem_append,Um,Option.mem_toList] at hb|-
  rcases hb with k|k|k
  ·exact .inl (.inl k)
  ·exact .inl (.inr (.inl k))
  ·exact .inr (hO.lt k).1
theorem Nk {f:AE} (h:FsW fb room nodes (some f) w F) {a:AV} (h1:a.h1=2) (h2:a.h2=1) {n:Nat} (ho:a.off=o) (hn:a.count=n) (hol:o<=5000) (hnl:n<=5000) (hzl:f.zs.length<=5000) (d:Value):
  B6 373 fb room nodes (some f) (some f) a d {count:=((f.zs.drop o).take n).length,eof:=decide (f.zs.length<=o+n)} ((f.zs.drop o).take n) 0 w F:=by
 obtain⟨c,ps,Fd,nb,dv,Fr,rfl,hl,hI,hD,hp,hN,hR,hf,hF⟩:=id h;refine(Qg hI hN hp hR.sl hzl h1 h2 ho hn hol hnl).mono ?_;rintro r w' ⟨v,rfl,hO,hx⟩;exact⟨v,F,rfl,λ _=> .inr trivial,hO,hR.sl.cut o n,h.ext hx,Mv.of_ext hx F⟩
theorem Nf {f:AE} (h:FsW fb room nodes (some f) w F) {a:AV} (h1:a.h1=1) (h2:a.h2=1) (k1:a.k1=1) (k2:a.k2=1) (hn:a.name=f.name) (hn2:a.name2=f.name) (hg:AP f.name) (d:Value):
  B6 379 fb room nodes (some f) (some f) a d {} [] 0 w F:=by
 obtain⟨c,ps,Fd,nb,dv,Fr,rfl,hl,hI,hD,hp,hN,hR,hf,hF⟩:=id h;refine(Ir hI hg hD hp h1 h2 k1 k2 hn hn2 (d:=d)).mono ?_;rintro r w' ⟨rfl,hx⟩;exact⟨_,F,rfl,λ _=> .inr trivial,AA.nil _ _ _,Cc,h.ext hx,Mv.of_ext hx F⟩
theorem B1.notin (h:B1 v zs w Fr) {cs:Array Value} (hg:w.heap[g]?=oC cs t) (ht:t≠5):g∉Fr:=by
 obtain⟨rfl,hO,-⟩:=h;intro hm;simp only[Option.mem_toList] at hm;have:=hO.ty g hm;obtain⟨cs',hc⟩:=this;exact B5 hg hc ht rfl
theorem Pp {Fd:List Nat} {es:List EV} (h:B1 v zs w Fr) (hD:AW db es w Fd):∀b∈Fr,b∉Fd:=by
 intro b hb hd;obtain⟨u,h1,h2,rfl,-⟩:=hD;simp only[Um,Option.mem_toList] at hd;rcases hd with rfl|hd
 ·exact h.notin h1 (by decide) hb
 ·rcases h2.form with⟨rfl,-⟩|⟨k,cap,cur,rfl,-,-,hk,-⟩
  ·simp[Value.ownBlock] at hd
  ·simp[Value.ownBlock] at hd;subst hd;exact h.notin hk (by decide) hb
theorem Qx {f:AE} (h:FsW fb room nodes (some f) w F) {a:AV} (h1:a.h1=1) (h2:a.h2=1) (k1:a.k1=1) (k2:a.k2=1) (hn:a.name=f.name) (hg:AP f.name) (hg2:AP a.name2) (hne:f.name≠a.name2) (d:Value):
  B6 379 fb room nodes (some f) (some {f with name:=a.name2}) a d {} [] 0 w F:=by
 obtain⟨c,ps,Fd,nb,dv,Fr,rfl,hl,hI,hD,hp,hN,hR,hf,rfl⟩:=id h;refine(KD hI hg hg2 hne hD hN hp h1 h2 k1 k2 hn rfl (d:=d)).mono ?_;rintro r w' ⟨rfl,hI',hN',Fd',hD',hU,hS⟩;refine⟨_,(c.own++Fd')++nb::Fr,rfl,λ _=> .inr trivial,AA.nil _ _ _,Cc,⟨c,_,Fd',nb,dv,Fr,rfl,hl,hI',hD',hp,hN',(B1.loc _ _).2 _ _ _ _ hR hU (λ b hb=> ?_),hf,rfl⟩,hU.mono ?_,?_⟩
 ·simp only[Um,not_or];exact⟨λ k=>hR.notin hN (by decide) (k▸hb),Pp hR hD b hb⟩
 ·intro k hk;rcases Um.1 hk with rfl|hk
  ·simp
  ·simp[hk]
 ·intro b hb;simp only[List.mem_append,Um] at hb|-
  rcases hb with(k|k)|k|k
  ·exact .inl (.inl (.inl k))
  ·rcases hS b k with k|k
   ·exact .inl (.inl (.inr k))
   ·exact .inr k
  ·exact .inl (.inr (.inl k))
  ·exact .inl (.inr (.inr k))
end
section
open inoP
theorem Sh (w:World):(zeroValue 420).run prog w= .ok .nilFunc w:=by kernel_rfl
theorem UG {st st':Option AE} {a:AV} {rv:RV} {e:Int} (h:FsW fb room nodes st w F) (hg:look KK a.proc=some (fnv g)) (eg:∀args w,(callFunc g args).run prog w= .ok (.enter g args) w) (ho:0<=a.off) (hc:0<=a.count) (hs:0<=a.size) (hm:bits .and .i64 a.mode 511=a.mode) (hP:∀W,Ext w W->B6 g fb room nodes st st' a d rv zs e W F) (he:e=0\/zs=[]) (hr:rv.e=0):
  Calls prog 230 #[pP fb 0,a.val d] w λ r w'=>∃v,r= .returned ((if e=0 then rv else{e:=e}).val v)/\AA w' w.heap.size 5 v (bv zs)/\Wf zs/\∃F',FsW fb room nodes st' w' F'/\Mv w w' F F':=by
 obtain⟨v0,v1,v2,v3,v4,v5,v6,v7⟩:=rv;obtain rfl:v0=0:=hr;have HP:=hid hP;have HG:=hid hg;obtain⟨p0,p1,p2,p3,p4,p5,p6,p7,p8,p9,p10⟩:=a;dsimp only at ho hc hs hm HG;simp only[B6,AV.val,RV.val] at HP|-
 simp only[AV.val] at*;have m1:(if(0:Int)<p1 then p1 else 0)=p1:=by split<;>omega
 have m2:(if(0:Int)<p2 then p2 else 0)=p2:=by split<;>omega
 have m3:(if(0:Int)<p3 then p3 else 0)=p3:=by split<;>omega
 have n1:(if p1<(0:Int) then(0:Int) else p1)=p1:=by split<;>omega
 have n2:(if p2<(0:Int) then(0:Int) else p2)=p2:=by split<;>omega
 have n3:(if p3<(0:Int) then(0:Int) else p3)=p3:=by split<;>omega
 have HF:=hid ((FsW.loc _ _ _ _).1 _ _ h);clear hP hg h;go_in;go_wp2_with fail;obtain⟨W0,hW0⟩:∃W,W=((w.alloc (.cells (pR p0 p1 p2 p3 p4 p5 p6 p7 p8 p9 p10 d) 137)).alloc (.cells rZ 142)):=⟨_,rfl⟩;rw[<-hW0];obtain⟨hb,hr_,X0⟩:=AH w (.cells (pR p0 p1 p2 p3 p4 p5 p6 p7 p8 p9 p10 d) 137) (.cells rZ 142);rw[<-hW0] at hb hr_ X0;have HX0:=hid X0;have HR:=hid hr_;have HB:=hid hb;have c0:=cA hb 0 rfl;clear hW0 X0 hb hr_;go_region_held3 (λ w'=>w'.cell? (dD w.heap.size 0)=some (iI p0)/\Ext W0 w') (first|exact⟨c0,(Ext.refl W0).drew⟩|exact En (by assumption) M1.ext|assumption) (first|(go_at_call 318;refine(MS _).mono ?_;rintro r w1 ⟨m,rfl,M1⟩;have hl:=M1.is.lookup (P:=prog) underlying422 underlying3 (Sh w1) p0;rw[HG.o] at hl;simp only[Option.getD_some,Option.isSome_some,fnv] at hl));have HY1:=hid (show Ext W0 w1 from Uk (by assumption));have HX1:=hid (HX0.o.trans HY1.o);clear hl M1 c0;obtain⟨b0,b1,b2,b3,b4,b5,b6,b7,b8,b9,b10,b11,bf⟩:=CM (HY1.o.heap HB.o);go_wp2_with fail;obtain⟨W2,hW2⟩:∃W,W=((((w1.setCell (dD w.heap.size 1) (iI p1)).setCell (dD w.heap.size 2) (iI p2)).setCell (dD w.heap.size 3) (iI p3)).setCell (dD w.heap.size 4) (iI p4)):=⟨_,rfl⟩
 rw[<-hW2];have U2:Upd [w.heap.size] w1 W2:=by rw[hW2];exact((((Upd.refl _ _).setCell _ _ (.inl (by simp))).setCell _ _ (.inl (by simp))).setCell _ _ (.inl (by simp))).setCell _ _ (.inl (by simp))
 have HX2:=hid (U2.ext HX1.o (by simp));have hz2:=HX2.o.size;have hr2:=U2.heap (HY1.o.heap HR.o) (by simp);have HR2:=hid hr2;clear hW2 U2 hr2 b0 b1 b2 b3 b4 b5 b6 b7 b8 b9 b10 b11 bf;refine(HP.o W2 HX2.o).mono ?_;rintro r w3 ⟨v,F',rfl,-,O3,Wf3,I3,M3⟩;have hF:=HF.o;have q2:w.heap.size+1∉F:=λ hm=>by have:=hF _ hm;omega
 have hr3:=M3.1.heap HR2.o q2;have HR3:=hid hr3;have HO3:=hid O3;have HW3:=hid Wf3;have HI3:=hid I3;have HM3:=hid ((Mv.of_ext HX2.o F).trans M3);have HM3':=hid M3.2;obtain⟨n,hn⟩:∃n,n=zs.length:=⟨_,rfl⟩;obtain⟨a3,k3,rfl,-,-⟩:=O3.row2 Wf3;have hz32:=lH HR2.o;rw[<-hn] at HO3|-
 clear hr3 O3 Wf3 I3 M3 hF hn eg m1 m2 m3 n1 n2 n3 hm;obtain⟨r0,r1,r2,r3,r4,r5,r6,r7,r8,r9,rf⟩:=AC HR3.o;by_cases e0:e=0
 ·subst e0;go_upto_region 9 with fail;obtain⟨W4,hW4⟩:∃W,W=w3.alloc (.cells (rR 0 v1 v2 v3 v4 v5 (.slice a3 n k3) v6 v7 (nN)) 142):=⟨_,rfl⟩;rw[<-hW4];have X4:Ext w3 W4:=by rw[hW4];exact(Ext.refl _).alloc _
  have h4:W4.heap[w3.heap.size]?=oC (rR 0 v1 v2 v3 v4 v5 (.slice a3 n k3) v6 v7 (nN)) 142:=by rw[hW4];exact Ub w3 _
  clear hW4;have HX4:=hid X4;have HR4:=hid (X4.heap HR3.o);clear X4 r0 r1 r2 r3 r4 r5 r6 r7 r8 r9 rf;obtain⟨s0,s1,s2,s3,s4,s5,s6,s7,s8,s9,-⟩:=AC h4;obtain⟨r0,r1,r2,r3,r4,r5,r6,r7,r8,r9,rf⟩:=AC HR4.o;clear h4;go_wp2_with fail;refine Aa (R:=w.heap.size+1) (w0:=W4) (Pr:=λ W=>bodyPost _ _ _ _ _ W) _ (Ao HR4.o) (AX _ _ _ _ _ _ _ _ _ _ _ _) ?_;clear r0 r1 r2 r3 r4 r5 r6 r7 r8 r9 rf s0 s1 s2 s3 s4 s5 s6 s7 s8 s9;intro W hR hU;obtain⟨r0,r1,r2,r3,r4,r5,r6,r7,r8,r9,-⟩:=AC hR;have hF:=HF.o;have hF':∀b∈F',b∈F\/w.heap.size+1<b:=λ b hb=>by
   rcases HM3'.o b hb with k|k
   ·exact .inl k
   ·exact .inr (by omega)
  have qR:w.heap.size+1∉F':=λ hm=>by rcases hF' _ hm with k|k;exact q2 k;omega
  have hO:=HO3.o;have I4:=((FsW.loc _ _ _ _).2 _ _ _ [w.heap.size+1] (HI3.o.ext HX4.o) hU (λ b hb=>by simp only[List.mem_singleton];rintro rfl;exact qR hb));have M4:=(HM3.o.ext HX4.o).trans (Mv.same (F:=F') ((Upd.refl F' W4)));refine Ue (v:= .agg (rR 0 v1 v2 v3 v4 v5 (.slice a3 n k3) v6 v7 (nN))) (by simp[results,results230,go_sem,r0,r1,r2,r3,r4,r5,r6,r7,r8,r9]) rfl ⟨.slice a3 n k3,rfl,?_,HW3.o,F',I4,M4.1.trans2 hU (λ b hb=> .inr (by simp at hb;omega)),λ b hb=>by rcases hF' b hb with k|k;exact .inl k;exact .inr (by omega)⟩;exact(((HO3.o.ext HX4.o).upd hU (λ g hg hm=>by have:=(hO.lt hg).1;simp at hm;omega)).low (by omega))
 ·have d0:decide (e=0)=false:=by simp[e0]
  go_upto_region 8 with fail;obtain⟨W4,hW4⟩:∃W,W=w3.alloc (.cells (rR 0 v1 v2 v3 v4 v5 (.slice a3 n k3) v6 v7 (nN)) 142):=⟨_,rfl⟩;rw[<-hW4];have X4:Ext w3 W4:=by rw[hW4];exact(Ext.refl _).alloc _
  have h4:W4.heap[w3.heap.size]?=oC (rR 0 v1 v2 v3 v4 v5 (.slice a3 n k3) v6 v7 (nN)) 142:=by rw[hW4];exact Ub w3 _
  clear hW4;have HX4:=hid X4;have HR4:=hid (X4.heap HR3.o);clear X4 r0 r1 r2 r3 r4 r5 r6 r7 r8 r9 rf;obtain⟨s0,s1,s2,s3,s4,s5,s6,s7,s8,s9,-⟩:=AC h4;obtain⟨r0,r1,r2,r3,r4,r5,r6,r7,r8,r9,rf⟩:=AC HR4.o;clear h4;go_wp2_with fail;refine Aa (R:=w.heap.size+1) (w0:=W4) (Pr:=λ W=>bodyPost _ _ _ _ _ W) _ (Ao HR4.o) (AX _ _ _ _ _ _ _ _ _ _ _ _) ?_;clear r0 r1 r2 r3 r4 r5 r6 r7 r8 r9 rf s0 s1 s2 s3 s4 s5 s6 s7 s8 s9;intro W hR hU;obtain⟨r0,r1,r2,r3,r4,r5,r6,r7,r8,r9,-⟩:=AC hR;have hF:=HF.o;have hF':∀b∈F',b∈F\/w.heap.size+1<b:=λ b hb=>by
   rcases HM3'.o b hb with k|k
   ·exact .inl k
   ·exact .inr (by omega)
  have qR:w.heap.size+1∉F':=λ hm=>by rcases hF' _ hm with k|k;exact q2 k;omega
  have hO:=HO3.o;have I4:=((FsW.loc _ _ _ _).2 _ _ _ [w.heap.size+1] (HI3.o.ext HX4.o) hU (λ b hb=>by simp only[List.mem_singleton];rintro rfl;exact qR hb));have M4:=(HM3.o.ext HX4.o).trans (Mv.same (F:=F') ((Upd.refl F' W4)));obtain hzs:zs=[]:=by rcases he with k|k;exact absurd k e0;exact k
  refine Ue (v:= .agg (rR e 0 0 0 0 0 (nN) 0 false (nN))) (by simp[results,results230,go_sem,r0,r1,r2,r3,r4,r5,r6,r7,r8,r9]) rfl ⟨nN,rfl,?_,HW3.o,F',I4,M4.1.trans2 hU (λ b hb=> .inr (by simp at hb;omega)),λ b hb=>by rcases hF' b hb with k|k;exact .inl k;exact .inr (by omega)⟩;rw[hzs];exact AA.nil _ _ _
end
end Go.Proofs.YtdakioiagpkfhaaGreatDoor
