import Derived.Test.YtdakioiagpkfhaaGreatDoorP35
set_option maxRecDepth 99999
set_option maxHeartbeats 0
set_option linter.all false
namespace Go.Proofs.YtdakioiagpkfhaaGreatDoor
open RowKit Conc
open Go.Proofs.Tryz
variable {base g:Nat} {c0 c1 c2 c3 c4 c5 c6 v v0 v1 v2 v3 v4 v5:Value} {k:Int} {o w w':World} {p0 p1 p2 p3 p4 p5:Addr} {s:ByteArray} {t:TypeId} {ys:List Int}
theorem Gi (h:w.cell? p0=some v0/\w.cell? p1=some v1/\w.cell? p2=some v2/\w.cell? p3=some v3/\w.cell? p4=some v4/\w.cell? p5=some v5/\Ext o w) (hx:Ext w w'):
  w'.cell? p0=some v0/\w'.cell? p1=some v1/\w'.cell? p2=some v2/\w'.cell? p3=some v3/\w'.cell? p4=some v4/\w'.cell? p5=some v5/\Ext o w':=
 ⟨hx.cell h.1,hx.cell h.2.1,hx.cell h.2.2.1,hx.cell h.2.2.2.1,hx.cell h.2.2.2.2.1,hx.cell h.2.2.2.2.2.1,h.2.2.2.2.2.2.trans hx⟩
theorem Tn (h:w.cell? p0=some v0/\w.cell? p1=some v1/\w.cell? p2=some v2/\w.cell? p3=some v3/\w.cell? p4=some v4/\w.cell? p5=some v5/\Ext o w) {S:List Nat} (hu:Upd S w w') (hS:∀b∈S,o.heap.size<=b) (h0:p0.block∉S) (h1:p1.block∉S) (h2:p2.block∉S) (h3:p3.block∉S) (h4:p4.block∉S) (h5:p5.block∉S):
  w'.cell? p0=some v0/\w'.cell? p1=some v1/\w'.cell? p2=some v2/\w'.cell? p3=some v3/\w'.cell? p4=some v4/\w'.cell? p5=some v5/\Ext o w':=
 ⟨hu.cell h.1 h0,hu.cell h.2.1 h1,hu.cell h.2.2.1 h2,hu.cell h.2.2.2.1 h3,hu.cell h.2.2.2.2.1 h4,hu.cell h.2.2.2.2.2.1 h5,hu.ext h.2.2.2.2.2.2 hS⟩
theorem Pd (h:w.heap[g]?=oC #[c0,c1,c2,c3,c4,c5,c6] t):
  w.cell? (dD g 0)=some c0/\w.cell? (dD g 1)=some c1/\w.cell? (dD g 2)=some c2/\w.cell? (dD g 3)=some c3/\w.cell? (dD g 4)=some c4/\w.cell? (dD g 5)=some c5/\w.cell? (dD g 6)=some c6/\(∀o,w.frozen? (dD g o)=false):=
 ⟨cO h 0,cO h 1,cO h 2,cO h 3,cO h 4,cO h 5,cO h 6,fO h⟩
theorem put7 {a0 a1 a2 a3 a4 a5 a6:Value} (h:w.heap[g]?=oC #[c0,c1,c2,c3,c4,c5,c6] t):
  (((((((w.setCell (dD g 0) a0).setCell (dD g 1) a1).setCell (dD g 2) a2).setCell (dD g 3) a3).setCell (dD g 4) a4).setCell (dD g 5) a5).setCell (dD g 6) a6).heap[g]?=oC #[a0,a1,a2,a3,a4,a5,a6] t:=by
 replace h:=show _=some (Obj.cells #[a0,c1,c2,c3,c4,c5,c6] t (0,0)) from jP (i:=0) a0 h
 replace h:=show _=some (Obj.cells #[a0,a1,c2,c3,c4,c5,c6] t (0,0)) from jP (i:=1) a1 h
 replace h:=show _=some (Obj.cells #[a0,a1,a2,c3,c4,c5,c6] t (0,0)) from jP (i:=2) a2 h
 replace h:=show _=some (Obj.cells #[a0,a1,a2,a3,c4,c5,c6] t (0,0)) from jP (i:=3) a3 h
 replace h:=show _=some (Obj.cells #[a0,a1,a2,a3,a4,c5,c6] t (0,0)) from jP (i:=4) a4 h
 replace h:=show _=some (Obj.cells #[a0,a1,a2,a3,a4,a5,c6] t (0,0)) from jP (i:=5) a5 h
 replace h:=show _=some (Obj.cells #[a0,a1,a2,a3,a4,a5,a6] t (0,0)) from jP (i:=6) a6 h
 exact h
theorem FQ (w:World) (g:Nat) (a0 a1 a2 a3 a4 a5 a6:Value):Upd [g] w (((((((w.setCell (dD g 0) a0).setCell (dD g 1) a1).setCell (dD g 2) a2).setCell (dD g 3) a3).setCell (dD g 4) a4).setCell (dD g 5) a5).setCell (dD g 6) a6):=
 ((((((((Upd.refl [g] w).setCell _ _ (.inl (by simp))).setCell _ _ (.inl (by simp))).setCell _ _ (.inl (by simp))).setCell _ _ (.inl (by simp))).setCell _ _ (.inl (by simp))).setCell _ _ (.inl (by simp))).setCell _ _ (.inl (by simp)))
theorem KX {q:Obj} (h:w.cell? p0=some v0/\w.cell? p1=some v1/\w.cell? p2=some v2/\w.cell? p3=some v3/\w.cell? p4=some v4/\w.cell? p5=some v5/\Ext o w):(w.alloc q).cell? p0=some v0/\(w.alloc q).cell? p1=some v1/\(w.alloc q).cell? p2=some v2/\(w.alloc q).cell? p3=some v3/\(w.alloc q).cell? p4=some v4/\(w.alloc q).cell? p5=some v5/\Ext o (w.alloc q):=Gi h ((Ext.refl w).alloc q)
theorem AA.otype {b:Nat} {e:TypeId} {xs:List Value} {cs:Array Value} (h:AA w base e v xs) (hb:w.heap[b]?=oC cs t) (hne:e≠t):∀g,v.ownBlock=some g->g≠b:=by
 rintro g hg rfl;rcases h.form with⟨rfl,-⟩|⟨g',cp,cur,rfl,h1,h2,h3,h4,h5⟩
 ·simp[Value.ownBlock] at hg
 ·obtain rfl:g'=g:=by simpa [Value.ownBlock] using hg
  rw[hb] at h4;injection h4 with h4;injection h4 with h6 h7;exact hne h7.symm
theorem DZ:(prog.info? 25).map (·.size)=some 7:=by kernel_rfl
def Uy (x0 x1 x2 x3:Int) (v4 v5 v6:Value):Array Value:= (cC x0 x1 x2 x3 v4 v5 v6)
structure COk (x0 x1 x2:Int) (s4 s5 s6:List Int):Prop where
 nodes:1<=x0/\x0<=10
 room:0<=x1/\x1<=500
 most:1<=x2/\x2<=8
 front:CO s4
 back:CO s5
 frags:s6.length<=4/\∀s∈s6,64<=s/\s<=200
theorem T5 {x0 x1 x2 x3:Int} (h0:(Lit.int .i64 x0).wf=true) (h1:(Lit.int .i64 x1).wf=true) (h2:(Lit.int .i64 x2).wf=true) {a4 a5 a6:Option Addr} {n4 n5 n6 c4 c5 c6:Nat} {z4 z5 z6:List Int} (r4:AI .i64 w a4 n4 c4 z4) (r5:AI .i64 w a5 n5 c5 z5) (r6:AI .i64 w a6 n6 c6 z6):
  Calls prog 4 #[.agg (cC x0 x1 x2 x3 (.slice a4 n4 c4) (.slice a5 n5 c5) (.slice a6 n6 c6))] w λ r w'=>∃y0 y1 y2 v4 v5 v6 s4 s5 s6,r= .returned (.agg (Uy y0 y1 y2 x3 v4 v5 v6))/\COk y0 y1 y2 s4 s5 s6/\AA w' w.heap.size 3 v4 (nv s4)/\AA w' w.heap.size 3 v5 (nv s5)/\AA w' w.heap.size 3 v6 (nv s6)/\Ext w w':=by
 obtain⟨k0,hk0,hA0⟩:=BT x0 10 (by omega) h0;obtain⟨k1,hk1,hA1⟩:=BT x1 500 (by omega) h1;obtain⟨k2,hk2,hA2⟩:=BT x2 8 (by omega) h2;have HA:=hid (show∀(n m y:Int),(n=x0/\m=10/\y=k0)\/(n=x1/\m=500/\y=k1)\/(n=x2/\m=8/\y=k2)->∀W,Calls prog 6 #[iI n,iI m] W λ r w'=>r= .returned (iI y)/\W=w' from by
  rintro n m y (⟨rfl,rfl,rfl⟩|⟨rfl,rfl,rfl⟩|⟨rfl,rfl,rfl⟩)
  ·exact hA0
  ·exact hA1
  ·exact hA2)
 have HG4:=hid (λ W (X:Ext w W)=>Oq a4 n4 c4 z4 W (r4.ext X));have HG5:=hid (λ W (X:Ext w W)=>Oq a5 n5 c5 z5 W (r5.ext X));have HR6:=hid r6;have e0:IntKind.i64.wrap (1+(k0:Int))=1+(k0:Int):=Uh _ (by omega);have e2:IntKind.i64.wrap (1+(k2:Int))=1+(k2:Int):=Uh _ (by omega);clear hA0 hA1 hA2 r4 r5 r6 h0 h1 h2;go_in;go_wp2_with fail;obtain⟨W0,hW0⟩:∃W,W=((w.alloc (.cells (cC x0 x1 x2 x3 (.slice a4 n4 c4) (.slice a5 n5 c5) (.slice a6 n6 c6)) 25)).alloc (.cells (cC 0 0 0 0 (nN) (nN) (nN)) 25)):=⟨_,rfl⟩;rw[<-hW0];obtain⟨hb,hr,X0⟩:=AH w (.cells (cC x0 x1 x2 x3 (.slice a4 n4 c4) (.slice a5 n5 c5) (.slice a6 n6 c6)) 25) (.cells (cC 0 0 0 0 (nN) (nN) (nN)) 25);rw[<-hW0] at hb hr X0;have q0:W0.drew.cell? (dD w.heap.size 0)=some (iI x0):=cO hb 0;have q1:W0.drew.cell? (dD w.heap.size 1)=some (iI x1):=cO hb 1;have q2:W0.drew.cell? (dD w.heap.size 2)=some (iI x2):=cO hb 2;have q3:W0.drew.cell? (dD w.heap.size 3)=some (.int .u32 x3):=cO hb 3;have q4:W0.drew.cell? (dD w.heap.size 4)=some (.slice a4 n4 c4):=cO hb 4;have q5:W0.drew.cell? (dD w.heap.size 5)=some (.slice a5 n5 c5):=cO hb 5;have qs:=(Ext.refl W0).drew;have hl:=lH hb;have hz0:=X0.size;have hl1:=lH hr;have HX0:=hid X0;have HB:=hid hb;have HR:=hid hr;clear hb hr X0 hW0
 go_cut [1,2,3] (λ v1 v2 v3 wx=>∃b v4 v5 s4 s5,v1= pP w.heap.size 0/\v2= pP (w.heap.size+1) 0/\v3= pP b 0/\wx.heap[b]?=oC (Uy (1+k0) k1 (1+k2) x3 v4 v5 (nN)) 25/\AA wx W0.heap.size 3 v4 (nv s4)/\AA wx W0.heap.size 3 v5 (nv s5)/\CO s4/\CO s5/\Ext W0 wx/\W0.heap.size<=b)
 case first=>
  have K0:=hid (show(World.drew W0).cell? (dD w.heap.size 0)=some (iI x0)/\(World.drew W0).cell? (dD w.heap.size 1)=some (iI x1)/\(World.drew W0).cell? (dD w.heap.size 2)=some (iI x2)/\(World.drew W0).cell? (dD w.heap.size 3)=some (.int .u32 x3)/\(World.drew W0).cell? (dD w.heap.size 4)=some (.slice a4 n4 c4)/\(World.drew W0).cell? (dD w.heap.size 5)=some (.slice a5 n5 c5)/\Ext W0 (World.drew W0) from⟨q0,q1,q2,q3,q4,q5,qs⟩);have K0a:=hid (show(World.drew (World.alloc W0 (.cells (cC 0 0 0 0 (nN) (nN) (nN)) 25))).cell? (dD w.heap.size 0)=some (iI x0)/\(World.drew (World.alloc W0 (.cells (cC 0 0 0 0 (nN) (nN) (nN)) 25))).cell? (dD w.heap.size 1)=some (iI x1)/\(World.drew (World.alloc W0 (.cells (cC 0 0 0 0 (nN) (nN) (nN)) 25))).cell? (dD w.heap.size 2)=some (iI x2)/\(World.drew (World.alloc W0 (.cells (cC 0 0 0 0 (nN) (nN) (nN)) 25))).cell? (dD w.heap.size 3)=some (.int .u32 x3)/\(World.drew (World.alloc W0 (.cells (cC 0 0 0 0 (nN) (nN) (nN)) 25))).cell? (dD w.heap.size 4)=some (.slice a4 n4 c4)/\(World.drew (World.alloc W0 (.cells (cC 0 0 0 0 (nN) (nN) (nN)) 25))).cell? (dD w.heap.size 5)=some (.slice a5 n5 c5)/\Ext W0 (World.drew (World.alloc W0 (.cells (cC 0 0 0 0 (nN) (nN) (nN)) 25))) from KX K0.o)
  go_region_held3 (λ w'=>w'.cell? (dD w.heap.size 0)=some (iI x0)/\w'.cell? (dD w.heap.size 1)=some (iI x1)/\w'.cell? (dD w.heap.size 2)=some (iI x2)/\w'.cell? (dD w.heap.size 3)=some (.int .u32 x3)/\w'.cell? (dD w.heap.size 4)=some (.slice a4 n4 c4)/\w'.cell? (dD w.heap.size 5)=some (.slice a5 n5 c5)/\Ext W0 w') (first|with_reducible exact K0.o|with_reducible exact K0a.o|with_reducible exact S5.o|with_reducible exact S4.o|with_reducible exact KX S5.o|with_reducible exact KX S4.o|((with_reducible refine Tn S5.o (FQ _ _ _ _ _ _ _ _ _) ?_ ?_ ?_ ?_ ?_ ?_ ?_);all_goals(first|(simp;done)|(simp;omega))))
   (first|(go_at_call 6;refine(HA.o _ _ _ (by first|exact .inl ⟨rfl,rfl,rfl⟩|exact .inr (.inl ⟨rfl,rfl,rfl⟩)|exact .inr (.inr ⟨rfl,rfl,rfl⟩)) _).mono ?_;rintro r w1 ⟨rfl,rfl⟩)|(go_at_call 11;first|(first|((with_reducible refine(HG5.o _ (HX0.o.trans (Uk (Uk (Uk (Uk (Uk (Uk (by with_reducible assumption))))))))).mono ?_);rintro r w5 ⟨v5,s5,rfl,O5,K5,X5⟩;have S5:=hid (Gi (by with_reducible assumption) X5);have z5:W0.heap.size<=w5.heap.size:=Uk (Uk (Uk (Uk (Uk (Uk S5.o)))))|>.size;have hB5:=X5.heap (show _=oC (cC 0 0 0 0 (nN) (nN) (nN)) 25 from HB4.o);obtain⟨r0,r1,r2,r3,r4,r5,r6,rf⟩:=Pd hB5;have hl5:=lH hB5;have HB5:=hid hB5;clear hB5;obtain⟨b5,d5,rfl⟩:=O5.sliceN;obtain⟨m5,hm5⟩:∃m,m=(nv s5).length:=⟨_,rfl⟩;rw[<-hm5] at O5|-;have HO5:=hid O5;clear O5 hm5)|((with_reducible refine(HG5.o (World.alloc w4 (.cells (cC 0 0 0 0 (nN) (nN) (nN)) 25)) (HX0.o.trans (Uk (Uk (Uk (Uk (Uk (Uk (by with_reducible assumption))))))))).mono ?_);rintro r w5 ⟨v5,s5,rfl,O5,K5,X5⟩;have S5:=hid (Gi (by with_reducible assumption) X5);have z5:W0.heap.size<=w5.heap.size:=Uk (Uk (Uk (Uk (Uk (Uk S5.o)))))|>.size;have hB5:=X5.heap (show _=oC (cC 0 0 0 0 (nN) (nN) (nN)) 25 from Ub w4 (.cells (cC 0 0 0 0 (nN) (nN) (nN)) 25 (0,0)));obtain⟨r0,r1,r2,r3,r4,r5,r6,rf⟩:=Pd hB5;have hl5:=lH hB5;have HB5:=hid hB5;clear hB5;obtain⟨b5,d5,rfl⟩:=O5.sliceN;obtain⟨m5,hm5⟩:∃m,m=(nv s5).length:=⟨_,rfl⟩;rw[<-hm5] at O5|-;have HO5:=hid O5;clear O5 hm5)|((with_reducible refine(HG5.o w4 (HX0.o.trans (Uk (Uk (Uk (Uk (Uk (Uk (by with_reducible assumption))))))))).mono ?_);rintro r w5 ⟨v5,s5,rfl,O5,K5,X5⟩;have S5:=hid (Gi (by with_reducible assumption) X5);have z5:W0.heap.size<=w5.heap.size:=Uk (Uk (Uk (Uk (Uk (Uk S5.o)))))|>.size;obtain⟨b5,d5,rfl⟩:=O5.sliceN;obtain⟨m5,hm5⟩:∃m,m=(nv s5).length:=⟨_,rfl⟩;rw[<-hm5] at O5|-;have HO5:=hid O5;clear O5 hm5))|(first|((with_reducible refine(HG4.o (World.drew (World.alloc W0 (.cells (cC 0 0 0 0 (nN) (nN) (nN)) 25))) (HX0.o.trans (Uk (Uk (Uk (Uk (Uk (Uk (by with_reducible assumption))))))))).mono ?_);rintro r w4 ⟨v4,s4,rfl,O4,K4,X4⟩;have S4:=hid (Gi (by with_reducible assumption) X4);have z4:W0.heap.size<=w4.heap.size:=Uk (Uk (Uk (Uk (Uk (Uk S4.o)))))|>.size;have hB4:=X4.heap (show(World.drew (World.alloc W0 (.cells (cC 0 0 0 0 (nN) (nN) (nN)) 25))).heap[W0.heap.size]?=oC (cC 0 0 0 0 (nN) (nN) (nN)) 25 from Ub (World.drew W0) (.cells (cC 0 0 0 0 (nN) (nN) (nN)) 25 (0,0)));obtain⟨r0,r1,r2,r3,r4,r5,r6,rf⟩:=Pd hB4;have hl4:=lH hB4;have HB4:=hid hB4;clear hB4;obtain⟨b4,d4,rfl⟩:=O4.sliceN;obtain⟨m4,hm4⟩:∃m,m=(nv s4).length:=⟨_,rfl⟩;rw[<-hm4] at O4|-;have HO4:=hid O4;clear O4 hm4)|((with_reducible refine(HG4.o (World.drew W0) (HX0.o.trans (Uk (Uk (Uk (Uk (Uk (Uk (by with_reducible assumption))))))))).mono ?_);rintro r w4 ⟨v4,s4,rfl,O4,K4,X4⟩;have S4:=hid (Gi (by with_reducible assumption) X4);have z4:W0.heap.size<=w4.heap.size:=Uk (Uk (Uk (Uk (Uk (Uk S4.o)))))|>.size;obtain⟨b4,d4,rfl⟩:=O4.sliceN;obtain⟨m4,hm4⟩:∃m,m=(nv s4).length:=⟨_,rfl⟩;rw[<-hm4] at O4|-;have HO4:=hid O4;clear O4 hm4))))
  all_goals
   go_wp2_with fail;have e5:=S5.o.2.2.2.2.2.2;have z0:W0.heap.size<=w4.heap.size:=z4;go_meet
   case rel=>first|(have hh:=HB4.o;clear hh;exact⟨_,_,_,_,_,rfl,rfl,rfl,put7 HB5.o,((HO4.o.low (by simp)).ext X5).upd (FQ _ _ _ _ _ _ _ _ _) (λ g hg=>by have:=(HO4.o.lt hg).1;simp at this|-;omega),(HO5.o.low z0).upd (FQ _ _ _ _ _ _ _ _ _) (λ g hg=>by have:=(HO5.o.lt hg).1;simp at this|-;omega),K4,K5,Upd.ext (FQ _ _ _ _ _ _ _ _ _) e5 (by simp),Uf _⟩)|(have hh:=HB5.o;clear hh;exact⟨_,_,_,_,_,rfl,rfl,rfl,put7 HB5.o,((HO4.o.low (Uf _)).ext (((Ext.refl _).alloc _).trans X5)).upd (FQ _ _ _ _ _ _ _ _ _) (λ g hg=>by have:=(HO4.o.lt hg).2;simp;omega),(HO5.o.low (by simp;omega)).upd (FQ _ _ _ _ _ _ _ _ _) (λ g hg=>by have:=(HO5.o.lt hg).1;simp at this|-;omega),K4,K5,Upd.ext (FQ _ _ _ _ _ _ _ _ _) e5 (by simp;omega),z0⟩)|(exact⟨_,_,_,_,_,rfl,rfl,rfl,Ub w5 _,(HO4.o.low (Uf _)).ext (X5.trans ((Ext.refl _).alloc _)),(HO5.o.low z0).ext ((Ext.refl _).alloc _),K4,K5,e5.alloc _,z5⟩)
 case rest=>
 obtain⟨b,v4,v5,s4,s5,rfl,rfl,rfl,hB,hO4,hO5,K4,K5,hX,hbz⟩:=hcut;obtain⟨W1,hW1⟩:∃W,W=wc:=⟨_,rfl⟩;rw[<-hW1] at hB hO4 hO5 hX|-
 have hn4:=hO4.otype hB (by decide);have hn5:=hO5.otype hB (by decide);obtain⟨a4',d4',rfl⟩:=hO4.sliceN;obtain⟨a5',d5',rfl⟩:=hO5.sliceN;obtain⟨m4,hm4⟩:∃m,m=(nv s4).length:=⟨_,rfl⟩;obtain⟨m5,hm5⟩:∃m,m=(nv s5).length:=⟨_,rfl⟩;rw[<-hm4] at hB hO4 hn4;rw[<-hm5] at hB hO5 hn5;have HO4:=hid hO4;have HO5:=hid hO5;have HN4:=hid hn4;have HN5:=hid hn5;have HX1:=hid (HX0.o.trans hX);have HB1:=hid (hX.heap HB.o);have HR1:=hid (hX.heap HR.o);have HBb:=hid hB;have hbl:=lH hB;have hzx:=hX.size;have hc6:=HR6.o.2.2.1;unfold maxLen at hc6;clear hB hO4 hO5 hX hn4 hn5 hm4 hm5 hW1 q0 q1 q2 q3 q4 q5 qs HA HG4 HG5 HX0 HB HR e0 e2;go_wp2_with fail;go_loopw [4] (λ u4 wr=>∃(i:Nat) (v6:Value) (s6:List Int),i<=n6/\i<=4/\u4= iI i/\wr.heap[b]?=oC (Uy (1+k0) k1 (1+k2) x3 (.slice a4' m4 d4') (.slice a5' m5 d5') v6) 25/\AA wr W1.heap.size 3 v6 (nv s6)/\s6.length=i/\(∀s∈s6,64<=s/\s<=200)/\Upd [b] W1 wr) (λ u4 _=>5-(intOf u4).toNat)
 case atStart=>exact⟨0,nN,[],by omega,by omega,rfl,HBb.o,AA.nil _ _ _,rfl,by simp,Upd.refl _ _⟩
 case round=>
  obtain⟨i,v6,s6,hin,hi4,rfl,hB,hO,hl,hp,hU⟩:=hrel;have hB0:=hU.heap HB1.o (by simp;omega);have hne:=hO.otype hB (by decide);have hbase:=hU.size;obtain⟨va,vc,rfl⟩:=hO.sliceN;obtain⟨m,hm⟩:∃m,m=(nv s6).length:=⟨_,rfl⟩;rw[<-hm] at hO hB hne;have HO:=hid hO;have HB:=hid hB;have HU:=hid hU;have HP:=hid hp;have HL:=hid hl;have HNe:=hid hne;have HB0:=hid hB0;have hbr:=lH hB;unfold Uy at hB;have c6:=cO hB0 6;have x6:=cO hB 6;clear hB0 hO hB hp hU hl hne hm;by_cases h1:i<n6
  ·by_cases h2:i<4
   ·obtain⟨g,o,rfl,hcl,hw⟩:=Hv HR6.o h1;have hcl:=HU.o.cell (HX1.o.cell hcl) (by have:=Ug _ _ hcl;simp at this|-;omega);obtain⟨k,hk,hA⟩:=BT _ 100 (by omega) hw;have HA:=hid hA;obtain⟨v',w',q1,q2,q3,-⟩:=(HO.o.ext ((Ext.refl wr).drew)).append1 (P:=prog) (t:=23) (ty:=23) (iI 0) 8 underlying23 IL rfl (iI (64+(k:Int))) rfl (by rw[Bp];have:=HL.o;unfold maxLen;omega) (by rw[Bp];have:=HL.o;omega) hbase;obtain⟨va',vc',rfl⟩:=q2.sliceN;obtain⟨ml,hml⟩:∃m,m=(nv s6++[Value.int .i64 (64+(k:Int))]).length:=⟨_,rfl⟩;rw[<-hml] at q1 q2;clear hml;have hBn:=Br q3 (((Ext.refl wr).drew.alloc _).heap HB.o) (λ e=>HNe.o b e.symm rfl);have f7:=fO hBn 6;have x7:w'.cell? (dD b 6)=some (.slice va m vc):=cO hBn 6;have HBn:=hid hBn;have HQ:=hid q1;have HO2:=hid q2;have HU2:=hid (HU.o.trans2 ((((Ext.refl wr).drew.alloc _).upd _).trans (BS q3)) (λ t ht=>by simp at ht;have:=(HO.o.lt ht).1;omega));have e1:IntKind.i64.wrap ((i:Int)+1)=(i:Int)+1:=Uh _ (by omega);have e2:IntKind.i64.wrap (64+(k:Int))=64+(k:Int):=Uh _ (by omega);have i0:(0:Int)<=(i:Int):=by omega
    have i1:(i:Int)<(n6:Int):=by omega
    have i2:(i:Int)<4:=by omega
    have d1:decide ((i:Int)<(n6:Int))=true:=by simp;omega
    have d2:decide ((i:Int)<4)=true:=by simp;omega
    clear hA q1 q2 q3 hw hBn;go_wp2_with fail;go_region_law (first|(refine AU rfl (.tmp 37) (.tmp 45) _ rfl _ _ _ rfl rfl HQ.o ?_)|(go_simp;go_at_call 6;refine(HA.o _).mono ?_;rintro r w1 ⟨rfl,rfl⟩))
    all_goals
     go_wp2_with fail;exact⟨⟨i+1,_,s6++[64+(k:Int)],by omega,by omega,congrArg (Value.int .i64) (by omega),jP (i:=6) _ HBn.o,(by simpa [nv] using HO2.o:AA w' _ _ _ (nv (s6++[64+(k:Int)]))).upd ((Upd.refl [b] _).setCell _ _ (.inl (by simp))) (λ g hg hm=>(by simpa [nv] using HO2.o:AA w' W1.heap.size _ _ (nv (s6++[64+(k:Int)]))).otype HBn.o (by decide) g hg (by simpa using hm)),by simp[HL.o],λ s hs=>by rcases List.mem_append.1 hs with q|q;exact HP.o s q;simp at q;omega,HU2.o.setCell _ _ (.inl (by simp))⟩,by simp only[intOf];omega⟩
   ·have i1:(i:Int)<(n6:Int):=by omega
    have d1:decide ((i:Int)<(n6:Int))=true:=by simp;omega
    have d2:decide ((i:Int)<4)=false:=by simp;omega
    go_upto_region 6 with fail;clear c6 x6;refine wp_region_lit ?_;refine AJ rfl _ _ rfl b (Uy (1+k0) k1 (1+k2) x3 (.slice a4' m4 d4') (.slice a5' m5 d5') (.slice va m vc)) rfl 25 HB.o _ underlying25 rfl DZ ?_;refine AT rfl _ _ _ rfl (w.heap.size+1) (Uy (1+k0) k1 (1+k2) x3 (.slice a4' m4 d4') (.slice a5' m5 d5') (.slice va m vc)) rfl rfl 25 _ (HU.o.heap HR1.o (by simp;omega)) DZ rfl (by simp[Uy,Value.oneCell']) ?_;intro W hRw hW;refine wpList_nil ?_;go_wp2_with fail;exact Ue (Uj rfl _ _ (w.heap.size+1) 25 (Uy (1+k0) k1 (1+k2) x3 (.slice a4' m4 d4') (.slice a5' m5 d5') (.slice va m vc)) (0,0) _ rfl hRw underlying25 rfl DZ) rfl ⟨1+k0,k1,1+k2,_,_,_,s4,s5,s6,rfl,⟨by omega,by omega,by omega,K4,K5,by have:=HL.o;omega,HP.o⟩,((HO4.o.upd HU.o (λ g hg hm=>HN4.o g hg (by simpa using hm))).upd hW (λ g hg hm=>by have:=(HO4.o.lt hg).1;simp at hm;omega)).low hz0,((HO5.o.upd HU.o (λ g hg hm=>HN5.o g hg (by simpa using hm))).upd hW (λ g hg hm=>by have:=(HO5.o.lt hg).1;simp at hm;omega)).low hz0,(HO.o.upd hW (λ g hg hm=>by have:=(HO.o.lt hg).1;simp at hm;omega)).low (by omega),hW.ext (HU.o.ext HX1.o (by simp;omega)) (by simp)⟩
  ·have d1:decide ((i:Int)<(n6:Int))=false:=by simp;omega
   go_upto_region 6 with fail;clear c6 x6;refine wp_region_lit ?_;refine AJ rfl _ _ rfl b (Uy (1+k0) k1 (1+k2) x3 (.slice a4' m4 d4') (.slice a5' m5 d5') (.slice va m vc)) rfl 25 HB.o _ underlying25 rfl DZ ?_;refine AT rfl _ _ _ rfl (w.heap.size+1) (Uy (1+k0) k1 (1+k2) x3 (.slice a4' m4 d4') (.slice a5' m5 d5') (.slice va m vc)) rfl rfl 25 _ (HU.o.heap HR1.o (by simp;omega)) DZ rfl (by simp[Uy,Value.oneCell']) ?_;intro W hRw hW;refine wpList_nil ?_;go_wp2_with fail;exact Ue (Uj rfl _ _ (w.heap.size+1) 25 (Uy (1+k0) k1 (1+k2) x3 (.slice a4' m4 d4') (.slice a5' m5 d5') (.slice va m vc)) (0,0) _ rfl hRw underlying25 rfl DZ) rfl ⟨1+k0,k1,1+k2,_,_,_,s4,s5,s6,rfl,⟨by omega,by omega,by omega,K4,K5,by have:=HL.o;omega,HP.o⟩,((HO4.o.upd HU.o (λ g hg hm=>HN4.o g hg (by simpa using hm))).upd hW (λ g hg hm=>by have:=(HO4.o.lt hg).1;simp at hm;omega)).low hz0,((HO5.o.upd HU.o (λ g hg hm=>HN5.o g hg (by simpa using hm))).upd hW (λ g hg hm=>by have:=(HO5.o.lt hg).1;simp at hm;omega)).low hz0,(HO.o.upd hW (λ g hg hm=>by have:=(HO.o.lt hg).1;simp at hm;omega)).low (by omega),hW.ext (HU.o.ext HX1.o (by simp;omega)) (by simp)⟩
theorem LO {zs:List Int} (h:AA w base 5 v (bv zs)) (z:Int) (h0:0<=z) (h1:z<256) (hl:zs.length<=9000000) (hb:base<=w.heap.size):
  ∃v' w',(Builtin.append_ #[26,26] 26 #[v,sS w.heap.size 0 1 1]).run prog (w.alloc (.cells #[.int .u8 z] 5))= .ok v' w'/\AA w' base 5 v' (bv (zs++[z]))/\∀o,o.heap.size<=base->Ext o w->Ext o w':=by
 obtain⟨v',w',q1,q2,q3⟩:=(h.ext ((Ext.refl w).alloc (.cells #[.int .u8 z] 5))).app (sl1 w z h0 h1) (by simp;omega) (by simp;omega) 26;exact⟨v',w',q1,q2,λ o ho hx=>(h.ext ((Ext.refl w).alloc _)).grow_ext q3 (hx.alloc _) ho⟩
theorem Nj (n:Int) (h0:0<=n) (h1:n<18446744073709551616) (k:Nat) (hk:k<=8) (w:World):
  Calls prog 109 #[.int .u64 n,iI k] w λ r w'=>∃v,r= .returned v/\AA w' w.heap.size 5 v (bv (leN n k))/\Ext w w':=by
 go_in;go_wp2_with fail;go_loopw [0,5,6] (λ v0 v5 v6 wr=>∃(i:Nat) (x:Int),i<=k/\x=n/256^i/\v6= iI i/\v0= .int .u64 x/\AA wr w.heap.size 5 v5 (bv (leN n i))/\Ext w wr) (λ _ _ v6 _=>k-(intOf v6).toNat)
 case atStart=>exact⟨0,n,by omega,by simp,rfl,rfl,AA.nil _ _ _,Ext.refl w⟩
 case round=>
  obtain⟨i,x,hi,hx,rfl,rfl,hO,hX⟩:=hrel;have hx0:0<=x:=by rw[hx];exact Int.ediv_nonneg h0 (Int.pow_nonneg (by omega))
  have hx1:x<18446744073709551616:=by rw[hx];exact Int.lt_of_le_of_lt (Int.ediv_le_self _ h0) h1
  by_cases hlt:i<k
  ·have d1:decide ((i:Int)<(k:Int))=true:=by simp;omega
   obtain⟨z,hz⟩:∃z,z=x%256:=⟨_,rfl⟩;obtain⟨v',w',q1,q2,q3⟩:=LO hO z (by omega) (by omega) (by rw[lL];omega) hX.size;have e1:x.tmod 256=z:=by rw[hz,Int.tmod_eq_emod_of_nonneg hx0]
   have e2:IntKind.u8.wrap z=z:=IntWalk.u8_in _ (by omega);have HR:=hid q1;have HO:=hid (show AA w' w.heap.size 5 v' (bv (leN n (i+1))) from by rw[leN,<-hx,<-hz];exact q2);have HX:=hid (q3 w (Uf _) hX);have HE:=hid hx;clear q1 q2 q3 hX hx hz;go_wp2_with (at_builtin;refine jA rfl (.tmp 12) (.tmp 16) _ rfl _ _ _ rfl rfl HR.o ?_);go_roundw
   case rel=>exact⟨i+1,x/256,by omega,by rw[HE.o,Int.pow_succ,Int.ediv_ediv_of_nonneg (Int.pow_nonneg (by omega))],by go_num,rfl,HO.o,HX.o⟩
   case measure=>simp[intOf];omega
  ·have d1:decide ((i:Int)<(k:Int))=false:=by simp;omega
   obtain rfl:i=k:=by omega
   go_wp2_with fail;go_ret;exact⟨_,rfl,hO,hX⟩
theorem SK (s:ByteArray) (hs:s.size<=100000) (w:World):
  Calls prog 107 #[.string s] w λ r w'=>∃v,r= .returned v/\AA w' w.heap.size 5 v (bv (leN s.size 2++sb s))/\Ext w w':=by
 have H:=hid (Nj s.size (by omega) (by omega) 2 (by omega));have e1:IntKind.u64.wrap (s.size:Int)=s.size:=IntWalk.u64_in _ (by omega);go_in;go_wp2_with fail;refine(H.o _).mono ?_;rintro r w1 ⟨v1,rfl,O1,X1⟩;obtain⟨g2,c2,w2,q1,q2,q4,-⟩:=D4 w1 s (by unfold maxLen;omega);have hO:=O1.ext q4;obtain⟨v3,w3,p1,p2,p3⟩:=hO.app q2 (by rw[lL,Ab];omega) (by have:=q4.size;have:=X1.size;omega) 26;have HR:=hid p1;have HO:=hid p2;have HX:=hid (hO.grow_ext p3 (X1.trans q4) (Uf _));clear p1 p2 p3 q2 q4 hO X1;go_wp2_with (at_builtin;refine jA rfl (.tmp 6) (.tmp 8) _ rfl _ _ _ rfl rfl HR.o ?_);go_ret;exact⟨_,rfl,HO.o,HX.o⟩
theorem rdata (hv:Sl w v ys) (hs:ys.length<=100000):
  Calls prog 108 #[v] w λ r w'=>∃v,r= .returned v/\AA w' w.heap.size 5 v (bv (leN ys.length 4++ys))/\Ext w w':=by
 have H:=hid (Nj ys.length (by omega) (by omega) 4 (by omega));have e1:IntKind.u64.wrap (ys.length:Int)=ys.length:=IntWalk.u64_in _ (by omega);have HV:=hid hv;obtain⟨a,c,rfl,-⟩:=hv;go_in;go_wp2_with fail;refine(H.o _).mono ?_;rintro r w1 ⟨v1,rfl,O1,X1⟩;obtain⟨v3,w3,p1,p2,p3⟩:=O1.app (HV.o.ext X1) (by rw[lL];omega) X1.size 26;have HR:=hid p1;have HO:=hid p2;have HX:=hid (O1.grow_ext p3 X1 (Uf _));clear p1 p2 p3 O1 X1;go_wp2_with (at_builtin;refine jA rfl (.tmp 6) (.tmp 7) _ rfl _ _ _ rfl rfl HR.o ?_);go_ret;exact⟨_,rfl,HO.o,HX.o⟩
theorem rpack {t:Int} (hk:0<=k/\k<256) (ht:0<=t/\t<65536) (hv:Sl w v ys) (hs:ys.length<=100000):
  Calls prog 67 #[iI k,iI t,v] w λ r w'=>∃v,r= .returned v/\AA w' w.heap.size 5 v (bv (msg k t ys))/\Ext w w':=by
 have H:=hid (Nj (7+ys.length:Int) (by omega) (by omega) 4 (by omega));have H2:=hid (Nj t (by omega) (by omega) 2 (by omega));have e0:IntKind.i64.wrap (7+(ys.length:Int))=7+ys.length:=Uh _ (by omega);have e1:IntKind.u64.wrap (7+(ys.length:Int))=7+ys.length:=IntWalk.u64_in _ (by omega);have e2:IntKind.u64.wrap t=t:=IntWalk.u64_in _ (by omega);have e3:IntKind.u8.wrap k=k:=IntWalk.u8_in _ (by omega);have HV:=hid hv;obtain⟨a,c,rfl,-⟩:=hv;go_in;go_wp2_with fail;refine(H.o _).mono ?_;rintro r w1 ⟨v1,rfl,O1,X1⟩;obtain⟨v2,w2,q1,q2,q3⟩:=LO O1 k (by omega) (by omega) (by rw[lL];omega) X1.size;have HR:=hid q1;have HO2:=hid q2;have HX2:=hid (q3 w (Uf _) X1);clear q1 q2 q3 O1 X1;go_wp2_with (at_builtin;refine jA rfl (.tmp 13) (.tmp 16) _ rfl _ _ _ rfl rfl HR.o ?_);refine(H2.o _).mono ?_;rintro r w3 ⟨v3,rfl,O3,X3⟩;have hl:(leN (7+(ys.length:Int)) 4++[k]).length=5:=by rw[Uc,lL];rfl
 obtain⟨v4,w4,p1,p2,p3⟩:=(HO2.o.ext X3).app (O3.sl (AQ _ _)) (by rw[hl,lL];omega) (by have:=HX2.o.size;have:=X3.size;omega) 26;have HX4:=hid ((HO2.o.ext X3).grow_ext p3 (HX2.o.trans X3) (Uf _));have HR4:=hid p1;have HO4:=hid p2;clear p1 p2 p3 hl O3 X3;obtain⟨v5,w5,p1,p2,p3⟩:=HO4.o.app (HV.o.ext HX4.o) (by simp only[Uc,lL,List.length_singleton];omega) HX4.o.size 26;have HX5:=hid (HO4.o.grow_ext p3 HX4.o (Uf _));have HR5:=hid p1;have HO5:=hid p2;clear p1 p2 p3;go_wp2_with (at_builtin;first|refine jA rfl (.tmp 18) (.tmp 21) _ rfl _ _ _ rfl rfl HR4.o ?_|refine jA rfl (.tmp 23) (.tmp 24) _ rfl _ _ _ rfl rfl HR5.o ?_);go_ret;refine⟨_,rfl,?_,HX5.o⟩;have e:msg k t ys=leN (7+(ys.length:Int)) 4++[k]++leN t 2++ys:=by
  have:leN k 1=[k]:=by show[]++[k/256^0%256]=[k];simp;omega
  rw[msg,this]
 rw[e];exact HO5.o
theorem Cu (n:Int) (h0:0<=n\/n= -1) (h1:n<9223372036854775808) (k:Nat) (hk:k<=8) (w:World):
  Calls prog 106 #[iI n,iI k] w λ r w'=>∃v,r= .returned v/\AA w' w.heap.size 5 v (bv (leN (n%18446744073709551616) k))/\Ext w w':=by
 have H:=hid (Nj (n%18446744073709551616) (by omega) (by omega) k hk);have e1:IntKind.u64.wrap n=n%18446744073709551616:=rfl;go_in;go_wp2_with fail;refine(H.o _).mono ?_;rintro r w1 ⟨v1,rfl,O1,X1⟩;go_wp2_with fail;go_ret;exact⟨_,rfl,O1,X1⟩
theorem IC {α:Type} (f:α->Value) (l:List α) (d:α) {i:Nat} (h:i<l.length):((l.map f).toArray)[i]?=some (f (l.getD i d)):=by
 simp[List.getD,h]
def CY:List Int:=[100,104,108,110,112,114,116,118,120,122,124,126]
def Hn:List ByteArray:=[⟨#[122,110]⟩,⟨#[102,110]⟩,⟨#[116]⟩,⟨#[102,119,108]⟩,⟨#[102,109]⟩,⟨#[102,110,112,109]⟩,⟨#[102,111,99]⟩,⟨#[102,111,100]⟩,⟨#[102]⟩,⟨#[102]⟩,⟨#[102]⟩,⟨#[102,115,110]⟩]
theorem KW:∀j,j<12->∀i,i<j->(CY.getD i 0==CY.getD j 0)=false:=by decide
theorem Oz (j:Nat) (hj:j<12) (hk:CY.getD j 0=k) (hs:Hn.getD j ⟨#[]⟩=s) (w:World):
  Calls prog 65 #[iI k] w λ r w'=>r= .returned (.string s)/\Ext w w':=by
 obtain⟨W0,hW0⟩:∃W,W=((w.alloc (.cells #[iI 100,iI 104,iI 108,iI 110,iI 112,iI 114,iI 116,iI 118,iI 120,iI 122,iI 124,iI 126] 3)).alloc (.cells #[.string ⟨#[122,110]⟩,.string ⟨#[102,110]⟩,.string ⟨#[116]⟩,.string ⟨#[102,119,108]⟩,.string ⟨#[102,109]⟩,.string ⟨#[102,110,112,109]⟩,.string ⟨#[102,111,99]⟩,.string ⟨#[102,111,100]⟩,.string ⟨#[102]⟩,.string ⟨#[102]⟩,.string ⟨#[102]⟩,.string ⟨#[102,115,110]⟩] 9)):=⟨_,rfl⟩;obtain⟨hA0,hT0,X0⟩:=AH w (.cells #[iI 100,iI 104,iI 108,iI 110,iI 112,iI 114,iI 116,iI 118,iI 120,iI 122,iI 124,iI 126] 3) (.cells #[.string ⟨#[122,110]⟩,.string ⟨#[102,110]⟩,.string ⟨#[116]⟩,.string ⟨#[102,119,108]⟩,.string ⟨#[102,109]⟩,.string ⟨#[102,110,112,109]⟩,.string ⟨#[102,111,99]⟩,.string ⟨#[102,111,100]⟩,.string ⟨#[102]⟩,.string ⟨#[102]⟩,.string ⟨#[102]⟩,.string ⟨#[102,115,110]⟩] 9);rw[<-hW0] at hA0 hT0 X0;have hA:∀i,i<12->W0.cell? (dD w.heap.size i)=some (iI (CY.getD i 0)):=λ i hi=>by
  rw[cO hA0 i];exact IC (Value.int .i64) CY 0 hi
 have hB:∀i,i<12->W0.cell? (dD (w.heap.size+1) i)=some (.string (Hn.getD i ⟨#[]⟩)):=λ i hi=>by
  rw[cO hT0 i];exact IC Value.string Hn ⟨#[]⟩ hi
 have HA:=hid hA;have HB:=hid (hB j hj);have HX:=hid X0;have HK:=hid hk;have HS:=hid hs;have HW:=hid hW0;clear hA hB hA0 hT0 X0 hk hs hW0;go_in;go_wp2_with (rw[<-HW.o]);go_loop [5] (λ v=>∃i:Nat,i<=j/\v= iI i) (λ v=>j-(intOf v).toNat)
 case atStart=>exact⟨0,by omega,rfl⟩
 case round=>
  obtain⟨i,hi,rfl⟩:=hrel;have hc:=HA.o i (by omega);have b0:(0:Int)<=(i:Int):=by omega
  have b1:(i:Int)<12:=by omega
  by_cases hlt:i<j
  ·have hq:(CY.getD i 0==k)=false:=by rw[<-HK.o];exact KW j hj i hlt
   obtain⟨x,hx⟩:∃x,x=CY.getD i 0:=⟨_,rfl⟩;rw[<-hx] at hc hq;clear hx;go_wp2_with fail;go_round
   case rel=>exact⟨i+1,by omega,by go_num⟩
   case measure=>simp[intOf];omega
  ·obtain rfl:i=j:=by omega
   rw[HK.o] at hc;have hd:=HB.o;rw[HS.o] at hd;have hq:(k==k)=true:=by simp
   go_wp2_with fail;go_ret;exact⟨rfl,HX.o⟩
def CX:List Int:=[101,105,107,109,111,113,115,117,119,121,123,125,127]
def Hm:List ByteArray:=[⟨#[122,110]⟩,⟨#[113]⟩,⟨#[101]⟩,⟨#[45]⟩,⟨#[108]⟩,⟨#[113,105]⟩,⟨#[113,105]⟩,⟨#[100]⟩,⟨#[99]⟩,⟨#[45]⟩,⟨#[45]⟩,⟨#[115]⟩,⟨#[45]⟩]
theorem KU:∀j,j<13->∀i,i<j->(CX.getD i 0==CX.getD j 0)=false:=by decide
theorem Af (j:Nat) (hj:j<13) (hk:CX.getD j 0=k) (hs:Hm.getD j ⟨#[]⟩=s) (w:World):
  Calls prog 26 #[iI k] w λ r w'=>r= .returned (.string s)/\Ext w w':=by
 obtain⟨W0,hW0⟩:∃W,W=((w.alloc (.cells #[iI 101,iI 105,iI 107,iI 109,iI 111,iI 113,iI 115,iI 117,iI 119,iI 121,iI 123,iI 125,iI 127] 3)).alloc (.cells #[.string ⟨#[122,110]⟩,.string ⟨#[113]⟩,.string ⟨#[101]⟩,.string ⟨#[45]⟩,.string ⟨#[108]⟩,.string ⟨#[113,105]⟩,.string ⟨#[113,105]⟩,.string ⟨#[100]⟩,.string ⟨#[99]⟩,.string ⟨#[45]⟩,.string ⟨#[45]⟩,.string ⟨#[115]⟩,.string ⟨#[45]⟩] 9)):=⟨_,rfl⟩;obtain⟨hA0,hT0,X0⟩:=AH w (.cells #[iI 101,iI 105,iI 107,iI 109,iI 111,iI 113,iI 115,iI 117,iI 119,iI 121,iI 123,iI 125,iI 127] 3) (.cells #[.string ⟨#[122,110]⟩,.string ⟨#[113]⟩,.string ⟨#[101]⟩,.string ⟨#[45]⟩,.string ⟨#[108]⟩,.string ⟨#[113,105]⟩,.string ⟨#[113,105]⟩,.string ⟨#[100]⟩,.string ⟨#[99]⟩,.string ⟨#[45]⟩,.string ⟨#[45]⟩,.string ⟨#[115]⟩,.string ⟨#[45]⟩] 9);rw[<-hW0] at hA0 hT0 X0;have hA:∀i,i<13->W0.cell? (dD w.heap.size i)=some (iI (CX.getD i 0)):=λ i hi=>by
  rw[cO hA0 i];exact IC (Value.int .i64) CX 0 hi
 have hB:∀i,i<13->W0.cell? (dD (w.heap.size+1) i)=some (.string (Hm.getD i ⟨#[]⟩)):=λ i hi=>by
  rw[cO hT0 i];exact IC Value.string Hm ⟨#[]⟩ hi
 have HA:=hid hA;have HB:=hid (hB j hj);have HX:=hid X0;have HK:=hid hk;have HS:=hid hs;have HW:=hid hW0;clear hA hB hA0 hT0 X0 hk hs hW0;go_in;go_wp2_with (rw[<-HW.o]);go_loop [5] (λ v=>∃i:Nat,i<=j/\v= iI i) (λ v=>j-(intOf v).toNat)
 case atStart=>exact⟨0,by omega,rfl⟩
 case round=>
  obtain⟨i,hi,rfl⟩:=hrel;have hc:=HA.o i (by omega);have b0:(0:Int)<=(i:Int):=by omega
  have b1:(i:Int)<13:=by omega
  by_cases hlt:i<j
  ·have hq:(CX.getD i 0==k)=false:=by rw[<-HK.o];exact KU j hj i hlt
   obtain⟨x,hx⟩:∃x,x=CX.getD i 0:=⟨_,rfl⟩;rw[<-hx] at hc hq;clear hx;go_wp2_with fail;go_round
   case rel=>exact⟨i+1,by omega,by go_num⟩
   case measure=>simp[intOf];omega
  ·obtain rfl:i=j:=by omega
   rw[HK.o] at hc;have hd:=HB.o;rw[HS.o] at hd;have hq:(k==k)=true:=by simp
   go_wp2_with fail;go_ret;exact⟨rfl,HX.o⟩
end Go.Proofs.YtdakioiagpkfhaaGreatDoor
