import Derived.Test.YtdakioiagpkfhaaGreatDoorP29
import Derived.Laws.ResultCell
set_option maxRecDepth 99999
set_option maxHeartbeats 0
set_option linter.all false
namespace Go.Proofs.YtdakioiagpkfhaaGreatDoor
open RowKit Conc
open Go.Proofs.Tryz
variable {S:List Nat} {a:QV} {ds:List Int} {dv:Value} {k x:Int} {ns:List ByteArray} {o:Option QI} {s:ByteArray} {t:TV} {w w':World}
section
variable {P:Program} {ops:Array Oper} {rest:List Oper} {o:Oper} {a:Act} {w:World} {Q:Exit->Act->World->Prop}
theorem AT (hgd:o.guard=none) (ty:TypeId) (x y:Operand) (ho:o.op= .store ty x y) (g:Nat) (cells:Array Value) (hx:a.eval x= pP g 0) (hy:a.eval y= .agg cells) (t:TypeId) (old:Array Value) (hg:w.heap[g]?=oC old t) (hi:(P.info? ty).map (·.size)=some cells.size) (hold:old.size=cells.size) (h1:cells.all (·.oneCell')=true) (h:∀W,W.heap[g]?=oC cells t->Upd [g] w W->wpList P ops Q rest (a.put o.dst undef) W):wpList P ops Q (o::rest) a w:=
 wpList_store_row hgd ty x y ho g cells hx hy t old hg hi hold h1 (h _ (setRow_heap w g old cells t (0,0) hg) (Ae w g cells))
theorem AZ {w0:World} {t:TypeId} {old:Array Value} (hw:w=w0.alloc (.cells old t (0,0))) (hgd:o.guard=none) (ty:TypeId) (x y:Operand) (ho:o.op= .store ty x y) (cells:Array Value) (hx:a.eval x= pP w0.heap.size 0) (hy:a.eval y= .agg cells) (hi:(P.info? ty).map (·.size)=some cells.size) (hold:old.size=cells.size) (h1:cells.all (·.oneCell')=true) (h:∀W,W.heap[w0.heap.size]?=oC cells t->Ext w0 W->wpList P ops Q rest (a.put o.dst undef) W):wpList P ops Q (o::rest) a w:=by
 subst hw;refine wpList_store_row hgd ty x y ho w0.heap.size cells hx hy t old (Ub w0 _) hi hold h1 ?_;rw[World.setRow_alloc_new];exact h _ (Ub w0 _) ((Ext.refl _).alloc _)
end
theorem AO {P:Program} {fn:Func} {p u:Tmp} {ty:TypeId} (h:fn.results= #[.cell p ty,.tmp u]) (tmps:Array Value) (w:World) (g:Nat) (t:TypeId) (cs:Array Value) (d:TypeDesc) (hp:tmps.getD p undef= pP g 0) (hg:w.heap[g]?=oC cs t) (hu:P.underlying ty=some d) (hd:(match d with| .struct _| .array _ _=>true|_=>false)=true) (hi:(P.info? ty).map (·.size)=some cs.size) {v:Value} (hv:tmps.getD u undef=v):
  (results fn tmps).run P w= .ok (.tuple #[.agg cs,v]) w:=by
 rw[results_cell_tmp h,hp,hv];simp[asAddr,run_loadVar_row w g t ty cs (0,0) d hg hu hd hi,Result.andThen]
structure B4 (fb room nodes:Nat) (st st':Option AE) (a:AV) (ds:List Int) (rv:RV) (zs:List Int):Prop where
 c:CP a ds
 d:Pv fb room nodes st st' a ds rv zs
 r:BH a.proc rv zs
 w:Wf zs
 rst:a.rest (AD a.proc)={proc:=a.proc}
 rsd:B7 ds (AD a.proc)=[]
structure DJ (sp fb room nodes:Nat) (I:Option AE->Nat->World->List Nat->Prop):Prop where
 loc:∀st n,Loc (I st n)
 ask:∀{st st':Option AE} {a:AV} {ds:List Int} {rv:RV} {zs:List Int} {n:Nat} {w:World} {F:List Nat} {d:Value},B4 fb room nodes st st' a ds rv zs->n<100->I st n w F->Sl w d ds->(∀g,d.ownBlock=some g->g<w.heap.size)->
  Calls prog 23 #[pP sp 0,a.val d] w λ r w'=>∃v,r= .returned (rv.val v)/\AA w' w.heap.size 5 v (bv zs)/\∃F',I st' (n+1) w' F'/\Mv w w' F F'
def Bk:Array Value:= rZ
def Gm (sp:Nat):Value:= .func (.func 23) #[pP sp 0] #[]
theorem JM (args:Array Value) (w:World):(callFunc 23 args).run prog w= .ok (.enter 23 args) w:=
 AL func23 (by kernel_rfl) rfl _ _
def DP (sp pb:Nat):Array Value:= #[Gm sp,iI 1,iI 1,pP pb 0,iI 1024]
def GS (I:Option AE->Nat->World->List Nat->Prop) (sp gp pb mb:Nat) (l:List (Int×FV)) (st:Option AE) (n:Nat) (w:World) (G:List Nat):Prop:=
 ∃F,G=gp::pb::mb::F/\w.heap[gp]?=oC (DP sp pb) 135/\B3 w pb mb 16 l/\I st n w F/\gp≠pb/\gp≠mb/\gp∉F/\pb∉F/\mb∉F
theorem B3.upd {pb mb:Nat} {most:Int} {l:List (Int×FV)} (h:B3 w pb mb most l) (hu:Upd S w w') (h1:pb∉S) (h2:mb∉S):B3 w' pb mb most l:=
 ⟨hu.heap h.ptr h1,h.map.upd hu h2⟩
section
variable {I:Option AE->Nat->World->List Nat->Prop} {sp fb room nodes gp pb mb n:Nat} {l:List (Int×FV)} {st:Option AE} {w w':World} {G:List Nat}
theorem GS.loc (hI:∀st n,Loc (I st n)):Loc (GS I sp gp pb mb l st n):=by
 refine⟨λ w G h b hb=> ?_,λ w w' G S h hu hs=> ?_⟩
 ·obtain⟨F,rfl,h1,h2,h3,-⟩:=h;simp only[Um] at hb;rcases hb with rfl|rfl|rfl|hb
  ·exact lH h1
  ·exact lH h2.ptr
  ·exact h2.map.lt
  ·exact(hI _ _).1 _ _ h3 b hb
 ·obtain⟨F,rfl,h1,h2,h3,h4⟩:=h;exact⟨F,rfl,hu.heap h1 (hs _ (by simp)),h2.upd hu (hs _ (by simp)) (hs _ (by simp)),(hI _ _).2 _ _ _ _ h3 hu (λ b hb=>hs b (by simp[hb])),h4⟩
theorem GS.gate (h:GS I sp gp pb mb l st n w G):w.heap[gp]?=oC (DP sp pb) 135:=by
 obtain⟨F,rfl,h1,-⟩:=h;exact h1
theorem GS.gpn (h:GS I sp gp pb mb l st n w G):gp≠pb/\gp≠mb:=by
 obtain⟨F,-,-,-,-,h1,h2,-⟩:=h;exact⟨h1,h2⟩
theorem GS.ext (hI:∀st n,Loc (I st n)) (h:GS I sp gp pb mb l st n w G) (hx:Ext w w'):GS I sp gp pb mb l st n w' G:=(GS.loc hI).2 _ _ _ [] h (hx.upd _) (λ _ _=>by simp)
theorem GS.fid (hI:∀st n,Loc (I st n)) (h:GS I sp gp pb mb l st n w G):B3 w pb mb 16 l/\w.heap[gp]?=oC (DP sp pb) 135/\∀w' l',B3 w' pb mb 16 l'->Upd [pb,mb] w w'->GS I sp gp pb mb l' st n w' G/\Mv w w' G G:=by
 obtain⟨F,rfl,h1,h2,h3,h4,h5,h6,h7,h8⟩:=h;refine⟨h2,h1,λ w' l' hf hu=>⟨⟨F,rfl,hu.heap h1 (by simp[h4,h5]),hf,(hI _ _).2 _ _ _ _ h3 hu (λ b hb=>by simp;exact⟨λ e=>h7 (e▸hb),λ e=>h8 (e▸hb)⟩),h4,h5,h6,h7,h8⟩,Mv.same (hu.mono (by simp))⟩⟩
theorem GS.ask (h:GS I sp gp pb mb l st n w G):∃F,I st n w F/\(∀b∈F,b∈G)/\∀W,Ext w W->∀w' F' st' n',I st' n' w' F'->Mv W w' F F'->(∀b∈G,b<w.heap.size)->∃G',GS I sp gp pb mb l st' n' w' G'/\Mv W w' G G':=by
 obtain⟨F,rfl,h1,h2,h3,h4,h5,h6,h7,h8⟩:=h;refine⟨F,h3,λ b hb=>by simp[hb],λ W X w' F' st' n' hI hM hl=> ?_⟩;have hz:=X.size;have key:∀b,b<w.heap.size->b∉F->b∉F':=λ b h k hm=>by rcases hM.2 b hm with j|j;exact k j;omega
 exact⟨_,⟨F',rfl,hM.1.heap (X.heap h1) h6,(h2.ext X).upd hM.1 h7 h8,hI,h4,h5,key _ (hl _ (by simp)) h6,key _ (hl _ (by simp)) h7,key _ (hl _ (by simp)) h8⟩,hM.1.mono (λ b hb=>by simp[hb]),λ b hb=>by
  simp only[Um] at hb|-
  rcases hb with rfl|rfl|rfl|hb
  ·simp
  ·simp
  ·simp
  ·rcases hM.2 b hb with k|k
   ·simp[k]
   ·exact .inr k⟩
end
theorem FE:(prog.info? 142).map (·.size)=some 10:=by kernel_rfl
theorem RJ:(prog.info? 381).map (·.size)=some 10:=by kernel_rfl
theorem RK:(prog.info? 43).map (·.size)=some 14:=by kernel_rfl
theorem Hl (q:TIs t o ds):(tb t o ds).length<=2000:=by
 cases q<;>simp[tb,qsB,qsL,QI.b,lL]<;>omega
theorem KI (q:QIs a ns ds):(qb a ns ds).length<=20000:=by
 cases q<;>simp[qb,QV.body,tx,tx8,dx,lL,Ab]<;>omega
theorem TIs.typ (q:TIs t o ds):0<=t.typ/\t.typ<256:=by cases q<;>simp
theorem QIs.typ (q:QIs a ns ds):0<=a.typ/\a.typ<256/\0<=a.tag/\a.tag<65536:=by cases q<;>simp<;>omega
theorem u8_in (h:0<=x/\x<256):IntKind.u8.wrap x=x:=by
 show x%256=x
 omega
theorem u16_in (h:0<=x/\x<65536):IntKind.u16.wrap x=x:=by
 show x%65536=x
 omega
theorem Jv (q:TIs t o ds) {qv:Value} (hq:SlQ w qv o) (hd:Sl w dv ds) (hqo:∀g p c,qv= sS g p 1 c->g<w.heap.size) (hdo:∀g,dv.ownBlock=some g->g<w.heap.size):
  Calls prog 111 #[t.val qv dv] w λ r w'=>∃v,r= .returned (.tuple #[v,iI 0])/\AA w' w.heap.size 5 v (bv (msg t.typ t.tag (tb t o ds)))/\Wf (msg t.typ t.tag (tb t o ds))/\Ext w w':=by
 have HL:=hid (λ W (X:Ext w W)=>Ii q (hq.ext X) (hd.ext X) (λ g p c e=>Nat.lt_of_lt_of_le (hqo g p c e) X.size) (λ g e=>Nat.lt_of_lt_of_le (hdo g e) X.size));have HN:=hid (Hl q);have ht:=q.typ;have hg:=q.tg;unfold B8 at hg;have e1:=u8_in ht;have e2:=u16_in hg;clear hq hd hqo hdo q;simp only[TV.val] at*;go_in;go_wp2_with (refine wpList_load_row rfl 39 (.tmp 1) rfl w.heap.size rfl 39 (tT t.typ t.tag t.code t.iounit t.count t.q.dir t.q.ver t.q.path qv dv) (0,0) _ (Ub w _) underlying39 rfl iT ?_);refine(HL.o _ ((Ext.refl w).alloc _)).mono ?_;rintro r w1 ⟨v,rfl,O1,W1,X1⟩;have b0:=X1.cell (cO (Ub w (.cells (tT t.typ t.tag t.code t.iounit t.count t.q.dir t.q.ver t.q.path qv dv) 39)) 0);have b1:=X1.cell (cO (Ub w (.cells (tT t.typ t.tag t.code t.iounit t.count t.q.dir t.q.ver t.q.path qv dv) 39)) 1);have HX:=hid (((Ext.refl w).alloc _).trans X1);have hs:=O1.sl W1;have HP:=hid (SW hs t.typ t.tag (by omega) (by omega) (by omega) (by omega) (by have:=HN.o;omega))
 clear X1 O1 hs;go_wp2_with fail;refine HP.o.mono ?_;rintro r w2 ⟨v2,rfl,O2,X2⟩;go_wp2_with fail;go_ret2;exact⟨_,rfl,O2.low (by have:=HX.o.size;omega),IB _ _ W1,HX.o.trans X2⟩
theorem KG (q:QIs a ns ds) {nv:Value} (hn:SlS w nv ns) (hd:Sl w dv ds) (hno:∀g,nv.ownBlock=some g->g<w.heap.size) (hdo:∀g,dv.ownBlock=some g->g<w.heap.size):
  Calls prog 201 #[a.val nv dv] w λ r w'=>∃v,r= .returned (.tuple #[v,iI 0])/\AA w' w.heap.size 5 v (bv (msg a.typ a.tag (qb a ns ds)))/\Wf (msg a.typ a.tag (qb a ns ds))/\Ext w w':=by
 have HL:=hid (λ W (X:Ext w W)=>VL q (hn.ext X) (hd.ext X) (λ g e=>Nat.lt_of_lt_of_le (hno g e) X.size) (λ g e=>Nat.lt_of_lt_of_le (hdo g e) X.size));have HN:=hid (KI q);obtain⟨h1,h2,h3,h4⟩:=q.typ;have e1:=u8_in ⟨h1,h2⟩;have e2:=u16_in ⟨h3,h4⟩;clear hn hd hno hdo q;simp only[QV.val] at*;go_in;go_wp2_with (refine wpList_load_row rfl 43 (.tmp 1) rfl w.heap.size rfl 43 (aA a.typ a.tag a.fid a.nfid a.otag a.msize a.mode a.perm a.off a.count a.name nv a.size dv) (0,0) _ (Ub w _) underlying43 rfl RK ?_);refine(HL.o _ ((Ext.refl w).alloc _)).mono ?_;rintro r w1 ⟨v,rfl,O1,W1,X1⟩;have b0:=X1.cell (cO (Ub w (.cells (aA a.typ a.tag a.fid a.nfid a.otag a.msize a.mode a.perm a.off a.count a.name nv a.size dv) 43)) 0);have b1:=X1.cell (cO (Ub w (.cells (aA a.typ a.tag a.fid a.nfid a.otag a.msize a.mode a.perm a.off a.count a.name nv a.size dv) 43)) 1);have HX:=hid (((Ext.refl w).alloc _).trans X1);have hs:=O1.sl W1;have HP:=hid (SW hs a.typ a.tag (by omega) (by omega) (by omega) (by omega) (by have:=HN.o;omega));clear X1 O1 hs;go_wp2_with fail;refine HP.o.mono ?_;rintro r w2 ⟨v2,rfl,O2,X2⟩;go_wp2_with fail
 go_ret2;exact⟨_,rfl,O2.low (by have:=HX.o.size;omega),IB _ _ W1,HX.o.trans X2⟩
section
variable {I:Option AE->Nat->World->List Nat->Prop} {sp fb room nodes gp pb mb n:Nat} {l:List (Int×FV)} {st st':Option AE} {w:World} {G:List Nat}
theorem LW (hg:w.heap[gp]?=oC (DP sp pb) 135):Calls prog 269 #[pP gp 0] w λ r w'=>r= .returned (iI 1000)/\w=w':=by
 have c4:w.cell? (dD gp 4)=some (iI 1024):=cO hg 4;go_in;go_wp2_with fail;refine(troom (n:=1024) (by omega) (by omega) w).mono ?_;rintro r w1 ⟨rfl,rfl⟩;go_wp2_with fail;go_ret;exact⟨rfl,rfl⟩
theorem Bc (A:DJ sp fb room nodes I) {a:AV} {zs:List Int} {rv:RV} {d:Value} (ok:B4 fb room nodes st st' a ds rv zs) (h:GS I sp gp pb mb l st n w G) (hn:n<100) (hd:Sl w d ds) (hdb:∀g,d.ownBlock=some g->g<w.heap.size):
  Calls prog 261 #[pP gp 0,a.val d] w λ r w'=>∃v,r= .returned (.tuple #[rv.val v,iI rv.e])/\AA w' w.heap.size 5 v (bv zs)/\∃G',GS I sp gp pb mb l st' (n+1) w' G'/\Mv w w' G G':=by
 have eg:=JM;obtain⟨F,hF,hFG,hgo⟩:=h.ask;have HA:=hid (λ W (X:Ext w W)=>A.ask ok hn ((A.loc st n).2 _ _ _ _ hF (X.upd []) (λ _ _=>by simp)) (hd.ext X) (λ g hg=>Nat.lt_of_lt_of_le (hdb g hg) X.size));have hg:=h.gate;have HG:=hid hgo;have HL:=hid ((GS.loc A.loc).1 _ _ h);have HF:=hid (λ b hb=>(GS.loc A.loc).1 _ _ h b (hFG b hb));have HW:=hid ok.w;have A_loc:=hid A.loc;have HH:=hid hg;clear A ok h hn hd hdb hF hFG hgo hg;dsimp only[AV.val] at*;simp only[RV.val] at HA;go_in;go_upto_region 1 with fail;obtain⟨W0,hW0⟩:∃W,W=((w.alloc (.cells (pR a.proc a.off a.count a.size a.mode a.h1 a.h2 a.k1 a.k2 a.name a.name2 d) 137)).alloc (.cells rZ 142)):=⟨_,rfl⟩;rw[<-hW0];obtain⟨hA,hB,X0⟩:=AH w (.cells (pR a.proc a.off a.count a.size a.mode a.h1 a.h2 a.k1 a.k2 a.name a.name2 d) 137) (.cells rZ 142);rw[<-hW0] at hA hB X0;have hz0:w.heap.size+2<=W0.heap.size:=by rw[hW0];simp
 obtain⟨b0,b1,b2,b3,b4,b5,b6,b7,b8,b9,b10,b11,-⟩:=CM hA;have hl0:=lH hA;have c0:W0.cell? (dD gp 0)=some (Gm sp):=cO (X0.heap HH.o) 0;have hgl:=lH (X0.heap HH.o);have HX0:=hid X0;have HB0:=hid hB;unfold Gm at c0;have hnF:W0.heap.size∉F:=λ hm=>by have:=HF.o _ hm;omega
 have hnB:w.heap.size+1∉F:=λ hm=>by have:=HF.o _ hm;omega
 clear hW0 hA hB X0;go_cut [4,6] (λ q4 q6 wx=>∃xb va vc G',q4= pP (w.heap.size+1) 0/\q6= pP xb 0/\wx.heap[xb]?=oC (rv.cells (.slice va zs.length vc)) 142/\AA wx W0.heap.size 5 (.slice va zs.length vc) (bv zs)/\GS I sp gp pb mb l st' (n+1) wx G'/\Mv w wx G G'/\wx.heap[w.heap.size+1]?=oC rZ 142/\w.heap.size+1<xb/\w.heap.size+1∉G')
 case first=>
  go_region_with (refine(HA.o _ (HX0.o.trans (by first|exact dE _|exact((Ext.refl _).alloc _).drew))).mono ?_;rintro r w1 ⟨v1,rfl,O1,F1,I1,M1⟩;obtain⟨va,vc,rfl,-,-⟩:=O1.sl HW.o;have h1B:=M1.1.heap (o:= .cells Bk 142 (0,0)) (by first|exact HB0.o|exact((Ext.refl W0).alloc _).heap HB0.o) hnB;try(have hx:=M1.1.heap (o:= .cells Bk 142 (0,0)) (by exact Ub W0 _) hnF;obtain⟨x0,x1,x2,x3,x4,x5,x6,x7,x8,x9,xf⟩:=AC (show w1.heap[W0.heap.size]?=oC rZ 142 from hx);have hxl:=lH hx))
  all_goals first
   |(have hxx:=hx
     obtain⟨G',g1,g2⟩:=HG.o (W0.alloc (.cells Bk 142)).drew (HX0.o.alloc _).drew w1 F1 st' (n+1) I1 M1 HL.o;have HGg:=hid g1;have HGm:=hid ((Mv.of_ext (HX0.o.alloc (.cells Bk 142)).drew G).trans g2);have hnG:W0.heap.size∉G':=λ hm=>by
      rcases g2.2 _ hm with k|k
      ·have:=HL.o _ k;omega
      ·have k:(W0.alloc (.cells Bk 142)).heap.size<=W0.heap.size:=k;have:(W0.alloc (.cells Bk 142)).heap.size=W0.heap.size+1:=by simp
       omega
     have hnG1:w.heap.size+1∉G':=λ hm=>by
      rcases g2.2 _ hm with k|k
      ·have:=HL.o _ k;omega
      ·have k:(W0.alloc (.cells Bk 142)).heap.size<=w.heap.size+1:=k;have:(W0.alloc (.cells Bk 142)).heap.size=W0.heap.size+1:=by simp
       omega
     refine Aa (R:=W0.heap.size) (w0:=w1) (Pr:=λ W=>Exit.then _ _ _ _ W) _ (Ao hxx) (AX _ _ _ _ _ _ _ _ _ _ _ _) ?_;clear x0 x1 x2 x3 x4 x5 x6 x7 x8 x9 xf g1 g2;intro W hR hU;go_wp2_with fail;go_meet
     case rel=>exact⟨W0.heap.size,va,vc,G',rfl,rfl,hR,(O1.upd hU (λ g hg hm=>by have:=(O1.lt hg).1;have q:(W0.alloc (.cells Bk 142)).heap.size<=g:=this;have:(W0.alloc (.cells Bk 142)).heap.size=W0.heap.size+1:=(by simp);simp at hm;omega)).low (show W0.heap.size<=(W0.alloc (.cells Bk 142)).heap.size by simp),(GS.loc A_loc.o).2 _ _ _ _ HGg.o hU (λ b hb hm=>by simp at hm;subst hm;exact hnG hb),⟨HGm.o.1.trans2 hU (λ i hi=> .inr (by simp at hi;omega)),HGm.o.2⟩,hU.heap h1B (by simp;omega),by omega,hnG1⟩)
   |(obtain⟨G',g1,g2⟩:=HG.o W0.drew HX0.o.drew w1 F1 st' (n+1) I1 M1 HL.o
     go_wp2_with fail;go_meet
     case rel=>
      have X:=(Ext.refl w1).alloc (.cells (rv.cells (.slice va zs.length vc)) 142);exact⟨w1.heap.size,va,vc,G',rfl,rfl,Ub w1 _,O1.ext X,g1.ext A_loc.o X,((Mv.of_ext HX0.o.drew G).trans g2).ext X,X.heap h1B,by have:=M1.size;have:W0.heap.size<=w1.heap.size:=this;omega,λ hm=>by rcases g2.2 _ hm with k|k;(have:=HL.o _ k;omega);have k:W0.heap.size<=w.heap.size+1:=k;omega⟩)
 case rest=>
 obtain⟨xb,va,vc,G',rfl,rfl,hX,hO,hG,hM,hB,hlt,hnG⟩:=hcut;have HXb:=hid hX;have HBb:=hid hB;have HO:=hid hO;have HGG:=hid hG;have HMv:=hid hM;obtain⟨k,hk⟩:∃k,k=zs.length:=⟨_,rfl⟩;rw[<-hk] at HXb HO;obtain⟨s0,s1,s2,s3,s4,s5,s6,s7,s8,s9,-⟩:=AC (w:=wc) (show wc.heap[xb]?=oC (rR rv.e rv.h1 rv.h2 rv.kind rv.mode rv.size (.slice va k vc) rv.count rv.eof (nN)) 142 from HXb.o);obtain⟨r0,r1,r2,r3,r4,r5,r6,r7,r8,r9,rf⟩:=AC (w:=wc) (g:=w.heap.size+1) HBb.o;have hxl:xb<wc.heap.size:=lH hX;clear hX hO hG hM hB hk;go_wp2_with fail;go_region
 all_goals
  refine Hk (R:=w.heap.size+1) (w0:=wc) (Pr:=λ W=>Exit.then _ _ _ _ W) _ (Ao HBb.o) (AX _ _ _ _ _ _ _ _ _ _ _ _) ?_;clear r0 r1 r2 r3 r4 r5 r6 r7 r8 r9 rf s0 s1 s2 s3 s4 s5 s6 s7 s8 s9;intro W hR hU;have hG':=(GS.loc A_loc.o).2 _ _ _ _ HGG.o hU (λ b hb hm=>by simp at hm;subst hm;exact hnG hb);go_wp2_with fail;refine Ue (v:= .tuple #[rv.val (.slice va k vc),iI rv.e]) (AO (g:=w.heap.size+1) (cs:=rv.cells (.slice va k vc)) rfl _ _ _ _ rfl hR underlying142 rfl FE rfl) rfl ⟨_,rfl,?_,G',hG',HMv.o.1.trans2 hU (λ i hi=> .inr (by simp at hi;omega)),HMv.o.2⟩;exact(HO.o.upd hU (λ g hg hm=>by have:=(HO.o.lt hg).1;simp at hm;omega)).low (by omega)
theorem Cp {v:FV} (hg:w.heap[gp]?=oC (DP sp pb) 135) (h:B3 w pb mb 16 l) (hk:Ah l k=some v) (ho:v.opn=false):
  Calls prog 264 #[pP gp 0,iI k] w λ r w'=>r= .returned (.tuple #[v.val,iI 0])/\Ext w w':=by
 have HG:=hid (λ W (X:Ext w W)=>get_ok pb mb 16 l k W (h.ext X) hk);have c3:w.cell? (dD gp 3)=some (pP pb 0):=cO hg 3;have hl:=lH hg;clear hk;obtain⟨f1,f2,f3,f4,f5,f6,f7,f8,f9,f10⟩:=v;obtain rfl:f7=false:=ho;dsimp only[FV.val] at*;go_in;go_wp2_with fail;have hb:=Ub w (.cells FV.zero.cells 381);refine(HG.o _ ((Ext.refl w).alloc _)).mono ?_;rintro r w1 ⟨rfl,X1⟩;have hr1:=X1.heap hb;have HR1:=hid hr1;have HX1:=hid (((Ext.refl w).alloc _).trans X1);have hl1:=lH hr1;clear X1 hb hr1;go_upto_region 6 with fail;obtain⟨W2,hW2⟩:∃W,W=w1.alloc (.cells (fR f1 f2 f3 f4 f5 f6 false f8 f9 f10) 381):=⟨_,rfl⟩;rw[<-hW2];have XW2:Ext w1 W2:=by rw[hW2];exact(Ext.refl _).alloc _
 have bW2:W2.heap[w1.heap.size]?=oC (fR f1 f2 f3 f4 f5 f6 false f8 f9 f10) 381:=by rw[hW2];exact Ub w1 _
 clear hW2;have hB2:=XW2.heap HR1.o;have HX2:=hid (HX1.o.trans XW2);have HB2:=hid hB2;obtain⟨s0,s1,s2,s3,s4,s5,s6,s7,s8,s9,-⟩:=AC bW2;obtain⟨r0,r1,r2,r3,r4,r5,r6,r7,r8,r9,rf⟩:=AC (show W2.heap[w.heap.size]?=oC fZ 381 from hB2);clear bW2 XW2 hB2;go_wp2_with fail;refine Aa (R:=w.heap.size) (w0:=W2) (Pr:=λ W=>bodyPost _ _ _ _ _ W) _ (Ao (show W2.heap[w.heap.size]?=oC fZ 381 from HB2.o)) (AX _ _ _ _ _ _ _ _ _ _ _ _) ?_;clear r0 r1 r2 r3 r4 r5 r6 r7 r8 r9 rf s0 s1 s2 s3 s4 s5 s6 s7 s8 s9;intro W hR hU;exact Ue (AO (g:=w.heap.size) (cs:= (fR f1 f2 f3 f4 f5 f6 false f8 f9 f10)) rfl _ _ _ _ rfl hR underlying381 rfl RJ rfl) rfl ⟨rfl,hU.ext HX2.o (by simp)⟩
end
section
variable {fb room nodes:Nat} {st st':Option AE} {a:AV} {ds zs:List Int} {rv:RV} {g:Nat} {e:Int}
theorem CC (hg:look KK a.proc=some (fnv g)) (eg:∀args w,(callFunc g args).run prog w= .ok (.enter g args) w) (ok:a.Ok ds) (hm:bits .and .i64 a.mode 511=a.mode) (hP:∀w F d,FsW fb room nodes st w F->Sl w d ds->B6 g fb room nodes st st' a d rv zs e w F) (he:e=0\/zs=[]) (hr:rv.e=0):Pv fb room nodes st st' a ds (if e=0 then rv else{e:=e}) zs:=
 λ w F d hF hd=>(UG hF hg eg ok.off.1 ok.count.1 ok.size.1 hm (λ W X=>hP W F d (hF.ext X) (hd.ext X)) he hr).mono λ _ _ ⟨v,h1,h2,_,h3⟩=>⟨v,h1,h2,h3⟩
theorem B4.mk' (ok:CP a ds) (hr:BH a.proc rv zs) (hw:Wf zs) (hd:Pv fb room nodes st st' a ds rv zs) (h1:a.rest (AD a.proc)={proc:=a.proc}:=by rfl) (h2:B7 ds (AD a.proc)=[]:=by rfl):B4 fb room nodes st st' a ds rv zs:=⟨ok,hd,hr,hw,h1,h2⟩
end
theorem Ej:(⟨#[]⟩:ByteArray).size<=64:=by decide
theorem Jf:bits .and .i64 0 511=0:=by kernel_rfl
theorem UT:bits .and .i64 420 511=420:=by kernel_rfl
theorem GT:BK 1:=⟨by decide,by decide⟩
theorem Ky:BK 2:=⟨by decide,by decide⟩
theorem AP.le (h:AP s):s.size<=64:=by have:=h.hi;omega
theorem IV (hx:x=1\/x=2):CP {proc:=1,h1:=x,h2:=1} []:=
 ⟨by simp,⟨by simp,by simp,by simp,by simp,by dsimp;omega,by simp,by simp,by simp,Ej,Ej,by simp⟩,Wf.nil,rfl,rfl,by simp⟩
theorem IU (hs:AP s):CP {proc:=3,h1:=1,h2:=1,name:=s} []:=
 ⟨by simp,⟨by simp,by simp,by simp,by simp,by simp,by simp,by simp,by simp,hs.le,Ej,by simp⟩,Wf.nil,rfl,rfl,by simp⟩
theorem PX (hs:AP s):CP {proc:=8,h1:=1,h2:=1,name:=s,mode:=420} []:=
 ⟨by simp,⟨by simp,by simp,by simp,by simp,by simp,by simp,by simp,by simp,hs.le,Ej,by simp⟩,Wf.nil,rfl,rfl,by simp⟩
theorem PY {o:Int} (h0:0<=o) (h1:o<=5000) (hd:Wf ds) (hl:ds.length<=2000):CP {proc:=7,h1:=2,h2:=1,off:=o} ds:=
 ⟨by simp,⟨⟨h0,h1⟩,by simp,by simp,by simp,by simp,by simp,by simp,by simp,Ej,Ej,hl⟩,hd,rfl,rfl,by simp⟩
theorem PZ {o:Int} (h0:0<=o) (h1:o<=5000) (k0:0<=k) (k1:k<=2048):CP {proc:=6,h1:=2,h2:=1,off:=o,count:=k} []:=
 ⟨by simp,⟨⟨h0,h1⟩,⟨k0,by dsimp;omega⟩,by simp,by simp,by simp,by simp,by simp,by simp,Ej,Ej,by simp⟩,Wf.nil,rfl,rfl,k1⟩
theorem FH {t:ByteArray} (hs:AP s) (ht:AP t):CP {proc:=14,h1:=1,h2:=1,k1:=1,k2:=1,name:=s,name2:=t} []:=
 ⟨by simp,⟨by simp,by simp,by simp,by simp,by simp,by simp,by simp,by simp,hs.le,ht.le,by simp⟩,Wf.nil,rfl,rfl,by simp⟩
def SL (st:Option AE):RV:={h1:=1,h2:=1,kind:=1,mode:=493,size:=if st.isSome then 1 else 0}
def Fo (f:AE):RV:={h1:=2,h2:=1,kind:=2,mode:=f.md,size:=f.zs.length}
def Ay (f:AE):Prop:=0<=f.md/\f.md<=511/\f.zs.length<=5000
section
variable {fb room nodes:Nat} {f:AE}
theorem Pg (st:Option AE):B4 fb room nodes st st {proc:=1,h1:=1,h2:=1} [] (SL st) []:=
 .mk' (IV (.inl rfl)) (.attr (.inl rfl) ⟨GT,GT,by simp,by decide,by cases st<;>simp⟩) Wf.nil
  (CC (g:=370) (e:=0) rfl (AL func370 (by kernel_rfl) rfl) (IV (.inl rfl)).ok Jf (λ _ _ _ h _=>Ni h rfl rfl _) (.inl rfl) rfl)
theorem Pk (hf:Ay f):B4 fb room nodes (some f) (some f) {proc:=1,h1:=2,h2:=1} [] (Fo f) []:=
 .mk' (IV (.inr rfl)) (.attr (.inl rfl) ⟨Ky,GT,by simp,⟨hf.1,hf.2.1⟩,by have:=hf.2.2;constructor<;>omega⟩) Wf.nil
  (CC (g:=370) (e:=0) rfl (AL func370 (by kernel_rfl) rfl) (IV (.inr rfl)).ok Jf (λ _ _ _ h _=>Oy h rfl rfl _) (.inl rfl) rfl)
theorem Ll (hf:Ay f) (hg:AP f.name):B4 fb room nodes (some f) (some f) {proc:=3,h1:=1,h2:=1,name:=f.name} [] (Fo f) []:=
 .mk' (IU hg) (.attr (.inr (.inl rfl)) ⟨Ky,GT,by simp,⟨hf.1,hf.2.1⟩,by have:=hf.2.2;constructor<;>omega⟩) Wf.nil
  (CC (g:=372) (e:=0) rfl (AL func372 (by kernel_rfl) rfl) (IU hg).ok Jf (λ _ _ _ h _=>RL h rfl rfl rfl hg hg.notUp _) (.inl rfl) rfl)
theorem Pj (hs:AP s) (hn:f.name≠s):B4 fb room nodes (some f) (some f) {proc:=3,h1:=1,h2:=1,name:=s} [] {e:=9} []:=
 .mk' (IU hs) .err Wf.nil
  (CC (g:=372) (e:=9) (rv:={}) rfl (AL func372 (by kernel_rfl) rfl) (IU hs).ok Jf (λ _ _ _ h _=>OG h rfl rfl hn hs hs.notUp _) (.inr rfl) rfl)
theorem Kp (hs:AP s):B4 fb room nodes none (some {name:=s,md:=420}) {proc:=8,h1:=1,h2:=1,name:=s,mode:=420} [] (Fo {name:=s,md:=420}) []:=
 .mk' (PX hs) (.attr (.inr (.inr rfl)) ⟨Ky,GT,by simp,⟨by simp,by simp⟩,⟨by simp,by simp⟩⟩) Wf.nil
  (CC (g:=375) (e:=0) rfl (AL func375 (by kernel_rfl) rfl) (PX hs).ok UT (λ _ _ _ h _=>Kj h rfl rfl hs _) (.inl rfl) rfl)
theorem Mz (hfr:f.fresh=true) (hf:Ay f) {o:Nat} (hd:Wf ds) (hlm:o+ds.length<=2000) (hr:o+ds.length<=room) (hrm:room<=100000) (hw:(wrote o ds).length<=5000):
  B4 fb room nodes (some f) (some {f with zs:=wrote o ds,fresh:=false}) {proc:=7,h1:=2,h2:=1,off:=o} ds {h1:=2,h2:=1,kind:=2,mode:=f.md,size:=(wrote o ds).length,count:=ds.length} []:=
 .mk' (PY (by omega) (by omega) hd (by omega)) (.write ⟨by omega,by omega⟩ ⟨Ky,GT,by simp,⟨hf.1,hf.2.1⟩,by constructor<;>omega⟩) Wf.nil
  (CC (g:=374) (e:=0) rfl (AL func374 (by kernel_rfl) rfl) (PY (by omega) (by omega) hd (by omega)).ok Jf (λ _ _ _ h hs=>Ls hfr h rfl rfl rfl hs (by omega) hr hrm) (.inl rfl) rfl)
theorem Ph (hf:Ay f) (hw:Wf f.zs) {o k:Nat} (ho:o<=5000) (hk:k<=2048):
  B4 fb room nodes (some f) (some f) {proc:=6,h1:=2,h2:=1,off:=o,count:=k} [] {count:=((f.zs.drop o).take k).length,eof:=decide (f.zs.length<=o+k)} ((f.zs.drop o).take k):=
 .mk' (PZ (by omega) (by omega) (by omega) (by omega)) (.read (by simp;omega)) (λ z hz=>hw z (List.mem_of_mem_drop (List.mem_of_mem_take hz)))
  (CC (g:=373) (e:=0) rfl (AL func373 (by kernel_rfl) rfl) (PZ (by omega) (by omega) (by omega) (by omega)).ok Jf (λ _ _ _ h _=>Nk h rfl rfl rfl rfl ho (by omega) hf.2.2 _) (.inl rfl) rfl)
theorem Pf (hg:AP f.name):B4 fb room nodes (some f) (some f) {proc:=14,h1:=1,h2:=1,k1:=1,k2:=1,name:=f.name,name2:=f.name} [] {} []:=
 .mk' (FH hg hg) .none Wf.nil
  (CC (g:=379) (e:=0) rfl (AL func379 (by kernel_rfl) rfl) (FH hg hg).ok Jf (λ _ _ _ h _=>Nf h rfl rfl rfl rfl rfl rfl hg _) (.inl rfl) rfl)
theorem VS (hg:AP f.name) (hs:AP s) (hne:f.name≠s):B4 fb room nodes (some f) (some {f with name:=s}) {proc:=14,h1:=1,h2:=1,k1:=1,k2:=1,name:=f.name,name2:=s} [] {} []:=
 .mk' (FH hg hs) .none Wf.nil
  (CC (g:=379) (e:=0) rfl (AL func379 (by kernel_rfl) rfl) (FH hg hs).ok Jf (λ _ _ _ h _=>Qx h rfl rfl rfl rfl rfl hg hs hne _) (.inl rfl) rfl)
end
def LX:List (Int×Value):=[(100,fnv 160),(104,fnv 161),(108,fnv 162),(110,fnv 163),(112,fnv 164),(114,fnv 165),(116,fnv 166),(118,fnv 167),(120,fnv 168),(122,fnv 169),(124,fnv 170),(126,fnv 171)]
theorem NC (w:World):(zeroValue 234).run prog w= .ok .nilFunc w:=by kernel_rfl
theorem GV (w:World):Calls prog 112 #[] w λ r w'=>∃m,r= .returned (.map (some m))/\Dw w w' m LX:=by
 have hmm:= @run_makeMap prog;have h0:=Dw.start w;go_in;go_wp2_with (refine Cr rfl rfl underlying236 underlying3 rfl rfl rfl (by assumption) ?_;intro w' hM);rename_i _ hM;go_ret;exact⟨_,rfl,hM⟩
theorem EF {g:Nat} {a0 a1 a2 a3 a4 a5 a6 a7 a8 a9 a10 a11 a12 a13 a14 a15 a16 a17 c0 c1 c2 c3 c4 c5 c6 c7 c8 c9 c10 c11 c12 c13 c14 c15 c16 c17:Value} {t:TypeId} (h:w.heap[g]?=oC #[c0,c1,c2,c3,c4,c5,c6,c7,c8,c9,c10,c11,c12,c13,c14,c15,c16,c17] t):
  ((((((((((((((((((w.setCell (dD g 0) a0).setCell (dD g 1) a1).setCell (dD g 2) a2).setCell (dD g 3) a3).setCell (dD g 4) a4).setCell (dD g 5) a5).setCell (dD g 6) a6).setCell (dD g 7) a7).setCell (dD g 8) a8).setCell (dD g 9) a9).setCell (dD g 10) a10).setCell (dD g 11) a11).setCell (dD g 12) a12).setCell (dD g 13) a13).setCell (dD g 14) a14).setCell (dD g 15) a15).setCell (dD g 16) a16).setCell (dD g 17) a17).heap[g]?=oC #[a0,a1,a2,a3,a4,a5,a6,a7,a8,a9,a10,a11,a12,a13,a14,a15,a16,a17] t:=by
 replace h:=show _=some (Obj.cells #[a0,c1,c2,c3,c4,c5,c6,c7,c8,c9,c10,c11,c12,c13,c14,c15,c16,c17] t (0,0)) from jP (i:=0) a0 h
 replace h:=show _=some (Obj.cells #[a0,a1,c2,c3,c4,c5,c6,c7,c8,c9,c10,c11,c12,c13,c14,c15,c16,c17] t (0,0)) from jP (i:=1) a1 h
 replace h:=show _=some (Obj.cells #[a0,a1,a2,c3,c4,c5,c6,c7,c8,c9,c10,c11,c12,c13,c14,c15,c16,c17] t (0,0)) from jP (i:=2) a2 h
 replace h:=show _=some (Obj.cells #[a0,a1,a2,a3,c4,c5,c6,c7,c8,c9,c10,c11,c12,c13,c14,c15,c16,c17] t (0,0)) from jP (i:=3) a3 h
 replace h:=show _=some (Obj.cells #[a0,a1,a2,a3,a4,c5,c6,c7,c8,c9,c10,c11,c12,c13,c14,c15,c16,c17] t (0,0)) from jP (i:=4) a4 h
 replace h:=show _=some (Obj.cells #[a0,a1,a2,a3,a4,a5,c6,c7,c8,c9,c10,c11,c12,c13,c14,c15,c16,c17] t (0,0)) from jP (i:=5) a5 h
 replace h:=show _=some (Obj.cells #[a0,a1,a2,a3,a4,a5,a6,c7,c8,c9,c10,c11,c12,c13,c14,c15,c16,c17] t (0,0)) from jP (i:=6) a6 h
 replace h:=show _=some (Obj.cells #[a0,a1,a2,a3,a4,a5,a6,a7,c8,c9,c10,c11,c12,c13,c14,c15,c16,c17] t (0,0)) from jP (i:=7) a7 h
 replace h:=show _=some (Obj.cells #[a0,a1,a2,a3,a4,a5,a6,a7,a8,c9,c10,c11,c12,c13,c14,c15,c16,c17] t (0,0)) from jP (i:=8) a8 h
 replace h:=show _=some (Obj.cells #[a0,a1,a2,a3,a4,a5,a6,a7,a8,a9,c10,c11,c12,c13,c14,c15,c16,c17] t (0,0)) from jP (i:=9) a9 h
 replace h:=show _=some (Obj.cells #[a0,a1,a2,a3,a4,a5,a6,a7,a8,a9,a10,c11,c12,c13,c14,c15,c16,c17] t (0,0)) from jP (i:=10) a10 h
 replace h:=show _=some (Obj.cells #[a0,a1,a2,a3,a4,a5,a6,a7,a8,a9,a10,a11,c12,c13,c14,c15,c16,c17] t (0,0)) from jP (i:=11) a11 h
 replace h:=show _=some (Obj.cells #[a0,a1,a2,a3,a4,a5,a6,a7,a8,a9,a10,a11,a12,c13,c14,c15,c16,c17] t (0,0)) from jP (i:=12) a12 h
 replace h:=show _=some (Obj.cells #[a0,a1,a2,a3,a4,a5,a6,a7,a8,a9,a10,a11,a12,a13,c14,c15,c16,c17] t (0,0)) from jP (i:=13) a13 h
 replace h:=show _=some (Obj.cells #[a0,a1,a2,a3,a4,a5,a6,a7,a8,a9,a10,a11,a12,a13,a14,c15,c16,c17] t (0,0)) from jP (i:=14) a14 h
 replace h:=show _=some (Obj.cells #[a0,a1,a2,a3,a4,a5,a6,a7,a8,a9,a10,a11,a12,a13,a14,a15,c16,c17] t (0,0)) from jP (i:=15) a15 h
 replace h:=show _=some (Obj.cells #[a0,a1,a2,a3,a4,a5,a6,a7,a8,a9,a10,a11,a12,a13,a14,a15,a16,c17] t (0,0)) from jP (i:=16) a16 h
 replace h:=show _=some (Obj.cells #[a0,a1,a2,a3,a4,a5,a6,a7,a8,a9,a10,a11,a12,a13,a14,a15,a16,a17] t (0,0)) from jP (i:=17) a17 h
 exact h
theorem Cd (w:World) (g:Nat) (a0 a1 a2 a3 a4 a5 a6 a7 a8 a9 a10 a11 a12 a13 a14 a15 a16 a17:Value):Upd [g] w ((((((((((((((((((w.setCell (dD g 0) a0).setCell (dD g 1) a1).setCell (dD g 2) a2).setCell (dD g 3) a3).setCell (dD g 4) a4).setCell (dD g 5) a5).setCell (dD g 6) a6).setCell (dD g 7) a7).setCell (dD g 8) a8).setCell (dD g 9) a9).setCell (dD g 10) a10).setCell (dD g 11) a11).setCell (dD g 12) a12).setCell (dD g 13) a13).setCell (dD g 14) a14).setCell (dD g 15) a15).setCell (dD g 16) a16).setCell (dD g 17) a17):=
 (((((((((((((((((((Upd.refl [g] w).setCell _ _ (.inl (by simp))).setCell _ _ (.inl (by simp))).setCell _ _ (.inl (by simp))).setCell _ _ (.inl (by simp))).setCell _ _ (.inl (by simp))).setCell _ _ (.inl (by simp))).setCell _ _ (.inl (by simp))).setCell _ _ (.inl (by simp))).setCell _ _ (.inl (by simp))).setCell _ _ (.inl (by simp))).setCell _ _ (.inl (by simp))).setCell _ _ (.inl (by simp))).setCell _ _ (.inl (by simp))).setCell _ _ (.inl (by simp))).setCell _ _ (.inl (by simp))).setCell _ _ (.inl (by simp))).setCell _ _ (.inl (by simp))).setCell _ _ (.inl (by simp)))
theorem Dz (w:World) (g:Nat) (S:List Nat) (a0 a1 a2 a3 a4 a5 a6 a7 a8 a9 a10 a11 a12 a13 a14 a15 a16 a17:Value):Upd (g::S) w ((((((((((((((((((w.setCell (dD g 0) a0).setCell (dD g 1) a1).setCell (dD g 2) a2).setCell (dD g 3) a3).setCell (dD g 4) a4).setCell (dD g 5) a5).setCell (dD g 6) a6).setCell (dD g 7) a7).setCell (dD g 8) a8).setCell (dD g 9) a9).setCell (dD g 10) a10).setCell (dD g 11) a11).setCell (dD g 12) a12).setCell (dD g 13) a13).setCell (dD g 14) a14).setCell (dD g 15) a15).setCell (dD g 16) a16).setCell (dD g 17) a17):=(Cd w g a0 a1 a2 a3 a4 a5 a6 a7 a8 a9 a10 a11 a12 a13 a14 a15 a16 a17).mono (by simp)
theorem CB {o:World} {p0 p1 p2 p3 p4 p5 p6 p7 p8 p9 p10 p11 p12 p13 p14 p15 p16:Addr} {v0 v1 v2 v3 v4 v5 v6 v7 v8 v9 v10 v11 v12 v13 v14 v15 v16:Value} (h:w.cell? p0=some v0/\w.cell? p1=some v1/\w.cell? p2=some v2/\w.cell? p3=some v3/\w.cell? p4=some v4/\w.cell? p5=some v5/\w.cell? p6=some v6/\w.cell? p7=some v7/\w.cell? p8=some v8/\w.cell? p9=some v9/\w.cell? p10=some v10/\w.cell? p11=some v11/\w.cell? p12=some v12/\w.cell? p13=some v13/\w.cell? p14=some v14/\w.cell? p15=some v15/\w.cell? p16=some v16/\Upd S o w) (hu:Upd S w w') (n0:p0.block∉S) (n1:p1.block∉S) (n2:p2.block∉S) (n3:p3.block∉S) (n4:p4.block∉S) (n5:p5.block∉S) (n6:p6.block∉S) (n7:p7.block∉S) (n8:p8.block∉S) (n9:p9.block∉S) (n10:p10.block∉S) (n11:p11.block∉S) (n12:p12.block∉S) (n13:p13.block∉S) (n14:p14.block∉S) (n15:p15.block∉S) (n16:p16.block∉S):w'.cell? p0=some v0/\w'.cell? p1=some v1/\w'.cell? p2=some v2/\w'.cell? p3=some v3/\w'.cell? p4=some v4/\w'.cell? p5=some v5/\w'.cell? p6=some v6/\w'.cell? p7=some v7/\w'.cell? p8=some v8/\w'.cell? p9=some v9/\w'.cell? p10=some v10/\w'.cell? p11=some v11/\w'.cell? p12=some v12/\w'.cell? p13=some v13/\w'.cell? p14=some v14/\w'.cell? p15=some v15/\w'.cell? p16=some v16/\Upd S o w':=
 ⟨hu.cell h.1 n0,hu.cell h.2.1 n1,hu.cell h.2.2.1 n2,hu.cell h.2.2.2.1 n3,hu.cell h.2.2.2.2.1 n4,hu.cell h.2.2.2.2.2.1 n5,hu.cell h.2.2.2.2.2.2.1 n6,hu.cell h.2.2.2.2.2.2.2.1 n7,hu.cell h.2.2.2.2.2.2.2.2.1 n8,hu.cell h.2.2.2.2.2.2.2.2.2.1 n9,hu.cell h.2.2.2.2.2.2.2.2.2.2.1 n10,hu.cell h.2.2.2.2.2.2.2.2.2.2.2.1 n11,hu.cell h.2.2.2.2.2.2.2.2.2.2.2.2.1 n12,hu.cell h.2.2.2.2.2.2.2.2.2.2.2.2.2.1 n13,hu.cell h.2.2.2.2.2.2.2.2.2.2.2.2.2.2.1 n14,hu.cell h.2.2.2.2.2.2.2.2.2.2.2.2.2.2.2.1 n15,hu.cell h.2.2.2.2.2.2.2.2.2.2.2.2.2.2.2.2.1 n16,h.2.2.2.2.2.2.2.2.2.2.2.2.2.2.2.2.2.trans hu⟩
section
variable {I:Option AE->Nat->World->List Nat->Prop} {sp fb room nodes gp pb mb n:Nat} {l:List (Int×FV)} {st st':Option AE} {w:World} {G:List Nat}
theorem Ra (A:DJ sp fb room nodes I) {nv:Value} (hak:a.fid=k) (h:GS I sp gp pb mb l st n w G) (hn:n<100) (hk:Ah l k=none) (hl:l.length<16):
  Calls prog 161 #[pP gp 0,a.val nv dv] w λ r w'=>r= .returned (.tuple #[.agg (tT 0 0 0 0 0 true 1 1 (nN) (nN)),iI 0])/\∃G',GS I sp gp pb mb (l++[(k,⟨1,1,1,1,⟨#[]⟩,true,false,0,0,0⟩)]) st (n+1) w' G'/\Mv w w' G G':=by
 have HG:=hid h;have HL:=hid ((GS.loc A.loc).1 _ _ h);have HFr:=hid (λ W (X:Ext w W)=>Cn pb mb 16 l k W ((h.ext A.loc X).fid A.loc).1 hk false (by simp;omega));have HAs:=hid (λ W (X:Ext w W)=>Bc A (Pg st) (h.ext A.loc X) hn (Sl.nil W) (λ g hg=>by simp[Value.ownBlock] at hg));have HA:=hid A.loc;have HK:=hid hk;have HLn:=hid hl;have hgl:=lH h.gate;have hpl:=lH (h.fid A.loc).1.ptr;have hml:=(h.fid A.loc).1.map.lt;simp only[QV.val,hak];simp only[AV.val,SL,RV.val] at HAs;obtain⟨sz,hsz⟩:∃sz:Int,sz=(if st.isSome then 1 else 0):=⟨_,rfl⟩;rw[<-hsz] at HAs;clear A h hn hk hl hak hsz;go_in;go_upto_region 1 with fail;obtain⟨W0,hW0⟩:∃W,W=((w.alloc (.cells (aA a.typ a.tag k a.nfid a.otag a.msize a.mode a.perm a.off a.count a.name nv a.size dv) 43)).alloc (.cells tZ 39)):=⟨_,rfl⟩;rw[<-hW0];obtain⟨hA0,hT0,X0⟩:=AH w (.cells (aA a.typ a.tag k a.nfid a.otag a.msize a.mode a.perm a.off a.count a.name nv a.size dv) 43) (.cells tZ 39)
 rw[<-hW0] at hA0 hT0 X0;have hz0:w.heap.size+2<=W0.heap.size:=by rw[hW0];simp
 have HX0:=hid X0;have HA0:=hid hA0;have HT0:=hid hT0;have c2:W0.cell? (dD w.heap.size 2)=some (iI k):=cO hA0 2;have g3:W0.cell? (dD gp 3)=some (pP pb 0):=cO (X0.heap HG.o.gate) 3;clear hW0 hA0 hT0 X0;go_cut [6] (λ q6 wx=>q6= iI 0/\Ext W0 wx)
 case first=>
  go_region_with (go_at_call 260;refine(HFr.o _ (HX0.o.trans (dE _))).mono ?_;rintro r w1 ⟨rfl,X1⟩)
  all_goals
   go_wp2_with fail;go_meet
   case rel=>exact⟨rfl,(dE _).trans X1⟩
 case rest=>
 obtain⟨rfl,X1⟩:=hcut;obtain⟨w1,hw1⟩:∃w1,w1=wc:=⟨_,rfl⟩;rw[<-hw1] at X1|-
 clear hw1 c2 g3;have HX1:=hid (HX0.o.trans X1);have HA1:=hid (X1.heap HA0.o);have HT1:=hid (X1.heap HT0.o);have g1:w1.cell? (dD gp 1)=some (iI 1):=cO (HX1.o.heap HG.o.gate) 1;have g2:w1.cell? (dD gp 2)=some (iI 1):=cO (HX1.o.heap HG.o.gate) 2;have hz1:=X1.size;have HAs1:=hid (HAs.o w1 HX1.o);clear X1 HAs HFr;go_wp2_with fail;refine HAs1.o.mono ?_;rintro r w2 ⟨v,rfl,O2,G2,hG2,M2⟩;obtain⟨va,vc,rfl,-,-⟩:=O2.sl Wf.nil;have hA2:w.heap.size∉G:=λ hm=>by have:=HL.o _ hm;omega
 have hT2:w.heap.size+1∉G:=λ hm=>by have:=HL.o _ hm;omega
 have HA2:=hid (M2.1.heap HA1.o hA2);have HT2:=hid (M2.1.heap HT1.o hT2);have HG2:=hid hG2;have HM2:=hid ((Mv.of_ext HX1.o G).trans M2);have hTG:w.heap.size+1∉G2:=λ hm=>by rcases M2.2 _ hm with q|q;exact hT2 q;omega
 have hz2:=M2.size;clear O2 hG2 M2 g1 g2 HAs1 hA2 hT2;go_upto_region 5 with fail;obtain⟨W3,hW3⟩:∃W,W=w2.alloc (.cells (rR 0 1 1 1 493 sz (.slice va 0 vc) 0 false (nN)) 142):=⟨_,rfl⟩;rw[<-hW3];have XW3:Ext w2 W3:=by rw[hW3];exact(Ext.refl _).alloc _
 have bW3:W3.heap[w2.heap.size]?=oC (rR 0 1 1 1 493 sz (.slice va 0 vc) 0 false (nN)) 142:=by rw[hW3];exact Ub w2 _
 clear hW3;have HG3:=hid (HG2.o.ext HA.o XW3);have HA3:=hid (XW3.heap HA2.o);have HT3:=hid (XW3.heap HT2.o);have HR3:=hid bW3;have HX3:=hid XW3;have g1:W3.cell? (dD gp 1)=some (iI 1):=cO HG3.o.gate 1;have g2:W3.cell? (dD gp 2)=some (iI 1):=cO HG3.o.gate 2;have hgl3:=lH HG3.o.gate;have hz3:=lH bW3;clear XW3 bW3;go_upto_region 7 with fail;go_cut [9] (λ q9 wx=>q9= pP W3.heap.size 0/\wx=(W3.alloc (.cells (fR 1 1 1 1 ⟨#[]⟩ true false 0 0 0) 381)).drew)
 case first=>
  go_region
  all_goals
   go_wp2_with fail;go_meet
   case rel=>exact⟨rfl,rfl⟩
 case rest=>
 obtain⟨rfl,hwc⟩:=hcut;obtain⟨W4,hW4⟩:∃W4,W4=wc:=⟨_,rfl⟩;rw[<-hW4] at hwc|-
 clear hW4;have X4:Ext W3 W4:=by rw[hwc];exact((Ext.refl _).alloc _).drew
 have HF4:=hid (show W4.heap[W3.heap.size]?=oC (fR 1 1 1 1 ⟨#[]⟩ true false 0 0 0) 381 by rw[hwc];exact Ub W3 _);have HG4:=hid (HG3.o.ext HA.o X4);have HA4:=hid (X4.heap HA3.o);have HT:=hid (X4.heap HT3.o);have HR4:=hid (X4.heap HR3.o);have HX4:=hid (HX3.o.trans X4);have HAd:=hid (λ W (X:Ext W4 W)=>add_ok pb mb 16 l k W ⟨1,1,1,1,⟨#[]⟩,true,false,0,0,0⟩ ((HG4.o.ext HA.o X).fid HA.o).1 HK.o (by have:=HLn.o;omega));simp only[FV.val] at HAd;have hTn:w.heap.size+1∉[pb,mb]:=by simp;omega
 have hgp:=HG4.o.gpn;have hpl4:pb<W3.heap.size:=by omega
 clear X4 hwc g1 g2 hgl3;go_wp2_with fail;have hTS:∀b∈[pb,mb],b∈[w.heap.size+1,pb,mb]:=by simp
 have hK0:(World.drew W4).cell? (dD w2.heap.size 1)=some (iI 1)/\(World.drew W4).cell? (dD w2.heap.size 2)=some (iI 1)/\(World.drew W4).cell? (dD w2.heap.size 3)=some (iI 1)/\(World.drew W4).cell? (dD w2.heap.size 4)=some (iI 493)/\(World.drew W4).cell? (dD w2.heap.size 5)=some (iI sz)/\(World.drew W4).cell? (dD w.heap.size 2)=some (iI k)/\(World.drew W4).cell? (dD gp 3)=some (pP pb 0)/\(World.drew W4).cell? (dD W3.heap.size 0)=some (iI 1)/\(World.drew W4).cell? (dD W3.heap.size 1)=some (iI 1)/\(World.drew W4).cell? (dD W3.heap.size 2)=some (iI 1)/\(World.drew W4).cell? (dD W3.heap.size 3)=some (iI 1)/\(World.drew W4).cell? (dD W3.heap.size 4)=some (eE)/\(World.drew W4).cell? (dD W3.heap.size 5)=some (.bool true)/\(World.drew W4).cell? (dD W3.heap.size 6)=some (.bool false)/\(World.drew W4).cell? (dD W3.heap.size 7)=some (iI 0)/\(World.drew W4).cell? (dD W3.heap.size 8)=some (iI 0)/\(World.drew W4).cell? (dD W3.heap.size 9)=some (iI 0)/\Upd [w.heap.size+1,pb,mb] W4 (World.drew W4):=⟨cO HR4.o 1,cO HR4.o 2,cO HR4.o 3,cO HR4.o 4,cO HR4.o 5,cO HA4.o 2,cO (GS.gate HG4.o) 3,cO HF4.o 0,cO HF4.o 1,cO HF4.o 2,cO HF4.o 3,cO HF4.o 4,cO HF4.o 5,cO HF4.o 6,cO HF4.o 7,cO HF4.o 8,cO HF4.o 9,((Ext.refl W4).drew.upd _)⟩;have hN0:(Addr.block ⟨w2.heap.size,1,none⟩)∉[w.heap.size+1,pb,mb]:=by simp;omega
 have hN1:(Addr.block ⟨w2.heap.size,2,none⟩)∉[w.heap.size+1,pb,mb]:=by simp;omega
 have hN2:(Addr.block ⟨w2.heap.size,3,none⟩)∉[w.heap.size+1,pb,mb]:=by simp;omega
 have hN3:(Addr.block ⟨w2.heap.size,4,none⟩)∉[w.heap.size+1,pb,mb]:=by simp;omega
 have hN4:(Addr.block ⟨w2.heap.size,5,none⟩)∉[w.heap.size+1,pb,mb]:=by simp;omega
 have hN5:(Addr.block ⟨w.heap.size,2,none⟩)∉[w.heap.size+1,pb,mb]:=by simp;omega
 have hN6:(Addr.block ⟨gp,3,none⟩)∉[w.heap.size+1,pb,mb]:=by simp;omega
 have hN7:(Addr.block ⟨W3.heap.size,0,none⟩)∉[w.heap.size+1,pb,mb]:=by simp;omega
 have hN8:(Addr.block ⟨W3.heap.size,1,none⟩)∉[w.heap.size+1,pb,mb]:=by simp;omega
 have hN9:(Addr.block ⟨W3.heap.size,2,none⟩)∉[w.heap.size+1,pb,mb]:=by simp;omega
 have hN10:(Addr.block ⟨W3.heap.size,3,none⟩)∉[w.heap.size+1,pb,mb]:=by simp;omega
 have hN11:(Addr.block ⟨W3.heap.size,4,none⟩)∉[w.heap.size+1,pb,mb]:=by simp;omega
 have hN12:(Addr.block ⟨W3.heap.size,5,none⟩)∉[w.heap.size+1,pb,mb]:=by simp;omega
 have hN13:(Addr.block ⟨W3.heap.size,6,none⟩)∉[w.heap.size+1,pb,mb]:=by simp;omega
 have hN14:(Addr.block ⟨W3.heap.size,7,none⟩)∉[w.heap.size+1,pb,mb]:=by simp;omega
 have hN15:(Addr.block ⟨W3.heap.size,8,none⟩)∉[w.heap.size+1,pb,mb]:=by simp;omega
 have hN16:(Addr.block ⟨W3.heap.size,9,none⟩)∉[w.heap.size+1,pb,mb]:=by simp;omega
 have K0:=hid hK0;clear hK0;go_region_held3 (λ w'=>w'.cell? (dD w2.heap.size 1)=some (iI 1)/\w'.cell? (dD w2.heap.size 2)=some (iI 1)/\w'.cell? (dD w2.heap.size 3)=some (iI 1)/\w'.cell? (dD w2.heap.size 4)=some (iI 493)/\w'.cell? (dD w2.heap.size 5)=some (iI sz)/\w'.cell? (dD w.heap.size 2)=some (iI k)/\w'.cell? (dD gp 3)=some (pP pb 0)/\w'.cell? (dD W3.heap.size 0)=some (iI 1)/\w'.cell? (dD W3.heap.size 1)=some (iI 1)/\w'.cell? (dD W3.heap.size 2)=some (iI 1)/\w'.cell? (dD W3.heap.size 3)=some (iI 1)/\w'.cell? (dD W3.heap.size 4)=some (eE)/\w'.cell? (dD W3.heap.size 5)=some (.bool true)/\w'.cell? (dD W3.heap.size 6)=some (.bool false)/\w'.cell? (dD W3.heap.size 7)=some (iI 0)/\w'.cell? (dD W3.heap.size 8)=some (iI 0)/\w'.cell? (dD W3.heap.size 9)=some (iI 0)/\Upd [w.heap.size+1,pb,mb] W4 w') (first|with_reducible exact K0.o|with_reducible exact K5.o|with_reducible exact K6.o|with_reducible exact CB K6.o (Dz _ _ _ _ _ _ _ _ _ _ _ _ _ _ _ _ _ _ _ _ _) hN0 hN1 hN2 hN3 hN4 hN5 hN6 hN7 hN8 hN9 hN10 hN11 hN12 hN13 hN14 hN15 hN16) (first|(go_at_call 262;refine(QP 1 1 1 493 sz _).mono ?_;rintro r w5 ⟨rfl,X5⟩;have K5:=hid (CB K0.o (Ext.upd X5 _) hN0 hN1 hN2 hN3 hN4 hN5 hN6 hN7 hN8 hN9 hN10 hN11 hN12 hN13 hN14 hN15 hN16))|(go_at_call 263;refine(HAd.o _ (((Ext.refl W4).drew).trans X5)).mono ?_;rintro r w6 ⟨rfl,F6,U6⟩;have hT6:=U6.heap (show _=oC tZ 39 from(((Ext.refl W4).drew).trans X5).heap HT.o) hTn;obtain⟨t60,t61,t62,t63,t64,t65,t66,t67,t68,t69,t610,t611,t612,t613,t614,t615,t616,t617,rf6⟩:=A8 hT6;have hTl6:=lH hT6;have K6:=hid (CB K5.o (U6.mono hTS) hN0 hN1 hN2 hN3 hN4 hN5 hN6 hN7 hN8 hN9 hN10 hN11 hN12 hN13 hN14 hN15 hN16)))
 obtain⟨q1,q2⟩:=(HG4.o.fid HA.o).2.2 w6 _ F6 (((((Ext.refl W4).drew).trans X5).upd _).trans U6);have HQ1:=hid q1;have HQ2:=hid ((HM2.o.ext HX4.o).trans q2);refine Aa (R:=w.heap.size+1) (w0:=w6) (Pr:=λ W=>Exit.then _ _ _ _ W) _ (EF hT6) (Cd _ _ _ _ _ _ _ _ _ _ _ _ _ _ _ _ _ _ _ _) ?_;clear t60 t61 t62 t63 t64 t65 t66 t67 t68 t69 t610 t611 t612 t613 t614 t615 t616 t617 rf6 q1 q2;intro W hR hU;have hG':=(GS.loc HA.o).2 _ _ _ _ HQ1.o hU (λ b hb hm=>by simp at hm;subst hm;exact hTG hb);go_wp2_with fail;refine Ue (v:= .tuple #[.agg (tT 0 0 0 0 0 true 1 1 (nN) (nN)),iI 0]) (AO (g:=w.heap.size+1) (cs:= (tT 0 0 0 0 0 true 1 1 (nN) (nN))) rfl _ _ _ _ rfl hR underlying39 rfl iT rfl) rfl ⟨rfl,_,hG',HQ2.o.1.trans2 hU (λ i hi=> .inr (by simp at hi;omega)),HQ2.o.2⟩
end
end Go.Proofs.YtdakioiagpkfhaaGreatDoor
