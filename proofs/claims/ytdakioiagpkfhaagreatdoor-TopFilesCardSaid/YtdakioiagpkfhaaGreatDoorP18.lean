import Derived.Test.YtdakioiagpkfhaaGreatDoorP17
import Derived.Lib.AppendZerosOnto
import Derived.Lib.Overlaps
set_option maxRecDepth 99999
set_option maxHeartbeats 0
set_option linter.all false
namespace Go.Proofs.YtdakioiagpkfhaaGreatDoor
open WideShapes RowKit Conc
open Go.Lib (compareBytes)
open Go.Proofs.Tryz
variable {F:List Nat} {P:Program} {Pr:World->Prop} {R b c d db g gb i k m n nb o room used:Nat} {a0 a1 a2 a3 a4 c0 c1 c2 c3 c4 c5 c6 c7 c8 c9 dv r v y:Value} {cur:Array Value} {l:List (Int×Value)} {md:Int} {t:TypeId} {w w' w0:World}
theorem Gk:(prog.info? 342).map (λ i=>(i.zero,i.size,i.bytes))=some (some (.agg #[eE,iI 0,iI 0]),3,32):=by kernel_rfl
theorem PU:prog.cellsOf 342=3:=by kernel_rfl
theorem Mq (a:Option Addr) (n len c:Nat) (hn:n<=len) (w:World):(Instr.sliceAt 140 (.slice a len c) (some (iI n)) none none).run prog w= .ok (.slice (if c=n then a else a.map (·.add (n*3))) (len-n) (c-n)) w:=by
 obtain⟨i0,hi,hz0,hz1,hz2⟩:=info_parts Gk;simp[Instr.sliceAt,Instr.slice,Instr.sliceBounds,Instr.sliceBound,Sem.run_bind,run_underlying underlying140,asIntOf,hn,run_sizeOf w hi,hz1,PU]
theorem EV.one {e:EV}:∀u∈e.cells,u.oneCell'=true:=by simp[EV.cells,Value.oneCell']
theorem Ri (es:List EV):∀u∈enC es,u.oneCell'=true:=by
 intro u hu;obtain⟨e,_,he⟩:=List.mem_flatMap.1 hu;exact EV.one u he
theorem Rj (a b:List EV):enC (a++b)=enC a++enC b:=by simp[enC]
def Ey (w:World) (gb:Nat) (e:EV):Prop:=w.heap[gb]?=oC e.cells.toArray 342
theorem Ey.cells {e:EV} (h:Ey w gb e):∀j u,e.cells[j]?=some u->w.cell? ((⟨gb,0,none⟩:Addr).add j)=some u:=by
 intro j u hj;rw[Go.WideShapes.add_plain,Nat.zero_add,cO h];simpa using hj
theorem NA {es:List EV} (h:Ad w v es) (hl:es.length<=50) {e:EV} (hb:Ey w gb e):
  ∃v' w',(Builtin.append_ #[140,140] 140 #[v,sS gb 0 1 1]).run prog w= .ok v' w'/\Ad w' v' (es++[e])/\w.grownBy w' v.ownBlock/\(v'.ownBlock=v.ownBlock\/v'.ownBlock=some w.heap.size):=by
 obtain⟨i0,hi,hz0,hz1,hz2⟩:=info_parts Gk;obtain⟨v',w',hrun,hown,hg,_,h5⟩:=run_append_own_at (P:=prog) w 0 140 140 342 i0 _ 3 32 underlying140 hi hz0 hz1 hz2 rfl (by decide) v es.length (enC es) h ⟨gb,0,none⟩ 1 1 e.cells rfl
  hb.cells EV.one (by unfold maxLen;omega) (by omega) (Nat.zero_le _)
 refine⟨v',w',hrun,?_,hg,h5⟩;unfold Ad;rw[Rj,Uc];simpa [enC] using hown
theorem RH {es:List EV} (h:Ad w v es) (hl:es.length<=50) {e:EV} (hb:Ey w gb e):
  Calls prog 432 #[v,iI es.length,sS gb 0 1 1] w λ r w'=>
   ∃v',r= .returned v'/\Ad w' v' (es++[e])/\w.grownBy w' v.ownBlock/\(v'.ownBlock=v.ownBlock\/v'.ownBlock=some w.heap.size):=by
 obtain⟨v',w',p1,p2⟩:=NA h hl hb;have P1:=hid p1;have P2:=hid p2;obtain⟨a,cap,rfl,hcap⟩:∃a cap,v= .slice a es.length cap/\es.length<=cap:=by
  rcases h.form with⟨h1,h2⟩|⟨g,cap,cur,h1,h2,_⟩
  ·exact⟨none,0,by rw[h1,h2];rfl,by rw[h2];exact Uf _⟩
  ·exact⟨_,_,h1,h2⟩
 obtain⟨n,hn⟩:∃n,n=es.length:=⟨_,rfl⟩;rw[<-hn] at P1 P2 hl hcap|-
 have R1:=hid (Mq a n n cap (Uf _) w);obtain⟨A,hA⟩:∃A,A=(if cap=n then a else a.map (·.add (n*3))):=⟨_,rfl⟩;rw[<-hA] at R1;clear h hb p1 p2 hn hA;go_in;go_wp2_with (first
  |((with_reducible refine AF (o:=⟨some 12,.slice _ (.tmp 10) (some (.tmp 11)) none none,_,_,_,none⟩) rfl _ _ _ _ _ rfl _ _ _ _ ?_ ?_ ?_ ?_ _ R1.o ?_);(·rfl);(·rfl);(·rfl);(·rfl))
  |(at_builtin;refine jA rfl (.tmp 23) (.tmp 24) _ rfl _ _ _ rfl rfl P1.o ?_))
 go_ret;exact⟨_,rfl,P2.o⟩
theorem CT {ops:Array Oper} {o:Oper} {a:Act} {K:Act->World->Prop} {Q:Exit->Act->World->Prop} {E:Prop} (hg:o.guard=none) (hr:(execOp a.eval o).run P w= .ok (.value v) w') (hK:K (a.put o.dst v) w'):if Region.wanted o (yielded ops a.tmps)=true then Oper.wp P o a w K Q else E:=by
 have hw:Region.wanted o (yielded ops a.tmps)=true:=by simp[Region.wanted,hg]
 rw[if_pos hw];unfold Oper.wp;rw[hr];exact hK
theorem Ld {o:Oper} {a:Act} (s x:Operand) (ats:Array TypeId) (ho:o.op= .call {callee:= .builtin .copy,args:= #[s,x],argTypes:=ats}) (hs:a.eval s=v) (hx:a.eval x=y) (hr:(Builtin.copy_ ats o.type #[v,y]).run P w= .ok r w'):(execOp a.eval o).run P w= .ok (.value r) w':=by
 unfold execOp;simp only[ho,resolve,invoke,builtin,Sem.run_bind,Sem.run_pure,Result.andThen_ok,List.map_toArray,List.map_cons,List.map_nil,hs,hx,hr]
theorem Cz {e:EV} (hg:w.heap[g]?=oC cur 342) (hn:Nat.min m n=1) (hsrc:∀j u,e.cells[j]?=some u->w.cell? ((⟨b,o,none⟩:Addr).add j)=some u) (hfit:k+3<=cur.size) (ty:TypeId):
  ∃w' cur',(Builtin.copy_ #[140,140] ty #[sS g k n c,sS b o m d]).run prog w= .ok (goInt 1) w'/\
   w'.heap[g]?=oC cur' 342/\cur'.toList=cur.toList.take k++e.cells++cur.toList.drop (k+3)/\Upd [g] w w':=by
 obtain⟨i0,hi,hz0,hz1,hz2⟩:=info_parts Gk;have h:=EA (P:=prog) w 140 140 ty 342 3 g k n c ⟨b,o,none⟩ m d cur 342 e.cells underlying140 (by rw[hi];simp[hz1]) hg (by rw[hn];rfl) hsrc hfit EV.one;rw[hn] at h;exact⟨_,_,h,setRow_heap w g cur _ _ _ hg,by simp[EV.cells],Ae w g _⟩
theorem Ad.mk {cap:Nat} {es:List EV} (hg:w.heap[g]?=oC cur 342) (hc:es.length<=cap) (hm:cap<=maxLen) (hs:cur.size=cap*3) (ht:cur.toList.take (es.length*3)=enC es):Ad w (sS g 0 es.length cap) es:=
 ⟨by rw[VG],.inr ⟨g,cap,cur,rfl,Nat.zero_le _,hg,hc,hm,hs,ht⟩⟩
theorem KZ {e0:EV} (h:Ad w (sS g 0 1 1) [e0]) {e:EV} (hb:Ey w gb e):
  Calls prog 432 #[sS g 0 1 1,iI 0,sS gb 0 1 1] w λ r w'=>
   ∃v',r= .returned v'/\Ad w' v' [e,e0]/\Ext w w'/\v'.ownBlock=some w.heap.size:=by
 obtain⟨g',cap,cur,hv,-,-,hg,hs,ht⟩:∃g' cap cur,(Value.slice (some ⟨g,0,none⟩) 1 1)= sS g' 0 1 cap/\True/\True/\w.heap[g']?=oC cur 342/\cur.size=cap*3/\cur.toList.take (1*3)=enC [e0]:=by
  rcases h.form with⟨h1,_⟩|⟨g',cap,cur,h1,_,_,h4,h5,h6⟩
  ·cases h1
  ·exact⟨g',cap,cur,h1,trivial,trivial,h4,h5,h6⟩
 injection hv with q1 _ q2;injection q1 with q1;injection q1 with q1;subst q1 q2;obtain⟨i0,hi,hz0,hz1,hz2⟩:=info_parts Gk;have hold:(Builtin.firstCells i0.size 0 (sS g 0 0 1)).run prog w.drew= .ok ([]:List Value).toArray w.drew:=
  run_firstCells_some w.drew i0.size 0 ⟨g,0,none⟩ 0 1 [] (by simp) (by simp)
 have hz:=Lib.run_append_grow_zeros (P:=prog) w 140 3 140 342 i0 _ .i64 .i64 underlying140 underlying3 hi hz0 (some ⟨g,0,none⟩) 0 1 [] hold 2 (by omega) (by omega) (by omega) (by omega) (by rw[hz2];omega) (by rw[hz2];exact growslice_fits (by omega) (by omega));rw[Nat.zero_add] at hz;obtain⟨G,hG⟩:∃G,G=grownCap w 2 1 342:=⟨_,rfl⟩;have hG2:2<=G:=by rw[hG];exact grownCap_ge w _ _ _
 have hGm:G<=maxLen:=by rw[hG];exact grownCap_le_maxLen w 2 1 _ (by unfold maxLen;omega)
 rw[<-hG] at hz;obtain⟨ROW,hR⟩:∃ROW,ROW=(([]:List Value).toArray++Builtin.zeroCells (Value.agg #[eE,iI 0,iI 0]).cells 2++Builtin.zeroCells (Value.agg #[eE,iI 0,iI 0]).cells (G-2)):=⟨_,rfl⟩;have hRs:ROW.size=G*3:=by
  rw[hR];simp[size_zeroCells,Value.cells];omega
 rw[<-hR] at hz;obtain⟨W1,hW1⟩:∃W1,W1=w.drew.alloc (.cells ROW 342):=⟨_,rfl⟩;have h1:W1.heap[w.heap.size]?=oC ROW 342:=by rw[hW1];exact Ub w.drew _
 have X1:Ext w W1:=by rw[hW1];exact((Ext.refl w).drew).alloc _
 rw[<-hW1] at hz;have hgc:∀j u,e0.cells[j]?=some u->w.cell? ((⟨g,0,none⟩:Addr).add j)=some u:=by
  intro j u hj;rw[Go.WideShapes.add_plain,Nat.zero_add,cO hg];have hj3:j<3:=by have:=(List.getElem?_eq_some_iff.1 hj).1;simpa [EV.cells] using this
  have:=congrArg (·[j]?) ht;simp only[List.getElem?_take] at this;rw[if_pos (by omega)] at this;rw[<-Array.getElem?_toList,this];simpa [enC] using hj
 obtain⟨W2,cur2,r1,h2,l2,U2⟩:=Cz (w:=W1) (g:=w.heap.size) (k:=0) (n:=2) (c:=G) (b:=gb) (o:=0) (m:=1) (d:=1) (e:=e) h1 rfl (Ey.cells (X1.heap hb)) (by rw[hRs];omega) 3;have X2:Ext w W2:=U2.ext X1 (λ q hq=>by simp at hq;omega);obtain⟨W3,cur3,r2,h3,l3,U3⟩:=Cz (w:=W2.drew) (g:=w.heap.size) (k:=3) (n:=1) (c:=G-1) (b:=g) (o:=0) (m:=1) (d:=1) (e:=e0) h2 rfl (λ j u hj=>X2.drew.cell (hgc j u hj)) (by
  have:=congrArg List.length l2;simp[EV.cells] at this;omega) 3
 have X3:Ext w W3:=U3.ext X2.drew (λ q hq=>by simp at hq;omega);have hO:Ad W3 (sS w.heap.size 0 2 G) [e,e0]:=by
  have e1:cur2.toList.take 3=e.cells:=by rw[l2];simp[EV.cells]
  have s2:cur2.toList.length=G*3:=by
   rw[l2];simp[EV.cells];omega
  refine Ad.mk (es:=[e,e0]) h3 hG2 hGm ?_ ?_
  ·rw[<-Array.length_toList,l3];simp[EV.cells];simp at s2;omega
  ·rw[l3,e1];simp[enC,EV.cells]
 have HZ:=hid hz;have R1:=hid r1;have R2:=hid r2;have HO:=hid hO;have HX:=hid X3;have hG0:¬G=0:=by omega
 have hG1:¬G=1:=by omega
 unfold maxLen at hGm;clear hG h hg hs ht hi hz0 hz1 hz2 hold hz hR hRs hW1 h1 X1 hgc r1 h2 l2 U2 X2 r2 h3 l3 U3 X3 hO hb;go_in;have r1:=R1.o;go_wp2_with (at_builtin;refine jA rfl (.tmp 34) (.tmp 39) _ rfl _ _ _ rfl rfl HZ.o ?_);clear r1;have hw1:IntKind.i64.wrap 1=1:=by decide
 go_region_law (refine CT rfl (Ld (.tmp 50) (.tmp 53) _ rfl (by simp[Act.eval,Act.put]) (by simp[Act.eval,Act.put]) R2.o) ?_);go_wp2_with fail;go_ret;exact⟨_,rfl,HO.o,HX.o,rfl⟩
theorem I0 {l:Nat} {e:EV} (hg:w.heap[g]?=oC cur 342) (hs:cur.size≠0) (hb:Ey w gb e) (hne:gb≠g):
  (callFunc 439 #[sS gb 0 1 1,sS g k l c]).run prog w= .ok (.value (.bool false)) w:=by
 obtain⟨i0,hi,hz0,hz1,hz2⟩:=info_parts Gk;rw[run_callFunc_extern func439 (by kernel_rfl) (by kernel_rfl) (by kernel_rfl) (e:=Extern.SlicesOverlaps.overlaps #[140,140] #[4]) (by kernel_rfl),
  Lib.run_overlaps_apart w 140 4 342 underlying140 3 (λ w=>by rw[run_sizeOf w hi,PU]) ⟨gb,0,none⟩ ⟨g,k,none⟩ 1 1 l c hne 342 342 3 cur.size (by simp[World.shape?,show w.heap[gb]?=_ from hb,EV.cells]) (by simp[World.shape?,hg]) hs (fO hb 0) (fO hb 3)]
 rfl
theorem KY {e0:EV} (h:Ad w (sS g 0 1 c) [e0]) (hc:2<=c) {e:EV} (hb:Ey w gb e) (hne:gb≠g):
  Calls prog 432 #[sS g 0 1 c,iI 0,sS gb 0 1 1] w λ r w'=>
   r= .returned (sS g 0 2 c)/\Ad w' (sS g 0 2 c) [e,e0]/\Upd [g] w w':=by
 obtain⟨cur,hm,hg,hs,ht⟩:∃cur,c<=maxLen/\w.heap[g]?=oC cur 342/\cur.size=c*3/\cur.toList.take (1*3)=enC [e0]:=by
  rcases h.form with⟨h1,_⟩|⟨g',cap,cur,h1,_,h3,h4,h5,h6⟩
  ·cases h1
  ·injection h1 with q1 _ q2;injection q1 with q1;injection q1 with q1;subst q1 q2;exact⟨cur,h3,h4,h5,h6⟩
 have hov:=hid (I0 (k:=3) (l:=1) (c:=c-1) hg (by omega) hb hne);have hgc:∀j u,e0.cells[j]?=some u->w.drew.cell? ((⟨g,0,none⟩:Addr).add j)=some u:=by
  intro j u hj;rw[Go.WideShapes.add_plain,Nat.zero_add,show w.drew.cell? (dD g j)=w.cell? (dD g j) from rfl,cO hg];have hj3:j<3:=by have:=(List.getElem?_eq_some_iff.1 hj).1;simpa [EV.cells] using this
  have:=congrArg (·[j]?) ht;simp only[List.getElem?_take] at this;rw[if_pos (by omega)] at this;rw[<-Array.getElem?_toList,this];simpa [enC] using hj
 obtain⟨W2,cur2,r1,h2,l2,U2⟩:=Cz (w:=w.drew) (g:=g) (k:=3) (n:=1) (c:=c-1) (b:=g) (o:=0) (m:=2) (d:=c) (e:=e0) hg rfl hgc (by omega) 3;have s2:cur2.toList.length=c*3:=by
  rw[l2];simp[EV.cells];omega
 have hb2:Ey W2 gb e:=U2.heap (show w.drew.heap[gb]?=_ from hb) (by simpa using hne);obtain⟨W3,cur3,r2,h3,l3,U3⟩:=Cz (w:=W2) (g:=g) (k:=0) (n:=2) (c:=c) (b:=gb) (o:=0) (m:=1) (d:=1) (e:=e) h2 rfl (Ey.cells hb2) (by rw[<-Array.length_toList,s2];omega) 3;have U:Upd [g] w W3:=((Upd.refl [g] w).drew.trans U2).trans U3;have hO:Ad W3 (sS g 0 2 c) [e,e0]:=by
  have e1:cur.toList.take 3=e0.cells:=by simpa [enC] using ht
  refine Ad.mk (es:=[e,e0]) h3 hc hm ?_ ?_
  ·rw[<-Array.length_toList,l3];simp[EV.cells];simp at s2;omega
  ·rw[l3,l2,e1];simp[enC,EV.cells]
 have R1:=hid r1;have R2:=hid r2;have HO:=hid hO;have HU:=hid U;have hc0:¬c=0:=by omega
 have hc1:¬c=1:=by omega
 have hci:(2:Int)<=(c:Int):=by omega
 have hcj:¬(c:Int)<2:=by omega
 unfold maxLen at hm;clear h hg hs ht hgc r1 h2 l2 U2 s2 hb2 r2 h3 l3 U3 U hO hb;go_in;have hv:=hov.o;go_wp2_with fail;clear hv;have hw1:IntKind.i64.wrap 1=1:=by decide
 go_region_law (refine CT rfl (Ld (.tmp 73) (.tmp 76) _ rfl (by simp[Act.eval,Act.put]) (by simp[Act.eval,Act.put]) R1.o) ?_);have r2:=R2.o;go_wp2_with fail;go_ret;exact⟨rfl,HO.o,HU.o⟩
theorem RI {es:List EV} (h:Ad w v es) (hl:es.length<=1) (hi:i<=es.length) {e:EV} (hb:Ey w gb e) (hne:v.ownBlock≠some gb):
  Calls prog 432 #[v,iI i,sS gb 0 1 1] w λ r w'=>
   ∃v',r= .returned v'/\Ad w' v' (es.insertIdx i e)/\Upd v.ownBlock.toList w w'/\(v'.ownBlock=v.ownBlock\/v'.ownBlock=some w.heap.size):=by
 by_cases hie:i=es.length
 ·subst hie;refine(RH h (by omega) hb).mono ?_;rintro r w' ⟨v',rfl,hO,hG,hB⟩;exact⟨v',rfl,by rw[List.insertIdx_length_self];exact hO,BS hG,hB⟩
 ·obtain⟨e0,rfl⟩:∃e0,es=[e0]:=by
   match es,hl,hi,hie with
   |[],_,hi,hie=>exact absurd (by simpa using hi) hie
   |[e0],_,_,_=>exact⟨e0,rfl⟩
  obtain rfl:i=0:=by simp at hi hie;omega
  rcases h.form with⟨_,h0⟩|⟨g,c,cur,rfl,hc,hm,hg,hs,ht⟩
  ·cases h0
  ·have hne2:gb≠g:=λ e=>hne (by simp[Value.ownBlock,e])
   by_cases hc1:c=1
   ·subst hc1;refine(KZ h hb).mono ?_;rintro r w' ⟨v',rfl,hO,hX,hB⟩;exact⟨v',rfl,hO,hX.upd _,.inr hB⟩
   ·have hc2:2<=c:=by simp at hc;omega
    refine(KY h hc2 hb hne2).mono ?_;rintro r w' ⟨rfl,hO,hU⟩;exact⟨_,rfl,hO,hU.mono (by simp[Value.ownBlock]),.inl rfl⟩
theorem Gz {o:Oper} {a:Act} (s x:Operand) (ats:Array TypeId) (ho:o.op= .call {callee:= .builtin .append,args:= #[s,x],argTypes:=ats}) (hs:a.eval s=v) (hx:a.eval x=y) (hr:(Builtin.append_ ats o.type #[v,y]).run P w= .ok r w'):(execOp a.eval o).run P w= .ok (.value r) w':=by
 unfold execOp;simp only[ho,resolve,invoke,builtin,Sem.run_bind,Sem.run_pure,Result.andThen_ok,List.map_toArray,List.map_cons,List.map_nil,hs,hx,hr]
theorem zeroE (w:World):(zeroValue 342).run prog w= .ok (.agg #[eE,iI 0,iI 0]) w:=by kernel_rfl
theorem Ep (hg:w.heap[g]?=oC cur 342) (hfit:k+3<=cur.size) (ty:TypeId):
  ∃w' cur',(Builtin.clear_ #[140] ty #[sS g k 1 c]).run prog w= .ok (.tuple #[]) w'/\
   w'.heap[g]?=oC cur' 342/\cur'.size=cur.size/\cur'.toList.take k=cur.toList.take k/\Upd [g] w w':=by
 have hzc:(Builtin.zeroCells (Value.agg #[eE,iI 0,iI 0]).cells 1).toList=[eE,iI 0,iI 0]:=by kernel_rfl
 have hst:=run_storeCells_at prog g k 342 [eE,iI 0,iI 0] 0 cur w hg (by simpa using hfit) (by simp[Value.oneCell']);obtain⟨C,hC⟩:∃C,C=(cur.toList.take (k+0)++([eE,iI 0,iI 0]:List Value)++cur.toList.drop (k+0+([eE,iI 0,iI 0]:List Value).length)).toArray:=⟨_,rfl⟩;rw[<-hC] at hst;refine⟨w.setRow g C,C,?_,setRow_heap w g cur C _ _ hg,?_,?_,Ae w g _⟩
 ·simp[Builtin.clear_,run_underlying underlying140,zeroE,hzc,hst]
 ·rw[hC];simp;omega
 ·rw[hC];simp only[Nat.add_zero];rw[Ui,List.take_left'];simp;omega
theorem Je {es:List EV} (hg:w.heap[g]?=oC cur 342) (hm:es.length=m) (hroom:n+m<=c) (hs:cur.size=c*3) (hsrc:∀j u,(enC es)[j]?=some u->w.cell? ((⟨b,o,none⟩:Addr).add j)=some u):
  ∃w' cur',(Builtin.append_ #[140,140] 140 #[sS g 0 n c,sS b o m d]).run prog w= .ok (sS g 0 (n+m) c) w'/\
   w'.heap[g]?=oC cur' 342/\cur'.toList=cur.toList.take (n*3)++enC es++cur.toList.drop (n*3+m*3)/\Upd [g] w w':=by
 obtain⟨i0,hi,hz0,hz1,hz2⟩:=info_parts Gk;have hl:(enC es).length=m*3:=by rw[VG,hm]
 have h:=run_append_room (P:=prog) w 140 140 342 i0 underlying140 hi g n c cur hg ⟨b,o,none⟩ m d (enC es) (by rw[hl,hz1]) hsrc (Ri es) hroom (by rw[hl,hz1,hs];omega);rw[hz1,hl] at h;exact⟨_,_,h,setRow_heap w g cur _ _ _ hg,by simp,Ae w g _⟩
theorem Rk {e0 e1:EV} (h:Ad w v [e0,e1]) (hi:i<2):
  Calls prog 430 #[v,iI i,iI ((i:Int)+1)] w λ r w'=>
   ∃v',r= .returned v'/\Ad w' v' (if i=0 then[e1] else[e0])/\Upd v.ownBlock.toList w w'/\v'.ownBlock=v.ownBlock:=by
 rcases h.form with⟨_,h0⟩|⟨g,c,cur,rfl,hc,hm,hg,hs,ht⟩
 ·cases h0
 have hc:2<=c:=hc;have ht:cur.toList.take 6=e0.cells++e1.cells:=by simpa [enC] using ht
 have hcell:∀k,k<6->w.cell? (dD g k)=(e0.cells++e1.cells)[k]?:=λ k hk=>by
  rw[cO hg k,<-ht,List.getElem?_take,if_pos hk];simp
 have hm2:c<=9223372036854775807:=by unfold maxLen at hm;omega
 have hc0:¬c=0:=by omega
 have hc1:¬c=1:=by omega
 have hci:(2:Int)<=(c:Int):=by omega
 have hcu:(1:Int)<=(c:Int):=by omega
 have hcj:¬(c:Int)<2:=by omega
 rcases Nat.lt_or_ge i 1 with h1|h1
 ·obtain rfl:i=0:=by omega
  rw[if_pos rfl];obtain⟨W2,cur2,r1,h2,l2,U2⟩:=Je (w:=w.drew) (g:=g) (n:=0) (c:=c) (b:=g) (o:=3) (m:=1) (d:=c-1) (es:=[e1]) hg rfl (by omega) hs (λ j u hj=>by
   rw[Go.WideShapes.add_plain];have hj3:j<3:=by have:=(List.getElem?_eq_some_iff.1 hj).1;simpa [enC,EV.cells] using this
   rw[show w.drew.cell? (dD g (3+j))=w.cell? (dD g (3+j)) from rfl,hcell _ (by omega),List.getElem?_append_right (by simp[EV.cells])];simpa [EV.cells,enC] using hj)
  have s2:cur2.size=c*3:=by
   rw[<-Array.length_toList,l2];simp[enC,EV.cells];omega
  obtain⟨W3,cur3,r2,h3,s3,t3,U3⟩:=Ep (w:=W2) (g:=g) (k:=3) (c:=c-1) h2 (by omega) 0;have hO:Ad W3 (sS g 0 1 c) [e1]:=
   Ad.mk (es:=[e1]) h3 (by simp;omega) hm (by omega) (by
    rw[show([e1]:List EV).length*3=3 from rfl,t3,l2];simp[enC,EV.cells])
  have R1:=hid r1;have R2:=hid r2;have HO:=hid hO;have HU:=hid (((Upd.refl [g] w).drew.trans U2).trans U3);clear h hg hs ht hcell r1 h2 l2 U2 s2 r2 h3 s3 t3 U3 hO hm;go_in;go_wp2_with fail;go_region_law (refine CT rfl (Gz (.tmp 22) (.tmp 25) _ rfl (by simp[Act.eval,Act.put]) (by simp[Act.eval,Act.put]) R1.o) ?_);have r2:=R2.o;go_wp2_with fail;go_ret;exact⟨_,rfl,HO.o,HU.o.mono (by simp[Value.ownBlock]),rfl⟩
 ·obtain rfl:i=1:=by omega
  rw[if_neg (by omega)];obtain⟨o,d,ho⟩:∃o d,(o=0/\d=0/\c=2)\/(o=6/\d=c-2/\c≠2):=by
   by_cases hc2:c=2
   ·exact⟨0,0,.inl ⟨rfl,rfl,hc2⟩⟩
   ·exact⟨6,c-2,.inr ⟨rfl,rfl,hc2⟩⟩
  obtain⟨W2,cur2,r1,h2,l2,U2⟩:=Je (w:=w.drew) (g:=g) (n:=1) (c:=c) (b:=g) (o:=o) (m:=0) (d:=d) (es:=[]) hg rfl (by omega) hs (λ j u hj=>by simp[enC] at hj);have l3:cur2.toList=cur.toList:=by rw[l2];simp[enC]
  have s2:cur2.size=c*3:=by
   rw[<-Array.length_toList,l3];simpa using hs
  obtain⟨W3,cur3,r2,h3,s3,t3,U3⟩:=Ep (w:=W2) (g:=g) (k:=3) (c:=c-1) h2 (by omega) 0;have hO:Ad W3 (sS g 0 1 c) [e0]:=
   Ad.mk (es:=[e0]) h3 (by simp;omega) hm (by omega) (by
    have:=congrArg (List.take 3) ht;rw[List.take_take] at this;rw[show([e0]:List EV).length*3=3 from rfl,t3,l3];simpa [enC,EV.cells] using this)
  have R1:=hid r1;have R2:=hid r2;have HO:=hid hO;have HU:=hid (((Upd.refl [g] w).drew.trans U2).trans U3);clear h hg hs ht hcell r1 h2 l2 l3 U2 s2 r2 h3 s3 t3 U3 hO hm;rcases ho with⟨rfl,rfl,rfl⟩|⟨rfl,rfl,hc2⟩
  all_goals
   go_in;go_wp2_with fail;go_region_law (refine CT rfl (Gz (.tmp 22) (.tmp 25) _ rfl (by simp[Act.eval,Act.put]) (by simp[Act.eval,Act.put]) R1.o) ?_);have r2:=R2.o;go_wp2_with fail;go_ret;exact⟨_,rfl,HO.o,HU.o.mono (by simp[Value.ownBlock]),rfl⟩
theorem KC {es:List EV} (hl:es.length<=1) {e:EV} (hp:Dm es e.key i) (hn:∀k (hk:k<es.length),es[k].key≠e.key):Bg (es.insertIdx i e):=by
 match es,hl with
 |[],_=>
  have:i=0:=by have:=hp.le;simpa using this
  subst this;intro a b ha hb hab;simp at hb;omega
 |[e0],_=>
  have hi:=hp.le;have h0:=Bv (es:=[e0]) (s:=e.key) (k:=0) (by simp);simp only[List.getElem_cons_zero] at h0;rcases Nat.lt_or_ge i 1 with h1|h1
  ·obtain rfl:i=0:=by omega
   have h2:=hp.hi 0 (Uf _) (by simp);have h3:compareBytes e0.key e.key≠0:=λ q=>hn 0 (by simp) (CF.1 q)
   intro a b ha hb hab;simp at hb;obtain rfl:a=0:=by omega
   obtain rfl:b=1:=by omega
   simp only[List.insertIdx_zero,List.getElem_cons_zero,List.getElem_cons_succ];rw[Gw];omega
  ·obtain rfl:i=1:=by simp at hi;omega
   have h2:=hp.lo 0 (by omega);intro a b ha hb hab;simp at hb;obtain rfl:a=0:=by omega
   obtain rfl:b=1:=by omega
   simp only[List.insertIdx_succ_cons,List.insertIdx_zero,List.getElem_cons_zero,List.getElem_cons_succ];omega
theorem Ad.isSlice {es:List EV} (h:Ad w v es):∃a c,v= .slice a es.length c:=by
 rcases h.form with⟨h1,h2⟩|⟨g,cap,cur,h1,_⟩
 ·exact⟨none,0,by rw[h1,h2];rfl⟩
 ·exact⟨_,_,h1⟩
theorem Gs {w1 w2:World} {v':Value} {es':List EV} (hdb:db<w.heap.size) (hne:v.ownBlock≠some db) (hx:Ext w w1) (hu:Upd v.ownBlock.toList w1 w2) (hd:w2.heap[db]?=oC #[v] 260) (hO:Ad w2 v' es') (hB:v'.ownBlock=v.ownBlock\/∃g,v'.ownBlock=some g/\w1.heap.size<=g):
  AW db es' (w2.setCell (dD db 0) v') (db::v'.ownBlock.toList)/\Mv w (w2.setCell (dD db 0) v') (db::v.ownBlock.toList) (db::v'.ownBlock.toList):=by
 have hsz:=hx.size;have hne':v'.ownBlock≠some db:=by
  rcases hB with h|⟨g,h,hg⟩
  ·rw[h];exact hne
  ·rw[h];intro q;injection q with q;omega
 have hs:Upd [db] w2 (w2.setCell (dD db 0) v'):=(Upd.refl [db] w2).setCell _ _ (by simp);refine⟨⟨v',by rw[jP v' hd];rfl,hO.upd hs (λ g hg=>by simp only[List.mem_singleton];rintro rfl;exact hne' hg),rfl,hne'⟩,?_,?_⟩
 ·exact((hx.upd _).trans (hu.mono (λ k hk=>List.mem_cons_of_mem _ hk))).trans (hs.mono (by simp))
 ·intro b hb;simp only[Um,Option.mem_toList] at hb;rcases hb with rfl|hb
  ·exact .inl (by simp)
  ·rcases hB with h|⟨g,h,hg⟩
   ·exact .inl (by rw[<-h];simp[hb])
   ·rw[h] at hb;injection hb with hb;subst hb;exact .inr (by omega)
theorem dput {es:List EV} (h:AW db es w F) (hr:Bg es) (hl:es.length<=1) {e:EV} (hg:AP e.name) (hs:∀k (hk:k<es.length),es[k].name≠e.name):
  Calls prog 416 #[pP db 0,.string e.name,.agg #[iI e.ino,iI e.gen]] w λ r w'=>
   r= .returned (iI 0)/\∃i F',i<=es.length/\AW db (es.insertIdx i e) w' F'/\Bg (es.insertIdx i e)/\Mv w w' F F':=by
 have HF:=hid (λ W (hx:Ext w W)=>Lc ((AW.loc db es).2 _ _ _ [] h (hx.upd []) (λ _ _=>by simp)) hr (by omega) e.name);have HN:=hid (λ W=>CV hg W);have HNo:=hid (λ i=>Dm.no (es:=es) (s:=e.name.data.toList) (i:=i) (λ k hk q=>hs k hk (II q)));have HR:=hid (λ i (hp:Dm es e.name.data.toList i)=>KC (e:=e) hl hp (λ k hk q=>hs k hk (II q)));obtain⟨v,hb,hO,hF,hne⟩:=h;have HO:=hid hO;have HB:=hid hb;have HFe:=hid hF;have HNe:=hid hne;have hdb:=lH hb;have hvl:∀g,v.ownBlock=some g->g<w.heap.size:=λ g hg=>hO.lt hg
 have HVl:=hid hvl;clear hO hb hF hne hvl hs hr hg;go_in;go_wp2_with (go_at_call 271;refine(HN.o _).mono ?_;rintro r w1 ⟨rfl,rfl⟩);obtain⟨W0,hW0⟩:∃W,W=w.alloc (.cells #[iI e.ino,iI e.gen] 82):=⟨_,rfl⟩;rw[<-hW0];have X0:Ext w W0:=by rw[hW0];exact(Ext.refl _).alloc _
 have hb0:W0.heap[w.heap.size]?=oC #[iI e.ino,iI e.gen] 82:=by rw[hW0];exact Ub w _
 refine(HF.o W0 X0).mono ?_;rintro r w1 ⟨i,rfl,P1,X1⟩;rw[HNo.o i];have hb1:=X1.heap hb0;obtain⟨b0,b1,b2,b3⟩:=Al hb1;have XX:=X0.trans X1;have hd1:=XX.heap HB.o;have hdc:=cO hd1 0;simp only[List.getElem?_toArray,List.getElem?_cons_zero] at hdc;have HXX:=hid XX;have HP:=hid P1;have hdl:=lH hd1;have hbl:=lH hb1;have HD1:=hid hd1;clear P1 X1 X0 hW0 hb0 hb1 XX hd1;have HI:=hid (λ (W:World) (hx:Ext w1 W) (hb:Ey W w1.heap.size e)=>RI ((HO.o.ext HXX.o).ext hx) hl HP.o.le hb (λ q=>by have:=HVl.o _ q;omega));go_wp2_with fail;go_region_with (go_at_call 432;refine(HI.o _ (by exact((Ext.refl w1).alloc _).drew) (by exact Ub w1 _)).mono ?_;rintro r w2 ⟨v',rfl,hO2,hU2,hB2⟩;obtain⟨a2,c2,rfl⟩:=hO2.isSlice;have U2:=hid (((Ext.refl w1).alloc _).drew.upd v.ownBlock.toList|>.trans hU2);have hd2:=Upd.heap U2.o HD1.o (by simpa using HNe.o);have hdc2:=cO hd2 0;have hdf2:=fO hd2 0;simp only[List.getElem?_toArray,List.getElem?_cons_zero] at hdc2;have hdl2:=lH hd2;have O2:=hid hO2;have B2:=hid hB2;have HD2:=hid hd2;clear hO2 hU2 hB2 hd2)
 all_goals
  go_wp2_with fail;go_ret;obtain⟨D,M⟩:=Gs hdb HNe.o HXX.o U2.o HD2.o O2.o (B2.o.imp_right λ q=>⟨_,q,by simp⟩);exact⟨rfl,i,_,HP.o.le,D,HR.o i HP.o,by rw[HFe.o];exact M⟩
theorem Sd {e0 e1:EV} (h:AW db [e0,e1] w F) (hr:Bg [e0,e1]) (hi:i<2) (s:ByteArray) (hs:s=(if i=0 then e0 else e1).name) {es':List EV} (he:es'=if i=0 then[e1] else[e0]):
  Calls prog 409 #[pP db 0,.string s] w λ r w'=>
   r= .returned (iI 0)/\∃F',AW db es' w' F'/\Mv w w' F F':=by
 have HF:=hid (Lc h hr (by simp) s);have hk:([e0,e1]:List EV)[i].key=s.data.toList:=by
  rw[hs]
  match i,hi with
  |0,_=>rfl
  |1,_=>rfl
 have HAt:=hid (λ j (hp:Dm [e0,e1] s.data.toList j)=>hp.at_ hr hi hk);have hz:(decide (i<([e0,e1]:List EV).length)&&(DR [e0,e1] s.data.toList i==0))=true:=by
  rw[Bv hi,hk];have:=(@CF s.data.toList s.data.toList).2 rfl;simp[this];exact hi
 have HZ:=hid hz;obtain⟨v,hb,hO,hF,hne⟩:=h;have HO:=hid hO;have HB:=hid hb;have HFe:=hid hF;have HNe:=hid hne;have hdb:=lH hb;obtain⟨a,c,rfl⟩:=hO.isSlice;have HE:=hid he;clear hO hb hF hne hs hr hk hz he;go_in;go_wp2_with fail;refine HF.o.mono ?_;rintro r w1 ⟨j,rfl,P1,X1⟩;obtain rfl:=HAt.o j P1;rw[HZ.o];have hd1:=X1.heap HB.o;have hdc:=cO hd1 0;simp only[List.getElem?_toArray,List.getElem?_cons_zero] at hdc;have HX:=hid X1;have HD1:=hid hd1;have hde:=Rk (HO.o.ext X1) hi;rw[<-HE.o] at hde;have HDel:=hid hde;have hw:IntKind.i64.wrap ((j:Int)+1)=(j:Int)+1:=Uh _ (by omega);clear P1 X1 hd1 hde;go_wp2_with (go_at_call 430;refine HDel.o.mono ?_;rintro r w2 ⟨v',rfl,hO2,hU2,hB2⟩;obtain⟨a2,c2,rfl⟩:=hO2.isSlice;have U2:=hid hU2;have hd2:=Upd.heap U2.o HD1.o (by simpa using HNe.o);have hdc2:=cO hd2 0;have hdf2:=fO hd2 0;simp only[List.getElem?_toArray,List.getElem?_cons_zero] at hdc2;have hdl2:=lH hd2;have O2:=hid hO2;have B2:=hid hB2;have HD2:=hid hd2;clear hO2 hU2 hB2 hd2);go_ret;obtain⟨D,M⟩:=Gs hdb HNe.o HX.o U2.o HD2.o O2.o (.inl B2.o);exact⟨rfl,_,D,by rw[HFe.o];exact M⟩
structure Dw (w0 w:World) (b:Nat) (l:List (Int×Value)):Prop where
 is:Ap w b .i64 l
 ext:Ext w0 w
 new:w0.heap.size<=b
theorem Dw.start (w:World):Dw w (w.alloc (.map #[] 0)) w.heap.size []:=⟨Ap.new w .i64,(Ext.refl w).alloc _,Uf _⟩
theorem Dw.more (h:Dw w0 w b l) (hx:Ext w w'):Dw w0 w' b l:=⟨h.is.ext hx,h.ext.trans hx,h.new⟩
section
variable {P:Program} {w:World} {ops:Array Oper} {rest:List Oper} {o:Oper} {a:Act} {Q:Exit->Act->World->Prop}
theorem Cr (hgd:o.guard=none) {m x v:Operand} (ho:o.op= .insert t m x v) {K E:TypeId} (hT:P.underlying t=some (.map K E)) (hK:P.underlying K=some (.int .i64)) {k:Int} {vv:Value} (hm:a.eval m= .map (some b)) (hx:a.eval x= iI k) (hv:a.eval v=vv) (h:Dw w0 w b l) (hk:∀w',Dw w0 w' b (put l k vv)->wpList P ops Q rest (a.put o.dst undef) w'):wpList P ops Q (o::rest) a w:=by
 refine wpList_plain hgd λ K' hK'=> ?_
 obtain⟨w',h1,h2,h3⟩:=h.is.update hT hK k vv;unfold Oper.wp execOp;simp only[ho,Sem.run_bind,Sem.run_pure,Result.andThen_ok,hm,hx,hv,h1];exact hK' _ _ (hk w' ⟨h2,h3.ext h.ext (λ q hq=>by simp at hq;subst hq;exact h.new),h.new⟩)
end
def fnv (f:Nat):Value:= .func (.func f) #[] #[]
def KK:List (Int×Value):=[(1,fnv 370),(2,fnv 371),(3,fnv 372),(6,fnv 373),(7,fnv 374),(8,fnv 375),(9,fnv 376),(12,fnv 377),(13,fnv 378),(14,fnv 379),(16,fnv 380)]
theorem MS (w:World):Calls prog 318 #[] w λ r w'=>∃m,r= .returned (.map (some m))/\Dw w w' m KK:=by
 have hmm:= @run_makeMap prog;have h0:=Dw.start w;go_in;go_wp2_with (refine Cr rfl rfl underlying422 underlying3 rfl rfl rfl (by assumption) ?_;intro w' hM);rename_i _ hM;go_ret;exact⟨_,rfl,hM⟩
section
open inoP
theorem cA {cs:Array Value} (h:w.heap[g]?=oC cs t) (i:Nat) (hv:cs[i]?=some v):w.cell? (dD g i)=some v:=by rw[cO h,hv]
section
variable {o w w':World} {p1 p2 p3 p4 p5 p6:Addr} {a1 a2 a3 a4 a5 a6:Value}
theorem En (h:w.cell? p1=some a1/\Ext o w) (hx:Ext w w'):w'.cell? p1=some a1/\Ext o w':=⟨hx.cell h.1,h.2.trans hx⟩
theorem Fe (h:w.cell? p1=some a1/\w.cell? p2=some a2/\Ext o w) (hx:Ext w w'):w'.cell? p1=some a1/\w'.cell? p2=some a2/\Ext o w':=⟨hx.cell h.1,En h.2 hx⟩
theorem Gj (h:w.cell? p1=some a1/\w.cell? p2=some a2/\w.cell? p3=some a3/\Ext o w) (hx:Ext w w'):w'.cell? p1=some a1/\w'.cell? p2=some a2/\w'.cell? p3=some a3/\Ext o w':=⟨hx.cell h.1,Fe h.2 hx⟩
end
structure FsC where
 fb:Nat
 pb:Nat
 tb:Nat
 pl:Nat
 rb:Nat
 db:Nat
structure FsI (c:FsC) (room used:Nat) (ps:List Pl) (w:World):Prop where
 fs:w.heap[c.fb]?=oC #[pP c.pb 0,iI 1,iI 1,iI room,iI used] 156
 tab:B0 w c.pb c.tb c.pl ps
 root:w.heap[c.rb]?=oC #[iI 493,iI 1,iI 1,pP c.db 0,nN] 197
 at0:∃h:0<ps.length,ps[0]=⟨true,1,some ⟨c.rb,0,none⟩⟩
theorem FsI.ext {c:FsC} {ps:List Pl} (h:FsI c room used ps w) (hx:Ext w w'):FsI c room used ps w':=⟨hx.heap h.fs,h.tab.ext hx,hx.heap h.root,h.at0⟩
def Az (nb:Nat) (md:Int) (dv:Value) (w:World):Prop:=w.heap[nb]?=oC #[iI md,iI 1,iI 1,.pointer none,dv] 197
theorem Az.ext (h:Az nb md dv w) (hx:Ext w w'):Az nb md dv w':=hx.heap h
theorem Ip {c:FsC} {ps:List Pl} (h:FsI c room used ps w):
  Calls prog 397 #[pP c.pb 0,.agg #[iI 1,iI 1]] w λ r w'=>r= .returned (.tuple #[pP c.rb 0,iI 0])/\Ext w w':=by
 obtain⟨hl,h0⟩:=h.at0;have:=inoP.get_ok _ _ _ _ _ 0 hl h.tab (by rw[h0]) 1 (by rw[h0]);rw[h0] at this;exact this
theorem VE {c:FsC} {ps:List Pl} (h:FsI c room used ps w) (hn:∃h:1<ps.length,ps[1]=⟨true,1,some ⟨nb,0,none⟩⟩):
  Calls prog 397 #[pP c.pb 0,.agg #[iI 2,iI 1]] w λ r w'=>r= .returned (.tuple #[pP nb 0,iI 0])/\Ext w w':=by
 obtain⟨hl,h0⟩:=hn;have:=inoP.get_ok _ _ _ _ _ 1 hl h.tab (by rw[h0]) 1 (by rw[h0]);rw[h0] at this;exact this
theorem BX {c:FsC} {ps:List Pl} (h:FsI c room used ps w):
  Calls prog 402 #[pP c.fb 0,.agg #[iI 1,iI 1]] w λ r w'=>r= .returned (.tuple #[pP c.rb 0,iI 0])/\Ext w w':=by
 have HG:=hid (λ W (hx:Ext w W)=>Ip (h.ext hx));have HI:=hid h;clear h;go_in;go_wp2_with fail;obtain⟨W0,hW0⟩:∃W,W=w.alloc (.cells #[iI 1,iI 1] 82):=⟨_,rfl⟩;rw[<-hW0];have X0:Ext w W0:=by rw[hW0];exact(Ext.refl _).alloc _
 have hb:W0.heap[w.heap.size]?=oC #[iI 1,iI 1] 82:=by rw[hW0];exact Ub w _
 have HX0:=hid X0;have c0:=cA (X0.heap HI.o.fs) 0 rfl;obtain⟨b0,b1,-,-⟩:=Al hb;clear hW0 X0 hb;go_region_held3 (λ w'=>w'.cell? (dD c.fb 0)=some (pP c.pb 0)/\w'.cell? (dD w.heap.size 0)=some (iI 1)/\w'.cell? (dD w.heap.size 1)=some (iI 1)/\Ext w w') (first|exact⟨c0,b0,b1,HX0.o.drew⟩|exact Gj (by assumption) X1|assumption) (first|(go_at_call 397;refine(HG.o _ (Uk (Uk (Uk (by assumption))))).mono ?_;rintro r w1 ⟨rfl,X1⟩));have HX:=hid (show Ext w w1 from Uk (Uk (Uk (by assumption))));have r3:=cA (HX.o.heap HI.o.root) 3 rfl;clear X1;go_wp2_with fail;go_ret2;exact⟨rfl,HX.o⟩
theorem Lb {c:FsC} {ps:List Pl} (h:FsI c room used ps w) (hn:∃h:1<ps.length,ps[1]=⟨true,1,some ⟨nb,0,none⟩⟩) (hN:Az nb md dv w):
  Calls prog 399 #[pP c.fb 0,.agg #[iI 2,iI 1]] w λ r w'=>r= .returned (.tuple #[pP nb 0,iI 0])/\Ext w w':=by
 have HG:=hid (λ W (hx:Ext w W)=>VE (h.ext hx) hn);have HI:=hid h;have HN:=hid hN;clear h hN hn;go_in;go_wp2_with fail;obtain⟨W0,hW0⟩:∃W,W=w.alloc (.cells #[iI 2,iI 1] 82):=⟨_,rfl⟩;rw[<-hW0];have X0:Ext w W0:=by rw[hW0];exact(Ext.refl _).alloc _
 have hb:W0.heap[w.heap.size]?=oC #[iI 2,iI 1] 82:=by rw[hW0];exact Ub w _
 have HX0:=hid X0;have c0:=cA (X0.heap HI.o.fs) 0 rfl;obtain⟨b0,b1,-,-⟩:=Al hb;clear hW0 X0 hb;go_region_held3 (λ w'=>w'.cell? (dD c.fb 0)=some (pP c.pb 0)/\w'.cell? (dD w.heap.size 0)=some (iI 2)/\w'.cell? (dD w.heap.size 1)=some (iI 1)/\Ext w w') (first|exact⟨c0,b0,b1,HX0.o.drew⟩|exact Gj (by assumption) X1|assumption) (first|(go_at_call 397;refine(HG.o _ (Uk (Uk (Uk (by assumption))))).mono ?_;rintro r w1 ⟨rfl,X1⟩));have HX:=hid (show Ext w w1 from Uk (Uk (Uk (by assumption))));have r3:=cA (HX.o.heap HN.o) 3 rfl;clear X1;go_wp2_with fail;go_ret2;exact⟨rfl,HX.o⟩
end
section
open inoP
section
variable {o w w':World} {S:List Nat} {p1 p2 p3 p4 p5 p6:Addr} {a1 a2 a3 a4 a5 a6:Value}
theorem Oa (h:w.cell? p1=some a1/\w.cell? p2=some a2/\Upd S o w) (hu:Upd S w w') (n1:p1.block∉S) (n2:p2.block∉S):w'.cell? p1=some a1/\w'.cell? p2=some a2/\Upd S o w':=⟨hu.cell h.1 n1,hu.cell h.2.1 n2,h.2.2.trans hu⟩
theorem OZ (h:w.cell? p1=some a1/\w.cell? p2=some a2/\w.cell? p3=some a3/\Upd S o w) (hu:Upd S w w') (n1:p1.block∉S) (n2:p2.block∉S) (n3:p3.block∉S):w'.cell? p1=some a1/\w'.cell? p2=some a2/\w'.cell? p3=some a3/\Upd S o w':=⟨hu.cell h.1 n1,hu.cell h.2.1 n2,hu.cell h.2.2.1 n3,h.2.2.2.trans hu⟩
theorem IJ (h:w.cell? p1=some a1/\w.cell? p2=some a2/\w.cell? p3=some a3/\w.cell? p4=some a4/\Upd S o w) (hu:Upd S w w') (n1:p1.block∉S) (n2:p2.block∉S) (n3:p3.block∉S) (n4:p4.block∉S):w'.cell? p1=some a1/\w'.cell? p2=some a2/\w'.cell? p3=some a3/\w'.cell? p4=some a4/\Upd S o w':=⟨hu.cell h.1 n1,hu.cell h.2.1 n2,hu.cell h.2.2.1 n3,hu.cell h.2.2.2.1 n4,h.2.2.2.2.trans hu⟩
end
theorem Cq (h:w.heap[g]?=oC #[c0,c1,c2,c3,c4] t):
  w.cell? (dD g 0)=some c0/\w.cell? (dD g 1)=some c1/\w.cell? (dD g 2)=some c2/\w.cell? (dD g 3)=some c3/\w.cell? (dD g 4)=some c4/\(∀o,w.frozen? (dD g o)=false):=
 ⟨cO h 0,cO h 1,cO h 2,cO h 3,cO h 4,fO h⟩
theorem AC (h:w.heap[g]?=oC #[c0,c1,c2,c3,c4,c5,c6,c7,c8,c9] t):
  w.cell? (dD g 0)=some c0/\w.cell? (dD g 1)=some c1/\w.cell? (dD g 2)=some c2/\w.cell? (dD g 3)=some c3/\w.cell? (dD g 4)=some c4/\w.cell? (dD g 5)=some c5/\w.cell? (dD g 6)=some c6/\w.cell? (dD g 7)=some c7/\w.cell? (dD g 8)=some c8/\w.cell? (dD g 9)=some c9/\(∀o,w.frozen? (dD g o)=false):=
 ⟨cO h 0,cO h 1,cO h 2,cO h 3,cO h 4,cO h 5,cO h 6,cO h 7,cO h 8,cO h 9,fO h⟩
theorem CM {c10 c11:Value} (h:w.heap[g]?=oC #[c0,c1,c2,c3,c4,c5,c6,c7,c8,c9,c10,c11] t):
  w.cell? (dD g 0)=some c0/\w.cell? (dD g 1)=some c1/\w.cell? (dD g 2)=some c2/\w.cell? (dD g 3)=some c3/\w.cell? (dD g 4)=some c4/\w.cell? (dD g 5)=some c5/\w.cell? (dD g 6)=some c6/\w.cell? (dD g 7)=some c7/\w.cell? (dD g 8)=some c8/\w.cell? (dD g 9)=some c9/\w.cell? (dD g 10)=some c10/\w.cell? (dD g 11)=some c11/\(∀o,w.frozen? (dD g o)=false):=
 ⟨cO h 0,cO h 1,cO h 2,cO h 3,cO h 4,cO h 5,cO h 6,cO h 7,cO h 8,cO h 9,cO h 10,cO h 11,fO h⟩
theorem Aa (cs:Array Value) (hR:w.heap[R]?=oC cs t) (hU:Upd [R] w0 w) (h:∀W,W.heap[R]?=oC cs t->Upd [R] w0 W->Pr W):Pr w:=h w hR hU
theorem Hk (cs:Array Value) (hR:w.heap[R]?=oC cs t) (hU:Upd [R] w0 w) (h:∀W,W.heap[R]?=oC cs t->Upd [R] w0 W->Pr W):Pr w.drew:=h w.drew hR hU.drew
theorem TM (h:w.heap[g]?=oC #[c0,c1,c2,c3,c4] t):
  (((((w.setCell (dD g 0) a0).setCell (dD g 1) a1).setCell (dD g 2) a2).setCell (dD g 3) a3).setCell (dD g 4) a4).heap[g]?=oC #[a0,a1,a2,a3,a4] t:=by
 replace h:=show _=some (Obj.cells #[a0,c1,c2,c3,c4] t (0,0)) from jP (i:=0) a0 h
 replace h:=show _=some (Obj.cells #[a0,a1,c2,c3,c4] t (0,0)) from jP (i:=1) a1 h
 replace h:=show _=some (Obj.cells #[a0,a1,a2,c3,c4] t (0,0)) from jP (i:=2) a2 h
 replace h:=show _=some (Obj.cells #[a0,a1,a2,a3,c4] t (0,0)) from jP (i:=3) a3 h
 replace h:=show _=some (Obj.cells #[a0,a1,a2,a3,a4] t (0,0)) from jP (i:=4) a4 h
 exact h
theorem Ao {a5 a6 a7 a8 a9:Value} (h:w.heap[g]?=oC #[c0,c1,c2,c3,c4,c5,c6,c7,c8,c9] t):
  ((((((((((w.setCell (dD g 0) a0).setCell (dD g 1) a1).setCell (dD g 2) a2).setCell (dD g 3) a3).setCell (dD g 4) a4).setCell (dD g 5) a5).setCell (dD g 6) a6).setCell (dD g 7) a7).setCell (dD g 8) a8).setCell (dD g 9) a9).heap[g]?=oC #[a0,a1,a2,a3,a4,a5,a6,a7,a8,a9] t:=by
 replace h:=show _=some (Obj.cells #[a0,c1,c2,c3,c4,c5,c6,c7,c8,c9] t (0,0)) from jP (i:=0) a0 h
 replace h:=show _=some (Obj.cells #[a0,a1,c2,c3,c4,c5,c6,c7,c8,c9] t (0,0)) from jP (i:=1) a1 h
 replace h:=show _=some (Obj.cells #[a0,a1,a2,c3,c4,c5,c6,c7,c8,c9] t (0,0)) from jP (i:=2) a2 h
 replace h:=show _=some (Obj.cells #[a0,a1,a2,a3,c4,c5,c6,c7,c8,c9] t (0,0)) from jP (i:=3) a3 h
 replace h:=show _=some (Obj.cells #[a0,a1,a2,a3,a4,c5,c6,c7,c8,c9] t (0,0)) from jP (i:=4) a4 h
 replace h:=show _=some (Obj.cells #[a0,a1,a2,a3,a4,a5,c6,c7,c8,c9] t (0,0)) from jP (i:=5) a5 h
 replace h:=show _=some (Obj.cells #[a0,a1,a2,a3,a4,a5,a6,c7,c8,c9] t (0,0)) from jP (i:=6) a6 h
 replace h:=show _=some (Obj.cells #[a0,a1,a2,a3,a4,a5,a6,a7,c8,c9] t (0,0)) from jP (i:=7) a7 h
 replace h:=show _=some (Obj.cells #[a0,a1,a2,a3,a4,a5,a6,a7,a8,c9] t (0,0)) from jP (i:=8) a8 h
 replace h:=show _=some (Obj.cells #[a0,a1,a2,a3,a4,a5,a6,a7,a8,a9] t (0,0)) from jP (i:=9) a9 h
 exact h
theorem NN (w:World) (g:Nat) (a0 a1 a2 a3 a4:Value):Upd [g] w (((((w.setCell (dD g 0) a0).setCell (dD g 1) a1).setCell (dD g 2) a2).setCell (dD g 3) a3).setCell (dD g 4) a4):=
 ((((((Upd.refl [g] w).setCell _ _ (.inl (by simp))).setCell _ _ (.inl (by simp))).setCell _ _ (.inl (by simp))).setCell _ _ (.inl (by simp))).setCell _ _ (.inl (by simp)))
theorem AX (w:World) (g:Nat) (a0 a1 a2 a3 a4 a5 a6 a7 a8 a9:Value):Upd [g] w ((((((((((w.setCell (dD g 0) a0).setCell (dD g 1) a1).setCell (dD g 2) a2).setCell (dD g 3) a3).setCell (dD g 4) a4).setCell (dD g 5) a5).setCell (dD g 6) a6).setCell (dD g 7) a7).setCell (dD g 8) a8).setCell (dD g 9) a9):=
 (((((((((((Upd.refl [g] w).setCell _ _ (.inl (by simp))).setCell _ _ (.inl (by simp))).setCell _ _ (.inl (by simp))).setCell _ _ (.inl (by simp))).setCell _ _ (.inl (by simp))).setCell _ _ (.inl (by simp))).setCell _ _ (.inl (by simp))).setCell _ _ (.inl (by simp))).setCell _ _ (.inl (by simp))).setCell _ _ (.inl (by simp)))
theorem Ho {f:FuncId} {args:Array Value} (h:Calls P f args w λ r w'=>r= .returned v/\w=w'):Calls P f args w λ e w''=>e= .returned v/\w''=w:=
 h.mono λ _ _ q=>⟨q.1,q.2.symm⟩
theorem AH (w:World) (A B:Obj):((w.alloc A).alloc B).heap[w.heap.size]?=some A/\((w.alloc A).alloc B).heap[w.heap.size+1]?=some B/\Ext w ((w.alloc A).alloc B):=by
 refine⟨(heap_alloc_old (w.alloc A) B (by simp)).trans (Ub w A),?_,((Ext.refl _).alloc _).alloc _⟩;have:=Ub (w.alloc A) B;simpa using this
end
section
open inoP
theorem VN {c:FsC} {ps:List Pl} {es:List EV} {D:List Nat} (h:FsI c room used ps w) (hd:AW c.db es w D):
  Calls prog 398 #[.agg #[iI 1,iI 1],pP c.rb 0] w λ r w'=>r= .returned (.agg #[iI 1,iI 1,iI 1,iI 493,iI es.length])/\Ext w w':=by
 have HL:=hid (λ W (hx:Ext w W)=>dlen ((AW.loc c.db es).2 _ _ _ [] hd (hx.upd []) (λ _ _=>by simp)));have HI:=hid h;have hrl:=lH h.root;have q3:=cA h.root 3 rfl;clear h hd;go_in;go_wp2_with fail;obtain⟨W0,hW0⟩:∃W,W=((w.alloc (.cells #[iI 1,iI 1] 82)).alloc (.cells #[iI 0,iI 0,iI 0,iI 0,iI 0] 139)):=⟨_,rfl⟩;rw[<-hW0];obtain⟨hb,hr,X0⟩:=AH w (.cells #[iI 1,iI 1] 82) (.cells #[iI 0,iI 0,iI 0,iI 0,iI 0] 139);rw[<-hW0] at hb hr X0;have HX0:=hid X0;have c0:=cA (X0.heap HI.o.root) 0 rfl;have c3:=cA (X0.heap HI.o.root) 3 rfl;obtain⟨b0,b1,-,-⟩:=Al hb;have HR:=hid hr;obtain⟨r0,r1,r2,r3,r4,rf⟩:=Cq hr;clear hW0 X0 hb hr q3;go_still_tail 11,DE
 still_call (Ho (HL.o _ HX0.o.drew))
 repeat still_step
 refine wpStill_nil ?_;go_wp2_with fail;refine Hk (R:=w.heap.size+1) (w0:=W0) (Pr:=λ W=>bodyPost _ _ _ _ _ W) _ (TM HR.o) (NN _ _ _ _ _ _ _) ?_;clear r0 r1 r2 r3 r4 rf c0 c3 b0 b1;intro W hR hU;obtain⟨r0,r1,r2,r3,r4,-⟩:=Cq hR;exact Ue (v:= .agg #[iI 1,iI 1,iI 1,iI 493,iI es.length]) (by simp[results,results398,go_sem,r0,r1,r2,r3,r4]) rfl ⟨rfl,hU.ext HX0.o (by simp)⟩
end
end Go.Proofs.YtdakioiagpkfhaaGreatDoor
