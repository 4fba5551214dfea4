import Derived.Test.YtdakioiagpkfhaaGreatDoorP13
import Derived.Lib.Slices
set_option maxRecDepth 99999
set_option maxHeartbeats 0
set_option linter.all false
namespace Go.Proofs.YtdakioiagpkfhaaGreatDoor
open WideShapes RowKit Conc
open Go.Proofs.Tryz
variable {F S:List Nat} {a:Option Addr} {base cap cr ct k p:Nat} {ss zs:List Int} {v:Value} {w w':World} {yss:List (List Int)}
theorem Oe:(prog.info? 3).map (λ i=>(i.zero,i.size,i.bytes))=some (some (iI 0),1,8):=by kernel_rfl
def nv (zs:List Int):List Value:=zs.map (.int .i64)
theorem Bp (zs:List Int):(nv zs).length=zs.length:=by simp[nv]
theorem Po {xs:List Value} (h:AA w base 3 v xs) {len c:Nat} {ys:List Int} (hy:AI .i64 w a len cap ys) (ha:a=none->c=0) (hl:xs.length+len<=10000000) (hb:base<=w.heap.size) (ty:TypeId):
  ∃v' w',(Builtin.append_ #[23,23] ty #[v,.slice a len c]).run prog w= .ok v' w'/\AA w' base 3 v' (xs++nv ys)/\w.grownBy w' v.ownBlock:=by
 obtain⟨i0,hi,hz0,hz1,hz2⟩:=info_parts Oe;rcases Nat.eq_zero_or_pos len with h0|h0
 ·have hz:ys=[]:=List.eq_nil_of_length_eq_zero (by have:=hy.1;omega);subst hz;subst h0;have hS:Src prog i0.size 23 (.slice a 0 c) 0 [] w:=by
   cases a with
   |none=>exact Src.ofNil w underlying23 c
   |some ad=>exact Src.ofSlice w underlying23 ad 0 c [] (by simp) (λ j u hj=>by simp at hj) (by simp)
  have hv:∃A n cp,v= .slice A n cp/\n<=cp:=by
   rcases h.form with⟨hv,_⟩|⟨g,cp,cur,hv,_,hn,_⟩
   ·exact⟨_,_,_,hv,by omega⟩
   ·exact⟨_,_,_,hv,hn⟩
  obtain⟨A,n,cp,rfl,hle⟩:=hv;refine⟨_,_,run_append_nothing w 23 23 ty 3 i0 underlying23 hi A n cp hle _ hS,by simpa [nv] using h,⟨rfl,rfl,rfl,Uf _,λ _ _ _=>rfl⟩⟩
 ·rcases hy.2.2.2.2 with hx|⟨g,o,rfl,hc⟩
  ·omega
  ·obtain⟨v',w',h1,h2,h3,_⟩:=run_append_own_at (P:=prog) w base 23 ty 3 i0 _ 1 8 underlying23 hi hz0 hz1 hz2 rfl (by decide) v xs.length xs h ⟨g,o,none⟩ len c (nv ys) (by rw[Bp,hy.1];omega)
    (λ j u hj=>by
     have hj':j<ys.length:=by have:=(List.getElem?_eq_some_iff.1 hj).1;rwa [Bp] at this
     rw[Go.WideShapes.add_plain,hc j (by have:=hy.1;omega),<-hj];simp[nv,List.getD,Ud hj']) (by
     intro u hu;obtain⟨z,_,rfl⟩:=List.mem_map.1 hu;rfl) (by unfold maxLen;omega) (by omega) hb
   refine⟨v',w',h1,?_,h3⟩;unfold AA;rw[Uc,Bp,hy.1];exact h2
theorem GA (a:Option Addr) (n cap:Nat) (zs:List Int) (hn:n<=1000000) (w:World) (h:AI .i64 w a n cap zs) (ha:a=none->cap=0):
  Calls prog 21 #[.slice a n cap] w λ r w'=>∃v,r= .returned v/\AA w' w.heap.size 3 v (nv zs)/\Ext w w':=by
 have hcm:=h.2.2.1;have hlc:=h.2.1;have hl:=h.1;unfold maxLen at hcm;cases a with
 |none=>
  have hc0:=ha rfl;have hz:zs=[]:=List.eq_nil_of_length_eq_zero (by omega);obtain rfl:n=0:=by omega
  subst hz hc0;clear h ha;have hnn:=λ W=>Go.Lib.run_eql_slice_nil (P:=prog) W 23 3 none 0 0 0 0 underlying23
  simp only[Option.isNone_none] at hnn;go_in;go_wp2;go_ret;exact⟨_,rfl,AA.nil _ _ _,Ext.refl w⟩
 |some ad=>
  have h0:AA (w.alloc (.cells #[] 3)) w.heap.size 3 (sS w.heap.size 0 0 0) []:=
   ⟨by simp,.inr ⟨w.heap.size,0,#[],rfl,Uf _,Ub w _,by simp,by unfold maxLen;omega,by simp,by simp⟩⟩
  obtain⟨v',w',h1,h2,h3⟩:=Po h0 (c:=cap) (h.ext ((Ext.refl w).alloc (.cells #[] 3))) (λ e=>by cases e) (by simp;omega) (by simp) 23;have H1:=hid h1;have H2:=hid (show AA w' w.heap.size 3 v' (nv zs) from h2);have H3:=hid (Uu h3 ((Ext.refl w).alloc (.cells #[] 3)) (λ g hg=>by simp[Value.ownBlock] at hg;omega));clear h h0 h1 h2 h3 ha hl;have hnn:=λ W=>Go.Lib.run_eql_slice_nil (P:=prog) W 23 3 (some ad) n cap 0 0 underlying23
  simp only[Option.isNone_some] at hnn;go_in;go_wp2_with (at_builtin;refine jA rfl (.tmp 5) (.tmp 6) _ rfl _ _ _ ?_ ?_ H1.o ?_)
  ·rfl
  ·rfl
  ·go_ret;exact⟨_,rfl,H2.o,H3.o⟩
theorem D5 (b off n c:Nat) (zs:List Int) (w:World) (hn:0<n) (hz:n<=zs.length) (hbig:n<=9223372036854775807) (hc:∀j,j<zs.length->w.cell? (dD b (off+j))=some (iI (zs.getD j 0))):
  Calls prog 39 #[sS b off n c] w λ e w'=>e= .returned (iI (Lib.minOf (zs.take n)))/\w'=w:=by
 have h0:w.cell? (dD b off)=some (iI (zs.getD 0 0)):=by simpa using hc 0 (by omega)
 go_in;go_wp2;go_loop [3,4] (λ m i=>∃k:Nat,0<k/\k<=n/\i= iI k/\m= iI (Lib.minOf (zs.take k))) (λ _ i=>match i with| .int _ q=>n-q.toNat|_=>0)
 case atStart=>exact⟨1,Nat.one_pos,hn,rfl,by rw[Lib.minOf_one];simp[List.getD]⟩
 case round=>
  obtain⟨k,hk0,hk,rfl,rfl⟩:=hrel;have hcell:k<n->w.cell? (dD b (off+k))=some (iI (zs.getD k 0)):=λ _=>hc k (by omega)
  go_wp2
  ·have hlt:k<n:=by assumption
   have e2:=Lib.minOf_step zs k hk0 (by omega);simp only[List.getD] at e2;refine⟨⟨k+1,Nat.succ_pos k,by omega,by simp,?_⟩,by simp;omega⟩;refine congrArg (Value.int .i64) ?_;rw[e2]
   split<;>omega
  ·have hge:¬k<n:=by assumption
   have:k=n:=by omega
   subst this;go_ret;exact⟨rfl,rfl⟩
theorem D7 (b off n c:Nat) (zs:List Int) (w:World) (hn:0<n) (hz:n<=zs.length) (hbig:n<=9223372036854775807) (hc:∀j,j<zs.length->w.cell? (dD b (off+j))=some (iI (zs.getD j 0))):
  Calls prog 40 #[sS b off n c] w λ e w'=>e= .returned (iI (Lib.maxOf (zs.take n)))/\w'=w:=by
 have h0:w.cell? (dD b off)=some (iI (zs.getD 0 0)):=by simpa using hc 0 (by omega)
 go_in;go_wp2;go_loop [3,4] (λ m i=>∃k:Nat,0<k/\k<=n/\i= iI k/\m= iI (Lib.maxOf (zs.take k))) (λ _ i=>match i with| .int _ q=>n-q.toNat|_=>0)
 case atStart=>exact⟨1,Nat.one_pos,hn,rfl,by rw[Lib.maxOf_one];simp[List.getD]⟩
 case round=>
  obtain⟨k,hk0,hk,rfl,rfl⟩:=hrel;have hcell:k<n->w.cell? (dD b (off+k))=some (iI (zs.getD k 0)):=λ _=>hc k (by omega)
  go_wp2
  ·have hlt:k<n:=by assumption
   have e2:=Lib.maxOf_step zs k hk0 (by omega);simp only[List.getD] at e2;refine⟨⟨k+1,Nat.succ_pos k,by omega,by simp,?_⟩,by simp;omega⟩;refine congrArg (Value.int .i64) ?_;rw[e2]
   split<;>omega
  ·have hge:¬k<n:=by assumption
   have:k=n:=by omega
   subst this;go_ret;exact⟨rfl,rfl⟩
theorem AA.rowN {e:TypeId} (h:AA w base e v (nv zs)) (hw:∀z∈zs,(Lit.int .i64 z).wf=true):∃a cap,v= .slice a zs.length cap/\AI .i64 w a zs.length cap zs/\Bj a cap:=by
 rcases h.form with⟨hv,h0⟩|⟨g,cap,cur,hv,hb,hn,hm,hg,hs,ht⟩
 ·have hz:zs=[]:=by simpa [nv] using h0
  subst hz;exact⟨none,0,hv,⟨rfl,by simp,by unfold maxLen;omega,by simp,.inl rfl⟩,.inl ⟨rfl,rfl⟩⟩
 ·rw[Bp] at hv hn ht;refine⟨_,cap,hv,⟨rfl,hn,hm,hw,.inr ⟨g,0,rfl,λ i hi=> ?_⟩⟩,.inr ⟨g,0,rfl⟩⟩;have h1:(cur.toList.take zs.length)[i]?=cur[i]?:=by rw[List.getElem?_take,if_pos hi];simp
  rw[Nat.zero_add,cO hg i,<-h1,ht];simp[nv,List.getD,Ud hi]
theorem Od:(prog.info? 72).map (λ i=>(i.zero,i.size,i.bytes))=some (some (.agg #[]),0,0):=by kernel_rfl
theorem mkT (W:World):(Instr.makeChan 120 (iI 64)).run prog W= .ok (.chan (some W.heap.size)) (W.alloc (.chan 64 #[] false 0 0 false)):=by
 obtain⟨i0,hi,hz0,hz1,hz2⟩:=info_parts FD;exact run_makeChan (n:=64) underlying120 hi .i64 (by omega) (by rw[hz2];decide)
theorem mkR (W:World):(Instr.makeChan 121 (iI 64)).run prog W= .ok (.chan (some W.heap.size)) (W.alloc (.chan 64 #[] false 0 0 false)):=by
 obtain⟨i0,hi,hz0,hz1,hz2⟩:=info_parts Od;exact run_makeChan (n:=64) underlying121 hi .i64 (by omega) (by rw[hz2];decide)
theorem AY (W:World) (A B C:Obj):(((W.alloc A).alloc B).alloc C).heap[W.heap.size]?=some A/\(((W.alloc A).alloc B).alloc C).heap[W.heap.size+1]?=some B/\(((W.alloc A).alloc B).alloc C).heap[W.heap.size+1+1]?=some C/\Ext W (((W.alloc A).alloc B).alloc C):=by
 refine⟨?_,?_,?_,(((Ext.refl W).alloc A).alloc B).alloc C⟩
 ·exact(((Ext.refl _).alloc B).alloc C).heap (Ub W A)
 ·have:=((Ext.refl _).alloc C).heap (Ub (W.alloc A) B);simpa using this
 ·have:=Ub ((W.alloc A).alloc B) C;simpa using this
theorem Co:∀(l:List Int) (a:Int),0<=a->(∀z∈l,0<=z)->0<=l.foldl min a
 |[],a,h,_=>h
 |z::l,a,h,hl=>Co l (min a z) (by have:=hl z (by simp);omega) (λ y hy=>hl y (by simp[hy]))
theorem EK:∀(l:List Int) (a:Int),a<=l.foldl max a/\∀z∈l,z<=l.foldl max a
 |[],a=>⟨Int.le_refl _,by simp⟩
 |z::l,a=>by
  obtain⟨h1,h2⟩:=EK l (max a z);refine⟨by simp only[List.foldl_cons];omega,λ y hy=> ?_⟩;rcases Um.1 hy with rfl|hy
  ·simp only[List.foldl_cons];omega
  ·exact h2 y hy
theorem EI (l:List Int) (h:∀z∈l,0<=z):0<=Lib.minOf l:=by
 refine Co l _ ?_ h;cases l with
 |nil=>exact Int.le_refl _
 |cons z l=>exact h z (by simp)
theorem JD {l:List Int} (z:Int) (h:z∈l):z<=Lib.maxOf l:=(EK l _).2 z h
def BI (ss:List Int):List Int:=if ss=[] then[4096] else ss
theorem Iy (hl:ss.length<=1000) (h:AI .i64 w a ss.length cap ss) (ha:Bj a cap) (h0:∀s∈ss,0<=s) (hp:ss=[]\/∃s∈ss,0<s):
  Calls prog 18 #[.slice a ss.length cap] w λ r w'=>∃p ct cr F,r= .returned (.tuple #[pP p 0,iI 0])/\PW w' p ct cr (BI ss) 0 [] F/\(∀b∈F,w.heap.size<=b)/\Ext w w':=by
 have hw:=h.2.2.2.1;have HC:=hid (GA a ss.length cap ss (by omega) w h ha.nil0);clear h ha;go_in;go_upto_region 2 with(go_at_call 21;refine HC.o.mono ?_;rintro r w1 ⟨v1,rfl,O1,X1⟩);obtain⟨a1,c1,rfl,R1,P1⟩:=O1.rowN hw;rcases Nat.eq_zero_or_pos ss.length with hz|hz
 ·obtain rfl:ss=[]:=List.eq_nil_of_length_eq_zero hz;obtain⟨g,hg⟩:∃g,g=w1.heap.size:=⟨_,rfl⟩;have hcells:AI .i64 (w1.alloc (.cells #[iI 4096] 3)) (some ⟨g,0,none⟩) 1 1 [4096]:=by
   refine⟨rfl,by omega,by unfold maxLen;omega,by decide,.inr ⟨g,0,rfl,λ i hi=> ?_⟩⟩;obtain rfl:i=0:=by omega
   rw[hg];exact cO (Ub w1 _) 0
  have hss0:∀z∈[(4096:Int)],0<=z:=by decide
  have hssp:∃z∈[(4096:Int)],0<z:=⟨4096,by simp,by decide⟩;have hlen:0<[(4096:Int)].length:=by decide
  have hscript:BI []=[4096]:=rfl;have X2:=X1.alloc (.cells #[iI 4096] 3);have HTY:=hid (show w.heap.size<=g by have:=X1.size;omega);clear R1 P1 O1 hp;go_upto_region 4 with fail;rw[<-hg] at*;generalize hW1:w1.alloc (.cells #[iI 4096] 3)=W1 at*;clear hW1 hg
  rename World=>w1
  obtain⟨hc,hgp⟩:(∀j,j<[4096].length->w1.cell? (dD g (0+j))=some (iI ([4096].getD j 0)))/\g<w1.heap.size:=by
   obtain⟨g',o',e1,hc⟩:=hcells.2.2.2.2.resolve_left (by omega);injection e1 with e1;injection e1 with e1 e2;subst e1 e2;exact⟨hc,Ug w1 _ (hc 0 hlen)⟩
  have hmin:0<=Lib.minOf ([4096].take 1):=EI _ (λ z hz=>hss0 z (List.mem_of_mem_take hz));have hmax:0<Lib.maxOf ([4096].take 1):=by
   obtain⟨z,hz1,hz2⟩:=hssp;exact Int.lt_of_lt_of_le hz2 (JD _ (by simpa using hz1))
  have HMin:=hid (D5 g 0 1 1 [4096] w1 hlen (Uf _) (by omega) hc);have HMax:=hid (D7 g 0 1 1 [4096] w1 hlen (Uf _) (by omega) hc);generalize Lib.minOf ([4096].take 1)=mn at*;generalize Lib.maxOf ([4096].take 1)=mx at*;have hm1:decide (mn<0)=false:=by simpa using hmin
  have hm2:(mx==0)=false:=by simp;omega
  have HCELLS:=hid hcells;have HS0:=hid hss0;clear hc hcells hss0 hssp h0 hw;go_upto_region 6 with(first|(go_at_call 39;refine HMin.o.mono ?_;rintro r w2 ⟨rfl,rfl⟩)|(go_at_call 40;refine HMax.o.mono ?_;rintro r w2 ⟨rfl,rfl⟩))
  rename World=>w2
  go_cut [2,3] (λ q2 q3 wx=>∃p ct cr,q2= pP p 0/\q3= iI 0/\wx.heap[p]?=oC #[sS g 0 1 1,iI 0,.chan (some ct),.chan (some cr),nN,iI 0] 123/\wx.heap[ct]?=some (.chan 64 #[] false 0 0 false)/\wx.heap[cr]?=some (.chan 64 #[] false 0 0 false)/\ct≠cr/\w2.heap.size<=p/\w2.heap.size<=ct/\w2.heap.size<=cr/\Ext w2 wx)
  case first=>
   rename_i J0 K0 hJ0 hK0;have hkT:=mkT;have hkR:=mkR;clear X1 X2 HC HMin HMax;go_region_with (fail)
   all_goals go_simp
   all_goals refine hK0 _ _ (Met.intro (hJ0 _ _ ?_))
   all_goals(repeat apply Exists.intro)
   all_goals refine⟨?_,rfl⟩
   all_goals clear hkT hkR
   all_goals first
    |exact⟨_,_,_,rfl,rfl,(AY w2 _ _ _).2.2.1,(AY w2 _ _ _).1,(AY w2 _ _ _).2.1,by omega,by omega,by omega,by omega,(AY w2 _ _ _).2.2.2.drew⟩
    |exact⟨_,_,_,rfl,rfl,(AY w2 _ _ _).2.2.1,(AY w2 _ _ _).2.1,(AY w2 _ _ _).1,by omega,by omega,by omega,by omega,(AY w2 _ _ _).2.2.2.drew⟩
  case rest=>
   obtain⟨p,ct,cr,rfl,rfl,e1,e2,e3,e4,e5,e6,e7,e8⟩:=hcut;go_wp2_with fail;go_ret2;have HTO:=HTY.o;refine⟨p,ct,cr,[p,ct,cr,g],rfl,?_,by simp;omega,X2.trans e8⟩;rw[hscript];exact⟨_,_,_,_,_,_,_,_,_,e1,e2,e3,e4,⟨HCELLS.o.ext e8,HS0.o,λ g' o' he=>by injection he with he;injection he with he1 he2;omega⟩,hlen,.inl ⟨rfl,rfl,rfl,rfl⟩,⟨by have:=lH e1;have:=lH e2;have:=lH e3;have:=e8.size;simp;omega,by simp,λ q hq=>by simp[Value.ownBlock] at hq;simp[hq],λ q hq=>by simp[Value.ownBlock] at hq,λ v hv=>by cases hv⟩⟩
 ·obtain⟨g,o,rfl,-⟩:=R1.2.2.2.2.resolve_left (by omega);have hd:((ss.length:Int)==0)=false:=by simp;intro h;simp[h] at hz
  have hcells:=R1;have hss0:=h0;have hssp:∃z∈ss,0<z:=hp.resolve_left (λ e=>by simp[e] at hz);have hlen:=hz;have hscript:BI ss=ss:=if_neg (λ e=>by simp[e] at hz);have X2:=X1;have HTY:=hid (show w.heap.size<=g from(O1.lt (by rfl)).1);clear R1 hp O1 P1;obtain⟨hc,hgp⟩:(∀j,j<ss.length->w1.cell? (dD g (o+j))=some (iI (ss.getD j 0)))/\g<w1.heap.size:=by
   obtain⟨g',o',e1,hc⟩:=hcells.2.2.2.2.resolve_left (by omega);injection e1 with e1;injection e1 with e1 e2;subst e1 e2;exact⟨hc,Ug w1 _ (hc 0 hlen)⟩
  have hmin:0<=Lib.minOf (ss.take ss.length):=EI _ (λ z hz=>hss0 z (List.mem_of_mem_take hz));have hmax:0<Lib.maxOf (ss.take ss.length):=by
   obtain⟨z,hz1,hz2⟩:=hssp;exact Int.lt_of_lt_of_le hz2 (JD _ (by simpa using hz1))
  have HMin:=hid (D5 g o ss.length c1 ss w1 hlen (Uf _) (by omega) hc);have HMax:=hid (D7 g o ss.length c1 ss w1 hlen (Uf _) (by omega) hc);generalize Lib.minOf (ss.take ss.length)=mn at*;generalize Lib.maxOf (ss.take ss.length)=mx at*;have hm1:decide (mn<0)=false:=by simpa using hmin
  have hm2:(mx==0)=false:=by simp;omega
  have HCELLS:=hid hcells;have HS0:=hid hss0;clear hc hcells hss0 hssp h0 hw;go_upto_region 6 with(first|(go_at_call 39;refine HMin.o.mono ?_;rintro r w2 ⟨rfl,rfl⟩)|(go_at_call 40;refine HMax.o.mono ?_;rintro r w2 ⟨rfl,rfl⟩))
  rename World=>w2
  go_cut [2,3] (λ q2 q3 wx=>∃p ct cr,q2= pP p 0/\q3= iI 0/\wx.heap[p]?=oC #[sS g o ss.length c1,iI 0,.chan (some ct),.chan (some cr),nN,iI 0] 123/\wx.heap[ct]?=some (.chan 64 #[] false 0 0 false)/\wx.heap[cr]?=some (.chan 64 #[] false 0 0 false)/\ct≠cr/\w2.heap.size<=p/\w2.heap.size<=ct/\w2.heap.size<=cr/\Ext w2 wx)
  case first=>
   rename_i J0 K0 hJ0 hK0;have hkT:=mkT;have hkR:=mkR;clear X1 X2 HC HMin HMax;go_region_with (fail)
   all_goals go_simp
   all_goals refine hK0 _ _ (Met.intro (hJ0 _ _ ?_))
   all_goals(repeat apply Exists.intro)
   all_goals refine⟨?_,rfl⟩
   all_goals clear hkT hkR
   all_goals first
    |exact⟨_,_,_,rfl,rfl,(AY w2 _ _ _).2.2.1,(AY w2 _ _ _).1,(AY w2 _ _ _).2.1,by omega,by omega,by omega,by omega,(AY w2 _ _ _).2.2.2.drew⟩
    |exact⟨_,_,_,rfl,rfl,(AY w2 _ _ _).2.2.1,(AY w2 _ _ _).2.1,(AY w2 _ _ _).1,by omega,by omega,by omega,by omega,(AY w2 _ _ _).2.2.2.drew⟩
  case rest=>
   obtain⟨p,ct,cr,rfl,rfl,e1,e2,e3,e4,e5,e6,e7,e8⟩:=hcut;go_wp2_with fail;go_ret2;have HTO:=HTY.o;refine⟨p,ct,cr,[p,ct,cr,g],rfl,?_,by simp;omega,X2.trans e8⟩;rw[hscript];exact⟨_,_,_,_,_,_,_,_,_,e1,e2,e3,e4,⟨HCELLS.o.ext e8,HS0.o,λ g' o' he=>by injection he with he;injection he with he1 he2;omega⟩,hlen,.inl ⟨rfl,rfl,rfl,rfl⟩,⟨by have:=lH e1;have:=lH e2;have:=lH e3;have:=e8.size;simp;omega,by simp,λ q hq=>by simp[Value.ownBlock] at hq;simp[hq],λ q hq=>by simp[Value.ownBlock] at hq,λ v hv=>by cases hv⟩⟩
theorem AN.push2 {x:Value} {y:List Int} (h:AN w base v yss) (hx:BU w base x y) (hb:base<=w.heap.size) (hl:yss.length<=1000000):
  ∃v' w',(Builtin.append_ #[71,71] 71 #[v,sS w.heap.size 0 1 1]).run prog (w.alloc (.cells #[x] 26))= .ok v' w'/\AN w' base v' (yss++[y])/\
   ∃S,Upd S w w'/\∀b∈S,base<=b/\∃cur,w.heap[b]?=oC cur 26:=by
 obtain⟨xs,h1,h2⟩:=h;have hlen:=h2.len;obtain⟨v',w',p1,p2,p3,_⟩:=h1.append1 (P:=prog) (t:=71) (ty:=71) (nN) 24 underlying71 FD rfl x hx.1.one (by unfold maxLen;omega) (by omega) hb;have far:∀x y,BU w base x y->BU w' base x y:=λ x1 y1 hxy=>by
  refine⟨?_,hxy.2⟩;refine⟨hxy.1.1,?_⟩;rcases hxy.1.2 with hn|⟨g,cap,cur,hv,hb,hg,rest⟩
  ·exact .inl hn
  ·refine .inr ⟨g,cap,cur,hv,hb,?_,rest⟩;have hga:=((Ext.refl w).alloc (.cells #[x] 26)).heap hg;refine Br p3 hga (λ e=> ?_);exact hxy.1.apart h1 (by decide) (g:=g) (by rw[hv];rfl) e.symm
 refine⟨v',w',p1,⟨xs++[x],p2,(h2.mono far).snoc (far _ _ hx)⟩,v.ownBlock.toList,?_,λ b hb=> ?_⟩
 ·have u1:Upd v.ownBlock.toList w (w.alloc (.cells #[x] 26)):=((Ext.refl w).alloc _).upd _;exact u1.trans ⟨p3.os,p3.tape,p3.output,p3.size,λ k hk hs=>p3.block k hk (λ e=>hs (by rw[<-e];simp))⟩
 ·have hb':v.ownBlock=some b:=by simpa using hb
  exact⟨(h1.lt hb').1,h1.ty b hb'⟩
theorem AN.upd (h:AN w base v yss) (hx:Upd S w w') (hs:∀b∈S,b<base):AN w' base v yss:=by
 obtain⟨xs,h1,h2⟩:=h;have:∀{e v xs},AA w base e v xs->AA w' base e v xs:=λ h=>h.upd hx λ g hg hm=>by have:=(h.lt hg).1;have:=hs g hm;omega
 exact⟨xs,this h1,h2.mono λ x y h=>⟨this h.1,h.2⟩⟩
theorem Sl.upd2 (h:Sl w v zs) (hx:Upd S w w') (hs:∀g,v.ownBlock=some g->g∉S):Sl w' v zs:=by
 obtain⟨a,c,rfl,⟨h1,h2,h3,h4,h5⟩,h6⟩:=h;refine⟨a,c,rfl,⟨h1,h2,h3,h4,?_⟩,h6⟩;rcases h5 with h5|⟨g,o,rfl,hc⟩
 ·exact .inl h5
 ·exact .inr ⟨g,o,rfl,λ i hi=>hx.cell (hc i hi) (hs g rfl)⟩
theorem PW.upd (h:PW w p ct cr ss k zs F) (hx:Upd S w w') (hs:∀b∈F,b∉S):PW w' p ct cr ss k zs F:=by
 obtain⟨sa,sc,bufT,bufR,fv,s1,r1,s2,r2,hb,hct,hcr,hne,hscr,hk,hleft,hty⟩:=h;obtain⟨i1,i2,i3⟩:=hty.2.1;refine⟨sa,sc,bufT,bufR,fv,s1,r1,s2,r2,hx.heap hb (hs _ i1),hx.heap hct (hs _ i2),hx.heap hcr (hs _ i3),hne,hscr.upd hx (λ g o e _=>hs _ (hty.2.2.1 g (by rw[e];rfl))),hk,?_,hty.same hx.size⟩;rcases hleft with h|⟨h0,x,hx1,⟨tv,e,hS,hf⟩|⟨e,hS⟩⟩
 ·exact .inl h
 ·exact .inr ⟨h0,x,hx1,.inl ⟨tv,e,hS.upd2 hx λ g hg=>hs _ (hty.2.2.2.2 tv (by rw[e];simp) g hg),hf⟩⟩
 ·exact .inr ⟨h0,x,hx1,.inr ⟨e,hS.upd2 hx λ g hg=>hs _ (hty.2.2.2.1 g hg)⟩⟩
theorem PW.flt (h:PW w p ct cr ss k zs F):(∀b∈F,b<w.heap.size)/\p∈F/\ct∈F/\cr∈F:=by
 obtain⟨sa,sc,bufT,bufR,fv,s1,r1,s2,r2,hb,hct,hcr,hne,hscr,hk,hleft,hty⟩:=h;exact⟨hty.1,hty.2.1⟩
theorem PW.lt (h:PW w p ct cr ss k zs F):p<w.heap.size/\ct<w.heap.size/\cr<w.heap.size:=by
 obtain⟨sa,sc,bufT,bufR,fv,s1,r1,s2,r2,hb,hct,hcr,_⟩:=h;exact⟨lH hb,lH hct,lH hcr⟩
def CK (ss:List Int):Nat->Nat->Nat
 |0,_=>0
 |f+1,k=>if 0<ss.getD k 0 then 0 else 1+CK ss f ((k+1)%ss.length)
theorem Fx (ss:List Int):∀f k,CK ss f k<=f
 |0,_=>Uf _
 |f+1,k=>by unfold CK;split;omega;have:=Fx ss f ((k+1)%ss.length);omega
theorem Fw (ss:List Int):∀f k d,k<ss.length->d<f->0<ss.getD ((k+d)%ss.length) 0->CK ss (f+1) k=CK ss f k
 |0,_,_,_,h,_=>by omega
 |f+1,k,d,hk,hd,hp=>by
  have e:∀f k,CK ss (f+1) k=if 0<ss.getD k 0 then 0 else 1+CK ss f ((k+1)%ss.length):=λ _ _=>rfl
  rw[e (f+1) k,e f k]
  split
  ·rfl
  ·rename_i hn;rcases d with _|d
   ·rw[Nat.add_zero,Nat.mod_eq_of_lt hk] at hp;exact absurd hp hn
   ·rw[Fw ss f ((k+1)%ss.length) d (Nat.mod_lt _ (by omega)) (by omega) (by rw[Nat.mod_add_mod,show k+1+d=k+(d+1) by omega];exact hp)]
def DD (ss:List Int) (k:Nat) (zs:List Int):Nat:=zs.length*(ss.length+1)+CK ss ss.length k
theorem Dr (hk:k<ss.length) (hp:∃s∈ss,0<s) (hz:0<zs.length):DD ss ((k+1)%ss.length) (zs.drop (pm ss k zs))<DD ss k zs:=by
 unfold DD;by_cases h0:0<ss.getD k 0
 ·have hm:0<pm ss k zs:=by unfold pm;omega
  have hm2:pm ss k zs<=zs.length:=Nat.min_le_right _ _;have h1:=Fx ss ss.length ((k+1)%ss.length);rw[List.length_drop];have h2:(zs.length-pm ss k zs)*(ss.length+1)+(ss.length+1)<=zs.length*(ss.length+1):=by
   rw[<-Nat.succ_mul];exact Nat.mul_le_mul_right _ (by omega)
  omega
 ·have hm:pm ss k zs=0:=by unfold pm;omega
  rw[hm,List.drop_zero];obtain⟨s,hs,hs0⟩:=hp;obtain⟨i,hi,rfl⟩:=List.mem_iff_getElem.1 hs;obtain⟨L,hL⟩:∃L,ss.length=L+1:=⟨ss.length-1,by omega⟩;have e1:CK ss ss.length k=1+CK ss L ((k+1)%ss.length):=by rw[hL,CK,if_neg h0,<-hL]
  have hik:i≠k:=λ e=>h0 (by subst e;simpa [List.getD,Ud hi] using hs0)
  have e2:CK ss ss.length ((k+1)%ss.length)=CK ss L ((k+1)%ss.length):=by
   have q:=Fw ss L ((k+1)%ss.length) ((i+ss.length-k-1)%ss.length) (Nat.mod_lt _ (by omega)) ?_ ?_
   ·rwa [<-hL] at q
   ·rcases Nat.lt_or_ge i k with h|h
    ·rw[Nat.mod_eq_of_lt (by omega)];omega
    ·rw[show i+ss.length-k-1=(i-k-1)+ss.length by omega,Nat.add_mod_right,Nat.mod_eq_of_lt (by omega)];omega
   ·rw[<-Nat.add_mod,show k+1+(i+ss.length-k-1)=i+ss.length by omega,Nat.add_mod_right,Nat.mod_eq_of_lt hi];simpa [List.getD,Ud hi] using hs0
  omega
theorem PW.wf (h:PW w p ct cr ss k zs F):∀z∈zs,(Lit.int .u8 z).wf=true:=by
 obtain⟨sa,sc,bufT,bufR,fv,s1,r1,s2,r2,hb,hct,hcr,hne,hscr,hk,hleft,hty⟩:=h;rcases hleft with⟨rfl,_⟩|⟨h0,x,hx1,⟨tv,e,hS,hf⟩|⟨e,hS⟩⟩
 ·simp
 ·exact hS.wf
 ·exact hS.wf
theorem PW.klt (h:PW w p ct cr ss k zs F):k<ss.length:=by
 obtain⟨sa,sc,bufT,bufR,fv,s1,r1,s2,r2,hb,hct,hcr,hne,hscr,hk,hleft,hty⟩:=h;exact hk
def slen:Value->Nat
 | .slice _ n _=>n
 |_=>0
theorem AN.slen (h:AN w base v yss):slen v=yss.length:=by
 obtain⟨a,c,rfl,_⟩:=h.rows;rfl
def Pu (w wr:World) (p ct cr:Nat) (ss:List Int) (zs:List Int) (F:List Nat) (M:Nat) (v3 v4 v5:Value):Prop:=
 ∃yss k' zs',AN wr w.heap.size v3 yss/\PW wr p ct cr ss k' zs' F/\Upd [p,ct,cr] w wr/\yss.length<=M/\
  ((v5= .bool true/\∃y,BU wr w.heap.size v4 y/\yss.flatten++(y++zs')=zs/\yss.length+DD ss k' zs'+1<=M)\/(v5= .bool false/\zs'=[]/\yss.flatten=zs))
theorem TS (h:PW w p ct cr ss k zs F) (hl:zs.length<=5000) (hL:ss.length<=100) (hpos:∃s∈ss,0<s):
  Calls prog 89 #[pP p 0] w λ r w'=>∃v yss k',r= .returned v/\AN w' w.heap.size v yss/\yss.flatten=zs/\PW w' p ct cr ss k' [] F/\Upd [p,ct,cr] w w':=by
 have hlt:=h.lt;have hF0:=h.flt.1;obtain⟨M,hM⟩:∃M,M=DD ss k zs:=⟨_,rfl⟩;have hM2:M<=600000:=by
  have h1:=Fx ss ss.length k;have h2:zs.length*(ss.length+1)<=5000*101:=Nat.mul_le_mul hl (by omega);rw[hM];unfold DD;omega
 have nx:∀(k':Nat) (zs':List Int) (wr:World) (v3:Value) (yss:List (List Int)),PW wr p ct cr ss k' zs' F->Upd [p,ct,cr] w wr->AN wr w.heap.size v3 yss->yss.flatten++zs'=zs->yss.length+DD ss k' zs'<=M->zs'.length<=5000->
   Calls prog 61 #[pP p 0] wr λ r w'=>∃v4 v5,r= .returned (.tuple #[v4,.bool v5])/\Pu w w' p ct cr ss zs F M v3 v4 (.bool v5):=by
  intro k' zs' wr v3 yss hP hU hO hf hm hl';rcases Nat.eq_zero_or_pos zs'.length with hz|hz
  ·obtain rfl:zs'=[]:=List.eq_nil_of_length_eq_zero hz;refine(Ny hP).mono ?_;rintro r w' ⟨rfl,rfl⟩;exact⟨_,_,rfl,yss,k',[],hO,hP,hU,by omega,.inr ⟨rfl,rfl,by simpa using hf⟩⟩
  ·have hdec:=Dr hP.klt hpos hz;have hwf:=hP.wf;have hsz:=hU.size;refine(Nz hP hz (by omega) (by omega)).mono ?_;rintro r w' ⟨v,rfl,hO2,hP2,hU2⟩;refine⟨_,_,rfl,yss,_,_,hO.upd hU2 (λ b hb=> ?_),hP2,hU.trans hU2,by omega,.inl ⟨rfl,_,⟨hO2.low hsz,λ z hz=>hwf z (List.mem_of_mem_take hz)⟩,by rw[List.take_append_drop];exact hf,by omega⟩⟩;simp only[Um,List.not_mem_nil,or_false] at hb;rcases hb with rfl|rfl|rfl<;>omega
 have NX:=hid nx;have HP:=hid h;clear nx h;go_in;go_wp2_with (go_at_call 61;refine(NX.o k zs w _ [] HP.o (Upd.refl _ _) (AN.nil _ _) (by simp) (by simp[hM]) hl).mono ?_;rintro r w1 ⟨b1,ok1,rfl,I1⟩);go_loopw [3,4,5] (λ v3 v4 v5 wr=>∃ok,v5= .bool ok/\Pu w wr p ct cr ss zs F M v3 v4 v5) (λ v3 _ _ _=>M+1-slen v3)
 case atStart=>exact⟨_,rfl,I1⟩
 case round=>
  obtain⟨ok,rfl,yss,k',zs',hO,hP,hU,hle,hI⟩:=hrel;rcases hI with⟨e,y,hy,hfl,hm⟩|⟨e,rfl,hfl⟩
  ·obtain rfl:ok=true:=by simpa using e
   obtain⟨a4,c4,rfl,-⟩:=hy.1.row2 hy.2;obtain⟨a3,c3,rfl,-⟩:=hO.rows;obtain⟨v2,w2,p1,p2,S,u1,hs⟩:=hO.push2 hy hU.size (by omega);have hnS:∀b,b<w.heap.size->b∉S:=λ b hb hm=>by have:=(hs b hm).1;omega
   have hP2:=hP.upd u1 (λ b hb hm=>by have:=hF0 b hb;have:=(hs b hm).1;omega);have hU2:Upd [p,ct,cr] w w2:=⟨u1.os.trans hU.os,u1.tape.trans hU.tape,u1.output.trans hU.output,Nat.le_trans hU.size u1.size,λ i hi hq=>(u1.block i (Nat.lt_of_lt_of_le hi hU.size) (hnS i hi)).trans (hU.block i hi hq)⟩;have hlen:=congrArg List.length hfl;simp only[Uc] at hlen;have HN:=hid (NX.o k' zs' w2 v2 (yss++[y]) hP2 hU2 p2 (by simpa using hfl) (by rw[Uc,List.length_singleton];omega) (by omega));have hsl:=p2.slen;have hsl0:=hO.slen;rw[Uc,List.length_singleton] at hsl;have P1:=hid p1;clear p1 p2 u1 hs hnS hP2 hU2 hP hU hO hy hfl hlen NX HP e;go_wp2_with (first|(at_builtin;refine jA rfl (.tmp 17) (.tmp 19) _ rfl _ _ _ rfl rfl P1.o ?_)|(go_at_call 61;refine HN.o.mono ?_;rintro r w3 ⟨b2,ok2,rfl,I2⟩));exact⟨⟨ok2,rfl,I2⟩,by omega⟩
  ·obtain rfl:ok=false:=by simpa using e
   clear NX HP;go_wp2_with fail;go_ret;exact⟨_,yss,k',rfl,hO,hfl,hP,hU⟩
end Go.Proofs.YtdakioiagpkfhaaGreatDoor
