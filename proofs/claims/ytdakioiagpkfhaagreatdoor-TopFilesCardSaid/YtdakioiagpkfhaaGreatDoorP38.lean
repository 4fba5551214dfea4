import Derived.Test.YtdakioiagpkfhaaGreatDoorP37
import Derived.Test.YtdakioiagpkfhaaGreatDoorP32
set_option maxRecDepth 99999
set_option maxHeartbeats 0
set_option linter.all false
namespace Go.Proofs.YtdakioiagpkfhaaGreatDoor
open RowKit Conc
open Go.Proofs.Tryz
variable {B y:Value} {all ds zs:List Int} {c m x:Int} {da qa:Option Addr} {dc dn i j qc qn rb:Nat} {q:QI} {s:ByteArray} {t:TV} {w:World}
def TQ (tb:Nat) (q:List (QV×Value×Value)) (m:Int) (w:World):Prop:=
 (q.length<=8/\∀x∈q,x.2.1.oneCell'=true/\x.2.2.oneCell'=true)/\∃cs,w.heap[tb]?=oC cs 118/\cs.size=114/\cs[112]?=some (iI q.length)/\cs[113]?=some (iI m)/\∀j (h:j<q.length) i v,(q[j].1.cells q[j].2.1 q[j].2.2)[i]?=some v->cs[j*14+i]?=some v
section
variable {tb:Nat} {q:List (QV×Value×Value)} {m:Int} {w w':World}
theorem TQ.num (h:TQ tb q m w):w.cell? (dD tb 112)=some (iI q.length)/\w.cell? (dD tb 113)=some (iI m)/\∀o,w.frozen? (dD tb o)=false:=by
 obtain⟨-,cs,hb,-,h1,h2,-⟩:=h;exact⟨(cO hb 112).trans h1,(cO hb 113).trans h2,fO hb⟩
theorem TQ.lt (h:TQ tb q m w):tb<w.heap.size:=by obtain⟨-,cs,hb,-⟩:=h;exact lH hb
theorem TQ.row (h:TQ tb q m w) (hj:j<q.length):w.rangeAt tb (j*14) (q[j].1.cells q[j].2.1 q[j].2.2).toList:=by
 obtain⟨-,cs,hb,-,-,-,h3⟩:=h;intro i v hv;rw[cO hb];exact h3 j hj i v (by simpa using hv)
theorem TQ.there (h:TQ tb q m w) (hj:j<8):w.there tb (j*14) 14:=by
 obtain⟨-,cs,hb,hs,-⟩:=h;intro i hi;rw[cO hb];exact⟨by rw[Array.getElem?_eq_getElem (by omega)];rfl,fO hb _⟩
theorem TQ.upd (h:TQ tb q m w) {S:List Nat} (hu:Upd S w w') (hs:tb∉S):TQ tb q m w':=by
 obtain⟨h0,cs,hb,h1⟩:=h;exact⟨h0,cs,hu.heap hb hs,h1⟩
theorem TQ.ext (h:TQ tb q m w) (hx:Ext w w'):TQ tb q m w':=h.upd (hx.upd []) (by simp)
theorem TQ.tag (h:TQ tb q m w) (hj:j<q.length):w.cell? (dD tb (j*14+1))=some (iI (q[j].1.tag)):=h.row hj 1 _ rfl
end
theorem Cf (g:Nat) (t:TypeId):∀(vs:List Value) (o:Nat) (w:World) (cs:Array Value),w.heap[g]?=oC cs t->
  ∃cs',(w.setCells g o vs).heap[g]?=oC cs' t/\cs'.size=cs.size/\∀k,cs'[k]?=if o<=k/\k<o+vs.length/\k<cs.size then vs[k-o]? else cs[k]?
 |[],o,w,cs,h=>⟨cs,h,rfl,λ k=>by rw[if_neg (by simp;omega)]⟩
 |v::vs,o,w,cs,h=>by
  obtain⟨cs',h1,h2,h3⟩:=Cf g t vs (o+1) (w.setCell (dD g o) v) _ (jP (i:=o) v h);refine⟨cs',h1,by simpa using h2,λ k=> ?_⟩;rw[h3 k];simp only[Array.size_setIfInBounds,Un];by_cases e:o=k
  ·subst e;by_cases hs:o<cs.size
   ·rw[if_neg (by omega),if_pos (by omega),Nat.sub_self,Array.getElem?_setIfInBounds_self_of_lt hs];rfl
   ·rw[if_neg (by omega),if_neg (by omega),Array.getElem?_eq_none (by simp;omega),Array.getElem?_eq_none (by omega)]
  ·rw[Array.getElem?_setIfInBounds_ne e];by_cases hk:o+1<=k/\k<o+1+vs.length/\k<cs.size
   ·rw[if_pos hk,if_pos (by omega),show k-o=(k-(o+1))+1 by omega,List.getElem?_cons_succ]
   ·rw[if_neg hk,if_neg (by omega)]
theorem Cs (g:Nat):∀(vs:List Value) (o:Nat) (w:World),Upd [g] w (w.setCells g o vs)
 |[],_,w=>Upd.refl _ _
 |_::vs,o,w=>((Upd.refl [g] w).setCell _ _ (.inl (by simp))).trans (Cs g vs (o+1) _)
theorem QV.cells_one (a:QV) {x:Value} (hx:x.oneCell'=true) (hy:y.oneCell'=true):∀v∈(a.cells x y).toList,v.oneCell'=true:=by
 simp[QV.cells,hx,hy];exact⟨rfl,rfl,rfl,rfl,rfl,rfl,rfl,rfl,rfl,rfl,rfl,rfl⟩
theorem QV.cells_get (a:QV) (x y:Value) (h:14<=i):(a.cells x y)[i]?=none:=Array.getElem?_eq_none (by simp[QV.cells];omega)
theorem heapD (V:World):V.drew.heap=V.heap:=rfl
theorem TQ.put {tb:Nat} {q:List (QV×Value×Value)} (h:TQ tb q m w) (hq:q.length<8) (a:QV) {x:Value} (hx:x.oneCell'=true) (hy:y.oneCell'=true) {W:World} (hW:W=(w.setCells tb (q.length*14) (a.cells x y).toList).drew):
  TQ tb q m W/\TQ tb (q++[(a,x,y)]) m (W.setCell (dD tb 112) (iI (q.length+1))):=by
 obtain⟨⟨h0,h0'⟩,cs,hb,hs,h1,h2,h3⟩:=h;obtain⟨cs',g1,g2,g3⟩:=Cf tb _ (a.cells x y).toList (q.length*14) w cs hb;have hl:(a.cells x y).toList.length=14:=rfl;rw[hl] at g3
 replace g1:W.heap[tb]?=oC cs' 118:=by rw[hW,heapD];exact g1
 have hrow:∀j (hj:j<q.length) i v,(q[j].1.cells q[j].2.1 q[j].2.2)[i]?=some v->cs'[j*14+i]?=some v:=λ j hj i v hv=>by
  have hi:i<14:=by
   refine Nat.lt_of_not_le (λ hi=> ?_);rw[QV.cells_get _ _ _ hi] at hv;cases hv
  rw[g3,if_neg (by omega)];exact h3 j hj i v hv
 refine⟨⟨⟨h0,h0'⟩,cs',g1,by omega,by rw[g3,if_neg (by omega)];exact h1,by rw[g3,if_neg (by omega)];exact h2,hrow⟩,⟨by simp;omega,λ z hz=> ?_⟩,_,jP (i:=112) _ g1,by simp;omega,?_,?_,λ j hj i v hv=> ?_⟩
 ·rcases List.mem_append.1 hz with k|k
  ·exact h0' z k
  ·simp at k;subst k;exact⟨hx,hy⟩
 ·rw[Array.getElem?_setIfInBounds_self_of_lt (by omega)];simp
 ·rw[Array.getElem?_setIfInBounds_ne (by decide),g3,if_neg (by omega)];exact h2
 ·have hi:i<14:=by
   refine Nat.lt_of_not_le (λ hi=> ?_);rw[QV.cells_get _ _ _ hi] at hv;cases hv
  rw[Uc,List.length_singleton] at hj;rw[Array.getElem?_setIfInBounds_ne (by omega)];by_cases e:j<q.length
  ·rw[List.getElem_append_left e] at hv;exact hrow j e i v hv
  ·obtain rfl:j=q.length:=by omega
   rw[List.getElem_append_right (Uf _)] at hv;simp only[Nat.sub_self,List.getElem_cons_zero] at hv;rw[g3,if_pos (by omega),show q.length*14+i-q.length*14=i by omega];simpa using hv
theorem TQ.over {tb:Nat} {q:List (QV×Value×Value)} (h:TQ tb q m w) (hq:q.length<8) (vs:List Value) (hv:vs.length=14):TQ tb q m (w.setCells tb (q.length*14) vs):=by
 obtain⟨⟨h0,h0'⟩,cs,hb,hs,h1,h2,h3⟩:=h;obtain⟨cs',g1,g2,g3⟩:=Cf tb _ vs (q.length*14) w cs hb;rw[hv] at g3;refine⟨⟨h0,h0'⟩,cs',g1,by omega,by rw[g3,if_neg (by omega)];exact h1,by rw[g3,if_neg (by omega)];exact h2,λ j hj i v hv=> ?_⟩;have hi:i<14:=by
  refine Nat.lt_of_not_le (λ hi=> ?_);rw[QV.cells_get _ _ _ hi] at hv;cases hv
 rw[g3,if_neg (by omega)];exact h3 j hj i v hv
theorem MT {tb:Nat} {q:List (QV×Value×Value)} (h:TQ tb q m w) {tag:Int} (ht:∀x∈q,x.1.tag≠tag):
  Calls prog 154 #[pP tb 0,iI tag] w λ r w'=>r= .returned (iI (-1))/\w=w':=by
 have hq:=h.1.1;obtain⟨t0,-,-⟩:=h.num;have HT:=hid (show∀j,j<q.length->∃x:Int,w.cell? (dD tb (j*14+1))=some (iI x)/\x≠tag from λ j hj=>⟨_,h.tag hj,ht _ (List.getElem_mem hj)⟩);obtain⟨n,hn⟩:∃n,n=q.length:=⟨_,rfl⟩;rw[<-hn] at t0 hq HT;clear h ht hn;go_in;go_wp2_with fail;go_loop [10] (λ v=>∃i:Nat,i<=n/\v= iI i) (λ v=>n-(intOf v).toNat)
 case atStart=>exact⟨0,by omega,rfl⟩
 case round=>
  obtain⟨i,hi,rfl⟩:=hrel;by_cases hlt:i<n
  ·have d1:decide ((i:Int)<(n:Int))=true:=by simp;omega
   have b0:(0:Int)<=(i:Int):=by omega
   have b1:(i:Int)<8:=by omega
   obtain⟨x,c,hne⟩:=HT.o i hlt;have d2:(x==tag)=false:=by simpa using hne
   go_wp2_with fail;go_round
   case rel=>exact⟨i+1,by omega,by go_num⟩
   case measure=>simp[intOf];omega
  ·have d1:decide ((i:Int)<(n:Int))=false:=by simp;omega
   obtain rfl:i=n:=by omega
   go_wp2_with fail;go_ret;exact⟨rfl,rfl⟩
theorem VK {tb:Nat} {q:List (QV×Value×Value)} (h:TQ tb q m w) {tag:Int} (ht:∀x∈q,x.1.tag≠tag) (hm:(q.length:Int)<m):
  Calls prog 155 #[pP tb 0,iI tag] w λ r w'=>r= .returned .nilIface/\Ext w w':=by
 have H:=hid (MT h ht);obtain⟨t0,t1,-⟩:=h.num;obtain⟨n,hn⟩:∃n,n=q.length:=⟨_,rfl⟩;rw[<-hn] at t0 hm;have d1:decide ((n:Int)≥m)=false:=by simp;omega
 clear h ht hn;go_in;go_wp2_with fail;refine H.o.mono ?_;rintro r w1 ⟨rfl,rfl⟩;go_wp2_with fail;go_region;go_wp2_with fail;go_ret;exact⟨rfl,(Ext.refl w).drew⟩
theorem UA (h:RR rb B all zs w) (hB:∀g,B.ownBlock=some g->g<w.heap.size):
  Calls prog 27 #[pP rb 0,t.val (.slice qa qn qc) (.slice da dn dc),.int .u8 45] w λ r w'=>r= .returned (t.val (.slice qa qn qc) (.slice da dn dc))/\RR rb B all zs w'/\Upd [rb] w w':=by
 obtain⟨W0,hW0⟩:∃W,W=((w.alloc (.cells (tT t.typ t.tag t.code t.iounit t.count t.q.dir t.q.ver t.q.path (.slice qa qn qc) (.slice da dn dc)) 39)).alloc (.cells tZ 39)):=⟨_,rfl⟩;obtain⟨hA0,hT0,X0⟩:=AH w (.cells (tT t.typ t.tag t.code t.iounit t.count t.q.dir t.q.ver t.q.path (.slice qa qn qc) (.slice da dn dc)) 39) (.cells tZ 39);rw[<-hW0] at hA0 hT0 X0;have hrl:rb<w.heap.size:=by obtain⟨x,i,hb⟩:=h.at;exact lH hb
 have h2:=h.ext X0;have HX0:=hid X0;have HBl:=hid hB;have HA0:=hid hA0;have HT0:=hid hT0;have HW:=hid hW0;dsimp only[TV.val];have HR:=hid h2;clear h h2 hA0 hT0 X0 hW0;go_in;go_upto_region 29 with(rw[<-HW.o]);refine wp_region_lit ?_;refine AJ rfl _ _ rfl w.heap.size (tT t.typ t.tag t.code t.iounit t.count t.q.dir t.q.ver t.q.path (.slice qa qn qc) (.slice da dn dc)) rfl 39 HA0.o _ underlying39 rfl iT ?_;refine AT rfl _ _ _ rfl (w.heap.size+1) (tT t.typ t.tag t.code t.iounit t.count t.q.dir t.q.ver t.q.path (.slice qa qn qc) (.slice da dn dc)) rfl rfl 39 _ HT0.o iT rfl (by simp[Value.oneCell']) ?_;intro W hRw hU;refine wpList_nil ?_;go_wp2_with fail;exact Ue (Uj rfl _ _ (w.heap.size+1) 39 (tT t.typ t.tag t.code t.iounit t.count t.q.dir t.q.ver t.q.path (.slice qa qn qc) (.slice da dn dc)) (0,0) _ rfl hRw underlying39 rfl iT) rfl ⟨rfl,HR.o.upd hU (by simp;omega) (λ g hg hm=>by have:=HBl.o g hg;simp at hm;omega),(HX0.o.upd _).trans2 hU (λ b hb=>by simp at hb;omega)⟩
theorem Ut {m:Nat} {C I K:Int} (hc:(c=101/\m=2/\C=x/\I=t.iounit/\K=t.count)\/(c=105/\m=4/\C=t.code/\I=x/\K=t.count)\/(c=99/\m=4/\C=t.code/\I=t.iounit/\K=x)) (h:RR rb B all (leN x m++zs) w) (hx0:0<=x) (hx1:x<256^m) (hB:∀g,B.ownBlock=some g->g<w.heap.size):
  Calls prog 27 #[pP rb 0,t.val (.slice qa qn qc) (.slice da dn dc),.int .u8 c] w λ r w'=>r= .returned ((⟨t.typ,t.tag,C,I,K,t.q⟩:TV).val (.slice qa qn qc) (.slice da dn dc))/\RR rb B all zs w'/\Upd [rb] w w':=by
 obtain⟨W0,hW0⟩:∃W,W=((w.alloc (.cells (tT t.typ t.tag t.code t.iounit t.count t.q.dir t.q.ver t.q.path (.slice qa qn qc) (.slice da dn dc)) 39)).alloc (.cells tZ 39)):=⟨_,rfl⟩;obtain⟨hA0,hT0,X0⟩:=AH w (.cells (tT t.typ t.tag t.code t.iounit t.count t.q.dir t.q.ver t.q.path (.slice qa qn qc) (.slice da dn dc)) 39) (.cells tZ 39);rw[<-hW0] at hA0 hT0 X0;have hz0:w.heap.size+2<=W0.heap.size:=by rw[hW0];simp
 have hrl:rb<w.heap.size:=by obtain⟨x,i,hb⟩:=h.at;exact lH hb
 have h2:=h.ext X0;have HX0:=hid X0;have HBl:=hid hB;have HA0:=hid hA0;have HT0:=hid hT0;have HW:=hid hW0;rcases hc with⟨rfl,rfl,c1,c2,c3⟩|⟨rfl,rfl,c1,c2,c3⟩|⟨rfl,rfl,c1,c2,c3⟩
 all_goals
  have HQ:=hid (And.intro c1 (And.intro c2 c3));clear c1 c2 c3;simp only[Nat.reducePow,Int.reducePow] at hx1;dsimp only[TV.val];have HN:=hid (CU h2 (by omega) hx0 hx1);have e1:IntKind.i64.wrap x=x:=Uh _ (by omega);clear h h2 hA0 hT0 X0 hW0;go_in;go_wp2_with (rw[<-HW.o]);refine HN.o.mono ?_;rintro r w1 ⟨rfl,hR,hU⟩;have HA1:=hid (hU.heap HA0.o (by simp;omega));have HT1:=hid (hU.heap HT0.o (by simp;omega));obtain⟨b0,b1,b2,b3,b4,b5,b6,b7,b8,b9,b10,b11,b12,b13,b14,b15,b16,b17,rf⟩:=A8 HA1.o;have hbl:=lH HA1.o;have HR1:=hid hR;have HU1:=hid hU;clear hR hU HN;go_upto_region 29 with fail
  first
   |(obtain⟨W5,hW5⟩:∃W,W=(w1.setCell (dD w.heap.size 2) (iI x)):=⟨_,rfl⟩
     rw[<-hW5])
   |(obtain⟨W5,hW5⟩:∃W,W=(w1.setCell (dD w.heap.size 4) (iI x)):=⟨_,rfl⟩
     rw[<-hW5])
   |(obtain⟨W5,hW5⟩:∃W,W=(w1.setCell (dD w.heap.size 5) (iI x)):=⟨_,rfl⟩
     rw[<-hW5])
  have HA5:=hid (show W5.heap[w.heap.size]?=oC (tT t.typ t.tag C I K t.q.dir t.q.ver t.q.path (.slice qa qn qc) (.slice da dn dc)) 39 by obtain⟨q1,q2,q3⟩:=HQ.o;rw[hW5,q1,q2,q3];exact(jP (i:=_) _ HA1.o));have HU5:=hid (show Upd [w.heap.size] w1 W5 by rw[hW5];exact((Upd.refl _ _).setCell _ _ (.inl (by simp))));have HT5:=hid (HU5.o.heap HT1.o (by simp));clear hW5 b0 b1 b2 b3 b4 b5 b6 b7 b8 b9 b10 b11 b12 b13 b14 b15 b16 b17 rf;refine wp_region_lit ?_;refine AJ rfl _ _ rfl w.heap.size (tT t.typ t.tag C I K t.q.dir t.q.ver t.q.path (.slice qa qn qc) (.slice da dn dc)) rfl 39 HA5.o _ underlying39 rfl iT ?_;refine AT rfl _ _ _ rfl (w.heap.size+1) (tT t.typ t.tag C I K t.q.dir t.q.ver t.q.path (.slice qa qn qc) (.slice da dn dc)) rfl rfl 39 _ HT5.o iT rfl (by simp[Value.oneCell']) ?_;intro W hRw hU;refine wpList_nil ?_;go_wp2_with fail;exact Ue (Uj rfl _ _ (w.heap.size+1) 39 (tT t.typ t.tag C I K t.q.dir t.q.ver t.q.path (.slice qa qn qc) (.slice da dn dc)) (0,0) _ rfl hRw underlying39 rfl iT) rfl ⟨rfl,(HR1.o.upd HU5.o (by simp;omega) (λ g hg hm=>by have:=HBl.o g hg;simp at hm;omega)).upd hU (by simp;omega) (λ g hg hm=>by have:=HBl.o g hg;simp at hm;omega),(((HX0.o.upd _).trans HU1.o).trans2 HU5.o (λ b hb=>by simp at hb;omega)).trans2 hU (λ b hb=>by simp at hb;omega)⟩
section
variable {rb:Nat} {B:Value} {all zs:List Int} {w:World} {t:TV} {qa da:Option Addr} {qn qc dn dc:Nat} {x:Int}
theorem T7 (h:RR rb B all (leN x 2++zs) w) (hx0:0<=x) (hx1:x<65536) (hB:∀g,B.ownBlock=some g->g<w.heap.size):
  Calls prog 27 #[pP rb 0,t.val (.slice qa qn qc) (.slice da dn dc),.int .u8 101] w λ r w'=>r= .returned (({t with code:=x}:TV).val (.slice qa qn qc) (.slice da dn dc))/\RR rb B all zs w'/\Upd [rb] w w':=Ut (.inl ⟨rfl,rfl,rfl,rfl,rfl⟩) h hx0 hx1 hB
theorem VR (h:RR rb B all (leN x 4++zs) w) (hx0:0<=x) (hx1:x<4294967296) (hB:∀g,B.ownBlock=some g->g<w.heap.size):
  Calls prog 27 #[pP rb 0,t.val (.slice qa qn qc) (.slice da dn dc),.int .u8 105] w λ r w'=>r= .returned (({t with iounit:=x}:TV).val (.slice qa qn qc) (.slice da dn dc))/\RR rb B all zs w'/\Upd [rb] w w':=Ut (.inr (.inl ⟨rfl,rfl,rfl,rfl,rfl⟩)) h hx0 hx1 hB
theorem T9 (h:RR rb B all (leN x 4++zs) w) (hx0:0<=x) (hx1:x<4294967296) (hB:∀g,B.ownBlock=some g->g<w.heap.size):
  Calls prog 27 #[pP rb 0,t.val (.slice qa qn qc) (.slice da dn dc),.int .u8 99] w λ r w'=>r= .returned (({t with count:=x}:TV).val (.slice qa qn qc) (.slice da dn dc))/\RR rb B all zs w'/\Upd [rb] w w':=Ut (.inr (.inr ⟨rfl,rfl,rfl,rfl,rfl⟩)) h hx0 hx1 hB
end
theorem Kc (h:RR rb B all (q.b++zs) w) (ok:q.Ok) (hB:∀g,B.ownBlock=some g->g<w.heap.size):
  Calls prog 27 #[pP rb 0,t.val (.slice qa qn qc) (.slice da dn dc),.int .u8 113] w λ r w'=>r= .returned (({t with q:=q}:TV).val (.slice qa qn qc) (.slice da dn dc))/\RR rb B all zs w'/\Upd [rb] w w':=by
 obtain⟨W0,hW0⟩:∃W,W=((w.alloc (.cells (tT t.typ t.tag t.code t.iounit t.count t.q.dir t.q.ver t.q.path (.slice qa qn qc) (.slice da dn dc)) 39)).alloc (.cells tZ 39)):=⟨_,rfl⟩;obtain⟨hA0,hT0,X0⟩:=AH w (.cells (tT t.typ t.tag t.code t.iounit t.count t.q.dir t.q.ver t.q.path (.slice qa qn qc) (.slice da dn dc)) 39) (.cells tZ 39);rw[<-hW0] at hA0 hT0 X0;have hz0:w.heap.size+2<=W0.heap.size:=by rw[hW0];simp
 have hrl:rb<w.heap.size:=by obtain⟨x,i,hb⟩:=h.at;exact lH hb
 have h2:=h.ext X0;have HX0:=hid X0;have HBl:=hid hB;have HA0:=hid hA0;have HT0:=hid hT0;have HW:=hid hW0;dsimp only[TV.val];have HN:=hid (Iu h2 (λ g hg=>by have:=hB g hg;omega) ok);clear h h2 hA0 hT0 X0 hW0;obtain⟨dir,ver,path⟩:=q;dsimp only[QI.val] at HN|-
 go_in;go_wp2_with (rw[<-HW.o]);refine HN.o.mono ?_;rintro r w1 ⟨rfl,hR,hU⟩;have HA1:=hid (hU.heap HA0.o (by simp;omega));have HT1:=hid (hU.heap HT0.o (by simp;omega));obtain⟨b0,b1,b2,b3,b4,b5,b6,b7,b8,b9,b10,b11,b12,b13,b14,b15,b16,b17,rf⟩:=A8 HA1.o;have HR1:=hid hR;have HU1:=hid hU;clear hR hU HN;go_upto_region 29 with fail;obtain⟨W5,hW5⟩:∃W,W=(((w1.setCell (dD w.heap.size 7) (.bool dir)).setCell (dD w.heap.size 8) (iI ver)).setCell (dD w.heap.size 9) (iI path)):=⟨_,rfl⟩;rw[<-hW5];have HA5:=hid (show W5.heap[w.heap.size]?=oC (tT t.typ t.tag t.code t.iounit t.count dir ver path (.slice qa qn qc) (.slice da dn dc)) 39 by rw[hW5];exact(jP (i:=9) _ (jP (i:=8) _ (jP (i:=7) _ HA1.o))));have HU5:=hid (show Upd [w.heap.size] w1 W5 by rw[hW5];exact((((Upd.refl _ _).setCell _ _ (.inl (by simp))).setCell _ _ (.inl (by simp))).setCell _ _ (.inl (by simp))));have HT5:=hid (HU5.o.heap HT1.o (by simp));clear hW5 b0 b1 b2 b3 b4 b5 b6 b7 b8 b9 b10 b11 b12 b13 b14 b15 b16 b17 rf;refine wp_region_lit ?_;refine AJ rfl _ _ rfl w.heap.size (tT t.typ t.tag t.code t.iounit t.count dir ver path (.slice qa qn qc) (.slice da dn dc)) rfl 39 HA5.o _ underlying39 rfl iT ?_
 refine AT rfl _ _ _ rfl (w.heap.size+1) (tT t.typ t.tag t.code t.iounit t.count dir ver path (.slice qa qn qc) (.slice da dn dc)) rfl rfl 39 _ HT5.o iT rfl (by simp[Value.oneCell']) ?_;intro W hRw hU;refine wpList_nil ?_;go_wp2_with fail;exact Ue (Uj rfl _ _ (w.heap.size+1) 39 (tT t.typ t.tag t.code t.iounit t.count dir ver path (.slice qa qn qc) (.slice da dn dc)) (0,0) _ rfl hRw underlying39 rfl iT) rfl ⟨rfl,(HR1.o.upd HU5.o (by simp;omega) (λ g hg hm=>by have:=HBl.o g hg;simp at hm;omega)).upd hU (by simp;omega) (λ g hg hm=>by have:=HBl.o g hg;simp at hm;omega),(((HX0.o.upd _).trans HU1.o).trans2 HU5.o (λ b hb=>by simp at hb;omega)).trans2 hU (λ b hb=>by simp at hb;omega)⟩
theorem T8 {ys:List Int} (h:RR rb B all (leN ys.length 4++(ys++zs)) w) (hl:ys.length<=1024) (hB:∀g,B.ownBlock=some g->g<w.heap.size):
  Calls prog 27 #[pP rb 0,t.val (.slice qa qn qc) (.slice da dn dc),.int .u8 100] w λ r w'=>∃ya yc,r= .returned (t.val (.slice qa qn qc) (.slice ya ys.length yc))/\Sl w' (.slice ya ys.length yc) ys/\(Value.slice ya ys.length yc).ownBlock=B.ownBlock/\RR rb B all zs w'/\Upd [rb] w w':=by
 obtain⟨W0,hW0⟩:∃W,W=((w.alloc (.cells (tT t.typ t.tag t.code t.iounit t.count t.q.dir t.q.ver t.q.path (.slice qa qn qc) (.slice da dn dc)) 39)).alloc (.cells tZ 39)):=⟨_,rfl⟩;obtain⟨hA0,hT0,X0⟩:=AH w (.cells (tT t.typ t.tag t.code t.iounit t.count t.q.dir t.q.ver t.q.path (.slice qa qn qc) (.slice da dn dc)) 39) (.cells tZ 39);rw[<-hW0] at hA0 hT0 X0;have hrl:rb<w.heap.size:=by obtain⟨x,i,hb⟩:=h.at;exact lH hb
 have h2:=h.ext X0;have HX0:=hid X0;have HBl:=hid hB;have HA0:=hid hA0;have HT0:=hid hT0;have HW:=hid hW0;dsimp only[TV.val];have HN:=hid (TI h2 hl);clear h h2 hA0 hT0 X0 hW0;go_in;go_wp2_with (rw[<-HW.o]);refine HN.o.mono ?_;rintro r w1 ⟨v,rfl,hs,ho,hR,hU⟩;obtain⟨ya,yc,rfl,-,-⟩:=id hs;have HS:=hid hs;have HO:=hid ho;clear hs ho;have HA1:=hid (hU.heap HA0.o (by simp;omega));have HT1:=hid (hU.heap HT0.o (by simp;omega));obtain⟨b0,b1,b2,b3,b4,b5,b6,b7,b8,b9,b10,b11,b12,b13,b14,b15,b16,b17,rf⟩:=A8 HA1.o;have HR1:=hid hR;have HU1:=hid hU;clear hR hU HN;go_upto_region 29 with fail;obtain⟨W5,hW5⟩:∃W,W=(w1.setCell (dD w.heap.size 11) (.slice ya ys.length yc)):=⟨_,rfl⟩;rw[<-hW5];have HA5:=hid (show W5.heap[w.heap.size]?=oC (tT t.typ t.tag t.code t.iounit t.count t.q.dir t.q.ver t.q.path (.slice qa qn qc) (.slice ya ys.length yc)) 39 by rw[hW5];exact(jP (i:=11) _ HA1.o));have HU5:=hid (show Upd [w.heap.size] w1 W5 by rw[hW5];exact((Upd.refl _ _).setCell _ _ (.inl (by simp))));have HT5:=hid (HU5.o.heap HT1.o (by simp));clear hW5 b0 b1 b2 b3 b4 b5 b6 b7 b8 b9 b10 b11 b12 b13 b14 b15 b16 b17 rf;refine wp_region_lit ?_;refine AJ rfl _ _ rfl w.heap.size (tT t.typ t.tag t.code t.iounit t.count t.q.dir t.q.ver t.q.path (.slice qa qn qc) (.slice ya ys.length yc)) rfl 39 HA5.o _ underlying39 rfl iT ?_
 refine AT rfl _ _ _ rfl (w.heap.size+1) (tT t.typ t.tag t.code t.iounit t.count t.q.dir t.q.ver t.q.path (.slice qa qn qc) (.slice ya ys.length yc)) rfl rfl 39 _ HT5.o iT rfl (by simp[Value.oneCell']) ?_;intro W hRw hU;refine wpList_nil ?_;go_wp2_with fail;exact Ue (Uj rfl _ _ (w.heap.size+1) 39 (tT t.typ t.tag t.code t.iounit t.count t.q.dir t.q.ver t.q.path (.slice qa qn qc) (.slice ya ys.length yc)) (0,0) _ rfl hRw underlying39 rfl iT) rfl ⟨ya,yc,rfl,(HS.o.updv HU5.o (λ g hg hm=>by rw[HO.o] at hg;have:=HBl.o g hg;simp at hm;omega)).updv hU (λ g hg hm=>by rw[HO.o] at hg;have:=HBl.o g hg;simp at hm;omega),HO.o,(HR1.o.upd HU5.o (by simp;omega) (λ g hg hm=>by have:=HBl.o g hg;simp at hm;omega)).upd hU (by simp;omega) (λ g hg hm=>by have:=HBl.o g hg;simp at hm;omega),(((HX0.o.upd _).trans HU1.o).trans2 HU5.o (λ b hb=>by simp at hb;omega)).trans2 hU (λ b hb=>by simp at hb;omega)⟩
theorem RU (h:RR rb B all (leN 0 2++zs) w) (hB:∀g,B.ownBlock=some g->g<w.heap.size):
  Calls prog 27 #[pP rb 0,t.val (.slice qa qn qc) (.slice da dn dc),.int .u8 108] w λ r w'=>r= .returned (t.val (.slice qa qn qc) (.slice da dn dc))/\RR rb B all zs w'/\Upd [rb] w w':=by
 obtain⟨W0,hW0⟩:∃W,W=((w.alloc (.cells (tT t.typ t.tag t.code t.iounit t.count t.q.dir t.q.ver t.q.path (.slice qa qn qc) (.slice da dn dc)) 39)).alloc (.cells tZ 39)):=⟨_,rfl⟩;obtain⟨hA0,hT0,X0⟩:=AH w (.cells (tT t.typ t.tag t.code t.iounit t.count t.q.dir t.q.ver t.q.path (.slice qa qn qc) (.slice da dn dc)) 39) (.cells tZ 39);rw[<-hW0] at hA0 hT0 X0;have hrl:rb<w.heap.size:=by obtain⟨x,i,hb⟩:=h.at;exact lH hb
 have h2:=h.ext X0;have HX0:=hid X0;have HBl:=hid hB;have HA0:=hid hA0;have HT0:=hid hT0;have HW:=hid hW0;dsimp only[TV.val];have HN:=hid (CU h2 (by omega) (by omega) (by omega));clear h h2 hA0 hT0 X0 hW0;go_in;go_wp2_with (rw[<-HW.o]);refine HN.o.mono ?_;rintro r w1 ⟨rfl,hR,hU⟩;have HA1:=hid (hU.heap HA0.o (by simp;omega));have HT1:=hid (hU.heap HT0.o (by simp;omega));have HR1:=hid hR;have HU1:=hid hU;clear hR hU HN;go_wp2_with fail;go_loop [8] (λ v=>v= iI 0) (λ _=>0)
 case atStart=>rfl
 case round=>
  subst hrel;go_upto_region 29 with fail;refine wp_region_lit ?_;refine AJ rfl _ _ rfl w.heap.size (tT t.typ t.tag t.code t.iounit t.count t.q.dir t.q.ver t.q.path (.slice qa qn qc) (.slice da dn dc)) rfl 39 HA1.o _ underlying39 rfl iT ?_;refine AT rfl _ _ _ rfl (w.heap.size+1) (tT t.typ t.tag t.code t.iounit t.count t.q.dir t.q.ver t.q.path (.slice qa qn qc) (.slice da dn dc)) rfl rfl 39 _ HT1.o iT rfl (by simp[Value.oneCell']) ?_;intro W hRw hU;refine wpList_nil ?_;go_wp2_with fail;exact Ue (Uj rfl _ _ (w.heap.size+1) 39 (tT t.typ t.tag t.code t.iounit t.count t.q.dir t.q.ver t.q.path (.slice qa qn qc) (.slice da dn dc)) (0,0) _ rfl hRw underlying39 rfl iT) rfl ⟨rfl,HR1.o.upd hU (by simp;omega) (λ g hg hm=>by have:=HBl.o g hg;simp at hm;omega),((HX0.o.upd _).trans HU1.o).trans2 hU (λ b hb=>by simp at hb;omega)⟩
theorem RT (h:RR rb B all (leN 1 2++(q.b++zs)) w) (ok:q.Ok) (hB:∀g,B.ownBlock=some g->g<w.heap.size):
  Calls prog 27 #[pP rb 0,t.val (nN) (.slice da dn dc),.int .u8 108] w λ r w'=>∃gq cq,r= .returned (t.val (sS gq 0 1 cq) (.slice da dn dc))/\SlQ w' (sS gq 0 1 cq) (some q)/\w.heap.size<=gq/\RR rb B all zs w'/\Upd [rb] w w':=by
 obtain⟨W0,hW0⟩:∃W,W=((w.alloc (.cells (tT t.typ t.tag t.code t.iounit t.count t.q.dir t.q.ver t.q.path (nN) (.slice da dn dc)) 39)).alloc (.cells tZ 39)):=⟨_,rfl⟩;obtain⟨hA0,hT0,X0⟩:=AH w (.cells (tT t.typ t.tag t.code t.iounit t.count t.q.dir t.q.ver t.q.path (nN) (.slice da dn dc)) 39) (.cells tZ 39);rw[<-hW0] at hA0 hT0 X0;have hz0:w.heap.size+2<=W0.heap.size:=by rw[hW0];simp
 have hrl:rb<w.heap.size:=by obtain⟨x,i,hb⟩:=h.at;exact lH hb
 have h2:=h.ext X0;have HX0:=hid X0;have HBl:=hid hB;have HA0:=hid hA0;have HT0:=hid hT0;have HW:=hid hW0;dsimp only[TV.val];have HN:=hid (CU h2 (by omega) (by omega) (by omega));have HBq:=hid (show∀W:World,w.heap.size<=W.heap.size->∀g,B.ownBlock=some g->g<W.heap.size from λ W hz g hg=>by have:=hB g hg;omega);have HOk:=hid ok;clear h h2 hA0 hT0 X0 hW0;go_in;go_wp2_with (rw[<-HW.o]);refine HN.o.mono ?_;rintro r w1 ⟨rfl,hR,hU⟩;have HC:=hid (show Calls prog 52 #[pP rb 0] w1.drew λ r w2=>r= .returned (.agg #[.bool q.dir,iI q.ver,iI q.path])/\∃cq w3,(Builtin.append_ #[35,35] 35 #[nN,sS w2.heap.size 0 1 1]).run prog (w2.alloc (.cells #[.bool q.dir,iI q.ver,iI q.path] 34))= .ok (sS (w2.heap.size+1) 0 1 cq) w3/\SlQ w3 (sS (w2.heap.size+1) 0 1 cq) (some q)/\RR rb B all zs w3/\Upd [rb] w1 w2/\Upd [rb] w1 w3/\w2.heap.size+1<w3.heap.size/\w1.heap.size<=w2.heap.size from
  (Iu (hR.ext (dE _)) (HBq.o _ (by have:=hU.size;show w.heap.size<=w1.heap.size;omega)) HOk.o).mono (by
   rintro r w2 ⟨e,R2,U2⟩;obtain⟨cq,w3,g1,g2,g3,g4⟩:=LF w2 q 35;exact⟨e,cq,w3,g1,g2,R2.ext g3,(Upd.refl [rb] w1).drew.trans U2,((Upd.refl [rb] w1).drew.trans U2).trans (g3.upd _),g4,(show w1.heap.size<=_ from U2.size)⟩))
 obtain⟨x,i,hb⟩:=hR.at;have cE:=cO hb 2;have hrl1:=lH hb;have HB2:=hid hb;clear hb;have HA1:=hid (hU.heap HA0.o (by simp;omega));have HT1:=hid (hU.heap HT0.o (by simp;omega));have HR1:=hid hR;have HU1:=hid hU;have hz1:=hU.size;clear hR hU HN;go_wp2_with fail;have c10:=cO HA1.o 10;have hbl:=lH HA1.o;go_loopw [8] (λ v wr=>(v= iI 0/\wr=w1)\/(v= iI 1/\∃gq cq,wr.heap[w.heap.size]?=oC (tT t.typ t.tag t.code t.iounit t.count t.q.dir t.q.ver t.q.path (sS gq 0 1 cq) (.slice da dn dc)) 39/\wr.heap[w.heap.size+1]?=oC tZ 39/\SlQ wr (sS gq 0 1 cq) (some q)/\w.heap.size+2<=gq/\RR rb B all zs wr/\Upd [rb] w wr)) (λ v _=>2-(intOf v).toNat)
 case atStart=>exact .inl ⟨rfl,rfl⟩
 case round=>
  rcases hrel with⟨rfl,rfl⟩|⟨rfl,gq,cq,hA,hT,hS,hgq,hR,hU⟩
  ·go_wp2_with fail;go_region_law (first|(refine AU rfl (.tmp 91) (.tmp 94) _ rfl _ _ _ rfl rfl (by assumption) ?_)|(go_simp;go_at_call 52;refine HC.o.mono ?_;rintro r w2 ⟨rfl,cq,w3,g1,g2,g3,g4,g5,g6,g7⟩;have hA2:=g4.heap HA1.o (by simp;omega);have j10:=cO hA2 10;have jl:=lH hA2;have hA3:=g5.heap HA1.o (by simp;omega);have d10:=cO hA3 10;have dl:=lH hA3;have hT3:=g5.heap HT1.o (by simp;omega);obtain⟨df,-⟩:(∀i,w3.frozen? (dD w.heap.size i)=false)/\True:=⟨(λ i=>by obtain⟨b0,b1,b2,b3,b4,b5,b6,b7,b8,b9,b10,b11,b12,b13,b14,b15,b16,b17,rf⟩:=A8 hA3;exact rf i),trivial⟩))
   all_goals
    obtain⟨W5,hW5⟩:∃W,W=w3.setCell (dD w.heap.size 10) (sS (w2.heap.size+1) 0 1 cq):=⟨_,rfl⟩;have U5:Upd [w.heap.size] w3 W5:=by rw[hW5];exact(Upd.refl _ _).setCell _ _ (.inl (by simp))
    have HFin:=hid (show∃gq cq,W5.heap[w.heap.size]?=oC (tT t.typ t.tag t.code t.iounit t.count t.q.dir t.q.ver t.q.path (sS gq 0 1 cq) (.slice da dn dc)) 39/\W5.heap[w.heap.size+1]?=oC tZ 39/\SlQ W5 (sS gq 0 1 cq) (some q)/\w.heap.size+2<=gq/\RR rb B all zs W5/\Upd [rb] w W5 from⟨w2.heap.size+1,cq,by rw[hW5];exact jP (i:=10) _ hA3,U5.heap hT3 (by simp),g2.upd U5 (λ g p hg hm=>by rcases hg with hg|⟨_,hg⟩<;>(injection hg with e1 e2 e3;injection e1 with e1;injection e1 with e1 e4;simp at hm;omega)),by omega,g3.upd U5 (by simp;omega) (λ g hg hm=>by have:=HBl.o g hg;simp at hm;omega),((HX0.o.upd _).trans (HU1.o.trans g5)).trans2 U5 (λ b hb=>by simp at hb;omega)⟩);clear U5;subst hW5;clear g1 g2 g3 g4 g5 hA2 j10 jl hA3 d10 dl hT3 df;go_wp2_with fail;go_roundw
    case rel=>exact .inr ⟨by go_num,HFin.o⟩
    case measure=>simp[intOf]
  ·have HA2:=hid hA;have HT2:=hid hT;have HS2:=hid hS;have HR2:=hid hR;have HU2:=hid hU;clear hA hT hS hR hU;go_upto_region 29 with fail;refine wp_region_lit ?_;refine AJ rfl _ _ rfl w.heap.size (tT t.typ t.tag t.code t.iounit t.count t.q.dir t.q.ver t.q.path (sS gq 0 1 cq) (.slice da dn dc)) rfl 39 HA2.o _ underlying39 rfl iT ?_;refine AT rfl _ _ _ rfl (w.heap.size+1) (tT t.typ t.tag t.code t.iounit t.count t.q.dir t.q.ver t.q.path (sS gq 0 1 cq) (.slice da dn dc)) rfl rfl 39 _ HT2.o iT rfl (by simp[Value.oneCell']) ?_;intro W hRw hU;refine wpList_nil ?_;go_wp2_with fail;exact Ue (Uj rfl _ _ (w.heap.size+1) 39 (tT t.typ t.tag t.code t.iounit t.count t.q.dir t.q.ver t.q.path (sS gq 0 1 cq) (.slice da dn dc)) (0,0) _ rfl hRw underlying39 rfl iT) rfl ⟨gq,cq,rfl,HS2.o.upd hU (λ g p hg hm=>by rcases hg with hg|⟨_,hg⟩<;>(injection hg with e1 e2 e3;injection e1 with e1;injection e1 with e1 e4;simp at hm;omega)),by omega,HR2.o.upd hU (by simp;omega) (λ g hg hm=>by have:=HBl.o g hg;simp at hm;omega),HU2.o.trans2 hU (λ b hb=>by simp at hb;omega)⟩
def DH (s:ByteArray) (c:Int):Bool:=(sb s).any (λ x=>x==c)
theorem Ol (h:i<s.size) (e:((s[i]'h).toNat:Int)=c):DH s c=true:=by
 have hsl:i<(sb s).length:=by rw[Ab];exact h
 exact List.any_eq_true.2 ⟨(sb s)[i],List.getElem_mem hsl,by simp[sb,<-e];rfl⟩
theorem RP (h:∀i (hi:i<s.size),((s[i]'hi).toNat:Int)≠c):DH s c=false:=by
 rw[DH,List.any_eq_false];intro x hx;obtain⟨i,hi,rfl⟩:=List.mem_iff_getElem.1 hx;have hi':i<s.size:=by rw[Ab] at hi;exact hi
 have:=h i hi';simp[sb] at this|-
 exact this
theorem has18 {k:Int} (hs:s.size<=100) (H:∀w,Calls prog 26 #[iI k] w λ r w'=>r= .returned (.string s)/\Ext w w') (w:World):
  Calls prog 95 #[iI k,.int .u8 c] w λ r w'=>r= .returned (.bool (DH s c))/\Ext w w':=by
 have HF:=hid H;clear H;go_in;go_wp2_with fail;refine(HF.o _).mono ?_;rintro r w1 ⟨rfl,X1⟩;have HX1:=hid X1;clear X1;go_wp2_with fail;go_loop [6] (λ v=>∃i:Nat,i<=s.size/\v= iI i/\∀j (hj:j<s.size),j<i->((s[j]'hj).toNat:Int)≠c) (λ v=>s.size-(intOf v).toNat)
 case atStart=>exact⟨0,by omega,rfl,λ j _ h=>by omega⟩
 case round=>
  obtain⟨i,hi,rfl,hall⟩:=hrel;have HA:=hid hall;clear hall;by_cases hlt:i<s.size
  ·have d1:decide ((i:Int)<(s.size:Int))=true:=by simp;omega
   have b0:(0:Int)<=(i:Int):=by omega
   have b1:(i:Int)<(s.size:Int):=by omega
   by_cases e:((s[i]'hlt).toNat:Int)=c
   ·have d2:(((s[i]'hlt).toNat:Int)==c)=true:=by simp[e]
    go_wp2_with fail;go_ret;exact⟨by rw[Ol hlt e];rfl,HX1.o⟩
   ·have d2:(((s[i]'hlt).toNat:Int)==c)=false:=by simp[e]
    go_wp2_with fail;go_round
    case rel=>exact⟨i+1,by omega,by go_num,λ j hj hji=>by
     by_cases h:j<i
     ·exact HA.o j hj h
     ·obtain rfl:j=i:=by omega
      exact e⟩
    case measure=>simp[intOf];omega
  ·have d1:decide ((i:Int)<(s.size:Int))=false:=by simp;omega
   go_wp2_with fail;go_ret;exact⟨by rw[RP λ j hj=>HA.o j hj (by omega)];rfl,HX1.o⟩
theorem FN (h:0<=x/\x<4294967296) (w:World):Calls prog 58 #[iI x] w λ r w'=>r= .returned (.bool true)/\Ext w w':=by
 have d2:decide (x<=4294967295)=true:=by simp;omega
 go_in;go_wp2_with fail;go_ret;exact⟨rfl,Ext.refl w⟩
theorem OR (h:0<=x/\x<4611686018427387905) (w:World):Calls prog 59 #[iI x] w λ r w'=>r= .returned (.bool true)/\Ext w w':=by
 have d2:decide (x<=4611686018427387904)=true:=by simp;omega
 go_in;go_wp2_with fail;go_ret;exact⟨rfl,Ext.refl w⟩
theorem Nv (ok:q.Ok) (w:World):Calls prog 57 #[q.val] w λ r w'=>r= .returned (.bool true)/\Ext w w':=by
 obtain⟨d,ver,path⟩:=q;have HV:=hid ok.v;have HP:=hid ok.p;dsimp only[QI.val] at HV HP|-
 clear ok;obtain⟨W0,hW0⟩:∃W,W=w.alloc (.cells #[.bool d,iI ver,iI path] 34):=⟨_,rfl⟩;have hb:W0.heap[w.heap.size]?=oC #[.bool d,iI ver,iI path] 34:=by rw[hW0];exact Ub w _
 have X0:Ext w W0:=by rw[hW0];exact(Ext.refl w).alloc _
 obtain⟨b0,b1,b2,f0,f1,f2⟩:=BZ hb;have HB:=hid hb;have HX:=hid X0;have HW:=hid hW0;clear hb X0 hW0;go_in;go_wp2_with (rw[<-HW.o]);refine(FN HV.o _).mono ?_;rintro r w1 ⟨rfl,X1⟩;obtain⟨k0,k1,k2,-,-,-⟩:=BZ (X1.heap HB.o);have HX1:=hid X1;clear b0 b1 b2 f0 f1 f2 X1;go_wp2_with fail;refine(OR HP.o _).mono ?_;rintro r w2 ⟨rfl,X2⟩;go_wp2_with fail;go_ret;exact⟨rfl,HX.o.trans (HX1.o.trans X2)⟩
theorem eqQv (d:Bool) (v p:Int) (w:World):(Op.equalIn 10000 34 (.agg #[.bool d,iI v,iI p]) (.agg #[.bool d,iI v,iI p])).run prog w= .ok true w:=by
 have hS:prog.underlying 34=some (.struct (prog.fieldsOf 34)):=by kernel_rfl
 have hp:prog.stoodInHeld 34=false:=by kernel_rfl
 rw[show(10000:Nat)=9999+1 from rfl,run_equalIn_agg w 9999 _ _ _ hS hp];simp only[Program.fieldsOf,underlying34];go_simp
theorem QS (hD:Sl w (.slice da dn dc) ds):
  Calls prog 56 #[t.val (.slice qa 0 qc) (.slice da dn dc),t.val (.slice qa 0 qc) (.slice da dn dc)] w λ r w'=>r= .returned (.bool true)/\Ext w w':=by
 obtain⟨typ,tag,code,iounit,count,⟨dir,ver,path⟩⟩:=t;dsimp only[TV.val];obtain⟨W0,hW0⟩:∃W,W=((w.alloc (.cells (tT typ tag code iounit count dir ver path (.slice qa 0 qc) (.slice da dn dc)) 39)).alloc (.cells (tT typ tag code iounit count dir ver path (.slice qa 0 qc) (.slice da dn dc)) 39)):=⟨_,rfl⟩;obtain⟨hb,hr,X0⟩:=AH w (.cells (tT typ tag code iounit count dir ver path (.slice qa 0 qc) (.slice da dn dc)) 39) (.cells (tT typ tag code iounit count dir ver path (.slice qa 0 qc) (.slice da dn dc)) 39);rw[<-hW0] at hb hr X0;have hst:=(hD.ext X0).str;have e1:=eqQv;have e2:=eqS;have b0:=cO hb 0;have d0:=cO hr 0;have b1:=cO hb 1;have d1:=cO hr 1;have b2:=cO hb 2;have d2:=cO hr 2;have b3:=cO hb 3;have d3:=cO hr 3;have b4:=cO hb 4;have d4:=cO hr 4;have b5:=cO hb 5;have d5:=cO hr 5;have b6:=cO hb 6;have d6:=cO hr 6
 have b7:=cO hb 7;have d7:=cO hr 7;have b8:=cO hb 8;have d8:=cO hr 8;have b9:=cO hb 9;have d9:=cO hr 9;have b10:=cO hb 10;have d10:=cO hr 10;have b11:=cO hb 11;have d11:=cO hr 11;have b12:=cO hb 12;have d12:=cO hr 12;have b13:=cO hb 13;have d13:=cO hr 13;have b14:=cO hb 14;have d14:=cO hr 14;have b15:=cO hb 15;have d15:=cO hr 15;have b16:=cO hb 16;have d16:=cO hr 16;have b17:=cO hb 17;have d17:=cO hr 17;have HX:=hid X0;have HWE:=hid hW0;clear hb hr X0 hW0 hD;go_in;go_wp2_with (rw[<-HWE.o]);clear HWE;go_loop [5] (λ v=>v= iI 0) (λ _=>0)
 case atStart=>rfl
 case round=>
  subst hrel;go_wp2_with fail;go_ret;exact⟨rfl,HX.o⟩
theorem QR (hD:Sl w (.slice da dn dc) ds) {qg qo:Nat} (hQ:SlQ w (sS qg qo 1 qc) (some q)):
  Calls prog 56 #[t.val (sS qg qo 1 qc) (.slice da dn dc),t.val (sS qg qo 1 qc) (.slice da dn dc)] w λ r w'=>r= .returned (.bool true)/\Ext w w':=by
 obtain⟨typ,tag,code,iounit,count,⟨dir,ver,path⟩⟩:=t;dsimp only[TV.val];obtain⟨W0,hW0⟩:∃W,W=((w.alloc (.cells (tT typ tag code iounit count dir ver path (sS qg qo 1 qc) (.slice da dn dc)) 39)).alloc (.cells (tT typ tag code iounit count dir ver path (sS qg qo 1 qc) (.slice da dn dc)) 39)):=⟨_,rfl⟩;obtain⟨hb,hr,X0⟩:=AH w (.cells (tT typ tag code iounit count dir ver path (sS qg qo 1 qc) (.slice da dn dc)) 39) (.cells (tT typ tag code iounit count dir ver path (sS qg qo 1 qc) (.slice da dn dc)) 39);rw[<-hW0] at hb hr X0;have hst:=(hD.ext X0).str;have e1:=eqQv;have e2:=eqS;have b0:=cO hb 0;have d0:=cO hr 0;have b1:=cO hb 1;have d1:=cO hr 1;have b2:=cO hb 2;have d2:=cO hr 2;have b3:=cO hb 3;have d3:=cO hr 3;have b4:=cO hb 4;have d4:=cO hr 4
 have b5:=cO hb 5;have d5:=cO hr 5;have b6:=cO hb 6;have d6:=cO hr 6;have b7:=cO hb 7;have d7:=cO hr 7;have b8:=cO hb 8;have d8:=cO hr 8;have b9:=cO hb 9;have d9:=cO hr 9;have b10:=cO hb 10;have d10:=cO hr 10;have b11:=cO hb 11;have d11:=cO hr 11;have b12:=cO hb 12;have d12:=cO hr 12;have b13:=cO hb 13;have d13:=cO hr 13;have b14:=cO hb 14;have d14:=cO hr 14;have b15:=cO hb 15;have d15:=cO hr 15;have b16:=cO hb 16;have d16:=cO hr 16;have b17:=cO hb 17;have d17:=cO hr 17;obtain⟨qg',qo',qc',he,hc1,hc2,q0,q1,q2⟩:=hQ;injection he with he1 he2 he3;injection he1 with he1;injection he1 with he1 he4;subst he1 he3 he4;have q0:=X0.cell q0;have q1:=X0.cell q1;have q2:=X0.cell q2;unfold maxLen at hc2;have HX:=hid X0;have HK:=hid (λ k=>show(convert 26 9 (.slice da dn dc)).run prog (W0.drewN k)= .ok (.string (strOfNums ds)) (W0.drewN k) from(hD.ext (X0.trans ((Ext.refl W0).drewN k))).str);have HWE:=hid hW0;clear hb hr X0 hW0 hD;go_in;go_wp2_with (rw[<-HWE.o]);clear HWE;go_loopw [5] (λ v wr=>(v= iI 0/\wr=W0)\/(v= iI 1/\∃k,wr=W0.drewN k)) (λ v _=>2-(intOf v).toNat)
 case atStart=>exact .inl ⟨rfl,rfl⟩
 case round=>
  rcases hrel with⟨rfl,rfl⟩|⟨rfl,k,rfl⟩
  ·go_wp2_with fail;go_quiet (fail);go_wp2_with fail;go_roundw
   case rel=>exact .inr ⟨by go_num,_,rfl⟩
   case measure=>simp[intOf]
  ·have hsk:=HK.o k;go_wp2_with fail;go_ret;exact⟨rfl,HX.o.trans ((Ext.refl _).drewN k)⟩
end Go.Proofs.YtdakioiagpkfhaaGreatDoor
