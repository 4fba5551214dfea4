import Derived.Test.YtdakioiagpkfhaaGreatDoorP40
set_option maxRecDepth 99999
set_option maxHeartbeats 0
set_option linter.all false
namespace Go.Proofs.YtdakioiagpkfhaaGreatDoor
open WideShapes RowKit Conc
open Go.Proofs.Tryz
variable {a:QV} {base dc dk nc nk:Nat} {da na:Option Addr} {ds:List Int} {dv v y:Value} {m:Int} {ns:List ByteArray} {q:List (QV×Value×Value)} {w:World}
theorem TQ.copy {tb:Nat} {x:QV×Value×Value} (h:TQ tb (x::q) m w):
  ∃W,(∀ty,(Builtin.copy_ #[306,306] ty #[sS tb 0 (q.length+1) 8,sS tb 14 q.length 7]).run prog w= .ok (goInt q.length) W)/\Upd [tb] w W/\
   W.cell? (dD tb 112)=some (iI (q.length+1))/\(∀o,W.frozen? (dD tb o)=false)/\tb<W.heap.size/\TQ tb q m (W.setCell (dD tb 112) (iI q.length)):=by
 obtain⟨⟨h0,h0'⟩,cs,hb,hs,h1,h2,h3⟩:=h;rw[Un] at h0;have hget:∀k,k<14*q.length->∃j i,∃hj:j<q.length,k=j*14+i/\i<14:=λ k hk=>⟨k/14,k%14,by omega,by omega,by omega⟩
 have hrow:∀k,k<14*q.length->∃v,cs[14+k]?=some v/\v.oneCell'=true:=λ k hk=>by
  obtain⟨j,i,hj,rfl,hi⟩:=hget k hk;obtain⟨k1,k2⟩:=h0' q[j] (List.mem_cons_of_mem _ (List.getElem_mem hj));have hv:((q[j].1.cells q[j].2.1 q[j].2.2))[i]?=some ((q[j].1.cells q[j].2.1 q[j].2.2)[i]'hi):=Array.getElem?_eq_getElem _;refine⟨(q[j].1.cells q[j].2.1 q[j].2.2)[i]'hi,?_,QV.cells_one q[j].1 k1 k2 _ (by rw[Array.mem_toList_iff];exact Array.getElem_mem _)⟩;have:=h3 (j+1) (by simp;omega) i _ (by simpa using hv);rw[show 14+(j*14+i)=(j+1)*14+i by omega];exact this
 obtain⟨mid,hmid⟩:∃mid,mid=(cs.toList.drop 14).take (14*q.length):=⟨_,rfl⟩;have hml:mid.length=14*q.length:=by rw[hmid];simp;omega
 have hmg:∀k,k<14*q.length->mid[k]?=cs[14+k]?:=λ k hk=>by
  rw[hmid,List.getElem?_take_of_lt hk,List.getElem?_drop];simp
 have hmn:Nat.min q.length (q.length+1)=q.length:=Nat.min_eq_left (Nat.le_succ _);have hrun:=λ ty=>EA (P:=prog) w 306 306 ty 43 14 tb 0 (q.length+1) 8 ⟨tb,14,none⟩ q.length 7 cs 118 mid underlying306 VP hb (by rw[hmn,hml];omega)
  (λ j v hv=>by
   have hj:j<14*q.length:=by rw[<-hml];exact(List.getElem?_eq_some_iff.1 hv).1
   rw[Addr.add_mid,cO hb,<-hmg j hj];exact hv) (by rw[hml];omega) (λ v hv=>by
   obtain⟨k,hk,rfl⟩:=List.mem_iff_getElem.1 hv;have hk':k<14*q.length:=by rw[<-hml];exact hk
   obtain⟨v,e,ho⟩:=hrow k hk';have:mid[k]?=some mid[k]:=Ud hk;rw[hmg k hk',e] at this;rw[<-Option.some.inj this];exact ho)
 obtain⟨C,hC⟩:∃C,C=(cs.toList.take 0++mid++cs.toList.drop (0+mid.length)).toArray:=⟨_,rfl⟩;rw[hmn,<-hC] at hrun;have hCs:C.size=114:=by rw[hC];simp[hml,hs];omega
 have hCg:∀k,C[k]?=if k<14*q.length then cs[14+k]? else cs[k]?:=λ k=>by
  rw[hC];by_cases e:k<14*q.length
  ·rw[if_pos e,<-hmg k e];simp only[List.take_zero,List.nil_append,List.getElem?_toArray];rw[List.getElem?_append_left (by omega)]
  ·rw[if_neg e];simp only[List.take_zero,List.nil_append,List.getElem?_toArray];rw[List.getElem?_append_right (by omega),List.getElem?_drop,Nat.zero_add,show mid.length+(k-mid.length)=k by omega];simp
 have hbW:(w.setRow tb C).heap[tb]?=oC C 118:=setRow_heap w tb cs C _ _ hb;refine⟨w.setRow tb C,hrun,Ae w tb C,?_,fO hbW,lH hbW,⟨by omega,λ z hz=>h0' z (List.mem_cons_of_mem _ hz)⟩,_,jP (i:=112) _ hbW,by simp[hCs],?_,?_,λ j hj i v hv=> ?_⟩
 ·rw[cO hbW,hCg,if_neg (by omega)];exact h1
 ·rw[Array.getElem?_setIfInBounds_self_of_lt (by omega)]
 ·rw[Array.getElem?_setIfInBounds_ne (by decide),hCg,if_neg (by omega)];exact h2
 ·have hi:i<14:=by
   refine Nat.lt_of_not_le (λ hi=> ?_);rw[QV.cells_get _ _ _ hi] at hv;cases hv
  rw[Array.getElem?_setIfInBounds_ne (by omega),hCg,if_pos (by omega),show 14+(j*14+i)=(j+1)*14+i by omega];exact h3 (j+1) (by simp;omega) i v (by simpa using hv)
theorem Lz {tb:Nat} (h:TQ tb ((a,.slice na nk nc,.slice da dk dc)::q) m w) (hq:q.length<=2):
  Calls prog 110 #[pP tb 0,iI 0] w λ r w'=>r= .returned (a.val (.slice na nk nc) (.slice da dk dc))/\TQ tb q m w'/\Upd [tb] w w':=by
 obtain⟨W0,hW0⟩:∃W,W=w.alloc (.cells aZ 43):=⟨_,rfl⟩;have hr:W0.heap[w.heap.size]?=oC aZ 43:=by rw[hW0];exact Ub w _
 have X0:Ext w W0:=by rw[hW0];exact(Ext.refl w).alloc _
 obtain⟨W1,hW1⟩:∃W,W=W0.alloc (.cells (aA a.typ a.tag a.fid a.nfid a.otag a.msize a.mode a.perm a.off a.count a.name (.slice na nk nc) a.size (.slice da dk dc)) 43):=⟨_,rfl⟩;have h1:W1.heap[W0.heap.size]?=oC (aA a.typ a.tag a.fid a.nfid a.otag a.msize a.mode a.perm a.off a.count a.name (.slice na nk nc) a.size (.slice da dk dc)) 43:=by rw[hW1];exact Ub W0 _
 have X1:Ext W0 W1:=by rw[hW1];exact(Ext.refl _).alloc _
 have hrow:=(h.ext X0).row (j:=0) (by simp);have s0:=hrow 0 _ rfl;have s1:=hrow 1 _ rfl;have s2:=hrow 2 _ rfl;have s3:=hrow 3 _ rfl;have s4:=hrow 4 _ rfl;have s5:=hrow 5 _ rfl;have s6:=hrow 6 _ rfl;have s7:=hrow 7 _ rfl;have s8:=hrow 8 _ rfl;have s9:=hrow 9 _ rfl;have s10:=hrow 10 _ rfl;have s11:=hrow 11 _ rfl;have s12:=hrow 12 _ rfl;have s13:=hrow 13 _ rfl;obtain⟨t0,t1,tf⟩:=(h.ext X0).num;have htl0:=(h.ext X0).lt;obtain⟨W2,hcopy,U2,u0,uf,hl2,hT3⟩:=(((h.ext X0).ext X1).ext (dE W1)).copy;have htl:=h.lt;have HX1:=hid (X0.trans X1);have HA1:=hid h1;have HR1:=hid (X1.heap hr);have HT3:=hid hT3;have HU2:=hid U2;obtain⟨n,hn⟩:∃n,n=q.length:=⟨_,rfl⟩;obtain⟨N,hN⟩:∃N,N=n+1:=⟨_,rfl⟩;obtain⟨v1,-,vf⟩:=((h.ext X0).ext X1).num;rw[Un,<-hn] at t0 v1;rw[<-hn] at hcopy u0 hq;have u0':W2.cell? (dD tb 112)=some (iI N):=by rw[u0,hN];rfl
 have v1':W1.cell? (dD tb 112)=some (iI N):=by rw[v1,hN]
 rw[<-hN] at t0 hcopy;have e1:IntKind.i64.wrap ((N:Int)-1)=n:=(Uh ((N:Int)-1) (by omega)).trans (by omega);have HN:=hid (show N=n+1/\n=q.length from⟨hN,hn⟩);have HW0:=hid hW0;have HW1:=hid hW1;have q1:∀W:World,(Instr.sliceAt 116 (pP tb 0) (some (iI 0)) (some (iI N)) none).run prog W= .ok (sS tb 0 N 8) W:=λ W=>by
  obtain h|h|h:N=1\/N=2\/N=3:=by omega
  all_goals(rw[h];kernel_rfl)
 have q2:∀W:World,(Instr.sliceAt 116 (pP tb 0) (some (iI 1)) (some (iI N)) none).run prog W= .ok (sS tb 14 n 7) W:=λ W=>by
  obtain h|h|h:N=1/\n=0\/N=2/\n=1\/N=3/\n=2:=by omega
  all_goals(rw[h.1,h.2];kernel_rfl)
 clear h hr X0 hW0 X1 h1 hW1 hrow hT3 U2 hN hn u0 v1;dsimp only[QV.val];go_in;go_wp2_with (first|rw[<-HW0.o]|rw[<-HW1.o]);clear HW0 HW1 s0 s1 s2 s3 s4 s5 s6 s7 s8 s9 s10 s11 s12 s13 t0 t1 tf;go_region;clear q1 q2 hcopy v1' vf;go_wp2_with fail;obtain⟨W3,hW3⟩:∃W,W=W2.setCell (dD tb 112) (iI n):=⟨_,rfl⟩;rw[<-hW3];have hT3:TQ tb q m W3:=by rw[hW3];have:=HT3.o;rw[<-HN.o.2] at this;exact this
 have U3:Upd [tb] W1 W3:=by rw[hW3];exact((dE W1).upd _).trans (HU2.o.trans ((Upd.refl _ _).setCell _ _ (.inl (by simp))))
 obtain⟨t0,-,tf⟩:=hT3.num;rw[<-HN.o.2] at t0;have hth:=hT3.there (j:=n) (by omega);obtain⟨v0,v1,v2,v3,v4,v5,v6,v7,v8,v9,v10,v11,v12,v13,hcs⟩:=K3 hth;obtain⟨s0,s1,s2,s3,s4,s5,s6,s7,s8,s9,s10,s11,s12,s13⟩:=hcs;have b0:(0:Int)<=(n:Int):=by omega
 have b1:(n:Int)<8:=by omega
 obtain⟨W4,hW4⟩:∃W,W=(W3.setCells tb (n*14) Dn).drew:=⟨_,rfl⟩;have hT4:TQ tb q m W4:=by rw[hW4,HN.o.2];exact(hT3.over (by have:=HN.o;omega) Dn rfl).ext (dE _)
 have U4:Upd [tb] W1 W4:=by rw[hW4];exact U3.trans (Cs tb _ _ _).drew
 have HW4:=hid hW4;have HT4:=hid hT4;have HU4:=hid U4;have HA4:=hid (U4.heap HA1.o (by simp;omega));have HR4:=hid (U4.heap HR1.o (by simp;omega));clear hW3 hT3 U3 hth hW4 hT4 U4 HT3 HU2 u0' uf hl2;go_region;unfold Dn at HW4;refine NP (Pr:=λ W=>Exit.then _ _ _ _ W) (W:=W4) HW4.o ?_;clear s0 s1 s2 s3 s4 s5 s6 s7 s8 s9 s10 s11 s12 s13 t0 tf HW4;obtain⟨a0,a1,a2,a3,a4,a5,a6,a7,a8,a9,a10,a11,a12,a13,-⟩:=BG HA4.o;obtain⟨r0,r1,r2,r3,r4,r5,r6,r7,r8,r9,r10,r11,r12,r13,rf⟩:=BG HR4.o;go_wp2_with fail;refine Aa (R:=w.heap.size) (w0:=W4) (Pr:=λ W=>bodyPost _ _ _ _ _ W) _ (LH HR4.o) (VF _ _ _ _ _ _ _ _ _ _ _ _ _ _ _ _) ?_;clear r0 r1 r2 r3 r4 r5 r6 r7 r8 r9 r10 r11 r12 r13 rf;intro W hR hU;obtain⟨r0,r1,r2,r3,r4,r5,r6,r7,r8,r9,r10,r11,r12,r13,-⟩:=BG hR;refine Ue (v:=a.val (.slice na nk nc) (.slice da dk dc)) (by simp[QV.val,results,results110,go_sem,r0,r1,r2,r3,r4,r5,r6,r7,r8,r9,r10,r11,r12,r13]) rfl ⟨rfl,HT4.o.upd hU (by simp;omega),((HX1.o.upd _).trans HU4.o).trans2 hU (λ i hi=> .inr (by simp at hi;omega))⟩
theorem L5 {tb:Nat} (h:TQ tb ((a,.slice na nk nc,.slice da dk dc)::q) m w) (hq:q.length<=2):
  Calls prog 68 #[pP tb 0,iI 0] w λ r w'=>r= .returned (.tuple #[a.val (.slice na nk nc) (.slice da dk dc),iI 0])/\TQ tb q m w'/\Upd [tb] w w':=by
 obtain⟨W0,hW0⟩:∃W,W=w.alloc (.cells aZ 43):=⟨_,rfl⟩;have hr:W0.heap[w.heap.size]?=oC aZ 43:=by rw[hW0];exact Ub w _
 have X0:Ext w W0:=by rw[hW0];exact(Ext.refl w).alloc _
 have HK:=hid (Lz (h.ext X0) hq);have HX0:=hid X0;have HR0:=hid hr;have htl:=h.lt;obtain⟨t0,t1,tf⟩:=(h.ext X0).num;obtain⟨N,hN⟩:∃N:Int,N=((q.length+1:Nat):Int):=⟨_,rfl⟩;rw[Un,<-hN] at t0;have d1:decide ((0:Int)≥N)=false:=by simp;omega
 have HW0:=hid hW0;dsimp only[QV.val] at HK|-
 clear h hr X0 hW0 hN;go_in;go_wp2_with (rw[<-HW0.o]);clear HW0;refine HK.o.mono ?_;rintro r w1 ⟨rfl,hT,hU⟩;have HT:=hid hT;have HU:=hid hU;have HR1:=hid (hU.heap HR0.o (by simp;omega));obtain⟨r0,r1,r2,r3,r4,r5,r6,r7,r8,r9,r10,r11,r12,r13,rf⟩:=BG HR1.o;clear hT hU t0 t1 tf;go_wp2_with fail;refine Aa (R:=w.heap.size) (w0:=w1) (Pr:=λ W=>bodyPost _ _ _ _ _ W) _ (LH HR1.o) (VF _ _ _ _ _ _ _ _ _ _ _ _ _ _ _ _) ?_;clear r0 r1 r2 r3 r4 r5 r6 r7 r8 r9 r10 r11 r12 r13 rf;intro W hR hU;obtain⟨r0,r1,r2,r3,r4,r5,r6,r7,r8,r9,r10,r11,r12,r13,-⟩:=BG hR;refine Ue (v:= .tuple #[a.val (.slice na nk nc) (.slice da dk dc),iI 0]) (by simp[QV.val,results,results68,go_sem,r0,r1,r2,r3,r4,r5,r6,r7,r8,r9,r10,r11,r12,r13]) rfl ⟨rfl,HT.o.upd hU (by simp;omega),((HX0.o.upd _).trans HU.o).trans2 hU (λ i hi=> .inr (by simp at hi;omega))⟩
theorem pick0 {tb:Nat} (h:TQ tb [] m w):
  Calls prog 68 #[pP tb 0,iI 0] w λ r w'=>r= .returned (.tuple #[({typ:=0}:QV).val (nN) (nN),iI 6])/\Ext w w':=by
 obtain⟨W0,hW0⟩:∃W,W=w.alloc (.cells aZ 43):=⟨_,rfl⟩;have hr:W0.heap[w.heap.size]?=oC aZ 43:=by rw[hW0];exact Ub w _
 have X0:Ext w W0:=by rw[hW0];exact(Ext.refl w).alloc _
 obtain⟨t0,t1,tf⟩:=(h.ext X0).num;obtain⟨r0,r1,r2,r3,r4,r5,r6,r7,r8,r9,r10,r11,r12,r13,rf⟩:=BG hr;have HX0:=hid X0;have HR0:=hid hr;have HW0:=hid hW0;dsimp only[QV.val];clear h hr X0 hW0;go_in;go_wp2_with (rw[<-HW0.o]);refine Aa (R:=w.heap.size) (w0:=W0) (Pr:=λ W=>bodyPost _ _ _ _ _ W) _ (LH HR0.o) (VF _ _ _ _ _ _ _ _ _ _ _ _ _ _ _ _) ?_;clear r0 r1 r2 r3 r4 r5 r6 r7 r8 r9 r10 r11 r12 r13 rf t0 t1 tf;intro W hR hU;obtain⟨r0,r1,r2,r3,r4,r5,r6,r7,r8,r9,r10,r11,r12,r13,-⟩:=BG hR;refine Ue (v:= .tuple #[({typ:=0}:QV).val (nN) (nN),iI 6]) (by simp[QV.val,results,results68,go_sem,r0,r1,r2,r3,r4,r5,r6,r7,r8,r9,r10,r11,r12,r13]) rfl ⟨rfl,hU.ext HX0.o (by simp)⟩
def Lo (m:List Int):Prop:=7<=m.length/\m.length<=1024/\m.take 4=leN m.length 4
def GF (t:List Int):Prop:=t.length<4\/∃n:Nat,t.take 4=leN n 4/\t.length<n/\7<=n/\n<=1024
theorem Jy {t:List Int} (h:GF t) (ht:¬t.length<4):∃n:Nat,t.take 4=leN n 4/\t.length<n/\7<=n/\n<=1024:=h.resolve_left ht
theorem GY {tl:List Int} {ms:List (List Int)} (hv:Sl w v (ms.flatten++tl)) (hm:∀m∈ms,Lo m) (ht:GF tl) (hl:(ms.flatten++tl).length<=100000) (hms:ms.length<=1000):
  Calls prog 62 #[v,iI 1024] w λ r w'=>∃l rest,r= .returned (.tuple #[l,rest,iI 0])/\AN w' w.heap.size l ms/\AA w' w.heap.size 5 rest (bv tl)/\Ext w w':=by
 have HCl:=hid (λ W (X:Ext w W) v zs (h:Sl W v zs) (hz:zs.length<=100000)=>show Calls prog 96 #[v] W λ r w'=>∃v,r= .returned v/\AA w' w.heap.size 5 v (bv zs)/\Ext w w'/\Ext W w' from by
  obtain⟨a,c,rfl,q1,q2⟩:=h;refine(Ar a _ c zs (by omega) W q1 q2.nil0).mono ?_;rintro r w' ⟨v,rfl,O,X2⟩;exact⟨v,rfl,O.low X.size,X.trans X2,X2⟩)
 have HHd:=hid (λ W v (n:Nat) (h:Sl W v (leN n 4)) (hn:n<=100000)=>show Calls prog 98 #[v] W λ r w'=>∃g,r= .returned (pP g 0)/\Calls prog 99 #[pP g 0] w' λ r w2=>r= .returned (.int .u32 n)/\Ext W w2 from by
  refine(I7 h (by rw[lL];omega)).mono ?_;rintro r w1 ⟨g,rfl,hL,hg,X1⟩;refine⟨g,rfl,?_⟩;refine(ID (zs:=[]) (by simpa using hL) (by omega) (by omega)).mono ?_;rintro r w2 ⟨rfl,-,U⟩;exact⟨rfl,U.ext X1 (by simpa using hg)⟩)
 have HM:=hid hm;have HT:=hid ht;have HV:=hid hv;have hsv:∃a n c,v= .slice a n c:=by obtain⟨a,c,rfl,-⟩:=hv;exact⟨_,_,_,rfl⟩
 obtain⟨va,vn,vc,rfl⟩:=hsv;clear hm ht hv;go_in;go_wp2_with fail;go_loopw [0,7] (λ v0 v7 wr=>∃dn lf,ms=dn++lf/\Sl w v0 (lf.flatten++tl)/\AN wr w.heap.size v7 dn/\Ext w wr) (λ _ v7 _=>ms.length+1-slen v7)
 case atStart=>exact⟨[],ms,rfl,HV.o,AN.nil _ _,Ext.refl w⟩
 case round=>
  obtain⟨dn,lf,hdl,hs,hO,hX⟩:=hrel;have hXl:(lf.flatten++tl).length<=100000:=by
   have:(ms.flatten++tl).length=dn.flatten.length+(lf.flatten++tl).length:=by rw[hdl];simp
   omega
  obtain⟨X,hXe⟩:∃X,X=lf.flatten++tl:=⟨_,rfl⟩;rw[<-hXe] at hs hXl;have HS:=hid hs;obtain⟨a,c,rfl,hr,hp⟩:=hs;obtain⟨d7,c7,rfl,-⟩:=hO.rows;obtain⟨len,hlen⟩:∃n,n=X.length:=⟨_,rfl⟩;have hrc:=hr.2.1;cases lf with
  |nil=>
   obtain rfl:dn=ms:=by rw[hdl];simp
   have hXt:X=tl:=by rw[hXe];simp
   by_cases h4:X.length<4
   ·have d1:decide ((X.length:Int)≥4)=false:=by simp;omega
    have HC:=hid (HCl.o wr hX _ X (HS.o.ext hX) hXl);have HO:=hid hO;have HXt:=hid hXt;clear hr hp hO hX hlen hXt hXe hdl;go_wp2_with fail;refine HC.o.mono ?_;rintro r w2 ⟨v2,rfl,O2,X2,X2'⟩;go_wp2_with fail;go_ret3;exact⟨_,_,rfl,HO.o.ext X2',by rw[<-HXt.o];exact O2,X2⟩
   ·have ht2:=HT.o;rw[<-hXt] at ht2;obtain⟨n,hn4,hnl,hn7,hn8⟩:=Jy ht2 h4;have d1:decide ((X.length:Int)≥4)=true:=by simp;omega
    have d2:decide ((n:Int)<7)=false:=by simp;omega
    have d3:decide ((n:Int)>1024)=false:=by simp;omega
    have e1:IntKind.i64.wrap (n:Int)=n:=Uh _ (by omega);have hs4:=(Sl.take_drop hr hp 4 (by omega)).1;rw[hn4] at hs4;have HH:=hid (HHd.o wr _ n (hs4.ext hX) (by omega));have HO:=hid hO;have HX:=hid hX;have HXt:=hid hXt;clear hr hp hO hX hlen hs4 ht2 hn4 hXt hXe hdl;go_wp2_with fail;refine HH.o.mono ?_;rintro r w1 ⟨g,rfl,hU⟩;have HU:=hid hU;clear hU;go_wp2_with fail;refine HU.o.mono ?_;rintro r w2 ⟨rfl,X2⟩;have HC:=hid (HCl.o w2 (HX.o.trans X2) _ X (HS.o.ext (HX.o.trans X2)) hXl);have HX2:=hid X2;clear X2;go_wp2_with fail;refine HC.o.mono ?_;rintro r w3 ⟨v3,rfl,O3,X3,X3'⟩;go_wp2_with fail;go_ret3;exact⟨_,_,rfl,HO.o.ext (HX2.o.trans X3'),by rw[<-HXt.o];exact O3,X3⟩
  |cons m lf=>
   have hmm:=HM.o m (by rw[hdl];simp);obtain⟨n,hnm⟩:∃n,n=m.length:=⟨_,rfl⟩;obtain⟨hm7,hm8,hm4⟩:=hmm;rw[<-hnm] at hm7 hm8 hm4;have hX0:X=m++(lf.flatten++tl):=by rw[hXe];simp
   have hnX:n<=X.length:=by rw[hX0,hnm];simp
   have hn4:X.take 4=leN n 4:=by rw[hX0,List.take_append_of_le_length (by omega),hm4]
   have hnt:X.take n=m:=by rw[hX0,hnm,List.take_left]
   have hnd:X.drop n=lf.flatten++tl:=by rw[hX0,hnm,List.drop_left]
   have d1:decide ((X.length:Int)≥4)=true:=by simp;omega
   have d2:decide ((n:Int)<7)=false:=by simp;omega
   have d3:decide ((n:Int)>1024)=false:=by simp;omega
   have e1:IntKind.i64.wrap (n:Int)=n:=Uh _ (by omega);have hrun2:=Bw a n X.length c hnX hrc;have hrun3:=Bd a n X.length c hnX;have hs4:=(Sl.take_drop hr hp 4 (by omega)).1;rw[hn4] at hs4;have hsn:=Sl.take_drop hr hp n hnX;rw[hnt,hnd] at hsn;have HSn:=hid hsn;have HH:=hid (HHd.o wr _ n (hs4.ext hX) (by omega));have HO:=hid hO;have HX:=hid hX;have HD:=hid hdl;have HN:=hid (show m.length=n/\dn.length<=1000/\dn.length<ms.length from⟨hnm.symm,by rw[hdl] at hms;simp at hms;omega,by rw[hdl];simp⟩);clear hr hp hO hX hlen hs4 hsn hX0 hn4 hnt hnd hnm hdl hXe hm4;go_wp2_with fail;refine HH.o.mono ?_;rintro r w1 ⟨g,rfl,hU⟩;have HU:=hid hU;clear hU;go_wp2_with fail;refine HU.o.mono ?_;rintro r w2 ⟨rfl,X2⟩;have HC:=hid (HCl.o w2 (HX.o.trans X2) _ m (HSn.o.1.ext (HX.o.trans X2)) (by have:=HN.o;omega));have HX2:=hid X2;clear X2;go_wp2_with fail;refine HC.o.mono ?_;rintro r w3 ⟨v3,rfl,O3,X3,X3'⟩;have hwm:Wf m:=HSn.o.1.wf;obtain⟨a3,c3,rfl,-⟩:=O3.row2 hwm;obtain⟨v4,w4,p1,p2,S,u1,hS⟩:=(HO.o.ext (HX2.o.trans X3')).push2 ⟨O3,hwm⟩ X3.size (by have:=HN.o;omega);have hsl:=p2.slen;have hsl0:=HO.o.slen;rw[Uc,List.length_singleton] at hsl;have P1:=hid p1;have P2:=hid p2;have hUX:Ext w w4:=u1.ext X3 (λ b hb=>(hS b hb).1);have HX4:=hid hUX;clear p1 p2 u1 hS O3 X3 X3';go_wp2_with (at_builtin;refine jA rfl (.tmp 34) (.tmp 39) _ rfl _ _ _ rfl rfl P1.o ?_);go_roundw
   case rel=>exact⟨dn++[m],lf,by rw[HD.o];simp,HSn.o.2,P2.o,HX4.o⟩
   case measure=>have:=HN.o;simp only[hsl,hsl0];omega
inductive Dg (w:World):List (QV×List ByteArray×List Int)->List (QV×Value×Value)->List Nat->Prop
 |nil:Dg w [] [] []
 |cons {a:QV} {ns:List ByteArray} {ds:List Int} {x y:Value} {q:List (QV×List ByteArray×List Int)} {r:List (QV×Value×Value)} {F:List Nat}:AA w 0 9 x (sv ns)->AA w 0 5 y (bv ds)->Wf ds->Dg w q r F->Dg w ((a,ns,ds)::q) ((a,x,y)::r) (x.ownBlock.toList++(y.ownBlock.toList++F))
section
variable {w w':World} {q:List (QV×List ByteArray×List Int)} {r:List (QV×Value×Value)} {F:List Nat}
theorem Dg.lt (h:Dg w q r F):∀b∈F,b<w.heap.size:=by
 induction h with
 |nil=>simp
 |cons h1 h2 h3 _ ih=>
  intro b hb;rcases List.mem_append.1 hb with k|k
  ·exact(h1.lt (by simpa using k)).2
  ·rcases List.mem_append.1 k with k|k
   ·exact(h2.lt (by simpa using k)).2
   ·exact ih b k
theorem Dg.upd (h:Dg w q r F) {S:List Nat} (hu:Upd S w w') (hs:∀b∈F,b∉S):Dg w' q r F:=by
 induction h with
 |nil=>exact .nil
 |cons h1 h2 h3 _ ih=>exact .cons (h1.upd hu (λ g hg=>hs g (by simp[hg]))) (h2.upd hu (λ g hg=>hs g (by simp[hg]))) h3 (ih (λ b hb=>hs b (by simp[hb])))
theorem Dg.len (h:Dg w q r F):r.length=q.length:=by
 induction h with
 |nil=>rfl
 |cons _ _ _ _ ih=>simp[ih]
theorem Dg.tags (h:Dg w q r F) {t:Int} (ht:∀x∈q,x.1.tag≠t):∀x∈r,x.1.tag≠t:=by
 induction h with
 |nil=>simp
 |cons h1 h2 h3 _ ih=>
  intro x hx;rcases Um.1 hx with rfl|k
  ·exact ht _ (List.mem_cons_self)
  ·exact ih (λ y hy=>ht y (List.mem_cons_of_mem _ hy)) x k
theorem Dg.snoc (h:Dg w q r F) {x:Value} (hx:AA w 0 9 x (sv ns)) (hy:AA w 0 5 y (bv ds)) (hd:Wf ds):∃F',Dg w (q++[(a,ns,ds)]) (r++[(a,x,y)]) F'/\∀b∈F',b∈F\/x.ownBlock=some b\/y.ownBlock=some b:=by
 induction h with
 |nil=>exact⟨_,.cons hx hy hd .nil,λ b hb=>by simp at hb;exact .inr hb⟩
 |cons h1 h2 h3 _ ih=>
  obtain⟨F',hl,hf⟩:=ih;refine⟨_,.cons h1 h2 h3 hl,λ b hb=> ?_⟩;simp only[List.mem_append,Option.mem_toList] at hb|-
  rcases hb with k|k|k
  ·exact .inl (.inl k)
  ·exact .inl (.inr (.inl k))
  ·rcases hf b k with j|j
   ·exact .inl (.inr (.inr j))
   ·exact .inr j
end
def TgP (tp:Nat) (m:Int) (q:List (QV×List ByteArray×List Int)) (w:World) (F:List Nat):Prop:=∃r F0,F=tp::F0/\tp∉F0/\TQ tp r m w/\Dg w q r F0
theorem TgP.loc (tp:Nat) (m:Int) (q:List (QV×List ByteArray×List Int)):Loc (TgP tp m q):=
 ⟨λ w F ⟨r,F0,e,_,h,k⟩ b hb=>by
  subst e;rcases Um.1 hb with rfl|q
  ·exact h.lt
  ·exact k.lt b q,λ w w' F S ⟨r,F0,e,hn,h,k⟩ hu hs=>⟨r,F0,e,hn,h.upd hu (hs _ (by simp[e])),k.upd hu (λ b hb=>hs b (by simp[e,hb]))⟩⟩
section
variable {w:World} {tp:Nat} {m:Int} {q:List (QV×List ByteArray×List Int)} {F:List Nat}
theorem t_put (h:TgP tp m q w F) {nv:Value} (ht:∀x∈q,x.1.tag≠a.tag) (hm:(q.length:Int)<m/\m<=8) (hn:SlS w nv ns) (hnl:ns.length<=8) (hd:Sl w dv ds) (hdl:ds.length<=2000):
  Calls prog 105 #[pP tp 0,a.val nv dv] w λ r w'=>r= .returned (iI 0)/\∃F',TgP tp m (q++[(a,ns,ds)]) w' F'/\Mv w w' F F':=by
 obtain⟨r,F0,rfl,hn0,hT,hL⟩:=h;refine(Qk hT (hL.tags ht) (by rw[hL.len];exact hm) hn hnl hd hdl).mono ?_;rintro r w' ⟨rfl,n',d',hT',O1,O2,hU⟩;have hL':=hL.upd hU (λ b hb hm=>by simp at hm;subst hm;exact hn0 hb);obtain⟨F',k1,k2⟩:=hL'.snoc (a:=a) (O1.low (Nat.zero_le _)) (O2.low (Nat.zero_le _)) hd.wf;have hlt:=hT.lt;have hb:∀b∈F',b∈F0\/w.heap.size<=b:=λ b hb=>by
  rcases k2 b hb with j|j|j
  ·exact .inl j
  ·exact .inr (O1.lt j).1
  ·exact .inr (O2.lt j).1
 refine⟨rfl,tp::F',⟨_,F',rfl,λ hm=> ?_,hT',k1⟩,hU.mono (by simp),λ b hb'=> ?_⟩
 ·rcases hb tp hm with j|j
  ·exact hn0 j
  ·omega
 ·rcases Um.1 hb' with rfl|j
  ·exact .inl (by simp)
  ·rcases hb b j with j|j
   ·exact .inl (by simp[j])
   ·exact .inr j
theorem Sz (h:TgP tp m ((a,ns,ds)::q) w F) (hq:q.length<=2):
  Calls prog 68 #[pP tp 0,iI 0] w λ r w'=>∃nv dv,r= .returned (.tuple #[a.val nv dv,iI 0])/\SlS w' nv ns/\Sl w' dv ds/\(∀g,nv.ownBlock=some g->g<w.heap.size)/\(∀g,dv.ownBlock=some g->g<w.heap.size)/\∃F',TgP tp m q w' F'/\Mv w w' F F':=by
 obtain⟨r,F0,rfl,hn0,hT,hL⟩:=h;cases hL with
 |cons h1 h2 h3 hL=>
  have e1:=h1.slS;have e2:=h2.sl h3;obtain⟨na,nc,rfl,-⟩:=id e1;obtain⟨da,dc,rfl,-⟩:=id e2;rw[List.mem_append,List.mem_append] at hn0;refine(L5 hT (by rw[hL.len];exact hq)).mono ?_;rintro r w' ⟨rfl,hT',hU⟩;refine⟨_,_,rfl,e1.upd hU (λ g hg hm=> ?_),e2.updv hU (λ g hg hm=> ?_),λ g hg=>(h1.lt hg).2,λ g hg=>(h2.lt hg).2,_,⟨_,_,rfl,λ hm=>hn0 (.inr (.inr hm)),hT',hL.upd hU (λ b hb hm=> ?_)⟩,hU.mono (by simp),λ b hb=> .inl ?_⟩
  ·simp at hm;subst hm;exact hn0 (.inl (by simp[hg]))
  ·simp at hm;subst hm;exact hn0 (.inr (.inl (by simp[hg])))
  ·simp at hm;subst hm;exact hn0 (.inr (.inr hb))
  ·rcases Um.1 hb with rfl|j
   ·simp
   ·simp[j]
theorem S0 (h:TgP tp m [] w F):
  Calls prog 68 #[pP tp 0,iI 0] w λ r w'=>r= .returned (.tuple #[({typ:=0}:QV).val (nN) (nN),iI 6])/\Ext w w':=by
 obtain⟨r,F0,rfl,hn0,hT,hL⟩:=h;cases hL;exact pick0 hT
end
structure SD where
 c:SC
 pb:Nat
 mb:Nat
 ft:Nat
 fr:Nat
 fs:List Int
 m:Int
def SD.L (d:SD) (rv ov:Value) (l:List (Int×FV)) (st:Option AE) (n k:Nat) (zf:List Int) (q:List (QV×List ByteArray×List Int)) (zr zo:List Int):List (World->List Nat->Prop):=
 [GS (DU d.c rv ov) d.c.sp d.c.gp d.pb d.mb l st n,PwP d.c.fp d.ft d.fr d.fs k zf,TgP d.c.tp d.m q,B1 rv zr,B1 ov zo]
def SS (d:SD) (l:List (Int×FV)) (st:Option AE) (n k:Nat) (zf:List Int) (q:List (QV×List ByteArray×List Int)) (zr zo:List Int) (w:World) (F:List Nat):Prop:=
 ∃rv ov Fs,F=Fs.flatten/\Ac w (d.L rv ov l st n k zf q zr zo) Fs
theorem SS.loc (d:SD) (l:List (Int×FV)) (st:Option AE) (n k:Nat) (zf:List Int) (q:List (QV×List ByteArray×List Int)) (zr zo:List Int):Loc (SS d l st n k zf q zr zo):=
 ⟨λ w F ⟨rv,ov,Fs,e,h⟩=>e▸h.lt,λ w w' F S ⟨rv,ov,Fs,e,h⟩ hu hs=>⟨rv,ov,Fs,e,h.upd hu (e▸hs)⟩⟩
theorem GS.blk {c:SC} {rv ov:Value} {gp pb mb n:Nat} {l:List (Int×FV)} {st:Option AE} {G:List Nat} (h:GS (DU c rv ov) c.sp gp pb mb l st n w G):
  ∃k:Nat,w.heap[c.sp]?=oC (c.cl rv ov k n) 78/\c.sp∈G/\Aw w/\
   ∀w' rv' ov',Upd [c.sp] w w'->w'.heap[c.sp]?=oC (c.cl rv' ov' k n) 78->GS (DU c rv' ov') c.sp gp pb mb l st n w' G:=by
 obtain⟨F,rfl,h1,h2,⟨X,hS,rfl,rfl,rfl,rfl,hC⟩,n1,n2,n3,n4,n5⟩:=h;obtain⟨hb,hin⟩:=hS.blk;refine⟨X.k,hb,by simp[hin],hS.tab,λ w' rv' ov' hu hb'=> ?_⟩;have e1:gp∉[c.sp]:=by simp;rintro rfl;exact n3 hin
 have e2:pb∉[c.sp]:=by simp;rintro rfl;exact n4 hin
 have e3:mb∉[c.sp]:=by simp;rintro rfl;exact n5 hin
 obtain⟨k1,-⟩:=hS.put hu hb';exact⟨F,rfl,hu.heap h1 e1,h2.upd hu e2 e3,⟨_,k1,rfl,rfl,rfl,rfl,⟨hC.k,hC.zt,hC.zb,hC.l,hC.sa,hC.sd,hC.x,hC.ns⟩⟩,n1,n2,n3,n4,n5⟩
theorem AA.appAt {zs ys:List Int} (h:AA w base 5 v (bv zs)) (hy:Sl w y ys) (hp:0<ys.length) (hl:zs.length+ys.length<=10000000) (hb:base<=w.heap.size) (ty:TypeId):
  ∃v' w',(Builtin.append_ #[26,26] ty #[v,y]).run prog w= .ok v' w'/\AA w' base 5 v' (bv (zs++ys))/\w.grownBy w' v.ownBlock/\(v'.ownBlock=v.ownBlock\/v'.ownBlock=some w.heap.size):=by
 obtain⟨i0,hi,hz0,hz1,hz2⟩:=info_parts BR;obtain⟨a,c,rfl,hr,-⟩:=hy;rcases hr.2.2.2.2 with hx|⟨g,o,rfl,hc⟩
 ·omega
 ·obtain⟨v',w',h1,h2,h3,_,h5⟩:=run_append_own_at (P:=prog) w base 26 ty 5 i0 _ 1 1 underlying26 hi hz0 hz1 hz2 rfl (by decide) v (bv zs).length (bv zs) h ⟨g,o,none⟩ ys.length c (bv ys) (by rw[AS];omega)
   (λ j u hj=>by
    have hj':j<ys.length:=by have:=(List.getElem?_eq_some_iff.1 hj).1;rwa [AS] at this
    rw[Go.WideShapes.add_plain,hc j hj',<-hj];simp[bv,List.getD,Ud hj']) (by
    intro u hu;obtain⟨z,_,rfl⟩:=List.mem_map.1 hu;rfl) (by rw[AS];unfold maxLen;omega) (by rw[AS];omega) hb
  refine⟨v',w',h1,?_,h3,h5⟩;unfold AA;rw[show bv (zs++ys)=bv zs++bv ys from List.map_append,Uc,AS ys];exact h2
theorem Ac.set1 {l:List (World->List Nat->Prop)} {Fs:List (List Nat)} (h:Ac w l Fs) (i:Nat) {F:List Nat} (hF:Fs[i]?=some F) {w':World} {R':World->List Nat->Prop} {F':List Nat} (hL:Loc R') (hR:R' w' F') (hU:Upd F w w') (hN:∀b∈F',b∈F\/b∉Fs.flatten):
  Ac w' (l.set i R') (Fs.set i F')/\Upd Fs.flatten w w'/\(∀b∈(Fs.set i F').flatten,b∈F'\/b∈Fs.flatten)/\∀b∈F,b∉F'->b∉(Fs.set i F').flatten:=by
 have hil2:i<Fs.length:=(List.getElem?_eq_some_iff.1 hF).1;have hil:i<l.length:=by rw[<-h.len];exact hil2
 have hof:∀b,b∈(Fs.set i F').flatten->b∈F'\/∃j G,i≠j/\Fs[j]?=some G/\b∈G:=λ b hb=>by
  obtain⟨G,hG,hb⟩:=List.mem_flatten.1 hb;obtain⟨j,hj,rfl⟩:=List.mem_iff_getElem.1 hG;by_cases e:i=j
  ·subst e;rw[List.getElem_set_self] at hb;exact .inl hb
  ·rw[List.getElem_set_ne e] at hb;exact .inr ⟨j,_,e,Ud (by simpa using hj),hb⟩
 refine⟨⟨by rw[List.length_set,List.length_set,h.len],?_,?_⟩,hU.mono (λ b hb=>Uw hF hb),λ b hb=> ?_,λ b hb hn hm=> ?_⟩
 ·intro j S G hj hG;by_cases e:i=j
  ·subst e;rw[List.getElem?_set_self hil] at hj;rw[List.getElem?_set_self hil2] at hG;injection hj with hj;injection hG with hG;subst hj hG;exact⟨hR,hL⟩
  ·rw[List.getElem?_set_ne e] at hj;rw[List.getElem?_set_ne e] at hG;obtain⟨h1,h2⟩:=h.is j S G hj hG;exact⟨h2.2 w w' G _ h1 hU (λ b hb=>h.apart j i G _ (Ne.symm e) hG hF b hb),h2⟩
 ·intro j k G H hjk hG hH b hb;by_cases e:i=j
  ·subst e;rw[List.getElem?_set_self hil2] at hG;rw[List.getElem?_set_ne hjk] at hH;injection hG with hG;subst hG;rcases hN b hb with h1|h1
   ·exact h.apart i k _ H hjk hF hH b h1
   ·exact λ hm=>h1 (Uw hH hm)
  ·rw[List.getElem?_set_ne e] at hG;by_cases e2:i=k
   ·subst e2;rw[List.getElem?_set_self hil2] at hH;injection hH with hH;subst hH;intro hm;rcases hN b hm with h1|h1
    ·exact h.apart j i G _ hjk hG hF b hb h1
    ·exact h1 (Uw hG hb)
   ·rw[List.getElem?_set_ne e2] at hH;exact h.apart j k G H hjk hG hH b hb
 ·rcases hof b hb with k|⟨j,G,-,hG,k⟩
  ·exact .inl k
  ·exact .inr (Uw hG k)
 ·rcases hof b hm with k|⟨j,G,e,hG,k⟩
  ·exact hn k
  ·exact h.apart i j F G e hF hG b hb k
section
variable {d:SD} {l:List (Int×FV)} {st:Option AE} {n k:Nat} {zf:List Int} {q:List (QV×List ByteArray×List Int)} {zr zo:List Int} {w:World} {F:List Nat}
theorem SS.outs (h:SS d l st n k zf q zr zo w F):∃rv ov,∃j:Nat,w.heap[d.c.sp]?=oC (d.c.cl rv ov j n) 78/\d.c.sp∈F/\AA w 0 5 ov (bv zo)/\Wf zo/\(∀g,ov.ownBlock=some g->g∈F/\g≠d.c.sp)/\
  ∀w2 v' zs,Upd ov.ownBlock.toList w w2->AA w2 0 5 v' (bv zs)->Wf zs->(∀g,v'.ownBlock=some g->ov.ownBlock=some g\/w.heap.size<=g)->∀w3,Upd [d.c.sp] w2 w3->w3.heap[d.c.sp]?=oC (d.c.cl rv v' j n) 78->
   ∃F',SS d l st n k zf q zr zs w3 F'/\Mv w w3 F F'/\∀g,ov.ownBlock=some g->v'.ownBlock≠some g->g∉F':=by
 obtain⟨rv,ov,Fs,rfl,hP⟩:=h;obtain⟨F0,hG,hF0⟩:=hP.get 0 rfl;obtain⟨j,hb,hin,-⟩:=hG.blk;have hF4:Fs[4]?=some (Fs[4]'(by rw[hP.len];exact Nat.le_of_ble_eq_true rfl)):=Ud _;obtain⟨F4,hF4'⟩:∃F4,Fs[4]?=some F4:=⟨_,hF4⟩;have hR4:=(hP.is 4 _ F4 rfl hF4').1;obtain⟨e4,hO,hW⟩:=hR4;have hF0':Fs[0]?=some (Fs[0]'(by rw[hP.len];exact Nat.le_of_ble_eq_true rfl)):=Ud _;obtain⟨G0,hG0'⟩:∃F4,Fs[0]?=some F4:=⟨_,hF0'⟩;have hG0:GS (DU d.c rv ov) d.c.sp d.c.gp d.pb d.mb l st n w G0:=(hP.is 0 _ G0 rfl hG0').1;have hin0:d.c.sp∈G0:=by obtain⟨-,-,h0,-⟩:=hG0.blk;exact h0
 have hne:∀g,ov.ownBlock=some g->g≠d.c.sp:=λ g hg he=>hP.apart 0 4 _ _ (by decide) hG0' hF4' _ hin0 (by rw[e4];simp[hg,he])
 refine⟨rv,ov,j,hb,hF0 _ hin,hO,hW,λ g hg=>⟨Uw hF4' (by rw[e4];simp[hg]),hne g hg⟩,λ w2 v' zs hu hO' hW' hloc w3 hu3 hb3=> ?_⟩;obtain⟨hP2,hU2,hof,hx2⟩:=hP.set1 4 hF4' (B1.loc v' zs) ⟨rfl,hO',hW'⟩ (by rw[e4];exact hu) (λ b hb=>by
  rcases hloc b (by simpa using hb) with k|k
  ·exact .inl (by rw[e4];simp[k])
  ·exact .inr (λ hm=>by have:=hP.lt b hm;omega))
 have hM2:Mv w w2 Fs.flatten (Fs.set 4 v'.ownBlock.toList).flatten:=⟨hU2,λ b hb=>by
  rcases hof b hb with k|k
  ·rcases hloc b (by simpa using k) with j|j
   ·exact .inl (Uw hF4' (by rw[e4];simp[j]))
   ·exact .inr j
  ·exact .inl k⟩
 obtain⟨E0,hE0,-,-,-,hst0⟩:=hP2.step 0 rfl;have hE0':GS (DU d.c rv ov) d.c.sp d.c.gp d.pb d.mb l st n w2 E0:=hE0;obtain⟨j2,hb2,hin2,-,hput⟩:=hE0'.blk;have hb2':=hu.heap hb (λ hm=>by simp at hm;exact hne _ hm rfl);have hj:j2=j:=by
  rw[hb2'] at hb2;have:=congrArg (λ o=>match o with|some (Obj.cells cs _ _)=>cs[13]?|_=>none) hb2;simp[SC.cl] at this
  exact_mod_cast this.symm
 subst hj;have hG3:=hput w3 rv v' hu3 hb3;obtain⟨Fs3,hP3,hM3,heq⟩:=hst0 w3 _ E0 (GS.loc (λ st n=>DU.loc _ _ _ _ _)) hG3 (Mv.same (hu3.mono (by simp;exact hin2)));obtain rfl:=heq rfl;exact⟨_,⟨rv,v',_,rfl,hP3⟩,hM2.trans hM3,λ g hg hn' hm=>hx2 g (by rw[e4];simp[hg]) (by simpa using hn') hm⟩
theorem SS.rests (h:SS d l st n k zf q zr zo w F):∃rv ov,∃j:Nat,w.heap[d.c.sp]?=oC (d.c.cl rv ov j n) 78/\d.c.sp∈F/\AA w 0 5 rv (bv zr)/\Wf zr/\
  ∀v' zs,AA w 0 5 v' (bv zs)->Wf zs->(∀g,v'.ownBlock=some g->g∉F)->∀w3,Upd [d.c.sp] w w3->w3.heap[d.c.sp]?=oC (d.c.cl v' ov j n) 78->
   ∃F',SS d l st n k zf q zs zo w3 F'/\Upd F w w3/\∀b∈F',b∈F\/v'.ownBlock=some b:=by
 obtain⟨rv,ov,Fs,rfl,hP⟩:=h;obtain⟨F0,hG,hF0⟩:=hP.get 0 rfl;obtain⟨j,hb,hin,-⟩:=hG.blk;have hF3:Fs[3]?=some (Fs[3]'(by rw[hP.len];exact Nat.le_of_ble_eq_true rfl)):=Ud _;obtain⟨F3,hF3'⟩:∃F4,Fs[3]?=some F4:=⟨_,hF3⟩;obtain⟨e3,hO,hW⟩:=(hP.is 3 _ F3 rfl hF3').1;refine⟨rv,ov,j,hb,hF0 _ hin,hO,hW,λ v' zs hO' hW' hloc w3 hu3 hb3=> ?_⟩;obtain⟨hP2,hU2,hof,-⟩:=hP.set1 3 hF3' (B1.loc v' zs) ⟨rfl,hO',hW'⟩ (Upd.refl _ _) (λ b hb=> .inr (hloc b (by simpa using hb)));obtain⟨E0,hE0,-,hsub,-,hst0⟩:=hP2.step 0 rfl;have hE0':GS (DU d.c rv ov) d.c.sp d.c.gp d.pb d.mb l st n w E0:=hE0;obtain⟨j2,hb2,hin2,-,hput⟩:=hE0'.blk;have hj:j2=j:=by
  rw[hb] at hb2;have:=congrArg (λ o=>match o with|some (Obj.cells cs _ _)=>cs[13]?|_=>none) hb2;simp[SC.cl] at this
  exact_mod_cast this.symm
 subst hj;have hG3:=hput w3 v' ov hu3 hb3;obtain⟨Fs3,hP3,hM3,heq⟩:=hst0 w3 _ E0 (GS.loc (λ st n=>DU.loc _ _ _ _ _)) hG3 (Mv.same (hu3.mono (by simp;exact hin2)));obtain rfl:=heq rfl;refine⟨_,⟨v',ov,_,rfl,hP3⟩,hu3.mono (λ b hb=>by rw[List.mem_singleton.1 hb];exact hF0 _ hin),λ b hb=> ?_⟩;rcases hof b hb with k|k
 ·exact .inr (by simpa using k)
 ·exact .inl k
end
section
variable {d:SD} {l:List (Int×FV)} {st:Option AE} {n k:Nat} {zf:List Int} {q:List (QV×List ByteArray×List Int)} {zr zo:List Int} {w:World} {F:List Nat}
theorem ML (h:SS d l st n k zf q zr zo w F) {t:TV} {o:Option QI} (T:TIs t o ds) {qv:Value} (hR:Cg base qv dv o ds w) (hz:zo.length<=100000):
  Calls prog 69 #[pP d.c.sp 0,t.val qv dv] w λ r w'=>r= .returned (.tuple #[])/\∃F',SS d l st n k zf q zr (zo++msg t.typ t.tag (tb t o ds)) w' F'/\Mv w w' F F':=by
 obtain⟨hq,hd,hq2,hd2⟩:=hR;obtain⟨qa,qn,qc,rfl⟩:=hq.sl;have hdv:∃a n c,dv= .slice a n c:=by obtain⟨a,c,rfl,-⟩:=hd;exact⟨_,_,_,rfl⟩
 obtain⟨da,dn,dc,rfl⟩:=hdv;obtain⟨W0,hW0⟩:∃W,W=w.alloc (.cells (t.cl (.slice qa qn qc) (.slice da dn dc)).toArray 39):=⟨_,rfl⟩;have hb0:W0.heap[w.heap.size]?=some (.cells (t.cl (.slice qa qn qc) (.slice da dn dc)).toArray 39 (0,0)):=by rw[hW0];exact Ub w _
 have X0:Ext w W0:=by rw[hW0];exact(Ext.refl w).alloc _
 have hz0:=X0.size;have HW:=hid (Jv T (hq.ext X0) (hd.ext X0) (λ g p c e=>by have:=hq2 g (by rw[e];rfl);omega) (λ g e=>by have:=hd2 g e;omega));have HX0:=hid X0;have HB0:=hid hb0;have HS:=hid h;obtain⟨M,hM⟩:∃M,M=msg t.typ t.tag (tb t o ds):=⟨_,rfl⟩;have hMl:0<M.length/\M.length<=3000:=by rw[hM,Cw];have:=Hl T;omega
 rw[<-hM] at HW|-
 simp only[TV.cl] at hW0 HB0;dsimp only[TV.val] at HW|-
 clear X0 hb0 h hq hd hM;go_in;go_upto_region 1 with(rw[<-hW0]);clear hW0;refine wp_region_lit ?_;refine AJ rfl _ _ rfl w.heap.size _ rfl 39 HB0.o _ underlying39 rfl iT ?_;go_wp2_with fail;refine HW.o.mono ?_;rintro r w1 ⟨v,rfl,O1,hwf,X1⟩;have hS1:=(SS.loc _ _ _ _ _ _ _ _ _).2 _ _ _ [] HS.o ((HX0.o.trans X1).upd []) (λ _ _=>by simp);obtain⟨rv,ov,j,hb,hin,hO,hWo,hne,hnext⟩:=hS1.outs;have hs1:=O1.sl hwf;obtain⟨v',w2,q1,q2,q3,q4⟩:=hO.appAt hs1 hMl.1 (by omega) (Nat.zero_le _) 26;obtain⟨va,vc,rfl,-,-⟩:=id hs1;have hov:∃a n c,ov= .slice a n c:=by obtain⟨a,c,rfl,-⟩:=hO.sl hWo;exact⟨_,_,_,rfl⟩
 obtain⟨oa,on,oc,rfl⟩:=hov;have hv':∃a n c,v'= .slice a n c:=by obtain⟨a,c,rfl,-⟩:=q2.sl (hWo.app hwf);exact⟨_,_,_,rfl⟩
 obtain⟨ra,rn,rc,rfl⟩:=hv';have U2:Upd (Value.slice oa on oc).ownBlock.toList w1 w2:=Ec q3 (λ g hg=> .inl (by simp[hg]));have hb2:=U2.heap hb (λ hm=>(hne _ (by simpa using hm)).2 rfl);have hnx:=hnext w2 _ _ U2 q2 (hWo.app hwf) (λ g hg=>by rcases q4 with e|e<;>rw[e] at hg;exact .inl hg;injection hg with hg;exact .inr (by omega));have c5:=cO hb 5;have k5:=cO hb2 5;have f2:=fO hb2;have HB2:=hid hb2;have HNx:=hid hnx;have HR:=hid q1;have HXX:=hid (HX0.o.trans X1);simp only[SC.cl] at c5 k5;clear hS1 hb hO hWo hne hnext hs1 q1 q2 q3 q4 U2 hb2 hnx O1 hwf X1;go_wp2_with (at_builtin;refine jA rfl (.tmp 17) (.tmp 18) _ rfl _ _ _ rfl rfl HR.o ?_);go_end0;obtain⟨F',hS,hMv,-⟩:=HNx.o (w2.setCell (dD d.c.sp 5) (.slice ra rn rc)) ((Upd.refl _ _).setCell _ _ (.inl (by simp))) (jP (i:=5) _ HB2.o);exact⟨rfl,F',hS,(Mv.of_ext HXX.o F).trans hMv⟩
theorem LL (h:SS d l st n k zf q zr zo w F):
  Calls prog 32 #[pP d.c.sp 0] w λ r w'=>∃v,r= .returned v/\Sl w' v zo/\(∀g,v.ownBlock=some g->g<w.heap.size)/\∃F',SS d l st n k zf q zr [] w' F'/\Mv w w' F F'/\∀g,v.ownBlock=some g->g∉F':=by
 have hlt:=(SS.loc _ _ _ _ _ _ _ _ _).1 _ _ h;obtain⟨rv,ov,j,hb,hin,hO,hWo,hne,hnext⟩:=h.outs;have hs:=hO.sl hWo;obtain⟨a,c,rfl,-,-⟩:=id hs;have c5:=cO hb 5;have f5:=fO hb;have HN:=hid (hnext w (nN) [] (Upd.refl _ _) (AA.nil _ _ _) Wf.nil (λ g hg=>by simp[Value.ownBlock] at hg));have HB:=hid hb;have HS:=hid hs;have HE:=hid hne;have HL:=hid hlt;simp only[SC.cl] at c5;clear h hb hO hWo hne hnext hs hlt;go_in;go_wp2_with fail;go_ret;have U:Upd [d.c.sp] w (w.setCell (dD d.c.sp 5) (nN)):=(Upd.refl _ _).setCell _ _ (.inl (by simp));obtain⟨F',hS,hMv,hx⟩:=HN.o _ U (jP (i:=5) _ HB.o);exact⟨_,rfl,HS.o.updv U (λ g hg hm=>(HE.o g hg).2 (by simpa using hm)),λ g hg=>HL.o g (HE.o g hg).1,F',hS,hMv,λ g hg=>hx g hg (by simp[Value.ownBlock])⟩
end
section
variable {d:SD} {l:List (Int×FV)} {st:Option AE} {n k:Nat} {zf:List Int} {q:List (QV×List ByteArray×List Int)} {zr zo:List Int} {w w':World} {F:List Nat}
theorem SS.ext (h:SS d l st n k zf q zr zo w F) (hx:Ext w w'):SS d l st n k zf q zr zo w' F:=(SS.loc _ _ _ _ _ _ _ _ _).2 _ _ _ [] h (hx.upd []) (λ _ _=>by simp)
theorem SS.put (h:SS d l st n k zf q zr zo w F) {nv:Value} (ht:∀x∈q,x.1.tag≠a.tag) (hm:(q.length:Int)<d.m/\d.m<=8) (hn:SlS w nv ns) (hnl:ns.length<=8) (hd:Sl w dv ds) (hdl:ds.length<=2000):
  Calls prog 105 #[pP d.c.tp 0,a.val nv dv] w λ r w'=>r= .returned (iI 0)/\∃F',SS d l st n k zf (q++[(a,ns,ds)]) zr zo w' F'/\Mv w w' F F':=by
 obtain⟨rv,ov,Fs,rfl,hP⟩:=h;obtain⟨F2,hT,-,-,-,hst⟩:=hP.step 2 rfl;refine(t_put (q:=q) hT ht hm hn hnl hd hdl).mono ?_;rintro r w' ⟨rfl,F',hT',hM⟩;obtain⟨Fs',hP',hM',-⟩:=hst w' _ F' (TgP.loc _ _ _) hT' hM;exact⟨rfl,_,⟨rv,ov,Fs',rfl,hP'⟩,hM'⟩
theorem QIs.small (Q:QIs a ns ds):ns.length<=8/\ds.length<=2000/\(a.typ==108)=false:=by
 cases Q with
 |write _ _ _ hd=>exact⟨by simp,by have:=hd.1;omega,rfl⟩
 |_=>exact⟨by simp,by simp,rfl⟩
theorem I6 (h:SS d l st n k zf q zr zo w F) (Q:QIs a ns ds) (hb4:(qb a ns ds).length<=5000) (ht:∀x∈q,x.1.tag≠a.tag) (hm:(q.length:Int)<d.m/\d.m<=8) (hv:Sl w v (msg a.typ a.tag (qb a ns ds))):
  Calls prog 64 #[pP d.c.sp 0,v] w λ r w'=>r= .returned (.tuple #[])/\∃F',SS d l st n k zf (q++[(a,ns,ds)]) zr zo w' F'/\Mv w w' F F':=by
 obtain⟨hns,hds,h108⟩:=Q.small;have HRd:=hid (MP Q hb4 hv);have HPt:=hid (λ W (X:Ext w W) nv dv (h1:SlS W nv ns) (h2:Sl W dv ds)=>SS.put (h.ext X) ht hm h1 hns h2 hds);obtain⟨rv,ov,j,hb,-⟩:=h.outs;have HB:=hid hb;have HWf:=hid Q.wf;have hvs:∃x y z,v= .slice x y z:=by obtain⟨x,z,rfl,-⟩:=hv;exact⟨_,_,_,rfl⟩
 obtain⟨va,vn,vc,rfl⟩:=hvs;dsimp only[QV.val] at HRd HPt;clear h hv hb ht hm Q hb4 hns hds;go_in;go_wp2_with fail;refine HRd.o.mono ?_;rintro r w1 ⟨nv,dv,rfl,O1,O2,X1⟩;have e1:=O1.slS;have e2:=O2.sl HWf.o;obtain⟨na,nc,rfl,-⟩:=id e1;obtain⟨da,dc,rfl,-⟩:=id e2;obtain⟨nk,hnk⟩:∃m,m=ns.length:=⟨_,rfl⟩;obtain⟨dk,hdk⟩:∃m,m=ds.length:=⟨_,rfl⟩;rw[<-hnk] at e1|-
 rw[<-hdk] at e2|-
 have E1:=hid e1;have E2:=hid e2;have HX1:=hid X1;clear O1 O2 X1 e1 e2 hnk hdk;go_upto_region 1 with fail;obtain⟨W2,hW2⟩:∃W,W=w1.alloc (.cells (a.cells (.slice na nk nc) (.slice da dk dc)) 43):=⟨_,rfl⟩;have hb2:W2.heap[w1.heap.size]?=oC (a.cells (.slice na nk nc) (.slice da dk dc)) 43:=by rw[hW2];exact Ub w1 _
 have X2:Ext w1 W2:=by rw[hW2];exact(Ext.refl w1).alloc _
 simp only[QV.cells] at hW2 hb2;rw[<-hW2];have hbs:=(HX1.o.trans X2).heap HB.o;have HP2:=hid (HPt.o W2.drew ((HX1.o.trans X2).trans (dE _)) _ _ ((E1.o.ext X2).ext (dE _)) ((E2.o.ext X2).ext (dE _)));have HX2:=hid ((HX1.o.trans X2).trans (dE _));have c2:=cO hbs 2;simp only[SC.cl,ptr] at c2;obtain⟨b0,b1,b2,b3,b4,b5,b6,b7,b8,b9,b10,b11,b12,b13,-⟩:=BG hb2;clear hW2 X2 hbs hb2 HRd;go_wp2_with fail;go_region_with (go_at_call 105;refine HP2.o.mono ?_;rintro r w3 ⟨rfl,F',hS,hM⟩;have HS:=hid hS;have HM:=hid hM;clear hS hM)
 all_goals
  clear b0 b1 b2 b3 b4 b5 b6 b7 b8 b9 b10 b11 b12 b13;go_wp2_with fail;go_end0;exact⟨rfl,F',HS.o,(Mv.of_ext HX2.o F).trans HM.o⟩
end
end Go.Proofs.YtdakioiagpkfhaaGreatDoor
