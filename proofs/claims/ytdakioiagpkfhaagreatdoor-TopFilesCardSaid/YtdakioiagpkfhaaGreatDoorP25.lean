import Derived.Test.YtdakioiagpkfhaaGreatDoorP24
set_option maxRecDepth 99999
set_option maxHeartbeats 0
set_option linter.all false
namespace Go.Proofs.YtdakioiagpkfhaaGreatDoor
open WideShapes RowKit Conc
open Go.Proofs.Tryz
variable {P0 P1 P2 P3:World->Prop} {T t:TypeId} {ab av b base fv g hb hv:Nat} {c0 c1 c10 c12 c2 c3 c4 c5 c6 c7 c8 c9 r0 r10 r11 r12 r13 r5 r6 r7 r8 r9 v x y:Value} {ds:List Int} {k_number k_text:FuncId} {m n:Int} {ns:List ByteArray} {w w':World}
theorem Jb (h:w.heap[g]?=oC #[c0,c1,c2,c3] t):
  w.cell? (dD g 0)=some c0/\w.cell? (dD g 1)=some c1/\w.cell? (dD g 2)=some c2/\w.cell? (dD g 3)=some c3/\(∀o,w.frozen? (dD g o)=false):=⟨cO h 0,cO h 1,cO h 2,cO h 3,fO h⟩
theorem Hx {p:Int} {r:RV} (h:BH p r ds) (hw:Wf ds):Wf (Bz p r ds):=by
 have h0:∀e,Wf (be4 (Ce e)):=λ e=>BL _ (Hp e).1 (Hp e).2
 refine(h0 _).app ?_;cases h with
 |err=>exact Wf.nil
 |none=>exact Wf.nil
 |attr hp ha=>rcases hp with rfl|rfl|rfl<;>exact Jc ha
 | @read ds eof hl=>exact(Dy hw (by omega)).app (BL _ (by cases eof<;>simp) (by cases eof<;>simp))
 |write hn ha=>exact(BL _ hn.1 (by have:=hn.2;omega)).app (Jc ha)
theorem Aw.lt (h:Aw w):1<w.heap.size:=by obtain⟨t,fr,h⟩:=h;exact lH h
theorem MG {sb fb room nodes:Nat} {st st':Option AE} {a:AV} {rv:RV} {zs:List Int} (ok:CP a ds) (hdo:Pv fb room nodes st st' a ds rv zs) (hr:BH a.proc rv zs) (hwf:Wf zs) {x:Int} (hx:0<=x/\x<4294967296) {F:List Nat} (hF:FsW fb room nodes st w F) (hs:Ps sb fb n w) (hsF:sb∉F) (hn:0<=n/\n<=1000000) (ht:Aw w) (htF:1∉sb::F) (hv:Sl w v (Aj false x a.proc (a.lay ds (AD a.proc)))):
  Calls prog 91 #[pP sb 0,v] w λ r w'=>∃d,r= .returned (.tuple #[d,.bool true])/\AA w' w.heap.size 5 d (bv (Aj true x a.proc (Bz a.proc rv zs)))/\∃F',FsW fb room nodes st' w' F'/\Ps sb fb (n+1) w'/\Mv w w' (sb::F) (sb::F')/\sb∉F':=by
 have hp:0<=a.proc/\a.proc<4294967296:=by have:=ok.p;omega
 have hfl:(AD a.proc).length<=4:=by rcases ok.p with h|h|h|h|h|h<;>rw[h]<;>decide
 have hll:=FB (AD a.proc) a ds ok.ok;have HMr:=hid (SR hx hp (show(a.lay ds (AD a.proc)).length<=50000 by omega) hv);have hlw:Wf (a.lay ds (AD a.proc)):=by
  obtain⟨va,vc,-,q,-⟩:=hv;have e2:=VX false x a.proc (a.lay ds (AD a.proc));rw[<-e2];exact λ z hz=>q.2.2.2.1 z (List.mem_of_mem_drop hz)
 have HLW:=hid hlw;have hpl:=Iv ok.p;have e1:IntKind.i64.wrap a.proc=a.proc:=Uh _ (by omega);have e2:IntKind.i64.wrap (n+1)=n+1:=Uh _ (by omega);have HPL:=hid hpl;have HF:=hid hF;have HS:=hid hs;have HT:=hid ht;have HK:=hid ok;have HD:=hid hdo;have HR:=hid hr;have HW:=hid hwf;have HX:=hid hx;have HP:=hid hp;have hsl:sb<w.heap.size:=lH hs;clear hv hlw hpl hF hs ht ok hdo hr hwf hx hp hfl hll hn;go_enter_defers func91,ntmps91;go_wp2_with fail;refine HMr.o.mono ?_;rintro r w1 ⟨b,rfl,O1,X1⟩;obtain⟨ba,bc,rfl,-,-⟩:=O1.sl HLW.o;obtain⟨m,hm⟩:∃m,m=(a.lay ds (AD a.proc)).length:=⟨_,rfl⟩;rw[<-hm] at O1|-
 clear hm;obtain⟨W2,hW2⟩:∃W,W=w1.alloc (.cells #[.bool false,.int .u32 x,.int .u32 a.proc,.slice ba m bc] 151):=⟨_,rfl⟩;have X2:Ext w1 W2:=by rw[hW2];exact(Ext.refl _).alloc _
 have h2:W2.heap[w1.heap.size]?=oC #[.bool false,.int .u32 x,.int .u32 a.proc,.slice ba m bc] 151:=by rw[hW2];exact Ub w1 _
 have HX2:=hid (X1.trans X2);have HB2:=hid ((O1.sl HLW.o).ext X2);have HM2:=hid h2;have hml:=lH h2;have hz1:=X1.size;obtain⟨m0,m1,m2,m3,-⟩:=Jb h2;have HW2:=hid hW2;clear O1 X1 X2 h2 hW2;go_wp2_with (rw[<-HW2.o]);clear HW2;refine(Fy _).mono ?_;rintro r w3 ⟨g,rfl,hrow,X3⟩;have HRo:=hid hrow;have HX3:=hid (HX2.o.trans X3);have HB3:=hid (HB2.o.ext X3);have HM3:=hid (X3.heap HM2.o);have hz3:=X3.size;clear hrow X3 m0 m1 m2 m3;go_wp2_with fail;refine(EQ _ _ _ _ (by omega) a.proc _ HRo.o).mono ?_;rintro r w4 ⟨rfl,rfl⟩;rw[HPL.o];have hs3:=HX3.o.heap HS.o;have HS3:=hid hs3;go_wp2_with fail;refine(Go.MuLone.lock_free SQ ⟨sb,1,none⟩ _ (cA hs3 1 rfl) (fO hs3 1)).mono ?_;rintro e w4 ⟨rfl,rfl⟩;clear hs3;obtain⟨W4,hW4⟩:∃W,W=w3.setCell (dD sb 1) (.int .i32 1):=⟨_,rfl⟩;rw[<-hW4];have U4:Upd [sb] w3 W4:=by rw[hW4];exact(Upd.refl _ _).setCell _ _ (.inl (by simp))
 have h4:W4.heap[sb]?=oC #[pP fb 0,.int .i32 1,.int .u32 0,iI n] 91:=by rw[hW4];exact jP (i:=1) (.int .i32 1) HS3.o
 have HS4:=hid h4;have HM4:=hid (U4.heap HM3.o (by simp;omega));have HF4:=hid ((FsW.loc _ _ _ _).2 _ _ _ _ (HF.o.ext HX3.o) U4 (λ b hb hm=>hsF (by simpa using(List.mem_singleton.1 hm)▸hb)));have HT4:=hid ((HT.o.ext HX3.o).upd U4 (λ hm=>htF (by simp at hm;simp[hm])));have HB4:=hid (HB3.o.upd U4 (nobyte HS3.o (by simp)));have HM:=hid (show Mv w W4 (sb::F) (sb::F) from(Mv.of_ext HX3.o _).trans (Mv.same (U4.mono (by simp))));have hz4:=U4.size;obtain⟨m0,m1,m2,m3,-⟩:=Jb HM4.o;clear U4 h4 hW4;have HAn:=hid (Ks HK.o HD.o HW.o HF4.o HS4.o HB4.o);go_wp2_with fail;refine HAn.o.mono ?_;rintro r w5 ⟨d5,rfl,O5,F',hF',M5⟩;have HS5:=hid (M5.1.heap HS4.o hsF);have HM5:=hid (M5.1.heap HM4.o (λ hm=>by have:=(FsW.loc _ _ _ _).1 _ _ HF.o _ hm;omega));have HT5:=hid (HT4.o.upd M5.1 (λ hm=>htF (by simp[hm])));have HMv:=hid (HM.o.trans (show Mv W4 w5 (sb::F) (sb::F') from⟨M5.1.mono (by simp+contextual),λ b hb=>by
  rcases Um.1 hb with rfl|hb
  ·exact .inl (by simp)
  ·rcases M5.2 b hb with k|k
   ·exact .inl (by simp[k])
   ·exact .inr k⟩))
 have hsF':sb∉F':=λ hm=>by rcases M5.2 sb hm with k|k;exact hsF k;omega
 have HF5:=hid hF';have hz5:=M5.size;have HAw:=hid (Ko HR.o (O5.sl HW.o) HT5.o);clear hF' M5 O5 HM m0 m1 m2 m3;go_wp2_with fail;refine HAw.o.mono ?_;rintro r w6 ⟨v6,rfl,O6,X6⟩;have hrw:=Hx HR.o HW.o;obtain⟨ca,cc,rfl,-,-⟩:=O6.sl hrw;have HRW:=hid hrw;obtain⟨k,hk⟩:∃m,m=(Bz a.proc rv zs).length:=⟨_,rfl⟩;rw[<-hk] at O6|-
 have hkl:k<=4000:=by rw[hk];exact DN HR.o
 have HKL:=hid hk;clear hk hrw;have HO6:=hid O6;have HS6:=hid (X6.heap HS5.o);have HM6:=hid (X6.heap HM5.o);have HX6:=hid X6;have hz6:=X6.size;have hs6:=HS6.o;have s3:=cA hs6 3 rfl;have sf:=fO hs6;obtain⟨m0,m1,m2,m3,-⟩:=Jb HM6.o;clear O6 X6 hs6;go_wp2_with fail;obtain⟨W7,hW7⟩:∃W,W=w6.setCell (dD sb 3) (iI (n+1)):=⟨_,rfl⟩;rw[<-hW7];have U7:Upd [sb] w6 W7:=by rw[hW7];exact(Upd.refl _ _).setCell _ _ (.inl (by simp))
 have h7:W7.heap[sb]?=oC #[pP fb 0,.int .i32 1,.int .u32 0,iI (n+1)] 91:=by rw[hW7];exact jP (i:=3) (iI (n+1)) HS6.o
 have HS7:=hid h7;have HMW:=hid (OE true HX.o HP.o (show(Bz a.proc rv zs).length<=50000 by rw[<-HKL.o];omega) (((HO6.o.sl HRW.o)).upd U7 (nobyte HS6.o (by simp))));have HF7:=hid ((FsW.loc _ _ _ _).2 _ _ _ _ (HF5.o.ext HX6.o) U7 (λ b hb hm=>hsF' (by simpa using(List.mem_singleton.1 hm)▸hb)));have HM7:=hid ((HMv.o.ext HX6.o).trans (Mv.same (U7.mono (by simp))));have hz7:=U7.size;clear U7 h7 hW7 s3 sf m0 m1 m2 m3;refine HMW.o.mono ?_;rintro r w8 ⟨d8,rfl,O8,X8⟩;have HO8:=hid O8;have HX8:=hid X8;clear O8 X8;go_wp2_with fail;have h8:=HX8.o.heap HS7.o;refine leaves_cons (f:=143) (args:= #[pP sb 1]) (by simp) (by simp[go_sem]) ?_;refine(Go.MuLone.unlock_deferred SQ ⟨sb,1,none⟩ .returning _ (cA h8 1 rfl) (fO h8 1)).mono ?_;rintro e u' w'' ⟨rfl,rfl,rfl⟩;have U9:Upd [sb] w8 (w8.setCell (dD sb 1) (.int .i32 0)):=(Upd.refl _ _).setCell _ _ (.inl (by simp));have hq:∀g,d8.ownBlock=some g->g∉[sb]:=λ g hg hm=>by have:=(HO8.o.lt hg).1;simp at hm;omega
 exact⟨_,results_tmp2 rfl _ _ _,d8,rfl,(HO8.o.upd U9 hq).low (by omega),F',(FsW.loc _ _ _ _).2 _ _ _ _ (HF7.o.ext HX8.o) U9 (λ b hb hm=>hsF' (by simpa using(List.mem_singleton.1 hm)▸hb)),jP (i:=1) (.int .i32 0) h8,(HM7.o.ext HX8.o).trans (Mv.same (U9.mono (by simp))),hsF'⟩
theorem MF (n room:Nat) (h1:2<=n) (h2:n<=64) (hr:room<=65536) (w:World):
  Calls prog 16 #[iI n,iI room] w λ r w'=>∃sb fb F,r= .returned (.tuple #[pP sb 0,iI 0])/\FsW fb room n none w' F/\Ps sb fb 0 w'/\sb∉F/\Ext w w'/\(∀b∈F,w.heap.size<=b)/\w.heap.size<=sb:=by
 have H:=hid (UB n room h1 h2 hr w);go_in;go_wp2_with fail;refine H.o.mono ?_;rintro r w1 ⟨fb,F,rfl,hF,X1,hl,-⟩;have HF:=hid hF;have HX:=hid X1;clear hF X1;go_wp2_with fail;go_ret2;exact⟨w1.heap.size,fb,F,rfl,HF.o.ext ((Ext.refl _).alloc _),Ub w1 _,λ hm=>by have:=(FsW.loc _ _ _ _).1 _ _ HF.o _ hm;omega,HX.o.alloc _,hl,HX.o.size⟩
structure QV where
 typ:Int
 tag:Int:=0
 fid:Int:=0
 nfid:Int:=0
 otag:Int:=0
 msize:Int:=0
 mode:Int:=0
 perm:Int:=0
 off:Int:=0
 count:Int:=0
 name:ByteArray:=⟨#[]⟩
 size:Int:=0
def QV.cells (a:QV) (n d:Value):Array Value:= (aA a.typ a.tag a.fid a.nfid a.otag a.msize a.mode a.perm a.off a.count a.name n a.size d)
def QV.val (a:QV) (n d:Value):Value:= .agg (aA a.typ a.tag a.fid a.nfid a.otag a.msize a.mode a.perm a.off a.count a.name n a.size d)
def SlS (w:World) (v:Value) (ns:List ByteArray):Prop:=∃a c,v= .slice a ns.length c/\Bj a c/\ns.length<=c/\c<=maxLen/\(ns=[]\/∃g o,a=some ⟨g,o,none⟩/\∀i (h:i<ns.length),w.cell? (dD g (o+i))=some (.string ns[i]))
theorem SlS.nil (w:World):SlS w (nN) []:=⟨none,0,rfl,.inl ⟨rfl,rfl⟩,by simp,by unfold maxLen;omega,.inl rfl⟩
theorem SlS.upd {S:List Nat} (h:SlS w v ns) (hx:Upd S w w') (hs:∀g,v.ownBlock=some g->g∉S):SlS w' v ns:=by
 obtain⟨a,c,rfl,h2,h3,h4,h5⟩:=h;refine⟨a,c,rfl,h2,h3,h4,?_⟩;rcases h5 with h5|⟨g,o,rfl,h6⟩
 ·exact .inl h5
 ·exact .inr ⟨g,o,rfl,λ i hi=>hx.cell (h6 i hi) (hs g (by simp[Value.ownBlock]))⟩
theorem SlS.ext (h:SlS w v ns) (hx:Ext w w'):SlS w' v ns:=h.upd (hx.upd []) (λ _ _=>by simp)
def tx (s:ByteArray):List Int:=leN s.size 2++sb s
def tx8 (ns:List ByteArray):List Int:=leN ns.length 2++ns.flatMap tx
def dx (ys:List Int):List Int:=leN ys.length 4++ys
theorem NO (s:ByteArray):Wf (tx s):=(AQ _ _).app (Cl s)
theorem dx_Wf {ys:List Int} (h:Wf ys):Wf (dx ys):=(AQ _ _).app h
theorem VU (ns:List ByteArray):Wf (tx8 ns):=(AQ _ _).app (λ z hz=>by
 obtain⟨s,_,h⟩:=List.mem_flatMap.1 hz;exact NO s z h)
def QV.body (a:QV) (ns:List ByteArray) (ds:List Int):List Int:=
 if a.typ=104 then leN a.fid 4++tx a.name
 else if a.typ=110 then leN a.fid 4++leN a.nfid 4++tx8 ns
 else if a.typ=112 then leN a.fid 4++leN a.mode 1
 else if a.typ=114 then leN a.fid 4++tx a.name++leN a.perm 4++leN a.mode 1
 else if a.typ=116 then leN a.fid 4++leN a.off 8++leN a.count 4
 else if a.typ=118 then leN a.fid 4++leN a.off 8++dx ds
 else leN a.fid 4++leN (a.size%4294967296) 4++tx a.name
theorem IK:(prog.info? 9).map (λ i=>(i.zero,i.size,i.bytes))=some (some (eE),1,16):=by kernel_rfl
def sv (ns:List ByteArray):List Value:=ns.map .string
theorem Ct (ns:List ByteArray):(sv ns).length=ns.length:=by simp[sv]
theorem Jd {xs:List Value} (h:AA w base 9 v xs) {a:Option Addr} {len c:Nat} (hlen:ns.length=len) (hy:ns=[]\/∃g o,a=some ⟨g,o,none⟩/\∀i (h:i<ns.length),w.cell? (dD g (o+i))=some (.string ns[i])) (ha:a=none->c=0) (hl:xs.length+len<=10000000) (hb:base<=w.heap.size) (ty:TypeId):
  ∃v' w',(Builtin.append_ #[41,41] ty #[v,.slice a len c]).run prog w= .ok v' w'/\AA w' base 9 v' (xs++sv ns)/\w.grownBy w' v.ownBlock:=by
 obtain⟨i0,hi,hz0,hz1,hz2⟩:=info_parts IK;rcases Nat.eq_zero_or_pos len with h0|h0
 ·have hz:ns=[]:=List.eq_nil_of_length_eq_zero (by omega);subst hz;subst h0;have hS:Src prog i0.size 41 (.slice a 0 c) 0 [] w:=by
   cases a with
   |none=>exact Src.ofNil w underlying41 c
   |some ad=>exact Src.ofSlice w underlying41 ad 0 c [] (by simp) (λ j u hj=>by simp at hj) (by simp)
  have hv:∃A n cp,v= .slice A n cp/\n<=cp:=by
   rcases h.form with⟨hv,_⟩|⟨g,cp,cur,hv,_,hn,_⟩
   ·exact⟨_,_,_,hv,by omega⟩
   ·exact⟨_,_,_,hv,hn⟩
  obtain⟨A,n,cp,rfl,hle⟩:=hv;refine⟨_,_,run_append_nothing w 41 41 ty 9 i0 underlying41 hi A n cp hle _ hS,by simpa [sv] using h,⟨rfl,rfl,rfl,Uf _,λ _ _ _=>rfl⟩⟩
 ·rcases hy with hx|⟨g,o,rfl,hc⟩
  ·subst hx;simp at hlen;omega
  ·obtain⟨v',w',h1,h2,h3,_⟩:=run_append_own_at (P:=prog) w base 41 ty 9 i0 _ 1 16 underlying41 hi hz0 hz1 hz2 rfl (by decide) v xs.length xs h ⟨g,o,none⟩ len c (sv ns) (by rw[Ct,hlen];omega)
    (λ j u hj=>by
     have hj':j<ns.length:=by have:=(List.getElem?_eq_some_iff.1 hj).1;rwa [Ct] at this
     rw[Go.WideShapes.add_plain,hc j hj',<-hj];simp[sv,hj']) (by
     intro u hu;obtain⟨z,_,rfl⟩:=List.mem_map.1 hu;rfl) (by unfold maxLen;omega) (by omega) hb
   refine⟨v',w',h1,?_,h3⟩;unfold AA;rw[Uc,Ct,hlen];exact h2
theorem AA.slS {e:TypeId} (h:AA w base e v (sv ns)):SlS w v ns:=by
 rcases h.form with⟨rfl,hx⟩|⟨g,cp,cur,rfl,h1,h2,h3⟩
 ·have:ns=[]:=by simpa [sv] using hx
  subst this;exact SlS.nil w
 ·obtain⟨h2,h3,h4,h5,h6⟩:=And.intro h2 h3;refine⟨some ⟨g,0,none⟩,cp,by rw[Ct],.inr ⟨g,0,rfl⟩,by rw[<-Ct];exact h2,h3,.inr ⟨g,0,rfl,λ i hi=> ?_⟩⟩;have hi':i<(sv ns).length:=by rw[Ct];exact hi
  obtain⟨g',c',e',-,-,-,-,hc,-⟩:=h.cell hi';injection e' with e1;injection e1 with e1;injection e1 with e1;subst e1;rw[show 0+i=i by omega,hc];simp[sv]
theorem Kk (h:SlS w v ns) (hn:ns.length<=1000):
  Calls prog 157 #[v] w λ r w'=>∃v,r= .returned v/\AA w' w.heap.size 9 v (sv ns)/\Ext w w':=by
 obtain⟨a,cap,rfl,hp,hlc,hcm,hx⟩:=h;have hcm0:=hcm;unfold maxLen at hcm;cases a with
 |none=>
  have hc0:=hp.nil0 rfl;have hz:ns=[]:=by rcases hx with h|⟨g,o,h,_⟩;exact h;cases h
  subst hz hc0;have hnn:=λ W=>Go.Lib.run_eql_slice_nil (P:=prog) W 41 9 none 0 0 0 0 underlying41
  simp only[Option.isNone_none] at hnn;clear hp hlc hcm hx hcm0;go_in;go_wp2;go_ret;exact⟨_,rfl,AA.nil _ _ _,Ext.refl w⟩
 |some ad=>
  obtain⟨n,hnl⟩:∃n,n=ns.length:=⟨_,rfl⟩;rw[<-hnl] at hlc|-
  have h0:AA (w.alloc (.cells #[] 9)) w.heap.size 9 (sS w.heap.size 0 0 0) []:=
   ⟨by simp,.inr ⟨w.heap.size,0,#[],rfl,Uf _,Ub w _,by simp,by unfold maxLen;omega,by simp,by simp⟩⟩
  obtain⟨v',w',h1,h2,h3⟩:=Jd h0 (a:=some ad) (c:=cap) hnl.symm (by
   rcases hx with h|⟨g,o,e,hc⟩
   ·exact .inl h
   ·exact .inr ⟨g,o,e,λ i hi=>((Ext.refl w).alloc (.cells #[] 9)).cell (hc i hi)⟩) (λ e=>by cases e) (by simp;omega) (by simp) 41
  have H1:=hid h1;have H2:=hid (show AA w' w.heap.size 9 v' (sv ns) from h2);have H3:=hid (Uu h3 ((Ext.refl w).alloc (.cells #[] 9)) (λ g hg=>by simp[Value.ownBlock] at hg;omega));clear h0 h1 h2 h3 hx hp hn hnl;have hnn:=λ W=>Go.Lib.run_eql_slice_nil (P:=prog) W 41 9 (some ad) n cap 0 0 underlying41
  simp only[Option.isNone_some] at hnn;go_in;go_wp2_with (at_builtin;refine jA rfl (.tmp 5) (.tmp 6) _ rfl _ _ _ ?_ ?_ H1.o ?_)
  ·rfl
  ·rfl
  ·go_ret;exact⟨_,rfl,H2.o,H3.o⟩
theorem Tr (k:Int) (w:World):Calls prog 156 #[.nilIface,.iface 47 (iI k)] w λ r w'=>r= .returned (.bool false)/\w=w':=by
 have q:∀w:World,(binOp .eql 110 .nilIface (.iface 47 (iI k))).run prog w= .ok (.bool false) w:=λ w=>by kernel_rfl
 go_in;go_wp2_with fail;go_ret;exact⟨rfl,rfl⟩
def Dn:List Value:=[iI 0,iI 0,iI 0,iI 0,iI 0,iI 0,iI 0,iI 0,iI 0,iI 0,eE,nN,iI 0,nN]
def z7:List Value:=Dn++Dn++Dn++Dn++Dn++Dn++Dn
def VA (tb:Nat) (cs:List Value) (n m:Int) (w:World):Prop:=w.heap[tb]?=some (.cells (cs++(z7++[Value.int .i64 n,Value.int .i64 m])).toArray 118 (0,0))
theorem VA.num {tb:Nat} {r1 r2 r3 r4:Value} (h:VA tb [r0,r1,r2,r3,r4,r5,r6,r7,r8,r9,r10,r11,r12,r13] n m w):w.cell? (dD tb 112)=some (iI n)/\w.cell? (dD tb 113)=some (iI m)/\∀o,w.frozen? (dD tb o)=false:=⟨cO h 112,cO h 113,fO h⟩
theorem VA.row {tb:Nat} {r1 r2 r3 r4:Value} (h:VA tb [r0,r1,r2,r3,r4,r5,r6,r7,r8,r9,r10,r11,r12,r13] n m w):w.cell? (dD tb 0)=some r0/\w.cell? (dD tb 1)=some r1/\w.cell? (dD tb 2)=some r2/\w.cell? (dD tb 3)=some r3/\w.cell? (dD tb 4)=some r4/\w.cell? (dD tb 5)=some r5/\w.cell? (dD tb 6)=some r6/\w.cell? (dD tb 7)=some r7/\w.cell? (dD tb 8)=some r8/\w.cell? (dD tb 9)=some r9/\w.cell? (dD tb 10)=some r10/\w.cell? (dD tb 11)=some r11/\w.cell? (dD tb 12)=some r12/\w.cell? (dD tb 13)=some r13:=⟨cO h 0,cO h 1,cO h 2,cO h 3,cO h 4,cO h 5,cO h 6,cO h 7,cO h 8,cO h 9,cO h 10,cO h 11,cO h 12,cO h 13⟩
theorem NV (m:Nat) (h1:1<=m) (h2:m<=8) (w:World):
  Calls prog 17 #[iI m] w λ r w'=>r= .returned (.tuple #[pP w.heap.size 0,iI 0])/\VA w.heap.size Dn 0 m w'/\Ext w w':=by
 have d1:decide ((m:Int)<1)=false:=by simp;omega
 have d2:decide ((8:Int)<m)=false:=by simp;omega
 go_in;go_wp2_with fail;go_ret2;refine⟨rfl,?_,(Ext.refl w).alloc _⟩;have e:(zeroCells118.setIfInBounds 113 (Value.int .i64 (m:Int)))=(Dn++(z7++[Value.int .i64 0,Value.int .i64 (m:Int)])).toArray:=by kernel_rfl
 unfold VA;rw[e];exact Ub w _
theorem BG {c11 c13:Value} (h:w.heap[g]?=oC #[c0,c1,c2,c3,c4,c5,c6,c7,c8,c9,c10,c11,c12,c13] t):
  w.cell? (dD g 0)=some c0/\w.cell? (dD g 1)=some c1/\w.cell? (dD g 2)=some c2/\w.cell? (dD g 3)=some c3/\w.cell? (dD g 4)=some c4/\w.cell? (dD g 5)=some c5/\w.cell? (dD g 6)=some c6/\w.cell? (dD g 7)=some c7/\w.cell? (dD g 8)=some c8/\w.cell? (dD g 9)=some c9/\w.cell? (dD g 10)=some c10/\w.cell? (dD g 11)=some c11/\w.cell? (dD g 12)=some c12/\w.cell? (dD g 13)=some c13/\(∀o,w.frozen? (dD g o)=false):=⟨cO h 0,cO h 1,cO h 2,cO h 3,cO h 4,cO h 5,cO h 6,cO h 7,cO h 8,cO h 9,cO h 10,cO h 11,cO h 12,cO h 13,fO h⟩
theorem Da {a b:World} (h:Ext a b) (i:Nat) (v:Value):Ext a (b.setCell (dD a.heap.size i) v):=Below.setCell h (Uf _) _
def QB (b:Nat) (a:QV) (x y:Value) (w:World):Prop:=w.heap[b]?=oC (a.cells x y) 43
theorem QB.p11 {a:QV} (h:QB b a x y w) (v:Value):QB b a v y (w.setCell (dD b 11) v):=jP (i:=11) v h
theorem QB.p13 {a:QV} (h:QB b a x y w) (v:Value):QB b a x v (w.setCell (dD b 13) v):=jP (i:=13) v h
theorem QB.on {a:QV} (h:QB b a x y w) (k:Ext w w'):QB b a x y w':=k.heap h
theorem QB.c11 {a:QV} (h:QB b a x y w):w.cell? (dD b 11)=some x:=cO h 11
theorem QB.c13 {a:QV} (h:QB b a x y w):w.cell? (dD b 13)=some y:=cO h 13
def PutD (b:Nat) (w:World) (a:QV) (ns:List ByteArray) (ds:List Int) (wx:World):Prop:=∃n' d',wx.heap[b]?=oC (a.cells n' d') 43/\AA wx w.heap.size 9 n' (sv ns)/\AA wx w.heap.size 5 d' (bv ds)/\Ext w wx
theorem LH {x0 x1 x2 x3 x4 x5 x6 x7 x8 x9 x10 x11 x12 x13 c11 c13:Value} (h:w.heap[g]?=oC #[c0,c1,c2,c3,c4,c5,c6,c7,c8,c9,c10,c11,c12,c13] t):
  (((((((((((((((w.setCell (dD g 0) x0).setCell (dD g 1) x1).setCell (dD g 2) x2).setCell (dD g 3) x3).setCell (dD g 4) x4).setCell (dD g 5) x5).setCell (dD g 6) x6).setCell (dD g 7) x7).setCell (dD g 8) x8).setCell (dD g 9) x9).setCell (dD g 10) x10).setCell (dD g 11) x11).setCell (dD g 12) x12).setCell (dD g 13) x13)).heap[g]?=oC #[x0,x1,x2,x3,x4,x5,x6,x7,x8,x9,x10,x11,x12,x13] t:=by
 replace h:=show _=some (Obj.cells #[x0,c1,c2,c3,c4,c5,c6,c7,c8,c9,c10,c11,c12,c13] t (0,0)) from jP (i:=0) x0 h
 replace h:=show _=some (Obj.cells #[x0,x1,c2,c3,c4,c5,c6,c7,c8,c9,c10,c11,c12,c13] t (0,0)) from jP (i:=1) x1 h
 replace h:=show _=some (Obj.cells #[x0,x1,x2,c3,c4,c5,c6,c7,c8,c9,c10,c11,c12,c13] t (0,0)) from jP (i:=2) x2 h
 replace h:=show _=some (Obj.cells #[x0,x1,x2,x3,c4,c5,c6,c7,c8,c9,c10,c11,c12,c13] t (0,0)) from jP (i:=3) x3 h
 replace h:=show _=some (Obj.cells #[x0,x1,x2,x3,x4,c5,c6,c7,c8,c9,c10,c11,c12,c13] t (0,0)) from jP (i:=4) x4 h
 replace h:=show _=some (Obj.cells #[x0,x1,x2,x3,x4,x5,c6,c7,c8,c9,c10,c11,c12,c13] t (0,0)) from jP (i:=5) x5 h
 replace h:=show _=some (Obj.cells #[x0,x1,x2,x3,x4,x5,x6,c7,c8,c9,c10,c11,c12,c13] t (0,0)) from jP (i:=6) x6 h
 replace h:=show _=some (Obj.cells #[x0,x1,x2,x3,x4,x5,x6,x7,c8,c9,c10,c11,c12,c13] t (0,0)) from jP (i:=7) x7 h
 replace h:=show _=some (Obj.cells #[x0,x1,x2,x3,x4,x5,x6,x7,x8,c9,c10,c11,c12,c13] t (0,0)) from jP (i:=8) x8 h
 replace h:=show _=some (Obj.cells #[x0,x1,x2,x3,x4,x5,x6,x7,x8,x9,c10,c11,c12,c13] t (0,0)) from jP (i:=9) x9 h
 replace h:=show _=some (Obj.cells #[x0,x1,x2,x3,x4,x5,x6,x7,x8,x9,x10,c11,c12,c13] t (0,0)) from jP (i:=10) x10 h
 replace h:=show _=some (Obj.cells #[x0,x1,x2,x3,x4,x5,x6,x7,x8,x9,x10,x11,c12,c13] t (0,0)) from jP (i:=11) x11 h
 replace h:=show _=some (Obj.cells #[x0,x1,x2,x3,x4,x5,x6,x7,x8,x9,x10,x11,x12,c13] t (0,0)) from jP (i:=12) x12 h
 replace h:=show _=some (Obj.cells #[x0,x1,x2,x3,x4,x5,x6,x7,x8,x9,x10,x11,x12,x13] t (0,0)) from jP (i:=13) x13 h
 exact h
theorem VF (w:World) (g:Nat) (x0 x1 x2 x3 x4 x5 x6 x7 x8 x9 x10 x11 x12 x13:Value):Upd [g] w (((((((((((((((w.setCell (dD g 0) x0).setCell (dD g 1) x1).setCell (dD g 2) x2).setCell (dD g 3) x3).setCell (dD g 4) x4).setCell (dD g 5) x5).setCell (dD g 6) x6).setCell (dD g 7) x7).setCell (dD g 8) x8).setCell (dD g 9) x9).setCell (dD g 10) x10).setCell (dD g 11) x11).setCell (dD g 12) x12).setCell (dD g 13) x13)):=
 ((((((((((((((Upd.refl [g] w).setCell _ _ (.inl (by simp))).setCell _ _ (.inl (by simp))).setCell _ _ (.inl (by simp))).setCell _ _ (.inl (by simp))).setCell _ _ (.inl (by simp))).setCell _ _ (.inl (by simp))).setCell _ _ (.inl (by simp))).setCell _ _ (.inl (by simp))).setCell _ _ (.inl (by simp))).setCell _ _ (.inl (by simp))).setCell _ _ (.inl (by simp))).setCell _ _ (.inl (by simp))).setCell _ _ (.inl (by simp))).setCell _ _ (.inl (by simp))
structure Hd (T:TypeId) (hb:Nat) (nm:String) (K:FuncId):Prop where
 nil:∀W:World,(nilAhead 661 T (pP hb 0) nm).run prog W= .ok (some false) W
 met:∀W:World,(method 661 T (pP hb 0) nm).run prog W= .ok (K,pP hb 0) W
 ent:∀(args:Array Value) (W:World),(callFunc K args).run prog W= .ok (.enter K args) W
theorem hmF (fn:Fn) (first cap:Array Value) (w:World):(Instr.makeFunc fn first cap).run prog w= .ok (.func fn first cap) w:=rfl
abbrev CQ (k:FuncId) (args:Array Value) (P Q:World->Prop):Prop:=∀W,P W->Calls prog k args W λ e w'=>e= .returned (.tuple #[])/\Q w'
def DQ (hv av:Nat):Value:= .func (.func 239) #[] #[pP hv 0,pP av 0]
structure Cv (T:TypeId) (hb ab hv av fv:Nat) (W:World):Prop where
 h:W.cell? (dD hv 0)=some (.iface T (pP hb 0))
 a:W.cell? (dD av 0)=some (pP ab 0)
 f:W.cell? (dD fv 0)=some (DQ hv av)
theorem Cv.dr {W:World} (h:Cv T hb ab hv av fv W):(World.drew W).cell? (dD hv 0)=some (.iface T (pP hb 0))/\(World.drew W).cell? (dD av 0)=some (pP ab 0):=⟨h.h,h.a⟩
theorem CJ (args:Array Value) (w:World):(callFunc 239 args).run prog w= .ok (.enter 239 args) w:=by kernel_rfl
theorem GC {K:FuncId} {Q:World->Prop} (N:Hd T hb "truchman/ask.number" K) (h0:w.cell? (dD hv 0)=some (.iface T (pP hb 0))) (h1:w.cell? (dD av 0)=some (pP ab 0)) (H:Calls prog K #[pP hb 0,pP ab 2,iI 32] w.drew λ e w'=>e= .returned (.tuple #[])/\Q w') (C:∀W,Q W->W.cell? (dD hv 0)=some (.iface T (pP hb 0))/\W.cell? (dD av 0)=some (pP ab 0)):
  Calls prog 239 #[pP hv 0,pP av 0] w λ e w'=>e= .returned (.tuple #[])/\Q w':=by
 have n1:=N.nil;have n2:=N.met;have n3:=N.ent;have HH:=hid H;have HC:=hid C;clear H N C;go_in;have hD0:(World.drew w).cell? (dD hv 0)=some (.iface T (pP hb 0)):=h0;have hD1:(World.drew w).cell? (dD av 0)=some (pP ab 0):=h1;go_region_held3 (λ w'=>w'.cell? (dD hv 0)=some (.iface T (pP hb 0))/\w'.cell? (dD av 0)=some (pP ab 0)) (first|exact⟨hD0,hD1⟩|exact⟨(HC.o _ hq).1,(HC.o _ hq).2⟩|assumption) (first|(refine HH.o.mono ?_;rintro e w' ⟨rfl,hq⟩));go_wp2_with fail;go_end0;exact⟨rfl,hq⟩
theorem Ja (n_number:Hd T hb "truchman/ask.number" k_number) (n_text:Hd T hb "truchman/ask.text" k_text) (C:∀W,P0 W\/P1 W\/P2 W->Cv T hb ab hv av fv W) (D0:∀W,P0 W->P0 W.drew) (D1:∀W,P1 W->P1 W.drew) (H0:CQ k_number #[pP hb 0,pP ab 2,iI 32] P0 P1) (H1:CQ k_text #[pP hb 0,pP ab 10] P1 P2) (h:P0 w):Calls prog 241 #[pP fv 0,pP hv 0,pP av 0] w λ e w'=>e= .returned (.tuple #[])/\P2 w':=by
 have x0a:=n_number.nil;have x0b:=n_number.met;have x0c:=n_number.ent;have x1a:=n_text.nil;have x1b:=n_text.met;have x1c:=n_text.ent;have fe:=CJ;have HH0:=hid (λ W h=>H0 (World.drew W) (D0 W h));have HH1:=hid (λ W h=>H1 (World.drew W) (D1 W h));have C0:=λ W (q:P0 W)=>C W (.inl q)
 have C1:=λ W (q:P1 W)=>C W (.inr (.inl q))
 have C2:=λ W (q:P2 W)=>C W (.inr (.inr (q)))
 obtain⟨h0,h1,h2⟩:=C0 _ h;have HF:=hid (GC n_number h0 h1 (HH0.o _ h) (λ W q=>⟨(C1 W q).h,(C1 W q).a⟩));unfold DQ at h2;go_in;go_wp2_with fail;refine HF.o.mono ?_;rintro e w1 ⟨rfl,q1⟩;clear h0 h1 h2;obtain⟨h0,h1,-⟩:=C1 _ q1;go_wp2_with fail;obtain⟨hD0,hD1⟩:=(C1 _ q1).dr;go_region_held3 (λ w'=>w'.cell? (dD hv 0)=some (.iface T (pP hb 0))/\w'.cell? (dD av 0)=some (pP ab 0)) (first|exact⟨hD0,hD1⟩|exact⟨(C2 _ q2).h,(C2 _ q2).a⟩|assumption) (first|(refine(HH1.o _ q1).mono ?_;rintro e w2 ⟨rfl,q2⟩));clear h0 h1 hD0 hD1;go_wp2_with fail;go_end0;exact⟨rfl,q2⟩
theorem IW {k_names:FuncId} (n_names:Hd T hb "truchman/ask.names" k_names) (n_number:Hd T hb "truchman/ask.number" k_number) (C:∀W,P0 W\/P1 W\/P2 W\/P3 W->Cv T hb ab hv av fv W) (D0:∀W,P0 W->P0 W.drew) (D1:∀W,P1 W->P1 W.drew) (D2:∀W,P2 W->P2 W.drew) (H0:CQ k_number #[pP hb 0,pP ab 2,iI 32] P0 P1) (H1:CQ k_number #[pP hb 0,pP ab 3,iI 32] P1 P2) (H2:CQ k_names #[pP hb 0,pP ab 11] P2 P3) (h:P0 w):Calls prog 243 #[pP fv 0,pP hv 0,pP av 0] w λ e w'=>e= .returned (.tuple #[])/\P3 w':=by
 have x0a:=n_names.nil;have x0b:=n_names.met;have x0c:=n_names.ent;have x1a:=n_number.nil;have x1b:=n_number.met;have x1c:=n_number.ent;have fe:=CJ;have HH0:=hid (λ W h=>H0 (World.drew W) (D0 W h));have HH1:=hid (λ W h=>H1 (World.drew W) (D1 W h));have HH2:=hid (λ W h=>H2 (World.drew W) (D2 W h));have C0:=λ W (q:P0 W)=>C W (.inl q)
 have C1:=λ W (q:P1 W)=>C W (.inr (.inl q))
 have C2:=λ W (q:P2 W)=>C W (.inr (.inr (.inl q)))
 have C3:=λ W (q:P3 W)=>C W (.inr (.inr (.inr (q))))
 obtain⟨h0,h1,h2⟩:=C0 _ h;have HF:=hid (GC n_number h0 h1 (HH0.o _ h) (λ W q=>⟨(C1 W q).h,(C1 W q).a⟩));unfold DQ at h2;go_in;go_wp2_with fail;refine HF.o.mono ?_;rintro e w1 ⟨rfl,q1⟩;clear h0 h1 h2;obtain⟨h0,h1,-⟩:=C1 _ q1;go_wp2_with fail;obtain⟨hD0,hD1⟩:=(C1 _ q1).dr;go_region_held3 (λ w'=>w'.cell? (dD hv 0)=some (.iface T (pP hb 0))/\w'.cell? (dD av 0)=some (pP ab 0)) (first|exact⟨hD0,hD1⟩|exact⟨(C2 _ q2).h,(C2 _ q2).a⟩|assumption) (first|(refine(HH1.o _ q1).mono ?_;rintro e w2 ⟨rfl,q2⟩));clear h0 h1 hD0 hD1;obtain⟨h0,h1,-⟩:=C2 _ q2;go_wp2_with fail;obtain⟨hD0,hD1⟩:=(C2 _ q2).dr;go_region_held3 (λ w'=>w'.cell? (dD hv 0)=some (.iface T (pP hb 0))/\w'.cell? (dD av 0)=some (pP ab 0)) (first|exact⟨hD0,hD1⟩|exact⟨(C3 _ q3).h,(C3 _ q3).a⟩|assumption) (first|(refine(HH2.o _ q2).mono ?_;rintro e w3 ⟨rfl,q3⟩));clear h0 h1 hD0 hD1;go_wp2_with fail;go_end0;exact⟨rfl,q3⟩
theorem Pb (n_number:Hd T hb "truchman/ask.number" k_number) (C:∀W,P0 W\/P1 W\/P2 W->Cv T hb ab hv av fv W) (D0:∀W,P0 W->P0 W.drew) (D1:∀W,P1 W->P1 W.drew) (H0:CQ k_number #[pP hb 0,pP ab 2,iI 32] P0 P1) (H1:CQ k_number #[pP hb 0,pP ab 6,iI 8] P1 P2) (h:P0 w):Calls prog 244 #[pP fv 0,pP hv 0,pP av 0] w λ e w'=>e= .returned (.tuple #[])/\P2 w':=by
 have x0a:=n_number.nil;have x0b:=n_number.met;have x0c:=n_number.ent;have fe:=CJ;have HH0:=hid (λ W h=>H0 (World.drew W) (D0 W h));have HH1:=hid (λ W h=>H1 (World.drew W) (D1 W h));have C0:=λ W (q:P0 W)=>C W (.inl q)
 have C1:=λ W (q:P1 W)=>C W (.inr (.inl q))
 have C2:=λ W (q:P2 W)=>C W (.inr (.inr (q)))
 obtain⟨h0,h1,h2⟩:=C0 _ h;have HF:=hid (GC n_number h0 h1 (HH0.o _ h) (λ W q=>⟨(C1 W q).h,(C1 W q).a⟩));unfold DQ at h2;go_in;go_wp2_with fail;refine HF.o.mono ?_;rintro e w1 ⟨rfl,q1⟩;clear h0 h1 h2;obtain⟨h0,h1,-⟩:=C1 _ q1;go_wp2_with fail;obtain⟨hD0,hD1⟩:=(C1 _ q1).dr;go_region_held3 (λ w'=>w'.cell? (dD hv 0)=some (.iface T (pP hb 0))/\w'.cell? (dD av 0)=some (pP ab 0)) (first|exact⟨hD0,hD1⟩|exact⟨(C2 _ q2).h,(C2 _ q2).a⟩|assumption) (first|(refine(HH1.o _ q1).mono ?_;rintro e w2 ⟨rfl,q2⟩));clear h0 h1 hD0 hD1;go_wp2_with fail;go_end0;exact⟨rfl,q2⟩
theorem JZ {P4:World->Prop} (n_number:Hd T hb "truchman/ask.number" k_number) (n_text:Hd T hb "truchman/ask.text" k_text) (C:∀W,P0 W\/P1 W\/P2 W\/P3 W\/P4 W->Cv T hb ab hv av fv W) (D0:∀W,P0 W->P0 W.drew) (D1:∀W,P1 W->P1 W.drew) (D2:∀W,P2 W->P2 W.drew) (D3:∀W,P3 W->P3 W.drew) (H0:CQ k_number #[pP hb 0,pP ab 2,iI 32] P0 P1) (H1:CQ k_text #[pP hb 0,pP ab 10] P1 P2) (H2:CQ k_number #[pP hb 0,pP ab 7,iI 32] P2 P3) (H3:CQ k_number #[pP hb 0,pP ab 6,iI 8] P3 P4) (h:P0 w):Calls prog 245 #[pP fv 0,pP hv 0,pP av 0] w λ e w'=>e= .returned (.tuple #[])/\P4 w':=by
 have x0a:=n_number.nil;have x0b:=n_number.met;have x0c:=n_number.ent;have x1a:=n_text.nil;have x1b:=n_text.met;have x1c:=n_text.ent;have fe:=CJ;have HH0:=hid (λ W h=>H0 (World.drew W) (D0 W h));have HH1:=hid (λ W h=>H1 (World.drew W) (D1 W h));have HH2:=hid (λ W h=>H2 (World.drew W) (D2 W h));have HH3:=hid (λ W h=>H3 (World.drew W) (D3 W h));have C0:=λ W (q:P0 W)=>C W (.inl q)
 have C1:=λ W (q:P1 W)=>C W (.inr (.inl q))
 have C2:=λ W (q:P2 W)=>C W (.inr (.inr (.inl q)))
 have C3:=λ W (q:P3 W)=>C W (.inr (.inr (.inr (.inl q))))
 have C4:=λ W (q:P4 W)=>C W (.inr (.inr (.inr (.inr (q)))))
 obtain⟨h0,h1,h2⟩:=C0 _ h;have HF:=hid (GC n_number h0 h1 (HH0.o _ h) (λ W q=>⟨(C1 W q).h,(C1 W q).a⟩));unfold DQ at h2;go_in;go_wp2_with fail;refine HF.o.mono ?_;rintro e w1 ⟨rfl,q1⟩;clear h0 h1 h2;obtain⟨h0,h1,-⟩:=C1 _ q1;go_wp2_with fail;obtain⟨hD0,hD1⟩:=(C1 _ q1).dr;go_region_held3 (λ w'=>w'.cell? (dD hv 0)=some (.iface T (pP hb 0))/\w'.cell? (dD av 0)=some (pP ab 0)) (first|exact⟨hD0,hD1⟩|exact⟨(C2 _ q2).h,(C2 _ q2).a⟩|assumption) (first|(refine(HH1.o _ q1).mono ?_;rintro e w2 ⟨rfl,q2⟩));clear h0 h1 hD0 hD1;obtain⟨h0,h1,-⟩:=C2 _ q2;go_wp2_with fail;obtain⟨hD0,hD1⟩:=(C2 _ q2).dr;go_region_held3 (λ w'=>w'.cell? (dD hv 0)=some (.iface T (pP hb 0))/\w'.cell? (dD av 0)=some (pP ab 0)) (first|exact⟨hD0,hD1⟩|exact⟨(C3 _ q3).h,(C3 _ q3).a⟩|assumption) (first|(refine(HH2.o _ q2).mono ?_;rintro e w3 ⟨rfl,q3⟩));clear h0 h1 hD0 hD1;obtain⟨h0,h1,-⟩:=C3 _ q3;go_wp2_with fail;obtain⟨hD0,hD1⟩:=(C3 _ q3).dr;go_region_held3 (λ w'=>w'.cell? (dD hv 0)=some (.iface T (pP hb 0))/\w'.cell? (dD av 0)=some (pP ab 0)) (first|exact⟨hD0,hD1⟩|exact⟨(C4 _ q4).h,(C4 _ q4).a⟩|assumption) (first|(refine(HH3.o _ q3).mono ?_;rintro e w4 ⟨rfl,q4⟩));clear h0 h1 hD0 hD1;go_wp2_with fail;go_end0;exact⟨rfl,q4⟩
theorem Pa (n_number:Hd T hb "truchman/ask.number" k_number) (C:∀W,P0 W\/P1 W\/P2 W\/P3 W->Cv T hb ab hv av fv W) (D0:∀W,P0 W->P0 W.drew) (D1:∀W,P1 W->P1 W.drew) (D2:∀W,P2 W->P2 W.drew) (H0:CQ k_number #[pP hb 0,pP ab 2,iI 32] P0 P1) (H1:CQ k_number #[pP hb 0,pP ab 8,iI 64] P1 P2) (H2:CQ k_number #[pP hb 0,pP ab 9,iI 32] P2 P3) (h:P0 w):Calls prog 246 #[pP fv 0,pP hv 0,pP av 0] w λ e w'=>e= .returned (.tuple #[])/\P3 w':=by
 have x0a:=n_number.nil;have x0b:=n_number.met;have x0c:=n_number.ent;have fe:=CJ;have HH0:=hid (λ W h=>H0 (World.drew W) (D0 W h));have HH1:=hid (λ W h=>H1 (World.drew W) (D1 W h));have HH2:=hid (λ W h=>H2 (World.drew W) (D2 W h));have C0:=λ W (q:P0 W)=>C W (.inl q)
 have C1:=λ W (q:P1 W)=>C W (.inr (.inl q))
 have C2:=λ W (q:P2 W)=>C W (.inr (.inr (.inl q)))
 have C3:=λ W (q:P3 W)=>C W (.inr (.inr (.inr (q))))
 obtain⟨h0,h1,h2⟩:=C0 _ h;have HF:=hid (GC n_number h0 h1 (HH0.o _ h) (λ W q=>⟨(C1 W q).h,(C1 W q).a⟩));unfold DQ at h2;go_in;go_wp2_with fail;refine HF.o.mono ?_;rintro e w1 ⟨rfl,q1⟩;clear h0 h1 h2;obtain⟨h0,h1,-⟩:=C1 _ q1;go_wp2_with fail;obtain⟨hD0,hD1⟩:=(C1 _ q1).dr;go_region_held3 (λ w'=>w'.cell? (dD hv 0)=some (.iface T (pP hb 0))/\w'.cell? (dD av 0)=some (pP ab 0)) (first|exact⟨hD0,hD1⟩|exact⟨(C2 _ q2).h,(C2 _ q2).a⟩|assumption) (first|(refine(HH1.o _ q1).mono ?_;rintro e w2 ⟨rfl,q2⟩));clear h0 h1 hD0 hD1;obtain⟨h0,h1,-⟩:=C2 _ q2;go_wp2_with fail;obtain⟨hD0,hD1⟩:=(C2 _ q2).dr;go_region_held3 (λ w'=>w'.cell? (dD hv 0)=some (.iface T (pP hb 0))/\w'.cell? (dD av 0)=some (pP ab 0)) (first|exact⟨hD0,hD1⟩|exact⟨(C3 _ q3).h,(C3 _ q3).a⟩|assumption) (first|(refine(HH2.o _ q2).mono ?_;rintro e w3 ⟨rfl,q3⟩));clear h0 h1 hD0 hD1;go_wp2_with fail;go_end0;exact⟨rfl,q3⟩
theorem Lk {k_data:FuncId} (n_data:Hd T hb "truchman/ask.data" k_data) (n_number:Hd T hb "truchman/ask.number" k_number) (C:∀W,P0 W\/P1 W\/P2 W\/P3 W->Cv T hb ab hv av fv W) (D0:∀W,P0 W->P0 W.drew) (D1:∀W,P1 W->P1 W.drew) (D2:∀W,P2 W->P2 W.drew) (H0:CQ k_number #[pP hb 0,pP ab 2,iI 32] P0 P1) (H1:CQ k_number #[pP hb 0,pP ab 8,iI 64] P1 P2) (H2:CQ k_data #[pP hb 0,pP ab 13] P2 P3) (h:P0 w):Calls prog 247 #[pP fv 0,pP hv 0,pP av 0] w λ e w'=>e= .returned (.tuple #[])/\P3 w':=by
 have x0a:=n_data.nil;have x0b:=n_data.met;have x0c:=n_data.ent;have x1a:=n_number.nil;have x1b:=n_number.met;have x1c:=n_number.ent;have fe:=CJ;have HH0:=hid (λ W h=>H0 (World.drew W) (D0 W h));have HH1:=hid (λ W h=>H1 (World.drew W) (D1 W h));have HH2:=hid (λ W h=>H2 (World.drew W) (D2 W h));have C0:=λ W (q:P0 W)=>C W (.inl q)
 have C1:=λ W (q:P1 W)=>C W (.inr (.inl q))
 have C2:=λ W (q:P2 W)=>C W (.inr (.inr (.inl q)))
 have C3:=λ W (q:P3 W)=>C W (.inr (.inr (.inr (q))))
 obtain⟨h0,h1,h2⟩:=C0 _ h;have HF:=hid (GC n_number h0 h1 (HH0.o _ h) (λ W q=>⟨(C1 W q).h,(C1 W q).a⟩));unfold DQ at h2;go_in;go_wp2_with fail;refine HF.o.mono ?_;rintro e w1 ⟨rfl,q1⟩;clear h0 h1 h2;obtain⟨h0,h1,-⟩:=C1 _ q1;go_wp2_with fail;obtain⟨hD0,hD1⟩:=(C1 _ q1).dr;go_region_held3 (λ w'=>w'.cell? (dD hv 0)=some (.iface T (pP hb 0))/\w'.cell? (dD av 0)=some (pP ab 0)) (first|exact⟨hD0,hD1⟩|exact⟨(C2 _ q2).h,(C2 _ q2).a⟩|assumption) (first|(refine(HH1.o _ q1).mono ?_;rintro e w2 ⟨rfl,q2⟩));clear h0 h1 hD0 hD1;obtain⟨h0,h1,-⟩:=C2 _ q2;go_wp2_with fail;obtain⟨hD0,hD1⟩:=(C2 _ q2).dr;go_region_held3 (λ w'=>w'.cell? (dD hv 0)=some (.iface T (pP hb 0))/\w'.cell? (dD av 0)=some (pP ab 0)) (first|exact⟨hD0,hD1⟩|exact⟨(C3 _ q3).h,(C3 _ q3).a⟩|assumption) (first|(refine(HH2.o _ q2).mono ?_;rintro e w3 ⟨rfl,q3⟩));clear h0 h1 hD0 hD1;go_wp2_with fail;go_end0;exact⟨rfl,q3⟩
theorem Lj {k_size:FuncId} (n_number:Hd T hb "truchman/ask.number" k_number) (n_size:Hd T hb "truchman/ask.size" k_size) (n_text:Hd T hb "truchman/ask.text" k_text) (C:∀W,P0 W\/P1 W\/P2 W\/P3 W->Cv T hb ab hv av fv W) (D0:∀W,P0 W->P0 W.drew) (D1:∀W,P1 W->P1 W.drew) (D2:∀W,P2 W->P2 W.drew) (H0:CQ k_number #[pP hb 0,pP ab 2,iI 32] P0 P1) (H1:CQ k_size #[pP hb 0,pP ab 12] P1 P2) (H2:CQ k_text #[pP hb 0,pP ab 10] P2 P3) (h:P0 w):Calls prog 248 #[pP fv 0,pP hv 0,pP av 0] w λ e w'=>e= .returned (.tuple #[])/\P3 w':=by
 have x0a:=n_number.nil;have x0b:=n_number.met;have x0c:=n_number.ent;have x1a:=n_size.nil;have x1b:=n_size.met;have x1c:=n_size.ent;have x2a:=n_text.nil;have x2b:=n_text.met;have x2c:=n_text.ent;have fe:=CJ;have HH0:=hid (λ W h=>H0 (World.drew W) (D0 W h));have HH1:=hid (λ W h=>H1 (World.drew W) (D1 W h));have HH2:=hid (λ W h=>H2 (World.drew W) (D2 W h));have C0:=λ W (q:P0 W)=>C W (.inl q)
 have C1:=λ W (q:P1 W)=>C W (.inr (.inl q))
 have C2:=λ W (q:P2 W)=>C W (.inr (.inr (.inl q)))
 have C3:=λ W (q:P3 W)=>C W (.inr (.inr (.inr (q))))
 obtain⟨h0,h1,h2⟩:=C0 _ h;have HF:=hid (GC n_number h0 h1 (HH0.o _ h) (λ W q=>⟨(C1 W q).h,(C1 W q).a⟩));unfold DQ at h2;go_in;go_wp2_with fail;refine HF.o.mono ?_;rintro e w1 ⟨rfl,q1⟩;clear h0 h1 h2;obtain⟨h0,h1,-⟩:=C1 _ q1;go_wp2_with fail;obtain⟨hD0,hD1⟩:=(C1 _ q1).dr;go_region_held3 (λ w'=>w'.cell? (dD hv 0)=some (.iface T (pP hb 0))/\w'.cell? (dD av 0)=some (pP ab 0)) (first|exact⟨hD0,hD1⟩|exact⟨(C2 _ q2).h,(C2 _ q2).a⟩|assumption) (first|(refine(HH1.o _ q1).mono ?_;rintro e w2 ⟨rfl,q2⟩));clear h0 h1 hD0 hD1;obtain⟨h0,h1,-⟩:=C2 _ q2;go_wp2_with fail;obtain⟨hD0,hD1⟩:=(C2 _ q2).dr;go_region_held3 (λ w'=>w'.cell? (dD hv 0)=some (.iface T (pP hb 0))/\w'.cell? (dD av 0)=some (pP ab 0)) (first|exact⟨hD0,hD1⟩|exact⟨(C3 _ q3).h,(C3 _ q3).a⟩|assumption) (first|(refine(HH2.o _ q2).mono ?_;rintro e w3 ⟨rfl,q3⟩));clear h0 h1 hD0 hD1;go_wp2_with fail;go_end0;exact⟨rfl,q3⟩
end Go.Proofs.YtdakioiagpkfhaaGreatDoor
