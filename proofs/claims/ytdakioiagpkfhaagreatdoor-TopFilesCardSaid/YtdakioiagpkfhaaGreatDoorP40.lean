import Derived.Test.YtdakioiagpkfhaaGreatDoorP38
set_option maxRecDepth 99999
set_option maxHeartbeats 0
set_option linter.all false
namespace Go.Proofs.YtdakioiagpkfhaaGreatDoor
open RowKit Conc
open Go.Proofs.Tryz
variable {P:Program} {a:QV} {ds zs:List Int} {dv:Value} {ns:List ByteArray} {o:Option QI} {t:TV} {w w':World}
def Cg (base:Nat) (qv dv:Value) (o:Option QI) (zs:List Int) (w:World):Prop:=
 SlQ w qv o/\Sl w dv zs/\(∀g,qv.ownBlock=some g->base<=g/\g<w.heap.size)/\∀g,dv.ownBlock=some g->base<=g/\g<w.heap.size
theorem Cg.nil (base:Nat) (w:World):Cg base (nN) (nN) none [] w:=
 ⟨⟨_,_,rfl⟩,Sl.nil w,λ _ h=>by simp[Value.ownBlock] at h,λ _ h=>by simp[Value.ownBlock] at h⟩
theorem Cg.upd {base b2:Nat} {qv:Value} {S:List Nat} (h:Cg base qv dv o zs w) (hu:Upd S w w') (hb:b2<=base) (hs:∀b∈S,b<base\/w.heap.size<=b):Cg b2 qv dv o zs w':=by
 obtain⟨h1,h2,h3,h4⟩:=h;have hz:=hu.size;have k3:∀g,qv.ownBlock=some g->g∉S:=λ g hg hm=>by have:=h3 g hg;have:=hs g hm;omega
 have k4:∀g,dv.ownBlock=some g->g∉S:=λ g hg hm=>by have:=h4 g hg;have:=hs g hm;omega
 exact⟨h1.upd hu (λ g p hv=>by rcases hv with hv|⟨c,hv⟩<;>exact k3 g (by rw[hv];rfl)),h2.updv hu k4,λ g hg=>by have:=h3 g hg;omega,λ g hg=>by have:=h4 g hg;omega⟩
section
variable {I:Option AE->Nat->World->List Nat->Prop} {sp fb room nodes gp pb mb n n':Nat} {l l':List (Int×FV)} {st st':Option AE} {w:World} {G:List Nat}
theorem DO (A:DJ sp fb room nodes I) (h:GS I sp gp pb mb l st n w G) {g:Nat} {nv:Value} {T:TV} (h1:100<=a.typ/\a.typ<=126) (hg:look LX a.typ=some (fnv g)) (eg:∀args w,(callFunc g args).run prog w= .ok (.enter g args) w) (hT:T.typ=0/\T.tag=0) (H:∀W,Ext w W->GS I sp gp pb mb l st n W G->Calls prog g #[pP gp 0,a.val nv dv] W λ r w'=>∃(qa:Option Addr) (qn qc:Nat) (da:Option Addr) (dn dc:Nat),r= .returned (.tuple #[T.val (.slice qa qn qc) (.slice da dn dc),iI 0])/\Cg W.heap.size (.slice qa qn qc) (.slice da dn dc) o zs w'/\∃G',GS I sp gp pb mb l' st' n' w' G'/\Mv W w' G G'):
  Calls prog 70 #[pP gp 0,a.val nv dv] w λ r w'=>∃qv dv,r= .returned (({T with typ:=a.typ+1,tag:=a.tag}:TV).val qv dv)/\Cg w.heap.size qv dv o zs w'/\∃G',GS I sp gp pb mb l' st' n' w' G'/\Mv w w' G G':=by
 have hL:=(GS.loc A.loc).1 _ _ h;have hI:=A.loc;refine(gdo (R:=λ t qv dv W w1=>t=T/\Cg W.heap.size qv dv o zs w1/\∃G',GS I sp gp pb mb l' st' n' w1 G'/\Mv W w1 G G') (R':=λ t qv dv w2=>t=T/\Cg w.heap.size qv dv o zs w2/\∃G',GS I sp gp pb mb l' st' n' w2 G'/\Mv w w2 G G') ⟨rfl,rfl⟩ h1 hg eg ?_ ?_ ?_).mono ?_
 ·intro W X;refine(H W X (h.ext hI X)).mono ?_;rintro r w' ⟨qa,qn,qc,da,dn,dc,rfl,hR,G',hG,hM⟩;exact⟨T,qa,qn,qc,da,dn,dc,hT.1,hT.2,rfl,rfl,hR,G',hG,hM⟩
 ·rintro t qv dv W w1 X ⟨rfl,hR,G',hG,hM⟩;exact⟨hM.size,λ b x hb hx=>hM.1.heap hx (λ hm=>by have:=hL b hm;omega)⟩
 ·rintro t qv dv W w1 w2 S X hz ⟨rfl,hR,G',hG,hM⟩ hu hS;have hG2:=(GS.loc hI).1 _ _ hG;have hz1:=hM.size;refine⟨rfl,hR.upd hu (by omega) (λ b hb=>by have:=hS b hb;omega),G',(GS.loc hI).2 _ _ _ _ hG hu (λ b hb hm=> ?_),((X.upd G).trans hM.1).trans2 hu (λ b hb=>by have:=hS b hb;omega),λ b hb=> ?_⟩
  ·have:=hS b hm;have:=hG2 b hb;rcases hM.2 b hb with k|k
   ·have:=hL b k;omega
   ·omega
  ·rcases hM.2 b hb with k|k
   ·exact .inl k
   ·exact .inr (by omega)
 ·rintro r w' ⟨t,qv,dv,rfl,rfl,hR,hG⟩;exact⟨qv,dv,rfl,hR,hG⟩
end
inductive GOp (room:Nat):List (Int×FV)->Option AE->Nat->QV->List ByteArray->List Int->List (Int×FV)->Option AE->Nat->TV->Option QI->List Int->Prop
 |attach {l:List (Int×FV)} {st:Option AE} {n:Nat} {tag k:Int} {name:ByteArray}:Ah l k=none->l.length<16->n<99->
   GOp room l st n {typ:=104,tag:=tag,fid:=k,name:=name} [] [] (l++[(k,⟨1,1,1,1,⟨#[]⟩,true,false,0,0,0⟩)]) st (n+1) {typ:=105,tag:=tag,q:=⟨true,1,1⟩} none []
 |walk0 {l:List (Int×FV)} {st:Option AE} {n:Nat} {tag k k2 f3 f4 f8 f9 f10:Int} {f5:ByteArray} {f6:Bool}:Ah l k=some ⟨1,1,f3,f4,f5,f6,false,f8,f9,f10⟩->Ah l k2=none->k2≠k->l.length<16->n<99->
   GOp room l st n {typ:=110,tag:=tag,fid:=k,nfid:=k2} [] [] (l++[(k2,⟨1,1,f3,f4,f5,f6,false,f8,f9,f10⟩)]) st n {typ:=111,tag:=tag} none []
 |walk1 {l:List (Int×FV)} {f:AE} {n:Nat} {tag k k2 f3 f4 f8 f9 f10:Int} {f5:ByteArray} {f6:Bool}:Ay f->AP f.name->Ah l k=some ⟨1,1,f3,f4,f5,f6,false,f8,f9,f10⟩->Ah l k2=none->k2≠k->l.length<16->n<99->
   GOp room l (some f) n {typ:=110,tag:=tag,fid:=k,nfid:=k2} [f.name] [] (l++[(k2,⟨2,1,1,1,f.name,false,false,0,0,0⟩)]) (some f) (n+1) {typ:=111,tag:=tag} (some ⟨false,1,2⟩) []
 |walkx {l:List (Int×FV)} {f:AE} {n:Nat} {tag k k2 f3 f4 f8 f9 f10:Int} {f5 s:ByteArray} {f6:Bool}:Ay f->AP s->f.name≠s->Ah l k=some ⟨1,1,f3,f4,f5,f6,false,f8,f9,f10⟩->Ah l k2=none->k2≠k->l.length<16->n<99->
   GOp room l (some f) n {typ:=110,tag:=tag,fid:=k,nfid:=k2} [s] [] l (some f) (n+1) {typ:=107,tag:=tag,code:=2} none []
 |open_ {l:List (Int×FV)} {f:AE} {n:Nat} {tag k f3 f4 f8 f9 f10:Int} {f5:ByteArray} {f6:Bool}:Ay f->Ah l k=some ⟨2,1,f3,f4,f5,f6,false,f8,f9,f10⟩->n<99->
   GOp room l (some f) n {typ:=112,tag:=tag,fid:=k} [] [] (EE l k ⟨2,1,f3,f4,f5,f6,true,0,0,0⟩) (some f) (n+1) {typ:=113,tag:=tag,iounit:=1000,q:=⟨false,1,2⟩} none []
 |create {l:List (Int×FV)} {n:Nat} {tag k m f3 f4 f8 f9 f10:Int} {f5 s:ByteArray} {f6:Bool}:m=0\/m=1\/m=2->AP s->Ah l k=some ⟨1,1,f3,f4,f5,f6,false,f8,f9,f10⟩->n<99->
   GOp room l none n {typ:=114,tag:=tag,fid:=k,mode:=m,perm:=420,name:=s} [] [] (EE l k ⟨2,1,1,1,s,false,true,m,0,0⟩) (some {name:=s,md:=420}) (n+1) {typ:=115,tag:=tag,iounit:=1000,q:=⟨false,1,2⟩} none []
 |read {l:List (Int×FV)} {f:AE} {n o kc:Nat} {tag k m f3 f4 f9 f10:Int} {f5:ByteArray}:Ay f->Wf f.zs->o<=5000->kc<=1000->m=0\/m=2->Ah l k=some ⟨2,1,f3,f4,f5,false,true,m,f9,f10⟩->n<99->
   GOp room l (some f) n {typ:=116,tag:=tag,fid:=k,off:=o,count:=kc} [] [] l (some f) (n+1) {typ:=117,tag:=tag} none ((f.zs.drop o).take kc)
 |write {l:List (Int×FV)} {f:AE} {n o:Nat} {ds:List Int} {tag k m f3 f4 f9 f10:Int} {f5:ByteArray} {f6:Bool}:f.fresh=true->Ay f->o+ds.length<=1000->o+ds.length<=room->room<=100000->m=1\/m=2->Ah l k=some ⟨2,1,f3,f4,f5,f6,true,m,f9,f10⟩->n<99->
   GOp room l (some f) n {typ:=118,tag:=tag,fid:=k,off:=o} [] ds l (some {f with zs:=wrote o ds,fresh:=false}) (n+1) {typ:=119,tag:=tag,count:=ds.length} none []
 |wstat {l:List (Int×FV)} {f:AE} {n:Nat} {tag k f8 f9 f10:Int} {s:ByteArray} {f6 f7:Bool}:Ay f->AP f.name->AP s->Ah l k=some ⟨2,1,1,1,f.name,f6,f7,f8,f9,f10⟩->n<99->
   GOp room l (some f) n {typ:=126,tag:=tag,fid:=k,name:=s,size:= -1} [] [] (EE l k ⟨2,1,1,1,s,f6,f7,f8,f9,f10⟩) (some {f with name:=s}) (n+2) {typ:=127,tag:=tag} none []
section
variable {I:Option AE->Nat->World->List Nat->Prop} {sp fb room nodes gp pb mb n n':Nat} {l l':List (Int×FV)} {st st':Option AE} {w:World} {G:List Nat}
theorem RX (A:DJ sp fb room nodes I) (op:GOp room l st n a ns ds l' st' n' t o zs) (hne:a.typ≠110\/t.typ≠107) (h:GS I sp gp pb mb l st n w G) {nv:Value} (hn:SlS w nv ns) (hd:Sl w dv ds) (hdb:∀g,dv.ownBlock=some g->g<w.heap.size):
  Calls prog 70 #[pP gp 0,a.val nv dv] w λ r w'=>∃qv dv,r= .returned (t.val qv dv)/\Cg w.heap.size qv dv o zs w'/\∃G',GS I sp gp pb mb l' st' n' w' G'/\Mv w w' G G':=by
 cases op with
 |attach h1 h2 h3=>
  refine DO A h (T:={typ:=0,q:=⟨true,1,1⟩}) (by simp) rfl (AL func161 (by kernel_rfl) rfl) ⟨rfl,rfl⟩ (λ W X hG=> ?_);refine(Ra A rfl hG (by omega) h1 h2).mono ?_;rintro r w' ⟨rfl,G',hG',hM⟩;exact⟨none,0,0,none,0,0,rfl,Cg.nil _ _,G',hG',hM⟩
 |walk0 h1 h2 h3 h4 h5=>
  obtain⟨na,nc,rfl,-⟩:=hn;refine DO A h (T:={typ:=0}) (by simp) rfl (AL func163 (by kernel_rfl) rfl) ⟨rfl,rfl⟩ (λ W X hG=> ?_);refine(T2 A ⟨rfl,rfl⟩ h3 hG (by omega) h1 h2 h4).mono ?_;rintro r w' ⟨rfl,G',hG',hM⟩;exact⟨none,0,0,none,0,0,rfl,Cg.nil _ _,G',hG',hM⟩
 |walk1 hf hg h1 h2 h3 h4 h5=>
  obtain⟨na,nc,rfl,-,hn1,hn2,hn3⟩:=hn;obtain⟨ng,no,rfl,hc⟩:=hn3.resolve_left (by simp);refine DO A h (T:={typ:=0}) (o:=some ⟨false,1,2⟩) (by simp) rfl (AL func163 (by kernel_rfl) rfl) ⟨rfl,rfl⟩ (λ W X hG=> ?_);refine(T0 A hf hg rfl ⟨rfl,rfl⟩ h3 (X.cell (hc 0 (by simp))) ⟨hn1,hn2⟩ hG (by omega) h1 h2 h4).mono ?_;rintro r w' ⟨qg,qc,rfl,hQ,hq1,hq2,G',hG',hM⟩;exact⟨_,1,qc,none,0,0,rfl,⟨hQ,Sl.nil _,λ g hg=>by simp[Value.ownBlock] at hg;omega,λ g hg=>by simp[Value.ownBlock] at hg⟩,G',hG',hM⟩
 |walkx hf hg hne2 h1 h2 h3 h4 h5=>simp at hne
 |open_ hf h1 h5=>
  refine DO A h (T:={typ:=0,iounit:=1000,q:=⟨false,1,2⟩}) (by simp) rfl (AL func164 (by kernel_rfl) rfl) ⟨rfl,rfl⟩ (λ W X hG=> ?_);refine(gopen A hf ⟨rfl,rfl⟩ hG (by omega) h1).mono ?_;rintro r w' ⟨rfl,G',hG',hM⟩;exact⟨none,0,0,none,0,0,rfl,Cg.nil _ _,G',hG',hM⟩
 |create hm hs h1 h5=>
  refine DO A h (T:={typ:=0,iounit:=1000,q:=⟨false,1,2⟩}) (by simp) rfl (AL func165 (by kernel_rfl) rfl) ⟨rfl,rfl⟩ (λ W X hG=> ?_);refine(RZ A ⟨rfl,rfl,rfl,rfl⟩ hm hs hG (by omega) h1).mono ?_;rintro r w' ⟨rfl,G',hG',hM⟩;exact⟨none,0,0,none,0,0,rfl,Cg.nil _ _,G',hG',hM⟩
 |read hf hw ho hkc hm h1 h5=>
  refine DO A h (T:={typ:=0}) (by simp) rfl (AL func166 (by kernel_rfl) rfl) ⟨rfl,rfl⟩ (λ W X hG=> ?_);refine(gread A hf hw ho hkc hm ⟨rfl,rfl,rfl⟩ rfl hG (by omega) h1).mono ?_;rintro r w' ⟨v,rfl,hO,G',hG',hM⟩;have hS:=hO.sl (λ z hz=>hw z (List.mem_of_mem_drop (List.mem_of_mem_take hz)));obtain⟨va,vc,rfl,-⟩:=id hS;exact⟨none,0,0,_,_,_,rfl,⟨⟨_,_,rfl⟩,hS,λ g hg=>by simp[Value.ownBlock] at hg,λ g hg=>hO.lt hg⟩,G',hG',hM⟩
 |write hfr hf h1 h2 h3 hm h4 h5=>
  refine DO A h (T:={typ:=0,count:=ds.length}) (by simp) rfl (AL func167 (by kernel_rfl) rfl) ⟨rfl,rfl⟩ (λ W X hG=> ?_);refine(Tx A hfr hf h1 h2 h3 hm ⟨rfl,rfl⟩ (hd.ext X) (λ g hg=>Nat.lt_of_lt_of_le (hdb g hg) X.size) hG (by omega) h4).mono ?_;rintro r w' ⟨rfl,G',hG',hM⟩;exact⟨none,0,0,none,0,0,rfl,Cg.nil _ _,G',hG',hM⟩
 |wstat hf hg hs h1 h5=>
  refine DO A h (T:={typ:=0}) (by simp) rfl (AL func171 (by kernel_rfl) rfl) ⟨rfl,rfl⟩ (λ W X hG=> ?_);refine(Tw A hf hg hs rfl ⟨rfl,rfl,rfl⟩ hG (by omega) h1).mono ?_;rintro r w' ⟨rfl,G',hG',hM⟩;exact⟨none,0,0,none,0,0,rfl,Cg.nil _ _,G',hG',hM⟩
end
theorem CE {o:Oper} {a:Act} {p v:Value} {ty:TypeId} {x y:Operand} (ho:o.op= .store ty x y) (hx:a.eval x=p) (hy:a.eval y=v) (hr:(Instr.storeAt ty p v).run P w= .ok () w'):(execOp a.eval o).run P w= .ok .skip w':=by
 unfold execOp;simp only[ho,hx,hy,Sem.run_bind,Sem.run_pure,Result.andThen_ok,hr]
theorem AB.skip {ops:Array Oper} {i:Nat} {o:Oper} {a:Act} {K:Act->World->Prop} (ho:ops[i]?=some o) (hg:o.guard=none) (hr:(execOp a.eval o).run P w= .ok .skip w') (h:K (a.put o.dst undef) w'):AB P ops i a w K:=by
 intro b k cs rest;refine⟨_,_,h,.one (step_lone_go ?_)⟩;rw[stepG_op ho (by simp[Region.wanted,hg]),<-Du b k rest ho];simp[stepG.apply,hr]
theorem RW {gp:Nat} {nv:Value} (ha:a.typ=110) {R:World->World->Prop} {R':World->Prop} (H:∀W,Ext w W->Calls prog 163 #[pP gp 0,a.val nv dv] W λ r w'=>r= .returned (.tuple #[({typ:=0}:TV).val (nN) (nN),iI 9])/\R W w') (hk:∀W w1,Ext w W->R W w1->Aw w1/\W.heap.size<=w1.heap.size/\∀b x,w.heap.size<=b->W.heap[b]?=some x->w1.heap[b]?=some x) (hR:∀W w1 w2 S,Ext w W->w.heap.size+2<=W.heap.size->R W w1->Upd S w1 w2->(∀b∈S,b=w.heap.size+1\/w1.heap.size<=b)->R' w2):
  Calls prog 70 #[pP gp 0,a.val nv dv] w λ r w'=>r= .returned (({typ:=107,tag:=a.tag,code:=2}:TV).val (nN) (nN))/\R' w':=by
 have HH:=hid H;have HK:=hid hk;have HR:=hid hR;have HG:=hid (show look LX 110=some (fnv 163) from rfl);have eg:∀args w,(callFunc 163 args).run prog w= .ok (.enter 163 args) w:=AL func163 (by kernel_rfl) rfl;simp only[QV.val,ha] at HH|-
 dsimp only[TV.val] at HH|-
 clear H hk hR ha;go_in;go_upto_region 1 with fail;obtain⟨W0,hW0⟩:∃W,W=((w.alloc (.cells (aA 110 a.tag a.fid a.nfid a.otag a.msize a.mode a.perm a.off a.count a.name nv a.size dv) 43)).alloc (.cells tZ 39)):=⟨_,rfl⟩;rw[<-hW0];obtain⟨hA0,hT0,X0⟩:=AH w (.cells (aA 110 a.tag a.fid a.nfid a.otag a.msize a.mode a.perm a.off a.count a.name nv a.size dv) 43) (.cells tZ 39);rw[<-hW0] at hA0 hT0 X0;have hz0:w.heap.size+2<=W0.heap.size:=by rw[hW0];simp
 have HX0:=hid X0;have HA0:=hid hA0;have HT0:=hid hT0;have c0:W0.cell? (dD w.heap.size 0)=some (iI 110):=cO hA0 0;clear hW0 hA0 hT0 X0;go_wp2_with fail;go_region_held3 (λ w'=>w'.cell? (dD w.heap.size 0)=some (iI 110)/\Ext W0 w') (first|exact⟨c0,(Ext.refl W0).drew⟩|exact En (by assumption) M1.ext|assumption) (first|(go_at_call 112;refine(GV _).mono ?_;rintro r w1 ⟨m,rfl,M1⟩;have hl:=M1.is.lookup (P:=prog) underlying236 underlying3 (NC w1) 110;rw[HG.o] at hl;simp only[Option.getD_some,Option.isSome_some,fnv] at hl));have HY1:=hid (show Ext W0 w1 from Uk (by assumption));have HX1:=hid (HX0.o.trans HY1.o);clear M1 c0;obtain⟨b0,b1,b2,b3,b4,b5,b6,b7,b8,b9,b10,b11,b12,b13,bf⟩:=BG (HY1.o.heap HA0.o);have hbs:=lH (HY1.o.heap HA0.o);have hz1:=HY1.o.size;go_wp2_with fail;refine(HH.o w1 HX1.o).mono ?_
 as_aux_lemma=>
  rintro r w3 ⟨rfl,hRc⟩;obtain⟨htab,hz3,hkk⟩:=HK.o w1 w3 HX1.o hRc;have HRc:=hid hRc;have HA3:=hid (hkk _ _ (Uf _) (HY1.o.heap HA0.o));have HT3:=hid (hkk _ _ (by omega) (HY1.o.heap HT0.o));have HTb:=hid htab;clear b0 b1 b2 b3 b4 b5 b6 b7 b8 b9 b10 b11 b12 b13 bf hRc hkk hl htab;go_upto_region 5 with fail;obtain⟨W4,hW4⟩:∃W,W=w3.alloc (.cells tZ 39):=⟨_,rfl⟩;rw[<-hW4];have XW4:Ext w3 W4:=by rw[hW4];exact(Ext.refl _).alloc _
  clear hW4;have HA4:=hid (XW4.heap HA3.o);have HT4:=hid (XW4.heap HT3.o);have HX4:=hid XW4;have HC:=hid (λ W (X:Ext W4 W)=>show Calls prog 114 #[iI 9] W λ r w'=>r= .returned (iI 2)/\Ext W w' from PT 9 W (HTb.o.ext (XW4.trans X)));have c1:W4.cell? (dD w.heap.size 1)=some (iI a.tag):=cO HA4.o 1;clear XW4;go_cut [3,4,8,30] (λ q3 q4 q8 q30 wx=>q3= pP w.heap.size 0/\q4= pP (w.heap.size+1) 0/\q8= iI 9/\q30= .bool true/\W4=wx)
  case first=>
   go_wp2_with fail;go_meet
   case rel=>exact⟨rfl,rfl,rfl,rfl,rfl⟩
  case rest=>
  obtain⟨rfl,rfl,rfl,rfl,rfl⟩:=hcut;go_wp2_with fail;have HSt:=hid (λ W (X:Ext W4 W)=>show(Instr.storeAt 39 (pP (w.heap.size+1) 0) (.agg (tT 107 a.tag 2 0 0 false 0 0 (nN) (nN)))).run prog W= .ok () (W.setRow (w.heap.size+1) (tT 107 a.tag 2 0 0 false 0 0 (nN) (nN))) from by
   simp only[Instr.storeAt,Instr.sureAddr,Sem.run_bind,Sem.run_pure,Result.andThen_ok];exact run_storeVar_row W (w.heap.size+1) _ _ _ (tT 107 a.tag 2 0 0 false 0 0 (nN) (nN)) (X.heap HT4.o) iT rfl (by simp[Value.oneCell']))
  have HZ:=hid (show w.heap.size+2<=w1.heap.size by omega);have HB:=hid (show∀b∈[w.heap.size+1],b=w.heap.size+1\/w3.heap.size<=b from λ b hb=> .inl (List.mem_singleton.1 hb));rename_i J0 K0 hJ0 hK0;refine DK DE ?_;change AK prog _ _ (5+1) #[false,false,false,false,false,false] _ _;refine AK.two (x:=0) (y:=2) (by kernel_rfl) ?_ ?_
  ·refine AB.value (i:=0) (v:= pP w.heap.size 1) (w':=W4.drew) rfl rfl (by go_simp) ?_;refine AK.two (x:=1) (y:=2) (by kernel_rfl) ?_ ?_
   ·refine AB.value (i:=1) (v:= iI a.tag) (w':=W4.drew) rfl rfl (by go_simp) ?_;refine AK.one (x:=2) (by kernel_rfl) ?_;refine AB.value (i:=2) (v:= iI 9) (w':=W4.drew) rfl rfl (by go_simp) ?_;refine AK.one (x:=3) (by kernel_rfl) ?_;refine AB.enter (i:=3) (f:=114) (args:= #[iI 9]) (w':=W4.drew) rfl rfl (by go_simp) ((HC.o _ (dE _)).mono ?_);rintro r w5 ⟨rfl,X5⟩;refine⟨_,rfl,?_⟩;have c5:=X5.cell c1;refine AK.one (x:=4) (by kernel_rfl) ?_;refine AB.enter (i:=4) (f:=113) (args:= #[iI a.tag,iI 2]) (w':=w5) rfl rfl (by go_simp) ((ET _ _ _).mono ?_);rintro r w6 ⟨rfl,X6⟩;refine⟨_,rfl,?_⟩;refine AK.one (x:=5) (by kernel_rfl) ?_;have X46:=((dE W4).trans X5).trans X6;have hT6:=X46.heap HT4.o;obtain⟨W,hW⟩:∃W,W=w6.setRow (w.heap.size+1) (tT 107 a.tag 2 0 0 false 0 0 (nN) (nN)):=⟨_,rfl⟩;have hRw:W.heap[w.heap.size+1]?=oC (tT 107 a.tag 2 0 0 false 0 0 (nN) (nN)) 39:=by rw[hW];exact setRow_heap w6 (w.heap.size+1) _ (tT 107 a.tag 2 0 0 false 0 0 (nN) (nN)) _ (0,0) hT6
    have hU:Upd [w.heap.size+1] w6 W:=by rw[hW];exact Ae w6 _ _
    refine AB.skip (i:=5) (w':=W) rfl rfl (by rw[hW];exact CE (p:= pP (w.heap.size+1) 0) (v:= .agg (tT 107 a.tag 2 0 0 false 0 0 (nN) (nN))) rfl (by go_simp) (by go_simp;rfl) (HSt.o w6 X46)) ?_;clear hW hT6;have hU2:Upd [w.heap.size+1] w3 W:=((HX4.o.trans X46).upd _).trans hU;have hp:=HR.o w1 w3 W [w.heap.size+1] HX1.o HZ.o HRc.o hU2 HB.o;refine AK.end (by kernel_rfl) ?_;go_wp2_with fail;refine Ue (v:= .agg (tT 107 a.tag 2 0 0 false 0 0 (nN) (nN))) ?_ ?_ ?_
    ·refine Uj rfl _ _ (w.heap.size+1) 39 (tT 107 a.tag 2 0 0 false 0 0 (nN) (nN)) (0,0) _ ?_ hRw underlying39 rfl iT;go_simp
    ·rfl
    ·exact⟨rfl,hp⟩
   ·refine AB.value (i:=2) (v:= iI 9) (w':=W4.drew) rfl rfl (by go_simp) ?_;refine AK.two (x:=1) (y:=3) (by kernel_rfl) ?_ ?_
    ·refine AB.value (i:=1) (v:= iI a.tag) (w':=W4.drew) rfl rfl (by go_simp) ?_;refine AK.one (x:=3) (by kernel_rfl) ?_;refine AB.enter (i:=3) (f:=114) (args:= #[iI 9]) (w':=W4.drew) rfl rfl (by go_simp) ((HC.o _ (dE _)).mono ?_);rintro r w5 ⟨rfl,X5⟩;refine⟨_,rfl,?_⟩;have c5:=X5.cell c1;refine AK.one (x:=4) (by kernel_rfl) ?_;refine AB.enter (i:=4) (f:=113) (args:= #[iI a.tag,iI 2]) (w':=w5) rfl rfl (by go_simp) ((ET _ _ _).mono ?_);rintro r w6 ⟨rfl,X6⟩;refine⟨_,rfl,?_⟩;refine AK.one (x:=5) (by kernel_rfl) ?_;have X46:=((dE W4).trans X5).trans X6;have hT6:=X46.heap HT4.o;obtain⟨W,hW⟩:∃W,W=w6.setRow (w.heap.size+1) (tT 107 a.tag 2 0 0 false 0 0 (nN) (nN)):=⟨_,rfl⟩;have hRw:W.heap[w.heap.size+1]?=oC (tT 107 a.tag 2 0 0 false 0 0 (nN) (nN)) 39:=by rw[hW];exact setRow_heap w6 (w.heap.size+1) _ (tT 107 a.tag 2 0 0 false 0 0 (nN) (nN)) _ (0,0) hT6
     have hU:Upd [w.heap.size+1] w6 W:=by rw[hW];exact Ae w6 _ _
     refine AB.skip (i:=5) (w':=W) rfl rfl (by rw[hW];exact CE (p:= pP (w.heap.size+1) 0) (v:= .agg (tT 107 a.tag 2 0 0 false 0 0 (nN) (nN))) rfl (by go_simp) (by go_simp;rfl) (HSt.o w6 X46)) ?_;clear hW hT6;have hU2:Upd [w.heap.size+1] w3 W:=((HX4.o.trans X46).upd _).trans hU;have hp:=HR.o w1 w3 W [w.heap.size+1] HX1.o HZ.o HRc.o hU2 HB.o;refine AK.end (by kernel_rfl) ?_;go_wp2_with fail;refine Ue (v:= .agg (tT 107 a.tag 2 0 0 false 0 0 (nN) (nN))) ?_ ?_ ?_
     ·refine Uj rfl _ _ (w.heap.size+1) 39 (tT 107 a.tag 2 0 0 false 0 0 (nN) (nN)) (0,0) _ ?_ hRw underlying39 rfl iT;go_simp
     ·rfl
     ·exact⟨rfl,hp⟩
    ·refine AB.enter (i:=3) (f:=114) (args:= #[iI 9]) (w':=W4.drew) rfl rfl (by go_simp) ((HC.o _ (dE _)).mono ?_);rintro r w5 ⟨rfl,X5⟩;refine⟨_,rfl,?_⟩;have c5:=X5.cell c1;refine AK.one (x:=1) (by kernel_rfl) ?_;refine AB.value (i:=1) (v:= iI a.tag) (w':=w5) rfl rfl (by go_simp) ?_;refine AK.one (x:=4) (by kernel_rfl) ?_;refine AB.enter (i:=4) (f:=113) (args:= #[iI a.tag,iI 2]) (w':=w5) rfl rfl (by go_simp) ((ET _ _ _).mono ?_);rintro r w6 ⟨rfl,X6⟩;refine⟨_,rfl,?_⟩;refine AK.one (x:=5) (by kernel_rfl) ?_;have X46:=((dE W4).trans X5).trans X6;have hT6:=X46.heap HT4.o;obtain⟨W,hW⟩:∃W,W=w6.setRow (w.heap.size+1) (tT 107 a.tag 2 0 0 false 0 0 (nN) (nN)):=⟨_,rfl⟩;have hRw:W.heap[w.heap.size+1]?=oC (tT 107 a.tag 2 0 0 false 0 0 (nN) (nN)) 39:=by rw[hW];exact setRow_heap w6 (w.heap.size+1) _ (tT 107 a.tag 2 0 0 false 0 0 (nN) (nN)) _ (0,0) hT6
     have hU:Upd [w.heap.size+1] w6 W:=by rw[hW];exact Ae w6 _ _
     refine AB.skip (i:=5) (w':=W) rfl rfl (by rw[hW];exact CE (p:= pP (w.heap.size+1) 0) (v:= .agg (tT 107 a.tag 2 0 0 false 0 0 (nN) (nN))) rfl (by go_simp) (by go_simp;rfl) (HSt.o w6 X46)) ?_;clear hW hT6;have hU2:Upd [w.heap.size+1] w3 W:=((HX4.o.trans X46).upd _).trans hU;have hp:=HR.o w1 w3 W [w.heap.size+1] HX1.o HZ.o HRc.o hU2 HB.o;refine AK.end (by kernel_rfl) ?_;go_wp2_with fail;refine Ue (v:= .agg (tT 107 a.tag 2 0 0 false 0 0 (nN) (nN))) ?_ ?_ ?_
     ·refine Uj rfl _ _ (w.heap.size+1) 39 (tT 107 a.tag 2 0 0 false 0 0 (nN) (nN)) (0,0) _ ?_ hRw underlying39 rfl iT;go_simp
     ·rfl
     ·exact⟨rfl,hp⟩
  ·refine AB.value (i:=2) (v:= iI 9) (w':=W4.drew) rfl rfl (by go_simp) ?_;refine AK.two (x:=0) (y:=3) (by kernel_rfl) ?_ ?_
   ·refine AB.value (i:=0) (v:= pP w.heap.size 1) (w':=W4.drew) rfl rfl (by go_simp) ?_;refine AK.two (x:=1) (y:=3) (by kernel_rfl) ?_ ?_
    ·refine AB.value (i:=1) (v:= iI a.tag) (w':=W4.drew) rfl rfl (by go_simp) ?_;refine AK.one (x:=3) (by kernel_rfl) ?_;refine AB.enter (i:=3) (f:=114) (args:= #[iI 9]) (w':=W4.drew) rfl rfl (by go_simp) ((HC.o _ (dE _)).mono ?_);rintro r w5 ⟨rfl,X5⟩;refine⟨_,rfl,?_⟩;have c5:=X5.cell c1;refine AK.one (x:=4) (by kernel_rfl) ?_;refine AB.enter (i:=4) (f:=113) (args:= #[iI a.tag,iI 2]) (w':=w5) rfl rfl (by go_simp) ((ET _ _ _).mono ?_);rintro r w6 ⟨rfl,X6⟩;refine⟨_,rfl,?_⟩;refine AK.one (x:=5) (by kernel_rfl) ?_;have X46:=((dE W4).trans X5).trans X6;have hT6:=X46.heap HT4.o;obtain⟨W,hW⟩:∃W,W=w6.setRow (w.heap.size+1) (tT 107 a.tag 2 0 0 false 0 0 (nN) (nN)):=⟨_,rfl⟩;have hRw:W.heap[w.heap.size+1]?=oC (tT 107 a.tag 2 0 0 false 0 0 (nN) (nN)) 39:=by rw[hW];exact setRow_heap w6 (w.heap.size+1) _ (tT 107 a.tag 2 0 0 false 0 0 (nN) (nN)) _ (0,0) hT6
     have hU:Upd [w.heap.size+1] w6 W:=by rw[hW];exact Ae w6 _ _
     refine AB.skip (i:=5) (w':=W) rfl rfl (by rw[hW];exact CE (p:= pP (w.heap.size+1) 0) (v:= .agg (tT 107 a.tag 2 0 0 false 0 0 (nN) (nN))) rfl (by go_simp) (by go_simp;rfl) (HSt.o w6 X46)) ?_;clear hW hT6;have hU2:Upd [w.heap.size+1] w3 W:=((HX4.o.trans X46).upd _).trans hU;have hp:=HR.o w1 w3 W [w.heap.size+1] HX1.o HZ.o HRc.o hU2 HB.o;refine AK.end (by kernel_rfl) ?_;go_wp2_with fail;refine Ue (v:= .agg (tT 107 a.tag 2 0 0 false 0 0 (nN) (nN))) ?_ ?_ ?_
     ·refine Uj rfl _ _ (w.heap.size+1) 39 (tT 107 a.tag 2 0 0 false 0 0 (nN) (nN)) (0,0) _ ?_ hRw underlying39 rfl iT;go_simp
     ·rfl
     ·exact⟨rfl,hp⟩
    ·refine AB.enter (i:=3) (f:=114) (args:= #[iI 9]) (w':=W4.drew) rfl rfl (by go_simp) ((HC.o _ (dE _)).mono ?_);rintro r w5 ⟨rfl,X5⟩;refine⟨_,rfl,?_⟩;have c5:=X5.cell c1;refine AK.one (x:=1) (by kernel_rfl) ?_;refine AB.value (i:=1) (v:= iI a.tag) (w':=w5) rfl rfl (by go_simp) ?_;refine AK.one (x:=4) (by kernel_rfl) ?_;refine AB.enter (i:=4) (f:=113) (args:= #[iI a.tag,iI 2]) (w':=w5) rfl rfl (by go_simp) ((ET _ _ _).mono ?_);rintro r w6 ⟨rfl,X6⟩;refine⟨_,rfl,?_⟩;refine AK.one (x:=5) (by kernel_rfl) ?_;have X46:=((dE W4).trans X5).trans X6;have hT6:=X46.heap HT4.o;obtain⟨W,hW⟩:∃W,W=w6.setRow (w.heap.size+1) (tT 107 a.tag 2 0 0 false 0 0 (nN) (nN)):=⟨_,rfl⟩;have hRw:W.heap[w.heap.size+1]?=oC (tT 107 a.tag 2 0 0 false 0 0 (nN) (nN)) 39:=by rw[hW];exact setRow_heap w6 (w.heap.size+1) _ (tT 107 a.tag 2 0 0 false 0 0 (nN) (nN)) _ (0,0) hT6
     have hU:Upd [w.heap.size+1] w6 W:=by rw[hW];exact Ae w6 _ _
     refine AB.skip (i:=5) (w':=W) rfl rfl (by rw[hW];exact CE (p:= pP (w.heap.size+1) 0) (v:= .agg (tT 107 a.tag 2 0 0 false 0 0 (nN) (nN))) rfl (by go_simp) (by go_simp;rfl) (HSt.o w6 X46)) ?_;clear hW hT6;have hU2:Upd [w.heap.size+1] w3 W:=((HX4.o.trans X46).upd _).trans hU;have hp:=HR.o w1 w3 W [w.heap.size+1] HX1.o HZ.o HRc.o hU2 HB.o;refine AK.end (by kernel_rfl) ?_;go_wp2_with fail;refine Ue (v:= .agg (tT 107 a.tag 2 0 0 false 0 0 (nN) (nN))) ?_ ?_ ?_
     ·refine Uj rfl _ _ (w.heap.size+1) 39 (tT 107 a.tag 2 0 0 false 0 0 (nN) (nN)) (0,0) _ ?_ hRw underlying39 rfl iT;go_simp
     ·rfl
     ·exact⟨rfl,hp⟩
   ·refine AB.enter (i:=3) (f:=114) (args:= #[iI 9]) (w':=W4.drew) rfl rfl (by go_simp) ((HC.o _ (dE _)).mono ?_);rintro r w5 ⟨rfl,X5⟩;refine⟨_,rfl,?_⟩;have c5:=X5.cell c1;refine AK.one (x:=0) (by kernel_rfl) ?_;refine AB.value (i:=0) (v:= pP w.heap.size 1) (w':=w5) rfl rfl (by go_simp) ?_;refine AK.one (x:=1) (by kernel_rfl) ?_;refine AB.value (i:=1) (v:= iI a.tag) (w':=w5) rfl rfl (by go_simp) ?_;refine AK.one (x:=4) (by kernel_rfl) ?_;refine AB.enter (i:=4) (f:=113) (args:= #[iI a.tag,iI 2]) (w':=w5) rfl rfl (by go_simp) ((ET _ _ _).mono ?_);rintro r w6 ⟨rfl,X6⟩;refine⟨_,rfl,?_⟩;refine AK.one (x:=5) (by kernel_rfl) ?_;have X46:=((dE W4).trans X5).trans X6;have hT6:=X46.heap HT4.o;obtain⟨W,hW⟩:∃W,W=w6.setRow (w.heap.size+1) (tT 107 a.tag 2 0 0 false 0 0 (nN) (nN)):=⟨_,rfl⟩;have hRw:W.heap[w.heap.size+1]?=oC (tT 107 a.tag 2 0 0 false 0 0 (nN) (nN)) 39:=by rw[hW];exact setRow_heap w6 (w.heap.size+1) _ (tT 107 a.tag 2 0 0 false 0 0 (nN) (nN)) _ (0,0) hT6
    have hU:Upd [w.heap.size+1] w6 W:=by rw[hW];exact Ae w6 _ _
    refine AB.skip (i:=5) (w':=W) rfl rfl (by rw[hW];exact CE (p:= pP (w.heap.size+1) 0) (v:= .agg (tT 107 a.tag 2 0 0 false 0 0 (nN) (nN))) rfl (by go_simp) (by go_simp;rfl) (HSt.o w6 X46)) ?_;clear hW hT6;have hU2:Upd [w.heap.size+1] w3 W:=((HX4.o.trans X46).upd _).trans hU;have hp:=HR.o w1 w3 W [w.heap.size+1] HX1.o HZ.o HRc.o hU2 HB.o;refine AK.end (by kernel_rfl) ?_;go_wp2_with fail;refine Ue (v:= .agg (tT 107 a.tag 2 0 0 false 0 0 (nN) (nN))) ?_ ?_ ?_
    ·refine Uj rfl _ _ (w.heap.size+1) 39 (tT 107 a.tag 2 0 0 false 0 0 (nN) (nN)) (0,0) _ ?_ hRw underlying39 rfl iT;go_simp
    ·rfl
    ·exact⟨rfl,hp⟩
section
variable {I:Option AE->Nat->World->List Nat->Prop} {sp fb room nodes gp pb mb n n':Nat} {l l':List (Int×FV)} {st st':Option AE} {w:World} {G:List Nat}
theorem Mm (A:DJ sp fb room nodes I) (hT:∀st n w F,I st n w F->Aw w) {f:AE} {tag k k2 f3 f4 f8 f9 f10:Int} {f5 s:ByteArray} {f6:Bool} (hf:Ay f) (hg:AP s) (hne:f.name≠s) (h1:Ah l k=some ⟨1,1,f3,f4,f5,f6,false,f8,f9,f10⟩) (h2:Ah l k2=none) (h3:k2≠k) (h4:l.length<16) (h5:n<99) (h:GS I sp gp pb mb l (some f) n w G) {nv:Value} (hn:SlS w nv [s]):
  Calls prog 70 #[pP gp 0,({typ:=110,tag:=tag,fid:=k,nfid:=k2}:QV).val nv dv] w λ r w'=>r= .returned (({typ:=107,tag:=tag,code:=2}:TV).val (nN) (nN))/\∃G',GS I sp gp pb mb l (some f) (n+1) w' G'/\Mv w w' G G':=by
 obtain⟨na,nc,rfl,-,hn1,hn2,hn3⟩:=hn;obtain⟨ng,no,rfl,hc⟩:=hn3.resolve_left (by simp);have hL:=(GS.loc A.loc).1 _ _ h;refine RW (R:=λ W w1=>∃G',GS I sp gp pb mb l (some f) (n+1) w1 G'/\Mv W w1 G G') (R':=λ w2=>∃G',GS I sp gp pb mb l (some f) (n+1) w2 G'/\Mv w w2 G G') rfl (λ W X=> ?_) ?_ ?_
 ·refine(Tz A hf hg hne ⟨rfl,rfl⟩ h3 (X.cell (hc 0 (by simp))) ⟨hn1,hn2⟩ (h.ext A.loc X) (by omega) h1 h2 h4).mono ?_;rintro r w' ⟨rfl,hG⟩;exact⟨rfl,hG⟩
 ·rintro W w1 X ⟨G',hG,hM⟩;obtain⟨F,-,-,-,hI,-⟩:=id hG;exact⟨hT _ _ _ _ hI,hM.size,λ b x hb hx=>hM.1.heap hx (λ hm=>by have:=hL b hm;omega)⟩
 ·rintro W w1 w2 S X hz ⟨G',hG,hM⟩ hu hS;have hG2:=(GS.loc A.loc).1 _ _ hG;have hz1:=hM.size;refine⟨G',(GS.loc A.loc).2 _ _ _ _ hG hu (λ b hb hm=> ?_),((X.upd G).trans hM.1).trans2 hu (λ b hb=>by have:=hS b hb;omega),λ b hb=> ?_⟩
  ·have:=hS b hm;have:=hG2 b hb;rcases hM.2 b hb with k|k
   ·have:=hL b k;omega
   ·omega
  ·rcases hM.2 b hb with k|k
   ·exact .inl k
   ·exact .inr (by have:=X.size;omega)
theorem RY (A:DJ sp fb room nodes I) (hT:∀st n w F,I st n w F->Aw w) (op:GOp room l st n a ns ds l' st' n' t o zs) (h:GS I sp gp pb mb l st n w G) {nv:Value} (hn:SlS w nv ns) (hd:Sl w dv ds) (hdb:∀g,dv.ownBlock=some g->g<w.heap.size):
  Calls prog 70 #[pP gp 0,a.val nv dv] w λ r w'=>∃qv dv,r= .returned (t.val qv dv)/\Cg w.heap.size qv dv o zs w'/\∃G',GS I sp gp pb mb l' st' n' w' G'/\Mv w w' G G':=by
 by_cases hty:a.typ=110/\t.typ=107
 ·cases op with
  |walkx hf hg hne2 h1 h2 h3 h4 h5=>
   refine(Mm A hT hf hg hne2 h1 h2 h3 h4 h5 h hn).mono ?_;rintro r w' ⟨rfl,hG⟩;exact⟨_,_,rfl,Cg.nil _ _,hG⟩
  |_=>simp at hty
 ·exact RX A op (by omega) h hn hd hdb
end
theorem NP {Pr:World->Prop} {W:World} (h:W=w) (k:Pr W):Pr w:=h▸k
theorem K3 {b o:Nat} (h:w.there b o 14):∃v0 v1 v2 v3 v4 v5 v6 v7 v8 v9 v10 v11 v12 v13,w.cell? (dD b o)=some v0/\w.cell? (dD b (o+1))=some v1/\w.cell? (dD b (o+2))=some v2/\w.cell? (dD b (o+3))=some v3/\w.cell? (dD b (o+4))=some v4/\w.cell? (dD b (o+5))=some v5/\w.cell? (dD b (o+6))=some v6/\w.cell? (dD b (o+7))=some v7/\w.cell? (dD b (o+8))=some v8/\w.cell? (dD b (o+9))=some v9/\w.cell? (dD b (o+10))=some v10/\w.cell? (dD b (o+11))=some v11/\w.cell? (dD b (o+12))=some v12/\w.cell? (dD b (o+13))=some v13:=by
 have g:∀j,j<14->∃v,w.cell? (dD b (o+j))=some v:=λ j hj=>Option.isSome_iff_exists.1 (h j hj).1
 obtain⟨v0,g0⟩:=g 0 (by omega);obtain⟨v1,g1⟩:=g 1 (by omega);obtain⟨v2,g2⟩:=g 2 (by omega);obtain⟨v3,g3⟩:=g 3 (by omega);obtain⟨v4,g4⟩:=g 4 (by omega);obtain⟨v5,g5⟩:=g 5 (by omega);obtain⟨v6,g6⟩:=g 6 (by omega);obtain⟨v7,g7⟩:=g 7 (by omega);obtain⟨v8,g8⟩:=g 8 (by omega);obtain⟨v9,g9⟩:=g 9 (by omega);obtain⟨v10,g10⟩:=g 10 (by omega);obtain⟨v11,g11⟩:=g 11 (by omega);obtain⟨v12,g12⟩:=g 12 (by omega);obtain⟨v13,g13⟩:=g 13 (by omega);exact⟨v0,v1,v2,v3,v4,v5,v6,v7,v8,v9,v10,v11,v12,v13,g0,g1,g2,g3,g4,g5,g6,g7,g8,g9,g10,g11,g12,g13⟩
theorem VP:(prog.info? 43).map (·.size)=some 14:=by kernel_rfl
theorem Qk {tb:Nat} {q:List (QV×Value×Value)} {m:Int} {nv:Value} (h:TQ tb q m w) (ht:∀x∈q,x.1.tag≠a.tag) (hm:(q.length:Int)<m/\m<=8) (hn:SlS w nv ns) (hnl:ns.length<=8) (hd:Sl w dv ds) (hdl:ds.length<=2000):
  Calls prog 105 #[pP tb 0,a.val nv dv] w λ r w'=>r= .returned (iI 0)/\∃n' d',TQ tb (q++[(a,n',d')]) m w'/\AA w' w.heap.size 9 n' (sv ns)/\AA w' w.heap.size 5 d' (bv ds)/\Upd [tb] w w':=by
 obtain⟨W0,hW0⟩:∃W,W=w.alloc (.cells (a.cells nv dv) 43):=⟨_,rfl⟩;have hb:W0.heap[w.heap.size]?=oC (a.cells nv dv) 43:=by rw[hW0];exact Ub w _
 have X0:Ext w W0:=by rw[hW0];exact(Ext.refl w).alloc _
 unfold QV.cells at hW0;have HX:=hid X0;have HB:=hid hb;have HT:=hid (h.ext X0);have HN:=hid (λ W (hx:Ext w W)=>Kk (hn.ext hx) (by omega));have HD:=hid (show∀W,Ext w W->Calls prog 96 #[dv] W λ r w'=>∃v,r= .returned v/\AA w' W.heap.size 5 v (bv ds)/\Ext W w' from λ W hx=>by
  obtain⟨da,dc,rfl,q1,q2⟩:=hd.ext hx;exact Ar da _ dc ds (by omega) W q1 q2.nil0)
 have HRf:=hid (VK (h.ext X0) ht hm.1);have htl:=h.lt;have hbl:=lH hb;have HWf:=hid hd.wf;have hq8:q.length<8:=by omega
 dsimp only[QV.val];have HTw:=hid h;clear h hb X0 hn hd ht hm;go_in;go_wp2_with fail;rw[<-hW0];clear hW0;go_wp2_with fail;refine HRf.o.mono ?_;rintro r w1 ⟨rfl,X1⟩;have hX1:=HX.o.trans X1;have hT1:=HT.o.ext X1;have hB1:=X1.heap HB.o;have HB1:=hid hB1;have hz1:=X1.size;clear X1;go_wp2_with (go_at_call 156;refine(Tr _ _).mono ?_;rintro r w' ⟨rfl,rfl⟩);have e0:Ext w w1.drew:=hX1.drew;have cD11:w1.drew.cell? (dD w.heap.size 11)=some nv:=cO hB1 11;have cD13:w1.drew.cell? (dD w.heap.size 13)=some dv:=cO hB1 13;have hbl0:w.heap.size<w1.heap.size:=by omega
 clear hX1 hT1 hB1;have hBD:QB w.heap.size a nv dv w1.drew:=HB1.o;go_cut [0,3] (λ q0 q3 wx=>q0= pP tb 0/\q3= pP w.heap.size 0/\PutD w.heap.size w a ns ds wx)
 case first=>
  go_region_with (first|(go_at_call 157;refine(HN.o _ (by first|exact e0|exact e3|exact Below.setCell e3 (Uf _) _)).mono ?_;rintro r w2 ⟨n2,rfl,O2,X2⟩;have e2:=(show Ext w _ from(by first|exact e0|exact e3|exact Below.setCell e3 (Uf _) _)).trans X2;have hB2:=QB.on (by first|with_reducible exact hBD|with_reducible exact hB3|with_reducible exact hB3.p13 _) X2;obtain⟨na,nc,rfl,-⟩:=O2.slS;obtain⟨nk,hnk⟩:∃n,n=ns.length:=⟨_,rfl⟩;rw[<-hnk] at O2|-;have HNK:=hid hnk;clear hnk;have c2a:=hB2.c11;have c2b:=hB2.c13;have P2:=O2.low (show w.heap.size+1<=_ from by first|exact hbl0|exact l3|(rw[Aq];exact l3));have f2:=fO hB2;have l2:=lH hB2;try have V3:=(show Upd [w.heap.size] w3 w2 from by first|exact X2.upd _|exact((Upd.refl [w.heap.size] w3).setCell _ _ (.inl (by simp))).trans (X2.upd _)))|(go_at_call 96;refine(HD.o _ (by first|exact e0|exact e2|exact Below.setCell e2 (Uf _) _)).mono ?_;rintro r w3 ⟨d2,rfl,O3,X3⟩;have e3:=(show Ext w _ from(by first|exact e0|exact e2|exact Below.setCell e2 (Uf _) _)).trans X3;have hB3:=QB.on (by first|with_reducible exact hBD|with_reducible exact hB2|with_reducible exact hB2.p11 _) X3;obtain⟨da,dc,rfl,-,-⟩:=O3.sl HWf.o;obtain⟨dk,hdk⟩:∃n,n=ds.length:=⟨_,rfl⟩;rw[<-hdk] at O3|-;have HDK:=hid hdk;clear hdk;have c3a:=hB3.c11;have c3b:=hB3.c13;have P3:=O3.low (show w.heap.size+1<=_ from by first|exact hbl0|exact l2|(rw[Aq];exact l2));have f3:=fO hB3;have l3:=lH hB3;try have V2:=(show Upd [w.heap.size] w2 w3 from by first|exact X3.upd _|exact((Upd.refl [w.heap.size] w2).setCell _ _ (.inl (by simp))).trans (X3.upd _))))
  all_goals
   go_wp2_with fail;go_meet
   case rel=>
    have hne:∀(x:Value) (W:World) (e:TypeId) (xs:List Value),AA W (w.heap.size+1) e x xs->∀g,x.ownBlock=some g->g∉[w.heap.size]:=λ x W e xs o g hg hm=>by have:=(o.lt hg).1;simp at hm;omega
    refine⟨rfl,rfl,_,_,(show QB _ _ _ _ _ from by first|with_reducible exact hB3.p13 _|with_reducible exact hB2.p11 _|with_reducible exact(hB3.p11 _).p13 _|with_reducible exact(hB3.p13 _).p11 _|with_reducible exact(hB2.p11 _).p13 _|with_reducible exact(hB2.p13 _).p11 _),(P2.upd (by first|with_reducible exact V2.trans ((Upd.refl _ _).setCell _ _ (.inl (by simp)))|with_reducible exact V2.trans (((Upd.refl _ _).setCell _ _ (.inl (by simp))).setCell _ _ (.inl (by simp)))|with_reducible exact(Upd.refl _ _).setCell _ _ (.inl (by simp))|with_reducible exact((Upd.refl _ _).setCell _ _ (.inl (by simp))).setCell _ _ (.inl (by simp))) (hne _ _ _ _ P2)).low (Nat.le_succ _),(P3.upd (by first|with_reducible exact V3.trans ((Upd.refl _ _).setCell _ _ (.inl (by simp)))|with_reducible exact V3.trans (((Upd.refl _ _).setCell _ _ (.inl (by simp))).setCell _ _ (.inl (by simp)))|with_reducible exact(Upd.refl _ _).setCell _ _ (.inl (by simp))|with_reducible exact((Upd.refl _ _).setCell _ _ (.inl (by simp))).setCell _ _ (.inl (by simp))) (hne _ _ _ _ P3)).low (Nat.le_succ _),?_⟩
    first|with_reducible exact Da e3 _ _|with_reducible exact Da e2 _ _|with_reducible exact Da (Da e3 _ _) _ _|with_reducible exact Da (Da e2 _ _) _ _
 case rest=>
  obtain⟨rfl,rfl,n',d',hB,O2,O3,hE⟩:=hcut;obtain⟨na,nc,rfl,-⟩:=O2.slS;obtain⟨da,dc,rfl,-,-⟩:=O3.sl HWf.o;obtain⟨nk,hnk⟩:∃n,n=ns.length:=⟨_,rfl⟩;rw[<-hnk] at hB O2;obtain⟨dk,hdk⟩:∃n,n=ds.length:=⟨_,rfl⟩;rw[<-hdk] at hB O3;clear hnk hdk;have hT:=HTw.o.ext hE;have HO2:=hid O2;have HO3:=hid O3;have HE:=hid hE;obtain⟨t0,t1,tf⟩:=hT.num;obtain⟨n,hn⟩:∃n,n=q.length:=⟨_,rfl⟩;rw[<-hn] at t0 hq8;unfold QV.cells at hB;obtain⟨q0,q1,q2,q3,q4,q5,q6,q7,q8,q9,q10,q11,q12,q13,-⟩:=BG hB;obtain⟨v0,v1,v2,v3,v4,v5,v6,v7,v8,v9,v10,v11,v12,v13,hcs⟩:=K3 (hT.there hq8);obtain⟨s0,s1,s2,s3,s4,s5,s6,s7,s8,s9,s10,s11,s12,s13⟩:=hcs;have b0:(0:Int)<=(n:Int):=by omega
  have b1:(n:Int)<8:=by omega
  obtain⟨W1,hW1⟩:∃W,W=(wc.setCells tb (n*14) (a.cells (.slice na nk nc) (.slice da dk dc)).toList).drew:=⟨_,rfl⟩;obtain⟨k1,k2⟩:=hT.put (by omega) a (x:= .slice na nk nc) (y:= .slice da dk dc) rfl rfl (hn▸hW1);rw[<-hn] at k2;have hU1:Upd [tb] wc W1:=by rw[hW1];exact(Cs tb _ _ _).drew
  have K2:=hid k2;have HU1:=hid hU1;obtain⟨u0,u1,uf⟩:=k1.num;rw[<-hn] at u0;have e1:IntKind.i64.wrap ((n:Int)+1)=(n:Int)+1:=Uh _ (by omega);have HN:=hid hn;have HW1:=hid hW1;clear hT O2 O3 hE hB k1 k2 hU1 hn hW1;go_wp2_with fail;go_region;refine NP (Pr:=λ W=>Exit.then _ _ _ _ W) (W:=W1) HW1.o ?_;clear q0 q1 q2 q3 q4 q5 q6 q7 q8 q9 q10 q11 q12 q13 s0 s1 s2 s3 s4 s5 s6 s7 s8 s9 s10 s11 s12 s13 t0 t1 tf;go_wp2_with fail;go_ret;have U3:Upd [tb] W1 (W1.setCell (dD tb 112) (iI (n+1))):=(Upd.refl _ _).setCell _ _ (.inl (by simp));have U4:=HU1.o.trans U3;refine⟨rfl,_,_,K2.o,?_,?_,(HE.o.upd _).trans U4⟩
  ·exact HO2.o.upd U4 (λ g hg hm=>by have:=(HO2.o.lt hg).1;simp at hm;omega)
  ·exact HO3.o.upd U4 (λ g hg hm=>by have:=(HO3.o.lt hg).1;simp at hm;omega)
end Go.Proofs.YtdakioiagpkfhaaGreatDoor
