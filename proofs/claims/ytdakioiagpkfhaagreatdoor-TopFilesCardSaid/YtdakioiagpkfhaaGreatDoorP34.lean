import Derived.Test.YtdakioiagpkfhaaGreatDoorP33
set_option maxRecDepth 99999
set_option maxHeartbeats 0
set_option linter.all false
namespace Go.Proofs.YtdakioiagpkfhaaGreatDoor
open RowKit Conc
open Go.Proofs.Tryz
variable {F G:List Nat} {a:AV} {b ds rs ys zs:List Int} {base j k:Nat} {p x:Int} {rv:RV} {s t:St} {st':Option AE} {v:Value} {w w':World} {yss:List (List Int)}
structure SX where
 rest:Value
 o:Value
 k:Nat
 n:Nat
 st:Option AE
 ns:Nat
 x:Int
 l:List MC
 kt:Nat
 zt:List Int
 kb:Nat
 zb:List Int
 sa:St
 sd:St
def SC.L (c:SC) (X:SX):List (World->List Nat->Prop):=
 [Blk c.sp (c.cl X.rest X.o X.k X.n) 78,Kt c.sb c.fb c.room c.nodes X.st X.ns,MxP c.mp c.mm X.x X.l,PwP c.hp c.hc c.hr c.hs X.kt X.zt,PwP c.bp c.bc c.br c.bs X.kb X.zb,DfP c.ap X.sa,DfP c.dp X.sd,TbP,FrP c]
def SP (c:SC) (X:SX) (w:World) (F:List Nat):Prop:=∃Fs,F=Fs.flatten/\Ac w (c.L X) Fs
theorem SP.loc (c:SC) (X:SX):Loc (SP c X):=
 ⟨λ w F ⟨Fs,e,h⟩=>e▸h.lt,λ w w' F S ⟨Fs,e,h⟩ hu hs=>⟨Fs,e,h.upd hu (e▸hs)⟩⟩
section
variable {c:SC} {X:SX} {w:World} {F:List Nat}
theorem SP.ext (h:SP c X w F) (hx:Ext w w'):SP c X w' F:=(SP.loc c X).2 _ _ _ [] h (hx.upd []) (λ _ _=>by simp)
theorem SP.step (h:SP c X w F) {R:World->List Nat->Prop} (i:Nat) (hi:(c.L X)[i]?=some R):
  ∃G,R w G/\(∀b∈G,b∈F)/\(∀j S,j≠i->(c.L X)[j]?=some S->∃H,S w H/\(∀b∈H,b∈F)/\∀b∈H,b∉G)/\
   ∀w' X' R' G',(c.L X).set i R'=c.L X'->Loc R'->R' w' G'->Mv w w' G G'->∃F',SP c X' w' F'/\Mv w w' F F'/\(G'=G->F'=F):=by
 obtain⟨Fs,rfl,hP⟩:=h;obtain⟨G,h1,-,h3,h4,h5⟩:=hP.step i hi;refine⟨G,h1,h3,h4,λ w' X' R' G' e hL hR hM=> ?_⟩;obtain⟨Fs',q1,q2,q3⟩:=h5 w' R' G' hL hR hM;exact⟨_,⟨Fs',rfl,e▸q1⟩,q2,λ e=>by rw[q3 e]⟩
theorem SP.keep {X':SX} (h:∃F',SP c X' w' F'/\Mv w w' F F'/\(G=G->F'=F)):SP c X' w' F/\Mv w w' F F:=by
 obtain⟨F',h1,h2,h3⟩:=h;obtain rfl:=h3 rfl;exact⟨h1,h2⟩
theorem SP.move {X':SX} {P:List Nat->Prop} (h:∃F',SP c X' w' F'/\Mv w w' F F'/\P F'):∃F',SP c X' w' F'/\Mv w w' F F':=by
 obtain⟨F',h1,h2,-⟩:=h;exact⟨F',h1,h2⟩
theorem SP.lt (h:SP c X w F):∀b∈F,b<w.heap.size:=(SP.loc c X).1 _ _ h
theorem SP.blk (h:SP c X w F):w.heap[c.sp]?=oC (c.cl X.rest X.o X.k X.n) 78/\c.sp∈F:=by
 obtain⟨G,h1,h2,-⟩:=h.step 0 rfl;exact⟨h1.2,h2 _ (by simp[h1.1])⟩
theorem SP.tab (h:SP c X w F):Aw w:=by
 obtain⟨G,h1,-⟩:=h.step 7 rfl;exact h1.2
theorem SP.put (h:SP c X w F) (hu:Upd [c.sp] w w') {r o:Value} {n:Nat} (hb:w'.heap[c.sp]?=oC (c.cl r o k n) 78):
  SP c {X with rest:=r,o:=o,k:=k,n:=n} w' F/\Mv w w' F F:=by
 obtain⟨Fs,rfl,hP⟩:=h;have hil:0<Fs.length:=by rw[hP.len];simp[SC.L]
 obtain⟨h1,-⟩:=hP.is 0 _ Fs[0] rfl (Ud hil);obtain⟨F0,Fr,rfl⟩:∃F0 Fr,Fs=F0::Fr:=by
  cases Fs with
  |nil=>simp at hil
  |cons a b=>exact⟨a,b,rfl⟩
 have e0:F0=[c.sp]:=h1.1;have hM:Mv w w' (F0::Fr).flatten (F0::Fr).flatten:=Mv.same (hu.mono (λ b hb=>by simp at hb;subst hb;simp[e0]));refine⟨⟨F0::Fr,rfl,hP.len,λ i R G hi hG=> ?_,hP.apart⟩,hM⟩;cases i with
 |zero=>
  simp only[SC.L,List.getElem?_cons_zero,Option.some.injEq] at hi hG;subst hi hG;exact⟨⟨e0,hb⟩,Blk.loc _ _ _⟩
 |succ i=>
  obtain⟨q1,q2⟩:=hP.is (i+1) R G hi hG;exact⟨q2.2 _ _ _ _ q1 hu (λ b hb hm=>hP.apart (i+1) 0 G F0 (by omega) hG rfl b hb (by rw[e0];exact hm)),q2⟩
theorem SJ (h:SP c X w F) (ok:c.Ok X.k) (hv:Sl w v zs) (hz:zs.length<=4096) (hvb:∀g,v.ownBlock=some g->g≠c.sp):
  Calls prog 88 #[pP c.sp 0,v] w λ r w'=>∃v' s k',r= .returned v'/\AA w' w.heap.size 5 v' (bv (fr zs s (cnt zs.length s)))/\64<=s/\c.Ok k'/\SP c {X with k:=k'} w' F/\Mv w w' F F:=by
 obtain⟨hb,hbF⟩:=h.blk;obtain⟨G,h8,-⟩:=h.step 8 rfl;refine(Rm ok hb h8.2 hv hz hvb).mono ?_;rintro r w' ⟨v',s,k',rfl,O,hs,ok',hb',U⟩;obtain⟨q1,q2⟩:=h.put U hb';exact⟨v',s,k',rfl,O,hs,ok',q1,q2⟩
theorem TF (h:SP c X w F) (hl:X.l=[]) (hx:0<=X.x/\X.x<4294967296) (p y:Int):
  Calls prog 44 #[pP c.mp 0,.int .u32 p,iI y] w λ r w'=>r= .returned (.tuple #[.int .u32 X.x,iI 0])/\SP c {X with x:=(X.x+1)%4294967296,l:=[⟨X.x,p,y⟩]} w' F/\Mv w w' F F:=by
 obtain⟨G,h2,-,-,hgo⟩:=h.step 2 rfl;obtain⟨e,hm⟩:=h2;rw[hl] at hm;refine(call1 hm hx p y).mono ?_;rintro r w' ⟨rfl,hm',U⟩;exact⟨rfl,SP.keep (hgo w' _ (MxP c.mp c.mm _ _) G rfl (MxP.loc _ _ _ _) ⟨e,hm'⟩ (Mv.same (e▸U)))⟩
theorem QW (h:SP c X w F) {n y:Int} (hl:X.l=[⟨n,p,y⟩]):
  Calls prog 146 #[pP c.mp 0,.int .u32 n,.int .u32 p] w λ r w'=>r= .returned (.tuple #[iI y,iI 0])/\SP c {X with l:=[]} w' F/\Mv w w' F F:=by
 obtain⟨G,h2,-,-,hgo⟩:=h.step 2 rfl;obtain⟨e,hm⟩:=h2;rw[hl] at hm;refine(TZ hm).mono ?_;rintro r w' ⟨rfl,hm',U⟩;exact⟨rfl,SP.keep (hgo w' _ (MxP c.mp c.mm _ _) G rfl (MxP.loc _ _ _ _) ⟨e,hm'⟩ (Mv.same (e▸U)))⟩
theorem TE (h:SP c X w F) (hl:X.l=[]) (n:Int):
  Calls prog 49 #[pP c.mp 0,.int .u32 n] w λ r w'=>r= .returned (.bool false)/\SP c X w' F/\Mv w w' F F:=by
 obtain⟨G,h2,-,-,hgo⟩:=h.step 2 rfl;obtain⟨e,hm⟩:=h2;rw[hl] at hm;refine(drop0 hm n).mono ?_;rintro r w' ⟨rfl,hm',U⟩;exact⟨rfl,SP.keep (hgo w' X (MxP c.mp c.mm _ _) G (by rw[<-hl];rfl) (MxP.loc _ _ _ _) ⟨e,hm'⟩ (Mv.same (e▸U)))⟩
theorem mv3 {p ct cr:Nat} {ss:List Int} (h:PW w p ct cr ss k zs G) (U:Upd [p,ct,cr] w w'):Upd G w w':=
 U.mono (λ b hb=>by obtain⟨-,h1,h2,h3⟩:=PW.flt h;simp at hb;rcases hb with rfl|rfl|rfl<;>assumption)
theorem QT (h:SP c X w F) (hz:X.zt=[]) (hv:Sl w v ys) (hy:0<ys.length) (hl:ys.length<=100000):
  Calls prog 60 #[pP c.hp 0,v] w λ r w'=>r= .returned (iI 0)/\∃F',SP c {X with zt:=ys} w' F'/\Mv w w' F F':=by
 obtain⟨G,h3,-,-,hgo⟩:=h.step 3 rfl;have h3:PW w c.hp c.hc c.hr c.hs X.kt X.zt G:=h3;rw[hz] at h3;refine(Nx h3 hv hy hl).mono ?_;rintro r w' ⟨rfl,G',hp',hG,U⟩;exact⟨rfl,SP.move (hgo w' _ (PwP c.hp c.hc c.hr c.hs _ _) G' rfl (PwP.loc _ _ _ _ _ _) hp' ⟨mv3 h3 U,hG⟩)⟩
theorem TG (h:SP c X w F) (hz:X.zb=[]) (hv:Sl w v ys) (hy:0<ys.length) (hl:ys.length<=100000):
  Calls prog 60 #[pP c.bp 0,v] w λ r w'=>r= .returned (iI 0)/\∃F',SP c {X with zb:=ys} w' F'/\Mv w w' F F':=by
 obtain⟨G,h3,-,-,hgo⟩:=h.step 4 rfl;have h3:PW w c.bp c.bc c.br c.bs X.kb X.zb G:=h3;rw[hz] at h3;refine(Nx h3 hv hy hl).mono ?_;rintro r w' ⟨rfl,G',hp',hG,U⟩;exact⟨rfl,SP.move (hgo w' _ (PwP c.bp c.bc c.br c.bs _ _) G' rfl (PwP.loc _ _ _ _ _ _) hp' ⟨mv3 h3 U,hG⟩)⟩
theorem QZ (h:SP c X w F) (hl:X.zt.length<=5000) (hL:c.hs.length<=100) (hpos:∃s∈c.hs,0<s):
  Calls prog 89 #[pP c.hp 0] w λ r w'=>∃v yss k',r= .returned v/\AN w' w.heap.size v yss/\yss.flatten=X.zt/\SP c {X with kt:=k',zt:=[]} w' F/\Mv w w' F F:=by
 obtain⟨G,h3,-,-,hgo⟩:=h.step 3 rfl;refine(TS h3 hl hL hpos).mono ?_;rintro r w' ⟨v,yss,k',rfl,O,e,hp',U⟩;exact⟨v,yss,k',rfl,O,e,SP.keep (hgo w' _ (PwP c.hp c.hc c.hr c.hs _ _) G rfl (PwP.loc _ _ _ _ _ _) hp' (Mv.same (mv3 h3 U)))⟩
theorem TD (h:SP c X w F) (hz:0<X.zb.length) (hl:X.zb.length<=100000) (hL:c.bs.length<=1000000):
  Calls prog 61 #[pP c.bp 0] w λ r w'=>∃v,r= .returned (.tuple #[v,.bool true])/\AA w' w.heap.size 5 v (bv (X.zb.take (pm c.bs X.kb X.zb)))/\
   SP c {X with kb:=(X.kb+1)%c.bs.length,zb:=X.zb.drop (pm c.bs X.kb X.zb)} w' F/\Mv w w' F F:=by
 obtain⟨G,h3,-,-,hgo⟩:=h.step 4 rfl;refine(Nz h3 hz hl hL).mono ?_;rintro r w' ⟨v,rfl,O,hp',U⟩;exact⟨v,rfl,O,SP.keep (hgo w' _ (PwP c.bp c.bc c.br c.bs _ _) G rfl (PwP.loc _ _ _ _ _ _) hp' (Mv.same (mv3 h3 U)))⟩
theorem TC (h:SP c X w F) (hz:X.zb=[]):
  Calls prog 61 #[pP c.bp 0] w λ r w'=>r= .returned (.tuple #[nN,.bool false])/\w=w':=by
 obtain⟨G,h3,-⟩:=h.step 4 rfl;have h3:PW w c.bp c.bc c.br c.bs X.kb X.zb G:=h3;rw[hz] at h3;exact Ny h3
theorem QY (h:SP c X w F) (hI:Inv 4096 64 X.sa) (hv:Sl w v zs) (hn:zs.length<=5000) (ha:∀k,v.ownBlock=some k->k∉F):
  Calls prog 90 #[pP c.ap 0,v] w λ r w'=>∃v b,r= .returned v/\AN w' b v (feed 4096 64 zs (X.sa,[])).2/\∃F',SP c {X with sa:=(feed 4096 64 zs (X.sa,[])).1} w' F'/\Mv w w' F F':=by
 obtain⟨G,h3,hG,-,hgo⟩:=h.step 5 rfl;refine(Sc h3 hI hv hn (λ k hk hm=>ha k hk (hG k hm))).mono ?_;rintro r w' ⟨v,b,rfl,O,G',hd,M⟩;exact⟨v,b,rfl,O,SP.move (hgo w' _ (DfP c.ap _) G' rfl (DfP.loc _ _) hd M)⟩
theorem QX (h:SP c X w F) (hI:Inv 4096 64 X.sd) (hv:Sl w v zs) (hn:zs.length<=5000) (ha:∀k,v.ownBlock=some k->k∉F):
  Calls prog 90 #[pP c.dp 0,v] w λ r w'=>∃v b,r= .returned v/\AN w' b v (feed 4096 64 zs (X.sd,[])).2/\∃F',SP c {X with sd:=(feed 4096 64 zs (X.sd,[])).1} w' F'/\Mv w w' F F':=by
 obtain⟨G,h3,hG,-,hgo⟩:=h.step 6 rfl;refine(Sc h3 hI hv hn (λ k hk hm=>ha k hk (hG k hm))).mono ?_;rintro r w' ⟨v,b,rfl,O,G',hd,M⟩;exact⟨v,b,rfl,O,SP.move (hgo w' _ (DfP c.dp _) G' rfl (DfP.loc _ _) hd M)⟩
theorem QU (h:SP c X w F) (ok:B4 c.fb c.room c.nodes X.st st' a ds rv zs) (hx:0<=x/\x<4294967296) (hn:X.ns<=1000000) (hv:Sl w v (Aj false x a.proc (a.lay ds (AD a.proc)))):
  Calls prog 91 #[pP c.sb 0,v] w λ r w'=>∃d,r= .returned (.tuple #[d,.bool true])/\AA w' w.heap.size 5 d (bv (Aj true x a.proc (Bz a.proc rv zs)))/\∃F',SP c {X with st:=st',ns:=X.ns+1} w' F'/\Mv w w' F F':=by
 obtain⟨G,h1,-,hj,hgo⟩:=h.step 1 rfl;obtain⟨H,h7,-,hA⟩:=hj 7 _ (by omega) rfl;obtain⟨F0,rfl,hsF,hS,hF0⟩:=h1;refine(MG ok.c ok.d ok.r ok.w hx hF0 hS hsF ⟨by omega,by omega⟩ h7.2 (hA _ (by simp[h7.1])) hv).mono ?_;rintro r w' ⟨d,rfl,O,F',hF',hS',M,hsF'⟩;exact⟨d,rfl,O,SP.move (hgo w' _ (Kt c.sb c.fb c.room c.nodes st' (X.ns+1)) (c.sb::F') rfl (Kt.loc _ _ _ _ _ _) ⟨F',rfl,hsF',by simpa using hS',hF'⟩ M)⟩
end
theorem LZ (zs:List Int) (s:Nat):∀k,(fr zs s k).length=min (k*s) zs.length+4*k
 |0=>by simp[fr]
 |k+1=>by
  have h:=LZ zs s k;rw[IM];simp only[Uc,h,CD,Ul,List.length_drop,Au];have e:(k+1)*s=k*s+s:=Nat.succ_mul k s;omega
theorem Fl {s:Nat} (hs:64<=s) (hz:zs.length<=4096):0<(fr zs s (cnt zs.length s)).length/\(fr zs s (cnt zs.length s)).length<=4400:=by
 have h1:=ER hs hz;have h2:=IS zs.length s (by omega);rw[LZ];omega
theorem OX (h:CP a ds):(a.lay ds (AD a.proc)).length<=2100:=by
 have ok:=h.ok;have h1:=ok.name;have h2:=ok.name2;have h3:=ok.data;have hp:∀n:Nat,pd n<=3:=λ n=>by unfold pd;omega
 have p1:=hp a.name.size;have p2:=hp a.name2.size;have p3:=hp ds.length;rcases h.p with e|e|e|e|e|e<;>rw[e]<;>simp[AD,AV.lay,AV.fb,AV.less,CW,G9,CD,be8,Ab]<;>omega
theorem AN.piece (h:AN w base v yss) {S:List Nat} (hu:Upd S w w') (hs:∀b∈S,b<base) (hj:j<yss.length):
  ∃g n x,v= sS g 0 yss.length n/\yss.length<=n/\n<=maxLen/\w'.cell? (dD g j)=some x/\Sl w' x yss[j]/\∀k,x.ownBlock=some k->base<=k/\k<w.heap.size:=by
 obtain⟨xs,hO,hE⟩:=h;have hl:=hE.len;obtain⟨g,cap,hv,hb,hlt,hn,hm,hc,-⟩:=hO.cell (i:=j) (by omega);have hx:=hE.get (i:=j) (by omega);have hx:BU w base xs[j] yss[j]:=by rw[List.getD,Ud hj,Option.getD_some] at hx;exact hx
 refine⟨g,cap,xs[j],by rw[<-hl];exact hv,by omega,hm,hu.cell hc (λ q=>by have:=hs g q;omega),?_,λ k hk=>hx.1.lt hk⟩;exact(hx.1.upd hu (λ k hk q=>by have:=(hx.1.lt hk).1;have:=hs k q;omega)).sl hx.2
theorem AN.isSlice (h:AN w base v yss):∃a n,v= .slice a yss.length n:=by
 obtain⟨a,n,e,-⟩:=h.rows;exact⟨a,n,e⟩
theorem Ix {L:List (List Int)} (hj:j<L.length):(L.take (j+1)).flatten=(L.take j).flatten++L[j]:=by
 rw[List.take_succ_eq_append_getElem hj,List.flatten_append];simp
theorem LJ (L:List (List Int)) (j:Nat):L.flatten=(L.take j).flatten++(L.drop j).flatten:=by
 rw[<-List.flatten_append,List.take_append_drop]
theorem MU {L:List (List Int)} (hj:j<L.length):L[j].length<=L.flatten.length:=by
 rw[LJ L j,List.drop_eq_getElem_cons hj];simp only[List.flatten_cons,Uc];omega
theorem Fu {a y:List Int} (h:feed 4096 64 ((a++y)++b) (s,[])=(t,[zs])):
  ∃s1 o s2 p q,feed 4096 64 a (s,[])=(s1,p)/\feed 4096 64 y (s1,[])=(s2,o)/\feed 4096 64 (a++y) (s,[])=(s2,q)/\
   (p=[]/\o=[]/\q=[]\/p=[]/\o=[zs]/\q=[zs]\/p=[zs]/\o=[]/\q=[zs]):=by
 rcases hA:feed 4096 64 a (s,[]) with⟨s1,p⟩;rcases hB:feed 4096 64 y (s1,[]) with⟨s2,o⟩;have e:feed 4096 64 (a++y) (s,[])=(s2,p++o):=by
  rw[Fv,hA,JR,hB]
 refine⟨s1,o,s2,p,p++o,rfl,hB,e,?_⟩;have h1:=PK h;rw[e] at h1;simp only[List.append_eq_nil_iff] at h1;rcases h1 with⟨⟨q1,q2⟩,-⟩|⟨q,-⟩
 ·exact .inl ⟨q1,q2,by rw[q1,q2];rfl⟩
 ·cases p with
  |nil=>exact .inr (.inl ⟨rfl,by simpa using q,by simpa using q⟩)
  |cons y M=>
   simp only[List.cons_append,List.cons.injEq,List.append_eq_nil_iff] at q;obtain⟨rfl,rfl,q3⟩:=q;exact .inr (.inr ⟨rfl,q3,by simp[q3]⟩)
theorem Ke {L:List (List Int)} (h:feed 4096 64 L.flatten (s,[])=(t,[zs])) (hj:j<L.length):
  ∃s1 o s2 p q,feed 4096 64 (L.take j).flatten (s,[])=(s1,p)/\feed 4096 64 L[j] (s1,[])=(s2,o)/\feed 4096 64 (L.take (j+1)).flatten (s,[])=(s2,q)/\
   (p=[]/\o=[]/\q=[]\/p=[]/\o=[zs]/\q=[zs]\/p=[zs]/\o=[]/\q=[zs]):=by
 rw[Ix hj];rw[LJ L (j+1),Ix hj] at h;exact Fu h
structure SC.Scripts (c:SC):Prop where
 h:c.hs.length<=100/\∃s∈c.hs,0<s
 b:c.bs.length<=100/\∃s∈c.bs,0<s
def Jh (c:SC) (X:SX) (st':Option AE) (R:List Int) (s1:St) (w wr:World) (F:List Nat):Prop:=
 ∃F' k' s,Mv w wr F F'/\64<=s/\c.Ok k'/\SP c {X with k:=k',st:=st',ns:=X.ns+1,sa:=s1,zb:=fr R s (cnt R.length s)} wr F'
def Ji (c:SC) (X:SX) (st':Option AE) (zs R:List Int) (pre:List Int) (w wr:World) (F:List Nat):Prop:=
 ((feed 4096 64 pre (X.sa,[])).2=[]/\∃F',Mv w wr F F'/\SP c {X with sa:=(feed 4096 64 pre (X.sa,[])).1} wr F')\/
  ((feed 4096 64 pre (X.sa,[])).2=[zs]/\Jh c X st' R (feed 4096 64 pre (X.sa,[])).1 w wr F)
theorem Nc {c:SC} {X:SX} (h:SP c X w F) (ok:c.Ok X.k) (hc:c.Scripts) (hzt:X.zt=[]) (hzb:X.zb=[]) {need:Nat} {ends:Bool} (hsa:X.sa=idle need ends) (A:B4 c.fb c.room c.nodes X.st st' a ds rv rs) (hx:0<=x/\x<4294967296) (hn:X.ns<=1000000) (hv:Sl w v (Aj false x a.proc (a.lay ds (AD a.proc)))) (hvF:∀g,v.ownBlock=some g->g≠c.sp):
  Calls prog 46 #[pP c.sp 0,v] w λ r w'=>r= .returned (.tuple #[])/\∃kt need ends,Jh c {X with kt:=kt} st' (Aj true x a.proc (Bz a.proc rv rs)) (idle need ends) w w' F:=by
 obtain⟨zs,hzs⟩:∃zs,zs=Aj false x a.proc (a.lay ds (AD a.proc)):=⟨_,rfl⟩;obtain⟨R,hR⟩:∃R,R=Aj true x a.proc (Bz a.proc rv rs):=⟨_,rfl⟩;have hzl:zs.length<=4096:=by have h1:=C5 false x a.proc (a.lay ds (AD a.proc));have h2:=OX A.c;rw[hzs];omega
 have hRl:R.length<=4096:=by have h1:=C5 true x a.proc (Bz a.proc rv rs);have h2:=DN A.r;rw[hR];omega
 have hp:0<=a.proc/\a.proc<4294967296:=by have:=A.c.p;omega
 have hRw:Wf R:=by rw[hR];exact Gx hx hp (Hx A.r A.w)
 have HS:=hid (λ (Y:SX) (W:World) (G:List Nat) (v:Value) (hP:SP c Y W G) (e:Y.st=X.st) (hn:Y.ns=X.ns) (q:Sl W v zs)=>QU hP (e▸A) hx (by rw[hn];omega) (by rw[<-hzs];exact q));rw[<-hzs] at hv;rw[<-hR] at HS|-
 have HC:=hid (λ W (e:Ext w W)=>SJ (h.ext e) ok (hv.ext e) hzl hvF);have hwz:=hv.wf;have HR:=hid hRw;have HRL:=hid hRl;have HSc:=hid hc;have HZT:=hid hzt;have HZB:=hid hzb;have HSA:=hid hsa;have HZL:=hid hzl;have hc8:=cO h.blk.1 8;simp only[SC.cl,ptr] at hc8;have hc8:w.cell? (dD c.sp 8)=some (pP c.hp 0):=hc8;have HWZ:=hid hwz;clear A hx hn hp hRw hzs hR ok hc hzt hzb hsa hRl hzl hwz h hv hvF;go_in;go_wp2_with fail;go_cut [0] (λ q0 wx=>q0= pP c.sp 0/\∃F1 k1 s1,64<=s1/\c.Ok k1/\SP c {X with k:=k1,zt:=fr zs s1 (cnt zs.length s1)} wx F1/\Mv w wx F F1)
 case first=>
  go_region_with (first|(go_at_call 88;refine(HC.o _ (dE _)).mono ?_;rintro r w1 ⟨v1,s1,k1,rfl,O1,hs1,ok1,P1,M1⟩;have c18:=cO P1.blk.1 8;simp only[SC.cl,ptr] at c18;have c18:w1.cell? (dD c.sp 8)=some (pP c.hp 0):=c18)|(go_at_call 60;refine(QT P1 HZT.o (O1.sl (Ow HWZ.o HZL.o _ _)) (Fl hs1 HZL.o).1 (by have:=(Fl hs1 HZL.o).2;omega)).mono ?_;rintro r w2 ⟨rfl,F2,P2,M2⟩))
  all_goals
   go_wp2_with fail;go_meet
   case rel=>exact⟨rfl,F2,k1,s1,hs1,ok1,P2,(Mv.of_ext (dE _) F).trans (M1.trans M2)⟩
 case rest=>
  obtain⟨rfl,F1,k1,s1,hs1,ok1,P1,M1⟩:=hcut;have c8:wc.cell? (dD c.sp 8)=some (pP c.hp 0):=cO P1.blk.1 8;have HD:=hid (QZ P1 (by have:=(Fl hs1 HZL.o).2;show(fr zs s1 (cnt zs.length s1)).length<=5000;omega) HSc.o.h.1 HSc.o.h.2);have HF1:=hid P1.lt;have HM1:=hid M1;have HK1:=hid ok1;have HS1:=hid hs1;clear P1 M1 ok1 hs1 hc8 HC;go_wp2_with fail;refine HD.o.mono ?_;rintro r w2 ⟨v2,L,kt,rfl,O2,eL,P2,M2⟩;obtain⟨need2,ends2,hfeed⟩:=JS (zs:=zs) HS1.o HZL.o need ends;rw[<-show L.flatten=fr zs s1 (cnt zs.length s1) from eL,<-HSA.o] at hfeed;obtain⟨a2,n2,rfl⟩:=O2.isSlice;obtain⟨m,hm⟩:∃m,m=L.length:=⟨_,rfl⟩;rw[<-hm] at O2|-
  have HLl:=hid (show L.flatten.length<=4400 by rw[show L.flatten=fr zs s1 (cnt zs.length s1) from eL];exact(Fl HS1.o HZL.o).2);have HL:=hid hm;have HO2:=hid O2;obtain⟨X2,hX2⟩:∃X2,X2={X with k:=k1,kt:=kt,zt:=[]}:=⟨_,rfl⟩;have P2:SP c X2 w2 F1:=by rw[hX2];exact P2
  have HP2:=hid P2;have HM2:=hid (HM1.o.trans M2);have HX2:=hid hX2;rw[show X.sa=X2.sa by rw[hX2]] at hfeed;have HFe:=hid hfeed;have HIv:=hid (show Inv 4096 64 X2.sa by rw[hX2];show Inv 4096 64 X.sa;rw[HSA.o];exact JJ _ _);clear O2 eL M2 P2 hm hfeed HD HM1 hX2 c8;go_wp2_with fail;go_loopw [26] (λ v26 wr=>∃j:Nat,j<=m/\v26= iI j/\Ji c X2 st' zs R (L.take j).flatten w2 wr F1) (λ v26 _=>m-(intOf v26).toNat)
  case atStart=>
   refine⟨0,by omega,rfl,.inl ⟨rfl,F1,Mv.refl _ _,?_⟩⟩;exact HP2.o
  case round=>
   obtain⟨j,hj,rfl,hI⟩:=hrel;have HI:=hid hI;clear hI;by_cases hlt:j<m
   ·have hj2:j<L.length:=by rw[<-HL.o];exact hlt
    obtain⟨t1,o,t2,p,q,g1,g2,g3,hcs⟩:=Ke HFe.o hj2;have hst:∃Y F',SP c Y wr F'/\Mv w2 wr F1 F'/\Y.sa=t1/\((o=[]/\∀w3 F3,SP c {Y with sa:=t2} w3 F3->Mv w2 w3 F1 F3->Ji c X2 st' zs R (L.take (j+1)).flatten w2 w3 F1)\/(o=[zs]/\Y={X2 with sa:=t1}/\∀w3,Jh c X2 st' R t2 w2 w3 F1->Ji c X2 st' zs R (L.take (j+1)).flatten w2 w3 F1)):=by
     have hI:=HI.o;simp only[Ji,g1,g3] at hI|-
     rcases hI with⟨hp,F',hM,hP⟩|⟨hp,F',k',s,hM,hs,hk,hP⟩
     ·refine⟨_,F',hP,hM,rfl,?_⟩;rcases hcs with⟨-,ho,hq⟩|⟨-,ho,hq⟩|⟨h3,-,-⟩
      ·exact .inl ⟨ho,λ w3 F3 hP3 hM3=> .inl ⟨hq,F3,hM3,hP3⟩⟩
      ·exact .inr ⟨ho,rfl,λ w3 hS=> .inr ⟨hq,hS⟩⟩
      ·rw[hp] at h3;cases h3
     ·refine⟨_,F',hP,hM,rfl,?_⟩;rcases hcs with⟨h3,-,-⟩|⟨h3,-,-⟩|⟨-,ho,hq⟩
      ·rw[hp] at h3;cases h3
      ·rw[hp] at h3;cases h3
      ·exact .inl ⟨ho,λ w3 F3 hP3 hM3=> .inr ⟨hq,F3,k',s,hM3,hs,hk,hP3⟩⟩
    obtain⟨Y,F',hP,hM,hY,hfin⟩:=hst;have hIv:Inv 4096 64 Y.sa:=by
     have h1:=Inv.feed (L.take j).flatten (p:=(X2.sa,[])) HIv.o;rw[g1] at h1;rw[hY];exact h1
    obtain⟨g,n,xv,ev,hn1,hn2,cx,hsx,hxb⟩:=HO2.o.piece hM.1 (λ b hb=>HF1.o b hb) hj2;obtain⟨rfl,-,rfl⟩:a2=some ⟨g,0,none⟩/\m=L.length/\n2=n:=by simpa using ev
    have hfd:=QY hP hIv hsx (by have:=MU hj2;have:=HLl.o;omega) (λ k hk hm=>by
     obtain⟨q1,q2⟩:=hxb k hk;rcases hM.2 k hm with q3|q3
     ·have:=HF1.o k q3;omega
     ·omega)
    rw[hY,g2] at hfd;dsimp only at hfd;have HFd:=hid hfd;have HP:=hid hP;have HM:=hid hM;have HFin:=hid hfin;have c10:wr.cell? (dD c.sp 10)=some (pP c.ap 0):=cO hP.blk.1 10;have hjm:(j:Int)<(m:Int):=by omega
    have hj0:(0:Int)<=(j:Int):=by omega
    have e2:IntKind.i64.wrap ((j:Int)+1)=(j:Int)+1:=Uh _ (by have:=HO2.o;unfold maxLen at hn2;omega);obtain⟨xa,xc,rfl,-,-⟩:=hsx;clear g1 g2 g3 hcs hfd hP hM hfin hIv ev hxb hY HI;go_wp2_with fail;refine HFd.o.mono ?_;rintro r w3 ⟨v3,b3,rfl,O3,F3,P3,M3⟩;have HP3:=hid P3;have HM3:=hid (HM.o.trans M3);rcases HFin.o with⟨rfl,hf⟩|⟨rfl,rfl,hf⟩
    ·obtain⟨a3,n3,rfl⟩:=O3.isSlice;have HF3:=hid (hf w3 F3 P3 HM3.o);clear O3 P3 M3 HFin hf c10 cx HFd;go_wp2_with fail;go_loopw [37] (λ v wr'=>v= iI 0/\wr'=w3) (λ _ _=>0)
     case atStart=>exact⟨rfl,rfl⟩
     case round=>
      obtain⟨rfl,rfl⟩:=hrel;go_wp2_with fail;go_roundw
      case rel=>exact⟨j+1,by omega,congrArg (Value.int .i64) (by omega),HF3.o⟩
      case measure=>simp only[intOf];omega
    ·obtain⟨g3,n3,x3,ev3,hn3,hn4,cx3,hs3,-⟩:=O3.piece (S:=[]) (Upd.refl [] w3) (by simp) (j:=0) (by simp);obtain rfl:v3= sS g3 0 1 n3:=ev3;have hs3:Sl w3 x3 zs:=hs3;have HSv:=hid (HS.o {X2 with sa:=t2} w3 F3 x3 P3 (by rw[HX2.o]) (by rw[HX2.o]) hs3);have c0:w3.cell? (dD c.sp 0)=some (pP c.sb 0):=cO P3.blk.1 0;have hsl4:=lH P3.blk.1;have HFx:=hid hf;obtain⟨ya,yc,rfl,-,-⟩:=hs3;clear O3 P3 M3 HFin hf c10 cx HFd HS;have hn3:1<=n3:=hn3;go_wp2_with fail;go_loopw [37] (λ v wr'=>(v= iI 0/\wr'=w3)\/(v= iI 1/\Jh c X2 st' R t2 w2 wr' F1)) (λ v _=>2-(intOf v).toNat)
     case atStart=>exact .inl ⟨rfl,rfl⟩
     case round=>
      rcases hrel with⟨rfl,rfl⟩|⟨rfl,hS⟩
      ·go_wp2_with fail;refine HSv.o.mono ?_;rintro r w4 ⟨d,rfl,O4,F4,P4,M4⟩;have c14:w4.cell? (dD c.sp 14)=some (nN):=cO P4.blk.1 14;have f14:=fO P4.blk.1;have hsl5:=lH P4.blk.1;obtain⟨da,dc,rfl,-,-⟩:=O4.sl HR.o;obtain⟨rl,hrl⟩:∃n,n=R.length:=⟨_,rfl⟩;rw[<-hrl] at O4|-
       have HO4:=hid O4;have HP4:=hid P4;have HM4:=hid (HM3.o.trans M4);clear O4 P4 M4 hrl cx3 c0 HSv;go_wp2_with fail;go_loopw [57] (λ v wr'=>v= iI 0/\wr'=w4) (λ _ _=>0)
       case atStart=>exact⟨rfl,rfl⟩
       case round=>
        obtain⟨rfl,rfl⟩:=hrel;go_wp2_with fail;obtain⟨W5,hW5⟩:∃W,W=wr.setCell (dD c.sp 14) (nN):=⟨_,rfl⟩;rw[<-hW5];have U5:Upd [c.sp] wr W5:=by rw[hW5];exact(Upd.refl _ _).setCell _ _ (.inl (by simp))
        have hb5:W5.heap[c.sp]?=oC (c.cl X2.rest X2.o X2.k X2.n) 78:=by rw[hW5];exact jP (i:=14) (nN) HP4.o.blk.1
        obtain⟨P5,M5⟩:=HP4.o.put U5 hb5;have hdb:∀k,(Value.slice da rl dc).ownBlock=some k->k≠c.sp:=λ k hk=>by have:=(HO4.o.lt hk).1;omega
        have S5:Sl W5 (.slice da rl dc) R:=(HO4.o.upd U5 (λ k hk=>by simpa using hdb k hk)).sl HR.o;have HC5:=hid (SJ (P5.ext (dE W5)) (by rw[HX2.o];exact HK1.o) (S5.ext (dE W5)) HRL.o hdb);have c59:W5.drew.cell? (dD c.sp 9)=some (pP c.bp 0):=cO hb5 9;have HM5:=hid (HM4.o.trans M5);clear hW5 U5 hb5 P5 M5 hdb S5 c14 f14;go_region_with (first|(go_at_call 88;refine HC5.o.mono ?_;rintro r w6 ⟨v6,s6,k6,rfl,O6,hs6,ok6,P6,M6⟩;have c69:w6.cell? (dD c.sp 9)=some (pP c.bp 0):=cO P6.blk.1 9)|(go_at_call 60;refine(TG P6 (by rw[HX2.o];exact HZB.o) (O6.sl (Ow HR.o HRL.o _ _)) (Fl hs6 HRL.o).1 (by have:=(Fl hs6 HRL.o).2;omega)).mono ?_;rintro r w7 ⟨rfl,F7,P7,M7⟩))
        all_goals
         have HSe:=hid (show Jh c X2 st' R t2 w2 w7 F1 from⟨F7,k6,s6,HM5.o.trans ((Mv.of_ext (dE W5) F4).trans (M6.trans M7)),hs6,ok6,P7⟩);clear P6 M6 P7 M7 O6;go_wp2_with fail;go_roundw
         case rel=>exact .inr ⟨rfl,HSe.o⟩
         case measure=>simp[intOf]
      ·have HSe:=hid hS;clear hS;go_wp2_with fail;go_roundw
       case rel=>exact⟨j+1,by omega,congrArg (Value.int .i64) (by omega),HFx.o _ HSe.o⟩
       case measure=>simp only[intOf];omega
   ·obtain rfl:j=m:=by omega
    have hI:=HI.o;rw[List.take_of_length_le (by have:=HL.o;omega)] at hI;simp only[Ji,HFe.o] at hI;rcases hI with⟨hp,-⟩|⟨-,F',k',s,hM,hs,hk,hP⟩
    ·cases hp
    ·have HP:=hid hP;have HM:=hid hM;clear hP hM HI;go_wp2_with fail;go_end0;refine⟨rfl,kt,need2,ends2,F',k',s,HM2.o.trans HM.o,hs,hk,?_⟩;have hP:=HP.o;rw[HX2.o] at hP;rw[HZT.o];exact hP
theorem NZ (m f:Nat) (p:St×List (List Int)) (c:Int) (h:p.1.err=0\/p.1.mode=2):(stepF m f p c).1.err=0\/(stepF m f p c).1.mode=2:=by
 unfold stepF step Ak A7 tell St.fail
 repeat' split
 all_goals simp_all
theorem JU (m f:Nat):∀(b:List Int) (p:St×List (List Int)),p.1.err=0\/p.1.mode=2->(feed m f b p).1.err=0\/(feed m f b p).1.mode=2
 |[],_,h=>h
 |c::b,p,h=>JU m f b _ (NZ m f p c h)
theorem Gq (m f:Nat):∀(t:List Int) (p:St×List (List Int)),p.1.mode=2->(feed m f t p).1.mode=2
 |[],_,h=>h
 |c::t,p,h=>Gq m f t _ (by unfold stepF step tell;repeat' split;all_goals simp_all)
theorem N0 {c:List Int} {L:List (List Int)} (h:feed 4096 64 (b++c) (s,[])=(t,L)) (hs:s.err=0) (ht:t.mode=0):(feed 4096 64 b (s,[])).1.err=0:=by
 rcases JU 4096 64 b (s,[]) (.inl hs) with q|q
 ·exact q
 ·rw[Fv] at h;have:=Gq 4096 64 c _ q;rw[h] at this;simp only at this;omega
theorem LC {c:SC} {X:SX} (h:SP c X w F):Calls prog 94 #[pP c.dp 0] w λ r w'=>r= .returned (iI X.sd.err)/\w=w':=by
 obtain⟨G,⟨b,vn,vr,-,hd⟩,-⟩:=h.step 6 rfl;have c8:w.cell? (dD c.dp 8)=some (iI X.sd.err):=cO hd.blk 8;go_in;go_wp2_with fail;go_ret;exact⟨rfl,rfl⟩
theorem KE {c:SC} {X:SX} (h:SP c X w F) (hl:X.l=[⟨x,p,p⟩]) (ok:BH p rv rs) (hw:Wf rs) (hx:0<=x/\x<4294967296) (hp:0<=p/\p<4294967296) (hv:Sl w v (Aj true x p (Bz p rv rs))):
  Calls prog 93 #[pP c.sp 0,v] w λ r w'=>∃d,r= .returned (.tuple #[rv.val d,.bool true])/\AA w' w.heap.size 5 d (bv rs)/\SP c {X with l:=[]} w' F/\Mv w w' F F:=by
 have HRd:=hid (λ W (X:Ext w W)=>SR hx hp (by have:=DN ok;omega) (hv.ext X));have HM:=hid (λ (W:World) (hX:Ext w W)=>QW (h.ext hX) hl);have HRw:=hid (Hx ok hw);have HOk:=hid ok;have HW:=hid hw;have HLt:=hid h.lt;have HP:=hid h;clear h hl ok hw hx hp hv;go_in;go_wp2_with fail;refine(HRd.o _ ((Ext.refl w).alloc _)).mono ?_;rintro r w1 ⟨b,rfl,O1,X1⟩;have hb1:=X1.heap (Ub w (.cells Bk 142));have XX1:Ext w w1:=((Ext.refl w).alloc _).trans X1;have HB1:=hid hb1;have HX1:=hid XX1;obtain⟨ba,bc,rfl,-,-⟩:=O1.sl HRw.o;obtain⟨m,hm⟩:∃m,m=(Bz p rv rs).length:=⟨_,rfl⟩;rw[<-hm] at O1|-
 have HO1:=hid (O1.low (show w.heap.size<=_ by simp));have hz1:w.heap.size+1<=w1.heap.size:=by have:=X1.size;simpa using this
 clear hb1 X1 XX1 O1 hm;go_wp2_with fail;obtain⟨W2,hW2⟩:∃W,W=w1.alloc (.cells #[.bool true,.int .u32 x,.int .u32 p,.slice ba m bc] 151):=⟨_,rfl⟩;rw[<-hW2];have X2:Ext w1 W2:=by rw[hW2];exact(Ext.refl _).alloc _
 have h2:W2.heap[w1.heap.size]?=oC #[.bool true,.int .u32 x,.int .u32 p,.slice ba m bc] 151:=by rw[hW2];exact Ub w1 _
 have h2d:W2.drew.heap[w1.heap.size]?=oC #[.bool true,.int .u32 x,.int .u32 p,.slice ba m bc] 151:=h2;obtain⟨m0,m1,m2,m3,-⟩:=Jb h2d;have c7:W2.drew.cell? (dD c.sp 7)=some (pP c.mp 0):=cO (HP.o.ext ((HX1.o.trans X2).drew)).blk.1 7;have HX2:=hid (HX1.o.trans X2).drew;have HMt:=hid (HM.o W2.drew HX2.o);have HH2:=hid h2d;have HB2:=hid (X2.drew.heap HB1.o);have HO2:=hid (HO1.o.ext X2.drew);clear hW2 X2 h2 h2d;go_cut [8,9] (λ q8 q9 wx=>q8= iI p/\q9= iI 0/\SP c {X with l:=[]} wx F/\Mv W2.drew wx F F)
 case first=>
  go_region_with (go_at_call 146;refine HMt.o.mono ?_;rintro r w3 ⟨rfl,P3,M3⟩)
  all_goals
   go_wp2_with fail;go_meet
   case rel=>exact⟨rfl,rfl,P3,M3⟩
 case rest=>
 obtain⟨rfl,rfl,P3,M3⟩:=hcut;obtain⟨w3,hw3⟩:∃w3,w3=wc:=⟨_,rfl⟩;rw[<-hw3] at P3 M3|-
 clear hw3;have h3:=M3.1.heap HH2.o (λ hm=>by have:=HLt.o _ hm;omega);obtain⟨n0,n1,n2,n3,-⟩:=Jb h3;have hnl:=lH h3;have HP3:=hid P3;have HM3:=hid M3;clear P3 M3 h3;have hO3:=HO2.o.upd HM3.o.1 (λ g hg hm=>by have:=(HO2.o.lt hg).1;have:=HLt.o _ hm;omega);have HA:=hid (M0 HOk.o HW.o (hO3.sl HRw.o) HP3.o.tab);have HB3:=hid (HM3.o.1.heap HB2.o (λ hm=>by have:=HLt.o _ hm;omega));clear hO3 m0 m1 m2 m3 c7 HM HRd;go_wp2_with fail;refine HA.o.mono ?_;rintro r w4 ⟨d,rfl,O4,X4⟩;have HB4:=hid (X4.heap HB3.o);have hb4l:=lH HB4.o;obtain⟨da,dc,rfl,-,-⟩:=O4.sl HW.o;obtain⟨k,hk⟩:∃k,k=rs.length:=⟨_,rfl⟩;rw[<-hk] at O4|-
 have HO4:=hid O4;have HX4:=hid X4;clear O4 X4 n0 n1 n2 n3 hk;dsimp only[RV.val];go_upto_region 13 with fail;obtain⟨W5,hW5⟩:∃W,W=w4.alloc (.cells (rR rv.e rv.h1 rv.h2 rv.kind rv.mode rv.size (.slice da k dc) rv.count rv.eof (nN)) 142):=⟨_,rfl⟩;rw[<-hW5];have X5:Ext w4 W5:=by rw[hW5];exact(Ext.refl _).alloc _
 have h5:W5.heap[w4.heap.size]?=oC (rR rv.e rv.h1 rv.h2 rv.kind rv.mode rv.size (.slice da k dc) rv.count rv.eof (nN)) 142:=by rw[hW5];exact Ub w4 _
 have HX5:=hid X5;have HB5:=hid (X5.heap HB4.o);obtain⟨s0,s1,s2,s3,s4,s5,s6,s7,s8,s9,-⟩:=AC h5;obtain⟨r0,r1,r2,r3,r4,r5,r6,r7,r8,r9,rf⟩:=AC (show W5.heap[w.heap.size]?=oC rZ 142 from HB5.o);clear h5 hW5 X5;go_wp2_with fail;refine Aa (R:=w.heap.size) (w0:=W5) (Pr:=λ W=>bodyPost _ _ _ _ _ W) _ (Ao HB5.o) (AX _ _ _ _ _ _ _ _ _ _ _ _) ?_;clear r0 r1 r2 r3 r4 r5 r6 r7 r8 r9 rf s0 s1 s2 s3 s4 s5 s6 s7 s8 s9;intro W hR hU;have hq:∀b∈F,b∉[w.heap.size]:=λ b hb hm=>by have:=HLt.o b hb;simp at hm;omega
 have P6:=(SP.loc c _).2 _ _ _ _ ((HP3.o.ext HX4.o).ext HX5.o) hU hq;have M6:=(((Mv.of_ext HX2.o F).trans HM3.o).ext HX4.o).ext HX5.o;refine Ue (v:= .tuple #[rv.val (.slice da k dc),.bool true]) (AO (g:=w.heap.size) (cs:=rv.cells (.slice da k dc)) rfl _ _ _ _ rfl hR underlying142 rfl FE rfl) rfl ⟨_,rfl,?_,P6,M6.1.trans2 hU (λ i hi=> .inr (by simp at hi;omega)),M6.2⟩;exact((HO4.o.ext HX5.o).upd hU (λ g hg hm=>by have:=(HO4.o.lt hg).1;simp at hm;omega)).low (by omega)
end Go.Proofs.YtdakioiagpkfhaaGreatDoor
