import Derived.Test.YtdakioiagpkfhaaGreatDoorP02
import Derived.WalkArith
import Derived.Lib.AppendStr
set_option maxRecDepth 99999
set_option maxHeartbeats 0
set_option linter.all false
namespace Go.Proofs.YtdakioiagpkfhaaGreatDoor
open WideShapes RowKit
open Go.Proofs.Tryz
variable {base g:Nat} {e z:Int} {v y:Value} {w w':World} {ys zs:List Int}
theorem Ar (a:Option Addr) (n cap:Nat) (zs:List Int) (hn:n<=1000000) (w:World) (h:AI .u8 w a n cap zs) (ha:a=none->cap=0):
  Calls prog 96 #[.slice a n cap] w λ r w'=>∃v,r= .returned v/\AA w' w.heap.size 5 v (bv zs)/\Ext w w':=by
 have hcm:=h.2.2.1;have hlc:=h.2.1;have hl:=h.1;unfold maxLen at hcm;cases a with
 |none=>
  have hc0:=ha rfl;have hz:zs=[]:=List.eq_nil_of_length_eq_zero (by omega);obtain rfl:n=0:=by omega
  subst hz hc0;clear h ha;have hnn:=λ W=>Go.Lib.run_eql_slice_nil (P:=prog) W 26 5 none 0 0 0 0 underlying26
  simp only[Option.isNone_none] at hnn;go_in;go_wp2;go_ret;exact⟨_,rfl,AA.nil _ _ _,Ext.refl w⟩
 |some ad=>
  have h0:AA (w.alloc (.cells #[] 5)) w.heap.size 5 (sS w.heap.size 0 0 0) []:=
   ⟨by simp,.inr ⟨w.heap.size,0,#[],rfl,Uf _,Ub w _,by simp,by unfold maxLen;omega,by simp,by simp⟩⟩
  obtain⟨v',w',h1,h2,h3⟩:=De h0 (c:=cap) (h.ext ((Ext.refl w).alloc (.cells #[] 5))) (λ e=>by cases e) (by simp;omega) (by simp) 26;have H1:=hid h1;have H2:=hid (show AA w' w.heap.size 5 v' (bv zs) from h2);have H3:=hid (Uu h3 ((Ext.refl w).alloc (.cells #[] 5)) (λ g hg=>by simp[Value.ownBlock] at hg;omega));clear h h0 h1 h2 h3 ha hl;have hnn:=λ W=>Go.Lib.run_eql_slice_nil (P:=prog) W 26 5 (some ad) n cap 0 0 underlying26
  simp only[Option.isNone_some] at hnn;go_in;go_wp2_with (at_builtin;refine jA rfl (.tmp 5) (.tmp 6) _ rfl _ _ _ ?_ ?_ H1.o ?_)
  ·rfl
  ·rfl
  ·go_ret;exact⟨_,rfl,H2.o,H3.o⟩
def RdW (w:World) (g:Nat) (e:Int) (zs:List Int):Prop:=
 ∃a c,w.heap[g]?=oC #[iI e,.slice a zs.length c] 265/\AI .u8 w a zs.length c zs/\Bj a c
theorem RdW.ext (h:RdW w g e zs) (hx:Ext w w'):RdW w' g e zs:=by
 obtain⟨a,c,h1,h2,h3⟩:=h;exact⟨a,c,hx.heap h1,h2.ext hx,h3⟩
theorem RdW.lt (h:RdW w g e zs):g<w.heap.size:=by
 obtain⟨a,c,h1,_⟩:=h;exact lH h1
theorem EC (a:Option Addr) (n cap:Nat) (zs:List Int) (hn:n<=1000000) (w:World) (h:AI .u8 w a n cap zs) (ha:a=none->cap=0):
  Calls prog 81 #[.slice a n cap] w λ r w'=>∃g,r= .returned (pP g 0)/\RdW w' g 0 zs/\w.heap.size<=g/\Ext w w':=by
 have hw:=h.2.2.2.1;have HW:=hid hw;have H:=hid (Ar a n cap zs hn w h ha);clear h ha hw;go_in;go_wp2_with fail;refine H.o.mono ?_;rintro r w1 ⟨v,rfl,hO,hX⟩;obtain⟨b,c,rfl,hr,hp⟩:=hO.row2 HW.o;have HR:=hid hr;have HP:=hid hp;have HX:=hid hX;clear hO hr hp hX;go_wp2_with fail;go_ret;exact⟨_,rfl,⟨b,c,Ub _ _,HR.o.ext ((Ext.refl _).alloc _),HP.o⟩,HX.o.size,HX.o.trans ((Ext.refl _).alloc _)⟩
theorem Bn {x:Value} {t:TypeId} (hg:w.heap[g]?=oC #[x,y] t) (hx:∀z,x≠ .int .u8 z) (hy:∀z,y≠ .int .u8 z) {b i:Nat} (h:w.cell? (dD b i)=some (.int .u8 z)):b≠g:=by
 intro e;subst e;rw[cO hg] at h
 match i with
 |0=>simp at h;exact hx z h
 |1=>simp at h;exact hy z h
 |i+2=>simp at h
theorem AI.upd {S:List Nat} {k:IntKind} {a:Option Addr} {len cap:Nat} (h:AI k w a len cap zs) (hx:Upd S w w') (hs:∀b i z,w.cell? (dD b i)=some (.int k z)->b∉S):AI k w' a len cap zs:=by
 obtain⟨h1,h2,h3,h4,h5⟩:=h;refine⟨h1,h2,h3,h4,?_⟩;rcases h5 with h5|⟨g,o,h6,h7⟩
 ·exact .inl h5
 ·exact .inr ⟨g,o,h6,λ i hi=>hx.cell (h7 i hi) (hs _ _ _ (h7 i hi))⟩
def val (l:List Int):Int:=l.foldl (λ a z=>a*256+z) 0
theorem FO (l:List Int) (z:Int):val (l++[z])=val l*256+z:=by simp[val]
theorem FP (h:∀z∈zs,(Lit.int .u8 z).wf=true):∀i,i<=zs.length->0<=val (zs.take i)/\val (zs.take i)<256^i:=by
 intro i
 induction i with
 |zero=>intro _;simp[val]
 |succ i ih=>
  intro hi;have h1:=ih (by omega);have h2:=GU (h _ (List.getElem_mem (show i<zs.length by omega)));rw[List.take_succ_eq_append_getElem (by omega),FO,Int.pow_succ];omega
theorem Qq (n:Int) (z:Int) (hn0:0<=n) (hn:n<=16777215) (hz0:0<=z) (hz:z<=255):bits .or .u64 (n*256) z=n*256+z:=by
 obtain⟨m,rfl⟩:=Int.eq_ofNat_of_zero_le hn0;obtain⟨k,rfl⟩:=Int.eq_ofNat_of_zero_le hz0;have h1:bits .or .u64 ((m:Int)*256) (k:Int)=IntKind.u64.wrap ((BitVec.ofInt 64 ((m:Int)*256)|||BitVec.ofInt 64 (k:Int)).toNat:Nat):=rfl;have h2:(BitVec.ofInt 64 (k:Int)).toNat=k:=by rw[BitVec.toNat_ofInt];simp;omega
 have h3:(BitVec.ofInt 64 ((m:Int)*256)).toNat=m*256:=by rw[BitVec.toNat_ofInt];omega
 have h4:m*256|||k=m*256+k:=by
  have:=Nat.two_pow_add_eq_or_of_lt (i:=8) (b:=k) (by omega) m;rw[show(2:Nat)^8=256 by rfl,Nat.mul_comm] at this;exact this.symm
 rw[h1,BitVec.toNat_or,h2,h3,h4];simp[IntKind.wrap,IntKind.signed,IntKind.bits];omega
theorem MW (g:Nat) (zs:List Int) (hz:4<=zs.length) (w:World) (h:RdW w g 0 zs):
  Calls prog 133 #[pP g 0,iI 4] w λ r w'=>r= .returned (.int .u64 (val (zs.take 4)))/\RdW w' g 0 (zs.drop 4)/\Upd [g] w w':=by
 obtain⟨a,c,h1,h2,h3⟩:=h;obtain⟨c0,c1,f0,f1⟩:=Al h1;have hcm:=h2.2.2.1;have hlc:=h2.2.1;unfold maxLen at hcm;obtain⟨gb,o,rfl,hcell⟩:∃gb o,a=some ⟨gb,o,none⟩/\∀i,i<zs.length->w.cell? (dD gb (o+i))=some (.int .u8 (zs.getD i 0)):=by
  rcases h2.2.2.2.2 with h0|h0
  ·omega
  ·exact h0
 have hd:decide ((zs.length:Int)<4)=false:=by simp;omega
 have HC:=hid hcell;have H1:=hid h1;have H2:=hid h2;obtain⟨n,hn⟩:∃n,n=zs.length:=⟨_,rfl⟩;rw[<-hn] at c1 hd hlc hz;have HN:=hid hn;clear h1 h2 h3 hcell hn;go_in;go_wp2_with fail;go_loop [5,30] (λ v5 v30=>∃i:Nat,i<=4/\v30= iI i/\v5= .int .u64 (val (zs.take i))) (λ _ v30=>4-(intOf v30).toNat)
 case atStart=>exact⟨0,by omega,rfl,by simp[val]⟩
 case round=>
  obtain⟨i,hi,rfl,rfl⟩:=hrel;by_cases hlt:i<4
  ·have hdi:decide ((i:Int)<4)=true:=by simp;omega
   have hi0:(0:Int)<=(i:Int):=by omega
   have hi1:(i:Int)<4:=by omega
   have q:=HC.o i (by have:=HN.o;omega);have HV:=hid (show val (zs.take (i+1))=val (zs.take i)*256+zs.getD i 0 by
    have hl:i<zs.length:=by have:=HN.o;omega
    rw[List.take_succ_eq_append_getElem hl,FO];simp[List.getD,Ud hl])
   have hv:=FP H2.o.2.2.2.1 i (by have:=HN.o;omega);have hv2:val (zs.take i)<=16777215:=by
    have:i=0\/i=1\/i=2\/i=3:=by omega
    rcases this with rfl|rfl|rfl|rfl<;>omega
   have hv0:=hv.1;have hzb:=GU (H2.o.2.2.2.1 (zs.getD i 0) (by
    have hl:i<zs.length:=by have:=HN.o;omega
    simp[List.getD,Ud hl]))
   generalize zs.getD i 0=z at*;generalize val (zs.take i)=t at*;have hor:=Qq t z hv0 hv2 hzb.1 hzb.2;clear hv;go_wp2_with fail;go_round
   case rel=>exact⟨i+1,by omega,by go_num,by rw[HV.o]⟩
   case measure=>simp[intOf];omega
  ·have hdi:decide ((i:Int)<4)=false:=by simp;omega
   obtain rfl:i=4:=by omega
   by_cases hc4:c=4
   ·subst hc4;go_wp2_with fail;go_ret;have b1:=heap_setCell_same w g 1 _ _ (sS gb o 0 0) H1.o;have e1:(zs.drop 4).length=0:=by rw[List.length_drop,<-HN.o];omega
    have u1:Upd [g] w (w.setCell (dD g 1) (sS gb o 0 0)):=(Upd.refl [g] w).setCell _ _ (by simp);refine⟨rfl,⟨some ⟨gb,o,none⟩,0,by rw[b1,e1];rfl,?_,.inr ⟨gb,o,rfl⟩⟩,u1⟩;have hr:=H2.o.cut (j:=4) (by rw[<-HN.o];exact hz) (some ⟨gb,o,none⟩) (λ h=>by have:=HN.o;omega);rw[e1];rw[<-HN.o,show n-4=0 by omega] at hr;exact hr.upd u1 (λ b i z hb=>by simpa using Bn H1.o (by simp) (by simp) hb)
   ·go_wp2_with fail;go_ret;have b1:=heap_setCell_same w g 1 _ _ (sS gb (o+4) (n-4) (c-4)) H1.o;have e1:(zs.drop 4).length=n-4:=by rw[List.length_drop,<-HN.o]
    have u1:Upd [g] w (w.setCell (dD g 1) (sS gb (o+4) (n-4) (c-4))):=(Upd.refl [g] w).setCell _ _ (by simp);refine⟨rfl,⟨some ⟨gb,o+4,none⟩,c-4,by rw[b1,e1];rfl,?_,.inr ⟨gb,o+4,rfl⟩⟩,u1⟩;have hr:=H2.o.cut (j:=4) (by rw[<-HN.o];exact hz) (some ⟨gb,o+4,none⟩) (λ _=>rfl);rw[e1];rw[<-HN.o] at hr;exact hr.upd u1 (λ b i z hb=>by simpa using Bn H1.o (by simp) (by simp) hb)
theorem Hf (g:Nat) (zs:List Int) (hz:4<=zs.length) (w:World) (h:RdW w g 0 zs):
  Calls prog 82 #[pP g 0] w λ r w'=>r= .returned (.int .u32 (val (zs.take 4)))/\RdW w' g 0 (zs.drop 4)/\Upd [g] w w':=by
 have hb:0<=val (zs.take 4)/\val (zs.take 4)<4294967296:=by
  obtain⟨a,c,_,h2,_⟩:=h;exact FP h2.2.2.2.1 4 hz
 have HN:=hid (MW g zs hz w h);clear h;generalize val (zs.take 4)=t at*;go_in;go_wp2_with fail;refine HN.o.mono ?_;rintro r w2 ⟨rfl,hr,hu⟩;go_wp2_with fail;go_ret;exact⟨rfl,hr,hu⟩
def Wf (zs:List Int):Prop:=∀z∈zs,(Lit.int .u8 z).wf=true
theorem Wf.nil:Wf []:=by simp[Wf]
theorem Wf.app {a b:List Int} (ha:Wf a) (hb:Wf b):Wf (a++b):=by
 intro z hz;rcases List.mem_append.1 hz with h|h;exact ha z h;exact hb z h
theorem wf8 {n:Int} (h0:0<=n) (h1:n<256):(Lit.int .u8 n).wf=true:=by
 simp[Lit.wf,IntKind.min,IntKind.max,IntKind.signed,IntKind.bits];omega
theorem Wf.one (h0:0<=z) (h1:z<256):Wf [z]:=by intro y hy;simp at hy;subst hy;exact wf8 h0 h1
def Sl (w:World) (v:Value) (zs:List Int):Prop:=∃a c,v= .slice a zs.length c/\AI .u8 w a zs.length c zs/\Bj a c
theorem Sl.ext (h:Sl w v zs) (hx:Ext w w'):Sl w' v zs:=by
 obtain⟨a,c,h1,h2,h3⟩:=h;exact⟨a,c,h1,h2.ext hx,h3⟩
theorem Sl.wf (h:Sl w v zs):Wf zs:=by obtain⟨a,c,h1,h2,h3⟩:=h;exact h2.2.2.2.1
theorem Io (w:World):AI .u8 w none 0 0 []:=⟨rfl,by simp,by unfold maxLen;omega,by simp,.inl rfl⟩
theorem Sl.nil (w:World):Sl w (nN) []:=⟨none,0,rfl,Io w,.inl ⟨rfl,rfl⟩⟩
theorem AA.sl {e:TypeId} (h:AA w base e v (bv zs)) (hw:Wf zs):Sl w v zs:=by
 obtain⟨a,c,h1,h2,h3⟩:=h.row2 hw;exact⟨a,c,h1,h2,h3⟩
def Ia (w:World) (v:Value) (zs:List Int):Prop:=∃a,v= .slice a zs.length zs.length/\AI .u8 w a zs.length zs.length zs/\Bj a zs.length
theorem Ia.sl (h:Ia w v zs):Sl w v zs:=by obtain⟨a,h⟩:=h;exact⟨a,_,h⟩
theorem Ia.ext (h:Ia w v zs) (hx:Ext w w'):Ia w' v zs:=by
 obtain⟨a,h1,h2,h3⟩:=h;exact⟨a,h1,h2.ext hx,h3⟩
theorem Ia.app (h:Ia w v zs) (hy:Sl w y ys) (hp:0<ys.length) (hl:zs.length+ys.length<=10000000) (base:Nat) (hb:base<=w.heap.size) (ty:TypeId):
  ∃v' w',(Builtin.append_ #[26,26] ty #[v,y]).run prog w= .ok v' w'/\AA w' base 5 v' (bv (zs++ys))/\Ext w w':=by
 obtain⟨a,rfl,h2,h3⟩:=h;obtain⟨b,c,rfl,k2,k3⟩:=hy;rcases k2.2.2.2.2 with h0|⟨g,o,rfl,hc⟩
 ·omega
 ·have:=Fj h2 ⟨g,o,Option.none⟩ (bv ys) (m:=ys.length) (c:=c) (by rw[AS]) hp (λ j u hj=>by
   have hj':j<ys.length:=by have:=(List.getElem?_eq_some_iff.1 hj).1;rwa [AS] at this
   rw[Go.WideShapes.add_plain,hc j hj',<-hj];simp[bv,List.getD,Ud hj']) (by
   intro u hu;obtain⟨z,_,rfl⟩:=List.mem_map.1 hu;rfl) hl base hb ty
  rwa [<-Bu] at this
theorem AA.app (h:AA w base 5 v (bv zs)) (hy:Sl w y ys) (hl:zs.length+ys.length<=10000000) (hb:base<=w.heap.size) (ty:TypeId):
  ∃v' w',(Builtin.append_ #[26,26] ty #[v,y]).run prog w= .ok v' w'/\AA w' base 5 v' (bv (zs++ys))/\w.grownBy w' v.ownBlock:=by
 obtain⟨b,c,rfl,k2,k3⟩:=hy;rw[Bu];exact De h k2 k3.nil0 (by rw[AS];exact hl) hb ty
theorem AA.grow_ext {o:World} {e:TypeId} {xs:List Value} (h:AA w base e v xs) (hg:w.grownBy w' v.ownBlock) (hx:Ext o w) (hb:o.heap.size<=base):Ext o w':=
 Uu hg hx (λ g hr=>by have:=(World.ownsRow.lt h g hr).1;omega)
def sb (s:ByteArray):List Int:=s.data.toList.map λ b=>(b.toNat:Int)
theorem Ab (s:ByteArray):(sb s).length=s.size:=by unfold sb;rw[List.length_map];rfl
theorem Cl (s:ByteArray):Wf (sb s):=by
 intro z hz;obtain⟨b,_,rfl⟩:=List.mem_map.1 hz;have:=b.toNat_lt;exact wf8 (by omega) (by omega)
theorem VD (s:ByteArray):strOfNums (sb s)=s:=by
 apply ByteArray.ext;apply Array.ext';simp[strOfNums,sb,Function.comp_def]
theorem TB (h:Wf zs):sb (strOfNums zs)=zs:=by
 unfold sb;rw[strOfNums_data,List.map_map]
 conv=>rhs;rw[<-List.map_id zs]
 refine List.map_congr_left λ z hz=> ?_
 have:=GU (h z hz);simp[Function.comp];omega
theorem AA.appStr (h:AA w base 5 v (bv zs)) (s:ByteArray) (hl:zs.length+s.size<=10000000) (hb:base<=w.heap.size) (ty:TypeId):
  ∃v' w',(Builtin.append_ #[26,9] ty #[v,.string s]).run prog w= .ok v' w'/\AA w' base 5 v' (bv (zs++sb s))/\w.grownBy w' v.ownBlock:=by
 obtain⟨i0,hi,hz0,hz1,hz2⟩:=info_parts BR;obtain⟨v',w',h1,h2,h3,_⟩:=Lib.run_append_own_string (P:=prog) w base 26 9 ty 5 i0 underlying26 underlying9 hi hz0 hz1 hz2 v _ _ h s (by rw[AS];unfold maxLen;omega) (by rw[AS];omega) hb;refine⟨v',w',h1,?_,h3⟩;unfold AA;rw[Bu];have e:Lib.strCells s=bv (sb s):=by simp[Lib.strCells,bv,sb,Function.comp_def]
 rw[e] at h2;rw[Uc,AS,AS,Ab];rw[AS] at h2;exact h2
theorem Ov (a:Option Addr) (n c:Nat) (hn:n<=c) (w:World):(Instr.sliceAt 26 (.slice a n c) none (some (iI n)) (some (iI n))).run prog w= .ok (.slice a n n) w:=by
 have e:∀x:Option Addr,x.map (λ y=>y.add 0)=x:=λ x=>by cases x<;>simp[Addr.add]
 obtain⟨i0,hi,hz0,hz1,hz2⟩:=info_parts BR;simp[Instr.sliceAt,Instr.slice,Instr.sliceBounds,Instr.sliceBound,Sem.run_bind,run_underlying underlying26,asIntOf,sizeOf,e,hn]
section
variable {P:Program} {w w':World} {ops:Array Oper} {rest:List Oper} {o:Oper} {a:Act} {Q:Exit->Act->World->Prop}
theorem AF (hgd:o.guard=none) (t:TypeId) (x:Operand) (lo hi mx:Option Operand) (ho:o.op= .slice t x lo hi mx) (xv:Value) (lv hv mv:Option Value) (hx:a.eval x=xv) (hl:lo.map a.eval=lv) (hh:hi.map a.eval=hv) (hm:mx.map a.eval=mv) (v':Value) (hrun:(Instr.sliceAt t xv lv hv mv).run P w= .ok v' w') (h:wpList P ops Q rest (a.put o.dst v') w'):wpList P ops Q (o::rest) a w:=by
 refine wpList_plain hgd λ K hK=> ?_
 unfold Oper.wp execOp;simp only[ho,Sem.run_bind,Sem.run_pure,Result.andThen_ok,hx,hl,hh,hm,hrun];exact hK _ _ h
end
def leN (n:Int):Nat->List Int
 |0=>[]
 |k+1=>leN n k++[n/256^k%256]
theorem lL (n:Int):∀k,(leN n k).length=k
 |0=>rfl
 |k+1=>by rw[leN,Uc,lL n k];rfl
theorem AQ (n:Int):∀k,Wf (leN n k)
 |0=> .nil
 |k+1=>(AQ n k).app (.one (Int.emod_nonneg _ (by omega)) (Int.emod_lt_of_pos _ (by omega)))
end Go.Proofs.YtdakioiagpkfhaaGreatDoor
