import Derived.Test.YtdakioiagpkfhaaGreatDoorP08
import Derived.Laws.EntriesVeiled
set_option maxRecDepth 99999
set_option maxHeartbeats 0
set_option linter.all false
namespace Go.Proofs.YtdakioiagpkfhaaGreatDoor
open RowKit
open Go.Proofs.Tryz
variable {S T:List Nat} {b base f g k m:Nat} {cs:Array Value} {e t:TypeId} {s s1 s2:St} {v vn vn1 vr vr1:Value} {w w' w2 w3:World} {yss:List (List Int)} {zs:List Int}
section
variable {w:World} {b g m f:Nat} {s:St} {vn vr:Value}
def fid (mode:Nat):Nat:=if mode=0 then 41 else if mode=1 then 84 else 134
def Rc (g mode:Nat):Value:= .func (.func (fid mode)) #[pP g 0] #[]
def A9 (g:Nat) (vn vr:Value):List Nat:=g::(vn.ownBlock.toList++vr.ownBlock.toList)
theorem CI (g:Nat) (vn vr:Value):g∈A9 g vn vr:=by simp[A9]
theorem Dt (vr:Value) (h:vn.ownBlock=some k):k∈A9 g vn vr:=by simp[A9,h]
theorem Fm (vn:Value) (h:vr.ownBlock=some k):k∈A9 g vn vr:=by simp[A9,h]
theorem Cy (h:k∈A9 g vn vr):k=g\/vn.ownBlock=some k\/vr.ownBlock=some k:=by simpa [A9] using h
def Bt (g m f:Nat) (s:St) (vn vr:Value):Array Value:= #[iI m,iI f,Rc g s.mode,vn,vr,iI s.count,iI s.need,.bool s.ends,iI s.err]
structure DW (w:World) (b g m f:Nat) (s:St) (vn vr:Value):Prop where
 blk:w.heap[g]?=oC (Bt g m f s vn vr) 129
 num:AA w b 5 vn (bv s.num)
 rc:AA w b 5 vr (bv s.rc)
 ne:∀k,vn.ownBlock=some k->vr.ownBlock≠some k
 wfn:∀z∈s.num,(Lit.int .u8 z).wf=true
 wfr:∀z∈s.rc,(Lit.int .u8 z).wf=true
 low:b<=g
theorem DW.lt (h:DW w b g m f s vn vr):g<w.heap.size:=lH h.blk
theorem DW.ext (h:DW w b g m f s vn vr) (hx:Ext w w'):DW w' b g m f s vn vr:=
 ⟨hx.heap h.blk,h.num.ext hx,h.rc.ext hx,h.ne,h.wfn,h.wfr,h.low⟩
theorem Bo {xs:List Value} (h:AA w base e v xs) (hg:w.heap[g]?=oC cs t) (he:e≠t):v.ownBlock≠some g:=by
 intro hv;rcases h.form with⟨rfl,_⟩|⟨k,cap,cur,rfl,_,_,_,hk,_⟩
 ·simp[Value.ownBlock] at hv
 ·simp only[Value.ownBlock,Option.some.injEq] at hv;subst hv;rw[hg] at hk;simp at hk;exact he hk.2.symm
theorem DW.upd (h:DW w b g m f s vn vr) (hx:Upd S w w') (hs:∀k∈A9 g vn vr,k∉S):DW w' b g m f s vn vr:=
 ⟨hx.heap h.blk (hs _ (CI _ _ _)),h.num.upd hx (λ _ hk=>hs _ (Dt _ hk)),h.rc.upd hx (λ _ hk=>hs _ (Fm _ hk)),h.ne,h.wfn,h.wfr,h.low⟩
theorem jP {i:Nat} (v:Value) (h:w.heap[g]?=oC cs t):(w.setCell (dD g i) v).heap[g]?=oC (cs.setIfInBounds i v) t:=
 heap_setCell_same w g i _ _ v h
theorem Ew {c0 c1 c2 c3 c4 c5 c6 c7 c8:Value} (h:w.heap[g]?=oC #[c0,c1,c2,c3,c4,c5,c6,c7,c8] t):
  w.cell? (dD g 0)=some c0/\w.cell? (dD g 1)=some c1/\w.cell? (dD g 2)=some c2/\w.cell? (dD g 3)=some c3/\w.cell? (dD g 4)=some c4/\w.cell? (dD g 5)=some c5/\w.cell? (dD g 6)=some c6/\w.cell? (dD g 7)=some c7/\w.cell? (dD g 8)=some c8/\∀i,w.frozen? (dD g i)=false:=
 ⟨cO h 0,cO h 1,cO h 2,cO h 3,cO h 4,cO h 5,cO h 6,cO h 7,cO h 8,λ i=>fO h i⟩
theorem TX (m f:Nat) (hm:m<=4096) (hf1:1<=f) (hf:f<=64) (w:World):
  Calls prog 20 #[iI m,iI f] w λ r w'=>r= .returned (.tuple #[pP w.heap.size 0,iI 0])/\DW w' w.heap.size w.heap.size m f St.new (nN) (nN)/\Ext w w':=by
 have hd1:decide ((m:Int)<0)=false:=by simp
 have hd2:decide (4096<(m:Int))=false:=by simp;omega
 have hd3:decide ((f:Int)<1)=false:=by simp;omega
 have hd4:decide (64<(f:Int))=false:=by simp;omega
 go_in;go_wp2_with fail;go_ret2;exact⟨rfl,⟨Ub w _,AA.nil _ _ _,AA.nil _ _ _,by simp[Value.ownBlock],by simp[St.new],by simp[St.new],Uf _⟩,(Ext.refl w).alloc _⟩
theorem AA.bytes (h:AA w base e v (bv zs)):∃a cap,v= .slice a zs.length cap/\Bj a cap/\zs.length<=cap/\cap<=maxLen:=by
 rcases h.form with⟨hv,h0⟩|⟨k,cap,cur,hv,_,h1,h2,_⟩
 ·have hz:zs=[]:=by simpa [bv] using h0
  subst hz;exact⟨none,0,hv,.inl ⟨rfl,rfl⟩,by simp,by unfold maxLen;omega⟩
 ·rw[AS] at hv h1;exact⟨_,cap,hv,.inr ⟨k,0,rfl⟩,h1,h2⟩
theorem Kd (g:Nat) (c:Int) (w:World):
  Calls prog 134 #[pP g 0,.int .u8 c] w λ r w'=>r= .returned (.bool false)/\w=w':=by
 go_in;go_wp2_with fail;go_ret;exact⟨rfl,rfl⟩
theorem Gt (h:DW w b g m f s (nN) vr) (_hs:s.num=[]) (e:Int):
  Calls prog 83 #[pP g 0,iI e] w λ r w'=>r= .returned (.tuple #[])/\DW w' b g m f (s.fail e) (nN) (nN)/\Upd [g] w w':=by
 obtain⟨c0,c1,c2,c3,c4,c5,c6,c7,c8,fz⟩:=Ew h.blk;have fz2:=fz 2;have fz4:=fz 4;have fz5:=fz 5;have fz8:=fz 8;have HB:=hid h.blk;have HL:=hid h.low;clear h fz;generalize Rc g s.mode=fv at*;go_in;go_wp2_with fail;go_end0;refine⟨rfl,⟨?_,AA.nil _ _ _,AA.nil _ _ _,by simp[Value.ownBlock],by simp[St.fail],by simp[St.fail],HL.o⟩,?_⟩
 ·rw[jP _ (jP _ (jP _ (jP _ HB.o)))];rfl
 ·exact((((Upd.refl [g] w).setCell _ _ (by simp)).setCell _ _ (by simp)).setCell _ _ (by simp)).setCell _ _ (by simp)
theorem BS {row:Option Nat} (h:w.grownBy w' row):Upd row.toList w w':=Ec h (λ g hg=> .inl (by simp[hg]))
def Ux (w w2:World) (b g m f:Nat) (s':St) (vn vr vn' vr':Value):Prop:=
 DW w2 b g m f s' vn' vr'/\Upd (A9 g vn vr) w w2/\∀k∈A9 g vn' vr',k∈A9 g vn vr\/w.heap.size<=k
theorem DW.grow_rc (h:DW w b g m f s vn vr) (c:Int) (hc:(Lit.int .u8 c).wf=true) (hl:s.rc.length<=100000) (hb:b<=w.heap.size):
  ∃A C w1,(Builtin.append_ #[26,26] 26 #[vr,sS w.heap.size 0 1 1]).run prog (w.alloc (.cells #[.int .u8 c] 5))= .ok (.slice A (s.rc.length+1) C) w1/\
   w1.heap[g]?=oC (Bt g m f s vn vr) 129/\
   ∀w2 s',Upd [g] w1 w2->w2.heap[g]?=oC (Bt g m f s' vn (.slice A (s.rc.length+1) C)) 129->s'.num=s.num->s'.rc=s.rc++[c]->Ux w w2 b g m f s' vn vr vn (.slice A (s.rc.length+1) C):=by
 obtain⟨v',w1,h1,h2,h3,h4⟩:=h.rc.append1 (P:=prog) (t:=26) (ty:=26) (.int .u8 0) 1 underlying26 BR rfl (.int .u8 c) rfl (by rw[AS];unfold maxLen;omega) (by rw[AS];omega) hb;obtain⟨A,C,rfl,_,_,_⟩:=(show AA w1 b 5 v' (bv (s.rc++[c])) by rw[Bu];exact h2).bytes;rw[Uc,List.length_singleton] at*;have u1:Upd vr.ownBlock.toList w w1:=(((Ext.refl w).alloc _).upd _).trans (BS h3);have hgv:=Bo h.rc h.blk (by decide);have hg1:=u1.heap h.blk (by simp;exact λ e=>hgv e);have hn1:=h.num.upd u1 (λ k hk=>by simp;exact λ e=>h.ne k hk e);refine⟨A,C,w1,h1,hg1,λ w2 s' hu hg2 es1 es2=>⟨⟨hg2,?_,?_,?_,by rw[es1];exact h.wfn,?_,h.low⟩,?_,?_⟩⟩
 ·rw[es1];exact hn1.upd hu (λ k hk=>by simp;exact λ e=>Bo hn1 hg1 (by decide) (by rw[hk,e]))
 ·rw[es2,Bu];exact h2.upd hu (λ k hk=>by simp;exact λ e=>Bo h2 hg1 (by decide) (by rw[hk,e]))
 ·intro k hk e;rcases h4 with h4|h4
  ·exact h.ne k hk (by rw[<-h4];exact e)
  ·have:=(h.num.lt hk).2;rw[h4] at e;simp at e;omega
 ·rw[es2];intro z hz;rcases List.mem_append.1 hz with hz|hz
  ·exact h.wfr z hz
  ·simp at hz;subst hz;exact hc
 ·exact(u1.mono (λ k hk=>by simp at hk;exact Fm _ hk)).trans (hu.mono (λ k hk=>by simp at hk;subst hk;exact CI _ _ _))
 ·intro k hk;rcases Cy hk with rfl|hk|hk
  ·exact .inl (CI _ _ _)
  ·exact .inl (Dt _ hk)
  ·rcases h4 with h4|h4
   ·exact .inl (Fm _ (by rw[<-h4];exact hk))
   ·rw[h4] at hk;simp at hk;exact .inr (by omega)
theorem DW.grow_num (h:DW w b g m f s vn vr) (c:Int) (hc:(Lit.int .u8 c).wf=true) (hl:s.num.length<=100000) (hb:b<=w.heap.size):
  ∃A C w1,(Builtin.append_ #[26,26] 26 #[vn,sS w.heap.size 0 1 1]).run prog (w.alloc (.cells #[.int .u8 c] 5))= .ok (.slice A (s.num.length+1) C) w1/\s.num.length+1<=C/\C<=maxLen/\
   w1.heap[g]?=oC (Bt g m f s vn vr) 129/\
   ∀w2 s',Upd [g] w1 w2->w2.heap[g]?=oC (Bt g m f s' (.slice A (s.num.length+1) C) vr) 129->s'.num=s.num++[c]->s'.rc=s.rc->Ux w w2 b g m f s' vn vr (.slice A (s.num.length+1) C) vr:=by
 obtain⟨v',w1,h1,h2,h3,h4⟩:=h.num.append1 (P:=prog) (t:=26) (ty:=26) (.int .u8 0) 1 underlying26 BR rfl (.int .u8 c) rfl (by rw[AS];unfold maxLen;omega) (by rw[AS];omega) hb;obtain⟨A,C,rfl,_,hC1,hC2⟩:=(show AA w1 b 5 v' (bv (s.num++[c])) by rw[Bu];exact h2).bytes;rw[Uc,List.length_singleton] at*;have u1:Upd vn.ownBlock.toList w w1:=(((Ext.refl w).alloc _).upd _).trans (BS h3);have hgv:=Bo h.num h.blk (by decide);have hg1:=u1.heap h.blk (by simp;exact λ e=>hgv e);have hr1:=h.rc.upd u1 (λ k hk=>by simp;exact λ e=>h.ne k e hk);refine⟨A,C,w1,h1,hC1,hC2,hg1,λ w2 s' hu hg2 es1 es2=>⟨⟨hg2,?_,?_,?_,?_,by rw[es2];exact h.wfr,h.low⟩,?_,?_⟩⟩
 ·rw[es1,Bu];exact h2.upd hu (λ k hk=>by simp;exact λ e=>Bo h2 hg1 (by decide) (by rw[hk,e]))
 ·rw[es2];exact hr1.upd hu (λ k hk=>by simp;exact λ e=>Bo hr1 hg1 (by decide) (by rw[hk,e]))
 ·intro k hk e;rcases h4 with h4|h4
  ·exact h.ne k (by rw[<-h4];exact hk) e
  ·have:=(h.rc.lt e).2;rw[h4] at hk;simp at hk;omega
 ·rw[es1];intro z hz;rcases List.mem_append.1 hz with hz|hz
  ·exact h.wfn z hz
  ·simp at hz;subst hz;exact hc
 ·exact(u1.mono (λ k hk=>by simp at hk;exact Dt _ hk)).trans (hu.mono (λ k hk=>by simp at hk;subst hk;exact CI _ _ _))
 ·intro k hk;rcases Cy hk with rfl|hk|hk
  ·exact .inl (CI _ _ _)
  ·rcases h4 with h4|h4
   ·exact .inl (Dt _ (by rw[<-h4];exact hk))
   ·rw[h4] at hk;simp at hk;exact .inr (by omega)
  ·exact .inl (Fm _ hk)
theorem Pc (h:DW w b g m f s vn vr) (c:Int) (hc:(Lit.int .u8 c).wf=true) (hl:s.rc.length<=100000) (hb:b<=w.heap.size) (hm:s.mode=1) (hn1:1<=s.need) (hn2:s.need<=100000):
  Calls prog 84 #[pP g 0,.int .u8 c] w λ r w'=>∃vr',r= .returned (.bool (A7 s c).2)/\Ux w w' b g m f (A7 s c).1 vn vr vn vr':=by
 obtain⟨A,C,w1,h1,h2,h3⟩:=h.grow_rc c hc hl hb;obtain⟨c0,c1,c2,c3,c4,c5,c6,c7,c8,fz⟩:=Ew h.blk;obtain⟨d0,d1,d2,d3,d4,d5,d6,d7,d8,fy⟩:=Ew h2;have fy2:=fy 2;have fy4:=fy 4;have fy6:=fy 6;have H1:=hid h1;have H2:=hid h2;have H3:=hid h3;clear h h1 h2 h3 fz fy c0 c1 c2 c3 c5 c6 c7 c8 d0 d1 d3 d5 d8 hc;by_cases hn:1<s.need
 ·have hd:decide (0<(s.need:Int)-1)=true:=by simp;omega
  have HS:=hid (show A7 s c=(⟨1,s.num,s.rc++[c],s.count,s.need-1,s.ends,s.err⟩,false) by unfold A7;rw[if_pos hn]);rw[HS.o];have HN:=hid (show((s.need-1:Nat):Int)=(s.need:Int)-1 by omega);have HM:=hid hm;clear hm;generalize hne:s.need=nd at*;go_in;go_wp2_with (at_builtin;refine jA rfl (.tmp 9) (.tmp 11) _ rfl _ _ _ rfl rfl H1.o ?_);go_ret;refine⟨_,rfl,H3.o _ _ (((Upd.refl [g] w1).setCell _ _ (by simp)).setCell _ _ (by simp)) ?_ rfl rfl⟩;rw[jP _ (jP _ H2.o)];simp only[Bt,HM.o,HN.o];rfl
 ·have hd:decide (0<(s.need:Int)-1)=false:=by simp;omega
  have HS:=hid (show A7 s c=(⟨0,s.num,s.rc++[c],s.count,0,s.ends,s.err⟩,s.ends) by unfold A7;rw[if_neg hn]);rw[HS.o];have HN:=hid (show(s.need:Int)-1=0 by omega);clear hm;generalize s.need=nd at*;generalize Rc g s.mode=fv at*;go_in;go_wp2_with (at_builtin;refine jA rfl (.tmp 9) (.tmp 11) _ rfl _ _ _ rfl rfl H1.o ?_);go_ret;refine⟨_,rfl,H3.o _ _ ((((Upd.refl [g] w1).setCell _ _ (by simp)).setCell _ _ (by simp)).setCell _ _ (by simp)) ?_ rfl rfl⟩;rw[jP _ (jP _ (jP _ H2.o)),HN.o];rfl
theorem OP (x:Int) (h0:0<=x) (h1:x<4294967296):bits .andNot .u32 x 2147483648=(BJ x:Int):=by
 rw[u32_andNot x 2147483648 h0 h1 (by omega) (by omega)];have e:x.toNat&&&(4294967295-(2147483648:Int).toNat)=x.toNat%2^31:=Nat.and_two_pow_sub_one_eq_mod x.toNat 31;rw[e];unfold BJ;omega
theorem NR (x:Int) (h0:0<=x) (h1:x<4294967296):bits .and .u32 x 2147483648=if 2147483648<=x then 2147483648 else 0:=by
 rw[u32_and x 2147483648 h0 h1 (by omega) (by omega)];have e:x.toNat&&&(2147483648:Int).toNat=if 2147483648<=x then 2147483648 else 0:=by
  show x.toNat&&&2^31=_
  have hb:x.toNat.testBit 31=decide (2147483648<=x):=by
   rw[Nat.testBit_eq_decide_div_mod_eq];rw[decide_eq_decide];omega
  apply Nat.eq_of_testBit_eq;intro i;rw[Nat.testBit_and,Nat.testBit_two_pow];by_cases h:2147483648<=x
  ·rw[if_pos h,show(2147483648:Nat)=2^31 from rfl,Nat.testBit_two_pow];by_cases hi:31=i
   ·subst hi;rw[hb];simp[h]
   ·simp[hi]
  ·rw[if_neg h];by_cases hi:31=i
   ·subst hi;rw[hb];simp[h]
   ·simp[hi]
 rw[e]
 split<;>rfl
theorem Sx (x:Int) (h0:0<=x) (h1:x<4294967296):(bits .and .u32 x 2147483648 !=0)=DM x:=by
 rw[NR x h0 h1];unfold DM
 split<;>simp_all
theorem Oj (h:DW w b g m f s vn vr) (c:Int) (hc:(Lit.int .u8 c).wf=true) (hn:s.num.length<3) (hb:b<=w.heap.size) (hm:s.mode=0):
  Calls prog 41 #[pP g 0,.int .u8 c] w λ r w'=>∃vn' vr',r= .returned (.bool (Ak m f s c).2)/\Ux w w' b g m f (Ak m f s c).1 vn vr vn' vr':=by
 obtain⟨A,C,w1,h1,_,_,h2,h3⟩:=h.grow_num c hc (by omega) hb;obtain⟨c0,c1,c2,c3,c4,c5,c6,c7,c8,fz⟩:=Ew h.blk;obtain⟨d0,d1,d2,d3,d4,d5,d6,d7,d8,fy⟩:=Ew h2;have fy3:=fy 3;have H1:=hid h1;have H2:=hid h2;have H3:=hid h3;have HS:=hid (show Ak m f s c=(⟨0,s.num++[c],s.rc,s.count,s.need,s.ends,s.err⟩,false) by unfold Ak;rw[if_pos hn]);have HM:=hid hm;rw[HS.o];have hd:decide ((s.num.length:Int)+1<4)=true:=by simp;omega
 generalize s.num.length=nl at*;clear h h1 h2 h3 fz fy c0 c1 c2 c4 c5 c6 c7 c8 d0 d1 d2 d4 d5 d6 d7 d8 hc hm;go_in;go_wp2_with (at_builtin;refine jA rfl (.tmp 11) (.tmp 13) _ rfl _ _ _ rfl rfl H1.o ?_);go_ret;refine⟨_,_,rfl,H3.o _ _ ((Upd.refl [g] w1).setCell _ _ (by simp)) ?_ rfl rfl⟩;rw[jP _ H2.o];simp only[Bt,HM.o];rfl
theorem Ux.then_ {vn2 vr2:Value} (h:Ux w w2 b g m f s1 vn vr vn1 vr1) (hd:DW w3 b g m f s2 vn2 vr2) (hu:Upd [g] w2 w3) (hn:vn2.ownBlock=none\/vn2.ownBlock=vn1.ownBlock) (hr:vr2.ownBlock=none\/vr2.ownBlock=vr1.ownBlock):Ux w w3 b g m f s2 vn vr vn2 vr2:=by
 refine⟨hd,h.2.1.trans (hu.mono (λ k hk=>by simp at hk;subst hk;exact CI _ _ _)),λ k hk=> ?_⟩;rcases Cy hk with rfl|hk|hk
 ·exact .inl (CI _ _ _)
 ·rcases hn with hn|hn
  ·rw[hn] at hk;cases hk
  ·exact h.2.2 k (Dt _ (by rw[<-hn];exact hk))
 ·rcases hr with hr|hr
  ·rw[hr] at hk;cases hk
  ·exact h.2.2 k (Fm _ (by rw[<-hr];exact hk))
theorem DW.num_nil (h:DW w b g m f s vn vr) (hu:Upd [g] w w3) (hg:w3.heap[g]?=oC (Bt g m f s1 (nN) vr) 129) (hn:s1.num=[]) (hr:s1.rc=s.rc):DW w3 b g m f s1 (nN) vr:=by
 refine⟨hg,?_,?_,by simp[Value.ownBlock],by rw[hn];simp,by rw[hr];exact h.wfr,h.low⟩
 ·rw[hn];exact AA.nil _ _ _
 ·rw[hr];exact h.rc.upd hu (λ k hk=>by simp;exact λ e=>Bo h.rc h.blk (by decide) (by rw[hk,e]))
theorem Ux.ext (h:Ux w w2 b g m f s1 vn vr vn1 vr1) (hx:Ext w2 w3):Ux w w3 b g m f s1 vn vr vn1 vr1:=
 ⟨h.1.ext hx,h.2.1.trans (hx.upd _),h.2.2⟩
theorem DW.same (h:DW w b g m f s vn vr) (hu:Upd [g] w w3) (hg:w3.heap[g]?=oC (Bt g m f s1 vn vr) 129) (hn:s1.num=s.num) (hr:s1.rc=s.rc):DW w3 b g m f s1 vn vr:=by
 refine⟨hg,?_,?_,h.ne,by rw[hn];exact h.wfn,by rw[hr];exact h.wfr,h.low⟩
 ·rw[hn];exact h.num.upd hu (λ k hk=>by simp;exact λ e=>Bo h.num h.blk (by decide) (by rw[hk,e]))
 ·rw[hr];exact h.rc.upd hu (λ k hk=>by simp;exact λ e=>Bo h.rc h.blk (by decide) (by rw[hk,e]))
theorem Ux.fin {W5 W6:World} (h:Ux w W5 b g m f s1 vn vr vn1 vr1) (hu:Upd [g] W5 W6) (hg:W6.heap[g]?=oC (Bt g m f s2 vn1 vr1) 129) (hn:s2.num=s1.num) (hr:s2.rc=s1.rc):
  Ux w W6.drew.drew b g m f s2 vn vr vn1 vr1:=(h.then_ (h.1.same hu hg hn hr) hu (.inr rfl) (.inr rfl)).ext ((Ext.refl _).drew.drew)
theorem Mf (h:DW w b g m f s vn vr) (c:Int) (hc:(Lit.int .u8 c).wf=true) (hn:s.num.length=3) (hb:b<=w.heap.size) (hm:s.mode=0) (hm4:m<=4096) (hf64:f<=64) (hrm:s.rc.length<=m) (hcf:s.count<=f):
  Calls prog 41 #[pP g 0,.int .u8 c] w λ r w'=>∃vn' vr',r= .returned (.bool (Ak m f s c).2)/\Ux w w' b g m f (Ak m f s c).1 vn vr vn' vr':=by
 obtain⟨A,C,w1,h1,hC1,hC2,h2,h3⟩:=h.grow_num c hc (by omega) hb;obtain⟨c0,c1,c2,c3,c4,c5,c6,c7,c8,fz⟩:=Ew h.blk;obtain⟨d0,d1,d2,d3,d4,d5,d6,d7,d8,fy⟩:=Ew h2;have fy3:=fy 3;rw[hn] at h1 h3 hC1;obtain⟨W2,hW2⟩:∃W,W=w1.setCell (dD g 3) (.slice A 4 C):=⟨_,rfl⟩;have hst:Ux w W2 b g m f ⟨0,s.num++[c],s.rc,s.count,s.need,s.ends,s.err⟩ vn vr (.slice A 4 C) vr:=by
  refine h3 W2 _ (by rw[hW2];exact(Upd.refl [g] w1).setCell _ _ (by simp)) ?_ rfl rfl;rw[hW2,jP _ h2];simp only[Bt,hm];rfl
 have hl4:(s.num++[c]).length=4:=by simp[hn]
 obtain⟨A',C',hAC,hrow,hpl⟩:=hst.1.num.row2 hst.1.wfn;rw[hl4] at hAC hrow;simp only[Value.slice.injEq] at hAC;obtain⟨rfl,_,rfl⟩:=hAC;have H1:=hid h1;have HW:=hid hW2;have HST:=hid hst;have HRow:=hid hrow;have hpl2:A=none->C=0:=by rcases hpl with⟨_,h⟩|⟨_,_,h⟩;(exact λ _=>h);(intro e;rw[e] at h;cases h)
 have HP2:=hid hpl2;have hvb:=FP hst.1.wfn 4 (by simp[hn]);have hSt0:Ak m f s c=if s.count=f then(s.fail 5,false)
  else if m<s.rc.length+BJ (val (s.num++[c])) then(s.fail 4,false)
  else if BJ (val (s.num++[c]))=0 then(⟨0,[],s.rc,s.count+1,0,DM (val (s.num++[c])),s.err⟩,DM (val (s.num++[c])))
  else(⟨1,[],s.rc,s.count+1,BJ (val (s.num++[c])),DM (val (s.num++[c])),s.err⟩,false):=by unfold Ak;rw[if_neg (by omega)]
 generalize Ak m f s c=R at*;have hvt:(s.num++[c]).take 4=s.num++[c]:=List.take_of_length_le (by omega);rw[show(⟨0,s.num++[c],s.rc,s.count,s.need,s.ends,s.err⟩:St).num=s.num++[c] from rfl,hvt] at hvb;have HVT:=hid (show∀W2 W3 g2,RdW W3 g2 0 (s.num++[c])->W2.heap.size<=g2->Ext W2 W3->Calls prog 82 #[pP g2 0] W3 λ r w'=>r= .returned (.int .u32 (val (s.num++[c])))/\Ext W2 w' from
  λ W2 W3 g2 hr hg hx=>(Hf g2 _ (by omega) W3 hr).mono λ r w' h=>⟨by rw[h.1,hvt],h.2.2.ext hx (by simp;exact hg)⟩)
 have hlo:=OP _ hvb.1 hvb.2;have hto:=Sx _ hvb.1 hvb.2;have hlb:BJ (val (s.num++[c]))<2147483648:=by unfold BJ;omega
 generalize hV:val (s.num++[c])=V at*;generalize s.num++[c]=nc at*;have HR:=hid hSt0;clear hSt0;clear h h1 h2 h3 hst hrow hpl hpl2 hW2 fz fy c0 c1 c2 c4 c5 c6 c7 c8 d0 d1 d2 d4 d5 d6 d7 d8 hc hl4 hvt hV;go_in;go_wp2_with (at_builtin;refine jA rfl (.tmp 11) (.tmp 13) _ rfl _ _ _ rfl rfl H1.o ?_);rw[<-HW.o];refine(EC A 4 C nc (by omega) W2 HRow.o HP2.o).mono ?_;rintro r W3 ⟨g2,rfl,hrd,hg2,hX3⟩;have HU:=hid (HVT.o W2 W3 g2 hrd hg2 hX3);clear hrd hX3 HVT;go_wp2_with fail;refine HU.o.mono ?_;rintro r W4 ⟨rfl,hX4⟩;have HS4:=hid (HST.o.ext hX4);obtain⟨c0,c1,c2,c3,c4,c5,c6,c7,c8,fz⟩:=Ew HS4.o.1.blk;have fz3:=fz 3;obtain⟨W5,hW5⟩:∃W,W=W4.setCell (dD g 3) (nN):=⟨_,rfl⟩;have hS5:Ux w W5 b g m f ⟨0,[],s.rc,s.count,s.need,s.ends,s.err⟩ vn vr (nN) vr:=by
  have hu:Upd [g] W4 W5:=by rw[hW5];exact(Upd.refl [g] W4).setCell _ _ (by simp)
  refine HS4.o.then_ (HS4.o.1.num_nil hu ?_ rfl rfl) hu (.inl rfl) (.inr rfl);rw[hW5,jP _ HS4.o.1.blk];rfl
 have HS5:=hid hS5;have HW5:=hid hW5;clear hS5 hW5 hX4 fz;go_upto_region 7 with fail;rw[<-HW5.o];clear HW5 HS4 HST HU HRow HP2 H1 HW c0 c1 c2 c3 c4 c5 c6 c7 c8 fz3 d3 fy3;obtain⟨c0,c1,c2,c3,c4,c5,c6,c7,c8,fz⟩:=Ew HS5.o.1.blk;obtain⟨ar,cr,hvr,_,hcr1,hcr2⟩:=HS5.o.1.rc.bytes;simp only at hvr hcr1;subst hvr;simp only at c5 c6 c7 c8;have fz2:=fz 2;have fz5:=fz 5;have fz6:=fz 6;have fz7:=fz 7;clear fz;have HB5:=hid HS5.o.1.blk;generalize hrl:s.rc.length=rl at*;generalize hct:s.count=ct at*;clear hvb;by_cases hfull:ct=f
 ·have hdf:((ct:Int)==(f:Int))=true:=by simp[hfull]
  have HE:=hid (show R=(s.fail 5,false) by rw[HR.o,if_pos hfull]);go_region
  all_goals
   go_wp2_with fail;refine(Gt (HS5.o.1.ext (Ext.refl W5).drew) rfl 5).mono ?_;rintro r w6 ⟨rfl,hD,hU⟩;have hfin:=(HS5.o.ext (Ext.refl W5).drew).then_ hD hU (.inl rfl) (.inl rfl);have HF:=hid hfin;clear hD hU hfin;go_wp2_with fail;go_ret;rw[HE.o,hrl];exact⟨_,_,rfl,HF.o⟩
 ·have hdf:((ct:Int)==(f:Int))=false:=by simp;omega
  rw[if_neg hfull] at HR;by_cases hbig:m<rl+BJ V
  ·have hdb:decide ((m:Int)-(rl:Int)<(BJ V:Int))=true:=by simp;omega
   have HE:=hid (show R=(s.fail 4,false) by rw[HR.o,if_pos hbig]);go_region
   all_goals
    go_wp2_with fail;go_region
    all_goals
     go_wp2_with fail;refine(Gt (HS5.o.1.ext ((Ext.refl W5).drew.drew)) rfl 4).mono ?_;rintro r w6 ⟨rfl,hD,hU⟩;have hfin:=(HS5.o.ext ((Ext.refl W5).drew.drew)).then_ hD hU (.inl rfl) (.inl rfl);have HF:=hid hfin;clear hD hU hfin;go_wp2_with fail;go_ret;rw[HE.o,hrl];exact⟨_,_,rfl,HF.o⟩
  ·have hdb:decide ((m:Int)-(rl:Int)<(BJ V:Int))=false:=by simp;omega
   rw[if_neg hbig] at HR;generalize DM V=tv at*;by_cases h0:BJ V=0
   ·rw[h0] at hlo hdb;have HE:=hid (show R=(⟨0,[],s.rc,ct+1,0,tv,s.err⟩,tv) by rw[HR.o,if_pos h0]);have h0i:(BJ V:Int)=0:=by omega
    rw[h0i];go_region
    all_goals
     go_wp2_with fail;go_region
     all_goals
      go_wp2_with fail;go_ret;rw[HE.o,hrl];refine⟨_,_,rfl,HS5.o.fin (s2:=⟨0,[],s.rc,ct+1,0,tv,s.err⟩) ?_ ?_ rfl rfl⟩
      ·exact((Upd.refl [g] W5).setCell _ _ (by simp)).setCell _ _ (by simp)|>.setCell _ _ (by simp)
      ·rw[jP _ (jP _ (jP _ HB5.o))];rfl
   ·have hz0:((BJ V:Int)==0)=false:=by simp;omega
    have HE:=hid (show R=(⟨1,[],s.rc,ct+1,BJ V,tv,s.err⟩,false) by rw[HR.o,if_neg h0]);go_region
    all_goals
     go_wp2_with fail;go_region
     all_goals
      go_wp2_with fail;go_ret;rw[HE.o,hrl];refine⟨_,_,rfl,HS5.o.fin (s2:=⟨1,[],s.rc,ct+1,BJ V,tv,s.err⟩) ?_ ?_ rfl rfl⟩
      ·exact((Upd.refl [g] W5).setCell _ _ (by simp)).setCell _ _ (by simp)|>.setCell _ _ (by simp)|>.setCell _ _ (by simp)
      ·rw[jP _ (jP _ (jP _ (jP _ HB5.o)))];rfl
theorem MB (h:DW w b g m f s vn vr) (hI:Inv m f s) (c:Int) (hc:(Lit.int .u8 c).wf=true) (hb:b<=w.heap.size) (hm4:m<=4096) (hf64:f<=64):
  Calls prog (fid s.mode) #[pP g 0,.int .u8 c] w λ r w'=>∃vn' vr',r= .returned (.bool (step m f s c).2)/\Ux w w' b g m f (step m f s c).1 vn vr vn' vr':=by
 obtain⟨i1,i2,i3,i4,i5,i6⟩:=hI;by_cases h0:s.mode=0
 ·have e:step m f s c=Ak m f s c:=by unfold step;rw[if_pos h0]
  rw[e,h0];by_cases hn:s.num.length<3
  ·exact Oj h c hc hn hb h0
  ·exact Mf h c hc (by omega) hb h0 hm4 hf64 i3 i4
 ·by_cases h1:s.mode=1
  ·have e:step m f s c=A7 s c:=by unfold step;rw[if_neg h0,if_pos h1]
   have:=i5 h1;rw[e,h1];exact(Pc h c hc (by omega) hb h1 this.1 (by omega)).mono λ r w' ⟨vr',q1,q2⟩=>⟨vn,vr',q1,q2⟩
  ·have e:step m f s c=(s,false):=by unfold step;rw[if_neg h0,if_neg h1]
   have h2:s.mode=2:=by omega
   rw[e,h2];exact(Kd g c w).mono λ r w' ⟨q1,q2⟩=>⟨vn,vr,q1,by rw[<-q2];exact⟨h,Upd.refl _ _,λ k hk=> .inl hk⟩⟩
def BP (w:World) (b:Nat) (S:List Nat) (v:Value) (yss:List (List Int)):Prop:=
 ∃xs,AA w b 26 v xs/\Dx (λ x y=>BU w b x y/\∀k∈S,x.ownBlock≠some k) xs yss
theorem BP.nil (w:World) (b:Nat) (S:List Nat):BP w b S (nN) []:=⟨[],AA.nil _ _ _,.nil⟩
theorem BP.owns (h:BP w b S v yss):AN w b v yss:=by
 obtain⟨xs,h1,h2⟩:=h;exact⟨xs,h1,h2.mono λ x y q=>q.1⟩
theorem BP.ext (h:BP w b S v yss) (hx:Ext w w'):BP w' b S v yss:=by
 obtain⟨xs,h1,h2⟩:=h;exact⟨xs,h1.ext hx,h2.mono λ x y q=>⟨⟨q.1.1.ext hx,q.1.2⟩,q.2⟩⟩
theorem BP.sub (h:BP w b S v yss) (hs:∀k∈T,k∈S\/w.heap.size<=k):BP w b T v yss:=by
 obtain⟨xs,h1,h2⟩:=h;refine⟨xs,h1,h2.mono λ x y q=>⟨q.1,λ k hk e=> ?_⟩⟩;rcases hs k hk with h3|h3
 ·exact q.2 k h3 e
 ·have:=(q.1.1.lt e).2;omega
theorem BP.upd (h:BP w b S v yss) (hu:Upd S w w') (hv:∀k,v.ownBlock=some k->k∉S):BP w' b S v yss:=by
 obtain⟨xs,h1,h2⟩:=h;exact⟨xs,h1.upd hu hv,h2.mono λ x y q=>⟨⟨q.1.1.upd hu (λ k hk hm=>q.2 k hm hk),q.1.2⟩,q.2⟩⟩
theorem BP.far (h:BP w b S v yss) (hd:DW w b g m f s vn vr):∀k,v.ownBlock=some k->k∉A9 g vn vr:=by
 obtain⟨xs,h1,_⟩:=h;intro k hk hm;rcases Cy hm with rfl|hm|hm
 ·exact Bo h1 hd.blk (by decide) hk
 ·exact h1.apart hd.num (by decide) hk hm
 ·exact h1.apart hd.rc (by decide) hk hm
theorem BP.step {s':St} {vn' vr':Value} (h:BP w b (A9 g vn vr) v yss) (hd:DW w b g m f s vn vr) (hs:Ux w w' b g m f s' vn vr vn' vr'):BP w' b (A9 g vn' vr') v yss:=
 (h.sub (T:=A9 g vn vr++A9 g vn' vr') (λ k hk=>by
  rcases List.mem_append.1 hk with hk|hk
  ·exact .inl hk
  ·exact hs.2.2 k hk)).upd (hs.2.1.mono (λ k hk=>List.mem_append.2 (.inl hk))) (λ k hk hm=>by
   rcases List.mem_append.1 hm with hm|hm
   ·exact h.far hd k hk hm
   ·rcases hs.2.2 k hm with h3|h3
    ·exact h.far hd k hk h3
    ·obtain⟨xs,h1,_⟩:=h;have:=(h1.lt hk).2;omega)|>.sub (λ k hk=> .inl (List.mem_append.2 (.inr hk)))
theorem NT {W1:World} {L:List (List Int)} (D1:DW W1 b g m f s1 vn1 vr1) (T1:BP W1 b (A9 g vn1 vr1) v L) (hb:b<=W1.heap.size) (hl:L.length<=10000):
  ∃v' W2,(Builtin.append_ #[71,71] 71 #[v,sS W1.heap.size 0 1 1]).run prog (W1.alloc (.cells #[vr1] 26))= .ok v' W2/\
   W2.heap[g]?=oC (Bt g m f s1 vn1 vr1) 129/\Upd v.ownBlock.toList W1 W2/\(v'.ownBlock=v.ownBlock\/v'.ownBlock=some (W1.heap.size+1))/\
   ∀W3 s',Upd [g] W2 W3->W3.heap[g]?=oC (Bt g m f s' vn1 (nN)) 129->s'.num=s1.num->s'.rc=[]->
    DW W3 b g m f s' vn1 (nN)/\BP W3 b (A9 g vn1 (nN)) v' (L++[s1.rc]):=by
 have hfar:=T1.far D1;obtain⟨xs,h1,h2⟩:=T1;have hlen:=h2.len;obtain⟨v',W2,p1,p2,p3,p4⟩:=h1.append1 (P:=prog) (t:=71) (ty:=71) (nN) 24 underlying71 FD rfl vr1 D1.rc.one (by unfold maxLen;omega) (by omega) hb;have u1:Upd v.ownBlock.toList W1 W2:=(((Ext.refl W1).alloc _).upd _).trans (BS p3);have hg2:=u1.heap D1.blk (by simp;exact λ e=>hfar g e (CI _ _ _));have row2:∀x y,BU W1 b x y->BU W2 b x y:=λ x y q=>⟨q.1.upd u1 (λ k hk=>by simp;exact λ e=>q.1.apart h1 (by decide) hk e),q.2⟩
 refine⟨v',W2,p1,hg2,u1,p4,λ W3 s' hu hg3 es1 es2=> ?_⟩;have row3:∀x y,BU W2 b x y->BU W3 b x y:=λ x y q=>⟨q.1.upd hu (λ k hk=>by simp;exact λ e=>Bo q.1 hg2 (by decide) (by rw[hk,e])),q.2⟩
 have hn3:=(row3 _ _ (row2 _ _ ⟨D1.num,D1.wfn⟩));have hr3:=(row3 _ _ (row2 _ _ ⟨D1.rc,D1.wfr⟩));refine⟨⟨hg3,by rw[es1];exact hn3.1,by rw[es2];exact AA.nil _ _ _,by simp[Value.ownBlock],by rw[es1];exact D1.wfn,by rw[es2];simp,D1.low⟩,xs++[vr1],?_,?_⟩
 ·exact p2.upd hu (λ k hk=>by simp;exact λ e=>Bo p2 hg2 (by decide) (by rw[hk,e]))
 ·have sub:∀k∈A9 g vn1 (nN),k=g\/vn1.ownBlock=some k:=λ k hk=>by
   rcases Cy hk with h|h|h
   ·exact .inl h
   ·exact .inr h
   ·simp[Value.ownBlock] at h
  have a1:=h2.mono (S:=λ x y=>BU W3 b x y/\∀k∈A9 g vn1 (nN),x.ownBlock≠some k) λ x y q=>⟨row3 _ _ (row2 _ _ q.1),λ k hk=>by
   rcases sub k hk with h|h
   ·rw[h];exact q.2 g (CI _ _ _)
   ·exact q.2 k (Dt _ h)⟩
  exact a1.snoc ⟨hr3,λ k hk e=>by
   rcases sub k hk with h|h
   ·rw[h] at e;exact Bo D1.rc D1.blk (by decide) e
   ·exact D1.ne k h e⟩
theorem AI.upd2 {k:IntKind} {a:Option Addr} {len cap:Nat} (h:AI k w a len cap zs) (hx:Upd S w w') (hs:∀ga o,a=some ⟨ga,o,none⟩->ga∉S):AI k w' a len cap zs:=by
 obtain⟨h1,h2,h3,h4,h5⟩:=h;refine⟨h1,h2,h3,h4,?_⟩;rcases h5 with h5|⟨g,o,h6,h7⟩
 ·exact .inl h5
 ·exact .inr ⟨g,o,h6,λ i hi=>hx.cell (h7 i hi) (hs g o h6)⟩
theorem Upd.trans2 {a b c:World} (h:Upd S a b) (k:Upd T b c) (hs:∀i∈T,i∈S\/a.heap.size<=i):Upd S a c:=
 ⟨k.os.trans h.os,k.tape.trans h.tape,k.output.trans h.output,Nat.le_trans h.size k.size,λ i hi hn=>(k.block i (Nat.lt_of_lt_of_le hi h.size) (λ hm=>(hs i hm).elim hn (λ h2=>by omega))).trans (h.block i hi hn)⟩
theorem Ft (m f:Nat) (zs:List Int) (i:Nat) (hi:i<zs.length) (p:St×List (List Int)):feed m f (zs.take (i+1)) p=stepF m f (feed m f (zs.take i) p) (zs.getD i 0):=by
 rw[List.take_succ_eq_append_getElem hi,Mp];simp[List.getD,Ud hi]
theorem JT (m f:Nat):∀(b:List Int) (p:St×List (List Int)),(feed m f b p).2.length<=p.2.length+b.length
 |[],p=>by simp[feed]
 |c::b,p=>by
  rw[BN];have:=JT m f b (stepF m f p c);have h2:(stepF m f p c).2.length<=p.2.length+1:=by
   unfold stepF tell
   split<;>simp
  simp only[Un];omega
theorem Qa (mode:Nat) (args:Array Value) (W:World):(callFunc (fid mode) args).run prog W= .ok (.enter (fid mode) args) W:=by
 unfold fid
 split
 ·kernel_rfl
 ·split<;>kernel_rfl
def Fed (w w':World) (b g m f:Nat) (p:St×List (List Int)) (vn vr v:Value):Prop:=
 ∃vn' vr',DW w' b g m f p.1 vn' vr'/\BP w' b (A9 g vn' vr') v p.2/\Upd (A9 g vn vr) w w'/\(∀k∈A9 g vn' vr',k∈A9 g vn vr\/w.heap.size<=k)/\∀k,v.ownBlock=some k->w.heap.size<=k
theorem PL (h:DW w b g m f s vn vr) (hI:Inv m f s) (hb:b<=w.heap.size) (hm4:m<=4096) (hf64:f<=64) (a:Option Addr) (n cap:Nat) (zs:List Int) (hr:AI .u8 w a n cap zs) (ha:∀ga o,a=some ⟨ga,o,none⟩->ga∉A9 g vn vr) (hn:n<=5000):
  Calls prog 90 #[pP g 0,.slice a n cap] w λ r w'=>∃v,r= .returned v/\Fed w w' b g m f (feed m f zs (s,[])) vn vr v:=by
 have hcm:=hr.2.2.1;have hlc:=hr.2.1;have hnl:=hr.1;unfold maxLen at hcm;have H0:=hid h;have HI:=hid hI;have HR:=hid hr;have HA:=hid ha;have HNL:=hid hnl;clear h hI hr ha hnl;go_in;go_wp2_with fail;go_loopw [5,10] (λ v5 v10 wr=>∃i:Nat,i<=n/\v10= iI i/\Fed w wr b g m f (feed m f (zs.take i) (s,[])) vn vr v5) (λ _ v10 _=>n-(intOf v10).toNat)
 case atStart=>exact⟨0,by omega,rfl,vn,vr,H0.o,BP.nil _ _ _,Upd.refl _ _,λ k hk=> .inl hk,by simp[Value.ownBlock]⟩
 case round=>
  obtain⟨i,hi,rfl,vn0,vr0,hD,hT,hU,hF,hv5⟩:=hrel;by_cases hlt:i<n
  ·have hd:decide ((i:Int)<(n:Int))=true:=by simp;omega
   have hi0:(0:Int)<=(i:Int):=by omega
   have hi1:(i:Int)<(n:Int):=by omega
   obtain⟨ga,o,rfl,q⟩:=(HR.o.upd2 hU HA.o).at_ hlt;have hwf:=HR.o.2.2.2.1 (zs.getD i 0) (by
    have hl:i<zs.length:=by rw[HNL.o];exact hlt
    simp[List.getD,Ud hl])
   have HE:=hid (Ft m f zs i (by rw[HNL.o];exact hlt) (s,[]));have hll:=JT m f (zs.take i) (s,[]);have hL:(feed m f (zs.take i) (s,[])).2.length<=5000:=by
    rw[Ul] at hll;simp at hll;omega
   have hI2:Inv m f (feed m f (zs.take i) (s,[])).1:=Inv.feed _ HI.o;generalize feed m f (zs.take i) (s,[])=p at*;obtain⟨si,L⟩:=p;simp only at hD hT hL hI2;generalize zs.getD i 0=z at*;have HSC:=hid (MB hD hI2 z hwf (Nat.le_trans hb hU.size) hm4 hf64);obtain⟨c0,c1,c2,c3,c4,c5,c6,c7,c8,fz⟩:=Ew hD.blk;have hlt0:=hD.lt;have HD:=hid hD;have HT:=hid hT;have HU:=hid hU;have HF:=hid hF;have HV5:=hid hv5;have HEs:=hid (show stepF m f (si,L) z=tell (step m f si z) L from rfl);rw[HEs.o] at HE;generalize step m f si z=P at*;obtain⟨s1,t1⟩:=P;clear hD hT hU hF hv5 hll hI2 c0 c1 c3 c4 c5 c6 c7 c8 fz hwf HEs;unfold Rc at c2;simp only at HSC;have hcf:=λ args W=>Qa si.mode args W
   generalize fid si.mode=FF at*;go_wp2_with fail;refine HSC.o.mono ?_;rintro r W1 ⟨vn1,vr1,rfl,hst⟩;clear hcf c2 q HSC;have hT1:=HT.o.step HD.o hst;have hU1:=HU.o.trans2 hst.2.1 HF.o;have hF1:∀k∈A9 g vn1 vr1,k∈A9 g vn vr\/w.heap.size<=k:=λ k hk=>by
    rcases hst.2.2 k hk with h1|h1
    ·exact HF.o k h1
    ·exact .inr (Nat.le_trans HU.o.size h1)
   have HT1:=hid hT1;have HU1:=hid hU1;have HF1:=hid hF1;have HD1:=hid hst.1;clear hT1 hU1 hF1;cases t1 with
   |false=>
    clear hst;go_wp2_with fail;go_roundw
    case rel=>exact⟨i+1,by omega,by go_num,by rw[HE.o];exact⟨vn1,vr1,HD1.o,HT1.o,HU1.o,HF1.o,HV5.o⟩⟩
    case measure=>simp[intOf];omega
   |true=>
    obtain⟨ar,cr,rfl,_,_,_⟩:=HD1.o.rc.bytes;generalize hrl:s1.rc.length=rl at*;obtain⟨v',W2,p1,p2,p3,p4,p5⟩:=NT HD1.o HT1.o (Nat.le_trans hb HU1.o.size) (by omega);obtain⟨c0,c1,c2,c3,c4,c5,c6,c7,c8,fz⟩:=Ew HD1.o.blk;obtain⟨d0,d1,d2,d3,d4,d5,d6,d7,d8,fy⟩:=Ew p2;have hlt1:=HD1.o.lt;have hlt2:=lH p2;have fy4:=fy 4;have fy5:=fy 5;have P1:=hid p1;have P2:=hid p2;have hu2:Upd (A9 g vn vr) w W2:=HU1.o.trans2 p3 (λ k hk=>by simp at hk;exact .inr (HV5.o k hk));have P3:=hid hu2;have P4:=hid (show∀k,v'.ownBlock=some k->w.heap.size<=k from λ k hk=>by
     rcases p4 with h1|h1
     ·exact HV5.o k (by rw[<-h1];exact hk)
     ·rw[h1] at hk;simp at hk;have:=HU1.o.size;omega)
    have P5:=hid p5;clear hst p1 p2 p3 p4 p5 hu2 c0 c1 c2 c3 c5 c6 c7 c8 d0 d1 d2 d3 d6 d7 d8 fz fy;go_wp2_with (at_builtin;refine jA rfl (.tmp 20) (.tmp 25) _ rfl _ _ _ rfl rfl P1.o ?_);go_roundw
    case rel=>
     have hu3:Upd [g] W2 ((W2.setCell (dD g 4) (nN)).setCell (dD g 5) (iI 0)):=((Upd.refl [g] W2).setCell _ _ (by simp)).setCell _ _ (by simp);have h5:=P5.o _ ⟨s1.mode,s1.num,[],0,s1.need,s1.ends,s1.err⟩ hu3 (by rw[jP _ (jP _ P2.o)];rfl) rfl rfl;refine⟨i+1,by omega,by go_num,?_⟩;rw[HE.o];refine⟨vn1,_,h5.1,h5.2,P3.o.trans2 hu3 (λ k hk=>by simp at hk;subst hk;exact .inl (CI _ _ _)),λ k hk=> ?_,P4.o⟩;rcases Cy hk with h|h|h
     ·subst h;exact .inl (CI _ _ _)
     ·exact HF1.o k (Dt _ h)
     ·simp[Value.ownBlock] at h
    case measure=>simp[intOf];omega
  ·have hd:decide ((i:Int)<(n:Int))=false:=by simp;omega
   obtain rfl:i=n:=by omega
   have HZ:=hid (show zs.take i=zs from List.take_of_length_le (by rw[HNL.o];omega));rw[HZ.o] at hD hT;have HFin:=hid (show Fed w wr b g m f (feed m f zs (s,[])) vn vr u5 from⟨vn0,vr0,hD,hT,hU,hF,hv5⟩);clear hD hT hU hF hv5;go_wp2_with fail;go_ret;exact⟨_,rfl,HFin.o⟩
end
end Go.Proofs.YtdakioiagpkfhaaGreatDoor
