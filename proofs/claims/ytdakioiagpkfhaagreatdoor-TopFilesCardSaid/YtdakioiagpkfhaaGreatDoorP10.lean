import Derived.Test.YtdakioiagpkfhaaGreatDoorP09
import Derived.Lib.ConvBytes
set_option maxRecDepth 99999
set_option maxHeartbeats 0
set_option linter.all false
namespace Go.Proofs.YtdakioiagpkfhaaGreatDoor
open RowKit
open Go.Proofs.Tryz
variable {S:List Nat} {a:Option Addr} {c g gr gx k n:Nat} {l zs:List Int} {p x:Int} {w w':World}
theorem AI.updB {k:IntKind} {len cap:Nat} (h:AI k w a len cap zs) (hx:Upd S w w') (hs:∀g o,a=some ⟨g,o,none⟩->g∉S):AI k w' a len cap zs:=by
 obtain⟨h1,h2,h3,h4,h5⟩:=h;refine⟨h1,h2,h3,h4,?_⟩;rcases h5 with h5|⟨g,o,h6,h7⟩
 ·exact .inl h5
 ·exact .inr ⟨g,o,h6,λ i hi=>hx.cell (h7 i hi) (hs g o h6)⟩
theorem IX {a b c d:Value} {t:TypeId} (h:w.heap[g]?=oC #[a,b,c,d] t):
  w.cell? (dD g 0)=some a/\w.cell? (dD g 1)=some b/\w.cell? (dD g 2)=some c/\w.cell? (dD g 3)=some d/\w.frozen? (dD g 0)=false/\w.frozen? (dD g 1)=false/\w.frozen? (dD g 2)=false/\w.frozen? (dD g 3)=false:=
 ⟨cO h 0,cO h 1,cO h 2,cO h 3,fO h 0,fO h 1,fO h 2,fO h 3⟩
def Bi (reply:Bool) (xid proc:Int):List Int:=if reply then[xid,1,0,proc] else[xid,0,2,536870913,1,proc]
def Ds (l:List Int):List Int:=l.flatMap be4
theorem EH (l:List Int):(Ds l).length=4*l.length:=by
 induction l with
 |nil=>rfl
 |cons a l ih=>simp only[Ds,List.flatMap_cons,Uc] at*;rw[ih];simp[be4];omega
theorem Gf (l:List Int) (i:Nat) (hi:i<l.length):Ds (l.take (i+1))=Ds (l.take i)++be4 (l.getD i 0):=by
 rw[List.take_succ_eq_append_getElem hi];unfold Ds;rw[List.flatMap_append];simp[List.getD,Ud hi]
theorem LM (h:∀z∈l,0<=z/\z<4294967296):∀z∈Ds l,(Lit.int .u8 z).wf=true:=by
 intro z hz;simp only[Ds,List.mem_flatMap] at hz;obtain⟨n,hn,hm⟩:=hz;exact Bf n (h n hn).1 (h n hn).2 z hm
theorem Oi {r:Bool} (hx:0<=x/\x<4294967296) (hp:0<=p/\p<4294967296):∀z∈Bi r x p,0<=z/\z<4294967296:=by
 intro z hz;unfold Bi at hz
 split at hz<;>simp at hz<;>omega
def Aj (r:Bool) (x p:Int) (zs:List Int):List Int:=Ds (Bi r x p)++zs
theorem VB (w:World) (a b c:Obj):(((w.alloc a).alloc b).alloc c).heap[w.heap.size+2]?=some c:=by
 have:=Ub ((w.alloc a).alloc b) c;simpa using this
theorem Eu (w:World) (a b c:Obj):(((w.alloc a).alloc b).alloc c).heap[w.heap.size]?=some a:=by
 exact((((Ext.refl (w.alloc a)).alloc b).alloc c)).heap (Ub w a)
theorem Lt (r:Bool) (x p:Int) (hx:0<=x/\x<4294967296) (hp:0<=p/\p<4294967296) (a:Option Addr) (n c:Nat) (zs:List Int) (hn:n<=100000) (w:World) (h:AI .u8 w a n c zs) (ha:Bj a c):
  Calls prog 47 #[.agg #[.bool r,.int .u32 x,.int .u32 p,.slice a n c]] w λ e w'=>∃v,e= .returned v/\AA w' w.heap.size 5 v (bv (Aj r x p zs))/\Ext w w':=by
 have hbd:=Oi (r:=r) hx hp;have HB:=hid hbd;have H:=hid h;have HA:=hid ha;clear hbd h ha;cases r with
 |false=>
  go_in;go_wp2_with fail;obtain⟨W,hW⟩:∃W,W=(w.alloc (.cells #[.bool false,.int .u32 x,.int .u32 p,.slice a n c] 151)).alloc (.cells #[.int .u32 x,.int .u32 0,.int .u32 2,.int .u32 536870913,.int .u32 1,.int .u32 p] 22):=⟨_,rfl⟩;have hX0:Ext w W:=by rw[hW];exact((Ext.refl w).alloc _).alloc _
  have hgl:W.heap[w.heap.size+1]?=some (.cells ((Bi false x p).map (Value.int .u32)).toArray 22 (0,0)):=by rw[hW];exact heap_alloc2_new w _ _
  have hgm:W.heap[w.heap.size]?=oC #[.bool false,.int .u32 x,.int .u32 p,.slice a n c] 151:=by rw[hW];exact heap_alloc2_old w _ _
  rw[<-hW];clear hW;have HL:=hid (show∀i,i<6->W.cell? (dD (w.heap.size+1) i)=some (.int .u32 ((Bi false x p).getD i 0)) from λ i hi=>by
   rw[cO hgl i];have:i<(Bi false x p).length:=hi;simp[List.getD,Ud this])
  have HGM:=hid hgm;have HX0:=hid hX0;have HLn:=hid (show(Bi false x p).length=6 from rfl);clear hgl hgm hX0;have HBM:=hid (show Aj false x p zs=Ds (Bi false x p)++zs from rfl);generalize Bi false x p=L at*;go_loopw [4,21] (λ v4 v21 wr=>∃i:Nat,i<=6/\v21= iI i/\AA wr w.heap.size 5 v4 (bv (Ds (L.take i)))/\Ext W wr) (λ _ v21 _=>6-(intOf v21).toNat)
  case atStart=>exact⟨0,by omega,rfl,AA.nil _ _ _,Ext.refl _⟩
  case round=>
   obtain⟨i,hi,rfl,hO,hXr⟩:=hrel;have HO:=hid hO;have HXr:=hid hXr;clear hO hXr;by_cases hlt:i<6
   ·have hd:decide ((i:Int)<6)=true:=by simp;omega
    have hi0:(0:Int)<=(i:Int):=by omega
    have hi1:(i:Int)<6:=by omega
    have q:=HXr.o.cell (HL.o i hlt);have hz:=HB.o (L.getD i 0) (by
     have:i<L.length:=by rw[HLn.o];exact hlt
     simp[List.getD,Ud this])
    have HU:=hid (Hh HO.o (LM (λ z hz=>HB.o z (List.mem_of_mem_take hz))) (L.getD i 0) hz.1 hz.2 (by rw[EH,Ul];omega));have HS:=hid (Gf L i (by rw[HLn.o];exact hlt));rw[<-HS.o] at HU;generalize L.getD i 0=z at*;go_wp2_with fail;refine HU.o.mono ?_;rintro e w2 ⟨v2,rfl,hO2,hX2⟩;have HO2:=hid (hO2.low (Nat.le_trans HX0.o.size HXr.o.size));have HX2:=hid (HXr.o.trans hX2);clear hO2 hX2;go_wp2_with fail;go_roundw
    case rel=>exact⟨i+1,by omega,by go_num,HO2.o,HX2.o⟩
    case measure=>simp[intOf];omega
   ·have hd:decide ((i:Int)<6)=false:=by simp;omega
    have hE:L.take i=L:=List.take_of_length_le (by rw[HLn.o];omega);rw[hE] at HO;clear hE;have hgw:=HXr.o.heap HGM.o;obtain⟨c0,c1,c2,c3,f0,f1,f2,f3⟩:=IX hgw;obtain⟨v',w',p1,p2,p3⟩:=De HO.o (c:=c) (H.o.ext (HX0.o.trans HXr.o)) HA.o.nil0 (by rw[AS,EH,HLn.o];omega) (Nat.le_trans HX0.o.size HXr.o.size) 26;rw[<-Bu,<-HBM.o] at p2;have P1:=hid p1;have P2:=hid p2;have P3:=hid (Uu p3 (HX0.o.trans HXr.o) (λ g hg=>(HO.o.lt hg).1));clear p1 p2 p3 hgw;go_wp2_with (at_builtin;refine jA rfl (.tmp 29) (.tmp 31) _ rfl _ _ _ ?_ ?_ P1.o ?_)
    ·rfl
    ·rfl
    ·go_ret;exact⟨_,rfl,P2.o,P3.o⟩
 |true=>
  go_in;go_wp2_with fail;obtain⟨W,hW⟩:∃W,W=((w.alloc (.cells #[.bool true,.int .u32 x,.int .u32 p,.slice a n c] 151)).alloc (.cells #[.int .u32 x,.int .u32 0,.int .u32 2,.int .u32 536870913,.int .u32 1,.int .u32 p] 22)).alloc (.cells #[.int .u32 x,.int .u32 1,.int .u32 0,.int .u32 p] 22):=⟨_,rfl⟩;have hX0:Ext w W:=by rw[hW];exact(((Ext.refl w).alloc _).alloc _).alloc _
  have hgl:W.heap[w.heap.size+2]?=some (.cells ((Bi true x p).map (Value.int .u32)).toArray 22 (0,0)):=by rw[hW];exact VB w _ _ _
  have hgm:W.heap[w.heap.size]?=oC #[.bool true,.int .u32 x,.int .u32 p,.slice a n c] 151:=by rw[hW];exact Eu w _ _ _
  rw[<-hW];clear hW;have HL:=hid (show∀i,i<4->W.cell? (dD (w.heap.size+2) i)=some (.int .u32 ((Bi true x p).getD i 0)) from λ i hi=>by
   rw[cO hgl i];have:i<(Bi true x p).length:=hi;simp[List.getD,Ud this])
  have HGM:=hid hgm;have HX0:=hid hX0;have HLn:=hid (show(Bi true x p).length=4 from rfl);clear hgl hgm hX0;have HBM:=hid (show Aj true x p zs=Ds (Bi true x p)++zs from rfl);generalize Bi true x p=L at*;go_loopw [4,21] (λ v4 v21 wr=>∃i:Nat,i<=4/\v21= iI i/\AA wr w.heap.size 5 v4 (bv (Ds (L.take i)))/\Ext W wr) (λ _ v21 _=>4-(intOf v21).toNat)
  case atStart=>exact⟨0,by omega,rfl,AA.nil _ _ _,Ext.refl _⟩
  case round=>
   obtain⟨i,hi,rfl,hO,hXr⟩:=hrel;have HO:=hid hO;have HXr:=hid hXr;clear hO hXr;by_cases hlt:i<4
   ·have hd:decide ((i:Int)<4)=true:=by simp;omega
    have hi0:(0:Int)<=(i:Int):=by omega
    have hi1:(i:Int)<4:=by omega
    have q:=HXr.o.cell (HL.o i hlt);have hz:=HB.o (L.getD i 0) (by
     have:i<L.length:=by rw[HLn.o];exact hlt
     simp[List.getD,Ud this])
    have HU:=hid (Hh HO.o (LM (λ z hz=>HB.o z (List.mem_of_mem_take hz))) (L.getD i 0) hz.1 hz.2 (by rw[EH,Ul];omega));have HS:=hid (Gf L i (by rw[HLn.o];exact hlt));rw[<-HS.o] at HU;generalize L.getD i 0=z at*;go_wp2_with fail;refine HU.o.mono ?_;rintro e w2 ⟨v2,rfl,hO2,hX2⟩;have HO2:=hid (hO2.low (Nat.le_trans HX0.o.size HXr.o.size));have HX2:=hid (HXr.o.trans hX2);clear hO2 hX2;go_wp2_with fail;go_roundw
    case rel=>exact⟨i+1,by omega,by go_num,HO2.o,HX2.o⟩
    case measure=>simp[intOf];omega
   ·have hd:decide ((i:Int)<4)=false:=by simp;omega
    have hE:L.take i=L:=List.take_of_length_le (by rw[HLn.o];omega);rw[hE] at HO;clear hE;have hgw:=HXr.o.heap HGM.o;obtain⟨c0,c1,c2,c3,f0,f1,f2,f3⟩:=IX hgw;obtain⟨v',w',p1,p2,p3⟩:=De HO.o (c:=c) (H.o.ext (HX0.o.trans HXr.o)) HA.o.nil0 (by rw[AS,EH,HLn.o];omega) (Nat.le_trans HX0.o.size HXr.o.size) 26;rw[<-Bu,<-HBM.o] at p2;have P1:=hid p1;have P2:=hid p2;have P3:=hid (Uu p3 (HX0.o.trans HXr.o) (λ g hg=>(HO.o.lt hg).1));clear p1 p2 p3 hgw;go_wp2_with (at_builtin;refine jA rfl (.tmp 29) (.tmp 31) _ rfl _ _ _ ?_ ?_ P1.o ?_)
    ·rfl
    ·rfl
    ·go_ret;exact⟨_,rfl,P2.o,P3.o⟩
theorem Gr (g:Nat) (e:Int) (zs:List Int) (w:World) (h:RdW w g e zs):
  Calls prog 300 #[pP g 0] w λ r w'=>r= .returned (iI e)/\w=w':=by
 obtain⟨a,c,h1,_,_⟩:=h;obtain⟨c0,c1,f0,f1⟩:=Al h1;clear h1;go_in;go_wp2_with fail;go_ret;exact⟨rfl,rfl⟩
def Pt (l:List Int) (x:Int) (k:Int):Prop:= -1<=k/\k<=100/\(0<=k↔x∈l)
theorem VM (a:Option Addr) (n c:Nat) (l:List Int) (hn:n<=100) (x:Int) (w:World) (h:AI .u32 w a n c l):
  Calls prog 356 #[.slice a n c,.int .u32 x] w λ r w'=>∃k,Pt l x k/\r= .returned (iI k)/\w=w':=by
 have hl:=h.1;have hcm:=h.2.2.1;have hlc:=h.2.1;unfold maxLen at hcm;have H:=hid h;have HL:=hid hl;clear h hl;go_in;go_wp2_with fail;go_loop [8] (λ v8=>∃i:Nat,i<=n/\v8= iI i/\x∉l.take i) (λ v8=>n-(intOf v8).toNat)
 case atStart=>exact⟨0,by omega,rfl,by simp⟩
 case round=>
  obtain⟨i,hi,rfl,hx⟩:=hrel;have HX:=hid hx;clear hx;by_cases hlt:i<n
  ·have hd:decide (i<n)=true:=by simpa using hlt
   have hi0:(0:Int)<=(i:Int):=by omega
   have hi1:(i:Int)<(n:Int):=by omega
   obtain⟨g,o,rfl,q⟩:=H.o.at_ hlt;have hil:i<l.length:=by rw[HL.o];exact hlt
   have HT:=hid (show l.take (i+1)=l.take i++[l.getD i 0] by
    rw[List.take_succ_eq_append_getElem hil];simp[List.getD,Ud hil])
   have HM:=hid (show l.getD i 0∈l by simp[List.getD,Ud hil]);generalize l.getD i 0=y at*;clear hil;by_cases hxy:x=y
   ·subst hxy;go_wp2_with fail;go_ret;exact⟨i,⟨by omega,by omega,⟨λ _=>HM.o,λ _=>by omega⟩⟩,rfl,rfl⟩
   ·have hd2:(x==y)=false:=by simpa using hxy
    go_wp2_with fail;go_round
    case rel=>exact⟨i+1,by omega,by go_num,by rw[HT.o];simp[hxy];exact HX.o⟩
    case measure=>simp[intOf];omega
  ·have hd:decide (i<n)=false:=by simpa using hlt
   have hE:l.take i=l:=List.take_of_length_le (by rw[HL.o];omega);rw[hE] at HX;clear hE;go_wp2_with fail;go_ret;exact⟨-1,⟨by omega,by omega,⟨λ h=>by omega,λ h=>absurd h HX.o⟩⟩,rfl,rfl⟩
theorem IR (a:Option Addr) (n c:Nat) (l:List Int) (hn:n<=100) (x:Int) (w:World) (h:AI .u32 w a n c l):
  Calls prog 301 #[.slice a n c,.int .u32 x] w λ r w'=>r= .returned (.bool (decide (x∈l)))/\w=w':=by
 have H:=hid (VM a n c l hn x w h);clear h;go_in;go_wp2_with fail;refine H.o.mono ?_;rintro r w' ⟨k,hk,rfl,rfl⟩;have HK:=hid hk;clear hk;by_cases hx:x∈l
 ·have hd:decide (x∈l)=true:=by simpa using hx
  have hk:decide (0<=k)=true:=by have:=HK.o.2.2.2 hx;simpa using this
  have HD:=hid hd;clear hx hd;go_wp2_with fail;go_ret;exact⟨by rw[HD.o];rfl,rfl⟩
 ·have hd:decide (x∈l)=false:=by simpa using hx
  have hk:decide (0<=k)=false:=by have:=λ h=>hx (HK.o.2.2.1 h);simpa using this
  have HD:=hid hd;clear hx hd;go_wp2_with fail;go_ret;exact⟨by rw[HD.o];rfl,rfl⟩
structure GdW (w:World) (gr gx:Nat) (zs:List Int) (k:Nat):Prop where
 blk:w.heap[gr]?=oC #[pP gx 0,iI k,.pointer none] 332
 ne:gr≠gx
 rd:RdW w gx 0 zs
theorem GdW.ext (h:GdW w gr gx zs k) (hx:Ext w w'):GdW w' gr gx zs k:=⟨hx.heap h.blk,h.ne,h.rd.ext hx⟩
theorem RdW.upd {e:Int} (h:RdW w g e zs) (hx:Upd S w w') (hg:g∉S) (hs:∀b i z,w.cell? (dD b i)=some (.int .u8 z)->b∉S):RdW w' g e zs:=by
 obtain⟨a,c,h1,h2,h3⟩:=h;exact⟨a,c,hx.heap h1 hg,h2.upd hx hs,h3⟩
theorem Uq {v:Int} (v0:0<=v) (v1:v<4294967296) (hn:n<=100) (hin:l=[]\/v∈l) (h:GdW w gr gx (be4 v++zs) k) (hk:k<=1000) (hl:AI .u32 w a n c l) (hla:∀g o,a=some ⟨g,o,none⟩->g≠gx/\g≠gr):
  Calls prog 219 #[pP gr 0,.slice a n c] w λ r w'=>r= .returned (.int .u32 v)/\GdW w' gr gx zs (k+4)/\Upd [gr,gx] w w':=by
 obtain⟨hb,hne,hrd⟩:=h;have hg:=lH hb;obtain⟨c0,c1,c2,f0,f1,f2⟩:=BZ hb;have hU:=Hf gx _ (by simp[be4]) w hrd;rw[show(be4 v++zs).take 4=be4 v from by simp[be4],show(be4 v++zs).drop 4=zs from by simp[be4],Ez v v0 v1] at hU;have HU:=hid hU;have HB:=hid hb;have HL:=hid hl;have hcm:=hl.2.2.1;have hlc:=hl.2.1;unfold maxLen at hcm;have HLA:=hid hla;have HLN:=hid hl.1;clear hU hb hrd hl hla;go_in;go_wp2_with fail;refine HU.o.mono ?_;rintro r w1 ⟨rfl,hr1,hu1⟩;have hb1:=hu1.heap HB.o (by simpa using hne);have hg1:=lH hb1;obtain⟨d0,d1,d2,e0,e1,e2⟩:=BZ hb1;have HR1:=hid hr1;have HU1:=hid hu1;have HB1:=hid hb1;have HC:=hid (IR a n c l hn v w1 (HL.o.updB hu1 (λ g o h=>by simpa using(HLA.o g o h).1)));clear hr1 hu1 hb1 c0 c1 c2 f0 f1 f2;go_wp2_with fail;refine(Gr gx 0 zs w1 HR1.o).mono ?_;rintro r w2 ⟨rfl,rfl⟩;have HOK:=hid (show∀W,W=w1.setCell (dD gr 1) (iI ((k:Int)+4))->GdW W gr gx zs (k+4)/\Upd [gr,gx] w W from by
  rintro W rfl;have u:Upd [gr] w1 (w1.setCell (dD gr 1) (iI ((k:Int)+4))):=(Upd.refl _ _).setCell _ _ (by simp);refine⟨⟨heap_setCell_same _ gr 1 _ _ (iI ((k:Int)+4)) HB1.o,hne,HR1.o.upd u (by simpa using λ e=>hne e.symm) (λ b i z h=> ?_)⟩,(HU1.o.mono (by simp)).trans (u.mono (by simp))⟩;simp only[List.mem_singleton];intro e;subst e;rw[cO HB1.o] at h
  match i with
  |0=>simp at h
  |1=>simp at h
  |2=>simp at h
  |i+3=>simp at h)
 by_cases hn0:n=0
 ·have hd:decide (0<n)=false:=by simp;omega
  have hd2:decide ((0:Int)<(n:Int))=false:=by simp;omega
  clear hn0 hin;go_wp2_with fail;go_ret;exact⟨rfl,HOK.o _ rfl⟩
 ·have hd:decide (0<n)=true:=by simp;omega
  have hd2:decide ((0:Int)<(n:Int))=true:=by simp;omega
  have hdv:decide (v∈l)=true:=by
   rcases hin with e|hv
   ·have:=HLN.o;rw[e] at this;exact absurd this.symm hn0
   ·simpa using hv
  rw[hdv] at HC;clear hin hdv;go_wp2_with fail;refine HC.o.mono ?_;rintro r w2 ⟨rfl,rfl⟩;go_wp2_with fail;go_ret;exact⟨rfl,HOK.o _ rfl⟩
theorem Qr (w:World) (cs:List Int) (hc:cs.length<=100) (hw:∀z∈cs,(Lit.int .u32 z).wf=true):AI .u32 (w.alloc (.cells (cs.map (Value.int .u32)).toArray 22)) (some ⟨w.heap.size,0,none⟩) cs.length cs.length cs:=by
 refine⟨rfl,by omega,by unfold maxLen;omega,hw,.inr ⟨w.heap.size,0,rfl,λ i hi=> ?_⟩⟩;rw[cO (Ub w _)];simp[List.getD,Ud hi]
structure RS (w W:World) (g2 gm gr gx:Nat) (zs:List Int) (k:Nat) (b:Bool) (x p:Int):Prop where
 gd:GdW W gr gx zs k
 m:W.heap[gm]?=oC #[.bool b,.int .u32 x,.int .u32 p,nN] 151
 z:W.heap[g2]?=oC #[.bool false,.int .u32 0,.int .u32 0,nN] 151
 d:g2≠gm/\g2≠gr/\g2≠gx/\gm≠gr/\gm≠gx
 lo:w.heap.size<=g2/\w.heap.size<=gm/\w.heap.size<=gr/\w.heap.size<=gx
 ext:Ext w W
theorem Aq (w:World) (a:Addr) (v:Value):(w.setCell a v).heap.size=w.heap.size:=by simp[World.setCell]
section
variable {w W W':World} {g2 gm gr gx:Nat} {zs:List Int} {k:Nat} {b:Bool} {x p v:Int}
theorem RS.on (h:RS w W g2 gm gr gx zs k b x p) (hx:Ext W W'):RS w W' g2 gm gr gx zs k b x p:=
 ⟨h.gd.ext hx,hx.heap h.m,hx.heap h.z,h.d,h.lo,h.ext.trans hx⟩
theorem RS.set (h:RS w W g2 gm gr gx zs k b x p) (i:Nat) (v:Value) (b':Bool) (x' p':Int) (he:(#[Value.bool b,.int .u32 x,.int .u32 p,nN].setIfInBounds i v)= #[.bool b',.int .u32 x',.int .u32 p',nN]):
  RS w (W.setCell (dD gm i) v) g2 gm gr gx zs k b' x' p':=by
 have u:Upd [gm] W (W.setCell (dD gm i) v):=(Upd.refl _ _).setCell _ _ (by simp);have hm:=heap_setCell_same W gm i _ _ v h.m;rw[he] at hm;obtain⟨d1,d2,d3,d4,d5⟩:=h.d;refine⟨⟨u.heap h.gd.blk (by simpa using λ e=>d4 e.symm),h.gd.ne,h.gd.rd.upd u (by simpa using λ e=>d5 e.symm) (λ b i z hb=> ?_)⟩,hm,u.heap h.z (by simpa using d1),h.d,h.lo,u.ext h.ext (by simpa using h.lo.2.1)⟩;simp only[List.mem_singleton];intro e;subst e;rw[cO h.m] at hb
 match i with
 |0=>simp at hb
 |1=>simp at hb
 |2=>simp at hb
 |3=>simp at hb
 |i+4=>simp at hb
theorem RS.next (h:RS w W g2 gm gr gx (be4 v++zs) k b x p) (hk:k<=1000) (v0:0<=v) (v1:v<4294967296) (hn:n<=100) (hin:l=[]\/v∈l) (hl:AI .u32 W a n c l) (hla:∀g o,a=some ⟨g,o,none⟩->g≠gx/\g≠gr):
  Calls prog 219 #[pP gr 0,.slice a n c] W λ r W'=>r= .returned (.int .u32 v)/\RS w W' g2 gm gr gx zs (k+4) b x p:=by
 refine(Uq v0 v1 hn hin h.gd hk hl hla).mono ?_;rintro r W' ⟨rfl,hg',hu⟩;obtain⟨d1,d2,d3,d4,d5⟩:=h.d;exact⟨rfl,hg',hu.heap h.m (by simp;exact⟨d4,d5⟩),hu.heap h.z (by simp;exact⟨d2,d3⟩),h.d,h.lo,hu.ext h.ext (by simp;exact⟨h.lo.2.2.1,h.lo.2.2.2⟩)⟩
theorem RS.next0 (h:RS w W g2 gm gr gx (be4 v++zs) k b x p) (hk:k<=1000) (v0:0<=v) (v1:v<4294967296):
  Calls prog 219 #[pP gr 0,nN] W λ r W'=>r= .returned (.int .u32 v)/\RS w W' g2 gm gr gx zs (k+4) b x p:=
 h.next hk v0 v1 (by omega) (.inl rfl) ⟨rfl,by omega,by unfold maxLen;omega,by simp,.inl rfl⟩ (λ _ _ e=>by cases e)
theorem RS.next1 (h:RS w W g2 gm gr gx (be4 v++zs) k b x p) (hk:k<=1000) (v0:0<=v) (v1:v<4294967296) (cs:List Int) {m:Nat} (hm:m=cs.length) (hc:m<=100) (hw:∀z∈cs,(Lit.int .u32 z).wf=true) (hv:v∈cs) (q:Nat) (hq:q=W.heap.size) (A:Array Value) (hA:A=(cs.map (Value.int .u32)).toArray):
  Calls prog 219 #[pP gr 0,sS q 0 m m] (W.alloc (.cells A 22)) λ r W'=>r= .returned (.int .u32 v)/\RS w W' g2 gm gr gx zs (k+4) b x p:=by
 subst hq hA hm;have l1:=lH h.gd.blk;have l2:=h.gd.rd.lt;exact(h.on ((Ext.refl W).alloc _)).next hk v0 v1 hc (.inr hv) (Qr W cs hc hw) (λ g o e=>by injection e with e;injection e with e _ _;omega)
theorem RS.mcells (h:RS w W g2 gm gr gx zs k b x p):gm<W.heap.size/\W.cell? (dD gm 0)=some (.bool b)/\W.cell? (dD gm 1)=some (.int .u32 x)/\W.cell? (dD gm 2)=some (.int .u32 p)/\W.cell? (dD gm 3)=some (nN)/\W.frozen? (dD gm 0)=false/\W.frozen? (dD gm 1)=false/\W.frozen? (dD gm 2)=false/\W.frozen? (dD gm 3)=false:=
 ⟨lH h.m,IX h.m⟩
end
theorem Uo {z:Int} (h:0<=z/\z<4294967296):(Lit.int .u32 z).wf=true:=by simp[Lit.wf,IntKind.min,IntKind.max,IntKind.signed,IntKind.bits];omega
theorem VO {b:Bool} (hx:0<=x/\x<4294967296) (hp:0<=p/\p<4294967296) {ys:List Int} {K:Nat} (hy:zs=Aj b x p ys) (hK:K=if b then 16 else 24) (hd:zs.drop K=ys) (hn:n<=100000) (hnK:K<=n) (h:AI .u8 w a n c zs) (ha:Bj a c):
  Calls prog 139 #[.slice a n c] w λ r w'=>∃v,r= .returned (.tuple #[.agg #[.bool b,.int .u32 x,.int .u32 p,v],.nilIface])/\AA w' w.heap.size 5 v (bv ys)/\Ext w w':=by
 have HR:=hid (λ W (hW:Ext w W)=>EC a n c zs (by omega) W (h.ext hW) ha.nil0);have H:=hid h;have HD:=hid hd;have HY:=hid hy;have HKb:=hid hK;have hlc:=h.2.1;have hcm:=h.2.2.1;unfold maxLen at hcm;have hK0:0<K:=by rw[hK];split<;>omega
 obtain⟨g0,o0,rfl⟩:∃g o,a=some ⟨g,o,none⟩:=by
  rcases h.2.2.2.2 with h0|⟨g,o,h0,_⟩
  ·omega
  ·exact⟨g,o,h0⟩
 clear h ha hd hy hK;go_in;go_wp2_with fail;refine(HR.o _ ((Ext.refl w).alloc _)).mono ?_;rintro r w1 ⟨gx,rfl,hrd,hgx,hx1⟩;have hz1:=hx1.heap (Ub w _);have hgx1:=hrd.lt;have hx01:Ext w w1:=((Ext.refl w).alloc _).trans hx1;have hs1:w.heap.size<w1.heap.size:=lH hz1;simp only[World.size_alloc] at hgx;have hb:Aj b x p ys=be4 x++(if b then be4 1++(be4 0++(be4 p++ys)) else be4 0++(be4 2++(be4 536870913++(be4 1++(be4 p++ys))))):=by cases b<;>simp[Aj,Ds,Bi]
 have HRS:=hid (show RS w ((w1.alloc (.cells #[pP gx 0,iI 0,.pointer none] 332)).alloc (.cells #[.bool false,.int .u32 0,.int .u32 0,nN] 151)) w.heap.size (w1.heap.size+1) w1.heap.size gx (be4 x++_) 0 false 0 0 from
  ⟨⟨heap_alloc2_old w1 _ _,by omega,by rw[<-hb,<-HY.o];exact hrd.ext (((Ext.refl w1).alloc _).alloc _)⟩,heap_alloc2_new w1 _ _,(((Ext.refl w1).alloc _).alloc _).heap hz1,by omega,by omega,hx01.trans (((Ext.refl w1).alloc _).alloc _)⟩)
 clear hrd hx1 hz1 hx01 hb HY;have HX:=hid hx;have HP:=hid hp;clear hx hp;go_wp2_with fail;refine(HRS.o.next0 (by omega) HX.o.1 HX.o.2).mono ?_;rintro r w2 ⟨rfl,hrs⟩;obtain⟨lm,m0,m1,m2,m3,n0,n1,n2,n3⟩:=hrs.mcells;have HRS2:=hid (hrs.set 1 (.int .u32 x) false x 0 rfl);clear hrs HRS;cases b
 case true=>
  obtain rfl:K=16:=HKb.o;go_wp2_with fail;refine(HRS2.o.next1 (v:=1) (by omega) (by omega) (by omega) [0,1] rfl (by simp) (λ z hz=>Uo (by simp at hz;omega)) (by simp) _ (Aq _ _ _).symm _ rfl).mono ?_;rintro r w3 ⟨rfl,hrs⟩;obtain⟨lm,m0,m1,m2,m3,n0,n1,n2,n3⟩:=hrs.mcells;have HRS3:=hid (hrs.set 0 (.bool true) true x 0 rfl);clear hrs HRS2;go_wp2_with fail;refine(HRS3.o.next1 (v:=0) (by omega) (by omega) (by omega) [0] rfl (by simp) (λ z hz=>Uo (by simp at hz;omega)) (by simp) _ (Aq _ _ _).symm _ rfl).mono ?_;rintro r w4 ⟨rfl,hrs⟩;obtain⟨lm,m0,m1,m2,m3,n0,n1,n2,n3⟩:=hrs.mcells;have HRS4:=hid hrs;clear hrs HRS3;go_wp2_with fail;refine(HRS4.o.next0 (by omega) HP.o.1 HP.o.2).mono ?_;rintro r w5 ⟨rfl,hrs⟩;obtain⟨lm,m0,m1,m2,m3,n0,n1,n2,n3⟩:=hrs.mcells;have hgl:=lH hrs.gd.blk;obtain⟨q0,q1,q2,_,_,_⟩:=BZ hrs.gd.blk;obtain⟨y0,y1,y2,y3,t0,t1,t2,t3⟩:=IX hrs.z;have lz:=lH hrs.z;have HE:=hid (hrs.set 2 (.int .u32 p) true x p rfl);have HCL:=hid (λ W (hW:Ext w W) (A:Option Addr) (hA:16<n->A=some ⟨g0,o0+16,none⟩)=>Ar A (n-16) (c-16) ys (by omega) W (by have:=(H.o.cut hnK A hA).ext hW;rw[HD.o] at this;exact this));clear hrs;by_cases hck:c=16
  all_goals
   first
    |(obtain rfl:n=16:=by omega
      subst hck;rw[Nat.sub_self] at HCL;go_wp2_with fail;refine(HCL.o _ HE.o.ext (some ⟨g0,o0,none⟩) (λ h=>by omega) (λ e=>by cases e)).mono ?_)
    |(go_wp2_with fail
      refine(HCL.o _ HE.o.ext _ (λ _=>rfl) (λ e=>by cases e)).mono ?_)
   rintro r w6 ⟨v6,rfl,hO6,hX6⟩;obtain⟨a6,c6,rfl,_,_⟩:=hO6.row2 (λ z hz=>H.o.2.2.2.1 z (by rw[<-HD.o] at hz;exact List.mem_of_mem_drop hz));have hrs6:=HE.o.on hX6;obtain⟨y0',y1',y2',y3',t0',t1',t2',t3'⟩:=IX hrs6.z;have lz':=lH hrs6.z;obtain⟨le,e0,e1,e2,e3,p0,p1,p2,p3⟩:=hrs6.mcells;have HRS6:=hid hrs6;have HO6:=hid hO6;have hsz:w5.heap.size<=w6.heap.size:=by have:=hX6.size;rw[Aq] at this;exact this
   clear hrs6 hO6 hX6;have HL:=hid (show ys.length=ys.length from rfl);generalize ys.length=dl at*;go_wp2_with fail;have u:=(((((Upd.refl [w1.heap.size+1,w.heap.size] w6).setCell (dD (w1.heap.size+1) 3) (.slice a6 dl c6) (by simp)).setCell (dD w.heap.size 0) (.bool true) (by simp)).setCell (dD w.heap.size 1) (.int .u32 x) (by simp)).setCell (dD w.heap.size 2) (.int .u32 p) (by simp)).setCell (dD w.heap.size 3) (.slice a6 dl c6) (by simp);refine Ue (v:= .tuple #[.agg #[.bool true,.int .u32 x,.int .u32 p,.slice a6 dl c6],.nilIface]) (by simp[results,results139,go_sem, *]) rfl ⟨_,rfl,(HO6.o.upd u (λ g hg=> ?_)).low HE.o.ext.size,u.ext HRS6.o.ext (by simp;omega)⟩;have h1:=(HO6.o.lt hg).1;rw[Aq] at h1;simp;omega
 case false=>
  obtain rfl:K=24:=HKb.o;go_wp2_with fail;refine(HRS2.o.next1 (v:=0) (by omega) (by omega) (by omega) [0,1] rfl (by simp) (λ z hz=>Uo (by simp at hz;omega)) (by simp) _ (Aq _ _ _).symm _ rfl).mono ?_;rintro r w3 ⟨rfl,hrs⟩;obtain⟨lm,m0,m1,m2,m3,n0,n1,n2,n3⟩:=hrs.mcells;have HRS3:=hid (hrs.set 0 (.bool false) false x 0 rfl);clear hrs HRS2;go_wp2_with fail;refine(HRS3.o.next1 (v:=2) (by omega) (by omega) (by omega) [2] rfl (by simp) (λ z hz=>Uo (by simp at hz;omega)) (by simp) _ (Aq _ _ _).symm _ rfl).mono ?_;rintro r w4 ⟨rfl,hrs⟩;obtain⟨lm,m0,m1,m2,m3,n0,n1,n2,n3⟩:=hrs.mcells;have HRS4:=hid hrs;clear hrs HRS3;go_wp2_with fail;refine(HRS4.o.next1 (v:=536870913) (by omega) (by omega) (by omega) [536870913] rfl (by simp) (λ z hz=>Uo (by simp at hz;omega)) (by simp) _ rfl _ rfl).mono ?_;rintro r w7 ⟨rfl,hrs⟩;obtain⟨lm,m0,m1,m2,m3,n0,n1,n2,n3⟩:=hrs.mcells;have HRS5:=hid hrs;clear hrs HRS4;go_wp2_with fail;refine(HRS5.o.next1 (v:=1) (by omega) (by omega) (by omega) [1] rfl (by simp) (λ z hz=>Uo (by simp at hz;omega)) (by simp) _ rfl _ rfl).mono ?_;rintro r w8 ⟨rfl,hrs⟩;obtain⟨lm,m0,m1,m2,m3,n0,n1,n2,n3⟩:=hrs.mcells;have HRS6:=hid hrs;clear hrs HRS5;go_wp2_with fail;refine(HRS6.o.next0 (by omega) HP.o.1 HP.o.2).mono ?_;rintro r w5 ⟨rfl,hrs⟩;obtain⟨lm,m0,m1,m2,m3,n0,n1,n2,n3⟩:=hrs.mcells;have hgl:=lH hrs.gd.blk;obtain⟨q0,q1,q2,_,_,_⟩:=BZ hrs.gd.blk;obtain⟨y0,y1,y2,y3,t0,t1,t2,t3⟩:=IX hrs.z;have lz:=lH hrs.z;have HE:=hid (hrs.set 2 (.int .u32 p) false x p rfl)
  have HCL:=hid (λ W (hW:Ext w W) (A:Option Addr) (hA:24<n->A=some ⟨g0,o0+24,none⟩)=>Ar A (n-24) (c-24) ys (by omega) W (by have:=(H.o.cut hnK A hA).ext hW;rw[HD.o] at this;exact this));clear hrs;by_cases hck:c=24
  all_goals
   first
    |(obtain rfl:n=24:=by omega
      subst hck;rw[Nat.sub_self] at HCL;go_wp2_with fail;refine(HCL.o _ HE.o.ext (some ⟨g0,o0,none⟩) (λ h=>by omega) (λ e=>by cases e)).mono ?_)
    |(go_wp2_with fail
      refine(HCL.o _ HE.o.ext _ (λ _=>rfl) (λ e=>by cases e)).mono ?_)
   rintro r w6 ⟨v6,rfl,hO6,hX6⟩;obtain⟨a6,c6,rfl,_,_⟩:=hO6.row2 (λ z hz=>H.o.2.2.2.1 z (by rw[<-HD.o] at hz;exact List.mem_of_mem_drop hz));have hrs6:=HE.o.on hX6;obtain⟨y0',y1',y2',y3',t0',t1',t2',t3'⟩:=IX hrs6.z;have lz':=lH hrs6.z;obtain⟨le,e0,e1,e2,e3,p0,p1,p2,p3⟩:=hrs6.mcells;have HRS6:=hid hrs6;have HO6:=hid hO6;have hsz:w5.heap.size<=w6.heap.size:=by have:=hX6.size;rw[Aq] at this;exact this
   clear hrs6 hO6 hX6;have HL:=hid (show ys.length=ys.length from rfl);generalize ys.length=dl at*;go_wp2_with fail;have u:=(((((Upd.refl [w1.heap.size+1,w.heap.size] w6).setCell (dD (w1.heap.size+1) 3) (.slice a6 dl c6) (by simp)).setCell (dD w.heap.size 0) (.bool false) (by simp)).setCell (dD w.heap.size 1) (.int .u32 x) (by simp)).setCell (dD w.heap.size 2) (.int .u32 p) (by simp)).setCell (dD w.heap.size 3) (.slice a6 dl c6) (by simp);refine Ue (v:= .tuple #[.agg #[.bool false,.int .u32 x,.int .u32 p,.slice a6 dl c6],.nilIface]) (by simp[results,results139,go_sem, *]) rfl ⟨_,rfl,(HO6.o.upd u (λ g hg=> ?_)).low HE.o.ext.size,u.ext HRS6.o.ext (by simp;omega)⟩;have h1:=(HO6.o.lt hg).1;rw[Aq] at h1;simp;omega
end Go.Proofs.YtdakioiagpkfhaaGreatDoor
