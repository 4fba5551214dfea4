import Derived.Test.YtdakioiagpkfhaaGreatDoorP10
set_option maxRecDepth 99999
set_option maxHeartbeats 0
set_option linter.all false
namespace Go.Proofs.YtdakioiagpkfhaaGreatDoor
open RowKit
open Go.Proofs.Tryz
variable {k mb n pb s:Nat} {most next:Int} {w w':World}
def Et (n s k:Nat):List Value:=(List.range k).map λ i=> iI (Au n s i)
theorem DL (n s k:Nat):(Et n s k).length=k:=by simp[Et]
theorem Lx (n s k:Nat):Et n s (k+1)=Et n s k++[iI (Au n s k)]:=by simp[Et,List.range_succ]
theorem QD {i:Nat} (h:i<(Et n s k).length):(Et n s k)[i]= iI (Au n s i):=by simp[Et]
theorem UH (n s:Nat) (hs:1<=s) (hn:n<=4096):cnt n s<=4096:=by
 unfold cnt
 split
 ·omega
 ·refine Nat.div_le_of_le_mul ?_;have:4096*1<=4096*s:=Nat.mul_le_mul_left _ hs;rw[Nat.mul_comm s 4096];omega
theorem Le (n s:Nat) (hs:1<=s):cnt n s=if 0<n%s\/n=0 then n/s+1 else n/s:=by
 have hd:=Nat.div_add_mod n s;have hm:=Nat.mod_lt n (show 0<s by omega);unfold cnt;by_cases h0:n=0
 ·subst h0;simp
 ·rw[if_neg h0];generalize n/s=q at*;generalize n%s=r at*;subst hd;by_cases hr:0<r
  ·rw[if_pos (.inl hr),show s*q+r+s-1=(r-1+s)+s*q by omega,Nat.add_mul_div_left _ _ (by omega),Nat.add_div_right _ (by omega),Nat.div_eq_of_lt (by omega)];omega
  ·rw[if_neg (by omega),show s*q+r+s-1=(s-1)+s*q by omega,Nat.add_mul_div_left _ _ (by omega),Nat.div_eq_of_lt (by omega)];omega
theorem Hb (n:Int) (h: -9223372036854775808<=n/\n<=9223372036854775807):wrap64 n=n:=by unfold wrap64;omega
theorem Gv (n s:Nat) (hs:1<=s) (hn:n<=4611686018427387904) (w:World):
  Calls prog 217 #[iI n,iI s] w λ r w'=>r= .returned (iI (cnt n s))/\w=w':=by
 have hqn:n/s<=n:=Nat.div_le_self _ _;have hq:(n:Int)/(s:Int)=((n/s:Nat):Int):=by simp
 have hr:(n:Int)%(s:Int)=((n%s:Nat):Int):=by simp
 have HC:=hid (Le n s hs);have HQ:=hid (show wrap64 ((n:Int)/(s:Int))=((n/s:Nat):Int) by rw[hq];have:=Int.natCast_nonneg (n/s);exact Hb _ (by omega));have hcase:(decide (0<(n:Int)%(s:Int))=true)\/(decide (0<(n:Int)%(s:Int))=false/\((n:Int)==0)=true)\/(decide (0<(n:Int)%(s:Int))=false/\((n:Int)==0)=false):=by
  by_cases h1:0<(n:Int)%(s:Int)
  ·left;simpa using h1
  ·by_cases h2:n=0
   ·right;left;exact⟨by simpa using h1,by simp[h2]⟩
   ·right;right;exact⟨by simpa using h1,by simp;omega⟩
 rcases hcase with hd|⟨hd,hd2⟩|⟨hd,hd2⟩
 ·have HC2:=hid (show cnt n s=n/s+1 by rw[HC.o,if_pos (.inl (by have h:=of_decide_eq_true hd;rw[hr] at h;omega))]);clear hq hr hqn;go_in;go_wp2;go_ret;exact⟨DX (by rw[HC2.o,HQ.o];have:=Nat.div_le_self n s;have:=Int.natCast_nonneg (n/s);rw[Hb _ (by omega)];omega),rfl⟩
 ·have HC2:=hid (show cnt n s=n/s+1 by rw[HC.o,if_pos (.inr (by simpa using hd2))]);clear hq hr hqn;go_in;go_wp2;go_ret;exact⟨DX (by rw[HC2.o,HQ.o];have:=Nat.div_le_self n s;have:=Int.natCast_nonneg (n/s);rw[Hb _ (by omega)];omega),rfl⟩
 ·have HC2:=hid (show cnt n s=n/s by rw[HC.o,if_neg (by rw[hr] at hd;simp at hd hd2;omega)]);clear hq hr hqn;go_in;go_wp2;go_ret;exact⟨DX (by rw[HC2.o,HQ.o]),rfl⟩
theorem MD (n s:Nat) (hs:1<=s) (hs2:s<=9223372036854775807) (hn:n<=4096) (w:World):
  Calls prog 218 #[iI n,iI s] w λ r w'=>∃v,r= .returned v/\AA w' w.heap.size 3 v (Et n s (cnt n s))/\Ext w w':=by
 have hd1:decide ((n:Int)<0)=false:=by simp
 have hd2:decide (4096<(n:Int))=false:=by simp;omega
 have hd3:decide ((s:Int)<1)=false:=by simp;omega
 have hcl:=UH n s hs hn;go_in;go_wp2_with fail;refine(Gv n s hs (by omega) w).mono ?_;rintro r wb ⟨rfl,rfl⟩;go_wp2_with fail;go_loopw [0,5,20] (λ v0 v5 v20 wr=>∃i:Nat,i<=cnt n s/\v0= iI ((n-i*s:Nat):Int)/\v20= iI i/\AA wr w.heap.size 3 v5 (Et n s i)/\Ext w wr) (λ _ _ v20 _=>cnt n s-(intOf v20).toNat)
 case atStart=>exact⟨0,by omega,by simp,rfl,AA.nil _ _ _,Ext.refl w⟩
 case round=>
  obtain⟨i,hi,rfl,rfl,hO,hX⟩:=hrel;have HO:=hid hO;have HX:=hid hX;clear hO hX;by_cases hlt:i<cnt n s
  ·have hd:decide (i<cnt n s)=true:=by simp;omega
   have HN:=hid (show n-i*s-Au n s i=n-(i+1)*s by unfold Au;rw[Nat.add_mul];omega);have HZ:=hid (show Au n s i=min s (n-i*s) from rfl);have hle:n-i*s<=4096:=by omega
   generalize n-i*s=m at*;obtain⟨v',w',h1,h2,_,h4⟩:=more HO.o (Au n s i) (by rw[DL];omega) HX.o.size;have H2:=hid (show AA w' w.heap.size 3 v' (Et n s (i+1)) by rw[Lx];exact h2);have H4:=hid (h4 w (Uf _) HX.o);clear h2 h4;by_cases hms:m<s
   ·have hz:Au n s i=m:=by rw[HZ.o];omega
    rw[hz] at h1 HN;have H1:=hid h1;clear h1 hz;go_wp2_with (at_builtin;refine jA rfl (.tmp 25) (.tmp 27) _ rfl _ _ _ rfl rfl H1.o ?_);go_roundw
    case rel=>exact⟨i+1,by omega,by rw[<-HN.o];go_num,by go_num,H2.o,H4.o⟩
    case measure=>simp[intOf];omega
   ·have hz:Au n s i=s:=by rw[HZ.o];omega
    rw[hz] at h1 HN;have H1:=hid h1;clear h1 hz;go_wp2_with (at_builtin;refine jA rfl (.tmp 25) (.tmp 27) _ rfl _ _ _ rfl rfl H1.o ?_);go_roundw
    case rel=>exact⟨i+1,by omega,by rw[<-HN.o];go_num,by go_num,H2.o,H4.o⟩
    case measure=>simp[intOf];omega
  ·have hd:decide (i<cnt n s)=false:=by simp;omega
   obtain rfl:i=cnt n s:=by omega
   go_wp2_with fail;go_ret;exact⟨_,rfl,HO.o,HX.o⟩
theorem NL {b:Nat} {v:Value} (h:AA w b 3 v (Et n s k)) (hk0:1<=k):∃g cap,v= sS g 0 k cap/\k<=cap/\cap<=maxLen/\g<w.heap.size/\∀i,i<k->w.cell? (dD g i)=some (iI (Au n s i)):=by
 rcases h.form with⟨_,h0⟩|⟨g,cap,cur,hv,hb,hn,hm,hg,hs,ht⟩
 ·have:=congrArg List.length h0;rw[DL] at this;simp at this;omega
 ·rw[DL] at hv hn;refine⟨g,cap,hv,hn,hm,lH hg,λ i hi=> ?_⟩;obtain⟨g',cap',hv',_,_,_,_,hc,_⟩:=h.cell (i:=i) (by rw[DL];exact hi);rw[QD] at hc;rw[hv,DL] at hv';injection hv' with hv' _ _;injection hv' with hv';injection hv' with hv' _ _;rw[hv'];exact hc
theorem QG {ws W:World} {u:Value} {xs ys:List Int} (hO:AA W ws.heap.size 5 u (bv xs)) (hX:Ext ws W) (hw:∀z∈xs,(Lit.int .u8 z).wf=true) (hxl:xs.length<=1000000) (n:Int) (hn0:0<=n) (hn1:n<4294967296) {A:Option Addr} {cap c:Nat} (hy:AI .u8 ws A k cap ys) (hA:A=none->c=0) (hk:k<=4096):
  Calls prog 92 #[u,.int .u32 n] W λ r w2=>∃v,r= .returned v/\∃v' w3,(Builtin.append_ #[26,26] 26 #[v,.slice A k c]).run prog w2= .ok v' w3/\AA w3 ws.heap.size 5 v' (bv ((xs++be4 n)++ys))/\Ext ws w3:=by
 refine(Hh hO hw n hn0 hn1 hxl).mono ?_;rintro r w2 ⟨v,rfl,h1,h2⟩;have h1':=h1.low hX.size;obtain⟨v',w3,h3,h4,h5⟩:=De h1' (hy.ext (hX.trans h2)) hA (by rw[AS,Uc];simp[be4];omega) (Nat.le_trans hX.size h2.size) 26;exact⟨v,rfl,v',w3,h3,by rw[Bu];exact h4,Uu h5 (hX.trans h2) (λ g hg=>(h1'.lt hg).1)⟩
theorem Qp (k:Nat) (hk:k<=4096):bits .or .u32 (k:Int) 2147483648=(k:Int)+2147483648:=by
 have h1:bits .or .u32 (k:Int) 2147483648=IntKind.u32.wrap ((BitVec.ofInt 32 (k:Int)|||BitVec.ofInt 32 2147483648).toNat:Nat):=rfl;have h2:(BitVec.ofInt 32 (k:Int)).toNat=k:=by rw[BitVec.toNat_ofInt];simp;omega
 have h3:(BitVec.ofInt 32 2147483648).toNat=2147483648:=by decide
 have h4:k|||2147483648=2147483648+k:=by
  have:=Nat.two_pow_add_eq_or_of_lt (i:=31) (b:=k) (by omega) 1;rw[Nat.or_comm];simpa using this.symm
 rw[h1,BitVec.toNat_or,h2,h3,h4];simp[IntKind.wrap,IntKind.signed,IntKind.bits];omega
theorem LS (a:Option Addr) (n cap:Nat) (zs:List Int) (s:Nat) (hs:1<=s) (hs2:s<=9223372036854775807) (hn:n<=4096) (hc:cnt n s<=64) (w:World) (h:AI .u8 w a n cap zs) (ha:(a=none/\cap=0)\/∃g o,a=some ⟨g,o,none⟩):
  Calls prog 138 #[.slice a n cap,iI s] w λ r w'=>∃v,r= .returned (.tuple #[v,iI 0])/\AA w' w.heap.size 5 v (bv (fr zs s (cnt n s)))/\Ext w w':=by
 have hd1:decide ((s:Int)<1)=false:=by simp;omega
 have hd2:decide (4096<(n:Int))=false:=by simp;omega
 have hd3:decide (64<(cnt n s:Int))=false:=by simp;omega
 have hcm:=h.2.2.1;have hcp:=IS n s hs;unfold maxLen at hcm;have HNE:=hid h.1;have H:=hid h;clear h;go_in;go_wp2_with fail;refine(Gv n s hs (by omega) w).mono ?_;rintro r wb ⟨rfl,rfl⟩;go_wp2_with fail;refine(MD n s hs hs2 hn w).mono ?_;rintro r ws ⟨vS,rfl,hvs,hxs⟩;obtain⟨gs,cs,rfl,hcs1,hcs2,hgs,hcell⟩:=NL hvs hcp;unfold maxLen at hcs2;have HS:=hid hcell;have HXS:=hid hxs;have H0:=hid (H.o.ext hxs);clear hvs hxs hcell;go_wp2_with fail;go_loopw [0,6,30] (λ v0 v6 v30 wr=>∃(i cap':Nat) (a':Option Addr),i<=cnt n s/\v30= iI i/\v0= .slice a' (n-i*s) cap'/\AI .u8 ws a' (n-i*s) cap' (zs.drop (i*s))/\((a'=none/\cap'=0)\/∃g o,a'=some ⟨g,o,none⟩)/\AA wr ws.heap.size 5 v6 (bv (fr zs s i))/\Ext ws wr) (λ _ _ v30 _=>cnt n s-(intOf v30).toNat)
 case atStart=>exact⟨0,cap,a,by omega,rfl,by simp,by simpa [HNE.o] using H0.o,ha,AA.nil _ _ _,Ext.refl ws⟩
 case round=>
  obtain⟨i,cap',a',hi,rfl,rfl,hR,ha',hO,hX⟩:=hrel;have HR:=hid hR;have HO:=hid hO;have HX:=hid hX;clear hO hX hR;by_cases hlt:i<cnt n s
  ·have hd:decide (i<cnt n s)=true:=by simpa using hlt
   have hi0:(0:Int)<=(i:Int):=by omega
   have hi1:(i:Int)<(cnt n s:Int):=by omega
   have q0:=HX.o.cell (HS.o i hlt);have HF:=hid (IM zs s i);have hkm:Au n s i<=n-i*s:=by unfold Au;omega
   have HM:=hid (show n-i*s-Au n s i=n-(i+1)*s by unfold Au;rw[Nat.add_mul];omega);have HD:=hid (show(zs.drop (i*s)).drop (Au n s i)=zs.drop ((i+1)*s) by
    rw[List.drop_drop];by_cases hls:s<=n-i*s
    ·congr 1;unfold Au;rw[Nat.add_mul];omega
    ·have hl:=HNE.o;rw[List.drop_eq_nil_of_le (by unfold Au;omega),List.drop_eq_nil_of_le (by rw[Nat.add_mul];omega)])
   have HC:=hid (show∀W,Ext wr W->Calls prog 92 #[_,.int .u32 (hdr n s i)] W λ r w2=>∃v,r= .returned v/\∃v' w3,(Builtin.append_ #[26,26] 26 #[v,.slice a' (Au n s i) cap']).run prog w2= .ok v' w3/\AA w3 ws.heap.size 5 v' (bv (fr zs s (i+1)))/\Ext ws w3 from
    λ W hW=>by
     have hz:∀z∈zs,(Lit.int .u8 z).wf=true:=H.o.2.2.2.1;have hl:zs.length<=4096:=by rw[HNE.o];exact hn
     have hb:=Ka n s i hn;rw[HF.o,HNE.o];exact QG (HO.o.ext hW) (HX.o.trans hW) (Ow hz hl s i) (by have:=UC zs hl s i;omega) _ hb.1 hb.2 (HR.o.head hkm) (λ e=>by rcases ha' with⟨_,h⟩|⟨g,o,h⟩;exact h;rw[h] at e;cases e) (by omega))
   have hle:n-i*s<=4096:=by omega
   have HHD:=hid (show hdr n s i=Au n s i+(if i+1=cnt n s then 2147483648 else 0) from rfl);generalize Au n s i=k at*;generalize n-i*s=m at*;have hor:=Qp k (by omega);by_cases hlast:i+1=cnt n s
   ·have hdl:((i:Int)==(cnt n s:Int)-1)=true:=by simp;omega
    rw[HHD.o,if_pos hlast] at HC;rcases ha' with⟨rfl,rfl⟩|⟨g,o,rfl⟩
    ·have hm0:m=0:=by have:=HR.o.2.1;omega
     have hk0:k=0:=by omega
     subst hm0 hk0;go_wp2_with fail;go_region_law (first|(refine AU rfl (.tmp 48) (.tmp 51) _ rfl _ _ _ rfl rfl (by assumption) ?_)|(go_simp;go_at_call 92;refine(HC.o _ (by first|exact(Ext.refl _).drew|exact Ext.refl _)).mono ?_;rintro r w2 ⟨v,rfl,v',w3,h1,h2,h3⟩))
     all_goals
      have H2:=hid h2;have H3:=hid h3;clear h1 h2 h3;go_wp2_with fail;go_roundw
      case rel=>exact⟨i+1,0,none,by omega,by go_num,by rw[<-HM.o],by rw[<-HM.o,<-HD.o];exact HR.o,.inl ⟨rfl,rfl⟩,H2.o,H3.o⟩
      case measure=>simp[intOf];omega
    ·have hmc:=HR.o.2.1;have hcx:=HR.o.2.2.1;unfold maxLen at hcx;have hkc:k<=cap':=by omega
     go_wp2_with fail;go_region_law (first|(refine AU rfl (.tmp 48) (.tmp 51) _ rfl _ _ _ rfl rfl (by assumption) ?_)|(go_simp;go_at_call 92;refine(HC.o _ (by first|exact(Ext.refl _).drew|exact Ext.refl _)).mono ?_;rintro r w2 ⟨v,rfl,v',w3,h1,h2,h3⟩))
     all_goals
      have H2:=hid h2;have H3:=hid h3;clear h1 h2 h3;go_wp2_with fail;go_roundw
      case rel=>exact⟨i+1,cap'-k,_,by omega,by go_num,by rw[<-HM.o],by rw[<-HM.o,<-HD.o];exact HR.o.cut hkm _ (λ hlt=>if_neg (by omega)),by by_cases e:cap'=k;exact .inr ⟨g,o,if_pos e⟩;exact .inr ⟨g,o+k,if_neg e⟩,H2.o,H3.o⟩
      case measure=>simp[intOf];omega
   ·have hdl:((i:Int)==(cnt n s:Int)-1)=false:=by simp;omega
    rw[HHD.o,if_neg hlast,Int.add_zero] at HC;rcases ha' with⟨rfl,rfl⟩|⟨g,o,rfl⟩
    ·have hm0:m=0:=by have:=HR.o.2.1;omega
     have hk0:k=0:=by omega
     subst hm0 hk0;go_wp2_with fail;go_region_law (first|(refine AU rfl (.tmp 48) (.tmp 51) _ rfl _ _ _ rfl rfl (by assumption) ?_)|(go_simp;go_at_call 92;refine(HC.o _ (by first|exact(Ext.refl _).drew|exact Ext.refl _)).mono ?_;rintro r w2 ⟨v,rfl,v',w3,h1,h2,h3⟩))
     all_goals
      have H2:=hid h2;have H3:=hid h3;clear h1 h2 h3;go_wp2_with fail;go_roundw
      case rel=>exact⟨i+1,0,none,by omega,by go_num,by rw[<-HM.o],by rw[<-HM.o,<-HD.o];exact HR.o,.inl ⟨rfl,rfl⟩,H2.o,H3.o⟩
      case measure=>simp[intOf];omega
    ·have hmc:=HR.o.2.1;have hcx:=HR.o.2.2.1;unfold maxLen at hcx;have hkc:k<=cap':=by omega
     go_wp2_with fail;go_region_law (first|(refine AU rfl (.tmp 48) (.tmp 51) _ rfl _ _ _ rfl rfl (by assumption) ?_)|(go_simp;go_at_call 92;refine(HC.o _ (by first|exact(Ext.refl _).drew|exact Ext.refl _)).mono ?_;rintro r w2 ⟨v,rfl,v',w3,h1,h2,h3⟩))
     all_goals
      have H2:=hid h2;have H3:=hid h3;clear h1 h2 h3;go_wp2_with fail;go_roundw
      case rel=>exact⟨i+1,cap'-k,_,by omega,by go_num,by rw[<-HM.o],by rw[<-HM.o,<-HD.o];exact HR.o.cut hkm _ (λ hlt=>if_neg (by omega)),by by_cases e:cap'=k;exact .inr ⟨g,o,if_pos e⟩;exact .inr ⟨g,o+k,if_neg e⟩,H2.o,H3.o⟩
      case measure=>simp[intOf];omega
  ·have hd:decide (i<cnt n s)=false:=by simpa using hlt
   obtain rfl:i=cnt n s:=by omega
   go_wp2_with fail;refine Ue (v:= .tuple #[_,iI 0]) (by simp[results,results138,go_sem]) rfl ⟨_,rfl,HO.o.low HXS.o.size,HXS.o.trans HX.o⟩
section
variable (a:Option Addr) (n cap:Nat) (zs:List Int) (size:Int) (w:World)
end
structure MC where
 k:Int
 p:Int
 x:Int
def MC.ev (c:MC):Int×Value:=(c.k,.agg #[.int .u32 c.p,iI c.x])
def DG:List MC->Int->Option MC
 |[],_=>none
 |c::l,k=>if c.k=k then some c else DG l k
def Mr:List MC->Int->List MC
 |[],_=>[]
 |c::l,k=>if c.k=k then l else c::Mr l k
theorem IG (k:Int):∀l:List MC,look (l.map MC.ev) k=(DG l k).map λ c=>c.ev.2
 |[]=>rfl
 |c::l=>by
  have ih:=IG k l;by_cases h:c.k=k<;>simp[look,DG,MC.ev,h]<;>simpa [MC.ev] using ih
theorem Kg (k:Int):∀l:List MC,del (l.map MC.ev) k=(Mr l k).map MC.ev
 |[]=>rfl
 |c::l=>by
  have ih:=Kg k l;by_cases h:c.k=k<;>simp[del,Mr,MC.ev,h]<;>simpa [MC.ev] using ih
theorem Nw (k p x:Int):∀l:List MC,DG l k=none->put (l.map MC.ev) k (.agg #[.int .u32 p,iI x])=(l++[(⟨k,p,x⟩:MC)]).map MC.ev
 |[],_=>rfl
 |c::l,h=>by
  unfold DG at h;by_cases hk:c.k=k
  ·simp[hk] at h
  ·rw[if_neg hk] at h;have ih:=Nw k p x l h;simp[put,MC.ev,hk];simpa [MC.ev] using ih
structure Ur (w:World) (pb mb:Nat) (next most:Int) (l:List MC):Prop where
 ptr:w.heap[pb]?=oC #[.int .u32 next,iI most,.map (some mb)] 126
 map:Ap w mb .u32 (l.map MC.ev)
theorem Ur.ne {l:List MC} (h:Ur w pb mb next most l):pb≠mb:=by
 rintro rfl;obtain⟨es,clock,h1,_⟩:=h.map;rw[h.ptr] at h1;cases h1
theorem Ur.ext {l:List MC} (h:Ur w pb mb next most l) (k:Ext w w'):Ur w' pb mb next most l:=⟨k.heap h.ptr,h.map.ext k⟩
theorem Ur.upd {S:List Nat} {l:List MC} (h:Ur w pb mb next most l) (k:Upd S w w') (h1:pb∉S) (h2:mb∉S):Ur w' pb mb next most l:=⟨k.heap h.ptr h1,h.map.upd k h2⟩
theorem ND (w:World):(zeroValue 209).run prog w= .ok (.agg #[.int .u32 0,iI 0]) w:=by kernel_rfl
theorem new_yes (first most:Int) (w:World) (h1:1<=most) (h2:most<=16):
  Calls prog 19 #[.int .u32 first,iI most] w λ r w'=>r= .returned (.tuple #[pP (w.heap.size+1) 0,iI 0])/\Ur w' (w.heap.size+1) w.heap.size first most []/\Ext w w':=by
 have hd:decide (most<1)=false:=by simp;omega
 have hd2:decide (16<most)=false:=by simp;omega
 have hmm:= @run_makeMap prog;go_in;go_wp2;go_ret2;exact⟨rfl,⟨heap_alloc2_new w _ _,((Ap.new w .u32).ext ((Ext.refl _).alloc _))⟩,((Ext.refl w).alloc _).alloc _⟩
theorem LV (pb mb:Nat) (next most:Int) (l:List MC) (k:Int) (w:World) (h:Ur w pb mb next most l):
  Calls prog 86 #[pP pb 0,.int .u32 k] w λ r w'=>r= .returned (.bool (DG l k).isSome)/\Ext w w':=by
 have hl:=h.map.lookup (P:=prog) underlying124 underlying22 (ND w) k;rw[IG] at hl;obtain⟨c0,c1,c2,f0,f1,f2⟩:=BZ h.ptr;clear h;cases hc:DG l k with
 |none=>
  rw[hc] at hl;simp only[Option.map_none,Option.getD_none,Option.isSome_none] at hl;go_in;go_wp2;go_ret;exact⟨rfl,(Ext.refl w).alloc _⟩
 |some c=>
  rw[hc] at hl;simp only[Option.map_some,Option.getD_some,Option.isSome_some,MC.ev] at hl;go_in;go_wp2;go_ret;exact⟨rfl,(Ext.refl w).alloc _⟩
structure Free (l:List MC) (next:Int) (j:Nat):Prop where
 free:DG l ((next+j)%4294967296)=none
 taken:∀i,i<j->(DG l ((next+i)%4294967296)).isSome=true
theorem Mu (pb mb:Nat) (next most:Int) (l:List MC) (p x:Int) (w:World) (h:Ur w pb mb next most l) (hf:l.length<most) (hn:0<=next) (hn2:next<4294967296) (j:Nat) (hj:Free l next j) (hj2:j<4294967296):
  Calls prog 44 #[pP pb 0,.int .u32 p,iI x] w λ r w'=>r= .returned (.tuple #[.int .u32 ((next+j)%4294967296),iI 0])/\
   Ur w' pb mb ((next+j+1)%4294967296) most (l++[(⟨(next+j)%4294967296,p,x⟩:MC)])/\Upd [pb,mb] w w':=by
 have hlen:=(h.map.ext (dE w)).len (P:=prog) underlying124 3;simp only[List.length_map] at hlen;obtain⟨c0,c1,c2,f0,f1,f2⟩:=BZ h.ptr;have hd:decide (most<=(l.length:Int))=false:=by simp;omega
 have H:=hid h;have HJ:=hid hj;clear h hf hj;go_in;go_wp2_with fail;go_region;clear hlen;go_wp2_with fail;go_loopw [8] (λ v8 wr=>∃i:Nat,i<=j/\v8= .int .u32 ((next+i)%4294967296)/\Ext w wr) (λ v8 _=>j-((intOf v8-next)%4294967296).toNat)
 case atStart=>exact⟨0,by omega,by simp;omega,dE w⟩
 case round=>
  obtain⟨i,hi,rfl,HR⟩:=hrel;have HM:=hid (H.o.ext HR);have HR':=hid HR;clear HR;go_wp2_with fail;refine(LV pb mb next most l _ _ HM.o).mono ?_;rintro r w2 ⟨rfl,hx⟩;have HX:=hid (HR'.o.trans hx);clear hx;by_cases hlt:i<j
  ·rw[HJ.o.taken i hlt];go_wp2_with fail;go_roundw
   case rel=>exact⟨i+1,by omega,congrArg (Value.int .u32) (by omega),HX.o⟩
   case measure=>simp only[intOf];omega
  ·obtain rfl:i=j:=by omega
   rw[HJ.o.free];have hM:=H.o.ext HX.o;obtain⟨w3,hrun,hmap3,hupd3⟩:=hM.map.update (P:=prog) underlying124 underlying22 ((next+i)%4294967296) (.agg #[.int .u32 p,iI x]);rw[Nw _ _ _ _ HJ.o.free] at hmap3;have hne:=H.o.ne;have hptr3:=hupd3.heap hM.ptr (by simpa using hne);clear c0 c1 c2 f0 f1 f2;obtain⟨c0,c1,c2,f0,f1,f2⟩:=BZ hM.ptr;obtain⟨d0,d1,d2,g0,g1,g2⟩:=BZ hptr3;have Hrun:=hid hrun;have Hm3:=hid hmap3;have Hp3:=hid hptr3;have Hu3:=hid hupd3;clear hM hrun hmap3 hptr3 hupd3;go_wp2_with (at_mapUpdate;refine CR rfl _ _ _ _ rfl _ _ _ rfl rfl rfl Hrun.o ?_);go_ret2;refine⟨rfl,⟨?_,Hm3.o.of_heap (heap_setCell_other w3 _ _ _ (by simpa using hne.symm))⟩,?_⟩
   ·rw[heap_setCell_same w3 pb 0 _ _ _ Hp3.o];rfl
   ·exact Upd.setCell ((HX.o.upd _).trans (Hu3.o.mono (by simp))) _ _ (by simp)
theorem OI (pb mb:Nat) (next most:Int) (l:List MC) (k:Int) (c:MC) (w:World) (h:Ur w pb mb next most l) (hk:DG l k=some c):
  Calls prog 146 #[pP pb 0,.int .u32 k,.int .u32 c.p] w λ r w'=>r= .returned (.tuple #[iI c.x,iI 0])/\Ur w' pb mb next most (Mr l k)/\Upd [pb,mb] w w':=by
 have hl:=h.map.lookup (P:=prog) underlying124 underlying22 (ND w) k;rw[IG,hk] at hl;simp only[Option.map_some,Option.getD_some,Option.isSome_some,MC.ev] at hl;obtain⟨c0,c1,c2,f0,f1,f2⟩:=BZ h.ptr;have hpb:=lH h.ptr;have hM:=h.ext ((Ext.refl w).alloc (.cells #[.int .u32 c.p,iI c.x] 209));obtain⟨w3,hrun,hmap3,hupd3⟩:=hM.map.delete (P:=prog) underlying124 underlying22 k 0;rw[Kg] at hmap3;have hne:=h.ne;have hmb:=h.map.lt;have hptr3:=hupd3.heap hM.ptr (by simpa using hne);have hblk3:=hupd3.heap (Ub w (.cells #[.int .u32 c.p,iI c.x] 209)) (by simp;omega);obtain⟨d0,d1,_,_⟩:=Al hblk3;have Hrun:=hid hrun;have Hm3:=hid hmap3;have Hp3:=hid hptr3;have Hu3:=hid hupd3;clear h hk hM hrun hmap3 hptr3 hupd3 hblk3;go_in;go_wp2_with (at_delete;refine CS rfl _ _ _ rfl _ _ _ rfl rfl Hrun.o ?_);go_ret2;exact⟨rfl,⟨Hp3.o,Hm3.o⟩,Upd.trans ((Upd.refl _ w).alloc _) (Hu3.o.mono (by simp))⟩
structure FV where
 h1:Int
 h2:Int
 u1:Int
 u2:Int
 name:ByteArray
 dir:Bool
 opn:Bool
 mode:Int
 off:Int
 at_:Int
def FV.cells (v:FV):Array Value:= (fR v.h1 v.h2 v.u1 v.u2 v.name v.dir v.opn v.mode v.off v.at_)
def FV.val (v:FV):Value:= .agg (fR v.h1 v.h2 v.u1 v.u2 v.name v.dir v.opn v.mode v.off v.at_)
def FV.zero:FV:=⟨0,0,0,0,⟨#[]⟩,false,false,0,0,0⟩
def fev (p:Int×FV):Int×Value:=(p.1,p.2.val)
def Ah:List (Int×FV)->Int->Option FV
 |[],_=>none
 |p::l,k=>if p.1=k then some p.2 else Ah l k
def EE:List (Int×FV)->Int->FV->List (Int×FV)
 |[],k,v=>[(k,v)]
 |p::l,k,v=>if p.1=k then(k,v)::l else p::EE l k v
theorem Fc (k:Int):∀l:List (Int×FV),look (l.map fev) k=(Ah l k).map FV.val
 |[]=>rfl
 |p::l=>by
  have ih:=Fc k l;by_cases h:p.1=k<;>simp[look,Ah,fev,h];simpa [fev] using ih
theorem H7 (k:Int) (v:FV):∀l:List (Int×FV),put (l.map fev) k v.val=(EE l k v).map fev
 |[]=>rfl
 |p::l=>by
  have ih:=H7 k v l;by_cases h:p.1=k<;>simp[put,EE,fev,h];simpa [fev] using ih
theorem Gd {k:Int} {v:FV}:∀{l:List (Int×FV)},Ah l k=none->EE l k v=l++[(k,v)]
 |[],_=>rfl
 |p::l,h=>by
  unfold Ah at h;by_cases hk:p.1=k
  ·rw[if_pos hk] at h;cases h
  ·rw[if_neg hk] at h;simp[EE,hk,Gd h]
structure B3 (w:World) (pb mb:Nat) (most:Int) (l:List (Int×FV)):Prop where
 ptr:w.heap[pb]?=oC #[iI most,.map (some mb)] 206
 map:Ap w mb .i64 (l.map fev)
section
variable {w w':World} {pb mb:Nat} {most:Int} {l:List (Int×FV)}
theorem B3.ne (h:B3 w pb mb most l):pb≠mb:=by
 rintro rfl;obtain⟨es,clock,h1,_⟩:=h.map;rw[h.ptr] at h1;cases h1
theorem B3.ext (h:B3 w pb mb most l) (k:Ext w w'):B3 w' pb mb most l:=⟨k.heap h.ptr,h.map.ext k⟩
end
theorem NE (w:World):(zeroValue 381).run prog w= .ok FV.zero.val w:=by kernel_rfl
theorem OD (most:Int) (w:World) (h1:1<=most) (h2:most<=16):
  Calls prog 42 #[iI most] w λ r w'=>r= .returned (.tuple #[pP (w.heap.size+1) 0,iI 0])/\B3 w' (w.heap.size+1) w.heap.size most []/\Ext w w':=by
 have hd:decide (most<1)=false:=by simp;omega
 have hd2:decide (16<most)=false:=by simp;omega
 have hmm:= @run_makeMap prog;go_in;go_wp2;go_ret2;exact⟨rfl,⟨heap_alloc2_new w _ _,((Ap.new w .i64).ext ((Ext.refl _).alloc _))⟩,((Ext.refl w).alloc _).alloc _⟩
section
variable (pb mb:Nat) (most:Int) (l:List (Int×FV)) (k:Int) (w:World)
theorem IF (h:B3 w pb mb most l) (hk:Ah l k=none):(Instr.lookup 204 (.map (some mb)) (iI k) true).run prog w= .ok (.tuple #[FV.zero.val,.bool false]) w:=by
 have hl:=h.map.lookup (P:=prog) underlying204 underlying3 (NE _) k;rw[Fc,hk] at hl;exact hl
theorem El {v:FV} (h:B3 w pb mb most l) (hk:Ah l k=some v):∀o,(Instr.lookup 204 (.map (some mb)) (iI k) true).run prog (w.alloc o)= .ok (.tuple #[v.val,.bool true]) (w.alloc o):=λ o=>by
 have hl:=(h.map.ext ((Ext.refl w).alloc o)).lookup (P:=prog) underlying204 underlying3 (NE _) k;rw[Fc,hk] at hl;exact hl
theorem Cn (h:B3 w pb mb most l) (hk:Ah l k=none) (b:Bool) (hb:decide (most<=(l.length:Int))=b):
  Calls prog 260 #[pP pb 0,iI k] w λ r w'=>r= .returned (iI (if b then 5 else 0))/\Ext w w':=by
 have hl:=IF pb mb most l k w h hk;unfold FV.val at hl;have hlen:=hid (λ o=>((h.map.ext ((Ext.refl w).alloc o)).ext (dE _)).len (P:=prog) underlying204 3);obtain⟨c0,c1,f0,f1⟩:=Al h.ptr;have hpb:=lH h.ptr;clear h hk;cases b
 all_goals
  go_in;go_wp2_with fail;have hlen':=hlen.o;simp only[List.length_map] at hlen';go_region;clear hlen';go_wp2_with fail;go_ret;exact⟨rfl,((Ext.refl w).alloc _).drew⟩
end
theorem blk10 {g:Nat} {v:FV} {t:TypeId} (h:w.heap[g]?=oC v.cells t):
  w.cell? (dD g 0)=some (iI v.h1)/\w.cell? (dD g 1)=some (iI v.h2)/\w.cell? (dD g 2)=some (iI v.u1)/\w.cell? (dD g 3)=some (iI v.u2)/\
  w.cell? (dD g 4)=some (.string v.name)/\w.cell? (dD g 5)=some (.bool v.dir)/\w.cell? (dD g 6)=some (.bool v.opn)/\w.cell? (dD g 7)=some (iI v.mode)/\
  w.cell? (dD g 8)=some (iI v.off)/\w.cell? (dD g 9)=some (iI v.at_):=
 ⟨cO h 0,cO h 1,cO h 2,cO h 3,cO h 4,cO h 5,cO h 6,cO h 7,cO h 8,cO h 9⟩
section
variable (pb mb:Nat) (most:Int) (l:List (Int×FV)) (k:Int) (w:World)
theorem add_ok (v:FV) (h:B3 w pb mb most l) (hk:Ah l k=none) (hb:l.length<most):
  Calls prog 263 #[pP pb 0,iI k,v.val] w λ r w'=>r= .returned (iI 0)/\B3 w' pb mb most (l++[(k,v)])/\Upd [pb,mb] w w':=by
 have HF:=hid (show∀W,Ext w W->Calls prog 260 #[pP pb 0,iI k] W λ r w'=>r= .returned (iI 0)/\Ext W w' from
  λ W hW=>Cn pb mb most l k W (h.ext hW) hk false (by simp;omega))
 have H:=hid h;have HK:=hid hk;clear h hk hb;unfold FV.val;go_in;go_wp2_with fail;refine(HF.o _ ((Ext.refl w).alloc _)).mono ?_;rintro r w2 ⟨rfl,hx⟩;have hb:=hx.heap (Ub w (.cells v.cells 381));have hE:=((Ext.refl w).alloc _).trans hx;have hM:=H.o.ext hE;obtain⟨w3,hrun,hmap3,hupd3⟩:=(hM.map.ext (dE w2)).update (P:=prog) underlying204 underlying3 k v.val;rw[H7,Gd HK.o] at hmap3;have hne:=hM.ne;have hptr3:=hupd3.heap ((dE w2).heap hM.ptr) (by simpa using hne);obtain⟨c0,c1,f0,f1⟩:=Al hM.ptr;obtain⟨b0,b1,b2,b3,b4,b5,b6,b7,b8,b9⟩:=blk10 hb;unfold FV.val at hrun;have HN:=hid (show B3 w3 pb mb most (l++[(k,v)])/\Upd [pb,mb] w w3 from⟨⟨hptr3,hmap3⟩,((hE.trans (dE w2)).upd _).trans (hupd3.mono (by simp))⟩);clear hx hb hE hM hmap3 hupd3 hptr3;go_wp2_with fail;go_region;clear hrun;go_wp2_with fail;go_ret;exact⟨rfl,HN.o⟩
theorem J2 (v:FV) {u:FV} (h:B3 w pb mb most l) (hk:Ah l k=some u):
  Calls prog 266 #[pP pb 0,iI k,v.val] w λ r w'=>r= .returned (iI 0)/\B3 w' pb mb most (EE l k v)/\Upd [pb,mb] w w':=by
 have hl:=El pb mb most l k w h hk;unfold FV.val at hl;obtain⟨c0,c1,f0,f1⟩:=Al h.ptr;have hpb:=lH h.ptr;have hE:Ext w (((w.alloc (.cells v.cells 381)).alloc (.cells u.cells 381)).drew):=(((Ext.refl w).alloc _).alloc _).drew;have hM:=h.ext hE;obtain⟨w3,hrun,hmap3,hupd3⟩:=hM.map.update (P:=prog) underlying204 underlying3 k v.val;rw[H7] at hmap3;have hptr3:=hupd3.heap hM.ptr (by simpa using h.ne);have HN:=hid (show B3 w3 pb mb most (EE l k v)/\Upd [pb,mb] w w3 from⟨⟨hptr3,hmap3⟩,(hE.upd _).trans (hupd3.mono (by simp))⟩);unfold FV.val FV.cells at hrun;clear h hk hM hmap3 hptr3 hupd3 hE;unfold FV.val;go_in;go_wp2_with fail;go_region;clear hrun;go_wp2_with fail;go_ret;exact⟨rfl,HN.o⟩
theorem get_ok {v:FV} (h:B3 w pb mb most l) (hk:Ah l k=some v):
  Calls prog 272 #[pP pb 0,iI k] w λ r w'=>r= .returned (.tuple #[v.val,iI 0])/\Ext w w':=by
 have hl:=El pb mb most l k w h hk;unfold FV.val at hl;obtain⟨c0,c1,f0,f1⟩:=Al h.ptr;have hpb:=lH h.ptr;clear h hk;go_in;go_wp2_with fail;refine Ue (v:= .tuple #[v.val,iI 0]) (by simp[results,results272,go_sem,FV.val]) rfl ⟨rfl,?_⟩;exact((Ext.refl w).alloc _).alloc _
end
end Go.Proofs.YtdakioiagpkfhaaGreatDoor
