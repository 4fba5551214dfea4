import Derived.Test.YtdakioiagpkfhaaGreatDoorP05
set_option maxRecDepth 99999
set_option maxHeartbeats 0
set_option linter.all false
namespace Go.Proofs.YtdakioiagpkfhaaGreatDoor
open RowKit
open Go.Proofs.Tryz
variable {e n:Int} {g:Nat} {v:Value} {w:World} {ys zs:List Int}
theorem Es (h:Sl w v zs) (n:Int) (hn0:0<=n) (hn1:n<4294967296) (hl:zs.length<=1000000):
  Calls prog 92 #[v,.int .u32 n] w λ r w'=>∃v',r= .returned v'/\AA w' w.heap.size 5 v' (bv (zs++be4 n))/\Ext w w':=by
 obtain⟨a,c,rfl,h2,h3⟩:=h;cases a with
 |none=>
  rcases h3 with⟨_,rfl⟩|⟨g,o,e⟩
  ·have hz:zs=[]:=List.eq_nil_of_length_eq_zero (by have:=h2.2.1;omega);subst hz;exact Hj n hn0 hn1 w
  ·cases e
 |some ad=>exact VI ad _ c zs n hn0 hn1 w h2 hl
theorem BL (n:Int) (hn0:0<=n) (hn1:n<4294967296):Wf (be4 n):=Bf n hn0 hn1
def be8 (n:Int):List Int:=be4 (n/4294967296)++be4 (n%4294967296)
theorem Kn (n:Int) (hn0:0<=n) (hn1:n<18446744073709551616):Wf (be8 n):=(BL (n/4294967296) (by omega) (by omega)).app (BL (n%4294967296) (by omega) (by omega))
theorem xu64 (h:Sl w v zs) (n:Int) (hn0:0<=n) (hn1:n<18446744073709551616) (hl:zs.length<=100000):
  Calls prog 299 #[v,.int .u64 n] w λ r w'=>∃v',r= .returned v'/\AA w' w.heap.size 5 v' (bv (zs++be8 n))/\Ext w w':=by
 have HW:=hid h.wf;have H:=hid (Es h (n/4294967296) (by omega) (by omega) (by omega));clear h;go_in;go_wp2_with fail;refine H.o.mono ?_;rintro r w1 ⟨v1,rfl,hO,hX⟩;have H2:=hid (Es (hO.sl (HW.o.app (Bf _ (by omega) (by omega)))) (n%4294967296) (by omega) (by omega) (by simp[be4];omega));have HX:=hid hX;clear hO hX;go_wp2_with fail;refine H2.o.mono ?_;rintro r w2 ⟨v2,rfl,hO,hX⟩;have HO:=hid (show AA w2 w.heap.size 5 v2 (bv (zs++be8 n)) by unfold be8;rw[<-Ui];exact hO.low HX.o.size);have HX2:=hid (HX.o.trans hX);clear hO hX;go_wp2_with fail;go_ret;exact⟨_,rfl,HO.o,HX2.o⟩
theorem xbool (h:Sl w v zs) (b:Bool) (hl:zs.length<=100000):
  Calls prog 227 #[v,.bool b] w λ r w'=>∃v',r= .returned v'/\AA w' w.heap.size 5 v' (bv (zs++be4 (if b then 1 else 0)))/\Ext w w':=by
 have H:=hid (Es h (if b then 1 else 0) (by cases b<;>simp) (by cases b<;>simp) (by omega));clear h;cases b
 all_goals
  go_in;go_wp2_with fail;refine H.o.mono ?_;rintro r w1 ⟨v1,rfl,hO,hX⟩;have HO:=hid hO;have HX:=hid hX;clear hO hX;go_wp2_with fail;go_ret;exact⟨_,rfl,HO.o,HX.o⟩
def pd (n:Nat):Nat:=(4-n%4)%4
theorem LK (n:Nat) (hn:n<=1000000) (w:World):Calls prog 316 #[iI n] w λ r w'=>r= .returned (iI (pd n))/\w=w':=by
 go_in;go_wp2;go_ret;exact⟨DX (by unfold pd;omega),rfl⟩
def zer (k:Nat):List Int:=List.replicate k 0
theorem Jk (k:Nat):Wf (zer k):=λ z hz=>by rw[(List.mem_replicate.1 hz).2];exact wf8 (by omega) (by omega)
theorem B9 (k:Nat):(zer k).length=k:=List.length_replicate
def xt (ys:List Int):List Int:=be4 ys.length++ys++zer (pd ys.length)
theorem Iz (n:Nat):pd n<4:=by unfold pd;omega
theorem G9 (ys:List Int):(xt ys).length=4+ys.length+pd ys.length:=by simp[xt,be4,B9];omega
theorem Dy (h:Wf ys) (hl:ys.length<1000000):Wf (xt ys):=((BL _ (by omega) (by omega)).app h).app (Jk _)
theorem NG {y:Value} (h:Sl w v zs) (hy:Sl w y ys) (hs:ys.length<65536) (hl:zs.length<=100000):
  Calls prog 226 #[v,y] w λ r w'=>∃v',r= .returned v'/\AA w' w.heap.size 5 v' (bv (zs++xt ys))/\Ext w w':=by
 have H:=hid (Es h ys.length (by omega) (by omega) (by omega));have HY:=hid hy;obtain⟨b,c,rfl,k2,k3⟩:=hy;clear h k2 k3;go_in;go_wp2_with fail;refine H.o.mono ?_;rintro r w1 ⟨v',rfl,hO,hX⟩;obtain⟨v2,w2,h1,h2,h3⟩:=hO.app (HY.o.ext hX) (by simp[be4];omega) hX.size 26;have R:=hid h1;have N:=hid h2;have HX:=hid (hO.grow_ext h3 hX (Uf _));clear h1 h2 h3 hO hX;go_wp2_with (first|(at_builtin;refine jA rfl (.tmp 9) (.tmp 10) _ rfl _ _ _ rfl rfl R.o ?_)|fail);refine(LK ys.length (by omega) w2).mono ?_;rintro r w3 ⟨rfl,rfl⟩;have hpd:=Iz ys.length;generalize hp:pd ys.length=p at*;have HP:=hid hp;clear hp;go_wp2_with fail;go_loopw [0,15] (λ v0 v15 wr=>∃i:Nat,i<=p/\v15= iI i/\AA wr w.heap.size 5 v0 (bv (zs++be4 ys.length++ys++zer i))/\Ext w wr) (λ _ v15 _=>p-(intOf v15).toNat)
 case atStart=>exact⟨0,by omega,rfl,by simpa [zer] using N.o,HX.o⟩
 case round=>
  obtain⟨i,hi,rfl,hO,hE⟩:=hrel;by_cases hlt:i<p
  ·have hdi:decide ((i:Int)<(p:Int))=true:=by simp;omega
   have hi1:(i:Int)<(p:Int):=by omega
   have hs1:=hE.size;obtain⟨v3,w3,h1,h2,h3⟩:=(hO.ext ((Ext.refl wr).alloc (.cells #[.int .u8 0] 5))).app (sl1 wr 0 (by omega) (by omega)) (by simp[be4,zer];omega) (by simp;omega) 26;have R:=hid h1;have N:=hid (show AA w3 w.heap.size 5 v3 (bv (zs++be4 ys.length++ys++zer (i+1))) by
    have e:zer (i+1)=zer i++[0]:=List.replicate_succ';rw[e,<-Ui];exact h2)
   have HX:=hid ((hO.ext ((Ext.refl wr).alloc _)).grow_ext h3 (hE.alloc _) (Uf _));clear h1 h2 h3 hO hE;go_wp2_with (at_builtin;refine jA rfl (.tmp 17) (.tmp 18) _ rfl _ _ _ rfl rfl R.o ?_);go_roundw
   case rel=>exact⟨i+1,by omega,by go_num,N.o,HX.o⟩
   case measure=>simp[intOf];omega
  ·obtain rfl:i=p:=by omega
   have HO:=hid hO;have HE:=hid hE;clear hO hE;go_wp2_with fail;go_ret;have hq:=HO.o;rw[<-HP.o,show zs++be4 ys.length++ys++zer (pd ys.length)=zs++xt ys by simp only[xt,Ui]] at hq;exact⟨_,rfl,hq,HE.o⟩
theorem Ez (n:Int) (h0:0<=n) (h1:n<4294967296):val (be4 n)=n:=by simp[val,be4];omega
theorem QF (a b:List Int):val (a++b)=b.foldl (λ a z=>a*256+z) (val a):=by simp[val,List.foldl_append]
theorem QE (n:Int) (h0:0<=n) (h1:n<18446744073709551616):val (be8 n)=n:=by
 unfold be8;rw[QF,Ez _ (by omega) (by omega)];simp[be4];omega
theorem N5 (n:Int) (z:Int) (hn0:0<=n) (hn:n<=72057594037927935) (hz0:0<=z) (hz:z<=255):bits .or .u64 (n*256) z=n*256+z:=by
 obtain⟨m,rfl⟩:=Int.eq_ofNat_of_zero_le hn0;obtain⟨k,rfl⟩:=Int.eq_ofNat_of_zero_le hz0;have h1:bits .or .u64 ((m:Int)*256) (k:Int)=IntKind.u64.wrap ((BitVec.ofInt 64 ((m:Int)*256)|||BitVec.ofInt 64 (k:Int)).toNat:Nat):=rfl;have h2:(BitVec.ofInt 64 (k:Int)).toNat=k:=by rw[BitVec.toNat_ofInt];omega
 have h3:(BitVec.ofInt 64 ((m:Int)*256)).toNat=m*256:=by rw[BitVec.toNat_ofInt];omega
 have h4:m*256|||k=m*256+k:=by
  have:=Nat.two_pow_add_eq_or_of_lt (i:=8) (b:=k) (by omega) m;rw[show(2:Nat)^8=256 by rfl,Nat.mul_comm] at this;exact this.symm
 rw[h1,BitVec.toNat_or,h2,h3,h4,IntWalk.u64_in _ (by omega)];omega
theorem KL (g:Nat) (zs:List Int) (hz:8<=zs.length) (w:World) (h:RdW w g 0 zs):
  Calls prog 133 #[pP g 0,iI 8] w λ r w'=>r= .returned (.int .u64 (val (zs.take 8)))/\RdW w' g 0 (zs.drop 8)/\Upd [g] w w':=by
 obtain⟨a,c,h1,h2,h3⟩:=h;obtain⟨c0,c1,f0,f1⟩:=Al h1;have hcm:=h2.2.2.1;have hlc:=h2.2.1;unfold maxLen at hcm;obtain⟨gb,o,rfl,hcell⟩:∃gb o,a=some ⟨gb,o,none⟩/\∀i,i<zs.length->w.cell? (dD gb (o+i))=some (.int .u8 (zs.getD i 0)):=by
  rcases h2.2.2.2.2 with h0|h0
  ·omega
  ·exact h0
 have hd:decide ((zs.length:Int)<8)=false:=by simp;omega
 have HC:=hid hcell;have H1:=hid h1;have H2:=hid h2;obtain⟨n,hn⟩:∃n,n=zs.length:=⟨_,rfl⟩;rw[<-hn] at c1 hd hlc hz;have HN:=hid hn;clear h1 h2 h3 hcell hn;go_in;go_wp2_with fail;go_loop [5,30] (λ v5 v30=>∃i:Nat,i<=8/\v30= iI i/\v5= .int .u64 (val (zs.take i))) (λ _ v30=>8-(intOf v30).toNat)
 case atStart=>exact⟨0,by omega,rfl,by simp[val]⟩
 case round=>
  obtain⟨i,hi,rfl,rfl⟩:=hrel;by_cases hlt:i<8
  ·have hdi:decide ((i:Int)<8)=true:=by simp;omega
   have hi0:(0:Int)<=(i:Int):=by omega
   have hi1:(i:Int)<8:=by omega
   have q:=HC.o i (by have:=HN.o;omega);have HV:=hid (show val (zs.take (i+1))=val (zs.take i)*256+zs.getD i 0 by
    have hl:i<zs.length:=by have:=HN.o;omega
    rw[List.take_succ_eq_append_getElem hl,FO];simp[List.getD,Ud hl])
   have hv:=FP H2.o.2.2.2.1 i (by have:=HN.o;omega);have hv2:val (zs.take i)<=72057594037927935:=by
    have:i=0\/i=1\/i=2\/i=3\/i=4\/i=5\/i=6\/i=7:=by omega
    rcases this with rfl|rfl|rfl|rfl|rfl|rfl|rfl|rfl<;>omega
   have hv0:=hv.1;have hzb:=GU (H2.o.2.2.2.1 (zs.getD i 0) (by
    have hl:i<zs.length:=by have:=HN.o;omega
    simp[List.getD,Ud hl]))
   generalize zs.getD i 0=z at*;generalize val (zs.take i)=t at*;have hor:=N5 t z hv0 hv2 hzb.1 hzb.2;clear hv;go_wp2_with fail;go_round
   case rel=>exact⟨i+1,by omega,by go_num,by rw[HV.o]⟩
   case measure=>simp[intOf];omega
  ·have hdi:decide ((i:Int)<8)=false:=by simp;omega
   obtain rfl:i=8:=by omega
   by_cases hc4:c=8
   ·subst hc4;go_wp2_with fail;go_ret;have b1:=heap_setCell_same w g 1 _ _ (sS gb o 0 0) H1.o;have e1:(zs.drop 8).length=0:=by rw[List.length_drop,<-HN.o];omega
    have u1:Upd [g] w (w.setCell (dD g 1) (sS gb o 0 0)):=(Upd.refl [g] w).setCell _ _ (by simp);refine⟨rfl,⟨some ⟨gb,o,none⟩,0,by rw[b1,e1];rfl,?_,.inr ⟨gb,o,rfl⟩⟩,u1⟩;have hr:=H2.o.cut (j:=8) (by rw[<-HN.o];exact hz) (some ⟨gb,o,none⟩) (λ h=>by have:=HN.o;omega);rw[e1];rw[<-HN.o,show n-8=0 by omega] at hr;exact hr.upd u1 (λ b i z hb=>by simpa using Bn H1.o (by simp) (by simp) hb)
   ·go_wp2_with fail;go_ret;have b1:=heap_setCell_same w g 1 _ _ (sS gb (o+8) (n-8) (c-8)) H1.o;have e1:(zs.drop 8).length=n-8:=by rw[List.length_drop,<-HN.o]
    have u1:Upd [g] w (w.setCell (dD g 1) (sS gb (o+8) (n-8) (c-8))):=(Upd.refl [g] w).setCell _ _ (by simp);refine⟨rfl,⟨some ⟨gb,o+8,none⟩,c-8,by rw[b1,e1];rfl,?_,.inr ⟨gb,o+8,rfl⟩⟩,u1⟩;have hr:=H2.o.cut (j:=8) (by rw[<-HN.o];exact hz) (some ⟨gb,o+8,none⟩) (λ _=>rfl);rw[e1];rw[<-HN.o] at hr;exact hr.upd u1 (λ b i z hb=>by simpa using Bn H1.o (by simp) (by simp) hb)
theorem Jl (h:RdW w g 0 (be4 n++zs)) (hn0:0<=n) (hn1:n<4294967296):
  Calls prog 82 #[pP g 0] w λ r w'=>r= .returned (.int .u32 n)/\RdW w' g 0 zs/\Upd [g] w w':=by
 have:=Hf g (be4 n++zs) (by simp[be4]) w h;rw[show(be4 n++zs).take 4=be4 n from rfl,show(be4 n++zs).drop 4=zs from rfl,Ez n hn0 hn1] at this;exact this
theorem xr64 (h:RdW w g 0 (be8 n++zs)) (hn0:0<=n) (hn1:n<18446744073709551616):
  Calls prog 369 #[pP g 0] w λ r w'=>r= .returned (.int .u64 n)/\RdW w' g 0 zs/\Upd [g] w w':=by
 have H:=KL g (be8 n++zs) (by simp[be8,be4]) w h;rw[show(be8 n++zs).take 8=be8 n from rfl,show(be8 n++zs).drop 8=zs from rfl,QE n hn0 hn1] at H;have H:=hid H;clear h;go_in;go_wp2_with fail;refine H.o.mono ?_;rintro r w2 ⟨rfl,hr,hu⟩;go_wp2_with fail;go_ret;exact⟨rfl,hr,hu⟩
theorem RdW.wf (h:RdW w g e zs):Wf zs:=by obtain⟨a,c,_,h2,_⟩:=h;exact h2.2.2.2.1
theorem RdW.apart (h:RdW w g e zs):∀b i z,w.cell? (dD b i)=some (.int .u8 z)->b∉[g]:=by
 obtain⟨a,c,h1,_⟩:=h;intro b i z hb;simpa using Bn h1 (by simp) (by simp) hb
theorem CG (h:RdW w g e zs):
  Calls prog 300 #[pP g 0] w λ r w'=>r= .returned (iI e)/\w=w':=by
 obtain⟨a,c,h1,_⟩:=h;obtain⟨c0,c1,f0,f1⟩:=Al h1;clear h1;go_in;go_wp2_with fail;go_ret;exact⟨rfl,rfl⟩
theorem xend (h:RdW w g 0 []):
  Calls prog 235 #[pP g 0] w λ r w'=>r= .returned (iI 0)/\w=w':=by
 obtain⟨a,c,h1,_⟩:=h;obtain⟨c0,c1,f0,f1⟩:=Al h1;clear h1;go_in;go_wp2_with fail;go_ret;exact⟨rfl,rfl⟩
theorem Si {b:Bool} (h:RdW w g 0 (be4 (if b then 1 else 0)++zs)):
  Calls prog 383 #[pP g 0] w λ r w'=>r= .returned (.bool b)/\RdW w' g 0 zs/\Upd [g] w w':=by
 have H:=hid (Jl h (by cases b<;>simp) (by cases b<;>simp));clear h;cases b
 all_goals
  go_in;go_wp2_with fail;refine H.o.mono ?_;rintro r w2 ⟨rfl,hr,hu⟩;have HR:=hid hr;have HU:=hid hu;clear hr hu;go_wp2_with fail;go_ret;exact⟨rfl,HR.o,HU.o⟩
theorem LP (a:Option Addr) (i j len c:Nat) (hij:i<=j) (hj:j<=len) (hc:len<=c) (w:World):(Instr.sliceAt 26 (.slice a len c) (some (iI i)) (some (iI j)) none).run prog w= .ok (.slice (if c=i then a else a.map (·.add i)) (j-i) (c-i)) w:=by
 obtain⟨i0,hi,hz0,hz1,hz2⟩:=info_parts BR;have:j<=c:=by omega
 simp[Instr.sliceAt,Instr.slice,Instr.sliceBounds,Instr.sliceBound,Sem.run_bind,run_underlying underlying26,asIntOf,hij,this,run_sizeOf w hi,hz1,show prog.cellsOf 5=1 by kernel_rfl]
theorem Sl.mid {a:Option Addr} {c:Nat} (h:AI .u8 w a zs.length c zs) (hp:Bj a c) (i j:Nat) (hij:i<=j) (hj:j<=zs.length):
  Sl w (.slice (if c=i then a else a.map (·.add i)) (j-i) (c-i)) ((zs.take j).drop i):=by
 have e1:(zs.take j).length=j:=by rw[Ul];omega
 have:=(Sl.take_drop (c:=c) (zs:=zs.take j) (by rw[e1];exact h.head hj) hp i (by omega)).2
 rwa [e1] at this
theorem OH (ys z zs:List Int):((ys++z++zs).take (ys.length+z.length)).drop ys.length=z:=by
 rw[List.take_left' (by simp),List.drop_left' rfl]
theorem Ha {most:Nat} (h:RdW w g 0 (xt ys++zs)) (hm:ys.length<=most) (hmm:most<=4096):
  Calls prog 368 #[pP g 0,iI most] w λ r w'=>∃v,r= .returned v/\AA w' w.heap.size 5 v (bv ys)/\RdW w' g 0 zs/\Upd [g] w w':=by
 have hx:xt ys++zs=be4 ys.length++(ys++zer (pd ys.length)++zs):=by simp[xt]
 rw[hx] at h;have H:=hid (Jl h (by omega) (by omega));have hpd:=Iz ys.length;obtain⟨n,hn⟩:∃n,n=ys.length:=⟨_,rfl⟩;rw[<-hn] at H hm hpd;have HN:=hid hn;clear h hx hn;have hd':decide (most<n)=false:=by simp;omega
 go_in;go_wp2_with fail;refine H.o.mono ?_;rintro r w1 ⟨rfl,hR,hX⟩;have HX:=hid hX;obtain⟨a,c,h1,hr,hp⟩:=hR;obtain⟨c0,c1,f0,f1⟩:=Al h1;have hg:=lH h1;obtain⟨L,hL⟩:∃L,L=ys++zer (pd n)++zs:=⟨_,rfl⟩;obtain⟨p,hpe⟩:∃p,p=pd n:=⟨_,rfl⟩;rw[<-hpe] at hL hpd;rw[<-hpe,<-hL] at h1 hr c1;have hlen:n+p<=L.length:=by rw[hL];simp[zer,<-HN.o]
 have hlc:=hr.2.1;have hcm:=hr.2.2.1;have S1:=hid (Sl.mid hr hp n (n+p) (by omega) hlen);have S2:=hid (Sl.take_drop hr hp n (by omega)).1;have S3:=hid (Sl.take_drop hr hp (n+p) hlen).2;have R1:=hid (LP a n (n+p) L.length c (by omega) hlen hlc w1);have R2:=hid (Bw a n L.length c (by omega) hlc);have R3:=hid (Bd a (n+p) L.length c hlen);have e1:(L.take (n+p)).drop n=zer p:=by
  have:=OH ys (zer p) zs;rw[B9] at this;rw[hL,HN.o];exact this
 have e2:L.take n=ys:=by rw[hL,Ui,List.take_left' HN.o.symm]
 have e3:L.drop (n+p)=zs:=by rw[hL,List.drop_left'];simp[zer,<-HN.o]
 rw[e1] at S1;rw[e2] at S2;rw[e3] at S3;obtain⟨A1,hA1⟩:∃A1,A1=(if c=n then a else a.map (·.add n)):=⟨_,rfl⟩;rw[<-hA1] at R1 S1;obtain⟨A3,hA3⟩:∃A3,A3=(if c=n+p then a else a.map (·.add (n+p))):=⟨_,rfl⟩;rw[<-hA3] at R3 S3;obtain⟨l,hl⟩:∃l,l=L.length:=⟨_,rfl⟩;rw[<-hl] at R1 R2 R3 S3 hlen hlc h1 c1;have HP:=hid hpe;have HB:=hid h1;have e4:n+p-n=p:=by omega
 rw[e4] at R1 S1;have hd3:decide (l<n+p)=false:=by simp;omega
 have hd4:decide ((l:Int)<(n:Int)+(p:Int))=false:=by simp;omega
 unfold maxLen at hcm;clear hr hp h1 hX hL hpe e1 e2 e3 e4 hA1 hA3 hl;go_wp2_with fail;refine(LK n (by omega) w1).mono ?_;rintro r w2 ⟨rfl,rfl⟩;rw[<-HP.o];rw[Int.natCast_add] at R1 R3;have hr1:=R1.o;clear R1;have R1:=hid hr1;clear hr1;go_wp2_with ((with_reducible refine AF (o:=⟨some 45,.slice _ (.tmp 42) (some (.tmp 43)) (some (.tmp 44)) none,_,_,_,none⟩) rfl _ _ _ _ _ rfl _ _ _ _ ?_ ?_ ?_ ?_ _ R1.o ?_);(·rfl);(·rfl);(·rfl);(·rfl));obtain⟨b1,c1',hv1,k2,k3⟩:=S1.o;injection hv1 with e1 e2 e3;subst e1 e3;rw[B9] at k2;have HK:=hid k2;clear e2 k2 k3;go_loop [47] (λ v47=>∃i:Nat,i<=p/\v47= iI i) (λ v47=>p-(intOf v47).toNat)
 case atStart=>exact⟨0,by omega,rfl⟩
 case round=>
  obtain⟨i,hi,rfl⟩:=hrel;by_cases hlt:i<p
  ·have hdi:decide ((i:Int)<(p:Int))=true:=by simp;omega
   have hi0:(0:Int)<=(i:Int):=by omega
   have hi1:(i:Int)<(p:Int):=by omega
   obtain⟨gb,o,rfl,q⟩:=HK.o.at_ hlt;rw[show(zer p).getD i 0=0 by simp[zer,List.getD,List.getElem?_replicate,hlt]] at q;go_wp2_with fail;go_round
   case rel=>exact⟨i+1,by omega,by go_num⟩
   case measure=>simp[intOf];omega
  ·obtain rfl:i=p:=by omega
   have R2':=hid (R2.o w1);go_wp2_with (first|((with_reducible refine AF (o:=⟨some 61,.slice _ (.tmp 59) none (some (.tmp 60)) none,_,_,_,none⟩) rfl _ _ _ _ _ rfl _ _ _ _ ?_ ?_ ?_ ?_ _ R2'.o ?_);(·rfl);(·rfl);(·rfl);(·rfl))|fail);obtain⟨b2,c2,hv2,k2,k3⟩:=S2.o;injection hv2 with e1 e2 e3;subst e1 e3;have H3:=hid (Ar a ys.length c ys (by rw[<-HN.o];omega) w1 k2 k3.nil0);rw[<-HN.o] at H3;clear e2 k2 k3;refine H3.o.mono ?_;rintro r w3 ⟨v,rfl,hO,hX3⟩;have R3'':=hid (R3.o w3);have HO:=hid hO;have HX3:=hid hX3;have HB3:=hid (hX3.heap HB.o);obtain⟨c0,c1,f0,f1⟩:=Al HB3.o;have HA3:=hid (show∀b i z,w3.cell? (dD b i)=some (.int .u8 z)->b∉[g] from λ b i z hb=>by simpa using Bn HB3.o (λ z=>by simp) (λ z=>by simp) hb);clear hO hX3;go_wp2_with ((with_reducible refine AF (o:=⟨some 69,.slice _ (.tmp 67) (some (.tmp 68)) none none,_,_,_,none⟩) rfl _ _ _ _ _ rfl _ _ _ _ ?_ ?_ ?_ ?_ _ R3''.o ?_);(·rfl);(·rfl);(·rfl);(·rfl));go_ret;have b1:=heap_setCell_same w3 g 1 _ _ (.slice A3 (l-(n+i)) (c-(n+i))) HB3.o;have u1:Upd [g] w3 (w3.setCell (dD g 1) (.slice A3 (l-(n+i)) (c-(n+i)))):=(Upd.refl [g] w3).setCell _ _ (by simp);have S4:=(S3.o.ext HX3.o).upd u1 HA3.o;obtain⟨b4,c4,hv4,k4,k5⟩:=S4;injection hv4 with e1 e2 e3;subst e1 e3;refine⟨_,rfl,(HO.o.upd u1 (λ q hq=> ?_)).low HX.o.size,⟨_,_,by rw[b1,e2];rfl,k4,k5⟩,HX.o.trans ((HX3.o.upd _).trans u1)⟩;have:=(HO.o.lt hq).1;simp;omega
end Go.Proofs.YtdakioiagpkfhaaGreatDoor
