import Derived.Test.YtdakioiagpkfhaaGreatDoorP04
set_option maxRecDepth 99999
set_option maxHeartbeats 0
set_option linter.all false
namespace Go.Proofs.YtdakioiagpkfhaaGreatDoor
open RowKit
open Go.Proofs.Tryz
variable {B e n z:Int} {a:Option Addr} {f:FuncId} {g m:Nat} {k:IntKind} {v y:Value} {w w':World} {ys zs:List Int}
theorem sl1 (w:World) (z:Int) (h0:0<=z) (h1:z<256):Sl (w.alloc (.cells #[.int .u8 z] 5)) (sS w.heap.size 0 1 1) [z]:=
 ⟨_,1,rfl,⟨rfl,Uf _,by unfold maxLen;decide,Wf.one h0 h1,.inr ⟨w.heap.size,0,rfl,λ i hi=>by
  obtain rfl:i=0:=by simp at hi;omega
  simp only[World.cell?,Ub];rfl⟩⟩,.inr ⟨_,_,rfl⟩⟩
def BM (w w':World) (f:Value) (zs:List Int) (n:Int) (i:Nat) (v:Value):Prop:=
 (i=0/\v=f/\w=w')\/(0<i/\AA w' w.heap.size 5 v (bv (zs++leN n i))/\Ext w w')
theorem BM.first (h:Ia w (.slice a m m) zs) (hm:m=zs.length) (hl:m<=1000000) (hz:z=n%256):
  ∃v' w',(Builtin.append_ #[26,26] 26 #[.slice a m m,sS w.heap.size 0 1 1]).run prog (w.alloc (.cells #[.int .u8 z] 5))= .ok v' w'/\BM w w' (.slice a m m) zs n (0+1) v':=by
 obtain⟨v',w',h1,h2,h3⟩:=(h.ext ((Ext.refl w).alloc (.cells #[.int .u8 z] 5))).app (sl1 w z (by omega) (by omega)) (by simp) (by rw[<-hm];simp;omega) w.heap.size (by simp) 26;exact⟨v',w',h1,.inr ⟨by omega,by rw[leN,leN];subst hz;simpa using h2,((Ext.refl w).alloc _).trans h3⟩⟩
theorem BM.more {wr:World} {f:Value} {i:Nat} (ho:AA wr w.heap.size 5 v (bv (zs++leN n i))) (hx:Ext w wr) (hi:i<8) (hl:zs.length<=1000000) (hz:z=n/256^i%256):
  ∃v' w',(Builtin.append_ #[26,26] 26 #[v,sS wr.heap.size 0 1 1]).run prog (wr.alloc (.cells #[.int .u8 z] 5))= .ok v' w'/\BM w w' f zs n (i+1) v':=by
 have hz0:0<=z:=by rw[hz];exact Int.emod_nonneg _ (by omega)
 have hz1:z<256:=by rw[hz];exact Int.emod_lt_of_pos _ (by omega)
 obtain⟨v',w1,h1,h2,h3⟩:=(ho.ext ((Ext.refl wr).alloc (.cells #[.int .u8 z] 5))).app (sl1 wr z hz0 hz1) (by rw[Uc,lL];simp;omega) (by have:=hx.size;simp;omega) 26;exact⟨v',w1,h1,.inr ⟨by omega,by rw[leN,<-hz,<-Ui];exact h2,(ho.ext ((Ext.refl wr).alloc _)).grow_ext h3 (hx.alloc _) (Uf _)⟩⟩
theorem Sl.parts (h:Sl w v zs):∃a m c,v= .slice a m c/\m=zs.length/\m<=c/\c<=2^63-1/\Ia w (.slice a m m) zs/\(Instr.sliceAt 26 (.slice a m c) none (some (iI m)) (some (iI m))).run prog w= .ok (.slice a m m) w:=by
 have hW:=h.wf;obtain⟨a,c,rfl,hr,hp⟩:=h;refine⟨a,_,c,rfl,rfl,hr.2.1,hr.2.2.1,⟨a,rfl,⟨rfl,Uf _,Nat.le_trans hr.2.1 hr.2.2.1,hW,hr.2.2.2.2⟩,?_⟩,Ov a zs.length c hr.2.1 w⟩;rcases hp with⟨rfl,_⟩|hp
 ·left;refine⟨rfl,?_⟩;rcases hr.2.2.2.2 with h0|⟨g,o,h0,_⟩;exact h0;cases h0
 ·exact .inr hp
theorem lays (hf:(m=1/\k= .u8/\f=336)\/(m=2/\k= .u16/\f=335)\/(m=4/\k= .u32/\f=334)\/(m=8/\k= .u64/\f=419)) (h:Sl w v zs) (n:Int) (hn0:0<=n) (hn1:n<256^m) (hl:zs.length<=1000000):
  Calls prog f #[v,.int k n,iI m] w λ r w'=>∃v',r= .returned v'/\AA w' w.heap.size 5 v' (bv (zs++leN n m))/\Ext w w':=by
 obtain⟨a,q,c,rfl,hm,hlc,hcm,hF,hS⟩:=h.parts;rw[<-hm] at hl;have HF:=hid hF;have HM:=hid hm;have HS:=hid hS;obtain⟨B,hB⟩:∃B,B=m:=⟨_,rfl⟩;have HB:=hid hB;clear hF hm hS h hB;rcases hf with⟨rfl,rfl,rfl⟩|⟨rfl,rfl,rfl⟩|⟨rfl,rfl,rfl⟩|⟨rfl,rfl,rfl⟩
 all_goals
  simp only[Nat.reducePow,Int.reducePow] at hn1
  first|go_in|go_in|go_in|go_in
  go_wp2_with ((with_reducible refine AF (o:=⟨some 13,.slice _ (.tmp 8) none (some (.tmp 10)) (some (.tmp 12)),_,_,_,none⟩) rfl _ _ _ _ _ rfl _ _ _ _ ?_ ?_ ?_ ?_ _ HS.o ?_);(·rfl);(·rfl);(·rfl);(·rfl));go_loopw [0,15] (λ v0 v15 wr=>∃i:Nat,i<=B/\v15= iI i/\BM w wr (.slice a q q) zs n i v0) (λ _ v15 _=>B-(intOf v15).toNat)
  case atStart=>exact⟨0,Nat.zero_le _,rfl,.inl ⟨rfl,rfl,rfl⟩⟩
  case round=>
   obtain⟨i,hi,rfl,hL⟩:=hrel;by_cases hlt:i<B
   ·obtain⟨j,hj⟩:∃j,j=i+1:=⟨_,rfl⟩;have HJ:=hid (show j=i+1/\j<=B from⟨hj,by omega⟩);obtain⟨P,hP⟩:∃P:Int,P=256^i:=⟨_,rfl⟩;rw[HB.o] at hlt;have hi8:i=0\/i=1\/i=2\/i=3\/i=4\/i=5\/i=6\/i=7:=by omega
    clear hj hi;rcases hL with⟨rfl,rfl,rfl⟩|⟨h0,ho,hx⟩
    ·clear hP hi8 hlt
     first
      |(obtain⟨v',w',h1,h2⟩:=BM.first (n:=n) (z:=n%256) HF.o HM.o hl rfl
        have R:=hid h1;have N:=hid h2;clear h1 h2;go_wp2_with (at_builtin;first|refine jA rfl (.tmp 18) (.tmp 25) _ rfl _ _ _ rfl rfl R.o ?_|refine jA rfl (.tmp 18) (.tmp 24) _ rfl _ _ _ rfl rfl R.o ?_);go_roundw
        case rel=>exact⟨j,HJ.o.2,by rw[HJ.o.1];go_num,by rw[HJ.o.1];exact N.o⟩
        case measure=>have:=HJ.o;simp[intOf];omega)
      |(obtain⟨v',w',h1,h2⟩:=BM.first (n:=n) (z:=n) HF.o HM.o hl (by omega)
        have R:=hid h1;have N:=hid h2;clear h1 h2;go_wp2_with (at_builtin;first|refine jA rfl (.tmp 18) (.tmp 25) _ rfl _ _ _ rfl rfl R.o ?_|refine jA rfl (.tmp 18) (.tmp 24) _ rfl _ _ _ rfl rfl R.o ?_);go_roundw
        case rel=>exact⟨j,HJ.o.2,by rw[HJ.o.1];go_num,by rw[HJ.o.1];exact N.o⟩
        case measure=>have:=HJ.o;simp[intOf];omega)
    ·have hs:=hx.size;rcases hi8 with rfl|rfl|rfl|rfl|rfl|rfl|rfl|rfl
     all_goals first
      |(exfalso;omega)
      |(obtain⟨v',w',h1,h2⟩:=BM.more (f:= .slice a q q) (z:=n/P%256) ho hx (by omega) (by rw[<-HM.o];exact hl) (by rw[hP])
        simp only[Int.reducePow] at hP;subst hP;have R:=hid h1;have N:=hid h2;clear h1 h2 ho hx;go_wp2_with (at_builtin;first|refine jA rfl (.tmp 18) (.tmp 25) _ rfl _ _ _ rfl rfl R.o ?_|refine jA rfl (.tmp 18) (.tmp 24) _ rfl _ _ _ rfl rfl R.o ?_);go_roundw
        case rel=>exact⟨j,HJ.o.2,by rw[HJ.o.1];go_num,by rw[HJ.o.1];exact N.o⟩
        case measure=>have:=HJ.o;simp[intOf];omega)
      |(obtain⟨v',w',h1,h2⟩:=BM.more (f:= .slice a q q) (z:=n/P) ho hx (by omega) (by rw[<-HM.o];exact hl) (by simp only[Int.reducePow] at hP;subst hP;simp only[Int.reducePow];omega)
        simp only[Int.reducePow] at hP;subst hP;have R:=hid h1;have N:=hid h2;clear h1 h2 ho hx;go_wp2_with (at_builtin;first|refine jA rfl (.tmp 18) (.tmp 25) _ rfl _ _ _ rfl rfl R.o ?_|refine jA rfl (.tmp 18) (.tmp 24) _ rfl _ _ _ rfl rfl R.o ?_);go_roundw
        case rel=>exact⟨j,HJ.o.2,by rw[HJ.o.1];go_num,by rw[HJ.o.1];exact N.o⟩
        case measure=>have:=HJ.o;simp[intOf];omega)
   ·obtain rfl:i=B:=by omega
    have hb:=HB.o;subst hb;rcases hL with⟨h0,_⟩|⟨h0,ho,hx⟩
    ·omega
    ·have HO:=hid ho;have HX:=hid hx;clear ho hx hi hlt h0;go_wp2_with fail;go_ret;exact⟨_,rfl,HO.o,HX.o⟩
theorem lus (hf:(m=1/\k= .u8/\f=258)\/(m=2/\k= .u16/\f=257)\/(m=4/\k= .u32/\f=256)\/(m=8/\k= .u64/\f=387)) (hB:B=256^m) (h:Sl w v zs) (n:Int) (hn0:0<=n) (hn1:n<B) (hl:zs.length<=1000000):
  Calls prog f #[v,.int k n] w λ r w'=>∃v',r= .returned v'/\AA w' w.heap.size 5 v' (bv (zs++leN n m))/\Ext w w':=by
 have H:=hid (λ F HF=>lays (f:=F) (k:=k) (m:=m) HF h n hn0 (hB▸hn1) hl);clear h hB hn1;rcases hf with⟨rfl,rfl,rfl⟩|⟨rfl,rfl,rfl⟩|⟨rfl,rfl,rfl⟩|⟨rfl,rfl,rfl⟩
 all_goals
  first|go_in|go_in|go_in|go_in
  go_wp2_with fail;refine(H.o _ (by simp)).mono ?_;rintro r w1 ⟨v',rfl,hO,hX⟩;have HO:=hid hO;have HX:=hid hX;clear hO hX;go_wp2_with fail;go_ret;exact⟨_,rfl,HO.o,HX.o⟩
section
variable {w:World} {v:Value} {zs:List Int}
theorem lu8 (h:Sl w v zs) (n:Int) (hn0:0<=n) (hn1:n<256) (hl:zs.length<=1000000):
  Calls prog 258 #[v,.int .u8 n] w λ r w'=>∃v',r= .returned v'/\AA w' w.heap.size 5 v' (bv (zs++leN n 1))/\Ext w w':=lus (.inl ⟨rfl,rfl,rfl⟩) rfl h n hn0 hn1 hl
theorem KN (h:Sl w v zs) (n:Int) (hn0:0<=n) (hn1:n<65536) (hl:zs.length<=1000000):
  Calls prog 257 #[v,.int .u16 n] w λ r w'=>∃v',r= .returned v'/\AA w' w.heap.size 5 v' (bv (zs++leN n 2))/\Ext w w':=lus (.inr<| .inl ⟨rfl,rfl,rfl⟩) rfl h n hn0 hn1 hl
theorem KM (h:Sl w v zs) (n:Int) (hn0:0<=n) (hn1:n<4294967296) (hl:zs.length<=1000000):
  Calls prog 256 #[v,.int .u32 n] w λ r w'=>∃v',r= .returned v'/\AA w' w.heap.size 5 v' (bv (zs++leN n 4))/\Ext w w':=lus (.inr<| .inr<| .inl ⟨rfl,rfl,rfl⟩) rfl h n hn0 hn1 hl
theorem Tb (h:Sl w v zs) (n:Int) (hn0:0<=n) (hn1:n<18446744073709551616) (hl:zs.length<=1000000):
  Calls prog 387 #[v,.int .u64 n] w λ r w'=>∃v',r= .returned v'/\AA w' w.heap.size 5 v' (bv (zs++leN n 8))/\Ext w w':=lus (.inr<| .inr<| .inr<|⟨rfl,rfl,rfl⟩) rfl h n hn0 hn1 hl
end
theorem ltext (h:Sl w v zs) (s:ByteArray) (hs:s.size<65536) (hl:zs.length<=100000):
  Calls prog 386 #[v,.string s] w λ r w'=>∃v',r= .returned v'/\AA w' w.heap.size 5 v' (bv (zs++leN s.size 2++sb s))/\Ext w w':=by
 have H:=hid (KN h s.size (by omega) (by omega) (by omega));clear h;go_in;go_wp2_with fail;refine H.o.mono ?_;rintro r w1 ⟨v',rfl,hO,hX⟩;obtain⟨v2,w2,h1,h2,h3⟩:=hO.appStr s (by rw[Uc,lL];omega) hX.size 26;have R:=hid h1;have N:=hid h2;have HX:=hid (hO.grow_ext h3 hX (Uf _));clear h1 h2 h3 hO hX;go_wp2_with (at_builtin;refine jA rfl (.tmp 9) (.tmp 10) _ rfl _ _ _ rfl rfl R.o ?_);go_ret;exact⟨_,rfl,N.o,HX.o⟩
theorem Sa (h:Sl w v zs) (hy:Sl w y ys) (hs:ys.length<65536) (hl:zs.length<=100000):
  Calls prog 331 #[v,y] w λ r w'=>∃v',r= .returned v'/\AA w' w.heap.size 5 v' (bv (zs++leN ys.length 4++ys))/\Ext w w':=by
 have H:=hid (KM h ys.length (by omega) (by omega) (by omega));have HY:=hid hy;obtain⟨b,c,rfl,k2,k3⟩:=hy;clear h k2 k3;go_in;go_wp2_with fail;refine H.o.mono ?_;rintro r w1 ⟨v',rfl,hO,hX⟩;obtain⟨v2,w2,h1,h2,h3⟩:=hO.app (HY.o.ext hX) (by rw[Uc,lL];omega) hX.size 26;have R:=hid h1;have N:=hid h2;have HX:=hid (hO.grow_ext h3 hX (Uf _));clear h1 h2 h3 hO hX;go_wp2_with (at_builtin;refine jA rfl (.tmp 9) (.tmp 10) _ rfl _ _ _ rfl rfl R.o ?_);go_ret;exact⟨_,rfl,N.o,HX.o⟩
def msg (k t:Int) (b:List Int):List Int:=leN (7+b.length) 4++leN k 1++leN t 2++b
theorem Cw (k t:Int) (b:List Int):(msg k t b).length=7+b.length:=by simp[msg,lL];omega
theorem IB (k t:Int) {b:List Int} (h:Wf b):Wf (msg k t b):=(((AQ _ _).app (AQ _ _)).app (AQ _ _)).app h
theorem SW (hy:Sl w y ys) (k t:Int) (hk0:0<=k) (hk1:k<256) (ht0:0<=t) (ht1:t<65536) (hs:ys.length<60000):
  Calls prog 159 #[.int .u8 k,.int .u16 t,y] w λ r w'=>∃v',r= .returned v'/\AA w' w.heap.size 5 v' (bv (msg k t ys))/\Ext w w':=by
 have HY:=hid hy;have H:=hid (KM (Sl.nil w) (7+ys.length) (by omega) (by omega) (by simp));obtain⟨b,c,rfl,k2,k3⟩:=hy;clear k2 k3;go_in;go_wp2_with fail;refine H.o.mono ?_;rintro r w1 ⟨v1,rfl,hO1,hX1⟩;have H2:=hid (lu8 (hO1.sl (AQ _ _)) k hk0 hk1 (by rw[List.nil_append,lL];omega));have HX1:=hid hX1;clear hO1 hX1;go_wp2_with fail;refine H2.o.mono ?_;rintro r w2 ⟨v2,rfl,hO2,hX2⟩;have H3:=hid (KN (hO2.sl ((AQ _ _).app (AQ _ _))) t ht0 ht1 (by simp[lL]));have HX2:=hid (HX1.o.trans hX2);clear hO2 hX2;go_wp2_with fail;refine H3.o.mono ?_;rintro r w3 ⟨v3,rfl,hO3,hX3⟩;have hX:=HX2.o.trans hX3;obtain⟨v4,w4,h1,h2,h3⟩:=hO3.app (HY.o.ext hX) (by simp[lL];omega) hX3.size 26;have R:=hid h1;have N:=hid (show AA w4 w.heap.size 5 v4 (bv (msg k t ys)) from AA.low h2 (HX2.o.size));have HX:=hid (hO3.grow_ext h3 hX (HX2.o.size));clear h1 h2 h3 hO3 hX hX3;go_wp2_with (at_builtin;refine jA rfl (.tmp 17) (.tmp 18) _ rfl _ _ _ rfl rfl R.o ?_);go_ret;exact⟨_,rfl,N.o,HX.o⟩
theorem Bw (a:Option Addr) (n len c:Nat) (hn:n<=len) (hc:len<=c) (w:World):(Instr.sliceAt 26 (.slice a len c) none (some (iI n)) none).run prog w= .ok (.slice a n c) w:=by
 have e:∀x:Option Addr,x.map (λ y=>y.add 0)=x:=λ x=>by cases x<;>simp[Addr.add]
 obtain⟨i0,hi,hz0,hz1,hz2⟩:=info_parts BR;have:n<=c:=by omega
 simp[Instr.sliceAt,Instr.slice,Instr.sliceBounds,Instr.sliceBound,Sem.run_bind,run_underlying underlying26,asIntOf,sizeOf,e,this]
theorem Bd (a:Option Addr) (n len c:Nat) (hn:n<=len) (w:World):(Instr.sliceAt 26 (.slice a len c) (some (iI n)) none none).run prog w= .ok (.slice (if c=n then a else a.map (·.add n)) (len-n) (c-n)) w:=by
 obtain⟨i0,hi,hz0,hz1,hz2⟩:=info_parts BR;simp[Instr.sliceAt,Instr.slice,Instr.sliceBounds,Instr.sliceBound,Sem.run_bind,run_underlying underlying26,asIntOf,hn,run_sizeOf w hi,hz1,show prog.cellsOf 5=1 by kernel_rfl]
theorem Sl.take_drop {c:Nat} (h:AI .u8 w a zs.length c zs) (hp:Bj a c) (n:Nat) (hn:n<=zs.length):
  Sl w (.slice a n c) (zs.take n)/\Sl w (.slice (if c=n then a else a.map (·.add n)) (zs.length-n) (c-n)) (zs.drop n):=by
 have e1:(zs.take n).length=n:=by rw[Ul];omega
 have e2:(zs.drop n).length=zs.length-n:=List.length_drop ..;have hc:=h.2.1;constructor
 ·refine⟨a,c,by rw[e1],?_,hp⟩;rw[e1];exact h.head hn
 ·refine⟨_,c-n,by rw[e2],?_,?_⟩
  ·rw[e2];rcases hp with⟨rfl,rfl⟩|⟨g,o,rfl⟩
   ·obtain rfl:n=0:=by omega
    simpa using h
   ·refine h.cut hn _ (λ hlt=> ?_);rw[if_neg (by omega)];simp[Addr.add]
  ·rcases hp with⟨rfl,rfl⟩|⟨g,o,rfl⟩
   ·left;simp
   ·right;by_cases hcn:c=n
    ·rw[if_pos hcn];exact⟨_,_,rfl⟩
    ·rw[if_neg hcn];simp only[Option.map_some,Addr.add];split
     ·exact⟨_,_,rfl⟩
     ·exact⟨_,_,rfl⟩
theorem Sl.upd {S:List Nat} (h:Sl w v zs) (hx:Upd S w w') (hs:∀b i z,w.cell? (dD b i)=some (.int .u8 z)->b∉S):Sl w' v zs:=by
 obtain⟨a,c,h1,h2,h3⟩:=h;exact⟨a,c,h1,h2.upd hx hs,h3⟩
def LrW (w:World) (g:Nat) (e:Int) (zs:List Int):Prop:=
 ∃v,w.heap[g]?=oC #[v,iI e] 289/\Sl w v zs
theorem LrW.ext (h:LrW w g e zs) (hx:Ext w w'):LrW w' g e zs:=by
 obtain⟨v,h1,h2⟩:=h;exact⟨v,hx.heap h1,h2.ext hx⟩
theorem LrW.lt (h:LrW w g e zs):g<w.heap.size:=by obtain⟨v,h1,_⟩:=h;exact lH h1
theorem LrW.wf (h:LrW w g e zs):Wf zs:=by obtain⟨v,_,h2⟩:=h;exact h2.wf
theorem LrW.apart (h:LrW w g e zs):∀b i z,w.cell? (dD b i)=some (.int .u8 z)->b∉[g]:=by
 obtain⟨v,h1,a,c,rfl,_⟩:=h;intro b i z hb;simpa using Bn h1 (by simp) (by simp) hb
theorem I7 (h:Sl w v zs) (hl:zs.length<=1000000):
  Calls prog 98 #[v] w λ r w'=>∃g,r= .returned (pP g 0)/\LrW w' g 0 zs/\w.heap.size<=g/\Ext w w':=by
 have HW:=hid h.wf;obtain⟨a,c,rfl,hr,hp⟩:=h;have H:=hid (Ar a _ c zs hl w hr hp.nil0);clear hr hp;go_in;go_wp2_with fail;refine H.o.mono ?_;rintro r w1 ⟨v,rfl,hO,hX⟩;have HS:=hid (hO.sl HW.o);obtain⟨b,d,rfl,-⟩:=HS.o;have HX:=hid hX;clear hO hX;go_wp2_with fail;go_ret;exact⟨_,rfl,⟨_,Ub _ _,HS.o.ext ((Ext.refl _).alloc _)⟩,HX.o.size,HX.o.trans ((Ext.refl _).alloc _)⟩
theorem OS (h:LrW w g 0 zs) (n:Nat) (hn:n<=zs.length):
  Calls prog 236 #[pP g 0,iI n] w λ r w'=>∃v,r= .returned v/\Sl w' v (zs.take n)/\LrW w' g 0 (zs.drop n)/\Upd [g] w w':=by
 have HA:=hid h.apart;obtain⟨v,h1,a,c,rfl,hr,hp⟩:=h;obtain⟨c0,c1,f0,f1⟩:=Al h1;have hlc:=hr.2.1;have hcm:=hr.2.2.1;obtain⟨hs1,hs2⟩:=Sl.take_drop hr hp n hn;have R1:=hid (Bw a n zs.length c hn hlc w);have R2:=hid (Bd a n zs.length c hn w);have H1:=hid h1;have S1:=hid hs1;have S2:=hid hs2;obtain⟨A,hA⟩:∃A,A=(if c=n then a else a.map (·.add n)):=⟨_,rfl⟩;rw[<-hA] at R2 S2;obtain⟨m,hm⟩:∃m,m=zs.length:=⟨_,rfl⟩;rw[<-hm] at hn hlc c0 R1 R2 S2;have hd':decide (m<n)=false:=by simp;omega
 unfold maxLen at hcm;clear h1 hr hp hs1 hs2 hA hm;go_in;go_wp2_with (first|((with_reducible refine AF (o:=⟨some 25,.slice _ (.tmp 23) none (some (.tmp 24)) none,_,_,_,none⟩) rfl _ _ _ _ _ rfl _ _ _ _ ?_ ?_ ?_ ?_ _ R1.o ?_);(·rfl);(·rfl);(·rfl);(·rfl))|((with_reducible refine AF (o:=⟨some 32,.slice _ (.tmp 30) (some (.tmp 31)) none none,_,_,_,none⟩) rfl _ _ _ _ _ rfl _ _ _ _ ?_ ?_ ?_ ?_ _ R2.o ?_);(·rfl);(·rfl);(·rfl);(·rfl)));go_ret;have b1:=heap_setCell_same w g 0 _ _ (.slice A (m-n) (c-n)) H1.o;have u1:Upd [g] w (w.setCell (dD g 0) (.slice A (m-n) (c-n))):=(Upd.refl [g] w).setCell _ _ (by simp);exact⟨_,rfl,S1.o.upd u1 HA.o,⟨_,by rw[b1];rfl,S2.o.upd u1 HA.o⟩,u1⟩
def lv:List Int->Int
 |[]=>0
 |z::l=>z+256*lv l
theorem OJ (a b:List Int):lv (a++b)=lv a+256^a.length*lv b:=by
 induction a with
 |nil=>simp[lv]
 |cons z a ih=>simp only[List.cons_append,lv,ih,Un,Int.pow_succ];rw[Int.mul_add,<-Int.mul_assoc,Int.mul_comm 256 (256^a.length),Int.add_assoc]
theorem SV {l:List Int} (h:Wf l):0<=lv l/\lv l<256^l.length:=by
 induction l with
 |nil=>simp[lv]
 |cons z l ih=>
  have h1:=GU (h z (by simp));have h2:=ih (λ y hy=>h y (by simp[hy]));simp only[lv,Un,Int.pow_succ];omega
theorem SU (n:Int) (h0:0<=n):∀k,lv (leN n k)=n%256^k
 |0=>by simp[leN,lv]
 |k+1=>by
  rw[leN,OJ,lL,SU n h0 k];simp only[lv,Int.mul_zero,Int.add_zero,Int.pow_succ];rw[Int.emod_def n (256^k*256),Int.emod_def n (256^k),Int.emod_def (n/256^k) 256,<-Int.ediv_ediv_of_nonneg (Int.pow_nonneg (by omega)),Int.mul_sub,<-Int.mul_assoc];omega
theorem TN (i:Nat) (hi:i<=7):∃P:Nat,P<=72057594037927936/\P=2^(8*i)/\(256:Int)^i=(P:Int):=
 ⟨2^(8*i),Nat.le_trans (Nat.pow_le_pow_right (n:=2) (by omega) (show 8*i<=56 by omega)) (by decide),rfl,by rw[show(256:Int)=((2^8:Nat):Int) from rfl,<-Int.natCast_pow,<-Nat.pow_mul]⟩
theorem or_le (t z:Int) (i:Nat) (hi:i<=7) (h0:0<=t) (h1:t<256^i) (hz0:0<=z) (hz:z<=255):bits .or .u64 t (z*256^i)=t+z*256^i:=by
 obtain⟨m,rfl⟩:=Int.eq_ofNat_of_zero_le h0;obtain⟨k,rfl⟩:=Int.eq_ofNat_of_zero_le hz0;obtain⟨P,hP,hPe,hPi⟩:=TN i hi;rw[hPi] at h1|-
 have hm:m<2^(8*i):=by rw[<-hPe];omega
 have hkp:k*P<=255*72057594037927936:=Nat.mul_le_mul (by omega) hP;rw[<-Int.natCast_mul];have hb:bits .or .u64 (m:Int) ((k*P:Nat):Int)=IntKind.u64.wrap ((BitVec.ofInt 64 (m:Int)|||BitVec.ofInt 64 ((k*P:Nat):Int)).toNat:Nat):=rfl;have h2:(BitVec.ofInt 64 (m:Int)).toNat=m:=by rw[BitVec.toNat_ofInt];omega
 have h3:(BitVec.ofInt 64 ((k*P:Nat):Int)).toNat=k*P:=by rw[BitVec.toNat_ofInt];omega
 have h4:m|||k*P=m+k*P:=by
  have:=Nat.two_pow_add_eq_or_of_lt hm k;rw[Nat.or_comm,hPe,Nat.mul_comm k,<-this,Nat.add_comm]
 rw[hb,BitVec.toNat_or,h2,h3,h4];generalize k*P=q at*;rw[IntWalk.u64_in _ (by omega)];omega
theorem takes {n:Nat} (hf:(n=1/\k= .u8/\f=237)\/(n=2/\k= .u16/\f=238)\/(n=4/\k= .u32/\f=148)\/(n=8/\k= .u64/\f=425)) (h:LrW w g 0 zs) (hz:n<=zs.length):
  Calls prog f #[pP g 0,iI n] w λ r w'=>r= .returned (.int k (lv (zs.take n)))/\LrW w' g 0 (zs.drop n)/\Upd [g] w w':=by
 have H:=hid (OS h n hz);have hb:0<=lv (zs.take n)/\lv (zs.take n)<256^n:=by
  have:=SV (l:=zs.take n) (λ z hz=>h.wf z (List.mem_of_mem_take hz));rw[Ul,Nat.min_eq_left hz] at this;exact this
 obtain⟨hb0,hb1⟩:=hb;have he:(zs.take n).length=n:=by rw[Ul];omega
 generalize zs.take n=xs at*;generalize zs.drop n=ys at*;have HE:=hid he;clear h he hz;rcases hf with⟨rfl,rfl,rfl⟩|⟨rfl,rfl,rfl⟩|⟨rfl,rfl,rfl⟩|⟨rfl,rfl,rfl⟩
 all_goals
  simp only[Nat.reducePow,Int.reducePow] at hb1
  first|go_in|go_in|go_in|go_in
  go_wp2_with fail;refine H.o.mono ?_;rintro r w1 ⟨v,rfl,hS,hL,hU⟩;obtain⟨a,c,rfl,hr,hp⟩:=hS;rw[HE.o] at hr|-
  obtain⟨gb,o,rfl,hcell⟩:∃gb o,a=some ⟨gb,o,none⟩/\∀i,i<xs.length->w1.cell? (dD gb (o+i))=some (.int .u8 (xs.getD i 0)):=by
   rcases hr.2.2.2.2 with h0|h0
   ·omega
   ·rw[HE.o];exact h0
  have HC:=hid hcell;have HW:=hid (show Wf xs from hr.2.2.2.1);have HN:=hid (show LrW w1 g 0 _/\Upd [g] w w1 from⟨hL,hU⟩);clear hr hp hcell hL hU;go_wp2_with fail;go_loop [5,12] (λ v5 v12=>∃i:Nat,i<=xs.length/\v12= iI i/\v5= .int .u64 (lv (xs.take i))) (λ _ v12=>xs.length-(intOf v12).toNat)
  case atStart=>exact⟨0,by omega,rfl,by simp[lv]⟩
  case round=>
   obtain⟨i,hi,rfl,rfl⟩:=hrel;have hx:=HE.o;by_cases hl:i<xs.length
   ·have q:=HC.o i hl;have HV:=hid (show lv (xs.take (i+1))=lv (xs.take i)+xs.getD i 0*256^i by
     rw[List.take_succ_eq_append_getElem hl,OJ,Ul,Nat.min_eq_left (by omega)];simp[List.getD,Ud hl,lv,Int.mul_comm])
    have hv:=SV (l:=xs.take i) (λ z hz=>HW.o z (List.mem_of_mem_take hz));rw[Ul,Nat.min_eq_left (by omega)] at hv;have hzb:=GU (HW.o (xs.getD i 0) (by simp[List.getD,Ud hl]));generalize xs.getD i 0=z at*;generalize lv (xs.take i)=t at*;obtain⟨hv0,hv1⟩:=hv;obtain⟨hz0,hz1⟩:=hzb;have hor:=or_le t z i (by omega) hv0 hv1 hz0 hz1;rw[hx] at hl;have HX:=hid hx;obtain⟨j,hj⟩:∃j,j=i+1:=⟨_,rfl⟩;have HJ:=hid hj;clear hx hi hj;have:i=0\/i=1\/i=2\/i=3\/i=4\/i=5\/i=6\/i=7:=by omega
    rcases this with rfl|rfl|rfl|rfl|rfl|rfl|rfl|rfl
    all_goals first
     |(exfalso;omega)
     |(clear hl
       simp only[Nat.reducePow,Int.reducePow,Int.pow_zero,Int.mul_one,Nat.add_zero] at hor hv1 q;go_wp2_with fail;go_round
       case rel=>exact⟨j,by rw[HX.o,HJ.o];omega,by rw[HJ.o];go_num,by rw[HJ.o,HV.o];first|rfl|simp⟩
       case measure=>rw[HX.o];simp[intOf])
   ·obtain rfl:i=xs.length:=by omega
    rw[List.take_of_length_le (Uf _),hx];clear hi hl hx;go_wp2_with fail;go_ret;exact⟨rfl,HN.o⟩
theorem lrs {n:Nat} (hf:(n=1/\k= .u8/\f=149)\/(n=2/\k= .u16/\f=150)\/(n=4/\k= .u32/\f=99)\/(n=8/\k= .u64/\f=393)) (hB:B=256^n) {x:Int} (h:LrW w g 0 (leN x n++zs)) (hn0:0<=x) (hn1:x<B):
  Calls prog f #[pP g 0] w λ r w'=>r= .returned (.int k x)/\LrW w' g 0 zs/\Upd [g] w w':=by
 have e1:(leN x n++zs).take n=leN x n:=by rw[List.take_left' (lL x n)]
 have e2:(leN x n++zs).drop n=zs:=by rw[List.drop_left' (lL x n)]
 have e3:lv (leN x n)=x:=by rw[SU x hn0 n];exact Int.emod_eq_of_lt hn0 (hB▸hn1)
 have HT:=hid (λ F HF=>(takes (f:=F) (k:=k) (n:=n) HF h (by rw[Uc,lL];omega)));rw[e1,e2,e3] at HT;clear h e1 e2 e3 hn0 hn1 hB;rcases hf with⟨rfl,rfl,rfl⟩|⟨rfl,rfl,rfl⟩|⟨rfl,rfl,rfl⟩|⟨rfl,rfl,rfl⟩
 all_goals
  first|go_in|go_in|go_in|go_in
  go_wp2_with fail;refine(HT.o _ (by simp)).mono ?_;rintro r w1 ⟨rfl,hO,hX⟩;have HO:=hid hO;have HX:=hid hX;clear hO hX;go_wp2_with fail;go_ret;exact⟨rfl,HO.o,HX.o⟩
section
variable {w:World} {g:Nat} {n:Int} {zs:List Int}
theorem lr8 (h:LrW w g 0 (leN n 1++zs)) (hn0:0<=n) (hn1:n<256):
  Calls prog 149 #[pP g 0] w λ r w'=>r= .returned (.int .u8 n)/\LrW w' g 0 zs/\Upd [g] w w':=lrs (.inl ⟨rfl,rfl,rfl⟩) rfl h hn0 hn1
theorem OM (h:LrW w g 0 (leN n 2++zs)) (hn0:0<=n) (hn1:n<65536):
  Calls prog 150 #[pP g 0] w λ r w'=>r= .returned (.int .u16 n)/\LrW w' g 0 zs/\Upd [g] w w':=lrs (.inr<| .inl ⟨rfl,rfl,rfl⟩) rfl h hn0 hn1
theorem ID (h:LrW w g 0 (leN n 4++zs)) (hn0:0<=n) (hn1:n<4294967296):
  Calls prog 99 #[pP g 0] w λ r w'=>r= .returned (.int .u32 n)/\LrW w' g 0 zs/\Upd [g] w w':=lrs (.inr<| .inr<| .inl ⟨rfl,rfl,rfl⟩) rfl h hn0 hn1
theorem lr64 (h:LrW w g 0 (leN n 8++zs)) (hn0:0<=n) (hn1:n<18446744073709551616):
  Calls prog 393 #[pP g 0] w λ r w'=>r= .returned (.int .u64 n)/\LrW w' g 0 zs/\Upd [g] w w':=lrs (.inr<| .inr<| .inr<|⟨rfl,rfl,rfl⟩) rfl h hn0 hn1
end
theorem Sl.str (h:Sl w v zs):(convert 26 9 v).run prog w= .ok (.string (strOfNums zs)) w:=by
 obtain⟨a,c,rfl,h2,h3⟩:=h;rcases h3 with⟨rfl,rfl⟩|⟨g,o,rfl⟩
 ·have hz:zs=[]:=List.eq_nil_of_length_eq_zero (by have:=h2.2.1;omega);subst hz;exact run_convert_bytes_nil w 26 5 underlying26 underlying5 0 0 9 underlying9
 ·rcases h2.2.2.2.2 with h0|⟨g',o',e,hc⟩
  ·have hz:zs=[]:=List.eq_nil_of_length_eq_zero h0;subst hz;exact run_convert_bytes_arg w 26 5 underlying26 underlying5 g o 0 c [] rfl (λ i hi=>by simp at hi) 9 underlying9
  ·injection e with e;injection e with e1 e2;subst e1 e2;exact run_convert_bytes_arg w 26 5 underlying26 underlying5 g o zs.length c zs rfl (λ i hi=>by
    first|exact hc i hi|(rw[hc i hi];simp[List.getD,Ud hi])) 9 underlying9
theorem OK {s:ByteArray} (h:LrW w g 0 (leN s.size 2++(sb s++zs))) (hs:s.size<65536):
  Calls prog 344 #[pP g 0] w λ r w'=>r= .returned (.string s)/\LrW w' g 0 zs/\Upd [g] w w':=by
 have H:=hid (OM h (by omega) (by omega));clear h;go_in;go_wp2_with fail;refine H.o.mono ?_;rintro r w1 ⟨rfl,hO,hX⟩;have H2:=hid (OS hO s.size (by rw[Uc,Ab];omega));have HX:=hid hX;clear hO hX;go_wp2_with fail;refine H2.o.mono ?_;rintro r w2 ⟨v,rfl,hS,hL,hU⟩;rw[List.take_left' (Ab s)] at hS;rw[List.drop_left' (Ab s)] at hL;have R:=hid hS.str;have HL:=hid hL;have HU:=hid (HX.o.trans hU);rw[VD] at R;clear hS hL hU;have RR:=R.o;go_wp2_with fail;go_ret;exact⟨rfl,HL.o,HU.o⟩
theorem OL (h:LrW w g 0 (leN ys.length 4++(ys++zs))) (hs:ys.length<=1024):
  Calls prog 347 #[pP g 0,iI 1024] w λ r w'=>∃v,r= .returned v/\AA w' w.heap.size 5 v (bv ys)/\LrW w' g 0 zs/\Upd [g] w w':=by
 have H:=hid (ID h (by omega) (by omega));clear h;have hd:decide ((1024:Int)<(ys.length:Int))=false:=by simp;omega
 go_in;go_wp2_with fail;refine H.o.mono ?_;rintro r w1 ⟨rfl,hO,hX⟩;have H2:=hid (OS hO ys.length (by rw[Uc];omega));have HX:=hid hX;obtain⟨v0,hb,-⟩:=hO;obtain⟨c0,c1,f0,f1⟩:=Al hb;clear hX hb;go_wp2_with fail;refine H2.o.mono ?_;rintro r w2 ⟨v,rfl,hS,hL,hU⟩;rw[List.take_left' rfl] at hS;rw[List.drop_left' rfl] at hL;obtain⟨a,c,rfl,hr,hp⟩:=hS;have H3:=hid (Ar a _ c ys (by omega) w2 hr hp.nil0);have HL:=hid hL;have HU:=hid (HX.o.trans hU);clear hr hp hL hU;go_wp2_with fail;refine H3.o.mono ?_;rintro r w3 ⟨v,rfl,hO,hX⟩;have HO:=hid hO;have HX3:=hid hX;clear hO hX;go_wp2_with fail;go_ret;exact⟨_,rfl,HO.o.low HU.o.size,HL.o.ext HX3.o,HU.o.trans (HX3.o.upd _)⟩
theorem lend (h:LrW w g 0 []):
  Calls prog 152 #[pP g 0] w λ r w'=>r= .returned (iI 0)/\w=w':=by
 obtain⟨v,hb,a,c,rfl,-⟩:=h;obtain⟨c0,c1,f0,f1⟩:=Al hb;clear hb;go_in;go_wp2_with fail;go_ret;exact⟨rfl,rfl⟩
end Go.Proofs.YtdakioiagpkfhaaGreatDoor
