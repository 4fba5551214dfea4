import Derived.Test.YtdakioiagpkfhaaGreatDoorP00
import Derived.Maps.AppendAt
import Derived.Deep.AppendSrc
import Derived.Laws.AppendOwn
set_option maxRecDepth 99999
set_option maxHeartbeats 0
set_option linter.all false
namespace Go.Proofs.YtdakioiagpkfhaaGreatDoor
open ChangeShapes WideShapes RowKit
open Go.Proofs.Tryz
variable {P:Program} {S:List Nat} {a:Option Addr} {base cap g i len:Nat} {e t:TypeId} {k:IntKind} {v:Value} {w w':World} {xs:List Value} {zs:List Int}
def AI (k:IntKind) (w:World) (a:Option Addr) (len cap:Nat) (zs:List Int):Prop:=
 zs.length=len/\len<=cap/\cap<=maxLen/\(∀z∈zs,(Lit.int k z).wf=true)/\
  (len=0\/∃g o,a=some ⟨g,o,none⟩/\∀i,i<len->w.cell? (dD g (o+i))=some (.int k (zs.getD i 0)))
theorem AI.of_trod {H:Type} {enc:TypeId×Value->H} {W:World} {d:DataW H} {p:List MemPlace} (ht:P.underlying t=some (.slice e)) (he:P.underlying e=some (.int k)) (hc:P.cellsOf e=1) (h:DataW.Trod enc P W 0 (λ _=>true) true t (.slice a len cap) d p):∃zs,AI k W a len cap zs:=by
 obtain⟨fuel,hf⟩:=h;rcases open_ints ht he hc hf with⟨hcs,_⟩|⟨x,l,c,zs,hcs,_,hl,hm,hz,_,hcell,hwz⟩
 ·simp[Value.cells] at hcs;obtain⟨rfl,rfl,rfl⟩:=hcs;exact⟨[],rfl,by omega,by unfold maxLen;omega,by simp,.inl rfl⟩
 ·simp[Value.cells] at hcs;obtain⟨rfl,rfl,rfl⟩:=hcs;simp only[if_true] at hz;refine⟨zs.take len,by simp;omega,hl,hm,λ z hzm=>hwz z (List.mem_of_mem_take hzm),?_⟩;rcases Nat.eq_zero_or_pos len with h0|h0
  ·exact .inl h0
  ·obtain⟨b,off,rfl,hc2⟩:=ints_at hcell (by omega);refine .inr ⟨b,off,rfl,λ i hi=> ?_⟩;have h1:=hc2 i (by omega);rw[h1]
   congr 2
   simp[hi]
theorem AI.ext (h:AI k w a len cap zs) (hx:Ext w w'):AI k w' a len cap zs:=by
 obtain⟨h1,h2,h3,h4,h5⟩:=h;refine⟨h1,h2,h3,h4,?_⟩;rcases h5 with h5|⟨g,o,h6,h7⟩
 ·exact .inl h5
 ·exact .inr ⟨g,o,h6,λ i hi=>hx.cell (h7 i hi)⟩
theorem AI.at_ (h:AI k w a len cap zs) (hi:i<len):
  ∃g o,a=some ⟨g,o,none⟩/\w.cell? (dD g (o+i))=some (.int k (zs.getD i 0)):=by
 rcases h.2.2.2.2 with h5|⟨g,o,h6,h7⟩
 ·omega
 ·exact⟨g,o,h6,h7 i hi⟩
theorem GU {n:Int} (h:(Lit.int .u8 n).wf=true):0<=n/\n<=255:=by
 simpa [Lit.wf,IntKind.min,IntKind.max,IntKind.signed,IntKind.bits] using h
def AA (w:World) (base:Nat) (e:TypeId) (v:Value) (xs:List Value):Prop:=w.ownsRow base e 1 v xs.length xs
theorem AA.nil (w:World) (base:Nat) (e:TypeId):AA w base e (nN) []:=World.ownsRow_nil _ _ _ _
theorem AA.form (h:AA w base e v xs):(v= nN/\xs=[])\/
  ∃g cap cur,v= sS g 0 xs.length cap/\base<=g/\xs.length<=cap/\cap<=maxLen/\w.heap[g]?=oC cur e/\cur.size=cap/\cur.toList.take xs.length=xs:=by
 rcases h.2 with⟨hv,h0⟩|⟨g,cap,cur,hv,hb,hg,hn,hm,hs,ht⟩
 ·exact .inl ⟨hv,List.eq_nil_of_length_eq_zero h0⟩
 ·exact .inr ⟨g,cap,cur,hv,hb,hn,hm,hg,by simpa using hs,by simpa using ht⟩
theorem AA.cell (h:AA w base e v xs) (hi:i<xs.length):
  ∃g cap,v= sS g 0 xs.length cap/\base<=g/\g<w.heap.size/\xs.length<=cap/\cap<=maxLen/\w.cell? (dD g i)=some xs[i]/\w.frozen? (dD g i)=false:=by
 rcases h.form with⟨_,h0⟩|⟨g,cap,cur,hv,hb,hn,hm,hg,hs,ht⟩
 ·rw[h0] at hi;simp at hi
 ·refine⟨g,cap,hv,hb,lH hg,hn,hm,?_,fO hg i⟩;rw[cO hg i];have h1:(cur.toList.take xs.length)[i]?=cur[i]?:=by rw[List.getElem?_take,if_pos hi];simp
  rw[<-h1,ht,Ud hi]
theorem AA.ext (h:AA w base e v xs) (hx:Ext w w'):AA w' base e v xs:=by
 refine⟨h.1,?_⟩;rcases h.2 with hn|⟨g,cap,cur,hv,hb,hg,rest⟩
 ·exact .inl hn
 ·exact .inr ⟨g,cap,cur,hv,hb,hx.heap hg,rest⟩
theorem AA.upd (h:AA w base e v xs) (hx:Upd S w w') (hs:∀g,v.ownBlock=some g->g∉S):AA w' base e v xs:=by
 refine⟨h.1,?_⟩;rcases h.2 with hn|⟨g,cap,cur,hv,hb,hg,rest⟩
 ·exact .inl hn
 ·exact .inr ⟨g,cap,cur,hv,hb,hx.heap hg (hs g (by rw[hv];rfl)),rest⟩
theorem AA.lt (h:AA w base e v xs) (hg:v.ownBlock=some g):base<=g/\g<w.heap.size:=World.ownsRow.lt h g hg
theorem AA.append1 {ty:TypeId} (h:AA w base e v xs) (z:Value) (bytes:Nat) (ht:P.underlying t=some (.slice e)) (hinfo:(P.info? e).map (λ i=>(i.zero,i.size,i.bytes))=some (some z,1,bytes)) (hz:z.cells.size=1) (x:Value) (hx1:x.oneCell'=true) (h63:xs.length+1<=maxLen) (hby:(xs.length+1)*bytes<=140737488355328) (hb:base<=w.heap.size):
  ∃v' w',(Builtin.append_ #[t,t] ty #[v,sS w.heap.size 0 1 1]).run P (w.alloc (.cells #[x] e))= .ok v' w'/\AA w' base e v' (xs++[x])/\
   (w.alloc (.cells #[x] e)).grownBy w' v.ownBlock/\(v'.ownBlock=v.ownBlock\/v'.ownBlock=some (w.heap.size+1)):=by
 obtain⟨i0,hi,hz0,hz1,hz2⟩:=info_parts hinfo;obtain⟨v',w',hrun,hown,hg,_,h5⟩:=run_append_own_at (P:=P) (w.alloc (.cells #[x] e)) base t ty e i0 z 1 bytes ht hi hz0 hz1 hz2 hz (by decide) v xs.length xs (World.ownsRow.alloc h _) ⟨w.heap.size,0,none⟩ 1 1 [x] rfl
  (λ j u hj=>by
   cases j with
   |zero=>simp at hj;subst hj;simp[Addr.add]
   |succ j=>simp at hj) (by simpa using hx1) h63 hby (by simp;omega)
 refine⟨v',w',hrun,?_,hg,by simpa using h5⟩;unfold AA;simpa using hown
theorem Ec {row:Option Nat} (h:w.grownBy w' row) (hr:∀g,row=some g->g∈S\/w.heap.size<=g):Upd S w w':=
 ⟨h.os,h.tape,h.output,h.size,λ k hk hs=>h.block k hk (λ e=>by rcases hr k e.symm with h1|h1;exact hs h1;omega)⟩
theorem Uu {o:World} {row:Option Nat} (h:w.grownBy w' row) (k:Ext o w) (hr:∀g,row=some g->o.heap.size<=g):Ext o w':=
 Below.grown k h k.size hr
theorem Br {row:Option Nat} (h:w.grownBy w' row) {o:Obj} (hg:w.heap[g]?=some o) (hne:some g≠row):w'.heap[g]?=some o:=(h.block g (lH hg) hne).trans hg
def bv (zs:List Int):List Value:=zs.map (.int .u8)
theorem AS (zs:List Int):(bv zs).length=zs.length:=by simp[bv]
theorem Bu (a b:List Int):bv (a++b)=bv a++bv b:=by simp[bv]
def be4 (n:Int):List Int:=[n/16777216,n/65536%256,n/256%256,n%256]
theorem BR:(prog.info? 5).map (λ i=>(i.zero,i.size,i.bytes))=some (some (.int .u8 0),1,1):=by kernel_rfl
theorem Fj {m c:Nat} (h:AI .u8 w a len cap zs) (ad:Addr) (news:List Value) (hl:news.length=m) (hm:0<m) (hnews:∀j u,news[j]?=some u->w.cell? (ad.add j)=some u) (h1:∀u∈news,u.oneCell'=true) (hlm:len+m<=10000000) (base:Nat) (hb:base<=w.heap.size) (ty:TypeId):
  ∃v' w',(Builtin.append_ #[26,26] ty #[.slice a len len,.slice (some ad) m c]).run prog w= .ok v' w'/\AA w' base 5 v' (bv zs++news)/\Ext w w':=by
 obtain⟨i0,hi,hz0,hz1,hz2⟩:=info_parts BR;have hzl:=h.1;have hold:(Builtin.firstCells i0.size len (.slice a len len)).run prog w.drew= .ok (bv zs).toArray w.drew:=by
  rcases h.2.2.2.2 with h0|⟨g,o,rfl,hc⟩
  ·have hz:zs=[]:=List.eq_nil_of_length_eq_zero (by omega);subst hz;subst h0;cases a with
   |none=>exact run_firstCells_none w.drew i0.size 0 0 0
   |some ad0=>exact run_firstCells_some w.drew i0.size 0 ad0 0 0 [] (by simp) (λ j u hj=>by simp at hj)
  ·refine run_firstCells_some w.drew i0.size len ⟨g,o,none⟩ len len (bv zs) (by rw[AS,hz1];omega) (λ j u hj=> ?_);have hj':j<zs.length:=by have:=(List.getElem?_eq_some_iff.1 hj).1;rwa [AS] at this
   rw[Go.WideShapes.add_plain];have:=hc j (by omega);rw[World.cell?_drew,this,<-hj];simp[bv,List.getD,Ud hj']
 have hr:=run_append_grow_src (P:=prog) w 26 26 ty 5 i0 _ underlying26 hi hz0 a len len (bv zs) hold (.slice (some ad) m c) m news
  (Src.ofSlice w underlying26 ad m c news (by rw[hl,hz1];omega) hnews h1) (by omega) (by omega) (growslice_fits (by omega) (by rw[hz2];omega))
 have hge:=grownCap_ge w (len+m) len 5;have hcm:grownCap w (len+m) len 5<=maxLen:=grownCap_le_maxLen w (len+m) len 5 (by unfold maxLen;omega);have hxl:(bv zs++news).length=len+m:=by rw[Uc,AS,hl,hzl]
 refine⟨_,_,hr,⟨by omega,.inr ⟨w.heap.size,_,_,by rw[hxl],hb,Ub w.drew _,by rw[hxl];exact hge,hcm,?_,?_⟩⟩,(Ext.refl w).drew.alloc _⟩
 ·simp only[Array.size_append,List.size_toArray,size_zeroCells,hxl];simp[Value.cells];omega
 ·simp only[Array.toList_append,Nat.mul_one];exact List.take_left
theorem SO (w:World) (n:Int):∀j u,(bv (be4 n))[j]?=some u->(w.alloc (.cells #[.int .u8 (n/16777216),.int .u8 (n/65536%256),.int .u8 (n/256%256),.int .u8 (n%256)] 5)).cell? ((⟨w.heap.size,0,none⟩:Addr).add j)=some u:=λ j u hj=>by
 match j with
 |0=>simp[bv,be4] at hj;subst hj;simp[Addr.add]
 |1=>simp[bv,be4] at hj;subst hj;simp[Addr.add]
 |2=>simp[bv,be4] at hj;subst hj;simp[Addr.add]
 |3=>simp[bv,be4] at hj;subst hj;simp[Addr.add]
 |j+4=>simp[bv,be4] at hj
theorem VI (ad:Addr) (len cap:Nat) (zs:List Int) (n:Int) (hn0:0<=n) (hn1:n<4294967296) (w:World) (h:AI .u8 w (some ad) len cap zs) (hl:len<=1000000):
  Calls prog 92 #[.slice (some ad) len cap,.int .u32 n] w λ r w'=>∃v,r= .returned v/\AA w' w.heap.size 5 v (bv (zs++be4 n))/\Ext w w':=by
 have hlc:=h.2.1;have hcm:=h.2.2.1;obtain⟨v',w',h1,h2,h3⟩:=Fj (m:=4) (c:=4) (h.ext ((Ext.refl w).alloc (.cells #[.int .u8 (n/16777216),.int .u8 (n/65536%256),.int .u8 (n/256%256),.int .u8 (n%256)] 5))) ⟨w.heap.size,0,none⟩ (bv (be4 n)) rfl (by omega)
  (SO w n) (by simp[bv,be4,Value.oneCell']) (by omega) w.heap.size (by simp) 26
 rw[<-Bu] at h2;unfold maxLen at hcm;have H1:=hid h1;have H2:=hid h2;have H3:=hid (((Ext.refl w).alloc (.cells #[.int .u8 (n/16777216),.int .u8 (n/65536%256),.int .u8 (n/256%256),.int .u8 (n%256)] 5)).trans h3);clear h h1 h2 h3;go_in;go_wp2_with (at_builtin;refine jA rfl (.tmp 10) (.tmp 22) _ rfl _ _ _ rfl rfl H1.o ?_);go_ret;exact⟨_,rfl,H2.o,H3.o⟩
theorem Hj (n:Int) (hn0:0<=n) (hn1:n<4294967296) (w:World):
  Calls prog 92 #[nN,.int .u32 n] w λ r w'=>∃v,r= .returned v/\AA w' w.heap.size 5 v (bv (be4 n))/\Ext w w':=by
 have h:AI .u8 w none 0 0 []:=⟨rfl,by omega,by unfold maxLen;omega,by simp,.inl rfl⟩;obtain⟨v',w',h1,h2,h3⟩:=Fj (m:=4) (c:=4) (h.ext ((Ext.refl w).alloc (.cells #[.int .u8 (n/16777216),.int .u8 (n/65536%256),.int .u8 (n/256%256),.int .u8 (n%256)] 5))) ⟨w.heap.size,0,none⟩ (bv (be4 n)) rfl (by omega)
  (SO w n) (by simp[bv,be4,Value.oneCell']) (by omega) w.heap.size (by simp) 26
 have H1:=hid h1;have H2:=hid (show AA w' w.heap.size 5 v' (bv (be4 n)) from h2);have H3:=hid (((Ext.refl w).alloc (.cells #[.int .u8 (n/16777216),.int .u8 (n/65536%256),.int .u8 (n/256%256),.int .u8 (n%256)] 5)).trans h3);clear h h1 h2 h3;go_in;go_wp2_with (at_builtin;refine jA rfl (.tmp 10) (.tmp 22) _ rfl _ _ _ rfl rfl H1.o ?_);go_ret;exact⟨_,rfl,H2.o,H3.o⟩
theorem AA.row (h:AA w base e v (bv zs)) (hw:∀z∈zs,(Lit.int .u8 z).wf=true):∃a cap,v= .slice a zs.length cap/\AI .u8 w a zs.length cap zs:=by
 rcases h.form with⟨hv,h0⟩|⟨g,cap,cur,hv,hb,hn,hm,hg,hs,ht⟩
 ·have hz:zs=[]:=by simpa [bv] using h0
  subst hz;exact⟨none,0,hv,rfl,by simp,by unfold maxLen;omega,by simp,.inl rfl⟩
 ·rw[AS] at hv hn ht;refine⟨_,cap,hv,rfl,hn,hm,hw,.inr ⟨g,0,rfl,λ i hi=> ?_⟩⟩;have h1:(cur.toList.take zs.length)[i]?=cur[i]?:=by rw[List.getElem?_take,if_pos hi];simp
  rw[Nat.zero_add,cO hg i,<-h1,ht];simp[bv,List.getD,Ud hi]
theorem Hh (h:AA w base e v (bv zs)) (hw:∀z∈zs,(Lit.int .u8 z).wf=true) (n:Int) (hn0:0<=n) (hn1:n<4294967296) (hl:zs.length<=1000000):
  Calls prog 92 #[v,.int .u32 n] w λ r w'=>∃v,r= .returned v/\AA w' w.heap.size 5 v (bv (zs++be4 n))/\Ext w w':=by
 rcases h.form with⟨hv,h0⟩|_
 ·have hz:zs=[]:=by simpa [bv] using h0
  subst hz;rw[hv];exact Hj n hn0 hn1 w
 ·obtain⟨a,cap,rfl,hr⟩:=h.row hw;cases a with
  |none=>
   have hz:zs.length=0:=by
    rcases hr.2.2.2.2 with h0|⟨g,o,h1,_⟩
    ·exact h0
    ·cases h1
   have hz:zs=[]:=List.eq_nil_of_length_eq_zero hz;subst hz;rcases h.form with⟨hv,_⟩|⟨g,cap',cur,hv,_⟩
   ·rw[hv];exact Hj n hn0 hn1 w
   ·cases hv
  |some ad=>exact VI ad _ cap zs n hn0 hn1 w hr hl
theorem Bf (n:Int) (hn0:0<=n) (hn1:n<4294967296):∀z∈be4 n,(Lit.int .u8 z).wf=true:=by
 intro z hz;simp only[be4,Um,List.not_mem_nil,or_false] at hz;simp[Lit.wf,IntKind.min,IntKind.max,IntKind.signed,IntKind.bits];omega
end Go.Proofs.YtdakioiagpkfhaaGreatDoor
