import Derived.Test.YtdakioiagpkfhaaGreatDoorP43
import Derived.Test.YtdakioiagpkfhaaGreatDoorP42
import Derived.Test.YtdakioiagpkfhaaGreatDoorP39
set_option maxRecDepth 99999
set_option maxHeartbeats 0
set_option linter.all false
namespace Go.Proofs.YtdakioiagpkfhaaGreatDoor
open RowKit Conc Great
open Go.Proofs.Tryz
variable {a:QV} {ds zs:List Int} {dv:Value} {g:Nat} {n tag:Int} {ns:List ByteArray} {q:QI} {t:TV} {w w':World}
def ShS (d:SD) (sh:Nat) (tag:Int) (l:List (Int×FV)) (st:Option AE) (n k:Nat) (q:List (QV×List ByteArray×List Int)) (zo:List Int) (w:World) (G:List Nat):Prop:=
 ∃F,G=sh::F/\w.heap[sh]?=oC #[ptr d.c.sp,iI tag] 176/\SS d l st n k [] q [] zo w F/\sh∉F
section
variable {d:SD} {sh:Nat} {tag:Int} {l:List (Int×FV)} {st:Option AE} {n k:Nat} {q:List (QV×List ByteArray×List Int)} {zo:List Int} {w:World} {G:List Nat}
theorem ShS.loc:Loc (ShS d sh tag l st n k q zo):=by
 refine⟨λ w G h b hb=> ?_,λ w w' G S h hu hs=> ?_⟩
 ·obtain⟨F,rfl,h1,h2,h3⟩:=h;rcases Um.1 hb with rfl|hb
  ·exact lH h1
  ·exact(SS.loc _ _ _ _ _ _ _ _ _).1 _ _ h2 b hb
 ·obtain⟨F,rfl,h1,h2,h3⟩:=h;exact⟨F,rfl,hu.heap h1 (hs _ (by simp)),(SS.loc _ _ _ _ _ _ _ _ _).2 _ _ _ _ h2 hu (λ b hb=>hs b (by simp[hb])),h3⟩
theorem ShS.ext (h:ShS d sh tag l st n k q zo w G) (hx:Ext w w'):ShS d sh tag l st n k q zo w' G:=ShS.loc.2 _ _ _ [] h (hx.upd []) (λ _ _=>by simp)
theorem lsend {t:Nat} (h:ShS d sh (t:Int) l st n k q zo w G) (hfr:d.Front) (Q:QIs {a with tag:=t} ns ds) (hM:(msg a.typ t (qb {a with tag:=t} ns ds)).length<=1024) (ht:∀x∈q,x.1.tag≠t) (hm:(q.length:Int)<d.m/\d.m<=8) {nv:Value} (hn:SlS w nv ns) (hd:Sl w dv ds) (hno:∀g,nv.ownBlock=some g->g<w.heap.size) (hdo:∀g,dv.ownBlock=some g->g<w.heap.size):
  Calls prog 127 #[pP sh 0,a.val nv dv] w λ r w'=>r= .returned (.string (⟨#[115,101,110,116,32]⟩++dgt t))/\∃k G',ShS d sh ((t:Int)+1) l st n k (q++[({a with tag:=t},ns,ds)]) zo w' G'/\Mv w w' G G':=by
 have ht3:t<=3:=by rcases Q.tag with h|h|h|h<;>simp at h<;>omega
 have HW:=hid (λ W (X:Ext w W)=>KG Q (hn.ext X) (hd.ext X) (λ g hg=>Nat.lt_of_lt_of_le (hno g hg) X.size) (λ g hg=>Nat.lt_of_lt_of_le (hdo g hg) X.size));have HF:=hid (λ W F (h:SS d l st n k [] q [] zo W F) v (hv:Sl W v (msg a.typ t (qb {a with tag:=t} ns ds)))=>GZ h hfr Q hM ht hm hv);have HI:=hid (CH t (by omega));have HL:=hid (ShS.loc.1 _ _ h);obtain⟨F,rfl,hs,hS,hF⟩:=h;have HSh:=hid hs;have HS:=hid hS;have HNF:=hid hF;obtain⟨na,nn,nc,hnv⟩:∃a n c,nv= .slice a n c:=by obtain⟨a,c,rfl,-⟩:=hn;exact⟨_,_,_,rfl⟩
 obtain⟨da,dn,dc,hdv⟩:∃a n c,dv= .slice a n c:=by obtain⟨a,c,rfl,-⟩:=hd;exact⟨_,_,_,rfl⟩
 subst hnv hdv;clear hn hd hno hdo Q hM ht hm hfr hs hS hF;dsimp only[QV.val] at HW|-
 go_in;have s1:w.cell? (dD sh 1)=some (iI (t:Int)):=cO HSh.o 1;have hsl:=lH HSh.o;go_upto_region 2 with fail;obtain⟨W1,hW1⟩:∃W,W=w.alloc (.cells (aA a.typ (t:Int) a.fid a.nfid a.otag a.msize a.mode a.perm a.off a.count a.name (.slice na nn nc) a.size (.slice da dn dc)) 43):=⟨_,rfl⟩;rw[<-hW1];have X1:Ext w W1:=by rw[hW1];exact(Ext.refl _).alloc _
 have hB1:W1.heap[w.heap.size]?=oC (aA a.typ (t:Int) a.fid a.nfid a.otag a.msize a.mode a.perm a.off a.count a.name (.slice na nn nc) a.size (.slice da dn dc)) 43:=by rw[hW1];exact Ub w _
 have HX1:=hid X1;have HB1:=hid hB1;clear hW1 X1 hB1 s1 hsl;refine wp_region_lit ?_;refine AJ rfl _ _ rfl w.heap.size (aA a.typ (t:Int) a.fid a.nfid a.otag a.msize a.mode a.perm a.off a.count a.name (.slice na nn nc) a.size (.slice da dn dc)) rfl 43 HB1.o _ underlying43 rfl (by kernel_rfl) ?_;go_wp2_with fail;refine(HW.o W1 HX1.o).mono ?_;rintro r w2 ⟨v,rfl,O2,Wf2,X2⟩;have hs2:=O2.sl Wf2;have HS2:=hid (HS.o.ext (HX1.o.trans X2));have HSh2:=hid ((HX1.o.trans X2).heap HSh.o);have HB2:=hid (X2.heap HB1.o);have HF2:=hid (HF.o w2 F HS2.o v hs2);have HX2:=hid (HX1.o.trans X2);obtain⟨va,vc,rfl,-,-⟩:=hs2;obtain⟨m,hm⟩:∃m,m=(msg a.typ t (qb {a with tag:=t} ns ds)).length:=⟨_,rfl⟩;rw[<-hm] at HF2|-
 have s0:w2.cell? (dD sh 0)=some (ptr d.c.sp):=cO HSh2.o 0;unfold ptr at s0;have hsl:=lH HSh2.o;clear O2 Wf2 X2 hm HW HF HB1 HX1;go_wp2_with fail;refine HF2.o.mono ?_;rintro r w3 ⟨rfl,k',F',hS3,hM3⟩;have hFl:=(SS.loc _ _ _ _ _ _ _ _ _).1 _ _ HS.o;have hnb:w.heap.size∉F:=λ hb=>by have:=hFl _ hb;omega
 have hB3:=hM3.1.heap HB2.o hnb;have hSh3:=hM3.1.heap HSh2.o HNF.o;have HM3:=hid ((Mv.of_ext HX2.o F).trans hM3);have HS3:=hid hS3;have HB3:=hid hB3;have HSh3:=hid hSh3;have e1:IntKind.i64.wrap ((t:Int)+1)=(t:Int)+1:=Uh _ (by omega);have e2:((t:Int)+1).tmod 65535=(t:Int)+1:=by rw[Int.tmod_eq_emod_of_nonneg (by omega)];omega
 clear s0 hsl hFl hnb hB3 hSh3 hM3 hS3;have s1:=cO HSh3.o 1;have sf:=fO HSh3.o 1;have b1:=cO HB3.o 1;have hsl:=lH HSh3.o;have hne:sh≠w.heap.size:=by have:=lH HSh.o;omega
 go_wp2_with fail;refine(HI.o _).mono ?_;rintro r w4 ⟨rfl,rfl⟩;have hadd:=λ W=>run_string_add_sum (P:=prog) (w:=W) ⟨#[115,101,110,116,32]⟩ (dgt t) (by show 5+1<=_;omega)
 go_wp2_with fail;go_ret;have hnF:sh∉F':=λ hb=>by
  rcases HM3.o.2 _ hb with h|h
  ·exact HNF.o h
  ·have:=lH HSh.o;omega
 have hC:=(Upd.refl [sh] w3).setCell (dD sh 1) (iI ((t:Int)+1)) (.inl (by simp));exact⟨rfl,k',_,⟨F',rfl,jP (i:=1) _ HSh3.o,(SS.loc _ _ _ _ _ _ _ _ _).2 _ _ _ _ HS3.o hC (λ b hb hm=>by simp at hm;subst hm;exact hnF hb),hnF⟩,((HM3.o.1.mono (λ b hb=>by simp[hb])).trans (hC.mono (by simp)):Upd (sh::F) w _),λ b hb=>by
  rcases Um.1 hb with rfl|hb
  ·exact .inl (by simp)
  ·rcases HM3.o.2 _ hb with h|h
   ·exact .inl (by simp[h])
   ·exact .inr h⟩
end
inductive GG (room:Nat):List (Int×FV)->Option AE->Nat->List (QV×List ByteArray×List Int)->List (Int×FV)->Option AE->Nat->List Int->Prop
 |nil {l:List (Int×FV)} {st:Option AE} {n:Nat}:GG room l st n [] l st n []
 |cons {l l1 l':List (Int×FV)} {st st1 st':Option AE} {n n1 n':Nat} {a:QV} {ns:List ByteArray} {ds zs z:List Int} {t:TV} {o:Option QI} {q:List (QV×List ByteArray×List Int)}:GOp room l st n a ns ds l1 st1 n1 t o zs->TIs t o zs->GG room l1 st1 n1 q l' st' n' z->GG room l st n ((a,ns,ds)::q) l' st' n' (msg t.typ t.tag (tb t o zs)++z)
section
variable {d:SD} {sh:Nat} {tag:Int} {l l':List (Int×FV)} {st st':Option AE} {n n' k:Nat} {q:List (QV×List ByteArray×List Int)} {zo z:List Int} {w:World} {G:List Nat}
theorem ShS.cons_mv {F F':List Nat} (hs:w.heap[sh]?=oC #[ptr d.c.sp,iI tag] 176) (hn:sh∉F) (hM:Mv w w' F F') (hS:SS d l st n k [] q [] zo w' F'):ShS d sh tag l st n k q zo w' (sh::F')/\Mv w w' (sh::F) (sh::F'):=by
 have hnF:sh∉F':=λ hb=>by
  rcases hM.2 _ hb with h|h
  ·exact hn h
  ·have:=lH hs;omega
 refine⟨⟨F',rfl,hM.1.heap hs hn,hS,hnF⟩,hM.1.mono (λ b hb=>by simp[hb]),λ b hb=> ?_⟩;rcases Um.1 hb with rfl|hb
 ·exact .inl (by simp)
 ·rcases hM.2 _ hb with h|h
  ·exact .inl (by simp[h])
  ·exact .inr h
theorem TA (hc:d.c.Scripts) {l1:List (Int×FV)} {st1:Option AE} {n1:Nat} {o:Option QI} (h:ShS d sh tag l st n k ((a,ns,ds)::q) zo w G) (op:GOp d.c.room l st n a ns ds l1 st1 n1 t o zs) (T:TIs t o zs) (hq:q.length<=2) (hz:zo.length<=90000):
  Calls prog 31 #[pP d.c.sp 0,iI 0] w λ r w'=>r= .returned (.bool true)/\∃G',ShS d sh tag l1 st1 n1 k q (zo++msg t.typ t.tag (tb t o zs)) w' G'/\Mv w w' G G':=by
 obtain⟨F,rfl,hs,hS,hn⟩:=h;refine(Ga hc hS op T hq hz).mono ?_;rintro r w' ⟨rfl,F',hS',hM⟩;obtain⟨h1,h2⟩:=ShS.cons_mv hs hn hM hS';exact⟨rfl,_,h1,h2⟩
theorem QQ (h:ShS d sh tag l st n k [] zo w G):
  Calls prog 31 #[pP d.c.sp 0,iI 0] w λ r w'=>r= .returned (.bool false)/\∃G',ShS d sh tag l st n k [] zo w' G'/\Mv w w' G G':=by
 obtain⟨F,rfl,hs,hS,hn⟩:=h;refine(J4 hS).mono ?_;rintro r w' ⟨rfl,hS',hM⟩;obtain⟨h1,h2⟩:=ShS.cons_mv hs hn hM hS';exact⟨rfl,_,h1,h2⟩
theorem ShS.blk (h:ShS d sh tag l st n k q zo w G):w.heap[sh]?=oC #[ptr d.c.sp,iI tag] 176:=by
 obtain⟨F,rfl,hs,-⟩:=h;exact hs
theorem lall (hc:d.c.Scripts) (h:ShS d sh tag l st n k q zo w G) (ops:GG d.c.room l st n q l' st' n' z) (hq:q.length<=3) (hz:zo.length+z.length<=90000) {v0 v1:Value}:
  Calls prog 119 #[pP sh 0,.agg #[v0,v1]] w λ r w'=>r= .returned (.string (dgt q.length))/\∃G',ShS d sh tag l' st' n' k [] (zo++z) w' G'/\Mv w w' G G':=by
 have HI:=hid (CH q.length (by omega));have HC:=hid hc;have HO:=hid ops;have X0:Ext w (w.alloc (.cells #[v0,v1] 188)):=(Ext.refl w).alloc _;have HS:=hid (h.ext X0);have HM:=hid (Mv.of_ext X0 G);have HZ:=hid hz;obtain⟨N,hN⟩:∃N,N=q.length:=⟨_,rfl⟩;rw[<-hN] at HI|-
 have HNe:=hid hN;have hN3:N<=3:=by omega
 clear hc ops h X0 hz hq hN;go_in;go_wp2_with fail;obtain⟨W0,hW0⟩:∃W,W=w.alloc (.cells #[v0,v1] 188):=⟨_,rfl⟩;rw[<-hW0] at HS HM|-
 clear hW0;go_loopw [5] (λ v5 wr=>∃(m:Nat) (q1:List (QV×List ByteArray×List Int)) (l1:List (Int×FV)) (st1:Option AE) (n1:Nat) (zo1 z1:List Int) (G1:List Nat),v5= iI m/\m+q1.length=N/\GG d.c.room l1 st1 n1 q1 l' st' n' z1/\zo1++z1=zo++z/\ShS d sh tag l1 st1 n1 k q1 zo1 wr G1/\Mv w wr G G1) (λ v5 _=>N-(intOf v5).toNat)
 case atStart=>exact⟨0,q,l,st,n,zo,z,G,rfl,by have:=HNe.o;omega,HO.o,rfl,HS.o,HM.o⟩
 case round=>
  obtain⟨m,q1,l1,st1,n1,zo1,z1,G1,rfl,hm,ops,hzz,hS,hM⟩:=hrel;have s0:wr.cell? (dD sh 0)=some (ptr d.c.sp):=cO hS.blk 0;unfold ptr at s0;have HMr:=hid hM;have HZZ:=hid hzz;have hzl:=congrArg List.length hzz;rw[Uc,Uc] at hzl;have hz9:=HZ.o;cases ops with
  |nil=>
   have HSv:=hid (QQ hS);have hmN:m=N:=by simpa using hm
   subst hmN;clear hS hM hzz hm hzl hz9;go_wp2_with fail;refine HSv.o.mono ?_;rintro r w2 ⟨rfl,G2,hS2,hM2⟩;have HS2:=hid hS2;have HM2:=hid (HMr.o.trans hM2);clear hS2 hM2 s0;go_wp2_with (go_at_call 177;refine(HI.o _).mono ?_;rintro r w3 ⟨rfl,rfl⟩);go_ret;exact⟨rfl,G2,by rw[<-HZZ.o,List.append_nil];exact HS2.o,HM2.o⟩
  | @cons _ l2 _ _ st2 _ _ n2 _ a ns ds zs z2 t o q2 op T rest=>
   have hm2:m+(q2.length+1)=N:=by simpa using hm
   rw[Uc] at hzl;have HSv:=hid (TA HC.o hS op T (by omega) (by omega));have HRs:=hid rest;have e1:IntKind.i64.wrap ((m:Int)+1)=(m:Int)+1:=Uh _ (by omega);clear hS hM hzz hm hzl hz9 op T rest;go_wp2_with fail;refine HSv.o.mono ?_;rintro r w2 ⟨rfl,G2,hS2,hM2⟩;have HS2:=hid hS2;have HM2:=hid (HMr.o.trans hM2);clear hS2 hM2 s0;go_wp2_with fail;go_roundw
   case rel=>exact⟨m+1,q2,l2,st2,n2,_,z2,G2,by go_num,by omega,HRs.o,by rw[Ui];exact HZZ.o,HS2.o,HM2.o⟩
   case measure=>simp[intOf];omega
end
def Bh (lr:Nat) (t:TV) (dv:Value):Array Value:= #[pP lr 0,iI t.typ,iI t.tag,iI t.code,iI 0,iI t.iounit,iI t.count,eE,.bool t.q.dir,iI t.q.ver,iI t.q.path,nN,dv,.bool false,iI 0,iI 0,iI 0,iI 0,eE,.bool false,.bool false]
def TR (rb lr:Nat) (t:TV) (dv:Value) (zs:List Int) (w:World):Prop:=w.heap[rb]?=oC (Bh lr t dv) 399/\LrW w lr 0 zs/\rb≠lr/\∀z,dv≠ .int .u8 z
theorem LG {a0 a1 a2 c0 c1 c2:Value} {t:TypeId} (h:w.heap[g]?=oC #[c0,c1,c2] t):
  (((w.setCell (dD g 0) a0).setCell (dD g 1) a1).setCell (dD g 2) a2).heap[g]?=oC #[a0,a1,a2] t/\Upd [g] w (((w.setCell (dD g 0) a0).setCell (dD g 1) a1).setCell (dD g 2) a2):=by
 replace h:=show _=some (Obj.cells #[a0,c1,c2] t (0,0)) from jP (i:=0) a0 h
 replace h:=show _=some (Obj.cells #[a0,a1,c2] t (0,0)) from jP (i:=1) a1 h
 exact⟨jP (i:=2) a2 h,(((Upd.refl [g] w).setCell _ _ (.inl (by simp))).setCell _ _ (.inl (by simp))).setCell _ _ (.inl (by simp))⟩
section
variable {rb lr:Nat} {t:TV} {dv:Value} {zs:List Int} {w:World}
theorem TR.upd {zs':List Int} (h:TR rb lr t dv zs w) (hl:LrW w' lr 0 zs') (hu:Upd [lr] w w'):TR rb lr t dv zs' w':=⟨hu.heap h.1 (by simpa using h.2.2.1),hl,h.2.2⟩
theorem TR.set {t':TV} {dv':Value} (h:TR rb lr t dv zs w) (hd:∀z,dv'≠ .int .u8 z) (i:Nat) (v:Value) (e:(Bh lr t dv).setIfInBounds i v=Bh lr t' dv'):TR rb lr t' dv' zs (w.setCell (dD rb i) v)/\Upd [rb,lr] w (w.setCell (dD rb i) v):=by
 have hU:Upd [rb] w (w.setCell (dD rb i) v):=(Upd.refl _ _).setCell _ _ (.inl (by simp));refine⟨⟨by rw[<-e];exact jP (i:=i) _ h.1,h.2.1.upd hU (by simpa using λ e=>h.2.2.1 e.symm) (λ b j z hb hm=> ?_),h.2.2.1,hd⟩,hU.mono (by simp)⟩;simp at hm;subst hm;rw[cO h.1] at hb
 match j,hb with
 |0,hb=>simp[Bh] at hb
 |1,hb=>simp[Bh] at hb
 |2,hb=>simp[Bh] at hb
 |3,hb=>simp[Bh] at hb
 |4,hb=>simp[Bh] at hb
 |5,hb=>simp[Bh] at hb
 |6,hb=>simp[Bh] at hb
 |7,hb=>simp[Bh] at hb
 |8,hb=>simp[Bh] at hb
 |9,hb=>simp[Bh] at hb
 |10,hb=>simp[Bh] at hb
 |11,hb=>simp[Bh] at hb
 |12,hb=>exact h.2.2.2 z (by simpa [Bh] using hb)
 |13,hb=>simp[Bh] at hb
 |14,hb=>simp[Bh] at hb
 |15,hb=>simp[Bh] at hb
 |16,hb=>simp[Bh] at hb
 |17,hb=>simp[Bh] at hb
 |18,hb=>simp[Bh] at hb
 |19,hb=>simp[Bh] at hb
 |20,hb=>simp[Bh] at hb
 |j+21,hb=>simp[Bh] at hb
theorem trqid (h:TR rb lr t dv (q.b++zs) w) (ok:q.Ok):
  Calls prog 345 #[pP rb 0] w λ r w'=>r= .returned (.agg #[.bool q.dir,iI q.ver,iI q.path])/\TR rb lr t dv zs w'/\Upd [lr] w w':=by
 obtain⟨W0,hW0⟩:∃W,W=w.alloc (.cells #[.bool false,iI 0,iI 0] 34):=⟨_,rfl⟩;have hb:W0.heap[w.heap.size]?=oC #[.bool false,iI 0,iI 0] 34:=by rw[hW0];exact Ub w _
 have X0:Ext w W0:=by rw[hW0];exact(Ext.refl w).alloc _
 obtain⟨h1,h2,h3,h4⟩:=h;have HD4:=hid h4;have hrl:=lH h1;have hll:=h2.lt;have h2:=h2.ext X0;rw[QI.b,Ui,Ui] at h2;obtain⟨dir,ver,path⟩:=q;have hv:=ok.v;have hp:=ok.p;dsimp only at h2 hv hp|-
 have e1:IntKind.i64.wrap ver=ver:=Uh _ (by omega);have e2:IntKind.i64.wrap path=path:=Uh _ (by omega);have HB0:=hid hb;have HX0:=hid X0;have HW:=hid hW0;have HR:=hid (X0.heap h1);have HN:=hid h3;have hk:0<=(QI.mk dir ver path).kind/\(QI.mk dir ver path).kind<256:=by cases dir<;>simp[QI.kind]
 have HC1:=hid (lr8 h2 hk.1 hk.2);have HL:=hid h2;clear h1 h2 h3 h4 hb X0 hW0 ok hk;have c0:W0.cell? (dD rb 0)=some (pP lr 0):=cO HR.o 0;cases dir
 all_goals
  simp only[QI.kind,if_true,if_false,Bool.false_eq_true] at HC1;go_in;go_wp2_with (rw[<-HW.o]);refine HC1.o.mono ?_;rintro r w1 ⟨rfl,L1,U1⟩;have HC2:=hid (ID L1 (by omega) (by omega));have HU1:=hid U1;have HR1:=hid (U1.heap HR.o (by simpa using HN.o));clear c0 L1 U1;have c0:w1.cell? (dD rb 0)=some (pP lr 0):=cO HR1.o 0;go_wp2_with fail;refine HC2.o.mono ?_;rintro r w2 ⟨rfl,L2,U2⟩;have HC3:=hid (lr64 (n:=path) L2 (by omega) (by omega));have HU2:=hid (HU1.o.trans U2);have HR2:=hid (U2.heap HR1.o (by simpa using HN.o));clear c0 L2 U2;have c0:w2.cell? (dD rb 0)=some (pP lr 0):=cO HR2.o 0;go_wp2_with fail;refine HC3.o.mono ?_;rintro r w3 ⟨rfl,L3,U3⟩;have HL3:=hid L3;have HU3:=hid (HU2.o.trans U3);have HR3:=hid (U3.heap HR2.o (by simpa using HN.o));have hB3:=HU3.o.heap HB0.o (by simp;omega);clear c0 L3 U3;obtain⟨q0,q1,q2,f0,f1,f2⟩:=BZ hB3;have HB3:=hid hB3;clear hB3;go_wp2_with fail;refine Ue (Uj rfl _ _ w.heap.size 34 #[.bool _,iI ver,iI path] (0,0) _ rfl (LG HB3.o).1 underlying34 rfl (by kernel_rfl)) rfl ⟨rfl,⟨(LG HB3.o).2.heap HR3.o (by simp;omega),HL3.o.upd (LG HB3.o).2 (by simp;omega) (λ b j z hb hm=> ?_),HN.o,HD4.o⟩,((HX0.o.upd [lr]).trans HU3.o).trans2 (LG HB3.o).2 (λ b hb=> .inr (by simp at hb;omega))⟩;simp at hm;subst hm;rw[cO HB3.o] at hb
  match j,hb with
  |0,hb=>simp at hb
  |1,hb=>simp at hb
  |2,hb=>simp at hb
  |j+3,hb=>simp at hb
theorem tr5 (h:TR rb lr t dv (q.b++zs) w) (ok:q.Ok):
  Calls prog 287 #[pP rb 0,iI 5] w λ r w'=>r= .returned (.tuple #[])/\TR rb lr {t with q:=q} dv zs w'/\Upd [rb,lr] w w':=by
 have HC:=hid (trqid h ok);clear h;go_in;go_wp2_with fail;refine HC.o.mono ?_;rintro r w1 ⟨rfl,T1,U1⟩;have c8:w1.cell? (dD rb 8)=some (.bool t.q.dir):=cO T1.1 8;have c9:w1.cell? (dD rb 9)=some (iI t.q.ver):=cO T1.1 9;have c10:w1.cell? (dD rb 10)=some (iI t.q.path):=cO T1.1 10;have hf:=fO T1.1;obtain⟨S1,V1⟩:=T1.set (t':={t with q:={t.q with dir:=q.dir}}) T1.2.2.2 8 (.bool q.dir) rfl;obtain⟨S2,V2⟩:=S1.set (t':={t with q:={t.q with dir:=q.dir,ver:=q.ver}}) T1.2.2.2 9 (iI q.ver) rfl;obtain⟨S3,V3⟩:=S2.set (t':={t with q:=q}) T1.2.2.2 10 (iI q.path) rfl;have HS:=hid S3;have HU:=hid ((((U1.mono (by simp)).trans V1).trans V2).trans V3:Upd [rb,lr] w _);clear T1 U1 S1 S2 S3 V1 V2 V3;go_wp2_with fail;go_end0;exact⟨rfl,HS.o,HU.o⟩
theorem tr1 (h:TR rb lr t dv (leN n 4++zs) w) (h0:0<=n) (h1:n<4294967296):
  Calls prog 287 #[pP rb 0,iI 1] w λ r w'=>r= .returned (.tuple #[])/\TR rb lr {t with iounit:=n} dv zs w'/\Upd [rb,lr] w w':=by
 have HC:=hid (ID h.2.1 h0 h1);have c0:w.cell? (dD rb 0)=some (pP lr 0):=cO h.1 0;have e1:IntKind.i64.wrap n=n:=Uh _ (by omega);have HT:=hid h;clear h;go_in;go_wp2_with fail;refine HC.o.mono ?_;rintro r w1 ⟨rfl,L1,U1⟩;have T1:=HT.o.upd L1 U1;clear c0;have cx:w1.cell? (dD rb 5)=some (iI t.iounit):=cO T1.1 5;have hf:=fO T1.1 5;obtain⟨S1,V1⟩:=T1.set (t':={t with iounit:=n}) T1.2.2.2 5 (iI n) rfl;have HS:=hid S1;have HU:=hid ((U1.mono (by simp)).trans V1:Upd [rb,lr] w _);clear T1 L1 U1 S1 V1;go_wp2_with fail;go_end0;exact⟨rfl,HS.o,HU.o⟩
theorem tr2 (h:TR rb lr t dv (leN n 4++zs) w) (h0:0<=n) (h1:n<4294967296):
  Calls prog 287 #[pP rb 0,iI 2] w λ r w'=>r= .returned (.tuple #[])/\TR rb lr {t with count:=n} dv zs w'/\Upd [rb,lr] w w':=by
 have HC:=hid (ID h.2.1 h0 h1);have c0:w.cell? (dD rb 0)=some (pP lr 0):=cO h.1 0;have e1:IntKind.i64.wrap n=n:=Uh _ (by omega);have HT:=hid h;clear h;go_in;go_wp2_with fail;refine HC.o.mono ?_;rintro r w1 ⟨rfl,L1,U1⟩;have T1:=HT.o.upd L1 U1;clear c0;have cx:w1.cell? (dD rb 6)=some (iI t.count):=cO T1.1 6;have hf:=fO T1.1 6;obtain⟨S1,V1⟩:=T1.set (t':={t with count:=n}) T1.2.2.2 6 (iI n) rfl;have HS:=hid S1;have HU:=hid ((U1.mono (by simp)).trans V1:Upd [rb,lr] w _);clear T1 L1 U1 S1 V1;go_wp2_with fail;go_end0;exact⟨rfl,HS.o,HU.o⟩
theorem tr7 {ys:List Int} (h:TR rb lr t dv (leN ys.length 4++(ys++zs)) w) (hy:ys.length<=1024) (hd:∃a n c,dv= .slice a n c):
  Calls prog 287 #[pP rb 0,iI 7] w λ r w'=>r= .returned (.tuple #[])/\∃v,TR rb lr t v zs w'/\Sl w' v ys/\(∀g,v.ownBlock=some g->w.heap.size<=g/\g<w'.heap.size)/\Upd [rb,lr] w w':=by
 have HC:=hid (OL h.2.1 hy);have HWf:=hid (show Wf ys from λ z hz=>h.2.1.wf z (by simp[hz]));have c0:w.cell? (dD rb 0)=some (pP lr 0):=cO h.1 0;have hl0:=lH h.1;have HT:=hid h;clear h;go_in;go_wp2_with fail;refine HC.o.mono ?_;rintro r w1 ⟨v,rfl,O1,L1,U1⟩;have T1:=HT.o.upd L1 U1;have hs1:=O1.sl HWf.o;obtain⟨va,vc,rfl,-,-⟩:=hs1;have hs1:=O1.sl HWf.o;obtain⟨m,hm⟩:∃m,m=ys.length:=⟨_,rfl⟩;rw[<-hm] at O1 hs1;clear c0;obtain⟨xa,xn,xc,rfl⟩:=hd;have cx:w1.cell? (dD rb 12)=some (.slice xa xn xc):=cO T1.1 12;have hf:=fO T1.1 12;obtain⟨S1,V1⟩:=T1.set (t':=t) (dv':= .slice va m vc) (by simp) 12 (.slice va m vc) rfl;have hv:Upd [rb] w1 (w1.setCell (dD rb 12) (.slice va m vc)):=(Upd.refl _ _).setCell _ _ (.inl (by simp));have HS:=hid S1;have HU:=hid ((U1.mono (by simp)).trans V1:Upd [rb,lr] w _);have HB:=hid (λ g (hg:(Value.slice va m vc).ownBlock=some g)=>O1.lt hg);have HV:=hid (hs1.updv hv (λ g hg=>by have:=(O1.lt hg).1;simp;omega));rw[<-hm];clear T1 L1 U1 S1 V1 O1 hs1 hv hm;go_wp2_with fail;go_end0;exact⟨rfl,_,HS.o,HV.o,λ g hg=>by have:=HB.o g hg;exact⟨this.1,by simpa using this.2⟩,HU.o⟩
end
def DF (base:Nat) (od:Option (List Int)) (dv:Value) (w:World):Prop:=match od with
 |none=>dv= nN
 |some ds=>Sl w dv ds/\∀g,dv.ownBlock=some g->base<=g/\g<w.heap.size
theorem DF.sl {base:Nat} {od:Option (List Int)} (h:DF base od dv w):∃a n c,dv= .slice a n c:=by
 cases od with
 |none=>exact⟨_,_,_,h⟩
 |some ds=>obtain⟨⟨a,c,e,-⟩,-⟩:=h;exact⟨_,_,_,e⟩
def UZ (t:TV) (ds:List Int):Prop:=
 ∃(T:Nat->TV) (D:Nat->Option (List Int)) (Bs:Nat->List Int),T 0={typ:=t.typ,tag:=t.tag}/\D 0=none/\Bs 0=tb t none ds/\T (Av t.typ).length=t/\D (Av t.typ).length=(if t.typ=117 then some ds else none)/\Bs (Av t.typ).length=[]/\
  ∀i (hi:i<(Av t.typ).length) (rb lr base:Nat) (dv:Value) (W:World),TR rb lr (T i) dv (Bs i) W->DF base (D i) dv W->base<=W.heap.size->
   Calls prog 287 #[pP rb 0,iI ((Av t.typ)[i]'hi)] W λ r w'=>r= .returned (.tuple #[])/\∃dv',TR rb lr (T (i+1)) dv' (Bs (i+1)) w'/\DF base (D (i+1)) dv' w'/\Upd [rb,lr] W w'
def isL (k:Int):Prop:=k=105\/k=115\/k=117\/k=119
theorem TR.nil_app {rb lr:Nat} (h:TR rb lr t dv zs w):TR rb lr t dv (zs++[]) w:=by rw[List.append_nil];exact h
theorem TIs.psteps (h:TIs t none ds) (hk:isL t.typ):UZ t ds:=by
 cases h with
 | @attach tag q htag hok=>
  refine⟨λ i=>if i=0 then _ else({typ:=105,tag:=tag,q:=q}:TV),λ _=>none,λ i=>if i=0 then _ else[],rfl,rfl,rfl,rfl,rfl,rfl,λ i hi rb lr base dv W hR hD hb=> ?_⟩;obtain rfl:i=0:=by have:i<1:=hi;omega
  refine(tr5 (t:={typ:=105,tag:=tag}) (TR.nil_app hR) hok).mono ?_;rintro r w' ⟨rfl,h1,h2⟩;exact⟨rfl,dv,h1,hD,h2⟩
 | @write tag count htag hc=>
  refine⟨λ i=>if i=0 then _ else({typ:=119,tag:=tag,count:=count}:TV),λ _=>none,λ i=>if i=0 then _ else[],rfl,rfl,rfl,rfl,rfl,rfl,λ i hi rb lr base dv W hR hD hb=> ?_⟩;obtain rfl:i=0:=by have:i<1:=hi;omega
  refine(tr2 (t:={typ:=119,tag:=tag}) (TR.nil_app hR) hc.1 hc.2).mono ?_;rintro r w' ⟨rfl,h1,h2⟩;exact⟨rfl,dv,h1,hD,h2⟩
 | @read tag ds htag hd=>
  refine⟨λ i=>if i=0 then _ else({typ:=117,tag:=tag}:TV),λ i=>if i=0 then none else some ds,λ i=>if i=0 then _ else[],rfl,rfl,rfl,rfl,rfl,rfl,λ i hi rb lr base dv W hR hD hb=> ?_⟩;obtain rfl:i=0:=by have:i<1:=hi;omega
  refine(tr7 (t:={typ:=117,tag:=tag}) (show TR rb lr _ dv (leN ds.length 4++(ds++[])) W by rw[List.append_nil];exact hR) hd.1 hD.sl).mono ?_;rintro r w' ⟨rfl,v,h1,h2,h3,h4⟩;exact⟨rfl,v,h1,⟨h2,λ g hg=>by have:=h3 g hg;omega⟩,h4⟩
 | @create tag iounit q htag hok hio=>
  refine⟨λ i=>if i=0 then _ else if i=1 then({typ:=115,tag:=tag,q:=q}:TV) else({typ:=115,tag:=tag,q:=q,iounit:=iounit}:TV),λ _=>none,λ i=>if i=0 then _ else if i=1 then leN iounit 4 else[],rfl,rfl,rfl,rfl,rfl,rfl,λ i hi rb lr base dv W hR hD hb=> ?_⟩;have hi2:i<2:=hi;rcases(show i=0\/i=1 by omega) with rfl|rfl
  ·refine(tr5 (t:={typ:=115,tag:=tag}) hR hok).mono ?_;rintro r w' ⟨rfl,h1,h2⟩;exact⟨rfl,dv,h1,hD,h2⟩
  ·refine(tr1 (t:={typ:=115,tag:=tag,q:=q}) (TR.nil_app hR) hio.1 hio.2).mono ?_;rintro r w' ⟨rfl,h1,h2⟩;exact⟨rfl,dv,h1,hD,h2⟩
 |_=>unfold isL at hk;simp at hk
theorem Ih (q:TIs t none ds) {da:Option Addr} {dn dc:Nat} (hd:Sl w (.slice da dn dc) ds) (hdo:∀g,(Value.slice da dn dc).ownBlock=some g->g<w.heap.size):
  Calls prog 288 #[t.val (nN) (.slice da dn dc)] w λ r w'=>r= .returned (.bool true)/\Ext w w':=by
 obtain⟨W0,hW0⟩:∃W,W=w.alloc (.cells (t.cl (nN) (.slice da dn dc)).toArray 39):=⟨_,rfl⟩;have h0:W0.heap[w.heap.size]?=some (.cells (t.cl (nN) (.slice da dn dc)).toArray 39 (0,0)):=by rw[hW0];exact Ub w _
 have X0:Ext w W0:=by rw[hW0];exact(Ext.refl w).alloc _
 have hz0:=X0.size;have HL:=hid (Ii q (w:=W0) (qv:= nN) ⟨_,_,rfl⟩ (hd.ext X0) (λ g p c hg=>by simp at hg) (λ g hg=>by have:=hdo g hg;omega));have HX:=hid X0;have HB:=hid h0;have HWE:=hid hW0;dsimp only[TV.cl] at HWE;unfold TV.val at HL|-
 clear q h0 X0 hW0 hd hdo;go_in;go_upto_region 1 with(rw[<-HWE.o]);refine wp_region_lit ?_;refine AJ rfl _ _ rfl w.heap.size (t.cl (nN) (.slice da dn dc)).toArray rfl 39 HB.o _ underlying39 rfl iT ?_;go_wp2_with fail;refine HL.o.mono ?_;rintro r w1 ⟨v,rfl,-,-,X1⟩;go_wp2_with fail;go_ret;exact⟨rfl,HX.o.trans X1⟩
theorem wpW {P:Program} {ops:Array Oper} {rest:List Oper} {o:Oper} {a:Act} {w:World} {Q:Exit->Act->World->Prop} (hw:Region.wanted o (yielded ops a.tmps)=true) (v:Value) (hr:(execOp a.eval o).run P w= .ok (.value v) w) (h:wpList P ops Q rest (a.put o.dst v) w):wpList P ops Q (o::rest) a w:=
 Go.BigFrame.wpList_want hw λ K hK=>by unfold Oper.wp;rw[hr,Oper.upon_value];exact hK _ _ h
theorem rgO {lr:Nat} (h:w.heap[g]?=oC (Bh lr t dv) 399):w.rangeAt g 1 (t.cl (nN) dv):=λ j v hv=>by
 rw[cO h]
 match j,hv with
 |0,hv=>exact hv
 |1,hv=>exact hv
 |2,hv=>exact hv
 |3,hv=>exact hv
 |4,hv=>exact hv
 |5,hv=>exact hv
 |6,hv=>exact hv
 |7,hv=>exact hv
 |8,hv=>exact hv
 |9,hv=>exact hv
 |10,hv=>exact hv
 |11,hv=>exact hv
 |12,hv=>exact hv
 |13,hv=>exact hv
 |14,hv=>exact hv
 |15,hv=>exact hv
 |16,hv=>exact hv
 |17,hv=>exact hv
 |j+18,hv=>simp[TV.cl] at hv
theorem L0 (q:TIs t none ds) (hk:isL t.typ) {v:Value} (hv:Sl w v (msg t.typ t.tag (tb t none ds))):
  Calls prog 178 #[v] w λ r w'=>∃dv,r= .returned (.tuple #[t.val (nN) dv,iI 0])/\DF w.heap.size (if t.typ=117 then some ds else none) dv w'/\Ext w w':=by
 obtain⟨T,D,Bs,hT0,hD0,hB0,hT1,hD1,hB1,hst⟩:=q.psteps hk;obtain⟨od,hod⟩:∃od,od=(if t.typ=117 then some ds else none):=⟨_,rfl⟩;rw[<-hod] at hD1|-
 obtain⟨va,vc,rfl,q1,q2⟩:=hv;have hml:=Cw t.typ t.tag (tb t none ds);have htl:=Hl q;obtain⟨e1,e2⟩:=LN t.typ t.tag (tb t none ds);obtain⟨s1,s2⟩:=Sl.take_drop q1 q2 7 (by omega);rw[e1] at s1;rw[e2] at s2;have hlc:=q1.2.1;obtain⟨m,hm⟩:∃m,m=(msg t.typ t.tag (tb t none ds)).length:=⟨_,rfl⟩;rw[<-hm] at s2 hlc hml|-
 have t1:∀W:World,(Instr.sliceAt 26 (.slice va m vc) none (some (iI 7)) none).run prog W= .ok (.slice va 7 vc) W:=λ W=>Bw va 7 m vc (by omega) hlc W
 obtain⟨xa,xc,hxa⟩:∃xa xc,(.slice (if vc=7 then va else va.map (·.add 7)) (m-7) (vc-7):Value)= .slice xa (m-7) xc:=⟨_,_,rfl⟩;have t2:∀W:World,(Instr.sliceAt 26 (.slice va m vc) (some (iI 7)) none none).run prog W= .ok (.slice xa (m-7) xc) W:=λ W=>by rw[<-hxa];exact Bd va 7 m vc (by omega) W
 rw[hxa] at s2;have hR:=q.r;have hG:=q.tg;have htyp:=q.typ;have d1:decide ((m:Int)<7)=false:=by simp;omega
 have d3:((7+(tb t none ds).length:Int) !=(m:Int))=false:=by simp;omega
 have w1':IntKind.i64.wrap t.typ=t.typ:=Uh _ (by omega);have w2':IntKind.i64.wrap t.tag=t.tag:=Uh _ (by have:=hG.1;have:=hG.2;omega);obtain⟨n7,hn7⟩:∃n:Int,n=7+(tb t none ds).length:=⟨_,rfl⟩;rw[<-hn7] at s1 d3;have w3':IntKind.i64.wrap n7=n7:=Uh _ (by omega);have HN7:=hid (show 0<=n7/\n7<4294967296 by omega);have HQ:=hid q;have HRk:=hid hR;have HGG:=hid hG;have HTy:=hid htyp;have HS1:=hid s1;have HS2:=hid s2;have HOd:=hid hod;have HE:=hid (And.intro hT0 (And.intro hD0 (And.intro hB0 (And.intro hT1 (And.intro hD1 hB1)))));have HSt:=hid hst;have HTl:=hid htl;obtain⟨W0,hW0⟩:∃W,W=w.alloc (.cells tZ 39):=⟨_,rfl⟩;have h0:W0.heap[w.heap.size]?=oC tZ 39:=by rw[hW0];exact Ub w _
 have X0:Ext w W0:=by rw[hW0];exact(Ext.refl w).alloc _
 have HX0:=hid X0;have HA0:=hid h0;have hz0:=lH h0;have HC1:=hid (I7 (HS1.o.ext X0) (by simp[lL]));have HWE:=hid hW0;clear q q1 q2 hml e1 e2 s1 s2 hlc hxa hR hG hn7 hm h0 X0 hW0 hT0 hD0 hB0 hT1 hD1 hB1 hst hod htl htyp hk;go_in;go_wp2_with (rw[<-HWE.o]);clear HWE;refine HC1.o.mono ?_;rintro r w1 ⟨g1,rfl,L1,hg1,X1⟩;have HC2:=hid (ID L1 HN7.o.1 HN7.o.2);have HX1:=hid (HX0.o.trans X1);have HA1:=hid (X1.heap HA0.o);have hz1:=X1.size;clear L1 X1 HA0;go_wp2_with fail;refine HC2.o.mono ?_;rintro r w2 ⟨rfl,L2,U2⟩;have HC3:=hid (lr8 L2 HTy.o.1 HTy.o.2);have HU2:=hid U2;clear L2 U2;go_wp2_with fail;refine HC3.o.mono ?_;rintro r w3 ⟨rfl,L3,U3⟩;have HC4:=hid (OM L3 HGG.o.1 HGG.o.2);have HU3:=hid (HU2.o.trans U3);clear L3 U3;go_wp2_with fail;refine HC4.o.mono ?_;rintro r w4 ⟨rfl,L4,U4⟩;have hU4:=HU3.o.trans U4;have HX4:=hid (hU4.ext HX1.o (by simp;omega));have HA4:=hid (hU4.heap HA1.o (by simp;omega));have hz4:=hU4.size;clear L4 U4 hU4 HA1;go_wp2_with fail;refine(Ge HRk.o w4).mono ?_;rintro r w5 ⟨v,rfl,hP,X5⟩;have HX5:=hid (HX4.o.trans X5);have HA5:=hid (X5.heap HA4.o);obtain⟨pa,pc,hv⟩:∃pa pc,v= .slice pa (Av t.typ).length pc:=by
  rcases hP with⟨e,rfl⟩|⟨g,rfl,-⟩
  ·exact⟨none,0,by rw[e];rfl⟩
  ·exact⟨_,_,rfl⟩
 subst hv;obtain⟨pn,hpn⟩:∃n,n=(Av t.typ).length:=⟨_,rfl⟩;rw[<-hpn] at hP|-
 have HPn:=hid hpn;have HP:=hid hP;have hp2:pn<=2:=by rw[hpn];rcases HRk.o with h|h|h|h|h|h|h|h<;>rw[h]<;>decide
 have HC5:=hid (I7 (HS2.o.ext HX5.o) (by have:=HTl.o;omega));have hz5:=X5.size;clear hP X5 hpn HA4;go_wp2_with fail;refine HC5.o.mono ?_;rintro r w6 ⟨lr,rfl,L6,hlr,X6⟩;obtain⟨W7,hW7⟩:∃W,W=w6.alloc (.cells (Bh lr {typ:=t.typ,tag:=t.tag} (nN)) 399):=⟨_,rfl⟩;have h7:W7.heap[w6.heap.size]?=oC (Bh lr {typ:=t.typ,tag:=t.tag} (nN)) 399:=by rw[hW7];exact Ub w6 _
 have X7:Ext w6 W7:=by rw[hW7];exact(Ext.refl _).alloc _
 have hll:=L6.lt;have HX7:=hid (HX5.o.trans (X6.trans X7));have HA7:=hid ((X6.trans X7).heap HA5.o);have HP7:=hid (λ g (h:w5.heap[g]?=some (.cells ((Av t.typ).map (Value.int .i64)).toArray 3 (0,0)))=>(X6.trans X7).heap h);have HT7:=hid (show TR w6.heap.size lr (T 0) (nN) (Bs 0) W7 from by rw[HE.o.1,HE.o.2.2.1];exact⟨h7,L6.ext X7,by omega,λ z=>by simp⟩);have hz6:=X6.size;have hz7:=X7.size;have HWE:=hid hW7;unfold Bh at HWE;clear L6 X6 X7 h7 hW7 HA5;go_wp2_with (rw[<-HWE.o]);clear HWE;go_loopw [55] (λ v55 wr=>∃(i:Nat) (dv:Value),i<=pn/\v55= iI i/\TR w6.heap.size lr (T i) dv (Bs i) wr/\DF W7.heap.size (D i) dv wr/\Upd [w6.heap.size,lr] W7 wr) (λ v55 _=>pn-(intOf v55).toNat)
 case atStart=>exact⟨0,_,by omega,rfl,HT7.o,by rw[HE.o.2.1];rfl,Upd.refl _ _⟩
 case round=>
  obtain⟨i,dv,hi,rfl,hT,hD,hU⟩:=hrel;have hzr:=hU.size;have HTr:=hid hT;have HDr:=hid hD;have HUr:=hid hU;by_cases hlt:i<pn
  ·have d4:decide ((i:Int)<(pn:Int))=true:=by simp;omega
   have i0:(0:Int)<=(i:Int):=by omega
   have i1:(i:Int)<(pn:Int):=by omega
   have hkl:i<(Av t.typ).length:=by rw[<-HPn.o];exact hlt
   obtain⟨g,hpa,hg⟩:∃g,pa=some ⟨g,0,none⟩/\w5.heap[g]?=some (.cells ((Av t.typ).map (Value.int .i64)).toArray 3 (0,0)):=by
    rcases HP.o with⟨e,-⟩|⟨g,e,h⟩
    ·rw[e] at hkl;simp at hkl
    ·simp only[Value.slice.injEq] at e;exact⟨g,e.1,h⟩
   subst hpa;have hgl:=lH hg;obtain⟨f,hf⟩:∃f,f=(Av t.typ)[i]:=⟨_,rfl⟩;have cf:wr.cell? (dD g i)=some (iI f):=by
    rw[hf];exact LI (hU.heap (HP7.o g hg) (by simp;omega)) hkl
   have HW:=hid (HSt.o i hkl w6.heap.size lr W7.heap.size dv wr hT hD hzr);rw[<-hf] at HW;have e2:IntKind.i64.wrap ((i:Int)+1)=(i:Int)+1:=Uh _ (by omega);clear hf hg hT hD hU;go_wp2_with fail;refine HW.o.mono ?_;rintro r w8 ⟨rfl,dv',hT8,hD8,hU8⟩;have HT8:=hid hT8;have HD8:=hid hD8;have HU8:=hid (HUr.o.trans hU8);clear hT8 hD8 hU8 cf;go_wp2_with fail;go_roundw
   case rel=>exact⟨i+1,dv',by omega,by go_num,HT8.o,HD8.o,HU8.o⟩
   case measure=>simp[intOf];omega
  ·have d4:decide ((i:Int)<(pn:Int))=false:=by simp;omega
   have hin:i=pn:=by omega
   subst hin;rw[HPn.o,HE.o.2.2.2.1,HE.o.2.2.2.2.2] at hT;rw[HPn.o,HE.o.2.2.2.2.1] at hD;obtain⟨da,dn,dc,rfl⟩:=hD.sl;have HTn:=hid hT;have HDn:=hid hD;have c0:wr.cell? (dD w6.heap.size 0)=some (pP lr 0):=cO hT.1 0;have c19:wr.cell? (dD w6.heap.size 19)=some (.bool false):=cO hT.1 19;have c20:wr.cell? (dD w6.heap.size 20)=some (.bool false):=cO hT.1 20;have HLe:=hid (lend hT.2.1);have hA8:=hU.heap HA7.o (by simp;omega);have HA8:=hid hA8;have HMy:=hid (show Calls prog 288 #[.agg (t.cl (nN) (.slice da dn dc)).toArray] wr λ r w'=>r= .returned (.bool true)/\Ext wr w' from by
    have ho:=HOd.o;by_cases e:t.typ=117
    ·rw[if_pos e] at ho;rw[ho] at hD;exact Ih HQ.o hD.1 (λ g hg=>(hD.2 g hg).2)
    ·rw[if_neg e] at ho;rw[ho] at hD;have hds:ds=[]:=by have:=HQ.o;cases this<;>first|rfl|exact absurd rfl e
     injection hD with e1 e2 e3;subst e1 e2 e3;exact Ih HQ.o (hds▸Sl.nil _) (λ g hg=>by simp[Value.ownBlock] at hg))
   have HR0:=hid (rgO hT.1);clear hT hD hU hA8;go_upto_region 19 with (go_at_call 152;refine HLe.o.mono ?_;rintro r w9 ⟨rfl,rfl⟩)
   go_cut [74] (λ q74 wx=>q74= .bool false/\wr=wx)
   case first=>
    go_wp2_with fail;go_meet
    case rel=>exact⟨rfl,rfl⟩
   case rest=>
   obtain⟨rfl,rfl⟩:=hcut;go_upto_region 21 with fail;refine wp_region_lit ?_;refine wpList_runTo rfl _ rfl (pP w6.heap.size 0) wr (by go_simp) ?_;refine wpList_runTo rfl _ rfl (pP w6.heap.size 0) wr (by go_simp) ?_;refine wpList_runTo rfl _ rfl (pP w6.heap.size 20) wr (by go_simp) ?_;refine wpList_runTo rfl _ rfl (.bool false) wr (by go_simp) ?_;refine wpList_runTo rfl _ rfl (.bool false) wr (by go_simp) ?_;go_simp;refine wpW (by kernel_rfl) (pP w6.heap.size 0) (by go_simp) ?_;go_simp;refine wpW (by kernel_rfl) (pP w6.heap.size 0) (by go_simp) ?_;go_simp;refine wpW (by kernel_rfl) (pP w6.heap.size 1) (by go_simp) ?_;go_simp;refine Go.BigFrame.wpList_want (by kernel_rfl) λ K hK=>?_;refine wp_load_mid 39 _ rfl w6.heap.size 1 rfl (t.cl (nN) (.slice da dn dc)) _ HR0.o underlying39 rfl iT (hK _ _ ?_);clear hK;clear K;go_wp2_with fail;refine HMy.o.mono ?_;rintro r w10 ⟨rfl,X10⟩;have hT10:=X10.heap HTn.o.1;have HRg:=hid (rgO hT10);have HA10:=hid (X10.heap HA8.o);have HX10:=hid X10;have hz10:=X10.size;clear hT10 X10 c0 c19 c20 HMy HLe;go_upto_region 23 with fail;refine wp_region_lit ?_;refine wpList_runTo rfl _ rfl (pP w6.heap.size 0) w10 (by go_simp) ?_;refine wpList_runTo rfl _ rfl (pP w6.heap.size 0) w10 (by go_simp) ?_;refine wpList_runTo rfl _ rfl (pP w6.heap.size 1) w10 (by go_simp) ?_;refine wpList_load_mid rfl 39 _ rfl w6.heap.size 1 rfl (t.cl (nN) (.slice da dn dc)) _ HRg.o underlying39 rfl iT ?_;refine AT rfl _ _ _ rfl w.heap.size (t.cl (nN) (.slice da dn dc)).toArray rfl rfl 39 _ HA10.o iT rfl (by simp[TV.cl,Value.oneCell']) ?_;intro W hRw hW;refine wpList_runTo rfl _ rfl (iI 0) W (by go_simp) ?_;refine wpList_nil ?_;go_wp2_with fail;refine Ue (v:= .tuple #[t.val (nN) (.slice da dn dc),iI 0]) (AO (g:=w.heap.size) (cs:=(t.cl (nN) (.slice da dn dc)).toArray) rfl _ _ _ _ rfl hRw underlying39 rfl iT rfl) rfl ⟨_,rfl,?_,hW.ext ((HUr.o.ext HX7.o (by simp;omega)).trans HX10.o) (by simp)⟩;have hd:=HDn.o
   revert hd
   cases od with
   |none=>exact id
   |some ds2=>exact λ hd=>⟨(hd.1.ext HX10.o).updv hW (λ g hg=>by have:=(hd.2 g hg).1;simp;omega),λ g hg=>by have:=hd.2 g hg;have:=hW.size;omega⟩
def qtx (c:ByteArray) (v p:Nat):ByteArray:=((c++dgt p)++⟨#[46]⟩)++dgt v
theorem Df (a b:ByteArray) (h:a.size+b.size<=100000) (W:World):(Op.stringOp .add a b).run prog W= .ok (.string (a++b)) W:=run_string_add_sum (w:=W) a b (by omega)
theorem lqid (dir:Bool) (v p:Nat) (hv:v<10) (hp:p<10) (w:World):
  Calls prog 352 #[.agg #[.bool dir,iI v,iI p]] w λ r w'=>r= .returned (.string (qtx (if dir then⟨#[100]⟩ else⟨#[102]⟩) v p))/\Ext w w':=by
 have HI:=hid (λ (n:Nat) (h:n<10) W=>Ho (CH n h W));have key:∀c:ByteArray,c.size=1->(∀W,(Op.stringOp .add c (dgt p)).run prog W= .ok (.string (c++dgt p)) W)/\(∀W,(Op.stringOp .add (c++dgt p) ⟨#[46]⟩).run prog W= .ok (.string ((c++dgt p)++⟨#[46]⟩)) W)/\∀W,(Op.stringOp .add ((c++dgt p)++⟨#[46]⟩) (dgt v)).run prog W= .ok (.string (((c++dgt p)++⟨#[46]⟩)++dgt v)) W:=λ c hcs=>
  ⟨Df c (dgt p) (by rw[hcs];show 1+1<=_;omega),Df (c++dgt p) ⟨#[46]⟩ (by rw[ByteArray.size_append,hcs];show 1+1+1<=_;omega),Df ((c++dgt p)++⟨#[46]⟩) (dgt v) (by rw[ByteArray.size_append,ByteArray.size_append,hcs];show 1+1+1+1<=_;omega)⟩
 obtain⟨h1,h2,h3⟩:=key (if dir then⟨#[100]⟩ else⟨#[102]⟩) (by cases dir<;>rfl);clear key;cases dir
 all_goals
  simp only[if_true,if_false,Bool.false_eq_true] at h1 h2 h3|-
  unfold qtx;go_in;go_wp2_with fail;go_quiet ((go_at_call 177;exact Calls.quiet_of_same (HI.o _ (by omega) _)))
  all_goals
   go_wp2_with fail;go_ret;exact⟨rfl,((Ext.refl w).alloc _).drewN _⟩
def Two (w:World) (A B:ByteArray) (r:Ending) (w':World):Prop:=∃g,r= .returned (sS g 0 2 2)/\w'.heap[g]?=oC #[.string A,.string B] 9/\Ext w w'
section
variable {da:Option Addr} {dn dc:Nat}
theorem I8 {io:Int} {dir:Bool} {v p:Nat} {k:Int} (hk:k=105\/k=115) (hv:v<10) (hp:p<10) (w:World):
  Calls prog 289 #[({typ:=k,tag:=tag,iounit:=io,q:=⟨dir,v,p⟩}:TV).val (nN) (.slice da dn dc)] w (Two w (if k=105 then⟨#[97,116,116,97,99,104]⟩ else⟨#[99,114,101,97,116,101]⟩) (qtx (if dir then⟨#[100]⟩ else⟨#[102]⟩) v p)):=by
 have HQ:=hid (lqid dir v p hv hp);obtain⟨bt,hbt⟩:∃b,b=qtx (if dir then⟨#[100]⟩ else⟨#[102]⟩) v p:=⟨_,rfl⟩;rw[<-hbt] at HQ|-
 clear hbt;unfold TV.val;dsimp only;rcases hk with rfl|rfl
 all_goals
  go_in;go_wp2_with fail;refine(HQ.o _).mono ?_;rintro r w1 ⟨rfl,X1⟩;go_wp2_with fail;go_ret;exact⟨_,rfl,Ub w1 _,((Ext.refl w).alloc _).trans (X1.alloc _)⟩
theorem OO {c:Nat} (hc:c<10) (w:World):
  Calls prog 289 #[({typ:=119,tag:=tag,count:=c}:TV).val (nN) (.slice da dn dc)] w (Two w ⟨#[119,114,105,116,101]⟩ (dgt c)):=by
 have HI:=hid (CH c hc);unfold TV.val;dsimp only;go_in;go_wp2_with fail;refine(HI.o _).mono ?_;rintro r w1 ⟨rfl,rfl⟩;go_wp2_with fail;go_ret;exact⟨_,rfl,(AH w _ _).2.1,((Ext.refl w).alloc _).alloc _⟩
theorem ON {s:ByteArray} (hd:Sl w (.slice da dn dc) ds) (hs:strOfNums ds=s) (hl:s.size<=1000) (h1:s.toList≠[]) (h2:s.toList≠[45]) (h:UY s):
  Calls prog 289 #[({typ:=117,tag:=tag}:TV).val (nN) (.slice da dn dc)] w (Two w ⟨#[114,101,97,100]⟩ (strOfNums (prn s s.size))):=by
 have HP:=hid (OB s hl h1 h2 h);have HS:=hid (λ W (X:Ext w W)=>hs▸(hd.ext X).str);clear hd hs hl h1 h2 h;unfold TV.val;dsimp only;obtain⟨W0,hW0⟩:∃W,W=w.alloc (.cells (tT 117 tag 0 0 0 false 0 0 (nN) (.slice da dn dc)) 39):=⟨_,rfl⟩;have hb:W0.heap[w.heap.size]?=oC (tT 117 tag 0 0 0 false 0 0 (nN) (.slice da dn dc)) 39:=by rw[hW0];exact Ub w _
 have X0:Ext w W0:=by rw[hW0];exact(Ext.refl w).alloc _
 have R:=HS.o W0 X0;have c0:W0.cell? (dD w.heap.size 0)=some (iI 117):=cO hb 0;have c11:W0.cell? (dD w.heap.size 11)=some (.slice da dn dc):=cO hb 11;have HX0:=hid X0;have HW:=hid hW0;clear hb X0 hW0;go_in;go_wp2_with (rw[<-HW.o]);refine(HP.o _).mono ?_;rintro r w1 ⟨rfl,X1⟩;go_wp2_with fail;go_ret;exact⟨_,rfl,Ub w1 _,HX0.o.trans (X1.alloc _)⟩
theorem IE (hg:g<10) (ht:t.tag=g) {A B J:ByteArray} (hA:A.size+B.size<=1000) (hJ:⟨(Lib.join ([A,B].map (·.data.toList)) [44]).toArray⟩=J) (hJs:J.size<=2000) (HP:∀W,Ext w W->Calls prog 289 #[t.val (nN) (.slice da dn dc)] W (Two W A B)):
  Calls prog 179 #[t.val (nN) (.slice da dn dc)] w λ r w'=>r= .returned (.string ((dgt g++⟨#[58]⟩)++J))/\Ext w w':=by
 have HI:=hid (CH g hg);have HPr:=hid HP;have HJ:=hid (λ (W:World) (b:Nat) (hb:W.heap[b]?=oC #[.string A,.string B] 9)=>RE (g:=b) (c:=2) (ns:=[A,B]) (sep:=⟨#[44]⟩) (t:=J) (w:=W) (λ i hi=>by
  rw[cO hb];have:i=0\/i=1:=by simp at hi;omega
  rcases this with rfl|rfl<;>rfl) (lH hb) (by simp) (by simp) hJ (by omega))
 have h1:=Df (dgt g) ⟨#[58]⟩ (by show 1+1<=_;omega);have h2:=Df (dgt g++⟨#[58]⟩) J (by rw[ByteArray.size_append];show 1+1+_<=_;omega);have HT:=hid ht;clear HP hJ hJs hA ht;obtain⟨W0,hW0⟩:∃W,W=w.alloc (.cells (t.cl (nN) (.slice da dn dc)).toArray 39):=⟨_,rfl⟩;have hb:W0.heap[w.heap.size]?=some (.cells (t.cl (nN) (.slice da dn dc)).toArray 39 (0,0)):=by rw[hW0];exact Ub w _
 have X0:Ext w W0:=by rw[hW0];exact(Ext.refl w).alloc _
 have HX0:=hid X0;have HB:=hid hb;have HW:=hid hW0;dsimp only[TV.cl] at HW;unfold TV.val at HPr|-
 clear hb X0 hW0;go_in;go_upto_region 1 with(rw[<-HW.o]);have hct:∀W,Ext W0 W->W.cell? (dD w.heap.size 1)=some (iI g):=λ W hW=>by rw[cO (hW.heap HB.o),<-HT.o];rfl
 refine wp_region_held (S:=λ W=>Ext W0 W) DE ?_;have XD:Ext W0 {W0 with drawn:=W0.drawn+1}:=(Ext.refl W0).drew;refine tkH (i:=0) (d:=3) (v:= pP w.heap.size 1) rfl rfl (by kernel_rfl) (by kernel_rfl) (by kernel_rfl) (λ _ _ _ h=>h) (.inl ⟨by kernel_rfl,λ W hW=>by go_simp⟩) XD ?_;simp only[Act.put,List.setIfInBounds_toArray,List.set_cons_zero,List.set_cons_succ];refine tkH (i:=1) (d:=4) (v:= iI g) rfl rfl (by kernel_rfl) (by kernel_rfl) (by kernel_rfl) (λ _ _ _ h=>h) (.inl ⟨by kernel_rfl,λ W hW=>by have:=hct W hW;go_simp⟩) XD ?_;simp only[Act.put,List.setIfInBounds_toArray,List.set_cons_zero,List.set_cons_succ];refine tkH (i:=4) (d:=7) rfl rfl (by kernel_rfl) (by kernel_rfl) (by kernel_rfl) (λ _ _ _ h=>h) (yieldsIf_load_mid (by kernel_rfl) 39 (.tmp 1) rfl w.heap.size 0 (by go_simp) (t.cl (nN) (.slice da dn dc)) _ (λ W hW j v hv=>by rw[cO (hW.heap HB.o),Nat.zero_add];simpa using hv) underlying39 rfl iT) XD ?_;simp only[Act.put,List.setIfInBounds_toArray,List.set_cons_zero,List.set_cons_succ];refine wpAnyH_ready (rs:=[2]) (by kernel_rfl) (by simp) ?_;refine AllReadyH.cons rfl (λ K hK=> ?_) AllReadyH.nil;go_simp;refine(HI.o _).mono ?_;rintro r w1 ⟨rfl,rfl⟩;refine hK.out _ _ XD (λ _=> ?_);clear hK K
 try simp only[Act.put,List.setIfInBounds_toArray,List.set_cons_zero,List.set_cons_succ]
 refine tkH (i:=3) (d:=6) (v:= .string (dgt g++⟨#[58]⟩)) rfl rfl (by kernel_rfl) (by kernel_rfl) (by kernel_rfl) (λ _ _ _ h=>h) (.inl ⟨by kernel_rfl,λ W hW=>by go_simp⟩) XD ?_;simp only[Act.put,List.setIfInBounds_toArray,List.set_cons_zero,List.set_cons_succ];refine wpAnyH_ready (rs:=[5]) (by kernel_rfl) (by simp) ?_;refine AllReadyH.cons rfl (λ K hK=> ?_) AllReadyH.nil;go_simp;refine(HPr.o W0.drew (HX0.o.trans XD)).mono ?_;rintro r w2 ⟨gb,rfl,hb2,X2⟩;have X2:Ext W0 w2:=XD.trans X2;refine hK.out _ _ X2 (λ _=> ?_);clear hK K
 try simp only[Act.put,List.setIfInBounds_toArray,List.set_cons_zero,List.set_cons_succ]
 refine wpAnyH_ready (rs:=[6]) (by kernel_rfl) (by simp) ?_;refine AllReadyH.cons rfl (λ K hK=> ?_) AllReadyH.nil;go_simp;refine(HJ.o w2 gb hb2).mono ?_;rintro r w3 ⟨rfl,X3⟩;have X3:Ext W0 w3:=X2.trans X3;refine hK.out _ _ X3 (λ _=> ?_);clear hK K
 try simp only[Act.put,List.setIfInBounds_toArray,List.set_cons_zero,List.set_cons_succ]
 refine tkH (i:=7) (d:=10) (v:= .string ((dgt g++⟨#[58]⟩)++J)) rfl rfl (by kernel_rfl) (by kernel_rfl) (by kernel_rfl) (λ _ _ _ h=>h) (.inl ⟨by kernel_rfl,λ W hW=>by go_simp⟩) X3 ?_;simp only[Act.put,List.setIfInBounds_toArray,List.set_cons_zero,List.set_cons_succ];refine tkH (i:=8) (d:=2) (v:= .string ((dgt g++⟨#[58]⟩)++J)) rfl rfl (by kernel_rfl) (by kernel_rfl) (by kernel_rfl) (λ _ _ _ h=>h) (.inl ⟨by kernel_rfl,λ W hW=>by go_simp⟩) X3 ?_;simp only[Act.put,List.setIfInBounds_toArray,List.set_cons_zero,List.set_cons_succ];refine wpAnyH_done (by kernel_rfl) ?_ _;go_wp2_with fail;go_ret;exact⟨rfl,HX0.o.trans X3⟩
end
end Go.Proofs.YtdakioiagpkfhaaGreatDoor
