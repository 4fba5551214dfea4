import Derived.Test.YtdakioiagpkfhaaGreatDoorP12
import Derived.Lib.LaidTab
set_option maxRecDepth 99999
set_option maxHeartbeats 0
set_option linter.all false
namespace Go.Proofs.YtdakioiagpkfhaaGreatDoor
open RowKit
open Go.Proofs.Tryz
variable {a b c d:Value} {g k:Nat} {t:TypeId} {w w2 wr:World}
structure Row where
 e:Int
 s:Int
 c:Int
 t:List UInt8
theorem Row.same {a b:Row} (h:a.e=b.e/\a.s=b.s/\a.c=b.c/\a.t=b.t):a=b:=by
 cases a;cases b;obtain⟨h1,h2,h3,h4⟩:=h
 simp_all
def rows:List Row:=
 [⟨0,0,0,[111,107]⟩,
  ⟨8,70,1,[115,116,97,108,101]⟩,
  ⟨9,2,2,[110,111,32,115,117,99,104,32,110,97,109,101]⟩,
  ⟨10,17,3,[110,97,109,101,32,101,120,105,115,116,115]⟩,
  ⟨11,20,4,[110,111,116,32,97,32,100,105,114,101,99,116,111,114,121]⟩,
  ⟨12,21,5,[105,115,32,97,32,100,105,114,101,99,116,111,114,121]⟩,
  ⟨13,66,6,[110,111,116,32,101,109,112,116,121]⟩,
  ⟨14,28,7,[110,111,32,115,112,97,99,101]⟩,
  ⟨15,27,8,[116,111,111,32,98,105,103]⟩,
  ⟨16,63,9,[98,97,100,32,110,97,109,101]⟩,
  ⟨20,10003,10,[98,97,100,32,99,111,111,107,105,101]⟩,
  ⟨17,10101,11,[98,97,100,32,102,105,100]⟩,
  ⟨18,10102,12,[102,105,100,32,105,110,32,117,115,101]⟩,
  ⟨19,10103,13,[98,97,100,32,109,111,100,101]⟩,
  ⟨22,10104,14,[102,108,117,115,104,101,100]⟩,
  ⟨21,5,15,[105,47,111,32,101,114,114,111,114]⟩,
  ⟨7,10105,16,[116,97,103,32,105,110,32,117,115,101]⟩,
  ⟨5,10106,17,[116,111,111,32,109,97,110,121,32,114,101,113,117,101,115,116,115]⟩,
  ⟨2,10107,18,[98,97,100,32,109,101,115,115,97,103,101]⟩]
def Row.cells (r:Row):List Value:=[iI r.e,.int .u32 r.s,iI r.c,.string ⟨r.t.toArray⟩]
def Row.val (r:Row):Value:= .agg #[iI r.e,.int .u32 r.s,iI r.c,.string ⟨r.t.toArray⟩]
def BQ:Row:=⟨0,0,0,[]⟩
def BO (k:Nat):Row:=rows.getD k BQ
def EM:Row:=⟨21,5,15,[105,47,111,32,101,114,114,111,114]⟩
def Bb:Array Value:=(rows.flatMap Row.cells).toArray
def Aw (w:World):Prop:=∃(t:{t:TypeId//t=454}) (fr:{f:Nat×Nat//f=(0,0)}),w.heap[1]?=some (.cells Bb t.1 fr.1)
theorem Aw.ext {w':World} (h:Aw w) (k:Ext w w'):Aw w':=by
 obtain⟨t,fr,h⟩:=h;exact⟨t,fr,k.heap h⟩
theorem of1 (r:Row) (n:Int) (b o:Nat) (w:World) (hp:w.cell? (dD b o)=some (iI n)):
  Calls prog 280 #[r.val,pP b o] w λ e w'=>e= .returned (.bool (r.e==n))/\Ext w w':=by
 have hb:b<w.heap.size:=Ug w ⟨b,o,none⟩ hp;unfold Row.val;go_in;go_wp2;go_ret;exact⟨rfl,Ext.alloc (Ext.refl _) _⟩
theorem fs1 (r:Row) (n:Int) (b o:Nat) (w:World) (hp:w.cell? (dD b o)=some (.int .u32 n)):
  Calls prog 418 #[r.val,pP b o] w λ e w'=>e= .returned (.bool (r.s==n))/\Ext w w':=by
 have hb:b<w.heap.size:=Ug w ⟨b,o,none⟩ hp;unfold Row.val;go_in;go_wp2;go_ret;exact⟨rfl,Ext.alloc (Ext.refl _) _⟩
def pick (p:Row->Bool):Row:=(rows.find? p).getD EM
theorem idx (k:Nat) (hk:k<19) (w:World):(Instr.index 454 (.agg Bb) (iI k)).run prog w= .ok (BO k).val w:=by
 have:k=0\/k=1\/k=2\/k=3\/k=4\/k=5\/k=6\/k=7\/k=8\/k=9\/k=10\/k=11\/k=12\/k=13\/k=14\/k=15\/k=16\/k=17\/k=18:=by omega
 rcases this with rfl|rfl|rfl|rfl|rfl|rfl|rfl|rfl|rfl|rfl|rfl|rfl|rfl|rfl|rfl|rfl|rfl|rfl|rfl<;>(show Sem.run _ _ _=_;kernel_rfl)
structure FR (w:World) (p:Row->Bool) (k:Nat) (wr:World):Prop where
 none:∀j,j<k->p (BO j)=false
 res:wr.heap[w.heap.size]?=oC BQ.cells.toArray 311
 oth:wr.heap[w.heap.size+1]?=some (.cells (if 15<k then EM else BQ).cells.toArray 311 (0,0))
 ext:Ext w wr
theorem FR.start (w:World) (p:Row->Bool):FR w p 0 ((w.alloc (.cells BQ.cells.toArray 311)).alloc (.cells BQ.cells.toArray 311)):=
 ⟨λ j h=>absurd h (by omega),heap_alloc2_old w _ _,heap_alloc2_new w _ _,((Ext.refl w).alloc _).alloc _⟩
theorem Gy (h:w.heap[g]?=oC #[a,b,c,d] t):
  g<w.heap.size/\w.cell? (dD g 0)=some a/\w.cell? (dD g 1)=some b/\w.cell? (dD g 2)=some c/\w.cell? (dD g 3)=some d/\
   w.frozen? (dD g 0)=false/\w.frozen? (dD g 1)=false/\w.frozen? (dD g 2)=false/\w.frozen? (dD g 3)=false:=
 ⟨(Array.getElem?_eq_some_iff.1 h).1,by simp[World.cell?,h],by simp[World.cell?,h],by simp[World.cell?,h],by simp[World.cell?,h],
  by simp[World.frozen?,h],by simp[World.frozen?,h],by simp[World.frozen?,h],by simp[World.frozen?,h]⟩
def set4 (w:World) (g:Nat) (a b c d:Value):World:=(((w.setCell (dD g 0) a).setCell (dD g 1) b).setCell (dD g 2) c).setCell (dD g 3) d
theorem DV {a' b' c' d':Value} (h:w.heap[g]?=oC #[a,b,c,d] t):
  (set4 w g a' b' c' d').heap[g]?=oC #[a',b',c',d'] t:=by
 have h1:=heap_setCell_same w g 0 _ t a' h;have h2:=heap_setCell_same _ g 1 _ t b' h1;have h3:=heap_setCell_same _ g 2 _ t c' h2;have h4:=heap_setCell_same _ g 3 _ t d' h3;exact h4
theorem J3 {o:Option Obj} (h:w.heap[k]?=o) (hk:k≠g):(set4 w g a b c d).heap[k]?=o:=by
 unfold set4;rw[heap_setCell_other _ _ _ _ hk,heap_setCell_other _ _ _ _ hk,heap_setCell_other _ _ _ _ hk,heap_setCell_other _ _ _ _ hk,h]
theorem Ext.set4 {a b:World} (h:Ext a b) (hg:a.heap.size<=g) (x y z u:Value):Ext a (set4 b g x y z u):=
 Below.setCell (Below.setCell (Below.setCell (Below.setCell h hg _) hg _) hg _) hg _
theorem RG:∀k,k<19->(BO k).e=21->k=15:=by decide
theorem io_at:BO 15=EM:=rfl
theorem FR.next_io {p:Row->Bool} {r:Row} (h:FR w p k wr) (hr:r=BO k) (hk:k<19) (hp:p r=false) (h21:r.e=21) (hx:Ext w w2) (hres:w2.heap[w.heap.size]?=oC BQ.cells.toArray 311) (hoth:w2.heap[w.heap.size+1]?=oC r.cells.toArray 311):FR w p (k+1) w2:=by
 have hk15:=RG k hk (by rw[<-hr];exact h21);refine⟨λ j hj=> ?_,hres,?_,hx⟩
 ·by_cases e:j=k
  ·rw[e,<-hr];exact hp
  ·exact h.none j (by omega)
 ·subst hk15;rw[if_pos (by omega),hoth,hr,io_at]
theorem FR.next {p:Row->Bool} {r:Row} (h:FR w p k wr) (hr:r=BO k) (hk:k<19) (hp:p r=false) (h21:¬r.e=21) (hx:Ext w w2) (hres:w2.heap[w.heap.size]?=oC BQ.cells.toArray 311) (hoth:w2.heap[w.heap.size+1]?=some (.cells (if 15<k then EM else BQ).cells.toArray 311 (0,0))):FR w p (k+1) w2:=by
 refine⟨λ j hj=> ?_,hres,?_,hx⟩
 ·by_cases e:j=k
  ·rw[e,<-hr];exact hp
  ·exact h.none j (by omega)
 ·have hne:k≠15:=by
   rintro rfl;exact h21 (by rw[hr];rfl)
  rw[hoth];by_cases h15:15<k
  ·rw[if_pos h15,if_pos (by omega)]
  ·rw[if_neg h15,if_neg (by omega)]
theorem La {p:Row->Bool}:∀(l:List Row) (k:Nat),(∀j,j<k->p (l.getD j BQ)=false)->k<l.length->p (l.getD k BQ)=true->l.find? p=some (l.getD k BQ)
 |[],k,_,h,_=>by simp at h
 |x::l,0,_,_,hp=>by
  have hx:p x=true:=by simpa using hp
  simp[List.find?,hx]
 |x::l,k+1,hn,hl,hp=>by
  have hx:p x=false:=by simpa using hn 0 (by omega)
  have:=La l k (λ j hj=>by simpa using hn (j+1) (by omega)) (by simpa using hl) (by simpa using hp);simp only[List.find?,hx,this,List.getD_cons_succ]
theorem Qn (p:Row->Bool) (k:Nat) (hk:k<19) (hn:∀j,j<k->p (BO j)=false) (hp:p (BO k)=true):pick p=BO k:=by
 unfold pick;rw[La rows k hn hk hp];rfl
theorem MV (p:Row->Bool) (hn:∀j,j<19->p (BO j)=false):pick p=EM:=by
 unfold pick;have:rows.find? p=Option.none:=by
  rw[List.find?_eq_none];intro x hx;obtain⟨i,hi,rfl⟩:=List.getElem_of_mem hx;have:=hn i hi;unfold BO at this;rw[List.getD_eq_getElem?_getD,Ud hi] at this;simpa using this
 rw[this];rfl
theorem FR.found {p:Row->Bool} {r:Row} (h:FR w p k wr) (hr:r=BO k) (hk:k<19) (hp:p r=true):pick p=r:=by
 subst hr;exact Qn p k hk h.none hp
theorem FR.lost {p:Row->Bool} (h:FR w p 19 wr):pick p=EM:=MV p h.none
theorem JP (f:FuncId) (caps:Array Value) (p:Row->Bool) (I:World->Prop) (hI:∀w w',I w->Ext w w'->I w') (hcl:∀r w,I w->Calls prog f (#[r.val]++caps) w λ e w'=>e= .returned (.bool (p r))/\Ext w w') (hcf:∀(args:Array Value) (w:World),(callFunc f args).run prog w= .ok (.enter f args) w) (w:World) (ht:Aw w) (hw:I w):
  Calls prog 279 #[.func (.func f) #[] caps] w λ e w'=>e= .returned (pick p).val/\Ext w w':=by
 obtain⟨tt,fr,hg⟩:=ht;have Hg:=hid (show∀o1 o2:Obj,((w.alloc o1).alloc o2).heap[1]?=some (.cells Bb tt fr) from λ o1 o2=>((Ext.refl w).alloc o1|>.alloc o2).heap hg);have HI:=hid hI;have HC:=hid hcl;clear hg hI hcl;go_in;go_wp2_with (refine wpList_load_row rfl 454 _ rfl 1 rfl tt Bb fr _ (Hg.o _ _) underlying454 rfl (by kernel_rfl) ?_);go_loopw [7] (λ v7 wr=>∃k:Nat,k<=19/\v7= iI k/\FR w p k wr) (λ v7 _=>19-(intOf v7).toNat)
 case atStart=>exact⟨0,by omega,rfl,FR.start w p⟩
 case round=>
  obtain⟨k,hk,rfl,HR⟩:=hrel;by_cases hlt:k<19
  ·obtain⟨r,hr⟩:∃r,r=BO k:=⟨_,rfl⟩;have hix:=idx k hlt;rw[<-hr] at hix;unfold Row.val at hix;have Hr:=hid hr;clear hr;have hd:decide ((k:Int)<19)=true:=by simp;omega
   go_wp2_with fail;have hw1:I (wr.alloc (.cells #[iI r.e,.int .u32 r.s,iI r.c,.string ⟨r.t.toArray⟩] 311)):=HI.o _ _ hw (HR.ext.alloc _);refine(HC.o r _ hw1).mono ?_;rintro e w2 ⟨rfl,hx⟩;obtain⟨hn,c0,c1,c2,c3,f0,f1,f2,f3⟩:=Gy (hx.heap (Ub wr _));obtain⟨hn',d0,d1,d2,d3,g0,g1,g2,g3⟩:=Gy (hx.heap ((Ext.alloc (Ext.refl wr) _).heap HR.res));have hoth:=hx.heap ((Ext.alloc (Ext.refl wr) _).heap HR.oth);have hres:=hx.heap ((Ext.alloc (Ext.refl wr) _).heap HR.res);have hxx:Ext w w2:=(HR.ext.alloc _).trans hx;obtain⟨q,hq⟩:∃q,q=(if 15<k then EM else BQ):=⟨_,rfl⟩;rw[<-hq] at hoth;obtain⟨hn2,e0,e1,e2,e3,j0,j1,j2,j3⟩:=Gy hoth;have Hq:=hid hq;have Hoth:=hid hoth;have Hres:=hid hres;clear hx hoth hw1 hq hres;cases hp:p r
   ·by_cases h21:r.e=21
    ·have H21:=hid h21;have hb21:(r.e==21)=true:=by simp[h21]
     clear h21;have N:=hid (show FR w p (k+1) (set4 w2 (w.heap.size+1) (iI r.e) (.int .u32 r.s) (iI r.c) (.string ⟨r.t.toArray⟩)) from
      HR.next_io Hr.o hlt hp H21.o (hxx.set4 (by omega) _ _ _ _) (J3 Hres.o (by omega)) (DV Hoth.o))
     go_wp2_with fail;go_roundw
     case rel=>exact⟨k+1,by omega,by go_num,N.o⟩
     case measure=>simp[intOf];omega
    ·have H21:=hid h21;have hb21:(r.e==21)=false:=by simp[h21]
     clear h21;go_wp2_with fail;go_roundw
     case rel=>exact⟨k+1,by omega,by go_num,HR.next Hr.o hlt hp H21.o hxx Hres.o (by rw[<-Hq.o];exact Hoth.o)⟩
     case measure=>simp[intOf];omega
   ·go_wp2_with fail;refine Ue (v:=r.val) (Uj rfl _ _ w.heap.size 311 r.cells.toArray (0,0) _ rfl (DV Hres.o) underlying311 rfl (by kernel_rfl)) rfl ⟨?_,?_⟩
    ·rw[HR.found Hr.o hlt hp]
    ·exact((((Below.refl _ _).trans hxx).setCell (Uf _) _).setCell (Uf _) _|>.setCell (Uf _) _).setCell (Uf _) _
  ·have hd:decide ((k:Int)<19)=false:=by simp;omega
   obtain rfl:k=19:=by omega
   have hoth:=HR.oth;have hres:=HR.res;simp only[show(15<19)=True from by simp,if_true] at hoth;obtain⟨hn,c0,c1,c2,c3,f0,f1,f2,f3⟩:=Gy hoth;obtain⟨hn',d0,d1,d2,d3,g0,g1,g2,g3⟩:=Gy hres;clear hoth hres;go_wp2_with fail;refine Ue (v:=EM.val) (Uj rfl _ _ w.heap.size 311 EM.cells.toArray (0,0) _ rfl (DV HR.res) underlying311 rfl (by kernel_rfl)) rfl ⟨?_,?_⟩
   ·rw[HR.lost]
   ·exact((((Below.refl _ _).trans HR.ext).setCell (Uf _) _).setCell (Uf _) _|>.setCell (Uf _) _).setCell (Uf _) _
def byE (e:Int):Row:=pick λ r=>r.e==e
def byS (n:Int):Row:=pick λ r=>r.s==n
theorem hcf25 (args:Array Value) (w:World):(callFunc 418 args).run prog w= .ok (.enter 418 args) w:=by kernel_rfl
theorem hcf27 (args:Array Value) (w:World):(callFunc 280 args).run prog w= .ok (.enter 280 args) w:=by kernel_rfl
theorem UE (e:Int) (b:Nat) (w:World) (ht:Aw w) (hb:w.cell? (dD b 0)=some (iI e)):
  Calls prog 279 #[.func (.func 280) #[] #[pP b 0]] w λ r w'=>r= .returned (byE e).val/\Ext w w':=
 JP 280 #[pP b 0] (λ r=>r.e==e) (λ w=>w.cell? (dD b 0)=some (iI e)) (λ _ _ h k=>k.cell h) (λ r w h=>of1 r e b 0 w h) hcf27 w ht hb
theorem UD (e:Int) (b:Nat) (w:World) (ht:Aw w) (hb:w.cell? (dD b 0)=some (.int .u32 e)):
  Calls prog 279 #[.func (.func 418) #[] #[pP b 0]] w λ r w'=>r= .returned (byS e).val/\Ext w w':=
 JP 418 #[pP b 0] (λ r=>r.s==e) (λ w=>w.cell? (dD b 0)=some (.int .u32 e)) (λ _ _ h k=>k.cell h) (λ r w h=>fs1 r e b 0 w h) hcf25 w ht hb
theorem N7 (e:Int) (w:World) (ht:Aw w):Calls prog 172 #[iI e] w λ r w'=>r= .returned (byE e).val/\Ext w w':=by
 have HT:=hid ht;clear ht;go_in;go_wp2_with fail;refine(UE e _ _ (HT.o.ext (((Ext.refl w).alloc _).alloc _)) (by simp)).mono ?_;rintro r w2 ⟨rfl,hx⟩;have hz:=hx.heap (heap_alloc2_new w _ _);obtain⟨hn',d0,d1,d2,d3,g0,g1,g2,g3⟩:=Gy hz;have HX:=hid hx;have HZ:=hid hz;clear hx hz;unfold Row.val;go_wp2_with fail;refine Ue (v:=(byE e).val) (Uj rfl _ _ (w.heap.size+1) 311 (byE e).cells.toArray (0,0) _ rfl (DV HZ.o) underlying311 rfl (by kernel_rfl)) rfl ⟨rfl,?_⟩;exact((((Ext.refl w).alloc _).alloc _).trans HX.o).set4 (by omega) _ _ _ _
theorem fld0 (a b c d:Value) (w:World):(Instr.field 311 (.agg #[a,b,c,d]) 0).run prog w= .ok a w:=by kernel_rfl
theorem fld1 (a b c d:Value) (w:World):(Instr.field 311 (.agg #[a,b,c,d]) 1).run prog w= .ok b w:=by kernel_rfl
theorem fld2 (a b c d:Value) (w:World):(Instr.field 311 (.agg #[a,b,c,d]) 2).run prog w= .ok c w:=by kernel_rfl
theorem fld3 (a b c d:Value) (w:World):(Instr.field 311 (.agg #[a,b,c,d]) 3).run prog w= .ok d w:=by kernel_rfl
theorem Fk (e:Int) (w:World) (ht:Aw w):Calls prog 381 #[.int .u32 e] w λ r w'=>r= .returned (iI (byS e).e)/\Ext w w':=by
 have HT:=hid ht;clear ht;go_in;go_wp2_with fail;refine(UD e _ _ (HT.o.ext ((Ext.refl w).alloc _)) (by simp)).mono ?_;rintro r w2 ⟨rfl,hx⟩;unfold Row.val;have f0:=fld0;go_wp2_with fail;go_ret;exact⟨rfl,((Ext.refl w).alloc _).trans hx⟩
theorem FT (e:Int) (w:World) (ht:Aw w):Calls prog 224 #[iI e] w λ r w'=>r= .returned (.int .u32 (byE e).s)/\Ext w w':=by
 have HT:=hid ht;clear ht;go_in;go_wp2_with fail;refine(N7 e _ HT.o).mono ?_;rintro r w2 ⟨rfl,hx⟩;unfold Row.val;have f1:=fld1;go_wp2_with fail;go_ret;exact⟨rfl,hx⟩
theorem PT (e:Int) (w:World) (ht:Aw w):Calls prog 114 #[iI e] w λ r w'=>r= .returned (iI (byE e).c)/\Ext w w':=by
 have HT:=hid ht;clear ht;go_in;go_wp2_with fail;refine(N7 e _ HT.o).mono ?_;rintro r w2 ⟨rfl,hx⟩;unfold Row.val;have f2:=fld2;go_wp2_with fail;go_ret;exact⟨rfl,hx⟩
def EP:List Int:=rows.map Row.e
theorem UF (k:Nat) (hk:k<19):EP.getD k 0=(BO k).e:=(show∀k,k<19->EP.getD k 0=(BO k).e by decide) k hk
theorem VW:(prog.info? 47).map (λ i=>(i.zero,i.size,i.bytes))=some (some (iI 0),1,8):=by kernel_rfl
def Eg (w:World) (k:Nat) (v:Value) (wr:World):Prop:=wr.ownsRow w.heap.size 47 1 v k ((EP.take k).map (Value.int .i64))/\Ext w wr
theorem Eg.next {w1:World} {v v':Value} {o o':Obj} (h:Eg w k v wr) (hk:k<19) (hown:w1.ownsRow w.heap.size 47 1 v' (k+1) ((EP.take k).map (Value.int .i64)++[iI (BO k).e])) (hg:((wr.alloc o).alloc o').grownBy w1 v.ownBlock):Eg w (k+1) v' w1:=by
 refine⟨?_,?_⟩
 ·have:(EP.take (k+1)).map (Value.int .i64)=(EP.take k).map (Value.int .i64)++[iI (BO k).e]:=by
   have hl:k<EP.length:=hk;rw[List.take_succ_eq_append_getElem hl,List.map_append,<-UF k hk];simp[hl]
  rw[this];exact hown
 ·have h2:Ext w ((wr.alloc o).alloc o'):=(h.2.alloc _).alloc _;exact Below.grown h2 hg h2.size (λ j hj=>(h.1.lt j hj).1)
theorem Mt (w:World) (A:Obj) (x:Value) (t:TypeId):∀j u,[x][j]?=some u->((w.alloc A).alloc (.cells #[x] t)).cell? ((⟨w.heap.size+1,0,none⟩:Addr).add j)=some u:=by
 intro j u hj;cases j with
 |zero=>simp at hj;subst hj;simp[Addr.add]
 |succ j=>simp at hj
theorem SA (w:World) (ht:Aw w):Calls prog 311 #[] w λ r w'=>∃v,r= .returned v/\Eg w 19 v w':=by
 obtain⟨tt,fr,hg⟩:=ht;obtain⟨i0,hi,hz0,hz1,hz2⟩:=info_parts VW;have Hi:=hid hi;have Hz0:=hid hz0;have Hz1:=hid hz1;have Hz2:=hid hz2;clear hi hz0 hz1 hz2;go_in;go_wp2_with (refine wpList_load_row rfl 454 _ rfl 1 rfl tt Bb fr _ hg underlying454 rfl (by kernel_rfl) ?_);go_loopw [1,5] (λ v1 v5 wr=>∃k:Nat,k<=19/\v5= iI k/\Eg w k v1 wr) (λ _ v5 _=>19-(intOf v5).toNat)
 case atStart=>exact⟨0,by omega,rfl,World.ownsRow_nil _ _ _ _,Ext.refl w⟩
 case round=>
  obtain⟨k,hk,rfl,HR⟩:=hrel;by_cases hlt:k<19
  ·have hd:decide ((k:Int)<19)=true:=by simp;omega
   obtain⟨r,hr⟩:∃r,r=BO k:=⟨_,rfl⟩;have hix:=idx k hlt;rw[<-hr] at hix;unfold Row.val at hix;have Hr:=hid hr;clear hr;obtain⟨v',w1,hrun,hown',hgrow,_⟩:=run_append_own (P:=prog) ((wr.alloc (.cells #[iI r.e,.int .u32 r.s,iI r.c,.string ⟨r.t.toArray⟩] 311)).alloc (.cells #[iI r.e] 47)) w.heap.size 413 413 47 i0 (iI 0) 1 8
    underlying413 Hi.o Hz0.o Hz1.o Hz2.o rfl (by decide) u1 k _ ((HR.1.alloc _).alloc _) ⟨wr.heap.size+1,0,none⟩ 1 1 [iI r.e] rfl
    (Mt _ _ _ _) (by simp[Value.oneCell']) (by unfold maxLen;omega) (by omega) (by have:=HR.2.size;simp;omega)
   have N:=hid (HR.next hlt (by rw[<-Hr.o];exact hown') hgrow);have Hrun:=hid hrun;clear hown' hgrow hrun;go_wp2_with (at_builtin;refine jA rfl _ _ _ rfl _ _ _ rfl rfl Hrun.o ?_);go_roundw
   case rel=>exact⟨k+1,by omega,by go_num,N.o⟩
   case measure=>simp[intOf];omega
  ·have hd:decide ((k:Int)<19)=false:=by simp;omega
   obtain rfl:k=19:=by omega
   have H:=hid HR;clear HR;go_wp2_with fail;go_ret;exact⟨_,rfl,H.o⟩
end Go.Proofs.YtdakioiagpkfhaaGreatDoor
