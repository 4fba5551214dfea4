import Derived.Test.YtdakioiagpkfhaaGreatDoorP14
import Derived.Lib.Bytes
import Derived.WalkMore
import Derived.Laws.CopyRow
import Derived.Laws.IdiomCopy
set_option maxRecDepth 99999
set_option maxHeartbeats 0
set_option linter.all false
namespace Go.Proofs.YtdakioiagpkfhaaGreatDoor
open RowKit Conc
open Go.Proofs.Tryz
variable {F G:List Nat} {Fs:List (List Nat)} {R:World->List Nat->Prop} {a b c w w':World} {i n off:Nat} {l:List (World->List Nat->Prop)} {s:ByteArray} {v:Value} {zs:List Int}
structure AP (s:ByteArray):Prop where
 lo:1<=s.size
 hi:s.size<=32
 dot:s.data.toList≠[46]
 up:s.data.toList≠[46,46]
 each:∀i:Nat,i<s.size->∃b,s.data.toList[i]?=some b/\b≠0/\b≠47
theorem CV (hs:AP s) (w:World):Calls prog 271 #[.string s] w λ r w'=>r= .returned (.bool true)/\w=w':=by
 have h1:=hs.lo;have h2:=hs.hi;have d3:(s.toList==[46])=false:=by rw[Lib.toList_data];simpa using hs.dot
 have d4:(s.toList==[46,46])=false:=by rw[Lib.toList_data];simpa using hs.up
 have HE:=hid hs.each;clear hs;go_in;have l7:(1:Int)<=(s.size:Int):=by omega
 have l8:(s.size:Int)<=32:=by omega
 go_wp2;go_step3;go_wp2;go_step3;go_wp2;go_loop [3,23] (λ v3 v23=>∃k:Nat,k<=s.size/\v23= iI k/\v3= .bool true) (λ _ v23=>s.size-(intOf v23).toNat)
 case atStart=>exact⟨0,by omega,rfl,by simp[d3,d4]⟩
 case round=>
  obtain⟨k,hk,rfl,rfl⟩:=hrel;by_cases hlt:k<s.size
  ·obtain⟨b,hb,hb0,hb1⟩:=HE.o k hlt;have hlt2:decide ((k:Int)<(s.size:Int))=true:=by simp;omega
   have hlt3:(k:Int)<(s.size:Int):=by omega
   have hbb:s[k]'hlt=b:=by
    have h3:s.data.toList[k]?=some (s[k]'hlt):=by
     rw[Array.getElem?_toList];exact Array.getElem?_eq_getElem (xs:=s.data) (i:=k) hlt
    rw[h3] at hb;exact Option.some.inj hb
   have q0:¬s[k]'hlt=0:=by rw[hbb];exact hb0
   have q1:¬s[k]'hlt=47:=by rw[hbb];exact hb1
   have q2:¬(s[k]'hlt).toNat=0:=λ e=>q0 (UInt8.toNat_inj.1 (by rw[e];rfl))
   have q3:¬(s[k]'hlt).toNat=47:=λ e=>q1 (UInt8.toNat_inj.1 (by rw[e];rfl))
   have q4:¬((s[k]'hlt).toNat:Int)=0:=by omega
   have q5:¬((s[k]'hlt).toNat:Int)=47:=by omega
   go_wp2
   all_goals first
    |exact⟨⟨k+1,by omega,by simp,rfl⟩,by simp[intOf];omega⟩
    |(exfalso;first|(apply q2;assumption)|(apply q3;assumption)|(apply q0;assumption)|(apply q1;assumption)|(apply q4;assumption)|(apply q5;assumption)|(simp_all;done)|omega)
  ·have hlt2:decide ((k:Int)<(s.size:Int))=false:=by simp;omega
   have hlt3:¬(k:Int)<(s.size:Int):=by omega
   go_wp2;go_ret;exact⟨rfl,rfl⟩
theorem AP.notUp (hs:AP s):(s.toList==[46,46])=false:=by rw[Lib.toList_data];simpa using hs.up
theorem K9 (hs:AP s) (w:World):Calls prog 337 #[.string s] w λ r w'=>r= .returned (.bool true)/\w=w':=by
 have H:=hid (CV hs w);have d4:=hs.notUp;clear hs;go_in;go_wp2_with (go_at_call 271;refine H.o.mono ?_;rintro r w1 ⟨rfl,rfl⟩);go_ret;exact⟨rfl,rfl⟩
theorem GW (h:off+n<=2048) (w:World):Calls prog 428 #[iI off,iI n] w λ r w'=>r= .returned (.bool false)/\w=w':=by
 have w1:IntKind.i64.wrap (2048-(n:Int))=2048-(n:Int):=Uh _ (by omega);have e1:decide (2048<(n:Int))=false:=by simp;omega
 have e2:decide (2048-(n:Int)<(off:Int))=false:=by simp;omega
 by_cases hz:0<n
 ·have e3:decide (0<(n:Int))=true:=by simp;omega
  go_in;go_wp2;go_ret;exact⟨rfl,rfl⟩
 ·have e3:decide (0<(n:Int))=false:=by simp;omega
  go_in;go_wp2;go_ret;exact⟨rfl,rfl⟩
theorem Rd {size room:Nat} (h:off+n<=2048) (hr:off+n<=room+size) (hs:size<=2048) (hro:room<=100000) (w:World):
  Calls prog 405 #[iI size,iI off,iI n,iI room] w λ r w'=>r= .returned (iI 0)/\w=w':=by
 have HT:=hid (GW h w);have w1:IntKind.i64.wrap ((off:Int)+n)=(off:Int)+n:=Uh _ (by omega);have w2:IntKind.i64.wrap ((off:Int)+n-size)=(off:Int)+n-size:=Uh _ (by omega);have e2:decide ((room:Int)<(off:Int)+n-size)=false:=by simp;omega
 by_cases hz:0<n
 ·have e3:decide ((n:Int)<1)=false:=by simp;omega
  go_in;go_wp2_with (go_at_call 428;refine HT.o.mono ?_;rintro r w1 ⟨rfl,rfl⟩);go_ret;exact⟨rfl,rfl⟩
 ·have e3:decide ((n:Int)<1)=true:=by simp;omega
  go_in;go_wp2_with (go_at_call 428;refine HT.o.mono ?_;rintro r w1 ⟨rfl,rfl⟩);go_ret;exact⟨rfl,rfl⟩
theorem Mx (hS:Sl w v zs) (off n:Nat) (hl:zs.length<=5000) (ho:off<=5000) (hn:n<=5000):
  Calls prog 404 #[v,iI off,iI n] w λ r w'=>∃v',r= .returned (.tuple #[v',.bool (decide (zs.length<=off+n))])/\AA w' w.heap.size 5 v' (bv ((zs.drop off).take n))/\Ext w w':=by
 obtain⟨a,c,rfl,hr,hp⟩:=hS;have m1:(if(0:Int)<(off:Int) then(off:Int) else 0)=(off:Int):=by split<;>omega
 have m2:(if(0:Int)<(n:Int) then(n:Int) else 0)=(n:Int):=by split<;>omega
 have m3:(if(off:Int)<0 then(0:Int) else(off:Int))=(off:Int):=by split<;>omega
 have m4:(if(n:Int)<0 then(0:Int) else(n:Int))=(n:Int):=by split<;>omega
 by_cases hlt:off<zs.length
 ·have e1:decide ((zs.length:Int)<=(off:Int))=false:=by simp;omega
  have hc:=hr.2.1;obtain⟨S1,S2⟩:=Sl.take_drop hr hp off (by omega);obtain⟨A,hA⟩:∃A,A=(if c=off then a else a.map (·.add off)):=⟨_,rfl⟩;have R1:=hid (Bd a off zs.length c (by omega) w);rw[<-hA] at S2 R1;obtain⟨m,hm⟩:∃m,m=min n (zs.length-off):=⟨_,rfl⟩;have hd:(zs.drop off).length=zs.length-off:=List.length_drop ..;obtain⟨a2,c2,he,hr2,hp2⟩:=S2;injection he with he1 he2 he3;subst he1 he3;rw[hd] at hr2;have hmle:m<=zs.length-off:=by omega
  have R2:=hid (Bw A m (zs.length-off) (c-off) hmle (by omega) w);have HC:=hid (Ar A m (c-off) ((zs.drop off).take m) (by omega) w (hr2.head hmle) hp2.nil0);have hmin:(if(n:Int)<((zs.length-off:Nat):Int) then(n:Int) else((zs.length-off:Nat):Int))=(m:Int):=by split<;>omega
  have hmin2:(if((zs.length-off:Nat):Int)<(n:Int) then((zs.length-off:Nat):Int) else(n:Int))=(m:Int):=by split<;>omega
  have htk:(zs.drop off).take n=(zs.drop off).take m:=by
   rw[hm];rcases Nat.le_total n (zs.length-off) with h|h
   ·rw[Nat.min_eq_left h]
   ·rw[Nat.min_eq_right h,List.take_of_length_le (by rw[hd];exact h),List.take_of_length_le (by rw[hd];exact Uf _)]
  have hend:(((m:Int)==((zs.length-off:Nat):Int)))=decide (zs.length<=off+n):=by
   rw[Bool.eq_iff_iff];simp;omega
  rw[htk];have HEND:=hid hend;have HM:=hid hmin;have HM2:=hid hmin2;generalize decide (zs.length<=off+n)=E at*;generalize(zs.drop off).take m=ys at*;clear hr hp hr2 hp2 S1 htk hd hend hmin hmin2;clear hA hm m1 m2;clear hmle hc;go_in;have e1':decide (zs.length<=off)=false:=by simpa using e1
  clear he2;have hmin:=HM.o;have hmin2:=HM2.o;have hend:=HEND.o;have hmin3:(if zs.length-off<n then((zs.length-off:Nat):Int) else(n:Int))=(m:Int):=by rw[<-HM2.o];split<;>split<;>omega
  have hmin4:(if n<zs.length-off then(n:Int) else((zs.length-off:Nat):Int))=(m:Int):=by rw[<-HM.o];split<;>split<;>omega
  have hend2:(m==zs.length-off)=E:=by rw[<-HEND.o,Bool.eq_iff_iff];simp;omega
  go_wp2_with (first
   |((with_reducible refine AF (o:=⟨some 19,.slice _ (.tmp 17) (some (.tmp 18)) none none,_,_,_,none⟩) rfl _ _ _ _ _ rfl _ _ _ _ ?_ ?_ ?_ ?_ _ R1.o ?_);(·rfl);(·rfl);(·rfl);(·rfl))
   |((with_reducible refine AF (o:=⟨some 26,.slice _ (.tmp 24) none (some (.tmp 25)) none,_,_,_,none⟩) rfl _ _ _ _ _ rfl _ _ _ _ ?_ ?_ ?_ ?_ _ R2.o ?_);(·rfl);(·rfl);(·rfl);(·rfl))
   |(go_at_call 96;refine HC.o.mono ?_;rintro r w1 ⟨v1,rfl,O1,X1⟩))
  go_ret2;exact⟨_,rfl,O1,X1⟩
 ·have e1:decide ((zs.length:Int)<=(off:Int))=true:=by simp;omega
  have e2:zs.drop off=[]:=List.drop_eq_nil_of_le (by omega);have e3:decide (zs.length<=off+n)=true:=by simp;omega
  rw[e2,e3];clear hr hp;go_in;go_wp2;go_ret2;exact⟨nN,rfl,by simpa [bv] using AA.nil w w.heap.size 5,Ext.refl _⟩
section
variable {P:Program}
theorem EA (w:World) (dT sT ty elem:TypeId) (sz:Nat) (g o dLen dCap:Nat) (a:Addr) (sLen sCap:Nat) (cur:Array Value) (t:TypeId) (cs:List Value) (hu:P.underlying dT=some (.slice elem)) (hs:(P.info? elem).map (·.size)=some sz) (hg:w.heap[g]?=oC cur t) (hn:cs.length=Nat.min sLen dLen*sz) (hsrc:∀j v,cs[j]?=some v->w.cell? (a.add j)=some v) (hfit:o+cs.length<=cur.size) (h1:∀v∈cs,v.oneCell'=true):
  (Builtin.copy_ #[dT,sT] ty #[sS g o dLen dCap,.slice (some a) sLen sCap]).run P w=
   .ok (goInt (Nat.min sLen dLen)) (w.setRow g (cur.toList.take o++cs++cur.toList.drop (o+cs.length)).toArray):=by
 have hl:=run_loadCells_list (P:=P) w a cs hsrc;have hst:=run_storeCells_at P g o t cs 0 cur w hg (by simpa using hfit) h1;cases hq:P.info? elem with
 |none=>simp[hq] at hs
 |some i=>
  have hi:i.size=sz:=by simpa [hq] using hs
  simp[Builtin.copy_,run_underlying hu,Builtin.lenOf,Builtin.firstCells,sizeOf,typeInfo,hq,hi,<-hn,hl,hst]
variable {w w':World} {ops:Array Oper} {rest:List Oper} {o:Oper} {a:Act} {Q:Exit->Act->World->Prop}
end
theorem Ae (w:World) (g:Nat) (cur:Array Value):Upd [g] w (w.setRow g cur):=by
 refine⟨rfl,rfl,rfl,by simp[World.setRow],λ k _ hs=> ?_⟩;have:g≠k:=λ e=>hs (by simp[e])
 simp[World.setRow,Array.getElem?_modify,this]
def Loc (R:World->List Nat->Prop):Prop:=
 (∀w F,R w F->∀b∈F,b<w.heap.size)/\∀w w' F S,R w F->Upd S w w'->(∀b∈F,b∉S)->R w' F
def Mv (w w':World) (F F':List Nat):Prop:=Upd F w w'/\∀b∈F',b∈F\/w.heap.size<=b
theorem Mv.refl (w:World) (F:List Nat):Mv w w F F:=⟨Upd.refl _ _,λ _ h=> .inl h⟩
theorem Mv.trans {H:List Nat} (h:Mv a b F G) (k:Mv b c G H):Mv a c F H:=
 ⟨h.1.trans2 k.1 h.2,λ x hx=>by
  rcases k.2 x hx with h1|h1
  ·exact h.2 x h1
  ·exact .inr (Nat.le_trans h.1.size h1)⟩
theorem Mv.ext (h:Mv a b F G) (k:Ext b c):Mv a c F G:=h.trans ⟨k.upd _,λ _ h=> .inl h⟩
theorem Mv.of_ext (k:Ext a b) (F:List Nat):Mv a b F F:=⟨k.upd _,λ _ h=> .inl h⟩
theorem Mv.same (k:Upd F a b):Mv a b F F:=⟨k,λ _ h=> .inl h⟩
theorem Mv.size (h:Mv a b F G):a.heap.size<=b.heap.size:=h.1.size
structure Ac (w:World) (l:List (World->List Nat->Prop)) (Fs:List (List Nat)):Prop where
 len:Fs.length=l.length
 is:∀(i:Nat) R F,l[i]?=some R->Fs[i]?=some F->R w F/\Loc R
 apart:∀(i j:Nat) F G,i≠j->Fs[i]?=some F->Fs[j]?=some G->∀b∈F,b∉G
theorem Ac.lt (h:Ac w l Fs):∀b∈Fs.flatten,b<w.heap.size:=by
 intro b hb;obtain⟨F,hF,hb⟩:=List.mem_flatten.1 hb;obtain⟨i,hi,he⟩:=List.mem_iff_getElem.1 hF;have hi2:i<l.length:=by rw[<-h.len];exact hi
 obtain⟨h1,h2⟩:=h.is i l[i] F (Ud hi2) (by rw[Ud hi,he]);exact h2.1 w F h1 b hb
theorem Uw (h:Fs[i]?=some F) {b:Nat} (hb:b∈F):b∈Fs.flatten:=
 List.mem_flatten.2 ⟨F,List.mem_of_getElem? h,hb⟩
theorem Nb {F':List Nat} {b:Nat} (hb:b∈(Fs.set i F').flatten):b∈F'\/b∈Fs.flatten:=by
 obtain⟨G,hG,hb⟩:=List.mem_flatten.1 hb;rcases List.mem_or_eq_of_mem_set hG with h|h
 ·exact .inr (List.mem_flatten.2 ⟨G,h,hb⟩)
 ·exact .inl (h▸hb)
theorem Ac.step (h:Ac w l Fs) (i:Nat) (hi:l[i]?=some R):
  ∃F,R w F/\Loc R/\(∀b∈F,b∈Fs.flatten)/\(∀j S,j≠i->l[j]?=some S->∃G,S w G/\(∀b∈G,b∈Fs.flatten)/\∀b∈G,b∉F)/\∀w' R' F',Loc R'->R' w' F'->Mv w w' F F'->∃Fs',Ac w' (l.set i R') Fs'/\Mv w w' Fs.flatten Fs'.flatten/\(F'=F->Fs'=Fs):=by
 have hil:i<l.length:=(List.getElem?_eq_some_iff.1 hi).1;have hil2:i<Fs.length:=by rw[h.len];exact hil
 have hF:=Ud hil2;obtain⟨hR,hL⟩:=h.is i R Fs[i] hi hF;refine⟨Fs[i],hR,hL,λ b hb=>Uw hF hb,λ j S hj hS=> ?_,λ w' R' F' hL' hR' hM=>⟨Fs.set i F',⟨?_,?_,?_⟩,?_,λ e=>by rw[e,List.set_getElem_self]⟩⟩
 ·have hjl:j<Fs.length:=by rw[h.len];exact(List.getElem?_eq_some_iff.1 hS).1
  have hG:=Ud hjl;exact⟨Fs[j],(h.is j S _ hS hG).1,λ b hb=>Uw hG hb,λ b hb=>h.apart j i _ _ hj hG hF b hb⟩
 ·rw[List.length_set,List.length_set,h.len]
 ·intro j S G hj hG;by_cases e:i=j
  ·subst e;rw[List.getElem?_set_self hil] at hj;rw[List.getElem?_set_self hil2] at hG;injection hj with hj;injection hG with hG;subst hj hG;exact⟨hR',hL'⟩
  ·rw[List.getElem?_set_ne e] at hj;rw[List.getElem?_set_ne e] at hG;obtain⟨h1,h2⟩:=h.is j S G hj hG;exact⟨h2.2 w w' G _ h1 hM.1 (λ b hb=>h.apart j i G _ (Ne.symm e) hG hF b hb),h2⟩
 ·intro j k G H hjk hG hH b hb;by_cases e:i=j
  ·subst e;rw[List.getElem?_set_self hil2] at hG;rw[List.getElem?_set_ne hjk] at hH;injection hG with hG;subst hG;rcases hM.2 b hb with h1|h1
   ·exact h.apart i k _ H hjk hF hH b h1
   ·exact λ hm=>by have:=h.lt b (Uw hH hm);omega
  ·rw[List.getElem?_set_ne e] at hG;by_cases e2:i=k
   ·subst e2;rw[List.getElem?_set_self hil2] at hH;injection hH with hH;subst hH;intro hm;rcases hM.2 b hm with h1|h1
    ·exact h.apart j i G _ hjk hG hF b hb h1
    ·have:=h.lt b (Uw hG hb);omega
   ·rw[List.getElem?_set_ne e2] at hH;exact h.apart j k G H hjk hG hH b hb
 ·refine⟨hM.1.mono (λ b hb=>Uw hF hb),λ b hb=> ?_⟩;rcases Nb hb with h1|h1
  ·rcases hM.2 b h1 with h2|h2
   ·exact .inl (Uw hF h2)
   ·exact .inr h2
  ·exact .inl h1
theorem Ac.upd {S:List Nat} (h:Ac w l Fs) (hu:Upd S w w') (hs:∀b∈Fs.flatten,b∉S):Ac w' l Fs:=
 ⟨h.len,λ i R F hi hF=>by
  obtain⟨h1,h2⟩:=h.is i R F hi hF;exact⟨h2.2 w w' F S h1 hu (λ b hb=>hs b (Uw hF hb)),h2⟩,h.apart⟩
theorem Ac.ext (h:Ac w l Fs) (hx:Ext w w'):Ac w' l Fs:=h.upd (hx.upd []) (λ _ _=>by simp)
theorem Ac.nil (w:World):Ac w [] []:=⟨rfl,by simp,by simp⟩
theorem Ac.cons (h:Ac w l Fs) (hR:R w F) (hL:Loc R) (ha:∀b∈F,b∉Fs.flatten):Ac w (R::l) (F::Fs):=by
 refine⟨by simp[h.len],?_,?_⟩
 ·intro i S G hi hG;cases i with
  |zero=>simp at hi hG;subst hi hG;exact⟨hR,hL⟩
  |succ i=>exact h.is i S G (by simpa using hi) (by simpa using hG)
 ·intro i j G H hij hG hH b hb;cases i with
  |zero=>
   cases j with
   |zero=>exact absurd rfl hij
   |succ j=>simp at hG hH;subst hG;exact λ hm=>ha b hb (Uw hH hm)
  |succ i=>
   cases j with
   |zero=>simp at hG hH;subst hH;exact λ hm=>ha b hm (Uw hG hb)
   |succ j=>exact h.apart i j G H (by omega) (by simpa using hG) (by simpa using hH) b hb
theorem Ac.get (h:Ac w l Fs) (i:Nat) (hi:l[i]?=some R):∃F,R w F/\∀b∈F,b∈Fs.flatten:=by
 obtain⟨F,h1,_,h2,_,_⟩:=h.step i hi;exact⟨F,h1,h2⟩
theorem Ac.two (h:Ac w l Fs) {S:World->List Nat->Prop} (i j:Nat) (hij:i≠j) (hi:l[i]?=some R) (hj:l[j]?=some S):∃F G,R w F/\S w G/\(∀b∈F,b∉G):=by
 have hil:i<Fs.length:=by rw[h.len];exact(List.getElem?_eq_some_iff.1 hi).1
 have hjl:j<Fs.length:=by rw[h.len];exact(List.getElem?_eq_some_iff.1 hj).1
 have hF:=Ud hil;have hG:=Ud hjl;exact⟨_,_,(h.is i R _ hi hF).1,(h.is j S _ hj hG).1,h.apart i j _ _ hij hF hG⟩
def Blk (g:Nat) (cs:Array Value) (t:TypeId) (w:World) (F:List Nat):Prop:=F=[g]/\w.heap[g]?=oC cs t
theorem Blk.loc (g:Nat) (cs:Array Value) (t:TypeId):Loc (Blk g cs t):=
 ⟨λ w F h b hb=>by rw[h.1] at hb;simp at hb;subst hb;exact lH h.2,λ w w' F S h hu hs=>⟨h.1,hu.heap h.2 (hs g (by rw[h.1];simp))⟩⟩
def B1 (v:Value) (zs:List Int) (w:World) (F:List Nat):Prop:=F=v.ownBlock.toList/\AA w 0 5 v (bv zs)/\Wf zs
theorem B1.loc (v:Value) (zs:List Int):Loc (B1 v zs):=
 ⟨λ w F h b hb=>by rw[h.1] at hb;simp at hb;exact(h.2.1.lt hb).2,λ w w' F S h hu hs=>⟨h.1,h.2.1.upd hu (λ g hg=>hs g (by rw[h.1];simp[hg])),h.2.2⟩⟩
theorem B1.sl (h:B1 v zs w F):Sl w v zs:=h.2.1.sl h.2.2
end Go.Proofs.YtdakioiagpkfhaaGreatDoor
