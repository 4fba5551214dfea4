import Derived.Test.YtdakioiagpkfhaaGreatDoorP45
set_option maxRecDepth 99999
set_option maxHeartbeats 0
set_option linter.all false
namespace Go.Proofs.YtdakioiagpkfhaaGreatDoor
open RowKit Conc
open Go.Proofs.Tryz
variable {F G G':List Nat} {a:QV} {b base f g i mb sh:Nat} {d:SD} {ds zs:List Int} {m:Int} {ns:List ByteArray} {v:Value} {w w' w0:World}
theorem Loc.ex {α:Type} {R:α->World->List Nat->Prop} (h:∀a,Loc (R a)):Loc (λ w F=>∃a,R a w F):=
 ⟨λ w F ⟨a,ha⟩=>(h a).1 w F ha,λ w w' F S ⟨a,ha⟩ hu hs=>⟨a,(h a).2 w w' F S ha hu hs⟩⟩
structure DS (s wd form:ByteArray) (ws:List ByteArray) (ks:List WK):Prop where
 sp:FJ s ⟨#[32]⟩ (wd::ws)
 ne:∀x∈wd::ws,x.toList≠[]
 sc:Ku form ws ks
section
variable {d:SD} {sh:Nat} {l:List (Int×FV)} {st:Option AE} {n k:Nat} {q:List (QV×List ByteArray×List Int)} {zo:List Int} {w:World} {G:List Nat} {s wd form:ByteArray} {ws:List ByteArray} {ks:List WK} {m:Int}
theorem Q7 (L:DS s wd form ws ks) (hmx:w.cell? (dD 0 0)=some (iI m)) {t:Nat} (h:ShS d sh (t:Int) l st n k q zo w G) (hfr:d.Front) (Q:QIs {a with tag:=t} [] ds) (hM:(msg a.typ t (qb {a with tag:=t} [] ds)).length<=1024) (ht:∀x∈q,x.1.tag≠t) (hm:(q.length:Int)<d.m/\d.m<=8) (hi:i<12) {x y:ByteArray} (hr:Bm i= #[.string x,.string y,fnv f]) (hk:MkR f (ksN ks) (ksT ks) a ds) (eg:∀(args:Array Value) (W:World),(callFunc f args).run prog W= .ok (.enter f args) W) (hf:∀B,∃j,Dk (ddN B 12) wd 0=some (j,dd form (dcl (B i)))):
  Calls prog 35 #[pP sh 0,.string s] w λ r w'=>r= .returned (.string (⟨#[115,101,110,116,32]⟩++dgt t))/\∃G',(∃k,ShS d sh ((t:Int)+1) l st n k (q++[({a with tag:=t},[],ds)]) zo w' G')/\Mv w w' G G':=by
 refine SY (I':=λ W G=>∃k,ShS d sh ((t:Int)+1) l st n k (q++[({a with tag:=t},[],ds)]) zo W G) (Loc.ex λ k=>ShS.loc) (ShS.loc.1 _ _ h) L.sp L.ne L.sc hmx (fid:=126) (cap:=λ B=> #[pP (B i) 0]) hf (λ _ _=>by kernel_rfl) (λ B W vn vt X hB hn hv=> ?_);have hb:=hB i hi;rw[hr] at hb;refine Calls.mono (ldeed (h.ext X) hfr Q hM ht hm hb hk eg hn hv) ?_;rintro r w' ⟨rfl,k',G',h1,h2⟩;exact⟨rfl,G',⟨k',h1⟩,h2⟩
theorem KQ (L:DS s wd form ws ks) (hmx:w.cell? (dD 0 0)=some (iI m)) {R:ByteArray} {I':World->List Nat->Prop} (hL:Loc I') (hG:∀b∈G,b<w.heap.size) (eg:∀(args:Array Value) (W:World),(callFunc f args).run prog W= .ok (.enter f args) W) (hf:∀B,∃j,Dk (ddN B 12) wd 0=some (j,dd form (fnv f))) (hc:∀(W:World) (vn vt:Value),Ext w W->Calls prog f #[pP sh 0,.agg #[vn,vt]] W λ r w'=>r= .returned (.string R)/\∃G',I' w' G'/\Mv W w' G G'):
  Calls prog 35 #[pP sh 0,.string s] w λ r w'=>r= .returned (.string R)/\∃G',I' w' G'/\Mv w w' G G':=
 SY hL hG L.sp L.ne L.sc hmx (fid:=f) (cap:=λ _=> #[]) hf eg (λ B W vn vt X hB hn hv=>hc W vn vt X)
end
theorem QM (bs:ByteArray):∀(n i:Nat) (r:List UInt8),bs.size-i=n->ByteArray.toList.loop bs i r=r.reverse++bs.data.toList.drop i:=by
 intro n
 induction n with
 |zero=>
  intro i r h;rw[ByteArray.toList.loop,if_neg (by omega),List.drop_eq_nil_of_le (by show bs.data.size<=i;have:bs.size=bs.data.size:=rfl;omega),List.append_nil]
 |succ n ih=>
  intro i r h;have hs:bs.size=bs.data.size:=rfl;have hi:i<bs.data.toList.length:=by show i<bs.data.size;omega
  rw[ByteArray.toList.loop,if_pos (by omega),ih _ _ (by omega),List.drop_eq_getElem_cons hi];have:bs.get! i=bs.data.toList[i]:=by
   show bs.data[i]! =_
   rw[getElem!_pos bs.data i (by omega)];simp
  rw[this];simp
theorem tl (bs:ByteArray):bs.toList=bs.data.toList:=by
 rw[ByteArray.toList,QM bs _ 0 [] rfl];simp
theorem OA:GE ⟨#[48]⟩ 0:=⟨by decide,by decide,by decide,by rfl,by rfl⟩
theorem num1:GE ⟨#[49]⟩ 1:=⟨by decide,by decide,by decide,by rfl,by rfl⟩
theorem num2:GE ⟨#[50]⟩ 2:=⟨by decide,by decide,by decide,by rfl,by rfl⟩
theorem num9:GE ⟨#[57]⟩ 9:=⟨by decide,by decide,by decide,by rfl,by rfl⟩
theorem TT:GE ⟨#[52,50,48]⟩ 420:=⟨by decide,by decide,by decide,by rfl,by rfl⟩
theorem txt_:Jg ⟨#[45]⟩ ⟨#[]⟩:=⟨by decide,TU⟩
theorem txtf:Jg ⟨#[102]⟩ ⟨#[102]⟩:=⟨by decide,SN ⟨#[102]⟩ (by decide) (by rw[tl];decide) (by rw[tl];decide) (λ i hi=>by
 have:i=0:=by have:i<1:=hi;omega
 subst this;exact⟨(by decide:33<=102),(by decide:102<=126),(by decide:102≠37)⟩)⟩
theorem txta:Jg ⟨#[97]⟩ ⟨#[97]⟩:=⟨by decide,SN ⟨#[97]⟩ (by decide) (by rw[tl];decide) (by rw[tl];decide) (λ i hi=>by
 have:i=0:=by have:i<1:=hi;omega
 subst this;exact⟨(by decide:33<=97),(by decide:97<=126),(by decide:97≠37)⟩)⟩
theorem JA:DS ⟨#[97,116,116,97,99,104,32,48,32,45]⟩ ⟨#[97,116,116,97,99,104]⟩ ⟨#[78,84]⟩ [⟨#[48]⟩,⟨#[45]⟩] [.n 0,.t ⟨#[]⟩]:=by
 refine⟨⟨by decide,by decide,by rfl,by rfl,by decide⟩,by simp only[tl];decide,⟨rfl,rfl,by decide,by rfl,λ i h h2 h3=> ?_⟩⟩
 match i,h,h2,h3 with
 |0,_,_,_=>exact .inl ⟨0,rfl,rfl,OA⟩
 |1,_,_,_=>exact .inr ⟨⟨#[]⟩,rfl,(by decide:(84:Nat)≠78),txt_⟩
 |i+2,h,_,_=>exact absurd h (by simp)
theorem JB:DS ⟨#[97,108,108]⟩ ⟨#[97,108,108]⟩ ⟨#[]⟩ [] []:=by
 refine⟨⟨by decide,by decide,by rfl,by rfl,by decide⟩,by simp only[tl];decide,⟨rfl,rfl,by decide,by rfl,λ i h h2 h3=> ?_⟩⟩
 match i,h,h2,h3 with
 |i+0,h,_,_=>exact absurd h (by simp)
theorem I9:DS ⟨#[99,114,101,97,116,101,32,48,32,102,32,52,50,48,32,50]⟩ ⟨#[99,114,101,97,116,101]⟩ ⟨#[78,84,78,78]⟩ [⟨#[48]⟩,⟨#[102]⟩,⟨#[52,50,48]⟩,⟨#[50]⟩] [.n 0,.t ⟨#[102]⟩,.n 420,.n 2]:=by
 refine⟨⟨by decide,by decide,by rfl,by rfl,by decide⟩,by simp only[tl];decide,⟨rfl,rfl,by decide,by rfl,λ i h h2 h3=> ?_⟩⟩
 match i,h,h2,h3 with
 |0,_,_,_=>exact .inl ⟨0,rfl,rfl,OA⟩
 |1,_,_,_=>exact .inr ⟨⟨#[102]⟩,rfl,(by decide:(84:Nat)≠78),txtf⟩
 |2,_,_,_=>exact .inl ⟨420,rfl,rfl,TT⟩
 |3,_,_,_=>exact .inl ⟨2,rfl,rfl,num2⟩
 |i+4,h,_,_=>exact absurd h (by simp)
theorem KR:DS ⟨#[119,114,105,116,101,32,48,32,49,32,97]⟩ ⟨#[119,114,105,116,101]⟩ ⟨#[78,78,84]⟩ [⟨#[48]⟩,⟨#[49]⟩,⟨#[97]⟩] [.n 0,.n 1,.t ⟨#[97]⟩]:=by
 refine⟨⟨by decide,by decide,by rfl,by rfl,by decide⟩,by simp only[tl];decide,⟨rfl,rfl,by decide,by rfl,λ i h h2 h3=> ?_⟩⟩
 match i,h,h2,h3 with
 |0,_,_,_=>exact .inl ⟨0,rfl,rfl,OA⟩
 |1,_,_,_=>exact .inl ⟨1,rfl,rfl,num1⟩
 |2,_,_,_=>exact .inr ⟨⟨#[97]⟩,rfl,(by decide:(84:Nat)≠78),txta⟩
 |i+3,h,_,_=>exact absurd h (by simp)
theorem Mc:DS ⟨#[114,101,97,100,32,48,32,48,32,57]⟩ ⟨#[114,101,97,100]⟩ ⟨#[78,78,78]⟩ [⟨#[48]⟩,⟨#[48]⟩,⟨#[57]⟩] [.n 0,.n 0,.n 9]:=by
 refine⟨⟨by decide,by decide,by rfl,by rfl,by decide⟩,by simp only[tl];decide,⟨rfl,rfl,by decide,by rfl,λ i h h2 h3=> ?_⟩⟩
 match i,h,h2,h3 with
 |0,_,_,_=>exact .inl ⟨0,rfl,rfl,OA⟩
 |1,_,_,_=>exact .inl ⟨0,rfl,rfl,OA⟩
 |2,_,_,_=>exact .inl ⟨9,rfl,rfl,num9⟩
 |i+3,h,_,_=>exact absurd h (by simp)
theorem OT:DS ⟨#[111,117,116]⟩ ⟨#[111,117,116]⟩ ⟨#[]⟩ [] []:=by
 refine⟨⟨by decide,by decide,by rfl,by rfl,by decide⟩,by simp only[tl];decide,⟨rfl,rfl,by decide,by rfl,λ i h h2 h3=> ?_⟩⟩
 match i,h,h2,h3 with
 |i+0,h,_,_=>exact absurd h (by simp)
def t1:TV:={typ:=105,tag:=0,q:=⟨true,1,1⟩}
def t2:TV:={typ:=115,tag:=1,iounit:=1000,q:=⟨false,1,2⟩}
def t3:TV:={typ:=119,tag:=2,count:=1}
def t4:TV:={typ:=117,tag:=3}
theorem ti1:TIs t1 none []:= .attach ⟨by decide,by decide⟩ ⟨⟨by decide,by decide⟩,⟨by decide,by decide⟩⟩
theorem ti2:TIs t2 none []:= .create ⟨by decide,by decide⟩ ⟨⟨by decide,by decide⟩,⟨by decide,by decide⟩⟩ ⟨by decide,by decide⟩
theorem ti3:TIs t3 none []:= .write ⟨by decide,by decide⟩ ⟨by decide,by decide⟩
theorem ti4:TIs t4 none [0,97]:= .read ⟨by decide,by decide⟩ ⟨by decide,by intro z hz;simp at hz;rcases hz with rfl|rfl<;>rfl⟩
theorem rep1:Rep t1 [] ⟨#[48,58,97,116,116,97,99,104,44,100,49,46,49]⟩ where
 is:=ti1
 k:=by simp[isL,t1]
 pr:=λ base dv w h=>by
  obtain rfl:dv= nN:=h;refine Calls.mono (IE (g:=0) (t:=t1) (A:=⟨#[97,116,116,97,99,104]⟩) (B:=⟨#[100,49,46,49]⟩) (J:=⟨#[97,116,116,97,99,104,44,100,49,46,49]⟩) (by decide) rfl (by decide) (by rfl) (by decide) (λ W X=>I8 (k:=105) (dir:=true) (v:=1) (p:=1) (.inl rfl) (by decide) (by decide) W)) ?_;rintro r w' ⟨rfl,hx⟩;exact⟨by congr 2,hx⟩
theorem rep2:Rep t2 [] ⟨#[49,58,99,114,101,97,116,101,44,102,50,46,49]⟩ where
 is:=ti2
 k:=by simp[isL,t2]
 pr:=λ base dv w h=>by
  obtain rfl:dv= nN:=h;refine Calls.mono (IE (g:=1) (t:=t2) (A:=⟨#[99,114,101,97,116,101]⟩) (B:=⟨#[102,50,46,49]⟩) (J:=⟨#[99,114,101,97,116,101,44,102,50,46,49]⟩) (by decide) rfl (by decide) (by rfl) (by decide) (λ W X=>I8 (k:=115) (dir:=false) (v:=1) (p:=2) (.inr rfl) (by decide) (by decide) W)) ?_;rintro r w' ⟨rfl,hx⟩;exact⟨by congr 2,hx⟩
theorem rep3:Rep t3 [] ⟨#[50,58,119,114,105,116,101,44,49]⟩ where
 is:=ti3
 k:=by simp[isL,t3]
 pr:=λ base dv w h=>by
  obtain rfl:dv= nN:=h;refine Calls.mono (IE (g:=2) (t:=t3) (A:=⟨#[119,114,105,116,101]⟩) (B:=⟨#[49]⟩) (J:=⟨#[119,114,105,116,101,44,49]⟩) (by decide) rfl (by decide) (by rfl) (by decide) (λ W X=>OO (c:=1) (by decide) W)) ?_;rintro r w' ⟨rfl,hx⟩;exact⟨by congr 2,hx⟩
theorem rep4:Rep t4 [0,97] ⟨#[51,58,114,101,97,100,44,37,48,48,97]⟩ where
 is:=ti4
 k:=by simp[isL,t4]
 pr:=λ base dv w h=>by
  obtain⟨a,n,c,rfl⟩:=DF.sl h;have hs:Sl w (.slice a n c) [0,97]:=h.1;refine Calls.mono (IE (g:=3) (t:=t4) (A:=⟨#[114,101,97,100]⟩) (B:=⟨#[37,48,48,97]⟩) (J:=⟨#[114,101,97,100,44,37,48,48,97]⟩) (by decide) rfl (by decide) (by rfl) (by decide) (λ W X=>ON (s:=⟨#[0,97]⟩) (hs.ext X) (by rfl) (by decide) (by rw[tl];decide) (by rw[tl];decide) (λ i hi=> ?_))) ?_
  ·have:i=0\/i=1:=by have:i<2:=hi;omega
   rcases this with rfl|rfl
   ·exact .inl rfl
   ·exact .inr ⟨(by decide:33<=97),(by decide:97<=126),(by decide:97≠37)⟩
  rintro r w' ⟨rfl,hx⟩;exact⟨by congr 2,hx⟩
abbrev Rq:=QV×List ByteArray×List Int
def r1:Rq:=({typ:=104,tag:=(0:Nat),fid:=0,name:=⟨#[]⟩},[],[])
def r2:Rq:=({typ:=114,tag:=(1:Nat),fid:=0,mode:=2,perm:=420,name:=⟨#[102]⟩},[],[])
def r3:Rq:=({typ:=118,tag:=(2:Nat),fid:=0,off:=1},[],sb ⟨#[97]⟩)
def r4:Rq:=({typ:=116,tag:=(3:Nat),fid:=0,off:=0,count:=9},[],[])
def f1:AE:={name:=⟨#[102]⟩,md:=420}
def f2:AE:={f1 with zs:=[0,97],fresh:=false}
def fl1:List (Int×FV):=[(0,⟨1,1,1,1,⟨#[]⟩,true,false,0,0,0⟩)]
def fl2:List (Int×FV):=[(0,⟨2,1,1,1,⟨#[102]⟩,false,true,2,0,0⟩)]
theorem gf:AP ⟨#[102]⟩:=⟨by decide,by decide,by decide,by decide,λ i hi=>by
 have:i=0:=by have:i<1:=hi;omega
 subst this;exact⟨102,rfl,by decide,by decide⟩⟩
theorem ops1:GG 4096 [] none 0 [r1] fl1 none 1 (mg (t1,[])):=by
 have h:=GG.cons (room:=4096) (GOp.attach (l:=[]) (st:=none) (n:=0) (tag:=0) (k:=0) (name:=⟨#[]⟩) rfl (by decide) (by decide)) ti1 .nil;rw[List.append_nil] at h;exact h
theorem ops2:GG 4096 fl1 none 1 [r2,r3,r4] fl2 (some f2) 4 (mg (t2,[])++(mg (t3,[])++(mg (t4,[0,97])++[]))):=by
 refine GG.cons (GOp.create (tag:=1) (k:=0) (m:=2) (f3:=1) (f4:=1) (f8:=0) (f9:=0) (f10:=0) (f5:=⟨#[]⟩) (f6:=true) (.inr (.inr rfl)) gf rfl (by decide)) ti2 ?_;refine GG.cons (GOp.write (f:=f1) (o:=1) (ds:=sb ⟨#[97]⟩) (tag:=2) (k:=0) (m:=2) (f3:=1) (f4:=1) (f9:=0) (f10:=0) (f5:=⟨#[102]⟩) (f6:=false) rfl ⟨by decide,by decide,by decide⟩ (by decide) (by decide) (by decide) (.inr rfl) rfl (by decide)) ti3 ?_;exact GG.cons (GOp.read (f:=f2) (o:=0) (kc:=9) (tag:=3) (k:=0) (m:=2) (f3:=1) (f4:=1) (f9:=0) (f10:=0) (f5:=⟨#[102]⟩) ⟨by decide,by decide,by decide⟩ (by intro z hz;change z∈[0,97] at hz;simp at hz;rcases hz with rfl|rfl<;>rfl) (by decide) (by decide) (.inr rfl) rfl (by decide)) ti4 .nil
def rsL:List (TV×List Int):=[(t1,[]),(t2,[]),(t3,[]),(t4,[0,97])]
def LnI (d:SD) (sh:Nat) (i:Nat) (w:World) (G:List Nat):Prop:=∃k,match i with
 |0=>ShS d sh ((0:Nat):Int) [] none 0 k [] [] w G
 |1=>ShS d sh ((1:Nat):Int) [] none 0 k [r1] [] w G
 |2=>ShS d sh ((1:Nat):Int) fl1 none 1 k [] (mg (t1,[])) w G
 |3=>ShS d sh ((2:Nat):Int) fl1 none 1 k [r2] (mg (t1,[])) w G
 |4=>ShS d sh ((3:Nat):Int) fl1 none 1 k [r2,r3] (mg (t1,[])) w G
 |5=>ShS d sh ((4:Nat):Int) fl1 none 1 k [r2,r3,r4] (mg (t1,[])) w G
 |6=>ShS d sh ((4:Nat):Int) fl2 (some f2) 4 k [] (rsL.map mg).flatten w G
 |_=>ShS d sh ((4:Nat):Int) fl2 (some f2) 4 k [] [] w G
theorem LnI.loc (d:SD) (sh i:Nat):Loc (LnI d sh i):=by
 refine Loc.ex λ k=> ?_
 match i with
 |0=>exact ShS.loc
 |1=>exact ShS.loc
 |2=>exact ShS.loc
 |3=>exact ShS.loc
 |4=>exact ShS.loc
 |5=>exact ShS.loc
 |6=>exact ShS.loc
 |i+7=>exact ShS.loc
structure DOk (d:SD):Prop where
 sc:d.c.Scripts
 fr:d.Front
 m:d.m=4
 room:d.c.room=4096
section
variable {d:SD} {sh:Nat} {w:World} {G:List Nat} {m:Int}
theorem Ti (D:DOk d) (hmx:w.cell? (dD 0 0)=some (iI m)) (h:LnI d sh 0 w G):
  Calls prog 35 #[pP sh 0,.string ⟨#[97,116,116,97,99,104,32,48,32,45]⟩] w λ r w'=>r= .returned (.string ⟨#[115,101,110,116,32,48]⟩)/\∃G',LnI d sh 1 w' G'/\Mv w w' G G':=by
 obtain⟨k,h⟩:=h;refine Calls.mono (Q7 JA hmx (t:=0) h D.fr (a:={typ:=104,fid:=0,name:=⟨#[]⟩}) (.attach (.inl rfl) ⟨by decide,by decide⟩ (by decide)) (by decide) (by simp) (by rw[D.m];decide) (f:=190) (i:=1) (by decide) rfl (MY 0 ⟨#[]⟩) (λ _ _=>by kernel_rfl) (λ B=>⟨_,rfl⟩)) ?_;rintro r w' ⟨rfl,G',h1,h2⟩;exact⟨by congr 2,G',h1,h2⟩
theorem Tg (D:DOk d) (hmx:w.cell? (dD 0 0)=some (iI m)) (h:LnI d sh 2 w G):
  Calls prog 35 #[pP sh 0,.string ⟨#[99,114,101,97,116,101,32,48,32,102,32,52,50,48,32,50]⟩] w λ r w'=>r= .returned (.string ⟨#[115,101,110,116,32,49]⟩)/\∃G',LnI d sh 3 w' G'/\Mv w w' G G':=by
 obtain⟨k,h⟩:=h;refine Calls.mono (Q7 I9 hmx (t:=1) h D.fr (a:={typ:=114,fid:=0,perm:=420,mode:=2,name:=⟨#[102]⟩}) (.create (.inr (.inl rfl)) ⟨by decide,by decide⟩ ⟨by decide,by decide⟩ ⟨by decide,by decide⟩ (by decide)) (by decide) (by simp) (by rw[D.m];decide) (f:=193) (i:=4) (by decide) rfl (MX 0 420 2 ⟨#[102]⟩) (λ _ _=>by kernel_rfl) (λ B=>⟨_,rfl⟩)) ?_;rintro r w' ⟨rfl,G',h1,h2⟩;exact⟨by congr 2,G',h1,h2⟩
theorem Tf (D:DOk d) (hmx:w.cell? (dD 0 0)=some (iI m)) (h:LnI d sh 3 w G):
  Calls prog 35 #[pP sh 0,.string ⟨#[119,114,105,116,101,32,48,32,49,32,97]⟩] w λ r w'=>r= .returned (.string ⟨#[115,101,110,116,32,50]⟩)/\∃G',LnI d sh 4 w' G'/\Mv w w' G G':=by
 obtain⟨k,h⟩:=h;refine Calls.mono (Q7 KR hmx (t:=2) h D.fr (a:={typ:=118,fid:=0,off:=1}) (.write (.inr (.inr (.inl rfl))) ⟨by decide,by decide⟩ ⟨by decide,by decide⟩ ⟨by decide,Cl _⟩) (by decide) (by simp[r2]) (by rw[D.m];decide) (f:=195) (i:=6) (by decide) rfl (OF 0 1 ⟨#[97]⟩ (by decide)) (λ _ _=>by kernel_rfl) (λ B=>⟨_,rfl⟩)) ?_;rintro r w' ⟨rfl,G',h1,h2⟩;exact⟨by congr 2,G',h1,h2⟩
theorem Te (D:DOk d) (hmx:w.cell? (dD 0 0)=some (iI m)) (h:LnI d sh 4 w G):
  Calls prog 35 #[pP sh 0,.string ⟨#[114,101,97,100,32,48,32,48,32,57]⟩] w λ r w'=>r= .returned (.string ⟨#[115,101,110,116,32,51]⟩)/\∃G',LnI d sh 5 w' G'/\Mv w w' G G':=by
 obtain⟨k,h⟩:=h;refine Calls.mono (Q7 Mc hmx (t:=3) h D.fr (a:={typ:=116,fid:=0,off:=0,count:=9}) (.read (.inr (.inr (.inr rfl))) ⟨by decide,by decide⟩ ⟨by decide,by decide⟩ ⟨by decide,by decide⟩) (by decide) (by simp[r2,r3]) (by rw[D.m];decide) (f:=194) (i:=5) (by decide) rfl (Qy 0 0 9) (λ _ _=>by kernel_rfl) (λ B=>⟨_,rfl⟩)) ?_;rintro r w' ⟨rfl,G',h1,h2⟩;exact⟨by congr 2,G',h1,h2⟩
theorem Th (D:DOk d) (hmx:w.cell? (dD 0 0)=some (iI m)) (h:LnI d sh 1 w G):
  Calls prog 35 #[pP sh 0,.string ⟨#[97,108,108]⟩] w λ r w'=>r= .returned (.string ⟨#[49]⟩)/\∃G',LnI d sh 2 w' G'/\Mv w w' G G':=by
 have hl:=(LnI.loc d sh 1).1 _ _ h;obtain⟨k,h⟩:=h;refine KQ JB hmx (LnI.loc d sh 2) hl (f:=119) (λ _ _=>by kernel_rfl) (λ B=>⟨_,rfl⟩) (λ W vn vt X=> ?_);refine Calls.mono (lall D.sc (h.ext X) (by rw[D.room];exact ops1) (by decide) (by decide)) ?_;rintro r w' ⟨rfl,G',h1,h2⟩;rw[List.nil_append] at h1;exact⟨by congr 2,G',⟨k,h1⟩,h2⟩
theorem fl5:mg (t1,[])++(mg (t2,[])++(mg (t3,[])++(mg (t4,[0,97])++[])))=(rsL.map mg).flatten:=by simp[rsL]
theorem Td (D:DOk d) (hmx:w.cell? (dD 0 0)=some (iI m)) (h:LnI d sh 5 w G):
  Calls prog 35 #[pP sh 0,.string ⟨#[97,108,108]⟩] w λ r w'=>r= .returned (.string ⟨#[51]⟩)/\∃G',LnI d sh 6 w' G'/\Mv w w' G G':=by
 have hl:=(LnI.loc d sh 5).1 _ _ h;obtain⟨k,h⟩:=h;refine KQ JB hmx (LnI.loc d sh 6) hl (f:=119) (λ _ _=>by kernel_rfl) (λ B=>⟨_,rfl⟩) (λ W vn vt X=> ?_);refine Calls.mono (lall D.sc (h.ext X) (by rw[D.room];exact ops2) (by decide) (by decide)) ?_;rintro r w' ⟨rfl,G',h1,h2⟩;rw[fl5] at h1;exact⟨by congr 2,G',⟨k,h1⟩,h2⟩
theorem Tc (D:DOk d) (hmx:w.cell? (dD 0 0)=some (iI m)) (h:LnI d sh 6 w G):
  Calls prog 35 #[pP sh 0,.string ⟨#[111,117,116]⟩] w λ r w'=>r= .returned (.string ⟨#[48,58,97,116,116,97,99,104,44,100,49,46,49,32,49,58,99,114,101,97,116,101,44,102,50,46,49,32,50,58,119,114,105,116,101,44,49,32,51,58,114,101,97,100,44,37,48,48,97]⟩)/\∃G',LnI d sh 7 w' G'/\Mv w w' G G':=by
 have hl:=(LnI.loc d sh 6).1 _ _ h;obtain⟨k,h⟩:=h;refine KQ OT hmx (LnI.loc d sh 7) hl (f:=120) (λ _ _=>by kernel_rfl) (λ B=>⟨_,rfl⟩) (λ W vn vt X=> ?_);refine Calls.mono (lout (rs:=rsL) (ps:=[⟨#[48,58,97,116,116,97,99,104,44,100,49,46,49]⟩,⟨#[49,58,99,114,101,97,116,101,44,102,50,46,49]⟩,⟨#[50,58,119,114,105,116,101,44,49]⟩,⟨#[51,58,114,101,97,100,44,37,48,48,97]⟩]) (h.ext X) rfl (by decide) (by decide) (λ i h1 h2=> ?_) (by decide) (J:=⟨#[48,58,97,116,116,97,99,104,44,100,49,46,49,32,49,58,99,114,101,97,116,101,44,102,50,46,49,32,50,58,119,114,105,116,101,44,49,32,51,58,114,101,97,100,44,37,48,48,97]⟩) (by rfl) (by decide)) ?_
 ·match i,h1,h2 with
  |0,_,_=>exact rep1
  |1,_,_=>exact rep2
  |2,_,_=>exact rep3
  |3,_,_=>exact rep4
  |i+4,h,_=>exact absurd h (by simp[rsL])
 rintro r w' ⟨rfl,G',h1,h2⟩;exact⟨rfl,G',⟨k,h1⟩,h2⟩
end
theorem SI:Lays.n240 prog shR:={LB with}
def BW (base b:Nat) (zs:List Int) (w:World) (F:List Nat):Prop:=
 base<=b/\∃p v,(p= .pointer none\/p= pP b 0)/\w.heap[b]?=oC #[p,v] 105/\AA w base 5 v (bv zs)/\v.ownBlock≠some b/\F=b::v.ownBlock.toList
theorem UQ {p:Value} (hp:p= .pointer none\/p= pP b 0) (hb:w.heap[b]?=oC #[p,v] 105):
  Calls prog 77 #[pP b 0] w λ e w'=>e= .returned (.tuple #[])/\w'.heap[b]?=oC #[pP b 0,v] 105/\Upd [b] w w':=by
 rcases hp with rfl|rfl
 ·refine(Any.Builder_copyCheck_fresh SI {shX with} b w (cO hb 0) ?_ (fO hb 0)).mono ?_
  ·simp[World.shape?,hb];rfl
  ·rintro e w' ⟨rfl,rfl⟩;exact⟨rfl,jP (i:=0) _ hb,(Upd.refl _ _).setCell _ _ (.inl (by simp))⟩
 ·refine(Any.Builder_copyCheck_used SI {shX with} b w (cO hb 0)).mono ?_;rintro e w' ⟨rfl,rfl⟩;exact⟨rfl,hb,Upd.refl _ _⟩
theorem AA.appStr2 (h:AA w base 5 v (bv zs)) (s:ByteArray) (hl:zs.length+s.size<=10000000) (hb:base<=w.heap.size) (ty:TypeId):
  ∃v' w',(Builtin.append_ #[26,9] ty #[v,.string s]).run prog w= .ok v' w'/\AA w' base 5 v' (bv (zs++sb s))/\w.grownBy w' v.ownBlock/\∀g,v'.ownBlock=some g->v.ownBlock=some g\/w.heap.size<=g:=by
 obtain⟨v',w',h1,h2,h3⟩:=h.appStr s hl hb ty;refine⟨v',w',h1,h2,h3,λ k hk=> ?_⟩;obtain⟨i0,hi,hz0,hz1,hz2⟩:=info_parts BR;rcases h.form with⟨rfl,e⟩|⟨g,cap,cur,rfl,hbg,hn,hm,hg,hs,ht⟩
 ·have hz:zs=[]:=by cases zs with
   |nil=>rfl
   |cons a l=>simp[bv] at e
  subst hz;obtain⟨v2,w2,k1,k2,-⟩:=(AA.nil w w.heap.size 5:AA w w.heap.size 5 _ (bv [])).appStr s hl (Uf _) ty;rw[h1] at k1;injection k1 with e1 e2;subst e1 e2;exact .inr (k2.lt hk).1
 ·by_cases hr:(bv zs).length+s.size<=cap
  ·have k1:=Lib.run_append_room_string (P:=prog) w 26 9 ty 5 i0 underlying26 underlying9 hi hz1 g (bv zs).length cap cur hg s hr (by omega);rw[h1] at k1;injection k1 with e1 e2;subst e1;exact .inl (by simpa [Value.ownBlock] using hk)
  ·have k1:=Lib.run_append_grow_string (P:=prog) w 26 9 ty 5 i0 (.int .u8 0) underlying26 underlying9 hi hz0 ⟨g,0,none⟩ (bv zs).length cap (bv zs) (by rw[hz1];omega) (λ j u hu=>by
    obtain⟨hj,e⟩:=List.getElem?_eq_some_iff.1 hu;obtain⟨g',c',ev,-,-,-,-,q,-⟩:=h.cell hj;simp only[Value.slice.injEq,Option.some.injEq,Addr.mk.injEq] at ev;obtain⟨⟨rfl,-,-⟩,-,-⟩:=ev;rw[<-e,<-q];by_cases hj0:j=0<;>simp[Addr.add,hj0]) s (by omega) (by rw[AS];omega) (by
     rw[hz2];have:=AS zs;exact growslice_fits (by omega) (by omega))
   rw[h1] at k1;injection k1 with e1 e2;subst e1;exact .inr (by simp[Value.ownBlock] at hk;omega)
theorem UP (h:BW base b zs w F) (s:ByteArray) (hl:zs.length+s.size<=10000000) (hb:base<=w.heap.size):
  Calls prog 36 #[pP b 0,.string s] w λ r w'=>(∃v,r= .returned v)/\∃F',BW base b (zs++sb s) w' F'/\Mv w w' F F':=by
 obtain⟨h0,p,v,hp,hv,hO,hne,rfl⟩:=h;have HC:=hid (UQ hp hv);have HO:=hid hO;have hbl:=lH hv;clear hp hv hO;go_in;go_wp2_with fail;refine HC.o.mono ?_;rintro r w1 ⟨rfl,hb1,U1⟩;have hO1:=HO.o.upd U1 (λ g hg hm=>by simp at hm;subst hm;exact hne hg);obtain⟨v',w2,q1,q2,q3,q4⟩:=hO1.appStr2 s hl (Nat.le_trans hb U1.size) 26;obtain⟨a',n',c',rfl⟩:∃a n c,v'= .slice a n c:=by rcases q2.form with⟨h,-⟩|⟨g,c,_,h,-⟩<;>exact⟨_,_,_,h⟩
 have hb2:=Br q3 hb1 (λ e=>hne e.symm);have hne2:(Value.slice a' n' c').ownBlock≠some b:=λ e=>by
  rcases q4 _ e with h|h
  ·exact hne h
  ·have:=lH hb1;omega
 have HQ:=hid q1;have HO2:=hid q2;have HM:=hid (show Mv w w2 (b::v.ownBlock.toList) (b::(Value.slice a' n' c').ownBlock.toList) from⟨(U1.mono (by simp)).trans (Ec q3 (λ g hg=> .inl (by simp[hg]))),λ x hx=>by
  rcases Um.1 hx with rfl|hx
  ·exact .inl (by simp)
  ·rcases q4 x (by simpa using hx) with h|h
   ·exact .inl (by simp[h])
   ·have:=U1.size;exact .inr (by omega)⟩)
 have c1:w1.cell? (dD b 1)=some v:=cO hb1 1;have c2:=cO hb2 1;have f2:=fO hb2 1;have hl2:=lH hb2;have hl1:=lH hb1;have HB2:=hid hb2;clear q1 q2 q3 q4 hb1 hO1 U1 HC hb2;go_wp2_with (at_builtin;refine jA rfl (.tmp 12) (.tmp 13) _ rfl _ _ _ rfl rfl HQ.o ?_);go_ret2;have hU:=(Upd.refl [b] w2).setCell (dD b 1) (.slice a' n' c') (.inl (by simp));have hb3:=jP (i:=1) (.slice a' n' c') HB2.o;have hm:=HM.o;refine⟨⟨_,rfl⟩,_,⟨h0,_,_,.inr rfl,hb3,HO2.o.upd hU (λ g hg hm=>by simp at hm;subst hm;exact hne2 hg),hne2,rfl⟩,⟨hm.1.trans2 hU (λ x hx=>by simp at hx;subst hx;exact .inl (by simp)),hm.2⟩⟩
def Ht:ByteArray:=⟨#[97,116,116,97,99,104,32,48,32,45,10,97,108,108,10,99,114,101,97,116,101,32,48,32,102,32,52,50,48,32,50,10,119,114,105,116,101,32,48,32,49,32,97,10,114,101,97,100,32,48,32,48,32,57,10,97,108,108,10,111,117,116]⟩
def Ei:ByteArray:=⟨#[115,101,110,116,32,48,10,49,10,115,101,110,116,32,49,10,115,101,110,116,32,50,10,115,101,110,116,32,51,10,51,10,48,58,97,116,116,97,99,104,44,100,49,46,49,32,49,58,99,114,101,97,116,101,44,102,50,46,49,32,50,58,119,114,105,116,101,44,49,32,51,58,114,101,97,100,44,37,48,48,97,10]⟩
def Bq:List ByteArray:=[⟨#[97,116,116,97,99,104,32,48,32,45]⟩,⟨#[97,108,108]⟩,⟨#[99,114,101,97,116,101,32,48,32,102,32,52,50,48,32,50]⟩,⟨#[119,114,105,116,101,32,48,32,49,32,97]⟩,⟨#[114,101,97,100,32,48,32,48,32,57]⟩,⟨#[97,108,108]⟩,⟨#[111,117,116]⟩]
def Cm:List ByteArray:=[⟨#[115,101,110,116,32,48]⟩,⟨#[49]⟩,⟨#[115,101,110,116,32,49]⟩,⟨#[115,101,110,116,32,50]⟩,⟨#[115,101,110,116,32,51]⟩,⟨#[51]⟩,⟨#[48,58,97,116,116,97,99,104,44,100,49,46,49,32,49,58,99,114,101,97,116,101,44,102,50,46,49,32,50,58,119,114,105,116,101,44,49,32,51,58,114,101,97,100,44,37,48,48,97]⟩]
def L8 (i:Nat):List Int:=(Cm.take i).flatMap λ x=>sb (x++⟨#[10]⟩)
theorem CA:FJ Ht ⟨#[10]⟩ Bq:=⟨by decide,by decide,by rfl,by rfl,by decide⟩
theorem L7 (i:Nat) (h:i<Cm.length):L8 (i+1)=L8 i++sb (Cm[i]++⟨#[10]⟩):=by
 have e:Cm.take (i+1)=Cm.take i++[Cm[i]]:=by rw[List.take_add_one,Ud h];rfl
 show(Cm.take (i+1)).flatMap _=_
 rw[e,List.flatMap_append];show _++(_++[])=_;rw[List.append_nil];rfl
theorem Qo:∀x∈Cm,(!x.toList.isEmpty)=true:=by simp only[tl];decide
theorem N4:∀x∈Cm,x.size<=60:=by decide
theorem lstep (D:DOk d) (hi:i<7) (h1:i<Bq.length) (h2:i<Cm.length) (hmx:w.cell? (dD 0 0)=some (iI m)) (h:LnI d sh i w G):
  Calls prog 35 #[pP sh 0,.string Bq[i]] w λ r w'=>r= .returned (.string Cm[i])/\∃G',LnI d sh (i+1) w' G'/\Mv w w' G G':=by
 match i,hi,h1,h2,h with
 |0,_,_,_,h=>exact Ti D hmx h
 |1,_,_,_,h=>exact Th D hmx h
 |2,_,_,_,h=>exact Tg D hmx h
 |3,_,_,_,h=>exact Tf D hmx h
 |4,_,_,_,h=>exact Te D hmx h
 |5,_,_,_,h=>exact Td D hmx h
 |6,_,_,_,h=>exact Tc D hmx h
 |i+7,hi,_,_,_=>omega
theorem BW.loc (base b:Nat) (zs:List Int):Loc (BW base b zs):=by
 refine⟨λ w F h k hk=> ?_,λ w w' F S h hu hs=> ?_⟩
 ·obtain⟨h0,p,v,hp,hb,hO,hne,rfl⟩:=h;rcases Um.1 hk with rfl|hk
  ·exact lH hb
  ·exact(hO.lt (by simpa using hk)).2
 ·obtain⟨h0,p,v,hp,hb,hO,hne,rfl⟩:=h;exact⟨h0,p,v,hp,hu.heap hb (hs _ (by simp)),hO.upd hu (λ g hg=>hs _ (by simp[hg])),hne,rfl⟩
theorem Aw.heap (h:Aw w):w.heap[1]?=oC Bb 454:=by
 obtain⟨⟨t,rfl⟩,⟨f,rfl⟩,h⟩:=h;exact h
theorem SS.tab {l:List (Int×FV)} {st:Option AE} {n k:Nat} {zf zr zo:List Int} {q:List Rq} (h:SS d l st n k zf q zr zo w F):Aw w:=by
 obtain⟨rv,ov,Fs,rfl,hP⟩:=h;obtain⟨F0,hG,hF0⟩:=hP.get 0 rfl;obtain⟨j,hb,hin,ht,-⟩:=hG.blk;exact ht
theorem Upd.tab (hu:Upd [1] w w') (h:Aw w) (h':Aw w'):Ext w w':=
 ⟨hu.os,hu.tape,hu.output,hu.size,λ k hk=>by
  by_cases e:k=1
  ·subst e;rw[h.heap,h'.heap]
  ·exact hu.block k hk (by simpa using e)⟩
structure Kv (w0:World) (d:SD) (sh b mb:Nat) (m:Int) (g i:Nat) (w:World) (G F:List Nat):Prop where
 ln:LnI d sh i w G
 bw:BW b b (L8 i) w F
 ap:∀x∈F,x∉G
 ls:∀j (h:j<Bq.length),w.cell? (dD g j)=some (.string Bq[j])
 gG:g∉G
 gF:g∉F
 mx:w.cell? (dD mb 0)=some (iI m)
 mG:mb∉G
 mF:mb∉F
 bs:b<=w.heap.size
 up:Upd [1] w0 w
 gb:∀x∈G,x=1\/w0.heap.size<=x
 fb:∀x∈F,w0.heap.size<=x
theorem Kv.line (h:Kv w0 d sh b mb m g i w G F) (hM:Mv w w' G G'):(BW b b (L8 i) w' F)/\(∀x∈F,x∉G')/\(∀j (h:j<Bq.length),w'.cell? (dD g j)=some (.string Bq[j]))/\g∉G'/\w'.cell? (dD mb 0)=some (iI m)/\mb∉G':=by
 have hg:=Ug _ _ (h.ls 0 (by decide));have hm:=Ug _ _ h.mx;have new:∀x,x<w.heap.size->x∉G->x∉G':=λ x hx hn hm=>by
  rcases hM.2 x hm with h|h
  ·exact hn h
  ·omega
 exact⟨(BW.loc _ _ _).2 _ _ _ _ h.bw hM.1 (λ x hx=>h.ap x hx),λ x hx=>new x ((BW.loc _ _ _).1 _ _ h.bw x hx) (h.ap x hx),λ j hj=>hM.1.cell (h.ls j hj) h.gG,new g hg h.gG,hM.1.cell h.mx h.mG,new mb hm h.mG⟩
theorem Kv.wrote {w2:World} {F':List Nat} (h:Kv w0 d sh b mb m g i w G F) (hM:Mv w w' G G') (hL:LnI d sh (i+1) w' G') (hB:BW b b (L8 (i+1)) w2 F') (hF:Mv w' w2 F F'):Kv w0 d sh b mb m g (i+1) w2 G' F':=by
 obtain⟨h1,h2,h3,h4,h5,h6⟩:=h.line hM;have hg:=Ug _ _ (h3 0 (by decide));have hm:=Ug _ _ h5;have new:∀x,x<w'.heap.size->x∉F->x∉F':=λ x hx hn hm=>by
  rcases hF.2 x hm with h|h
  ·exact hn h
  ·omega
 have hl:=(LnI.loc d sh (i+1)).1 _ _ hL;have ap':∀x∈G',x∉F:=λ x hx hf=>h2 x hf hx
 exact⟨(LnI.loc d sh (i+1)).2 _ _ _ _ hL hF.1 ap',hB,λ x hx hg=>new x (hl x hg) (ap' x hg) hx,λ j hj=>hF.1.cell (h3 j hj) h.gF,h4,new g hg h.gF,hF.1.cell h5 h.mF,h6,new mb hm h.mF,by have:=h.bs;have:=hM.1.size;have:=hF.1.size;omega,
  (h.up.trans2 hM.1 (λ x hx=>(h.gb x hx).imp (λ e=>by simp[e]) id)).trans2 hF.1 (λ x hx=> .inr (h.fb x hx)),
  λ x hx=>(hM.2 x hx).elim (h.gb x) (λ k=> .inr (Nat.le_trans h.up.size k)),λ x hx=>(hF.2 x hx).elim (h.fb x) (λ k=>Nat.le_trans (Nat.le_trans h.up.size hM.1.size) k)⟩
theorem NS:∀i,i<=7->(L8 i).length<=1000:=by
 intro i hi;have:i=0\/i=1\/i=2\/i=3\/i=4\/i=5\/i=6\/i=7:=by omega
 rcases this with rfl|rfl|rfl|rfl|rfl|rfl|rfl|rfl<;>decide
theorem lrun (ht:Aw w) (hm:w.cell? (dD 0 0)=some (iI m)):
  Calls prog 15 #[.string Ht] w λ r w'=>r= .returned (.string Ei)/\Ext w w':=by
 obtain⟨W0,hW0⟩:∃W,W=w.alloc (.cells #[.pointer none,nN] 105):=⟨_,rfl⟩;have X0:Ext w W0:=by rw[hW0];exact(Ext.refl w).alloc _
 have hb0:W0.heap[w.heap.size]?=oC #[.pointer none,nN] 105:=by rw[hW0];exact Ub w _
 have HN:=hid (lnew (ht.ext X0));have HT:=hid ht;have HM:=hid (X0.cell hm);have hml:=Ug _ _ hm;have HB0:=hid hb0;have HW0:=hid hW0;have HX0:=hid X0;have hbl:=lH hb0;obtain⟨S,hS⟩:∃S,S=Ht:=⟨_,rfl⟩;have HS:=hid hS;rw[<-hS];clear ht hm hb0 hW0 X0 hS;go_in;go_wp2_with (rw[<-HW0.o]);clear HW0;refine HN.o.mono ?_;rintro r w1 ⟨d,sh,G,rfl,hL,hsc,hfr,hd4,hroom,X1,hG⟩;have HD:=hid (show DOk d from⟨hsc,hfr,hd4,hroom⟩);have HL:=hid hL;have HG:=hid hG;have HX1:=hid X1;have HM1:=hid (X1.cell HM.o);have HSp:=hid (Ik (s:=S) (ns:=Bq) (by rw[HS.o];exact CA.few) CA.one (by rw[HS.o];exact CA.is) (by rw[HS.o];exact CA.num) HM1.o);have hz1:=X1.size;have HX1':=hid (HX0.o.trans X1);clear hL hsc hfr hd4 hroom X1 hG HN;go_wp2_with fail;refine HSp.o.mono ?_;rintro r w2 ⟨rfl,hw2⟩;have X2:Ext w1 w2:=by rw[hw2];exact(Ext.refl w1).alloc _
 have hls:w2.heap[w1.heap.size]?=some (.cells (sv Bq).toArray 9 (0,0)):=by rw[hw2];exact Ub w1 _
 have h7:Bq.length=7:=rfl;rw[h7];have hlG:=ShS.loc.1 _ _ HL.o;have hmb:(0:Nat)≠1:=by decide
 have HI:=hid (show Kv w d sh w.heap.size 0 m w1.heap.size 0 w2 G [w.heap.size] from
  ⟨⟨0,HL.o.ext X2⟩,⟨Uf _,_,_,.inl rfl,(HX1.o.trans X2).heap HB0.o,AA.nil _ _ _,by simp[Value.ownBlock],by simp[Value.ownBlock]⟩,
   λ x hx hg=>by
    simp at hx;subst hx;rcases HG.o _ hg with h|h
    ·have:=HT.o.lt;omega
    ·omega,λ j hj=>by rw[cO hls];simp[sv,hj],λ h=>by have:=hlG _ h;omega,by simp;omega,X2.cell HM1.o,λ h=>by
    rcases HG.o _ h with h|h
    ·exact hmb h
    ·omega,by simp;omega,by have:=X2.size;omega,(HX1'.o.trans X2).upd _,λ x hx=>(HG.o x hx).imp id (λ k=>Nat.le_trans HX0.o.size k),λ x hx=>by simp at hx;omega⟩)
 clear hw2 X2 hls hlG hmb HSp HM1 HL HG h7;go_wp2_with fail;go_loopw [12] (λ v12 wr=>∃(i:Nat) (G F:List Nat),i<=7/\v12= iI i/\Kv w d sh w.heap.size 0 m w1.heap.size i wr G F) (λ v12 _=>7-(intOf v12).toNat)
 case atStart=>exact⟨0,_,_,by omega,rfl,HI.o⟩
 case round=>
  obtain⟨i,G,F,hi,rfl,hR⟩:=hrel;have HR:=hid hR;by_cases hlt:i<7
  ·have d3:decide ((i:Int)<7)=true:=by simp;omega
   have d5:((i:Int)==200)=false:=by simp;omega
   have i0:(0:Int)<=(i:Int):=by omega
   have i1:(i:Int)<7:=by omega
   have h1:i<Bq.length:=hlt;have h2:i<Cm.length:=hlt;have c0:wr.cell? (dD w1.heap.size i)=some (.string Bq[i]):=hR.ls i h1;have HL:=hid (lstep HD.o hlt h1 h2 hR.mx hR.ln);have hne:=Qo _ (List.getElem_mem h2);have hsz:=N4 _ (List.getElem_mem h2);have HTo:=hid (L7 i h2);generalize Bq[i]=li at c0 HL;generalize Cm[i]=oi at HL hne hsz HTo;clear hR h1 h2;go_wp2_with fail;refine HL.o.mono ?_;rintro r w3 ⟨rfl,G',hL',hM⟩;obtain⟨k1,k2,k3,k4,k5,k6⟩:=HR.o.line hM;have hbs:w.heap.size<=w3.heap.size:=Nat.le_trans HR.o.bs hM.1.size;have HBw:=hid (UP k1 (oi++⟨#[10]⟩) (by have:=NS i hi;rw[ByteArray.size_append];show _+(oi.size+1)<=_;omega) hbs);have hadd:=Df oi ⟨#[10]⟩ (by show oi.size+1<=_;omega);have HL3:=hid hL';have HM3:=hid hM;clear hL' hM k1 k2 k3 k4 k5 k6 c0 HL;go_wp2_with fail;refine HBw.o.mono ?_;rintro r w4 ⟨⟨v,rfl⟩,F',hB,hF⟩;rw[<-HTo.o] at hB;have HR4:=hid (HR.o.wrote HM3.o HL3.o hB hF);clear hB hF HBw;go_wp2_with fail;go_roundw
   case rel=>exact⟨i+1,G',F',by omega,by go_num,HR4.o⟩
   case measure=>simp[intOf];omega
  ·have d3:decide ((i:Int)<7)=false:=by simp;omega
   obtain rfl:i=7:=by omega
   obtain⟨h0,p,v,hp,hb,hO,hne,-⟩:=hR.bw;have hib:Lib.IsBuilder (shR.t 72) (shR.t 5) w.heap.size w.heap.size (Lib.byteCells Ei.data.toList) wr:=by
    have hO':wr.ownsRow w.heap.size 5 1 v (Lib.byteCells Ei.data.toList).length (Lib.byteCells Ei.data.toList):=hO;rcases hp with rfl|rfl
    ·exact .inl ⟨Uf _,v,hb,hO',hne⟩
    ·exact .inr ⟨Uf _,v,hb,hO',hne⟩
   have HSt:=hid (show Calls prog 37 #[pP w.heap.size 0] wr λ r w'=>r= .returned (.string Ei)/\Below w.heap.size wr w' from(Any.Builder_String sh169 shX w.heap.size w.heap.size Ei.data.toList wr hib (by decide)).mono λ r w' ⟨e,k⟩=>⟨e,k⟩);have HE:=hid (show Ext w wr from hR.up.tab HT.o (by
    obtain⟨k,h⟩:=hR.ln;obtain⟨F,-,-,hS,-⟩:=h;exact hS.tab))
   clear hR hp hb hO hne hib;go_wp2_with fail;refine HSt.o.mono ?_;rintro r w5 ⟨rfl,hB5⟩;have HE5:=hid (show Ext w w5 from Below.trans HE.o hB5);clear hB5;go_wp2_with fail;go_ret;exact⟨rfl,HE5.o⟩
theorem NB (ht:Aw w) (hm:w.cell? (dD 0 0)=some (iI m)):
  Calls prog 10 #[] w λ r w'=>r= .returned (.bool true)/\Ext w w':=by
 have HR:=hid (lrun ht hm);clear ht hm;go_in;go_wp2_with fail;refine HR.o.mono ?_;rintro r w1 ⟨rfl,hx⟩;have HX:=hid hx;clear hx;have hd:Ei.toList=Ei.data.toList:=tl _;go_wp2_with fail;go_ret;have:∀b:Bool,b=true->Ending.returned (.bool b)=Ending.returned (.bool true):=λ b h=>by rw[h]
 exact⟨this _ (by rfl),HX.o⟩
theorem Sy {xn xr xm:Nat} {x:Int} (hn1:2<=xn) (hn2:xn<=64) (hr:xr<=65536) (hm1:1<=xm) (hm2:xm<=8) (hx:0<=x/\x<4294967296) {va vb vg:Value} {za zb zg:List Int} (ra:SlN w va za) (rb:SlN w vb zb) (rg:SlN w vg zg) (ka:Er za) (kb:Er zb) (kg:zg.length<=100/\∀z∈zg,64<=z/\z<=4096) (htab:Aw w):
  Calls prog 5 #[.agg (cC xn xr xm x va vb vg)] w λ r w'=>∃(d:SD) (F:List Nat),r= .returned (pP d.c.sp 0)/\SS d [] none 0 0 [] [] [] [] w' F/\d.c.Scripts/\d.Front/\d.m=xm/\d.c.room=xr/\Ext w w'/\∀b∈F,b=1\/w.heap.size<=b:=by
 have HN:=hid (λ W (X:Ext w W)=>snew (x:=x) hn1 hn2 hr hm1 hm2 hx (ra.ext X) (rb.ext X) (rg.ext X) ka kb kg (htab.ext X));obtain⟨aa,ac,rfl,-,-⟩:=ra;obtain⟨ba,bc,rfl,-,-⟩:=rb;obtain⟨ga,gc,rfl,-,-⟩:=rg;generalize za.length=na at HN|-
 generalize zb.length=nb at HN|-
 generalize zg.length=ng at HN|-
 clear ka kb kg htab hn1 hn2 hr hm1 hm2 hx;go_in;go_wp2_with fail;refine(HN.o _ ((Ext.refl w).alloc _)).mono ?_;rintro r w2 ⟨d,F,rfl,hS,h1,h2,h3,h4,X2,hF⟩;have HP:=hid (show SS d [] none 0 0 [] [] [] [] w2 F/\d.c.Scripts/\d.Front/\d.m=xm/\d.c.room=xr/\Ext w w2/\∀b∈F,b=1\/w.heap.size<=b from⟨hS,h1,h2,h3,h4,((Ext.refl w).alloc _).trans X2,λ b hb=>(hF b hb).imp id (λ h=>by simp at h;omega)⟩);clear hS h1 h2 h3 h4 X2 hF HN;go_wp2_with fail;go_ret;exact⟨d,F,rfl,HP.o⟩
theorem qb_wf (Q:QIs a ns ds):Wf (qb a ns ds):=by
 have hd:=Q.wf;cases Q<;>first|rw[Ca]|rw[C8]|rw[CL]|rw[C9]|rw[CZ]|rw[Dd]|rw[C7]|rw[C6]
 all_goals repeat' (first|exact hd|exact Wf.nil|exact AQ _ _|exact Cl _|with_reducible refine Wf.app ?_ ?_)
section
variable {d:SD} {l l':List (Int×FV)} {st st':Option AE} {n n' k:Nat} {w:World} {F:List Nat}
theorem tone (h:SS d l st n k [] [] [] [] w F) (hc:d.c.Scripts) (hfr:d.Front) (hdm:0<d.m/\d.m<=8) {t:TV} {o:Option QI} (Q:QIs a ns ds) (hM:(msg a.typ a.tag (qb a ns ds)).length<=1024) (op:GOp d.c.room l st n a ns ds l' st' n' t o zs) (T:TIs t o zs) {nv dv:Value} (hn:SlS w nv ns) (hd:Sl w dv ds):
  Calls prog 14 #[pP d.c.sp 0,a.val nv dv] w λ r w'=>r= .returned (.string (strOfNums (msg t.typ t.tag (tb t o zs))))/\∃k F',SS d l' st' n' k [] [] [] [] w' F'/\Mv w w' F F':=by
 have HB:=hid (λ W (X:Ext w W)=>Ry Q (hn.ext X) (hd.ext X));have HF:=hid (λ W (X:Ext w W) v (hv:Sl W v (msg a.typ a.tag (qb a ns ds)))=>GZ (q:=[]) ((SS.loc _ _ _ _ _ _ _ _ _).2 _ _ _ [] h (X.upd []) (λ _ _=>by simp)) hfr Q hM (by simp) ⟨by simpa using hdm.1,hdm.2⟩ hv);have HS:=hid (λ W k F (h:SS d l st n k [] [(a,ns,ds)] [] [] W F)=>Ga hc h op T (by simp) (by simp));have HO:=hid (λ W k F (h:SS d l' st' n' k [] [] [] (msg t.typ t.tag (tb t o zs)) W F)=>LL h);have HW:=hid (show Wf (msg a.typ a.tag (qb a ns ds)) from IB _ _ (qb_wf Q));obtain⟨na,nn,nc,hnv⟩:∃a n c,nv= .slice a n c:=by obtain⟨a,c,rfl,-⟩:=hn;exact⟨_,_,_,rfl⟩
 obtain⟨da,dn,dc,hdv⟩:∃a n c,dv= .slice a n c:=by obtain⟨a,c,rfl,-⟩:=hd;exact⟨_,_,_,rfl⟩
 subst hnv hdv;clear h hc hfr hdm Q hM op T hn hd;dsimp only[QV.val] at HB|-
 go_in;go_wp2_with fail;refine(HB.o _ ((Ext.refl w).alloc _)).mono ?_;rintro r w1 ⟨v,rfl,O1,X1⟩;have hs1:=O1.sl HW.o;have HX:=hid (((Ext.refl w).alloc _).trans X1);have HF1:=hid (HF.o w1 HX.o v hs1);obtain⟨va,vc,rfl,-,-⟩:=hs1;obtain⟨m,hm⟩:∃m,m=(msg a.typ a.tag (qb a ns ds)).length:=⟨_,rfl⟩;rw[<-hm] at HF1|-
 clear O1 X1 hm HB HF HW;go_wp2_with fail;refine HF1.o.mono ?_;rintro r w2 ⟨rfl,k2,F2,hS2,hM2⟩;have HS2:=hid (HS.o w2 k2 F2 hS2);have HM2:=hid ((Mv.of_ext HX.o F).trans hM2);clear hS2 hM2 HF1 HS;go_wp2_with fail;refine HS2.o.mono ?_;rintro r w3 ⟨rfl,F3,hS3,hM3⟩;rw[List.nil_append] at hS3;have HO3:=hid (HO.o w3 k2 F3 hS3);have HM3:=hid (HM2.o.trans hM3);clear hS3 hM3 HS2 HO;go_wp2_with fail;refine HO3.o.mono ?_;rintro r w4 ⟨v,rfl,hv,-,F4,hS4,hM4,-⟩;have hcv:=hv.str;have HP:=hid (show∃k F',SS d l' st' n' k [] [] [] [] w4 F'/\Mv w w4 F F' from⟨k2,F4,hS4,HM3.o.trans hM4⟩);obtain⟨ya,yc,rfl,-,-⟩:=hv;clear hS4 hM4 HO3;generalize(msg t.typ t.tag (tb t o zs)).length=yn at hcv|-
 obtain⟨R,hR⟩:∃R,R=strOfNums (msg t.typ t.tag (tb t o zs)):=⟨_,rfl⟩;have HRR:=hid hR;rw[<-hR] at hcv;clear hR;go_wp2_with fail;go_ret;exact⟨by rw[<-HRR.o];rfl,HP.o⟩
end
end Go.Proofs.YtdakioiagpkfhaaGreatDoor
