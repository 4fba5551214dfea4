import Derived.Test.YtdakioiagpkfhaaGreatDoorP46
import Derived.Test.YtdakioiagpkfhaaGreatDoorP03
set_option maxRecDepth 99999
set_option maxHeartbeats 0
set_option linter.all false
namespace Go.Proofs.YtdakioiagpkfhaaGreatDoor
open RowKit Conc Great
open Go.Proofs.Tryz
variable {a:QV} {c:Array Value} {ds zs:List Int} {dv v:Value} {g:Nat} {ns:List ByteArray} {o:Option QI} {t:TV}
theorem TIs.wf (T:TIs t o ds):Wf (tb t o ds):=by
 cases T
 case attach=>exact QI.b_wf _
 case error=>exact AQ _ _
 case walk0=>exact(AQ _ _).app Wf.nil
 case walk1=>exact(AQ _ _).app ((QI.b_wf _).app Wf.nil)
 case open_=>exact(QI.b_wf _).app (AQ _ _)
 case create=>exact(QI.b_wf _).app (AQ _ _)
 case read h=>exact(AQ _ _).app h.2
 case write=>exact AQ _ _
 case wstat=>exact Wf.nil
section
variable {d:SD} {l l':List (Int×FV)} {st st':Option AE} {n n' k:Nat} {w:World} {F:List Nat}
theorem Sq (h:SS d l st n k [] [] [] [] w F) (hc:d.c.Scripts) (hfr:d.Front) (hdm:0<d.m/\d.m<=8) (Q:QIs a ns ds) (hM:(msg a.typ a.tag (qb a ns ds)).length<=1024) (op:GOp d.c.room l st n a ns ds l' st' n' t o zs) (T:TIs t o zs) {nv:Value} (hn:SlS w nv ns) (hd:Sl w dv ds):
  Calls prog 9 #[pP d.c.sp 0,a.val nv dv] w λ r w'=>∃qa qn qc da dn dc,r= .returned (t.val (.slice qa qn qc) (.slice da dn dc))/\SlQ w' (.slice qa qn qc) o/\(t.typ=117->Sl w' (.slice da dn dc) zs)/\∃k F',SS d l' st' n' k [] [] [] [] w' F'/\Mv w w' F F'/\(t.typ=117->∀g,(Value.slice da dn dc).ownBlock=some g->g<w'.heap.size/\g∉F'):=by
 have HO:=hid (λ W (X:Ext w W)=>tone ((SS.loc _ _ _ _ _ _ _ _ _).2 _ _ _ [] h (X.upd []) (λ _ _=>by simp)) hc hfr hdm Q hM op T (hn.ext X) (hd.ext X));have HT:=hid T;have HFl:=hid ((SS.loc _ _ _ _ _ _ _ _ _).1 _ _ h);have HWf:=hid (show Wf (msg t.typ t.tag (tb t o zs)) from IB _ _ T.wf);obtain⟨na,nn,nc,hnv⟩:∃a n c,nv= .slice a n c:=by obtain⟨a,c,rfl,-⟩:=hn;exact⟨_,_,_,rfl⟩
 obtain⟨da,dn,dc,hdv⟩:∃a n c,dv= .slice a n c:=by obtain⟨a,c,rfl,-⟩:=hd;exact⟨_,_,_,rfl⟩
 subst hnv hdv;clear h hc hfr hdm Q hM op T hn hd;dsimp only[QV.val] at HO|-
 go_in;go_wp2_with fail;refine(HO.o _ (((Ext.refl w).alloc _).alloc _)).mono ?_;rintro r w1 ⟨rfl,k',F',hS,hM⟩;have HA1:=hid (hM.1.heap (heap_alloc2_new w _ _) (λ hm=>by have:=HFl.o _ hm;omega));have HM1:=hid ((Mv.of_ext (((Ext.refl w).alloc _).alloc _) F).trans hM);have HS1:=hid hS;have hz1:w.heap.size+2<=w1.heap.size:=by have:=hM.size;simpa using this
 have hF1:=(SS.loc _ _ _ _ _ _ _ _ _).1 _ _ hS;have HF1:=hid (show∀b∈F',b≠w.heap.size+1 from λ b hb e=>by
  subst e;rcases hM.2 _ hb with k|k
  ·have:=HFl.o _ k;omega
  ·simp at k;omega)
 have HFa:=hid hF1;clear hS hM hF1;obtain⟨R,hR⟩:∃R,R=strOfNums (msg t.typ t.tag (tb t o zs)):=⟨_,rfl⟩;rw[<-hR];have hml:=Cw t.typ t.tag (tb t o zs);have htl:=Hl HT.o;have hRs:R.size=7+(tb t o zs).length:=by rw[hR,NY,hml]
 have hsb:sb R=msg t.typ t.tag (tb t o zs):=by rw[hR];exact TB HWf.o
 obtain⟨va,cap,w2,hcv,hSl,X2,hva,hz2⟩:=D4 w1 R (by rw[hRs];unfold maxLen;omega);rw[hsb] at hSl;have HRd:=hid (TH (n:=R.size) HT.o (by rw[hRs,msg,Ui,Ui];push_cast;rfl) (by rw[hml,hRs]) (by omega) hSl);have HS2:=hid (HS1.o.ext X2);have HM2:=hid (HM1.o.ext X2);have HA2:=hid (X2.heap HA1.o);obtain⟨N,hN⟩:∃N,N=R.size:=⟨_,rfl⟩;rw[<-hN] at hcv HRd;have HVa:=hid hva;clear hva hN hR hml htl hRs hsb hSl X2 HS1 HM1 HA1 HO;go_wp2_with fail;refine HRd.o.mono ?_;rintro r w3 ⟨qv,dv,rfl,hF3,hU3⟩;obtain⟨⟨qa,qn,qc,rfl⟩,da,dn,dc,rfl⟩:=hF3.qs;have HF3:=hid hF3;have X3:Ext w2 w3:=hU3.ext (Ext.refl _) (by simp);have HS3:=hid (HS2.o.ext X3);have HM3:=hid (HM2.o.ext X3);have HA3:=hid (X3.heap HA2.o);have hz3:=X3.size;clear hF3 hU3 X3 HS2 HM2 HA2 HRd hcv;rename_i K1 hK1;refine hK1 _ _ ?_;clear hK1;refine wpList_runTo rfl _ rfl (.tuple #[t.val (.slice qa qn qc) (.slice da dn dc),iI 0]) w3 (by go_simp) ?_;refine wpList_runTo rfl _ rfl (t.val (.slice qa qn qc) (.slice da dn dc)) w3 (by go_simp) ?_;refine wpList_runTo rfl _ rfl (iI 0) w3 (by go_simp) ?_;refine wpList_runTo rfl _ rfl (pP w3.heap.size 0) (w3.alloc (.cells tZ 39)) (by go_simp) ?_;refine AZ rfl rfl _ _ _ rfl (t.cl (.slice qa qn qc) (.slice da dn dc)).toArray rfl rfl iT rfl (by simp[TV.cl,Value.oneCell']) ?_
 intro w4 hX4 E4;refine wpList_runTo rfl _ rfl (iI 0) w4 (by go_simp) ?_;refine wpList_nil ?_;have HB4:=hid hX4;have HE4:=hid E4;have HA4:=hid (E4.heap HA3.o);clear hX4 E4 HA3;go_upto_region 4 with fail;refine wp_region_lit ?_;refine AJ rfl _ _ rfl w3.heap.size (t.cl (.slice qa qn qc) (.slice da dn dc)).toArray rfl 39 HB4.o _ underlying39 rfl iT ?_;refine AT rfl _ _ _ rfl (w.heap.size+1) (t.cl (.slice qa qn qc) (.slice da dn dc)).toArray rfl rfl 39 _ HA4.o iT rfl (by simp[TV.cl,Value.oneCell']) ?_;intro W hRw hW;refine wpList_nil ?_;go_wp2_with fail;have hF5:=(HF3.o.upd (HE4.o.upd []) (by simp) (by simp)).upd hW (λ b hb=>by simp at hb;omega) (λ g hg hm=>by
  have hg':va=g:=by simpa [Value.ownBlock] using hg
  have:=HVa.o;simp at hm;omega)
 have hS5:=(SS.loc _ _ _ _ _ _ _ _ _).2 _ _ _ _ (HS3.o.ext HE4.o) hW (λ b hb hm=>by simp at hm;exact HF1.o b hb hm);have hM5:Mv w W F F':=⟨(HM3.o.ext HE4.o).1.trans2 hW (λ b hb=>by simp at hb;omega),HM3.o.2⟩;refine Ue (v:=t.val (.slice qa qn qc) (.slice da dn dc)) (Uj rfl _ _ (w.heap.size+1) 39 (t.cl (.slice qa qn qc) (.slice da dn dc)).toArray (0,0) _ rfl hRw underlying39 rfl iT) rfl ⟨_,_,_,_,_,_,rfl,?_,λ h7=> ?_,k',F',hS5,hM5,λ h7 g hg=> ?_⟩
 ·cases o with
  |none=>exact⟨_,_,hF5.q0 rfl⟩
  |some q=>
   obtain⟨g,c,e,-,hq⟩:=hF5.q1 q rfl;rw[e];exact hq
 ·exact(hF5.d1 zs (by rw[if_pos h7])).1
 ·have hg':va=g:=by simpa [Value.ownBlock] using(hF5.d1 zs (by rw[if_pos h7])).2.symm.trans hg
  have:=HVa.o;have:=HE4.o.size;have:=hW.size;exact⟨by omega,λ hm=>by have:=HFa.o g hm;omega⟩
end
structure KS (w0 w:World) (F:List Nat) (rows:List (Nat×Array Value)) (sl:List (Value×List Int)) (m:Int):Prop where
 rows:∀p∈rows,w.heap[p.1]?=oC p.2 39/\p.1∉F
 sl:∀p∈sl,Sl w p.1 p.2/\∀g,p.1.ownBlock=some g->g<w.heap.size/\g∉F
 mx:w.cell? (dD 0 0)=some (iI m)/\0∉F
 up:Upd [1] w0 w
 fb:∀b∈F,b=1\/w0.heap.size<=b
section
variable {w0 w w':World} {F F':List Nat} {rows:List (Nat×Array Value)} {sl:List (Value×List Int)} {m:Int}
theorem KS.mv (h:KS w0 w F rows sl m) (hM:Mv w w' F F'):KS w0 w' F' rows sl m:=by
 have new:∀x,x<w.heap.size->x∉F->x∉F':=λ x hx hn hm=>(hM.2 x hm).elim hn (λ k=>by omega)
 refine⟨λ p hp=> ?_,λ p hp=> ?_,⟨hM.1.cell h.mx.1 h.mx.2,new _ (Ug _ _ h.mx.1) h.mx.2⟩,h.up.trans2 hM.1 (λ x hx=>(h.fb x hx).imp (λ e=>by simp[e]) id),λ x hx=>(hM.2 x hx).elim (h.fb x) (λ k=> .inr (Nat.le_trans h.up.size k))⟩
 ·obtain⟨h1,h2⟩:=h.rows p hp;exact⟨hM.1.heap h1 h2,new _ (lH h1) h2⟩
 ·obtain⟨h1,h2⟩:=h.sl p hp;exact⟨h1.updv hM.1 (λ g hg=>(h2 g hg).2),λ g hg=>⟨Nat.lt_of_lt_of_le (h2 g hg).1 hM.size,new g (h2 g hg).1 (h2 g hg).2⟩⟩
theorem KS.row (h:KS w0 w F rows sl m) (hF:∀b∈F,b<w.heap.size) (hx:Ext w w') (hc:w'.heap[w.heap.size]?=oC c 39):KS w0 w' F ((w.heap.size,c)::rows) sl m:=by
 have h':=h.mv (Mv.of_ext hx F);refine⟨λ p hp=> ?_,h'.sl,h'.mx,h'.up,h'.fb⟩;rcases Um.1 hp with rfl|hp
 ·exact⟨hc,λ hm=>Nat.lt_irrefl _ (hF _ hm)⟩
 ·exact h'.rows p hp
theorem KS.sls (h:KS w0 w F rows sl m) (hv:Sl w v zs) (hg:∀g,v.ownBlock=some g->g<w.heap.size/\g∉F):KS w0 w F rows ((v,zs)::sl) m:=by
 refine⟨h.rows,λ p hp=> ?_,h.mx,h.up,h.fb⟩;rcases Um.1 hp with rfl|hp
 ·exact⟨hv,hg⟩
 ·exact h.sl p hp
def TK (d:SD) (m:Int) (w0:World) (l:List (Int×FV)) (st:Option AE) (n:Nat) (rows:List (Nat×Array Value)) (sl:List (Value×List Int)) (w:World):Prop:=
 ∃k F,SS d l st n k [] [] [] [] w F/\KS w0 w F rows sl m
structure DT (d:SD):Prop where
 sc:d.c.Scripts
 fr:d.Front
 m:0<d.m/\d.m<=8
 room:d.c.room=400
variable {d:SD} {l l':List (Int×FV)} {st st':Option AE} {n n':Nat}
theorem TK.ext (h:TK d m w0 l st n rows sl w) (hx:Ext w w'):TK d m w0 l st n rows sl w':=by
 obtain⟨k,F,h1,h2⟩:=h;exact⟨k,F,h1.ext hx,h2.mv (Mv.of_ext hx F)⟩
theorem TK.row (h:TK d m w0 l st n rows sl w) (hx:Ext w w') (hc:w'.heap[w.heap.size]?=oC c 39):TK d m w0 l st n ((w.heap.size,c)::rows) sl w':=by
 obtain⟨k,F,h1,h2⟩:=h;exact⟨k,F,h1.ext hx,h2.row ((SS.loc _ _ _ _ _ _ _ _ _).1 _ _ h1) hx hc⟩
theorem TK.sls (h:TK d m w0 l st n rows sl w) {e:TypeId} (hx:Ext w w') (hv:AA w' w.heap.size e v (bv zs)) (hz:Wf zs):TK d m w0 l st n rows ((v,zs)::sl) w':=by
 obtain⟨k,F,h1,h2⟩:=h;have hl:=(SS.loc _ _ _ _ _ _ _ _ _).1 _ _ h1;exact⟨k,F,h1.ext hx,(h2.mv (Mv.of_ext hx F)).sls (hv.sl hz) (λ g hg=>⟨(hv.lt hg).2,λ hm=>by have:=hl g hm;have:=(hv.lt hg).1;omega⟩)⟩
theorem TK.at (h:TK d m w0 l st n rows sl w) (hm:(g,c)∈rows):w.heap[g]?=oC c 39:=by
 obtain⟨k,F,h1,h2⟩:=h;exact(h2.rows _ hm).1
theorem TK.bytes (h:TK d m w0 l st n rows sl w) (hm:(v,zs)∈sl):Sl w v zs:=by
 obtain⟨k,F,h1,h2⟩:=h;exact(h2.sl _ hm).1
theorem TK.end (h:TK d m w0 l st n rows sl w) (ht:Aw w0):Aw w/\Ext w0 w/\w.cell? (dD 0 0)=some (iI m):=by
 obtain⟨k,F,h1,h2⟩:=h;exact⟨h1.tab,h2.up.tab ht h1.tab,h2.mx.1⟩
theorem SlS.one {s:ByteArray} {t:TypeId} (h:w.heap[g]?=oC #[.string s] t):SlS w (sS g 0 1 1) [s]:=
 ⟨_,1,rfl,.inr ⟨_,_,rfl⟩,Uf _,by unfold maxLen;omega,.inr ⟨g,0,rfl,λ i hi=>by
  obtain rfl:i=0:=by simp at hi;omega
  exact cO h 0⟩⟩
theorem Di (D:DT d) (h:TK d m w0 l st n rows sl w) (Q:QIs a ns ds) (hM:(qb a ns ds).length<=1017) (op:GOp 400 l st n a ns ds l' st' n' t o zs) (T:TIs t o zs) {nv:Value} (hn:SlS w nv ns) (hd:Sl w dv ds):
  Calls prog 9 #[pP d.c.sp 0,a.val nv dv] w λ r w'=>∃qa qn qc da dn dc,r= .returned (t.val (.slice qa qn qc) (.slice da dn dc))/\SlQ w' (.slice qa qn qc) o/\TK d m w0 l' st' n' rows (if t.typ=117 then(.slice da dn dc,zs)::sl else sl) w':=by
 obtain⟨k,F,h1,h2⟩:=h;refine(Sq h1 D.sc D.fr D.m Q (by rw[Cw];omega) (by rw[D.room];exact op) T hn hd).mono ?_;rintro r w' ⟨qa,qn,qc,da,dn,dc,rfl,hq,hz,k',F',hS,hM,ho⟩;refine⟨qa,qn,qc,da,dn,dc,rfl,hq,k',F',hS,?_⟩
 split
 ·rename_i h7;exact(h2.mv hM).sls (hz h7) (ho h7)
 ·exact h2.mv hM
end
def rF:FV:=⟨1,1,1,1,⟨#[]⟩,true,false,0,0,0⟩
def oF (x:ByteArray) (b:Bool) (k:Int):FV:=⟨2,1,1,1,x,false,b,k,0,0⟩
def wF (x:ByteArray) (o:Nat) (ds:List Int):AE:={name:=x,md:=420,zs:=wrote o ds,fresh:=false}
section
variable {d:SD} {m:Int} {w0 w:World} {rows:List (Nat×Array Value)} {sl:List (Value×List Int)} {x y:ByteArray} {o:Nat} {ds:List Int} {nv dv:Value}
theorem oT:B8 0:=⟨by decide,by decide⟩
theorem q12:QI.Ok ⟨false,1,2⟩:=⟨⟨by decide,by decide⟩,⟨by decide,by decide⟩⟩
theorem t32 {n:Int} (h:0<=n) (h2:n<100000):lt32 n:=⟨h,by omega⟩
theorem L9:∀{x:ByteArray} {o:Nat} {ds:List Int},o<=40->ds.length<=40->Ay (wF x o ds):=λ ho hd=>⟨by show(0:Int)<=420;omega,by show(420:Int)<=511;omega,by
 show(wrote _ _).length<=5000
 unfold wrote;split
 ·simp
 ·simp[zer];omega⟩
theorem ts1 (D:DT d) (h:TK d m w0 [] none 0 rows sl w) (hn:SlS w nv []) (hd:Sl w dv []):
  Calls prog 9 #[pP d.c.sp 0,({typ:=104}:QV).val nv dv] w λ r w'=>∃v,r= .returned v/\TK d m w0 [(0,rF)] none 1 rows sl w':=
 (Di D h (.attach (.inl rfl) (t32 (by decide) (by decide)) (by decide)) (by rw[Ca];simp[lL,Ab];decide) (.attach (k:=0) rfl (by decide) (by decide)) (.attach oT ⟨⟨by decide,by decide⟩,⟨by decide,by decide⟩⟩) hn hd).mono λ r w' ⟨_,_,_,_,_,_,e,_,h⟩=>⟨_,e,h⟩
theorem ts2 (D:DT d) (h:TK d m w0 [(0,rF)] none 1 rows sl w) (hn:SlS w nv []) (hd:Sl w dv []):
  Calls prog 9 #[pP d.c.sp 0,({typ:=110,nfid:=1}:QV).val nv dv] w λ r w'=>∃v,r= .returned v/\TK d m w0 [(0,rF),(1,rF)] none 1 rows sl w':=
 (Di D h (.walk0 (.inl rfl) (t32 (by decide) (by decide)) (t32 (by decide) (by decide))) (by rw[C8];simp[lL]) (.walk0 (k:=0) (k2:=1) rfl rfl (by decide) (by decide) (by decide)) (.walk0 oT) hn hd).mono λ r w' ⟨_,_,_,_,_,_,e,_,h⟩=>⟨_,e,h⟩
theorem ts3 (D:DT d) (hx:AP x) (h:TK d m w0 [(0,rF),(1,rF)] none 1 rows sl w) (hn:SlS w nv []) (hd:Sl w dv []):
  Calls prog 9 #[pP d.c.sp 0,({typ:=114,fid:=1,mode:=1,perm:=420,name:=x}:QV).val nv dv] w λ r w'=>∃v,r= .returned v/\TK d m w0 [(0,rF),(1,oF x true 1)] (some {name:=x,md:=420}) 2 rows sl w':=
 (Di D h (.create (.inl rfl) (t32 (by decide) (by decide)) (t32 (by decide) (by decide)) ⟨by decide,by decide⟩ (by have:=hx.hi;omega)) (by rw[CZ];simp[lL,Ab];have:=hx.hi;omega) (.create (k:=1) (.inr (.inl rfl)) hx rfl (by decide)) (.create oT q12 ⟨by decide,by decide⟩) hn hd).mono λ r w' ⟨_,_,_,_,_,_,e,_,h⟩=>⟨_,e,h⟩
theorem ts4 (D:DT d) (ho:o<=40) (hl:ds.length<=40) (hw:Wf ds) (h:TK d m w0 [(0,rF),(1,oF x true 1)] (some {name:=x,md:=420}) 2 rows sl w) (hn:SlS w nv []) (hd:Sl w dv ds):
  Calls prog 9 #[pP d.c.sp 0,({typ:=118,fid:=1,off:=o}:QV).val nv dv] w λ r w'=>∃qa qn qc da dn dc,r= .returned (({typ:=119,count:=ds.length}:TV).val (.slice qa qn qc) (.slice da dn dc))/\TK d m w0 [(0,rF),(1,oF x true 1)] (some (wF x o ds)) 3 rows sl w':=
 (Di D h (.write (.inl rfl) (t32 (by decide) (by decide)) ⟨by omega,by omega⟩ ⟨by omega,hw⟩) (by rw[C7];simp[lL];omega) (.write (k:=1) (m:=1) rfl ⟨by show(0:Int)<=420;omega,by show(420:Int)<=511;omega,Nat.zero_le _⟩ (by omega) (by omega) (by decide) (.inl rfl) rfl (by decide)) (.write oT ⟨by omega,by omega⟩) hn hd).mono λ r w' ⟨_,_,_,_,_,_,e,_,h⟩=>⟨_,_,_,_,_,_,e,h⟩
theorem ts5 (D:DT d) (hx:AP x) (hy:AP y) (ho:o<=40) (hl:ds.length<=40) (h:TK d m w0 [(0,rF),(1,oF x true 1)] (some (wF x o ds)) 3 rows sl w) (hn:SlS w nv []) (hd:Sl w dv []):
  Calls prog 9 #[pP d.c.sp 0,({typ:=126,fid:=1,size:= -1,name:=y}:QV).val nv dv] w λ r w'=>∃qa qn qc da dn dc,r= .returned (({typ:=127}:TV).val (.slice qa qn qc) (.slice da dn dc))/\TK d m w0 [(0,rF),(1,oF y true 1)] (some (wF y o ds)) 5 rows sl w':=
 (Di D h (.wstat (.inl rfl) (t32 (by decide) (by decide)) (by have:=hy.hi;omega)) (by rw[C6];simp[lL,Ab];have:=hy.hi;omega) (.wstat (k:=1) (L9 ho hl) hx hy rfl (by decide)) (.wstat oT) hn hd).mono λ r w' ⟨_,_,_,_,_,_,e,_,h⟩=>⟨_,_,_,_,_,_,e,h⟩
theorem ts6 (D:DT d) (hy:AP y) (ho:o<=40) (hl:ds.length<=40) (h:TK d m w0 [(0,rF),(1,oF y true 1)] (some (wF y o ds)) 5 rows sl w) (hn:SlS w nv [y]) (hd:Sl w dv []):
  Calls prog 9 #[pP d.c.sp 0,({typ:=110,nfid:=2}:QV).val nv dv] w λ r w'=>∃qa qc da dn dc,r= .returned (({typ:=111}:TV).val (.slice qa 1 qc) (.slice da dn dc))/\TK d m w0 [(0,rF),(1,oF y true 1),(2,oF y false 0)] (some (wF y o ds)) 6 rows sl w':=
 (Di (ns:=[y]) D h (.walk1 (.inl rfl) (t32 (by decide) (by decide)) (t32 (by decide) (by decide)) (by have:=hy.hi;omega)) (by rw[CL];simp[lL,Ab];have:=hy.hi;omega) (.walk1 (f:=wF y o ds) (k:=0) (k2:=2) (L9 ho hl) hy rfl rfl (by decide) (Nat.le_of_ble_eq_true rfl) (by decide)) (.walk1 oT q12) hn hd).mono λ r w' ⟨_,_,_,_,_,_,e,hq,h⟩=>by
  obtain⟨g,p,c,e2,-⟩:=hq;injection e2 with e3 e4 e5;subst e4;exact⟨_,_,_,_,_,e,h⟩
theorem ts7 (D:DT d) (ho:o<=40) (hl:ds.length<=40) (h:TK d m w0 [(0,rF),(1,oF y true 1),(2,oF y false 0)] (some (wF y o ds)) 6 rows sl w) (hn:SlS w nv []) (hd:Sl w dv []):
  Calls prog 9 #[pP d.c.sp 0,({typ:=112,fid:=2}:QV).val nv dv] w λ r w'=>∃v,r= .returned v/\TK d m w0 [(0,rF),(1,oF y true 1),(2,oF y true 0)] (some (wF y o ds)) 7 rows sl w':=
 (Di D h (.open_ (.inl rfl) (t32 (by decide) (by decide)) ⟨by decide,by decide⟩) (by rw[C9];simp[lL]) (.open_ (k:=2) (L9 ho hl) rfl (by decide)) (.open_ oT q12 ⟨by decide,by decide⟩) hn hd).mono λ r w' ⟨_,_,_,_,_,_,e,_,h⟩=>⟨_,e,h⟩
theorem Lr (ho:o<=40) (hl:ds.length<=40):((wrote o ds).drop o).take 100=ds:=by
 unfold wrote;split
 ·rename_i h;subst h;simp
 ·rw[List.drop_append_of_le_length (by simp[zer]),List.drop_of_length_le (by simp[zer]),List.nil_append,List.take_of_length_le (by omega)]
theorem ts8 (D:DT d) (ho:o<=40) (hl:ds.length<=40) (hw:Wf ds) (h:TK d m w0 [(0,rF),(1,oF y true 1),(2,oF y true 0)] (some (wF y o ds)) 7 rows sl w) (hn:SlS w nv []) (hd:Sl w dv []):
  Calls prog 9 #[pP d.c.sp 0,({typ:=116,fid:=2,off:=o,count:=100}:QV).val nv dv] w λ r w'=>∃qa qn qc da dn dc,r= .returned (({typ:=117}:TV).val (.slice qa qn qc) (.slice da dn dc))/\TK d m w0 [(0,rF),(1,oF y true 1),(2,oF y true 0)] (some (wF y o ds)) 8 rows ((.slice da dn dc,ds)::sl) w':=by
 have e:=Lr ho hl;have op:GOp 400 [(0,rF),(1,oF y true 1),(2,oF y true 0)] (some (wF y o ds)) 7 {typ:=116,fid:=2,off:=o,count:=(100:Nat)} [] [] _ _ _ _ _ _:= .read (k:=2) (kc:=100) (tag:=0) (L9 ho hl) (FL hw) (by omega) (by omega) (.inl rfl) rfl (by decide);have e2:((wF y o ds).zs.drop o).take 100=ds:=e;rw[e2] at op;exact(Di D h (.read (.inl rfl) (t32 (by decide) (by decide)) ⟨by omega,by omega⟩ (t32 (by decide) (by decide))) (by rw[Dd];simp[lL]) op (.read oT ⟨by omega,hw⟩) hn hd).mono λ r w' ⟨_,_,_,_,_,_,e,_,h⟩=>⟨_,_,_,_,_,_,e,h⟩
theorem ts9 (D:DT d) (hx:AP x) (hy:AP y) (ho:o<=40) (hl:ds.length<=40) (h:TK d m w0 [(0,rF),(1,oF y true 1),(2,oF y true 0)] (some (wF y o ds)) 8 rows sl w) (hn:SlS w nv [x]) (hd:Sl w dv []):
  Calls prog 9 #[pP d.c.sp 0,({typ:=110,nfid:=3}:QV).val nv dv] w λ r w'=>∃(t:TV) (qa:Option Addr) (qn qc:Nat) (da:Option Addr) (dn dc:Nat),r= .returned (t.val (.slice qa qn qc) (.slice da dn dc))/\(t.code=2↔x≠y)/\∃l st n,TK d m w0 l st n rows sl w':=by
 have hM:(qb {typ:=110,nfid:=3} [x] []).length<=1017:=by rw[CL];simp[lL,Ab];have:=hx.hi;omega
 have Q:QIs {typ:=110,nfid:=3} [x] []:= .walk1 (.inl rfl) (t32 (by decide) (by decide)) (t32 (by decide) (by decide)) (by have:=hx.hi;omega);by_cases e:x=y
 ·subst e;exact(Di D h Q hM (.walk1 (f:=wF x o ds) (k:=0) (k2:=3) (L9 ho hl) hx rfl rfl (by decide) (Nat.le_of_ble_eq_true rfl) (by decide)) (.walk1 oT q12) hn hd).mono λ r w' ⟨_,_,_,_,_,_,e,hq,h⟩=>⟨_,_,_,_,_,_,_,e,by simp,_,_,_,h⟩
 ·exact(Di D h Q hM (.walkx (f:=wF y o ds) (k:=0) (k2:=3) (L9 ho hl) hx (λ h=>e h.symm) rfl rfl (by decide) (Nat.le_of_ble_eq_true rfl) (by decide)) (.error oT ⟨by decide,by decide⟩) hn hd).mono λ r w' ⟨_,_,_,_,_,_,e2,hq,h⟩=>⟨_,_,_,_,_,_,_,e2,by simp[e],_,_,_,h⟩
end
theorem CO.scr (h:CO zs):Er zs:=⟨by have:=h.len;omega,λ s hs=>(h.pos s hs).1,.inr h.one⟩
theorem Na {z:Int} (h:0<=z/\z<=5000):(Lit.int .i64 z).wf=true:=by simp[Lit.wf,IntKind.min,IntKind.max,IntKind.signed,IntKind.bits];omega
theorem AA.slN {w:World} {base:Nat} (h:AA w base 3 v (nv zs)) (hz:∀z∈zs,0<=z/\z<=5000):SlN w v zs:=by
 obtain⟨a,c,e,hr,hp⟩:=h.rowN (λ z hm=>Na (hz z hm));exact⟨a,c,e,hr,hp⟩
section
variable {w:World} {n r q f:Int} {v vf vb vg:Value} {zf zb zg:List Int} {a:Option Addr} {nn cp:Nat} {zs:List Int} {off x y m:Int}
theorem GH (hC:CIn w v n r q f vf vb vg zf zb zg) (hd:AI .u8 w a nn cp zs) (hnil:a=none->cp=0) (ho:(Lit.int .i64 off).wf=true) (hx:(Lit.int .i64 x).wf=true) (hy:(Lit.int .i64 y).wf=true) (ht:Aw w) (hm:w.cell? (dD 0 0)=some (iI m)):
  Calls prog 3 #[v,.slice a nn cp,iI off,iI x,iI y] w λ r w'=>r= .returned (.bool true)/\Ext w w':=by
 obtain⟨rfl,wn,wr,wq,wf,⟨fa,fc,rfl,rf⟩,⟨ba,bc,rfl,rb⟩,ga,gc,rfl,rg⟩:=hC;have hf:0<=f/\f<4294967296:=by
  have:=wf;simp[Lit.wf,IntKind.min,IntKind.max,IntKind.signed,IntKind.bits] at this;omega
 obtain⟨W0,hW0⟩:∃W,W=w.alloc (.cells (cC n r q f (.slice fa zf.length fc) (.slice ba zb.length bc) (.slice ga zg.length gc)) 25):=⟨_,rfl⟩;have X0:Ext w W0:=by rw[hW0];exact(Ext.refl w).alloc _
 have hB0:W0.heap[w.heap.size]?=oC (cC n r q f (.slice fa zf.length fc) (.slice ba zb.length bc) (.slice ga zg.length gc)) 25:=by rw[hW0];exact Ub w _
 have HG:=hid (T5 (x3:=f) wn wr wq (rf.ext X0) (rb.ext X0) (rg.ext X0));obtain⟨k,hk,hAr⟩:=BT off 41 (by omega) ho;obtain⟨sx,gx,hRx⟩:=Gb x hx;obtain⟨sy,gy,hRy⟩:=Gb y hy;have HA:=hid hAr;have HRx:=hid hRx;have HRy:=hid hRy;have HX0:=hid X0;have HT:=hid ht;have HM:=hid hm;have HF:=hid hf;have HD:=hid hd;have HW0:=hid hW0;have HB0:=hid hB0;have hw0:=lH hB0;generalize zf.length=lf at HG HW0 HB0|-
 generalize zb.length=lb at HG HW0 HB0|-
 generalize zg.length=lg at HG HW0 HB0|-
 clear wn wr wq wf rf rb rg hf X0 hB0 hW0 hAr hRx hRy ht hm hd ho hx hy;go_in;obtain⟨b0,b1,b2,b3,b4,b5,b6,-⟩:=Pd HB0.o;go_upto_region 1 with(rw[<-HW0.o]);go_wp2_with (rw[<-HW0.o]);refine HG.o.mono ?_;rintro r w1 ⟨y0,y1,y2,v4,v5,v6,s4,s5,s6,rfl,ok,O4,O5,O6,X1⟩;have l4:=O4.slN (λ z hz=>by have:=ok.front.pos z hz;omega);have l5:=O5.slN (λ z hz=>by have:=ok.back.pos z hz;omega);have l6:=O6.slN (λ z hz=>by have:=ok.frags.2 z hz;omega);obtain⟨xm,hxm⟩:=Int.eq_ofNat_of_zero_le (show 0<=y2 by have:=ok.most;omega);subst hxm;have HN:=hid (λ W (X:Ext w1 W)=>Sy (xn:=4) (xr:=400) (xm:=xm) (x:=f) (by omega) (by omega) (by omega) (by have:=ok.most;omega) (by have:=ok.most;omega) HF.o (l4.ext X) (l5.ext X) (l6.ext X) ok.front.scr ok.back.scr ⟨by have:=ok.frags.1;omega,λ z hz=>by have:=ok.frags.2 z hz;omega⟩ (HT.o.ext ((HX0.o.trans X1).trans X)));have HXm:=hid (show(0:Int)<xm/\(xm:Int)<=8 by have:=ok.most;omega);have HX1:=hid (HX0.o.trans X1);have hz1:=X1.size;obtain⟨a4,c4,rfl,-,-⟩:=l4;obtain⟨a5,c5,rfl,-,-⟩:=l5;obtain⟨a6,c6,rfl,-,-⟩:=l6;generalize s4.length=n4 at HN|-
 generalize s5.length=n5 at HN|-
 generalize s6.length=n6 at HN|-
 clear O4 O5 O6 X1 ok HG b0 b1 b2 b3 b4 b5 b6 HB0;rename_i K1 hK1;refine hK1 _ _ ?_;clear hK1;refine wpList_runTo rfl _ rfl (pP w1.heap.size 0) (w1.alloc (.cells (cC 0 0 0 0 (nN) (nN) (nN)) 25)) (by go_simp) ?_;refine AZ rfl rfl _ _ _ rfl (Uy y0 y1 xm f (.slice a4 n4 c4) (.slice a5 n5 c5) (.slice a6 n6 c6)) rfl rfl (by kernel_rfl) rfl (by simp[Uy,Value.oneCell']) ?_;intro w2 hX2 E2;refine wpList_nil ?_;obtain⟨d0,d1,d2,d3,d4,d5,d6,-⟩:=Pd hX2;have hg2:=lH hX2;have hfr:=fO hX2;have HE2:=hid E2;clear hX2 E2;go_wp2_with fail;refine(HN.o _ (Below.setCell (Below.setCell HE2.o (Uf _) _) (Uf _) _)).mono ?_;rintro r w3 ⟨d,F,rfl,hS,hsc,hfr3,hdm,hroom,X3,hF⟩;have X13:Ext w1 w3:=Ext.trans (Below.setCell (p:=⟨w1.heap.size,1,none⟩) (Below.setCell (p:=⟨w1.heap.size,0,none⟩) HE2.o (Uf _) _) (Uf _) _) X3;have E3:=HX1.o.trans X13;have hml:0<w.heap.size:=Ug _ _ HM.o;have HDT:=hid (show DT d from⟨hsc,hfr3,by rw[hdm];exact HXm.o,hroom⟩);have HK:=hid (show TK d m w [] none 0 [] [] w3 from⟨0,F,hS,λ _ h=>by simp at h,λ _ h=>by simp at h,⟨E3.cell HM.o,λ hm=>(hF _ hm).elim (by decide) (λ k=>by
  have k':w2.heap.size<=0:=by simpa using k
  omega)⟩,E3.upd _,λ b hb=>(hF b hb).imp id (λ k=>by simp at k;omega)⟩)
 have HE3:=hid E3;clear hS hsc hfr3 hdm hroom X3 hF X13 E3 d0 d1 d2 d3 d4 d5 d6 hfr HE2 HN HX1 HX0 HF HXm HW0 hml hw0 hg2 hz1;go_wp2_with fail;refine(HA.o _).mono ?_;rintro r w3 ⟨rfl,rfl⟩;go_wp2_with fail;refine(Rf a nn cp zs 40 (by omega) _ (HD.o.ext HE3.o) hnil).mono ?_;rintro r w4 ⟨v4,rfl,hO,X4⟩;have hwf:Wf (zs.take 40):=λ z hz=>HD.o.2.2.2.1 z (List.mem_of_mem_take hz)
 obtain⟨ds,hds⟩:∃ds,ds=zs.take 40:=⟨_,rfl⟩;have hdl:ds.length<=40:=by rw[hds];simp;omega
 rw[<-hds] at hO hwf;have HK:=hid (HK.o.sls X4 hO hwf);obtain⟨ea,ec,rfl,-,-⟩:=hO.sl hwf;obtain⟨dn,hdn⟩:∃n,n=ds.length:=⟨_,rfl⟩;rw[<-hdn] at HK|-
 have HDn:=hid hdn;have HDl:=hid hdl;have HWf:=hid hwf;clear hO X4 hds hdn hdl hwf;go_wp2_with fail;refine(HRx.o _).mono ?_;rintro r w5 ⟨rfl,X5⟩;have HK:=hid (HK.o.ext X5);clear X5;go_wp2_with fail;refine(HRy.o _).mono ?_;rintro r w6 ⟨rfl,X6⟩;have HK:=hid (HK.o.ext X6);clear X6;go_wp2_with fail;refine(ts1 HDT.o HK.o (SlS.nil _) (Sl.nil _)).mono ?_;rintro r w7 ⟨v,rfl,hK⟩;have HK:=hid hK;clear hK;go_wp2_with fail;refine(ts2 HDT.o HK.o (SlS.nil _) (Sl.nil _)).mono ?_;rintro r w8 ⟨v,rfl,hK⟩;have HK:=hid hK;clear hK;go_wp2_with fail;refine(ts3 HDT.o gx HK.o (SlS.nil _) (Sl.nil _)).mono ?_;rintro r w9 ⟨v,rfl,hK⟩;have HK:=hid hK;clear hK;go_wp2_with fail;have hk2:k<=40:=by omega
 refine(ts4 HDT.o hk2 HDl.o HWf.o HK.o (SlS.nil _) (HK.o.bytes (List.mem_cons_self ..))).mono ?_;rintro r w10 ⟨qa4,qn4,qc4,da4,dn4,dc4,rfl,hK⟩;have HK:=hid hK;clear hK;rename_i K1 hK1;refine hK1 _ _ ?_;clear hK1;refine wpList_runTo rfl _ rfl (pP w10.heap.size 0) (w10.alloc (.cells tZ 39)) (by go_simp) ?_;refine AZ rfl rfl _ _ _ rfl (({typ:=119,count:=ds.length}:TV).cl (.slice qa4 qn4 qc4) (.slice da4 dn4 dc4)).toArray rfl rfl iT rfl (by simp[TV.cl,Value.oneCell']) ?_;intro w11 hB E;refine wpList_nil ?_;have HK:=hid (HK.o.row E hB);clear hB E;go_wp2_with fail;refine(ts5 HDT.o gx gy hk2 HDl.o HK.o (SlS.nil _) (Sl.nil _)).mono ?_;rintro r w12 ⟨qa5,qn5,qc5,da5,dn5,dc5,rfl,hK⟩;have HK:=hid hK;clear hK;rename_i K1 hK1;refine hK1 _ _ ?_;clear hK1;refine wpList_runTo rfl _ rfl (pP w12.heap.size 0) (w12.alloc (.cells tZ 39)) (by go_simp) ?_;refine AZ rfl rfl _ _ _ rfl (({typ:=127}:TV).cl (.slice qa5 qn5 qc5) (.slice da5 dn5 dc5)).toArray rfl rfl iT rfl (by simp[TV.cl,Value.oneCell']) ?_
 intro w13 hB E;refine wpList_nil ?_;have HK:=hid (HK.o.row E hB);clear hB E;go_wp2_with fail;refine(ts6 HDT.o gy hk2 HDl.o (HK.o.ext ((Ext.refl _).alloc _)) (SlS.one (Ub w13 _)) (Sl.nil _)).mono ?_;rintro r w14 ⟨qa6,qc6,da6,dn6,dc6,rfl,hK⟩;have HK:=hid hK;clear hK;rename_i K1 hK1;refine hK1 _ _ ?_;clear hK1;refine wpList_runTo rfl _ rfl (pP w14.heap.size 0) (w14.alloc (.cells tZ 39)) (by go_simp) ?_;refine AZ rfl rfl _ _ _ rfl (({typ:=111}:TV).cl (.slice qa6 1 qc6) (.slice da6 dn6 dc6)).toArray rfl rfl iT rfl (by simp[TV.cl,Value.oneCell']) ?_;intro w15 hB E;refine wpList_nil ?_;have HK:=hid (HK.o.row E hB);clear hB E;go_wp2_with fail;refine(ts7 HDT.o hk2 HDl.o HK.o (SlS.nil _) (Sl.nil _)).mono ?_;rintro r w16 ⟨v,rfl,hK⟩;have HK:=hid hK;clear hK;go_wp2_with fail;refine(ts8 HDT.o hk2 HDl.o HWf.o HK.o (SlS.nil _) (Sl.nil _)).mono ?_;rintro r w17 ⟨qa8,qn8,qc8,da8,dn8,dc8,rfl,hK⟩;have HK:=hid hK;clear hK;rename_i K1 hK1;refine hK1 _ _ ?_;clear hK1;refine wpList_runTo rfl _ rfl (pP w17.heap.size 0) (w17.alloc (.cells tZ 39)) (by go_simp) ?_
 refine AZ rfl rfl _ _ _ rfl (({typ:=117}:TV).cl (.slice qa8 qn8 qc8) (.slice da8 dn8 dc8)).toArray rfl rfl iT rfl (by simp[TV.cl,Value.oneCell']) ?_;intro w18 hB E;refine wpList_nil ?_;have HK:=hid (HK.o.row E hB);clear hB E;go_wp2_with fail;refine(ts9 HDT.o gx gy hk2 HDl.o (HK.o.ext ((Ext.refl _).alloc _)) (SlS.one (Ub w18 _)) (Sl.nil _)).mono ?_;rintro r w19 ⟨t9,qa9,qn9,qc9,da9,dn9,dc9,rfl,hcode,l9,st9,n9,hK⟩;have HK:=hid hK;clear hK;rename_i K1 hK1;refine hK1 _ _ ?_;clear hK1;refine wpList_runTo rfl _ rfl (pP w19.heap.size 0) (w19.alloc (.cells tZ 39)) (by go_simp) ?_;refine AZ rfl rfl _ _ _ rfl (t9.cl (.slice qa9 qn9 qc9) (.slice da9 dn9 dc9)).toArray rfl rfl iT rfl (by simp[TV.cl,Value.oneCell']) ?_;intro w20 hB E;refine wpList_nil ?_;have HK:=hid (HK.o.row E hB);clear hB E;obtain⟨hT,hE,hM⟩:=HK.o.end HT.o;have HAl:=hid (NB hT hM);have HE:=hid hE;have c9:=cO (HK.o.at (List.mem_cons_self ..)) 2;have c8:=cO (HK.o.at (List.mem_cons_of_mem _ (List.mem_cons_self ..))) 0;have c7:=cO (HK.o.at (List.mem_cons_of_mem _ (List.mem_cons_self ..))) 11;have c6:=cO (HK.o.at (List.mem_cons_of_mem _ (List.mem_cons_of_mem _ (List.mem_cons_self ..)))) 10;have c5:=cO (HK.o.at (List.mem_cons_of_mem _ (List.mem_cons_of_mem _ (List.mem_cons_of_mem _ (List.mem_cons_self ..))))) 0
 have c4:=cO (HK.o.at (List.mem_cons_of_mem _ (List.mem_cons_of_mem _ (List.mem_cons_of_mem _ (List.mem_cons_of_mem _ (List.mem_cons_self ..)))))) 5;have r8:=(HK.o.bytes (List.mem_cons_self ..)).str;have r4:=(HK.o.bytes (List.mem_cons_of_mem _ (List.mem_cons_self ..))).str;generalize strOfNums ds=R at r8 r4;simp only[TV.cl,List.getElem?_toArray,List.getElem?_cons_zero,List.getElem?_cons_succ] at c9 c8 c7 c6 c5 c4;rw[<-HDn.o] at c4;have hcd:t9.code=2↔sx≠sy:=hcode;clear hcode hT hE hM HDn HDl HWf HT HM HD HDT HK hk2 hk gx gy hnil;by_cases e:sx=sy
 ·subst e;have k1:(t9.code==2)=false:=by simpa using λ h=>(hcd.1 h) rfl
  clear hcd;generalize t9.code=cc at c9 k1;go_wp2_with fail;refine HAl.o.mono ?_;rintro r w21 ⟨rfl,X⟩;have HX:=hid (HE.o.trans X);clear X;go_wp2_with fail;go_ret;exact⟨rfl,HX.o⟩
 ·have k1:t9.code=2:=hcd.2 e;have k2:¬sx.toList=sy.toList:=by rw[tl,tl];exact λ h=>e (ByteArray.ext (Array.toList_inj.1 h))
  rw[k1] at c9;clear hcd k1;go_wp2_with fail;refine HAl.o.mono ?_;rintro r w21 ⟨rfl,X⟩;have HX:=hid (HE.o.trans X);clear X;go_wp2_with fail;go_ret;refine⟨?_,HX.o⟩;show Ending.returned (.bool (!(sx.toList==sy.toList)))=_;simp[k2]
end
end Go.Proofs.YtdakioiagpkfhaaGreatDoor
