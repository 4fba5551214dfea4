import Derived.Test.YtdakioiagpkfhaaGreatDoorRows
import Derived.WalkKit
import Derived.ProofKit
import Derived.OpenShut
import Derived.Handy
import Derived.Outline
import Derived.WalkSpells
import Derived.WalkLawsBesides
import Derived.Laws.Rows
import Derived.Lib.Hide
import Derived.Deep.RegionHeld3
import Derived.Deep.RegionWith
import Derived.Deep.DeepCutAuto
import Derived.Deep.DeepMust
import Derived.Deep.DeepFit
import Derived.Deep.LoopGhost
import Derived.Deep.QuietTactic
import Derived.BigQuiet
import Derived.OwnWalk
import Derived.Maps.OwnSet
import Derived.Maps.OwnOps
import Derived.Lib.Hide
set_option maxRecDepth 99999
set_option maxHeartbeats 0
set_option linter.all false
namespace Go.Proofs.YtdakioiagpkfhaaGreatDoor
open RowKit
open Go.Proofs.Tryz
abbrev tT (a b c d e:Int) (f:Bool) (g h:Int) (q v:Value):Array Value:=#[.int .i64 a,.int .i64 b,.int .i64 c,.int .i64 0,.int .i64 d,.int .i64 e,.string ⟨#[]⟩,.bool f,.int .i64 g,.int .i64 h,q,v,.bool false,.int .i64 0,.int .i64 0,.int .i64 0,.int .i64 0,.string ⟨#[]⟩]
abbrev tZ:Array Value:=#[.int .i64 0,.int .i64 0,.int .i64 0,.int .i64 0,.int .i64 0,.int .i64 0,.string ⟨#[]⟩,.bool false,.int .i64 0,.int .i64 0,.slice none 0 0,.slice none 0 0,.bool false,.int .i64 0,.int .i64 0,.int .i64 0,.int .i64 0,.string ⟨#[]⟩]
abbrev aA (a b c d e f g h i j:Int) (s:ByteArray) (n:Value) (k:Int) (v:Value):Array Value:=#[.int .i64 a,.int .i64 b,.int .i64 c,.int .i64 d,.int .i64 e,.int .i64 f,.int .i64 g,.int .i64 h,.int .i64 i,.int .i64 j,.string s,n,.int .i64 k,v]
abbrev aZ:Array Value:=#[.int .i64 0,.int .i64 0,.int .i64 0,.int .i64 0,.int .i64 0,.int .i64 0,.int .i64 0,.int .i64 0,.int .i64 0,.int .i64 0,.string ⟨#[]⟩,.slice none 0 0,.int .i64 0,.slice none 0 0]
abbrev rR (a b c d e f:Int) (v:Value) (g:Int) (h:Bool) (l:Value):Array Value:=#[.int .i64 a,.int .i64 b,.int .i64 c,.int .i64 d,.int .i64 e,.int .i64 f,v,.int .i64 g,.bool h,l]
abbrev rZ:Array Value:=#[.int .i64 0,.int .i64 0,.int .i64 0,.int .i64 0,.int .i64 0,.int .i64 0,.slice none 0 0,.int .i64 0,.bool false,.slice none 0 0]
abbrev pR (a b c d e f g h i:Int) (s t:ByteArray) (v:Value):Array Value:=#[.int .i64 a,.int .i64 b,.int .i64 c,.int .i64 d,.int .i64 e,.int .i64 f,.int .i64 g,.int .i64 h,.int .i64 i,.string s,.string t,v]
abbrev fR (a b c d:Int) (s:ByteArray) (e f:Bool) (g h i:Int):Array Value:=#[.int .i64 a,.int .i64 b,.int .i64 c,.int .i64 d,.string s,.bool e,.bool f,.int .i64 g,.int .i64 h,.int .i64 i]
abbrev fZ:Array Value:=#[.int .i64 0,.int .i64 0,.int .i64 0,.int .i64 0,.string ⟨#[]⟩,.bool false,.bool false,.int .i64 0,.int .i64 0,.int .i64 0]
abbrev cC (a b c d:Int) (u v w:Value):Array Value:=#[.int .i64 a,.int .i64 b,.int .i64 c,.int .u32 d,u,v,w]
abbrev iI (n:Int):Value:=.int .i64 n
abbrev pP (b o:Nat):Value:=.pointer (some ⟨b,o,none⟩)
abbrev dD (b o:Nat):Addr:=⟨b,o,none⟩
abbrev sS (b o n c:Nat):Value:=.slice (some ⟨b,o,none⟩) n c
abbrev nN:Value:=.slice none 0 0
abbrev eE:Value:=.string ⟨#[]⟩
abbrev oC (c:Array Value) (t:TypeId):Option Obj:=some (.cells c t (0,0))
abbrev Ub:=@heap_alloc_new
abbrev Uc:=@List.length_append
abbrev Ud:=@List.getElem?_eq_getElem
abbrev Ue:=@bodyPost_ret
abbrev Uf:=@Nat.le_refl
abbrev Ug:=@World.block_lt_of_cell?
abbrev Uh:=@IntWalk.i64_in
abbrev Ui:=@List.append_assoc
abbrev Uj:=@results_cell_row
abbrev Uk:=@And.right
abbrev Ul:=@List.length_take
abbrev Um:=@List.mem_cons
abbrev Un:=@List.length_cons
def Hy (p:Prop):Prop:=p
theorem hid {p:Prop} (h:p):Hy p:=h
theorem Hy.o {p:Prop} (h:Hy p):p:=h
variable {S:List Nat} {a b c w w':World} {cs:Array Value} {g:Nat} {k:Int} {l:List (Int×Value)} {o:Obj} {p:Addr} {q:IntKind} {t:TypeId} {v:Value}
def Ext (w w':World):Prop:=Below w.heap.size w w'
theorem Ext.refl (w:World):Ext w w:=Below.refl _ _
theorem Ext.trans (h:Ext a b) (k:Ext b c):Ext a c:=Below.trans h (Below.mono k h.size)
theorem Ext.drew (h:Ext a b):Ext a b.drew:=Below.drew h
theorem Ext.drewN (h:Ext a b) (n:Nat):Ext a (b.drewN n):=⟨h.os,h.tape,h.output,h.size,h.block⟩
theorem Ext.alloc (h:Ext a b) (o:Obj):Ext a (b.alloc o):=Below.alloc h h.size o
theorem Ext.cell (h:Ext a b) (hp:a.cell? p=some v):b.cell? p=some v:=
 (Below.cell h (Ug a p hp)).trans hp
theorem lH (h:w.heap[g]?=some o):g<w.heap.size:=(Array.getElem?_eq_some_iff.1 h).1
theorem Ext.heap (h:Ext a b) (hp:a.heap[g]?=some o):b.heap[g]?=some o:=
 (h.block g (lH hp)).trans hp
structure Upd (S:List Nat) (w w':World):Prop where
 os:w'.os=w.os
 tape:w'.tape=w.tape
 output:w'.output=w.output
 size:w.heap.size<=w'.heap.size
 block:∀k,k<w.heap.size->k∉S->w'.heap[k]?=w.heap[k]?
theorem Upd.refl (S:List Nat) (w:World):Upd S w w:=⟨rfl,rfl,rfl,Uf _,λ _ _ _=>rfl⟩
theorem Upd.trans (h:Upd S a b) (k:Upd S b c):Upd S a c:=
 ⟨k.os.trans h.os,k.tape.trans h.tape,k.output.trans h.output,Nat.le_trans h.size k.size,λ i hi hs=>(k.block i (Nat.lt_of_lt_of_le hi h.size) hs).trans (h.block i hi hs)⟩
theorem Ext.upd (h:Ext a b) (S:List Nat):Upd S a b:=⟨h.os,h.tape,h.output,h.size,λ k hk _=>h.block k hk⟩
theorem Upd.mono {T:List Nat} (h:Upd S a b) (hs:∀k∈S,k∈T):Upd T a b:=⟨h.os,h.tape,h.output,h.size,λ k hk hn=>h.block k hk (λ hm=>hn (hs k hm))⟩
theorem Upd.heap (h:Upd S a b) (hp:a.heap[g]?=some o) (hg:g∉S):b.heap[g]?=some o:=
 (h.block g (lH hp) hg).trans hp
theorem Upd.cell (h:Upd S a b) (hp:a.cell? p=some v) (hg:p.block∉S):b.cell? p=some v:=
 (World.cell?_of_block (w:=a) (h.block p.block (Ug a p hp) hg)).trans hp
theorem Upd.ext {o:World} (h:Upd S a b) (k:Ext o a) (hs:∀g∈S,o.heap.size<=g):Ext o b:=
 ⟨h.os.trans k.os,h.tape.trans k.tape,h.output.trans k.output,Nat.le_trans k.size h.size,
  λ i hi=>(h.block i (Nat.lt_of_lt_of_le hi k.size) (λ hm=>by have:=hs i hm;omega)).trans (k.block i hi)⟩
theorem Upd.drew (h:Upd S a b):Upd S a b.drew:=⟨h.os,h.tape,h.output,h.size,h.block⟩
theorem Upd.alloc (h:Upd S a b) (o:Obj):Upd S a (b.alloc o):=h.trans (((Ext.refl b).alloc o).upd S)
theorem Upd.setCell (h:Upd S a b) (p:Addr) (v:Value) (hp:p.block∈S\/a.heap.size<=p.block):Upd S a (b.setCell p v):=
 ⟨h.os,h.tape,h.output,by have:=h.size;simp[World.setCell];omega,λ k hk hs=>(Below.heap_setCell b p v k (λ e=>by subst e;rcases hp with hp|hp;exact hs hp;omega)).trans (h.block k hk hs)⟩
theorem cO (h:w.heap[g]?=oC cs t) (i:Nat):w.cell? (dD g i)=cs[i]?:=by simp[World.cell?,h]
theorem fO (h:w.heap[g]?=oC cs t) (i:Nat):w.frozen? (dD g i)=false:=by simp[World.frozen?,h]
theorem Al {a b:Value} (h:w.heap[g]?=oC #[a,b] t):
  w.cell? (dD g 0)=some a/\w.cell? (dD g 1)=some b/\w.frozen? (dD g 0)=false/\w.frozen? (dD g 1)=false:=
 ⟨cO h 0,cO h 1,fO h 0,fO h 1⟩
theorem BZ {a b c:Value} (h:w.heap[g]?=oC #[a,b,c] t):
  w.cell? (dD g 0)=some a/\w.cell? (dD g 1)=some b/\w.cell? (dD g 2)=some c/\w.frozen? (dD g 0)=false/\w.frozen? (dD g 1)=false/\w.frozen? (dD g 2)=false:=
 ⟨cO h 0,cO h 1,cO h 2,fO h 0,fO h 1,fO h 2⟩
def look:List (Int×Value)->Int->Option Value
 |[],_=>none
 |p::l,k=>if p.1=k then some p.2 else look l k
def del:List (Int×Value)->Int->List (Int×Value)
 |[],_=>[]
 |p::l,k=>if p.1=k then l else p::del l k
def put:List (Int×Value)->Int->Value->List (Int×Value)
 |[],k,v=>[(k,v)]
 |p::l,k,v=>if p.1=k then(k,v)::l else p::put l k v
def Ap (w:World) (b:Nat) (q:IntKind) (l:List (Int×Value)):Prop:=
 ∃es clock,w.heap[b]?=some (.map es clock)/\es.toList.map (λ e=>(e.key,e.val))=l.map (λ p=>(Value.int q p.1,p.2))/\
  (es.toList.map (·.born)).Nodup/\∀e∈es.toList,e.born<clock
theorem Ap.of_heap {b:Nat} (h:Ap w b q l) (hb:w'.heap[b]?=w.heap[b]?):Ap w' b q l:=by
 obtain⟨es,clock,h1,h2⟩:=h;exact⟨es,clock,hb.trans h1,h2⟩
theorem Ap.lt {b:Nat} (h:Ap w b q l):b<w.heap.size:=by
 obtain⟨es,clock,h1,_⟩:=h;exact lH h1
theorem Ap.ext {b:Nat} (h:Ap w b q l) (k:Ext w w'):Ap w' b q l:=h.of_heap (k.block b h.lt)
theorem Ap.upd {b:Nat} (h:Ap w b q l) (k:Upd S w w') (hb:b∉S):Ap w' b q l:=h.of_heap (k.block b h.lt hb)
theorem Ap.new (w:World) (q:IntKind):Ap (w.alloc (.map #[] 0)) w.heap.size q []:=⟨#[],0,Ub w _,rfl,by simp,by simp⟩
def EW:List (Int×Value)->Int->Nat->Option (Nat×Value)
 |[],_,_=>none
 |p::l,k,i=>if p.1=k then some (i,p.2) else EW l k (i+1)
theorem EN (q:IntKind) (k:Int):∀(es:List MapEntry) (l:List (Int×Value)) (i:Nat),es.map (λ e=>(e.key,e.val))=l.map (λ p=>(Value.int q p.1,p.2))->
  Instr.findNow (.int q) (.int q k) es i=some (EW l k i)
 |[],[],i,_=>rfl
 |[],p::l,i,h=>by simp at h
 |e::es,[],i,h=>by simp at h
 |e::es,p::l,i,h=>by
  simp only[List.map_cons,List.cons.injEq,Prod.mk.injEq] at h;obtain⟨⟨h1,h2⟩,h3⟩:=h;have ih:=EN q k es l (i+1) h3;unfold Instr.findNow EW;rw[h1];by_cases hk:p.1=k
  ·rw[if_pos hk];simp[Instr.sameNow,hk,h2]
  ·have hk':(k==p.1)=false:=by simp;exact λ e=>hk e.symm
   rw[if_neg hk];simp[Instr.sameNow,hk',ih]
theorem Cj:∀(l:List (Int×Value)) (i j:Nat) (v:Value),EW l k i=some (j,v)->
  ∃m,j=i+m/\m<l.length/\look l k=some v/\l.eraseIdx m=del l k/\(∀u,l.modify m (λ _=>(k,u))=put l k u)/\(∃u,l[m]?=some (k,u))
 |[],i,j,v,h=>by simp[EW] at h
 |p::l,i,j,v,h=>by
  unfold EW at h;by_cases hk:p.1=k
  ·rw[if_pos hk] at h;simp at h;obtain⟨rfl,rfl⟩:=h;exact⟨0,rfl,by simp,by simp[look,hk],by simp[del,hk],λ u=>by simp[put,hk],p.2,by rw[<-hk];rfl⟩
  ·rw[if_neg hk] at h;obtain⟨m,h1,h2,h3,h4,h5,u,h6⟩:=Cj l (i+1) j v h;exact⟨m+1,by omega,by simp;omega,by simp[look,hk,h3],by simp[del,hk,h4],λ u=>by simp[put,hk,h5 u],u,by simpa using h6⟩
theorem Ck:∀(l:List (Int×Value)) (i:Nat),EW l k i=none->look l k=none/\del l k=l/\∀u,put l k u=l++[(k,u)]
 |[],i,_=>⟨rfl,rfl,λ _=>rfl⟩
 |p::l,i,h=>by
  unfold EW at h;by_cases hk:p.1=k
  ·rw[if_pos hk] at h;cases h
  ·rw[if_neg hk] at h;obtain⟨h1,h2,h3⟩:=Ck l (i+1) h;exact⟨by simp[look,hk,h1],by simp[del,hk,h2],λ u=>by simp[put,hk,h3 u]⟩
section
variable {P:Program} {w:World} {b:Nat} {q:IntKind} {l:List (Int×Value)} {T K E:TypeId}
theorem BC (hK:P.underlying K=some (.int q)) (em:Bool) (k:Int) (w:World):(Instr.checkKey em 10000 K (.int q k)).run P w= .ok () w:=by
 unfold Instr.checkKey;simp[Sem.run_bind,run_underlying hK]
theorem Ai (hK:P.underlying K=some (.int q)) {es:List MapEntry} (h:es.map (λ e=>(e.key,e.val))=l.map (λ p=>(Value.int q p.1,p.2))) (k:Int) (w:World):
  (Instr.findKey K (.int q k) es).run P w= .ok (EW l k 0) w:=by
 unfold Instr.findKey;simp[Sem.run_bind,run_underlying hK,EN q k es l 0 h]
theorem Ap.lookup (h:Ap w b q l) (hT:P.underlying T=some (.map K E)) (hK:P.underlying K=some (.int q)) {z:Value} (hz:(zeroValue E).run P w= .ok z w) (k:Int):
  (Instr.lookup T (.map (some b)) (.int q k) true).run P w= .ok (.tuple #[(look l k).getD z,.bool (look l k).isSome]) w:=by
 obtain⟨es,clock,hb,he,_⟩:=h;unfold Instr.lookup;cases hs:EW l k 0 with
 |none=>
  have hl:=(Ck l 0 hs).1;simp[Sem.run_bind,run_underlying hT,getObj,Sem.run,hb,BC hK,Ai hK he,hs,hz,hl]
 |some r=>
  obtain⟨j,v⟩:=r;obtain⟨_,_,_,hl,_⟩:=Cj l 0 j v hs;simp[Sem.run_bind,run_underlying hT,getObj,Sem.run,hb,BC hK,Ai hK he,hs,hl]
theorem Ap.len (h:Ap w b q l) (hT:P.underlying T=some (.map K E)) (ty:TypeId):(Builtin.len_ #[T] ty #[.map (some b)]).run P w= .ok (iI l.length) w:=by
 obtain⟨es,clock,hb,he,_⟩:=h;have hl:es.size=l.length:=by have:=congrArg List.length he;simpa using this
 unfold Builtin.len_;simp[Sem.run_bind,run_underlying hT,getObj,Sem.run,hb,goInt,hl]
theorem Bl (w:World) (b:Nat) (o:Obj):Upd [b] w {w with heap:=w.heap.setIfInBounds b o}:=
 ⟨rfl,rfl,rfl,by simp,λ k _ hs=>by
  have:b≠k:=λ e=>hs (by simp[e])
  simp[this]⟩
theorem Ci {b:Nat} (o:Obj) (hb:b<w.heap.size):({w with heap:=w.heap.setIfInBounds b o}:World).heap[b]?=some o:=by
 simp[hb]
theorem Ap.update (h:Ap w b q l) (hT:P.underlying T=some (.map K E)) (hK:P.underlying K=some (.int q)) (k:Int) (v:Value):
  ∃w',(Instr.mapUpdate T (.map (some b)) (.int q k) v).run P w= .ok () w'/\Ap w' b q (put l k v)/\Upd [b] w w':=by
 have hlt:=h.lt;obtain⟨es,clock,hb,he,hn,hc⟩:=h;unfold Instr.mapUpdate;cases hs:EW l k 0 with
 |none=>
  have hl:=(Ck l 0 hs).2.2 v;refine⟨{w with heap:=w.heap.setIfInBounds b (.map (es.push {key:= .int q k,val:=v,born:=clock}) (clock+1))},?_,⟨_,_,Ci _ hlt,?_,?_,?_⟩,Bl w b _⟩
  ·simp[Sem.run_bind,run_underlying hT,getObj,setObj,Sem.run,hb,BC hK,Ai hK he,hs]
  ·rw[hl];simp[he]
  ·simp only[Array.toList_push,List.map_append,List.map_cons,List.map_nil];rw[List.nodup_append];refine⟨hn,by simp,?_⟩;intro x hx y hy;simp only[List.mem_singleton] at hy;subst hy;simp only[List.mem_map] at hx;obtain⟨e,hm,rfl⟩:=hx;have:=hc e hm;omega
  ·intro e hm;simp only[Array.toList_push,List.mem_append,List.mem_singleton] at hm;rcases hm with hm|rfl
   ·have:=hc e hm;omega
   ·simp
 |some r=>
  obtain⟨j,v0⟩:=r;obtain⟨m,hj,hm,_,_,hp,u,hu⟩:=Cj l 0 j v0 hs;obtain rfl:j=m:=by omega
  have hkey:(es[j]?).map (·.key)=some (.int q k):=by
   have h1:=congrArg (·[j]?) he;simp only[List.getElem?_map,hu,Option.map_some] at h1;rw[Option.map_eq_some_iff] at h1;obtain⟨e,h2,h3⟩:=h1;have h4:es[j]?=some e:=by simpa using h2
   rw[h4];simp only[Prod.mk.injEq] at h3;simp[h3.1]
  refine⟨{w with heap:=w.heap.setIfInBounds b (.map (es.modify j λ e=>{e with key:= .int q k,val:=v}) clock)},?_,⟨_,_,Ci _ hlt,?_,?_,?_⟩,Bl w b _⟩
  ·have hsb:∀n,Instr.sameBits n (.int q k) (.int q k)=true:=by intro n;cases n<;>simp[Instr.sameBits]
   simp only[Sem.run_bind,run_underlying hT,getObj,setObj,Sem.run,hb,BC hK,Ai hK he,hs,Result.andThen_ok,hkey,Option.getD_some,Instr.keyThatStays,hsb,if_true,Sem.run_pure]
  ·rw[<-hp v];have hmod:(es.modify j λ e=>{e with key:= .int q k,val:=v}).toList=es.toList.modify j λ e=>{e with key:= .int q k,val:=v}:=by simp
   rw[hmod];apply List.ext_getElem?;intro i;simp only[List.getElem?_map,List.getElem?_modify];have h1:=congrArg (·[i]?) he;simp only[List.getElem?_map] at h1;by_cases hij:j=i
   ·subst hij;rw[hu] at h1|-
    simp only[Option.map_some] at h1;rw[Option.map_eq_some_iff] at h1;obtain⟨e,h2,_⟩:=h1;simp[h2]
   ·simp only[if_neg hij];simpa using h1
  ·have hmod:(es.modify j λ e=>{e with key:= .int q k,val:=v}).toList=es.toList.modify j λ e=>{e with key:= .int q k,val:=v}:=by simp
   have:((es.toList.modify j λ e=>{e with key:= .int q k,val:=v}).map (·.born))=es.toList.map (·.born):=by
    apply List.ext_getElem?;intro i;simp only[List.getElem?_map,List.getElem?_modify];by_cases hij:j=i
    ·subst hij;simp[Function.comp_def]
    ·simp[hij]
   rw[hmod,this];exact hn
  ·intro e hm2;have hmod:(es.modify j λ e=>{e with key:= .int q k,val:=v}).toList=es.toList.modify j λ e=>{e with key:= .int q k,val:=v}:=by simp
   rw[hmod] at hm2;obtain⟨i,hi⟩:=List.getElem?_of_mem hm2;rw[List.getElem?_modify] at hi;simp only[Option.map_eq_map,Option.map_eq_some_iff] at hi;obtain⟨e0,h0,h1⟩:=hi;have:=hc e0 (List.mem_of_getElem? h0);rw[<-h1]
   split<;>simpa using this
theorem DY {α β:Type} (f:α->β):∀(l:List α) (i:Nat),(l.eraseIdx i).map f=(l.map f).eraseIdx i
 |[],_=>by simp
 |_::_,0=>by simp
 |x::l,i+1=>by simp[DY f l i]
theorem Ap.delete (h:Ap w b q l) (hT:P.underlying T=some (.map K E)) (hK:P.underlying K=some (.int q)) (k:Int) (ty:TypeId):
  ∃w',(Builtin.delete_ #[T,K] ty #[.map (some b),.int q k]).run P w= .ok (.tuple #[]) w'/\Ap w' b q (del l k)/\Upd [b] w w':=by
 have hlt:=h.lt;obtain⟨es,clock,hb,he,hn,hc⟩:=h;unfold Builtin.delete_;cases hs:EW l k 0 with
 |none=>
  have hl:=(Ck l 0 hs).2.1;refine⟨{w with heap:=w.heap.setIfInBounds b (.map es clock)},?_,⟨_,_,Ci _ hlt,by rw[hl];exact he,hn,hc⟩,Bl w b _⟩;simp[Sem.run_bind,run_underlying hT,getObj,setObj,Sem.run,hb,BC hK,Ai hK he,hs]
 |some r=>
  obtain⟨j,v0⟩:=r;obtain⟨m,hj,hm,_,hd,_⟩:=Cj l 0 j v0 hs;obtain rfl:j=m:=by omega
  have hsub:(es.eraseIdxIfInBounds j).toList=es.toList.eraseIdx j:=by
   unfold Array.eraseIdxIfInBounds
   split
   ·simp
   ·rename_i hge;rw[List.eraseIdx_of_length_le];simp at hge|-
    omega
  refine⟨{w with heap:=w.heap.setIfInBounds b (.map (es.eraseIdxIfInBounds j) clock)},?_,⟨_,_,Ci _ hlt,?_,?_,?_⟩,Bl w b _⟩
  ·simp[Sem.run_bind,run_underlying hT,getObj,setObj,Sem.run,hb,BC hK,Ai hK he,hs]
  ·rw[hsub,<-hd,DY,he,DY]
  ·rw[hsub,DY];exact hn.sublist (List.eraseIdx_sublist _ _)
  ·intro e hm2;rw[hsub] at hm2;exact hc e (List.mem_of_mem_eraseIdx hm2)
end
section
variable {P:Program} {w w':World} {ops:Array Oper} {rest:List Oper} {o:Oper} {a:Act} {Q:Exit->Act->World->Prop}
theorem jA (hgd:o.guard=none) (s x:Operand) (ats:Array TypeId) (ho:o.op= .call {callee:= .builtin .append,args:= #[s,x],argTypes:=ats}) (v y v':Value) (hs:a.eval s=v) (hx:a.eval x=y) (hrun:(Builtin.append_ ats o.type #[v,y]).run P w= .ok v' w') (h:wpList P ops Q rest (a.put o.dst v') w'):wpList P ops Q (o::rest) a w:=by
 refine wpList_plain hgd λ K hK=> ?_
 unfold Oper.wp execOp;simp only[ho,resolve,invoke,builtin,Sem.run_bind,Sem.run_pure,Result.andThen_ok,List.map_toArray,List.map_cons,List.map_nil,hs,hx,hrun];exact hK _ _ h
theorem CS (hgd:o.guard=none) (s x:Operand) (ats:Array TypeId) (ho:o.op= .call {callee:= .builtin .delete,args:= #[s,x],argTypes:=ats}) (v y v':Value) (hs:a.eval s=v) (hx:a.eval x=y) (hrun:(Builtin.delete_ ats o.type #[v,y]).run P w= .ok v' w') (h:wpList P ops Q rest (a.put o.dst v') w'):wpList P ops Q (o::rest) a w:=by
 refine wpList_plain hgd λ K hK=> ?_
 unfold Oper.wp execOp;simp only[ho,resolve,invoke,builtin,Sem.run_bind,Sem.run_pure,Result.andThen_ok,List.map_toArray,List.map_cons,List.map_nil,hs,hx,hrun];exact hK _ _ h
theorem CR (hgd:o.guard=none) (t:TypeId) (m x v:Operand) (ho:o.op= .mapUpdate t m x v) (mv kv vv:Value) (hm:a.eval m=mv) (hx:a.eval x=kv) (hv:a.eval v=vv) (hrun:(Instr.mapUpdate t mv kv vv).run P w= .ok () w') (h:wpList P ops Q rest (a.put o.dst undef) w'):wpList P ops Q (o::rest) a w:=by
 refine wpList_plain hgd λ K hK=> ?_
 unfold Oper.wp execOp;simp only[ho,Sem.run_bind,Sem.run_pure,Result.andThen_ok,hm,hx,hv,hrun];exact hK _ _ h
end
def Kr (n m:Int):Int:=(if n<0 then-(n+1) else n)%m
theorem R7 (n m:Int) (hm:0<m):0<=Kr n m/\Kr n m<m:=⟨Int.emod_nonneg _ (by omega),Int.emod_lt_of_pos _ hm⟩
theorem Pn (n m:Int) (h:n<0):Kr n m= -((n+1).tmod m):=by
 unfold Kr;rw[if_pos h,<-Int.neg_tmod,Int.tmod_eq_emod_of_nonneg (by omega)]
theorem Pm (n m:Int) (h:¬n<0):Kr n m=n%m:=by unfold Kr;rw[if_neg h]
theorem DX {k:IntKind} {a b:Int} (h:a=b):Ending.returned (.int k a)= .returned (.int k b):=by rw[h]
end Go.Proofs.YtdakioiagpkfhaaGreatDoor
