import Derived.Test.YtdakioiagpkfhaaGreatDoorP06
import Derived.Conc.LoneCalls
set_option maxRecDepth 99999
set_option maxHeartbeats 0
set_option linter.all false
namespace Go.Proofs.YtdakioiagpkfhaaGreatDoor
open RowKit Conc
open Go.Proofs.Tryz
variable {F S:List Nat} {P:Program} {Q:Exit->Act->World->Prop} {a:Act} {bufT:Array Value} {cr ct id p sc x:Nat} {e:TypeId} {fv v:Value} {ops:Array Oper} {sa:Option Addr} {ss:List Int} {w w':World}
section
variable {P:Program} {fr:Frame} {cs:List Frame} {w w₁:World} {es:Array Event} {c cap s r:Nat} {buf:Array Value} {z v:Value} {tm closed:Bool}
theorem GI (h:stepG P true (G fr cs) w= .comm (G fr cs) #[scase c v z] false .select w₁ es) (hc:w₁.heap[c]?=some (.chan cap buf false s r tm)) (hroom:buf.size<cap):
  step P (solo (G fr cs) w)= .next (solo (G (fr.finish (.tuple #[goInt 0,.bool false])) cs) (w₁.setChan c cap (buf.push v) false (s+1) r tm)):=by
 have hp:=partners_alone (c:=c) false;rw[step,stepT_solo rfl];simp[runT,solo,G,Array.swapAt!,Array.swapAt,h,GStep.es,communicate,ways,scase,hc,hp,hroom,choose,Sem.run,Question.forced,bind,Sem.bind,pure,Goroutine.finishComm,commResult,World.setChan] at h|-
theorem GJ (h:stepG P true (G fr cs) w= .comm (G fr cs) #[rcase c z] false .select w₁ es) (hc:w₁.heap[c]?=some (.chan cap buf closed s r tm)) (hsome:0<buf.size):
  step P (solo (G fr cs) w)= .next (solo (G (fr.finish (.tuple #[goInt 0,.bool true,buf.getD 0 undef])) cs) (w₁.setChan c cap (buf.extract 1 buf.size) closed s (r+1) tm)):=by
 have hp:=partners_alone (c:=c) true;rw[step,stepT_solo rfl];simp[runT,solo,G,Array.swapAt!,Array.swapAt,h,GStep.es,communicate,ways,rcase,hc,hp,hsome,choose,Sem.run,Question.forced,bind,Sem.bind,pure,Goroutine.finishComm,commResult,World.setChan] at h|-
end
def AB (P:Program) (ops:Array Oper) (i:Nat) (a:Act) (w:World) (K:Act->World->Prop):Prop:=
 ∀(b:Frame) (k:List Item) (cs:List Frame) (rest:List Nat),∃a' w',K a' w'/\Steps P (lone (b.at a (.inRegion ops (i::rest)::k)) cs w) (lone (b.at a' (.inRegion ops rest::k)) cs w')
section
variable {P:Program} {ops:Array Oper} {i:Nat} {o:Oper} {a:Act} {w w':World} {K:Act->World->Prop}
theorem Du (b:Frame) (k:List Item) (rest:List Nat) (ho:ops[i]?=some o) (v:Value):(b.at a (.inRegion ops (i::rest)::k)).finish v=b.at (a.put o.dst v) (.inRegion ops rest::k):=by
 rw[Frame.finish_at,ho];rfl
theorem AB.value (ho:ops[i]?=some o) (hg:o.guard=none) (hr:(execOp a.eval o).run P w= .ok (.value v) w') (h:K (a.put o.dst v) w'):AB P ops i a w K:=by
 intro b k cs rest;refine⟨_,_,h,.one (step_lone_go ?_)⟩;rw[stepG_op ho (by simp[Region.wanted,hg]),<-Du b k rest ho];simp[stepG.apply,hr]
theorem AB.same (ho:ops[i]?=some o) (hg:o.guard=none) (hr:(execOp a.eval o).run P w= .ok (.value v) w) (h:K (a.put o.dst v) w):AB P ops i a w K:= .value ho hg hr h
theorem AB.enter (ho:ops[i]?=some o) (hg:o.guard=none) {f:FuncId} {args:Array Value} (hr:(execOp a.eval o).run P w= .ok (.enter f args) w') (h:Calls P f args w' λ e w''=>∃v,e= .returned v/\K (a.put o.dst v) w''):AB P ops i a w K:=by
 intro b k cs rest;obtain⟨e,w'',fr,⟨v,rfl,hk⟩,hsteps,_,hleave⟩:=h (b.at a (.inRegion ops (i::rest)::k)::cs);refine⟨_,_,hk,.head (step_lone_go (by rw[stepG_op ho (by simp[Region.wanted,hg])];simp[stepG.apply,hr,Frame.at])) (hsteps.trans (.one ?_))⟩;rw[<-Du b k rest ho];exact step_leave_returned hleave
theorem FG (b:Frame) (k:List Item) (cs:List Frame) (rest:List Nat) (ho:ops[i]?=some o) (hg:o.guard=none) {cases:Array CommCase} {bl:Bool} {sh:CommShape} (hr:(execOp a.eval o).run P w= .ok (.comm cases bl sh) w):
  ∃es,stepG P true (G (b.at a (.inRegion ops (i::rest)::k)) cs) w= .comm (G (b.at a (.inRegion ops (i::rest)::k)) cs) cases bl sh w es:=by
 have:=stepG_op (P:=P) (b:=b) (a:=a) (k:=k) (cs:=cs) (w:=w) (rest:=rest) ho (by simp[Region.wanted,hg]);unfold G;rw[this];simp only[stepG.apply,Sem.runT_eq,hr];exact⟨_,rfl⟩
variable {c cap s r:Nat} {buf:Array Value} {z v:Value} {tm closed:Bool}
theorem AB.send (ho:ops[i]?=some o) (hg:o.guard=none) (hr:(execOp a.eval o).run P w= .ok (.comm #[scase c v z] true .send) w) (hc:w.heap[c]?=some (.chan cap buf false s r tm)) (hroom:buf.size<cap) (h:K (a.put o.dst undef) (w.setChan c cap (buf.push v) false (s+1) r tm)):AB P ops i a w K:=by
 intro b k cs rest;obtain⟨es,he⟩:=FG b k cs rest ho hg hr;refine⟨_,_,h,.one ?_⟩;rw[<-Du b k rest ho];exact step_lone_send_room he hc hroom
theorem AB.recv (ho:ops[i]?=some o) (hg:o.guard=none) (hr:(execOp a.eval o).run P w= .ok (.comm #[rcase c z] true (.recv false)) w) (hc:w.heap[c]?=some (.chan cap buf closed s r tm)) (hsome:0<buf.size) (h:K (a.put o.dst (buf.getD 0 undef)) (w.setChan c cap (buf.extract 1 buf.size) closed s (r+1) tm)):AB P ops i a w K:=by
 intro b k cs rest;obtain⟨es,he⟩:=FG b k cs rest ho hg hr;refine⟨_,_,h,.one ?_⟩;rw[<-Du b k rest ho];exact step_lone_recv_buf false he hc hsome
theorem AB.selSend (ho:ops[i]?=some o) (hg:o.guard=none) (hr:(execOp a.eval o).run P w= .ok (.comm #[scase c v z] false .select) w) (hc:w.heap[c]?=some (.chan cap buf false s r tm)) (hroom:buf.size<cap) (h:K (a.put o.dst (.tuple #[goInt 0,.bool false])) (w.setChan c cap (buf.push v) false (s+1) r tm)):AB P ops i a w K:=by
 intro b k cs rest;obtain⟨es,he⟩:=FG b k cs rest ho hg hr;refine⟨_,_,h,.one ?_⟩;rw[<-Du b k rest ho];exact GI he hc hroom
theorem AB.selRecv (ho:ops[i]?=some o) (hg:o.guard=none) (hr:(execOp a.eval o).run P w= .ok (.comm #[rcase c z] false .select) w) (hc:w.heap[c]?=some (.chan cap buf closed s r tm)) (hsome:0<buf.size) (h:K (a.put o.dst (.tuple #[goInt 0,.bool true,buf.getD 0 undef])) (w.setChan c cap (buf.extract 1 buf.size) closed s (r+1) tm)):AB P ops i a w K:=by
 intro b k cs rest;obtain⟨es,he⟩:=FG b k cs rest ho hg hr;refine⟨_,_,h,.one ?_⟩;rw[<-Du b k rest ho];exact GJ he hc hsome
end
section
variable {P:Program} {id:Nat} {o:Oper} {l:List Oper} {Q:Exit->Act->World->Prop} {a:Act} {w:World}
theorem DB (h:AB P (o::l).toArray 0 a w λ a' w'=>wpList P (o::l).toArray Q l a' w'):(Code.region id (o::l).toArray false).wp P Q a w:=by
 intro b k cs;obtain⟨a',w',hk,hs⟩:=h b k cs (List.range' 1 l.length);rw[<-wpOps_eq_wpList (ops:=(o::l).toArray) l 1 (λ j=>by rw[Nat.add_comm];simp)] at hk;obtain⟨e,a₂,w₂,q,r⟩:=wp_ops _ a' w' hk b k cs;refine⟨e,a₂,w₂,q,.of_steps (.head step_region ?_) r⟩;have e1:List.range (o::l).toArray.size=0::List.range' 1 l.length:=by
  rw[List.range_eq_range'];simp[List.range'_succ]
 rw[e1];exact hs
end
section
variable (P:Program) (ops:Array Oper) (Q:Exit->Act->World->Prop)
def AK:Nat->Array Bool->Act->World->Prop
 |0,listed,a,w=>Region.ready .any ops listed=[]/\Q .normal a w
 |fuel+1,listed,a,w=>(Region.ready .any ops listed=[]->Q .normal a w)/\∀i∈Region.ready .any ops listed,AB P ops i a w (AK fuel (listed.setIfInBounds i true))
end
section
variable {P:Program} {ops:Array Oper} {Q:Exit->Act->World->Prop} {fuel:Nat} {listed:Array Bool} {a:Act} {w:World}
theorem AK.one (hr:Region.ready .any ops listed=[x]) (hx:AB P ops x a w (AK P ops Q fuel (listed.setIfInBounds x true))):AK P ops Q (fuel+1) listed a w:=by
 unfold AK;rw[hr];exact⟨(λ h0=>by cases h0),λ i hi=>by obtain rfl:=List.mem_singleton.1 hi;exact hx⟩
theorem AK.two {y:Nat} (hr:Region.ready .any ops listed=[x,y]) (hx:AB P ops x a w (AK P ops Q fuel (listed.setIfInBounds x true))) (hy:AB P ops y a w (AK P ops Q fuel (listed.setIfInBounds y true))):AK P ops Q (fuel+1) listed a w:=by
 unfold AK;rw[hr];exact⟨(λ h0=>by cases h0),λ i hi=>by rcases Um.1 hi with rfl|hi;exact hx;obtain rfl:=List.mem_singleton.1 hi;exact hy⟩
theorem AK.end (hr:Region.ready .any ops listed=[]) (h:Q .normal a w):AK P ops Q 0 listed a w:=⟨hr,h⟩
end
theorem AK.sound:∀(fuel t:Nat) (listed:Array Bool) (a:Act) (w:World),AK P ops Q fuel listed a w->
  ∀(b:Frame) (k:List Item) (cs:List Frame),∃a' w',Q .normal a' w'/\Steps P (lone (b.at a (.inRegion ops (Region.linearise.go .any ops fuel t listed [])::k)) cs w) (lone (b.at a' (.inRegion ops []::k)) cs w'):=by
 intro fuel
 induction fuel with
 |zero=>exact λ t listed a w h b k cs=>⟨a,w,h.2,.refl _ _⟩
 |succ fuel ih=>
  intro t listed a w ⟨h0,h1⟩ b k cs;rcases hr:Region.ready .any ops listed with _|⟨x,xs⟩
  ·refine⟨a,w,h0 hr,?_⟩;have hr':((List.range ops.size).filter λ i=> !listed.getD i true&&((ops[i]?).map (·.after.all λ e=> !Region.binds .any e||listed.getD e.on false)).getD false)=[]:=hr;simp only[Region.linearise.go,hr'];exact .refl _ _
  ·have hlt:t%(x::xs).length<(x::xs).length:=Nat.mod_lt _ (by simp);obtain⟨i,hi⟩:∃i,(x::xs)[t%(x::xs).length]?=some i:=⟨_,Ud hlt⟩;have hr':((List.range ops.size).filter λ i=> !listed.getD i true&&((ops[i]?).map (·.after.all λ e=> !Region.binds .any e||listed.getD e.on false)).getD false)=x::xs:=hr;obtain⟨a1,w1,hk,hs⟩:=h1 i (by rw[hr];exact List.mem_of_getElem? hi) b k cs (Region.linearise.go .any ops fuel (t/(x::xs).length) (listed.setIfInBounds i true) []);obtain⟨a2,w2,hq,hs2⟩:=ih (t/(x::xs).length) _ a1 w1 hk b k cs;refine⟨a2,w2,hq,?_⟩;have e1:Region.linearise.go .any ops (fuel+1) t listed []=i::Region.linearise.go .any ops fuel (t/(x::xs).length) (listed.setIfInBounds i true) []:=by
    simp only[Region.linearise.go,hr',hi];rw[linearise_go_acc];rfl
   rw[e1];exact hs.trans hs2
theorem DK (hm:P.follows .mixedOrders=true) (h:AK P ops Q ops.size (Array.replicate ops.size false) a w.drew):(Code.region id ops true).wp P Q a w:=by
 intro b k cs;obtain⟨a',w',hq,hs⟩:=AK.sound ops.size (w.tape w.drawn (.order b.fn id)) _ a w.drew h b k cs;refine⟨.normal,a',w',hq,Steps.head step_region_draw ?_⟩;have e1:Region.schedule (P.follows .mixedOrders) ops (w.tape w.drawn (.order b.fn id))=Region.linearise.go .any ops ops.size (w.tape w.drawn (.order b.fn id)) (Array.replicate ops.size false) []:=by
  simp only[Region.schedule,hm,Bool.true_or,if_true];rfl
 rw[e1];exact hs.trans (.one step_region_end)
def VC (P:Program) (ops:Array Oper) (Q:Exit->Act->World->Prop):List Nat->Act->World->Prop
 |[],a,w=>Q .normal a w
 |i::l,a,w=>AB P ops i a w (VC P ops Q l)
theorem VC.done (h:Q .normal a w):VC P ops Q [] a w:=h
theorem VC.sound:∀(l:List Nat) (a:Act) (w:World),VC P ops Q l a w->
  ∀(b:Frame) (k:List Item) (cs:List Frame),∃a' w',Q .normal a' w'/\Steps P (lone (b.at a (.inRegion ops l::k)) cs w) (lone (b.at a' (.inRegion ops []::k)) cs w')
 |[],a,w,h,b,k,cs=>⟨a,w,h,.refl _ _⟩
 |i::l,a,w,h,b,k,cs=>by
  obtain⟨a1,w1,hk,hs⟩:=h b k cs l;obtain⟨a2,w2,hq,hs2⟩:=VC.sound l a1 w1 hk b k cs;exact⟨a2,w2,hq,hs.trans hs2⟩
theorem Dh (h:VC P ops Q (List.range ops.size) a w):(Code.region id ops false).wp P Q a w:=by
 intro b k cs;obtain⟨a',w',hq,hs⟩:=VC.sound _ a w h b k cs;exact⟨.normal,a',w',hq,Steps.head step_region (hs.trans (.one step_region_end))⟩
theorem DE:prog.follows .mixedOrders=true:=by kernel_rfl
def PLeft (w:World) (bufT bufR:Array Value) (fv:Value) (zs:List Int):Prop:=
 (zs=[]/\bufT= #[]/\bufR= #[]/\fv= nN)\/(zs≠[]/\∃x,bufR= #[x]/\((∃tv,bufT= #[tv]/\Sl w tv zs/\fv= nN)\/(bufT= #[]/\Sl w fv zs)))
def Ty (w:World) (e:TypeId) (v:Value):Prop:=∀g,v.ownBlock=some g->∃cur,w.heap[g]?=oC cur e
theorem Ty.nil (w:World) (e:TypeId):Ty w e (nN):=λ g hg=>by cases hg
theorem Ty.upd (h:Ty w e v) (hx:Upd S w w') (hs:∀g cur,w.heap[g]?=oC cur e->g∉S):Ty w' e v:=λ g hg=>by
 obtain⟨cur,hc⟩:=h g hg;exact⟨cur,hx.heap hc (hs g cur hc)⟩
theorem AA.ty {b:Nat} {xs:List Value} (h:AA w b e v xs):Ty w e v:=λ g hg=>by
 rcases h.form with⟨rfl,_⟩|⟨g',cap,cur,rfl,_,_,_,hh,_⟩
 ·cases hg
 ·have:g'=g:=by simpa [Value.ownBlock] using hg
  subst this;exact⟨cur,hh⟩
def PTy (w:World) (p ct cr:Nat) (sa:Option Addr) (bufT:Array Value) (fv:Value) (F:List Nat):Prop:=
 (∀g∈F,g<w.heap.size)/\(p∈F/\ct∈F/\cr∈F)/\(∀g,(Value.slice sa 0 0).ownBlock=some g->g∈F)/\(∀g,fv.ownBlock=some g->g∈F)/\∀v∈bufT.toList,∀g,v.ownBlock=some g->g∈F
theorem PTy.keep {bufT':Array Value} {fv':Value} (h:PTy w p ct cr sa bufT fv F) (hx:w.heap.size<=w'.heap.size) (h1:∀g,fv'.ownBlock=some g->g∈F) (h2:∀v∈bufT'.toList,∀g,v.ownBlock=some g->g∈F):PTy w' p ct cr sa bufT' fv' F:=
 ⟨λ g hg=>Nat.lt_of_lt_of_le (h.1 g hg) hx,h.2.1,h.2.2.1,h1,h2⟩
theorem PTy.same (h:PTy w p ct cr sa bufT fv F) (hx:w.heap.size<=w'.heap.size):PTy w' p ct cr sa bufT fv F:=h.keep hx h.2.2.2.1 h.2.2.2.2
def Scr (w:World) (p:Nat) (sa:Option Addr) (sc:Nat) (ss:List Int):Prop:=AI .i64 w sa ss.length sc ss/\(∀s∈ss,0<=s)/\∀g o,sa=some ⟨g,o,none⟩->g≠p
theorem Scr.upd (h:Scr w p sa sc ss) (hx:Upd S w w') (hs:∀g o,sa=some ⟨g,o,none⟩->0<ss.length->g∉S):Scr w' p sa sc ss:=by
 obtain⟨⟨h1,h2,h3,h4,h5⟩,h6,h7⟩:=h;refine⟨⟨h1,h2,h3,h4,?_⟩,h6,h7⟩;rcases h5 with h5|⟨g,o,e,hc⟩
 ·exact .inl h5
 ·rcases Nat.eq_zero_or_pos ss.length with h0|h0
  ·exact .inl h0
  ·exact .inr ⟨g,o,e,λ i hi=>hx.cell (hc i hi) (hs g o e h0)⟩
theorem Scr.apart (h:Scr w p sa sc ss) {c1 c2:Nat} {b1 b2:Array Value} {x1 x2:Bool} {s1 s2 r1 r2:Nat} {t1 t2:Bool} (ht:w.heap[ct]?=some (.chan c1 b1 x1 s1 r1 t1)) (hr:w.heap[cr]?=some (.chan c2 b2 x2 s2 r2 t2)):∀g o,sa=some ⟨g,o,none⟩->0<ss.length->g∉[p,ct,cr]:=by
 intro g o e hl hm;obtain⟨⟨h1,h2,h3,h4,h5⟩,h6,h7⟩:=h;rcases h5 with h5|⟨g',o',e',hc⟩
 ·omega
 ·have e2:=e'.symm.trans e;injection e2 with e2;injection e2 with e3 e4;subst e3 e4;have q:=hc 0 hl;simp only[Um,List.not_mem_nil,or_false] at hm;rcases hm with rfl|rfl|rfl
  ·exact h7 _ _ e rfl
  ·simp[World.cell?,ht] at q
  ·simp[World.cell?,hr] at q
def PW (w:World) (p ct cr:Nat) (ss:List Int) (k:Nat) (zs:List Int) (F:List Nat):Prop:=
 ∃sa sc bufT bufR fv s1 r1 s2 r2,
  w.heap[p]?=oC #[.slice sa ss.length sc,.int .i64 k,.chan (some ct),.chan (some cr),fv,.int .i64 zs.length] 123/\
  w.heap[ct]?=some (.chan 64 bufT false s1 r1 false)/\w.heap[cr]?=some (.chan 64 bufR false s2 r2 false)/\ct≠cr/\Scr w p sa sc ss/\k<ss.length/\PLeft w bufT bufR fv zs/\PTy w p ct cr sa bufT fv F
theorem BY {g:Nat} {a b c d e f:Value} {t:TypeId} (h:w.heap[g]?=oC #[a,b,c,d,e,f] t):
  w.cell? ⟨g,0,none⟩=some a/\w.cell? ⟨g,1,none⟩=some b/\w.cell? ⟨g,2,none⟩=some c/\w.cell? ⟨g,3,none⟩=some d/\w.cell? ⟨g,4,none⟩=some e/\w.cell? ⟨g,5,none⟩=some f/\(∀o,w.frozen? ⟨g,o,none⟩=false):=
 ⟨cO h 0,cO h 1,cO h 2,cO h 3,cO h 4,cO h 5,λ o=>fO h o⟩
theorem Sl.row3 {a:Option Addr} {n c:Nat} {zs:List Int} (h:Sl w (.slice a n c) zs):AI .u8 w a n c zs:=by
 obtain⟨a',c',e,h2,_⟩:=h;injection e with e1 e2 e3;subst e1 e2 e3;exact h2
theorem Uz (w:World) (c cap:Nat) (buf:Array Value) (cl:Bool) (s r:Nat) (tm:Bool):Upd [c] w (w.setChan c cap buf cl s r tm):=
 ⟨rfl,rfl,rfl,by simp[World.setChan],λ k hk hs=>by simp only[World.setChan];rw[Array.getElem?_setIfInBounds_ne (by simpa using Ne.symm (by simpa using hs))]⟩
theorem Nx {k:Nat} (h:PW w p ct cr ss k [] F) {ys:List Int} (hv:Sl w v ys) (hy:0<ys.length) (hl:ys.length<=100000):
  Calls prog 60 #[pP p 0,v] w λ r w'=>r= .returned (.int .i64 0)/\∃F',PW w' p ct cr ss k ys F'/\(∀b∈F',b∈F\/w.heap.size<=b)/\Upd [p,ct,cr] w w':=by
 have HV:=hid hv;obtain⟨va,vc,rfl,hvr,hvp⟩:=hv;obtain⟨sa,sc,bufT,bufR,fv,s1,r1,s2,r2,hb,hct,hcr,hne,hscr,hk,hleft,hty⟩:=h;rcases hleft with⟨-,rfl,rfl,rfl⟩|⟨h0,_⟩
 case inr=>exact absurd rfl h0
 obtain⟨c0,c1,c2,c3,c4,c5,fz⟩:=BY hb;have hg:=lH hb;have HT:=hid hct;have HR:=hid hcr;have HB:=hid hb;have hd:((ys.length:Int)==0)=false:=by simp;intro h0;simp[h0] at hy
 clear hvr hct hcr;go_in;go_upto_region 5 with(fail);refine DB (AB.selSend (z:= .agg #[]) (v:= .agg #[]) rfl rfl ?_ HR.o (by decide) ?_)
 ·simp[execOp,scase,Act.eval,go_sem,Sem.run_bind,zeroValue72]
 ·have u1:=Uz w cr 64 (#[].push (.agg #[])) false (s2+1) r2 false;have hcr1:=heap_setChan w cr 64 (#[].push (.agg #[])) false (s2+1) r2 false (lH HR.o);generalize w.setChan cr 64 (#[].push (.agg #[])) false (s2+1) r2 false=w1 at*;have hpc:p≠cr:=λ e=>by subst e;rw[hb] at HR;exact absurd HR.o (by simp)
  have hpt:p≠ct:=λ e=>by subst e;rw[hb] at HT;exact absurd HT.o (by simp)
  have hb1:=u1.heap hb (by simpa using hpc);have hct1:=u1.heap HT.o (by simpa using hne);have HC1:=hid (λ W (hx:Upd [cr] w W)=>Ar va ys.length vc ys (by omega) W ((HV.o.upd hx (λ b i z hq=>by
   have hr0:=HR.o;have:b≠cr:=λ e=>by subst e;simp[World.cell?,hr0] at hq
   simpa using this)).row3) hvp.nil0)
  clear c0 c1 c2 c3 c4 c5;obtain⟨c0,c1,c2,c3,c4,c5,fz⟩:=BY hb1;have HU1:=hid u1;have HB1:=hid hb1;have HT1:=hid hct1;have HR1:=hid hcr1;clear hcr1 hct1 u1 hb hb1;go_upto_region 7 with(fail);go_cut [0,1] (λ q0 q1 wx=>q0= pP p 0/\q1= .slice va ys.length vc/\∃v2 w2,AA w2 w1.heap.size 5 v2 (bv ys)/\Ext w1 w2/\wx=w2.setChan ct 64 (#[].push v2) false (s1+1) r1 false)
  case first=>
   rename_i J0 K0 hJ0 hK0;refine DK DE ?_;change AK prog _ _ (6+1) #[false,false,false,false,false,false,false] _ _;refine AK.two (x:=0) (y:=4) (by kernel_rfl) ?_ ?_
   ·refine AB.value (i:=0) (v:= pP p 0) (w':=w1.drew) rfl rfl (by go_simp) ?_;refine AK.two (x:=1) (y:=4) (by kernel_rfl) ?_ ?_
    ·refine AB.value (i:=1) (v:= pP p 0) (w':=w1.drew) rfl rfl (by go_simp) ?_;refine AK.two (x:=2) (y:=4) (by kernel_rfl) ?_ ?_
     ·refine AB.value (i:=2) (v:= pP p 2) (w':=w1.drew) rfl rfl (by go_simp) ?_;refine AK.two (x:=3) (y:=4) (by kernel_rfl) ?_ ?_
      ·refine AB.value (i:=3) (v:= .chan (some ct)) (w':=w1.drew) rfl rfl (by go_simp) ?_;refine AK.one (x:=4) (by kernel_rfl) ?_;refine AB.value (i:=4) (v:= .slice va ys.length vc) (w':=w1.drew) rfl rfl (by go_simp) ?_;refine AK.one (x:=5) (by kernel_rfl) ?_;refine AB.enter (i:=5) (f:=96) (args:= #[.slice va ys.length vc]) (w':=w1.drew) rfl rfl (by go_simp) ((HC1.o w1.drew (HU1.o.drew)).mono ?_);rintro r w2 ⟨v2,rfl,hO,hX⟩;refine⟨_,rfl,?_⟩;obtain⟨d0,d1,d2,d3,d4,d5,dz⟩:=BY (hX.heap (show w1.drew.heap[p]?=_ from HB1.o));have HO:=hid hO;have HX:=hid hX;clear hO hX;refine AK.one (x:=6) (by kernel_rfl) ?_;refine AB.send (i:=6) (c:=ct) (v:=v2) (z:= .tuple #[]) rfl rfl (by go_simp;rfl) (HX.o.heap (show w1.drew.heap[ct]?=_ from HT1.o)) (by decide) ?_;refine AK.end (by kernel_rfl) ?_;go_simp;refine hK0 _ _ (Met.intro (hJ0 _ _ ?_))
       (repeat apply Exists.intro)
       refine⟨?_,rfl⟩;exact⟨rfl,rfl,v2,w2,HO.o,((Ext.refl _).drew).trans HX.o,rfl⟩
      ·refine AB.value (i:=4) (v:= .slice va ys.length vc) (w':=w1.drew) rfl rfl (by go_simp) ?_;refine AK.two (x:=3) (y:=5) (by kernel_rfl) ?_ ?_
       ·refine AB.value (i:=3) (v:= .chan (some ct)) (w':=w1.drew) rfl rfl (by go_simp) ?_;refine AK.one (x:=5) (by kernel_rfl) ?_;refine AB.enter (i:=5) (f:=96) (args:= #[.slice va ys.length vc]) (w':=w1.drew) rfl rfl (by go_simp) ((HC1.o w1.drew (HU1.o.drew)).mono ?_);rintro r w2 ⟨v2,rfl,hO,hX⟩;refine⟨_,rfl,?_⟩;obtain⟨d0,d1,d2,d3,d4,d5,dz⟩:=BY (hX.heap (show w1.drew.heap[p]?=_ from HB1.o));have HO:=hid hO;have HX:=hid hX;clear hO hX;refine AK.one (x:=6) (by kernel_rfl) ?_;refine AB.send (i:=6) (c:=ct) (v:=v2) (z:= .tuple #[]) rfl rfl (by go_simp;rfl) (HX.o.heap (show w1.drew.heap[ct]?=_ from HT1.o)) (by decide) ?_;refine AK.end (by kernel_rfl) ?_;go_simp;refine hK0 _ _ (Met.intro (hJ0 _ _ ?_))
        (repeat apply Exists.intro)
        refine⟨?_,rfl⟩;exact⟨rfl,rfl,v2,w2,HO.o,((Ext.refl _).drew).trans HX.o,rfl⟩
       ·refine AB.enter (i:=5) (f:=96) (args:= #[.slice va ys.length vc]) (w':=w1.drew) rfl rfl (by go_simp) ((HC1.o w1.drew (HU1.o.drew)).mono ?_);rintro r w2 ⟨v2,rfl,hO,hX⟩;refine⟨_,rfl,?_⟩;obtain⟨d0,d1,d2,d3,d4,d5,dz⟩:=BY (hX.heap (show w1.drew.heap[p]?=_ from HB1.o));have HO:=hid hO;have HX:=hid hX;clear hO hX;refine AK.one (x:=3) (by kernel_rfl) ?_;refine AB.value (i:=3) (v:= .chan (some ct)) (w':=w2) rfl rfl (by go_simp) ?_;refine AK.one (x:=6) (by kernel_rfl) ?_;refine AB.send (i:=6) (c:=ct) (v:=v2) (z:= .tuple #[]) rfl rfl (by go_simp;rfl) (HX.o.heap (show w1.drew.heap[ct]?=_ from HT1.o)) (by decide) ?_;refine AK.end (by kernel_rfl) ?_;go_simp;refine hK0 _ _ (Met.intro (hJ0 _ _ ?_))
        (repeat apply Exists.intro)
        refine⟨?_,rfl⟩;exact⟨rfl,rfl,v2,w2,HO.o,((Ext.refl _).drew).trans HX.o,rfl⟩
     ·refine AB.value (i:=4) (v:= .slice va ys.length vc) (w':=w1.drew) rfl rfl (by go_simp) ?_;refine AK.two (x:=2) (y:=5) (by kernel_rfl) ?_ ?_
      ·refine AB.value (i:=2) (v:= pP p 2) (w':=w1.drew) rfl rfl (by go_simp) ?_;refine AK.two (x:=3) (y:=5) (by kernel_rfl) ?_ ?_
       ·refine AB.value (i:=3) (v:= .chan (some ct)) (w':=w1.drew) rfl rfl (by go_simp) ?_;refine AK.one (x:=5) (by kernel_rfl) ?_;refine AB.enter (i:=5) (f:=96) (args:= #[.slice va ys.length vc]) (w':=w1.drew) rfl rfl (by go_simp) ((HC1.o w1.drew (HU1.o.drew)).mono ?_);rintro r w2 ⟨v2,rfl,hO,hX⟩;refine⟨_,rfl,?_⟩;obtain⟨d0,d1,d2,d3,d4,d5,dz⟩:=BY (hX.heap (show w1.drew.heap[p]?=_ from HB1.o));have HO:=hid hO;have HX:=hid hX;clear hO hX;refine AK.one (x:=6) (by kernel_rfl) ?_;refine AB.send (i:=6) (c:=ct) (v:=v2) (z:= .tuple #[]) rfl rfl (by go_simp;rfl) (HX.o.heap (show w1.drew.heap[ct]?=_ from HT1.o)) (by decide) ?_;refine AK.end (by kernel_rfl) ?_;go_simp;refine hK0 _ _ (Met.intro (hJ0 _ _ ?_))
        (repeat apply Exists.intro)
        refine⟨?_,rfl⟩;exact⟨rfl,rfl,v2,w2,HO.o,((Ext.refl _).drew).trans HX.o,rfl⟩
       ·refine AB.enter (i:=5) (f:=96) (args:= #[.slice va ys.length vc]) (w':=w1.drew) rfl rfl (by go_simp) ((HC1.o w1.drew (HU1.o.drew)).mono ?_);rintro r w2 ⟨v2,rfl,hO,hX⟩;refine⟨_,rfl,?_⟩;obtain⟨d0,d1,d2,d3,d4,d5,dz⟩:=BY (hX.heap (show w1.drew.heap[p]?=_ from HB1.o));have HO:=hid hO;have HX:=hid hX;clear hO hX;refine AK.one (x:=3) (by kernel_rfl) ?_;refine AB.value (i:=3) (v:= .chan (some ct)) (w':=w2) rfl rfl (by go_simp) ?_;refine AK.one (x:=6) (by kernel_rfl) ?_;refine AB.send (i:=6) (c:=ct) (v:=v2) (z:= .tuple #[]) rfl rfl (by go_simp;rfl) (HX.o.heap (show w1.drew.heap[ct]?=_ from HT1.o)) (by decide) ?_;refine AK.end (by kernel_rfl) ?_;go_simp;refine hK0 _ _ (Met.intro (hJ0 _ _ ?_))
        (repeat apply Exists.intro)
        refine⟨?_,rfl⟩;exact⟨rfl,rfl,v2,w2,HO.o,((Ext.refl _).drew).trans HX.o,rfl⟩
      ·refine AB.enter (i:=5) (f:=96) (args:= #[.slice va ys.length vc]) (w':=w1.drew) rfl rfl (by go_simp) ((HC1.o w1.drew (HU1.o.drew)).mono ?_);rintro r w2 ⟨v2,rfl,hO,hX⟩;refine⟨_,rfl,?_⟩;obtain⟨d0,d1,d2,d3,d4,d5,dz⟩:=BY (hX.heap (show w1.drew.heap[p]?=_ from HB1.o));have HO:=hid hO;have HX:=hid hX;clear hO hX;refine AK.one (x:=2) (by kernel_rfl) ?_;refine AB.value (i:=2) (v:= pP p 2) (w':=w2) rfl rfl (by go_simp) ?_;refine AK.one (x:=3) (by kernel_rfl) ?_;refine AB.value (i:=3) (v:= .chan (some ct)) (w':=w2) rfl rfl (by go_simp) ?_;refine AK.one (x:=6) (by kernel_rfl) ?_;refine AB.send (i:=6) (c:=ct) (v:=v2) (z:= .tuple #[]) rfl rfl (by go_simp;rfl) (HX.o.heap (show w1.drew.heap[ct]?=_ from HT1.o)) (by decide) ?_;refine AK.end (by kernel_rfl) ?_;go_simp;refine hK0 _ _ (Met.intro (hJ0 _ _ ?_))
       (repeat apply Exists.intro)
       refine⟨?_,rfl⟩;exact⟨rfl,rfl,v2,w2,HO.o,((Ext.refl _).drew).trans HX.o,rfl⟩
    ·refine AB.value (i:=4) (v:= .slice va ys.length vc) (w':=w1.drew) rfl rfl (by go_simp) ?_;refine AK.two (x:=1) (y:=5) (by kernel_rfl) ?_ ?_
     ·refine AB.value (i:=1) (v:= pP p 0) (w':=w1.drew) rfl rfl (by go_simp) ?_;refine AK.two (x:=2) (y:=5) (by kernel_rfl) ?_ ?_
      ·refine AB.value (i:=2) (v:= pP p 2) (w':=w1.drew) rfl rfl (by go_simp) ?_;refine AK.two (x:=3) (y:=5) (by kernel_rfl) ?_ ?_
       ·refine AB.value (i:=3) (v:= .chan (some ct)) (w':=w1.drew) rfl rfl (by go_simp) ?_;refine AK.one (x:=5) (by kernel_rfl) ?_;refine AB.enter (i:=5) (f:=96) (args:= #[.slice va ys.length vc]) (w':=w1.drew) rfl rfl (by go_simp) ((HC1.o w1.drew (HU1.o.drew)).mono ?_);rintro r w2 ⟨v2,rfl,hO,hX⟩;refine⟨_,rfl,?_⟩;obtain⟨d0,d1,d2,d3,d4,d5,dz⟩:=BY (hX.heap (show w1.drew.heap[p]?=_ from HB1.o));have HO:=hid hO;have HX:=hid hX;clear hO hX;refine AK.one (x:=6) (by kernel_rfl) ?_;refine AB.send (i:=6) (c:=ct) (v:=v2) (z:= .tuple #[]) rfl rfl (by go_simp;rfl) (HX.o.heap (show w1.drew.heap[ct]?=_ from HT1.o)) (by decide) ?_;refine AK.end (by kernel_rfl) ?_;go_simp;refine hK0 _ _ (Met.intro (hJ0 _ _ ?_))
        (repeat apply Exists.intro)
        refine⟨?_,rfl⟩;exact⟨rfl,rfl,v2,w2,HO.o,((Ext.refl _).drew).trans HX.o,rfl⟩
       ·refine AB.enter (i:=5) (f:=96) (args:= #[.slice va ys.length vc]) (w':=w1.drew) rfl rfl (by go_simp) ((HC1.o w1.drew (HU1.o.drew)).mono ?_);rintro r w2 ⟨v2,rfl,hO,hX⟩;refine⟨_,rfl,?_⟩;obtain⟨d0,d1,d2,d3,d4,d5,dz⟩:=BY (hX.heap (show w1.drew.heap[p]?=_ from HB1.o));have HO:=hid hO;have HX:=hid hX;clear hO hX;refine AK.one (x:=3) (by kernel_rfl) ?_;refine AB.value (i:=3) (v:= .chan (some ct)) (w':=w2) rfl rfl (by go_simp) ?_;refine AK.one (x:=6) (by kernel_rfl) ?_;refine AB.send (i:=6) (c:=ct) (v:=v2) (z:= .tuple #[]) rfl rfl (by go_simp;rfl) (HX.o.heap (show w1.drew.heap[ct]?=_ from HT1.o)) (by decide) ?_;refine AK.end (by kernel_rfl) ?_;go_simp;refine hK0 _ _ (Met.intro (hJ0 _ _ ?_))
        (repeat apply Exists.intro)
        refine⟨?_,rfl⟩;exact⟨rfl,rfl,v2,w2,HO.o,((Ext.refl _).drew).trans HX.o,rfl⟩
      ·refine AB.enter (i:=5) (f:=96) (args:= #[.slice va ys.length vc]) (w':=w1.drew) rfl rfl (by go_simp) ((HC1.o w1.drew (HU1.o.drew)).mono ?_);rintro r w2 ⟨v2,rfl,hO,hX⟩;refine⟨_,rfl,?_⟩;obtain⟨d0,d1,d2,d3,d4,d5,dz⟩:=BY (hX.heap (show w1.drew.heap[p]?=_ from HB1.o));have HO:=hid hO;have HX:=hid hX;clear hO hX;refine AK.one (x:=2) (by kernel_rfl) ?_;refine AB.value (i:=2) (v:= pP p 2) (w':=w2) rfl rfl (by go_simp) ?_;refine AK.one (x:=3) (by kernel_rfl) ?_;refine AB.value (i:=3) (v:= .chan (some ct)) (w':=w2) rfl rfl (by go_simp) ?_;refine AK.one (x:=6) (by kernel_rfl) ?_;refine AB.send (i:=6) (c:=ct) (v:=v2) (z:= .tuple #[]) rfl rfl (by go_simp;rfl) (HX.o.heap (show w1.drew.heap[ct]?=_ from HT1.o)) (by decide) ?_;refine AK.end (by kernel_rfl) ?_;go_simp;refine hK0 _ _ (Met.intro (hJ0 _ _ ?_))
       (repeat apply Exists.intro)
       refine⟨?_,rfl⟩;exact⟨rfl,rfl,v2,w2,HO.o,((Ext.refl _).drew).trans HX.o,rfl⟩
     ·refine AB.enter (i:=5) (f:=96) (args:= #[.slice va ys.length vc]) (w':=w1.drew) rfl rfl (by go_simp) ((HC1.o w1.drew (HU1.o.drew)).mono ?_);rintro r w2 ⟨v2,rfl,hO,hX⟩;refine⟨_,rfl,?_⟩;obtain⟨d0,d1,d2,d3,d4,d5,dz⟩:=BY (hX.heap (show w1.drew.heap[p]?=_ from HB1.o));have HO:=hid hO;have HX:=hid hX;clear hO hX;refine AK.one (x:=1) (by kernel_rfl) ?_;refine AB.value (i:=1) (v:= pP p 0) (w':=w2) rfl rfl (by go_simp) ?_;refine AK.one (x:=2) (by kernel_rfl) ?_;refine AB.value (i:=2) (v:= pP p 2) (w':=w2) rfl rfl (by go_simp) ?_;refine AK.one (x:=3) (by kernel_rfl) ?_;refine AB.value (i:=3) (v:= .chan (some ct)) (w':=w2) rfl rfl (by go_simp) ?_;refine AK.one (x:=6) (by kernel_rfl) ?_;refine AB.send (i:=6) (c:=ct) (v:=v2) (z:= .tuple #[]) rfl rfl (by go_simp;rfl) (HX.o.heap (show w1.drew.heap[ct]?=_ from HT1.o)) (by decide) ?_;refine AK.end (by kernel_rfl) ?_;go_simp;refine hK0 _ _ (Met.intro (hJ0 _ _ ?_))
      (repeat apply Exists.intro)
      refine⟨?_,rfl⟩;exact⟨rfl,rfl,v2,w2,HO.o,((Ext.refl _).drew).trans HX.o,rfl⟩
   ·refine AB.value (i:=4) (v:= .slice va ys.length vc) (w':=w1.drew) rfl rfl (by go_simp) ?_;refine AK.two (x:=0) (y:=5) (by kernel_rfl) ?_ ?_
    ·refine AB.value (i:=0) (v:= pP p 0) (w':=w1.drew) rfl rfl (by go_simp) ?_;refine AK.two (x:=1) (y:=5) (by kernel_rfl) ?_ ?_
     ·refine AB.value (i:=1) (v:= pP p 0) (w':=w1.drew) rfl rfl (by go_simp) ?_;refine AK.two (x:=2) (y:=5) (by kernel_rfl) ?_ ?_
      ·refine AB.value (i:=2) (v:= pP p 2) (w':=w1.drew) rfl rfl (by go_simp) ?_;refine AK.two (x:=3) (y:=5) (by kernel_rfl) ?_ ?_
       ·refine AB.value (i:=3) (v:= .chan (some ct)) (w':=w1.drew) rfl rfl (by go_simp) ?_;refine AK.one (x:=5) (by kernel_rfl) ?_;refine AB.enter (i:=5) (f:=96) (args:= #[.slice va ys.length vc]) (w':=w1.drew) rfl rfl (by go_simp) ((HC1.o w1.drew (HU1.o.drew)).mono ?_);rintro r w2 ⟨v2,rfl,hO,hX⟩;refine⟨_,rfl,?_⟩;obtain⟨d0,d1,d2,d3,d4,d5,dz⟩:=BY (hX.heap (show w1.drew.heap[p]?=_ from HB1.o));have HO:=hid hO;have HX:=hid hX;clear hO hX;refine AK.one (x:=6) (by kernel_rfl) ?_;refine AB.send (i:=6) (c:=ct) (v:=v2) (z:= .tuple #[]) rfl rfl (by go_simp;rfl) (HX.o.heap (show w1.drew.heap[ct]?=_ from HT1.o)) (by decide) ?_;refine AK.end (by kernel_rfl) ?_;go_simp;refine hK0 _ _ (Met.intro (hJ0 _ _ ?_))
        (repeat apply Exists.intro)
        refine⟨?_,rfl⟩;exact⟨rfl,rfl,v2,w2,HO.o,((Ext.refl _).drew).trans HX.o,rfl⟩
       ·refine AB.enter (i:=5) (f:=96) (args:= #[.slice va ys.length vc]) (w':=w1.drew) rfl rfl (by go_simp) ((HC1.o w1.drew (HU1.o.drew)).mono ?_);rintro r w2 ⟨v2,rfl,hO,hX⟩;refine⟨_,rfl,?_⟩;obtain⟨d0,d1,d2,d3,d4,d5,dz⟩:=BY (hX.heap (show w1.drew.heap[p]?=_ from HB1.o));have HO:=hid hO;have HX:=hid hX;clear hO hX;refine AK.one (x:=3) (by kernel_rfl) ?_;refine AB.value (i:=3) (v:= .chan (some ct)) (w':=w2) rfl rfl (by go_simp) ?_;refine AK.one (x:=6) (by kernel_rfl) ?_;refine AB.send (i:=6) (c:=ct) (v:=v2) (z:= .tuple #[]) rfl rfl (by go_simp;rfl) (HX.o.heap (show w1.drew.heap[ct]?=_ from HT1.o)) (by decide) ?_;refine AK.end (by kernel_rfl) ?_;go_simp;refine hK0 _ _ (Met.intro (hJ0 _ _ ?_))
        (repeat apply Exists.intro)
        refine⟨?_,rfl⟩;exact⟨rfl,rfl,v2,w2,HO.o,((Ext.refl _).drew).trans HX.o,rfl⟩
      ·refine AB.enter (i:=5) (f:=96) (args:= #[.slice va ys.length vc]) (w':=w1.drew) rfl rfl (by go_simp) ((HC1.o w1.drew (HU1.o.drew)).mono ?_);rintro r w2 ⟨v2,rfl,hO,hX⟩;refine⟨_,rfl,?_⟩;obtain⟨d0,d1,d2,d3,d4,d5,dz⟩:=BY (hX.heap (show w1.drew.heap[p]?=_ from HB1.o));have HO:=hid hO;have HX:=hid hX;clear hO hX;refine AK.one (x:=2) (by kernel_rfl) ?_;refine AB.value (i:=2) (v:= pP p 2) (w':=w2) rfl rfl (by go_simp) ?_;refine AK.one (x:=3) (by kernel_rfl) ?_;refine AB.value (i:=3) (v:= .chan (some ct)) (w':=w2) rfl rfl (by go_simp) ?_;refine AK.one (x:=6) (by kernel_rfl) ?_;refine AB.send (i:=6) (c:=ct) (v:=v2) (z:= .tuple #[]) rfl rfl (by go_simp;rfl) (HX.o.heap (show w1.drew.heap[ct]?=_ from HT1.o)) (by decide) ?_;refine AK.end (by kernel_rfl) ?_;go_simp;refine hK0 _ _ (Met.intro (hJ0 _ _ ?_))
       (repeat apply Exists.intro)
       refine⟨?_,rfl⟩;exact⟨rfl,rfl,v2,w2,HO.o,((Ext.refl _).drew).trans HX.o,rfl⟩
     ·refine AB.enter (i:=5) (f:=96) (args:= #[.slice va ys.length vc]) (w':=w1.drew) rfl rfl (by go_simp) ((HC1.o w1.drew (HU1.o.drew)).mono ?_);rintro r w2 ⟨v2,rfl,hO,hX⟩;refine⟨_,rfl,?_⟩;obtain⟨d0,d1,d2,d3,d4,d5,dz⟩:=BY (hX.heap (show w1.drew.heap[p]?=_ from HB1.o));have HO:=hid hO;have HX:=hid hX;clear hO hX;refine AK.one (x:=1) (by kernel_rfl) ?_;refine AB.value (i:=1) (v:= pP p 0) (w':=w2) rfl rfl (by go_simp) ?_;refine AK.one (x:=2) (by kernel_rfl) ?_;refine AB.value (i:=2) (v:= pP p 2) (w':=w2) rfl rfl (by go_simp) ?_;refine AK.one (x:=3) (by kernel_rfl) ?_;refine AB.value (i:=3) (v:= .chan (some ct)) (w':=w2) rfl rfl (by go_simp) ?_;refine AK.one (x:=6) (by kernel_rfl) ?_;refine AB.send (i:=6) (c:=ct) (v:=v2) (z:= .tuple #[]) rfl rfl (by go_simp;rfl) (HX.o.heap (show w1.drew.heap[ct]?=_ from HT1.o)) (by decide) ?_;refine AK.end (by kernel_rfl) ?_;go_simp;refine hK0 _ _ (Met.intro (hJ0 _ _ ?_))
      (repeat apply Exists.intro)
      refine⟨?_,rfl⟩;exact⟨rfl,rfl,v2,w2,HO.o,((Ext.refl _).drew).trans HX.o,rfl⟩
    ·refine AB.enter (i:=5) (f:=96) (args:= #[.slice va ys.length vc]) (w':=w1.drew) rfl rfl (by go_simp) ((HC1.o w1.drew (HU1.o.drew)).mono ?_);rintro r w2 ⟨v2,rfl,hO,hX⟩;refine⟨_,rfl,?_⟩;obtain⟨d0,d1,d2,d3,d4,d5,dz⟩:=BY (hX.heap (show w1.drew.heap[p]?=_ from HB1.o));have HO:=hid hO;have HX:=hid hX;clear hO hX;refine AK.one (x:=0) (by kernel_rfl) ?_;refine AB.value (i:=0) (v:= pP p 0) (w':=w2) rfl rfl (by go_simp) ?_;refine AK.one (x:=1) (by kernel_rfl) ?_;refine AB.value (i:=1) (v:= pP p 0) (w':=w2) rfl rfl (by go_simp) ?_;refine AK.one (x:=2) (by kernel_rfl) ?_;refine AB.value (i:=2) (v:= pP p 2) (w':=w2) rfl rfl (by go_simp) ?_;refine AK.one (x:=3) (by kernel_rfl) ?_;refine AB.value (i:=3) (v:= .chan (some ct)) (w':=w2) rfl rfl (by go_simp) ?_;refine AK.one (x:=6) (by kernel_rfl) ?_;refine AB.send (i:=6) (c:=ct) (v:=v2) (z:= .tuple #[]) rfl rfl (by go_simp;rfl) (HX.o.heap (show w1.drew.heap[ct]?=_ from HT1.o)) (by decide) ?_;refine AK.end (by kernel_rfl) ?_;go_simp;refine hK0 _ _ (Met.intro (hJ0 _ _ ?_))
     (repeat apply Exists.intro)
     refine⟨?_,rfl⟩;exact⟨rfl,rfl,v2,w2,HO.o,((Ext.refl _).drew).trans HX.o,rfl⟩
  case rest=>
   obtain⟨rfl,rfl,v2,w2,hO,hX,rfl⟩:=hcut;have u3:=Uz w2 ct 64 (#[].push v2) false (s1+1) r1 false;have ht3:=heap_setChan w2 ct 64 (#[].push v2) false (s1+1) r1 false (lH (hX.heap HT1.o));generalize w2.setChan ct 64 (#[].push v2) false (s1+1) r1 false=w3 at*;have hb3:=u3.heap (hX.heap HB1.o) (by simpa using hpt);have hr3:=u3.heap (hX.heap HR1.o) (by simpa using Ne.symm hne);have hu3:Upd [p,ct,cr] w w3:=(HU1.o.mono (by simp)).trans ((hX.upd _).trans (u3.mono (by simp)));clear c0 c1 c2 c3 c4 c5;obtain⟨c0,c1,c2,c3,c4,c5,fz3⟩:=BY hb3;have hf5:=fz3 5;have hg3:=lH hb3;have hw:=HV.o.wf;have hS:=(hO.sl hw).upd u3 (λ b i z hq=>by
    have ht2:=hX.heap HT1.o;have:b≠ct:=λ e=>by subst e;simp[World.cell?,ht2] at hq
    simpa using this)
   have HOL:=hid (λ g (hg:v2.ownBlock=some g)=>hO.lt hg);have hwz:=HU1.o.size;have hz2:=u3.size;have HTY:=hid hty;clear hty;have HB3:=hid hb3;have HT3:=hid ht3;have HR3:=hid hr3;have HU3:=hid hu3;have HS3:=hid hS;clear fz fz3 hb3 ht3 hr3 hu3 hS hO hX u3 hw;go_wp2_with fail;go_ret;have b1:=heap_setCell_same w3 p 5 _ _ (.int .i64 ys.length) HB3.o;have u4:Upd [p] w3 (w3.setCell ⟨p,5,none⟩ (.int .i64 ys.length)):=(Upd.refl [p] w3).setCell _ _ (by simp);refine⟨rfl,F++v2.ownBlock.toList,⟨sa,sc,#[v2],#[.agg #[]],nN,_,_,_,_,by rw[b1];rfl,u4.heap HT3.o (by simpa using Ne.symm hpt),u4.heap HR3.o (by simpa using Ne.symm hpc),hne,hscr.upd (HU3.o.trans (u4.mono (by simp))) ?_,hk,.inr ⟨by intro e;simp[e] at hy,_,rfl,.inl ⟨v2,rfl,HS3.o.upd u4 (λ b i z hq=> ?_),rfl⟩⟩,⟨λ g hg=> ?_,⟨by simp[HTY.o.2.1.1],by simp[HTY.o.2.1.2.1],by simp[HTY.o.2.1.2.2]⟩,λ g hg=>by simp[HTY.o.2.2.1 g hg],λ g hg=>by simp[Value.ownBlock] at hg,λ v hv g hg=> ?_⟩⟩,λ b hb=> ?_,HU3.o.trans (u4.mono (by simp))⟩
   ·exact hscr.apart HT.o HR.o
   ·have hb4:=HB3.o;have:b≠p:=λ e=>by subst e;rw[cO hb4] at hq;match i,hq with|0,hq=>simp at hq|1,hq=>simp at hq|2,hq=>simp at hq|3,hq=>simp at hq|4,hq=>simp at hq|5,hq=>simp at hq|i+6,hq=>simp at hq
    simpa using this
   ·have hz4:=u4.size;have hz3:=HU3.o.size;rcases List.mem_append.1 hg with hg|hg
    ·have:=HTY.o.1 g hg;omega
    ·have:=(HOL.o g (by simpa using hg)).2;omega
   ·obtain rfl:v=v2:=by simpa using hv
    simp[hg]
   ·rcases List.mem_append.1 hb with hb|hb
    ·exact .inl hb
    ·exact .inr (by have:=(HOL.o b (by simpa using hb)).1;omega)
end Go.Proofs.YtdakioiagpkfhaaGreatDoor
