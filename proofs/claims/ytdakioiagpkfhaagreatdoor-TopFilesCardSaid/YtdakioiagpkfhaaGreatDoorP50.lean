import Derived.Test.YtdakioiagpkfhaaGreatDoorP13
import Derived.Test.YtdakioiagpkfhaaGreatDoorTie
import Derived.LaidLaws
import Derived.LaidHandle
import Derived.Stop.LaidErr
import Derived.Deep.DeepHandedRow
import Derived.Lib.SmallJoins
import Derived.MakeChecks
set_option maxRecDepth 99999
set_option maxHeartbeats 0
set_option linter.all false
namespace Go.Proofs.YtdakioiagpkfhaaGreatDoor
open Go.ChangeShapes Go.WideShapes Go.ChangeAt Go.RowKit
open Go.Proofs.Tryz (prog)
mutual
def U0:DataW Unit->List Value
 | .agg l=>Kz l
 | .lit (.int k n)=>[.int k n]
 | .lit (.string bs)=>[.string ⟨bs.toArray⟩]
 |_=>[]
def Kz:List (DataW Unit)->List Value
 |[]=>[]
 |d::l=>U0 d++Kz l
end
def EU (cs:Array Value):Obj->Obj
 | .cells _ t frozen=> .cells cs t frozen
 |o=>o
noncomputable def IH (os:Os):World:=
 {World.holding prog os ⟨#[],#[],[]⟩ with heap:=((((((World.holding prog os ⟨#[],#[],[]⟩).heap.modify 1 (EU (U0 Rows.laid_truchman_codes_table).toArray)).modify 2 (EU (U0 Rows.laid_unicode_utf8_first).toArray)).modify 3 (EU (U0 Rows.laid_unicode_utf8_acceptRanges).toArray)).modify 4 (EU (U0 Rows.laid_internal_strconv_uint64pow10).toArray)).modify 5 (EU (U0 Rows.laid_math_bits_deBruijn32tab).toArray)).modify 6 (EU (U0 Rows.laid_math_bits_deBruijn64tab).toArray)}
theorem S8 (os:Os) (args:Array Value):laidMetH prog Rows.topFilesRow.laid ((IH os).forCall (λ _ _=>0) ⟨#[],args,[]⟩).memory:=
 laidMetH_of_parts (laidMet_of_run' 8 (by kernel_rfl) (by kernel_rfl)) (by kernel_rfl)
def EB (r:Row):DataW Unit:= .agg [.lit (.int .i64 r.e),.lit (.int .u32 r.s),.lit (.int .i64 r.c),.lit (.string r.t)]
theorem RD:(Rows.laid_truchman_codes_table:DataW Unit)= .agg (rows.map EB):=by kernel_rfl
def K7:String:=(Rows.topFilesRow.named.head?).getD default
theorem gTab:Tryz.prog.globalNamed K7=some 1:=by kernel_rfl
theorem Ou:(Tryz.prog.globals[1]?).map (·.type)=some 454:=by kernel_rfl
theorem VT:Tryz.prog.cellsOf 454=76:=by kernel_rfl
theorem Lh:Tryz.prog.cellsOf 311=4:=by kernel_rfl
theorem Rx:Tryz.prog.cellsOf 47=1:=by kernel_rfl
theorem Rw:Tryz.prog.cellsOf 22=1:=by kernel_rfl
theorem UL:Tryz.prog.cellsOf 3=1:=by kernel_rfl
theorem UK:Tryz.prog.cellsOf 9=1:=by kernel_rfl
theorem gn:1<Tryz.prog.globals.size/\0<Tryz.prog.globals.size:=of_decide_eq_true (by kernel_rfl)
theorem Qd:(((begin prog (λ _ _=>0) default).world.heap[1]?).bind Obj.row?).map (·.2)=some 454:=by kernel_rfl
theorem Qe:(((begin prog (λ _ _=>0) default).world.heap[0]?).bind Obj.row?)=some (#[.int .i64 0],3):=by kernel_rfl
theorem Jz {w:World} (h:w.ShapedOpen prog):∃cs,w.heap[1]?=some (.cells cs 454 (0,0)):=by
 have e:=Qd;rw[Option.map_eq_some_iff] at e;obtain⟨⟨z,t⟩,e1,rfl⟩:=e;obtain⟨cs,h1,-⟩:=h.1 _ _ _ gn.1 e1;exact⟨cs,h1⟩
theorem Mw:Tryz.prog.buildable 3=true:=by kernel_rfl
theorem Ly:Tryz.prog.cellTypes Tryz.prog.depth 3=some [3]:=by kernel_rfl
theorem PV {P:Program} {w:World} {r:Reach} {b:Nat} {t:TypeId} {v:Value} {k:IntKind} (hu:P.underlying t=some (.int k)) (h:Cell.ok P w r b t v):∃n,v= .int k n:=by
 unfold Cell.ok at h;rw[hu] at h;cases v<;>simp_all
theorem Nh {P:Program} {w:World} {r:Reach} {b:Nat} {t:TypeId} {cs:Array Value} {k:IntKind} (h:Row.ok P w r b t cs) (ht:P.cellTypes P.depth t=some [t]) (hu:P.underlying t=some (.int k)) (hz:0<cs.size):∃n,cs[0]?=some (.int k n):=by
 obtain⟨ts,t1,-,t2⟩:=h;obtain rfl:ts=[t]:=Option.some.inj (t1.symm.trans ht);have h0:=Array.getElem?_eq_getElem hz;obtain⟨u,u1,u2⟩:=t2 0 _ h0;obtain rfl:t=u:=Option.some.inj u1;obtain⟨n,e⟩:=PV hu u2;exact⟨n,by rw[h0,e]⟩
theorem J1 {w:World} (h:w.ShapedOpen prog):∃m,w.cell? ⟨0,0,none⟩=some (.int .i64 m):=by
 obtain⟨cs,h1,h2,h3⟩:=h.1 _ _ _ gn.2 Qe;obtain⟨n,e⟩:=Nh (h3 Mw) Ly Tryz.underlying3 (by rw[h2];exact Nat.zero_lt_one);exact⟨n,by rw[cO h1 0,e]⟩
theorem UI (l m:List Value) (n:Nat) (hl:l.length=n*4) (hm:m.length=n*4) (h:∀i,i<n->(l.drop (i*4)).take 4=(m.drop (i*4)).take 4):l=m:=by
 apply List.ext_getElem?;intro j;by_cases hj:j<n*4
 ·have h1:=congrArg (·[j%4]?) (h (j/4) (by omega));simp only[List.getElem?_take,List.getElem?_drop] at h1;rw[if_pos (by omega),if_pos (by omega),show j/4*4+j%4=j by omega] at h1;exact h1
 ·rw[List.getElem?_eq_none (by omega),List.getElem?_eq_none (by omega)]
theorem four {l:List Value} (hl:l.length=4) {a b c d:Value} (h0:(l.drop 0).take 1=[a]) (h1:(l.drop 1).take 1=[b]) (h2:(l.drop 2).take 1=[c]) (h3:(l.drop 3).take 1=[d]):l=[a,b,c,d]:=by
 match l,hl with
 |[x,y,z,u],_=>simp at h0 h1 h2 h3;simp[h0,h1,h2,h3]
theorem MK {enc:TypeId×Value->Unit} {w:World} {base:Nat} {sp:Nat->Bool} {held:Bool} {fuel:Nat} {cs:List Value} {r:Row} {p:List MemPlace}
  (h:DataW.trod enc prog w base sp held fuel 311 cs=some (EB r,p)):cs=r.cells:=by
 obtain⟨y0,y1,y2,y3,n,hx,hl,h0,h1,h2,h3⟩:=Joins.trod_struct4 Tryz.underlying311 h;obtain⟨a,ha,rfl,_⟩:=DataW.trod_int Tryz.underlying47 h0;obtain⟨b,hb,rfl,_⟩:=DataW.trod_int Tryz.underlying22 h1;obtain⟨c,hc,rfl,_⟩:=DataW.trod_int Tryz.underlying3 h2;obtain⟨s,hs,rfl,_⟩:=DataW.trod_string Tryz.underlying9 h3;rw[Lh] at hl;have hf:=four hl (by simpa [Rx] using ha) (by simpa [Rw] using hb) (by simpa [UL] using hc) (by simpa [UK] using hs);simp only[EB,Prod.mk.injEq,DataW.agg.injEq,List.cons.injEq,DataW.lit.injEq,Lit.int.injEq,Lit.string.injEq,true_and,and_true] at hx;obtain⟨⟨e0,e1,e2,e3⟩,_⟩:=hx;rw[hf,Row.cells,e0,e1,e2,e3]
theorem table {W:World} {r:List (String×DataW Unit)} (h:laidMet prog ((K7,Rows.laid_truchman_codes_table)::r) W) (hs:W.ShapedOpen prog):Aw W:=by
 obtain⟨cs1,s1⟩:=Jz hs;obtain⟨ps,⟨g',t',cs,fuel,p,q,hg',ht',hvar,hd,_,_⟩,_⟩:=h;obtain rfl:=Option.some.inj (gTab.symm.trans hg');obtain rfl:=Option.some.inj (Ou.symm.trans ht');rw[RD] at hd;obtain⟨xs,m,_,hx,hl,hn,hi⟩:=DataW.trod_array Tryz.underlying454 hd;rw[VT] at hl;have hrow:∀i,i<19->(cs.toList.drop (i*4)).take 4=(BO i).cells:=by
  intro i hlt;have h1:=hi i hlt;rw[Lh] at h1;have h2:(xs.map (·.1))[i]?=some (EB (BO i)):=by
   have:xs.map (·.1)=rows.map EB:=by
    have:=congrArg Prod.fst hx;simpa using this.symm
   rw[this];have:i<rows.length:=hlt;simp[BO,this]
  simp only[List.getElem?_map,Option.map_eq_some_iff] at h2;obtain⟨y,hy,he⟩:=h2;rw[hy] at h1;obtain⟨d,p'⟩:=y;simp only at he;subst he;exact MK h1
 have hcs:cs=Bb:=by
  have:cs.toList=Bb.toList:=UI _ _ 19 (by simpa using hl) (by rfl) (λ i hlt=>by
   rw[hrow i hlt];exact(show∀i,i<19->(BO i).cells=(Bb.toList.drop (i*4)).take 4 by
    intro i h;have:i=0\/i=1\/i=2\/i=3\/i=4\/i=5\/i=6\/i=7\/i=8\/i=9\/i=10\/i=11\/i=12\/i=13\/i=14\/i=15\/i=16\/i=17\/i=18:=by omega
    rcases this with rfl|rfl|rfl|rfl|rfl|rfl|rfl|rfl|rfl|rfl|rfl|rfl|rfl|rfl|rfl|rfl|rfl|rfl|rfl<;>rfl) i hlt)
  exact Array.toList_inj.1 this
 subst hcs;simp only[World.var?,gTab,Option.bind_some] at hvar
 split at hvar
 ·rename_i c t fr hh;cases hvar;have e:=Option.some.inj (hh.symm.trans s1);injection e with e1 e2 e3;subst e2 e3;exact⟨⟨_,rfl⟩,⟨_,rfl⟩,hh⟩
 ·cases hvar
theorem ME {W:World} (h:laidMetH prog Rows.topFilesRow.laid W) (hs:W.ShapedOpen prog):Aw W/\∃m,W.cell? ⟨0,0,none⟩=some (.int .i64 m):=by
 rw[MakeChecks.laidMetH_plain _ _ _ (by kernel_rfl)] at h;exact⟨table (r:=[_,_]) h.tail.tail.tail hs,J1 hs⟩
end Go.Proofs.YtdakioiagpkfhaaGreatDoor
