import Derived.Test.YtdakioiagpkfhaaGreatDoorP01
import Derived.Deep.RegionLaw
import Derived.Deep.AppendLies
import Derived.Deep.Upon
import Derived.Laws.BytesArg
import Derived.Lib.SlBytesConst
set_option maxRecDepth 99999
set_option maxHeartbeats 0
set_option linter.all false
namespace Go.Proofs.YtdakioiagpkfhaaGreatDoor
open ChangeShapes WideShapes RowKit
open Go.Proofs.Tryz
variable {P:Program} {a:Option Addr} {base cap j len:Nat} {e:TypeId} {k:IntKind} {v:Value} {w:World} {xs:List Value} {zs:List Int}
theorem dE (w:World):Ext w w.drew:=(Ext.refl w).drew
def Bj (a:Option Addr) (cap:Nat):Prop:=(a=none/\cap=0)\/∃g o,a=some ⟨g,o,none⟩
theorem Bj.nil0 (h:Bj a cap):a=none->cap=0:=λ e=>by rcases h with⟨_,h⟩|⟨g,o,h⟩;exact h;rw[h] at e;cases e
theorem AA.low {b':Nat} (h:AA w base e v xs) (hb:b'<=base):AA w b' e v xs:=by
 refine⟨h.1,?_⟩;rcases h.2 with hn|⟨g,cap,cur,hv,hb2,rest⟩
 ·exact .inl hn
 ·exact .inr ⟨g,cap,cur,hv,by omega,rest⟩
theorem De (h:AA w base 5 v xs) {c:Nat} {ys:List Int} (hy:AI .u8 w a len cap ys) (ha:a=none->c=0) (hl:xs.length+len<=10000000) (hb:base<=w.heap.size) (ty:TypeId):
  ∃v' w',(Builtin.append_ #[26,26] ty #[v,.slice a len c]).run prog w= .ok v' w'/\AA w' base 5 v' (xs++bv ys)/\w.grownBy w' v.ownBlock:=by
 obtain⟨i0,hi,hz0,hz1,hz2⟩:=info_parts BR;rcases Nat.eq_zero_or_pos len with h0|h0
 ·have hz:ys=[]:=List.eq_nil_of_length_eq_zero (by have:=hy.1;omega);subst hz;subst h0;have hS:Src prog i0.size 26 (.slice a 0 c) 0 [] w:=by
   cases a with
   |none=>exact Src.ofNil w underlying26 c
   |some ad=>exact Src.ofSlice w underlying26 ad 0 c [] (by simp) (λ j u hj=>by simp at hj) (by simp)
  have hv:∃A n cp,v= .slice A n cp/\n<=cp:=by
   rcases h.form with⟨hv,_⟩|⟨g,cp,cur,hv,_,hn,_⟩
   ·exact⟨_,_,_,hv,by omega⟩
   ·exact⟨_,_,_,hv,hn⟩
  obtain⟨A,n,cp,rfl,hle⟩:=hv;refine⟨_,_,run_append_nothing w 26 26 ty 5 i0 underlying26 hi A n cp hle _ hS,by simpa [bv] using h,⟨rfl,rfl,rfl,Uf _,λ _ _ _=>rfl⟩⟩
 ·rcases hy.2.2.2.2 with hx|⟨g,o,rfl,hc⟩
  ·omega
  ·obtain⟨v',w',h1,h2,h3,_⟩:=run_append_own_at (P:=prog) w base 26 ty 5 i0 _ 1 1 underlying26 hi hz0 hz1 hz2 rfl (by decide) v xs.length xs h ⟨g,o,none⟩ len c (bv ys) (by rw[AS,hy.1];omega)
    (λ j u hj=>by
     have hj':j<ys.length:=by have:=(List.getElem?_eq_some_iff.1 hj).1;rwa [AS] at this
     rw[Go.WideShapes.add_plain,hc j (by have:=hy.1;omega),<-hj];simp[bv,List.getD,Ud hj']) (by
     intro u hu;obtain⟨z,_,rfl⟩:=List.mem_map.1 hu;rfl) (by unfold maxLen;omega) (by omega) hb
   refine⟨v',w',h1,?_,h3⟩;unfold AA;rw[Uc,AS,hy.1];exact h2
theorem AU {ops:Array Oper} {o:Oper} {a:Act} {w':World} {K:Act->World->Prop} {Q:Exit->Act->World->Prop} {E:Prop} (hg:o.guard=none) (s x:Operand) (ats:Array TypeId) (hop:o.op=Op.call {callee:=Callee.builtin Builtin.append,args:= #[s,x],argTypes:=ats}) (v y v':Value) (hs:a.eval s=v) (hx:a.eval x=y) (hrun:(Builtin.append_ ats o.type #[v,y]).run P w= .ok v' w') (hK:K (a.put o.dst v') w'):
  if Region.wanted o (yielded ops a.tmps)=true then Oper.wp P o a w K Q else E:=by
 have hw:Region.wanted o (yielded ops a.tmps)=true:=by simp[Region.wanted,hg]
 rw[if_pos hw];unfold Oper.wp;simp[execOp,hop,resolve,invoke,builtin,hs,hx,hrun,Result.andThen];exact hK
theorem AI.cut {g o:Nat} (h:AI k w (some ⟨g,o,none⟩) len cap zs) (hj:j<=len) (A:Option Addr) (hA:j<len->A=some ⟨g,o+j,none⟩):AI k w A (len-j) (cap-j) (zs.drop j):=by
 obtain⟨h1,h2,h3,h4,h5⟩:=h;refine⟨by rw[List.length_drop];omega,by omega,by omega,λ z hz=>h4 z (List.mem_of_mem_drop hz),?_⟩;rcases Nat.lt_or_ge j len with hlt|hge
 ·right;refine⟨g,o+j,hA hlt,λ i hi=> ?_⟩;rcases h5 with h5|⟨g',o',e,hc⟩
  ·omega
  ·injection e with e;injection e with e1 e2 _;subst e1 e2;rw[show o+j+i=o+(j+i) by omega,hc _ (by omega)];simp[List.getD,List.getElem?_drop]
 ·left;omega
theorem AI.head (h:AI k w a len cap zs) (hj:j<=len):AI k w a j cap (zs.take j):=by
 obtain⟨h1,h2,h3,h4,h5⟩:=h;refine⟨by rw[Ul];omega,by omega,h3,λ z hz=>h4 z (List.mem_of_mem_take hz),?_⟩;rcases h5 with h5|⟨g,o,e,hc⟩
 ·left;omega
 ·right;refine⟨g,o,e,λ i hi=> ?_⟩;rw[hc i (by omega)];simp[List.getD,hi]
theorem AA.str (h:AA w base e v (bv zs)):(convert 26 9 v).run prog w= .ok (.string (strOfNums zs)) w:=by
 rcases h.form with⟨rfl,h0⟩|⟨g,cap,cur,rfl,hb,hn,hm,hg,hs,ht⟩
 ·have hz:zs=[]:=by simpa [bv] using h0
  subst hz;exact run_convert_bytes_nil w 26 5 underlying26 underlying5 0 0 9 underlying9
 ·rw[AS] at ht|-
  refine run_convert_bytes_arg w 26 5 underlying26 underlying5 g 0 zs.length cap zs rfl (λ i hi=> ?_) 9 underlying9;have h1:(cur.toList.take zs.length)[i]?=cur[i]?:=by rw[List.getElem?_take,if_pos hi];simp
  rw[Nat.zero_add,cO hg i,<-h1,ht];simp[bv,List.getD,Ud hi]
theorem AA.row2 (h:AA w base e v (bv zs)) (hw:∀z∈zs,(Lit.int .u8 z).wf=true):∃a cap,v= .slice a zs.length cap/\AI .u8 w a zs.length cap zs/\Bj a cap:=by
 obtain⟨a,cap,hv,hr⟩:=h.row hw;refine⟨a,cap,hv,hr,?_⟩;rcases h.form with⟨hv2,_⟩|⟨g,c,cur,hv2,_⟩
 ·rw[hv] at hv2;injection hv2 with h1 h2 h3;exact .inl ⟨h1,h3⟩
 ·rw[hv] at hv2;injection hv2 with h1 h2 h3;exact .inr ⟨g,0,h1⟩
theorem AI.of_trod2 {H:Type} {enc:TypeId×Value->H} {W:World} {t:TypeId} {d:DataW H} {p:List MemPlace} (ht:P.underlying t=some (.slice e)) (he:P.underlying e=some (.int k)) (hc:P.cellsOf e=1) (h:DataW.Trod enc P W 0 (λ _=>true) true t (.slice a len cap) d p):∃zs,AI k W a len cap zs/\(a=none->cap=0):=by
 obtain⟨zs,hz⟩:=AI.of_trod ht he hc h;refine⟨zs,hz,λ e=> ?_⟩;obtain⟨fuel,hf⟩:=h;rcases open_ints ht he hc hf with⟨hcs,_⟩|⟨x,l,c,zs,hcs,_⟩
 ·simp[Value.cells] at hcs;exact hcs.2.2
 ·simp[Value.cells] at hcs;rw[e] at hcs;cases hcs.1
theorem NY (a:List Int):(strOfNums a).size=a.length:=by simp[strOfNums,ByteArray.size]
end Go.Proofs.YtdakioiagpkfhaaGreatDoor
