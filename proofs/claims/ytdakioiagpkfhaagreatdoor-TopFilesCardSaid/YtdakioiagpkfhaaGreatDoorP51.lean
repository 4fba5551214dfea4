/- What one fid writes another one reads, for every input: the card of TopFiles: the call returns true, and each argument reads as it did. Conditions: the listed variables read as the program's text lays them (tied). -/
import Derived.Test.YtdakioiagpkfhaaGreatDoorP47
import Derived.Test.YtdakioiagpkfhaaGreatDoorP49
import Derived.Test.YtdakioiagpkfhaaGreatDoorP50
import Derived.Test.YtdakioiagpkfhaaGreatDoorCards
import Derived.ChangeOld
import Derived.ShutString
set_option maxRecDepth 99999
set_option maxHeartbeats 0
set_option linter.all false
namespace Go.Proofs.YtdakioiagpkfhaaGreatDoor.topFiles
open Go.ChangeShapes Go.WideShapes Go.ChangeAt Go.RowKit
open Go.Proofs.Tryz (prog)
theorem own:ownKnob Tryz.prog.godebug=none:=by kernel_rfl
theorem EL:laidOutB prog=true:=by kernel_rfl
theorem noFn:∀t∈[25,26,3],Tryz.prog.wantsStandIn t=false:=by
 intro t ht;simp at ht;rcases ht with rfl|rfl|rfl
 ·exact(show Tryz.prog.wantsStandIn 25=false by kernel_rfl)
 ·exact(show Tryz.prog.wantsStandIn 26=false by kernel_rfl)
 ·exact(show Tryz.prog.wantsStandIn 3=false by kernel_rfl)
theorem PS (H:Type) (enc:TypeId×Value->H) (W:World) (base:Nat) (args:Array Value) (ds gs:List (DataW H)) (before:List MemPlace)
  (hval:∀(j:Nat) t v,Tryz.f3.params[j]?=some t->args[j]?=some v->Value.okWide prog W .any base t v)
  (hW:DataW.Whole enc prog Tryz.f3.params.toList Rows.topFilesSpec.vars false W args.toList ds gs before) (hL:laidMetH prog Rows.topFilesRow.laid W) (hS:W.ShapedOpen prog):
  Calls prog 3 args W λ e W'=>∃v,e= .returned v/\Rows.topFilesSpec.post enc prog Tryz.f3 false true false false W args v W':=by
 have hW':=hW;obtain⟨p,q,hA0,hV,rfl,hfz,hnd⟩:=hW;have hA:DataW.TrodAll enc prog W 0 (λ _=>true) true Tryz.f3.params.toList args.toList ds p:=hA0;rw[Tryz.params3] at hA hval;obtain⟨v0,vs0,d0,ds0,p0,q0,hargs,rfl,rfl,h0,r0⟩:=trodAll_cons hA;obtain⟨v1,vs1,d1,ds1,p1,q1,rfl,rfl,rfl,h1,r1⟩:=trodAll_cons r0;obtain⟨v2,vs2,d2,ds2,p2,q2,rfl,rfl,rfl,h2,r2⟩:=trodAll_cons r1;obtain⟨v3,vs3,d3,ds3,p3,q3,rfl,rfl,rfl,h3,r3⟩:=trodAll_cons r2;obtain⟨v4,vs4,d4,ds4,p4,q4,rfl,rfl,rfl,h4,r4⟩:=trodAll_cons r3;obtain⟨rfl,rfl,rfl⟩:=trodAll_nil r4;obtain rfl:args= #[v0,v1,v2,v3,v4]:=by cases args;simp_all
 obtain⟨rfl,rfl⟩:=trodVars_none hV;have k0:=h0;have k1:=h1;have k2:=h2;have k3:=h3;have k4:=h4;have lt:∀{t:TypeId} {v:Value} {d:DataW H} {p:List MemPlace},DataW.Trod enc prog W 0 (λ _=>true) true t v d p->∀x∈p,x.block<W.heap.size:=λ h=>by obtain⟨m,hm⟩:=h;exact DataW.trod_lt m _ _ _ hm
 obtain⟨n,r,q,f,vf,vb,vg,zf,zb,zg,hC⟩:=openC (hval 0 25 v0 rfl rfl) h0;obtain⟨a,len,cap,rfl⟩:=okWide_slice Tryz.underlying26 (hval 1 26 v1 rfl rfl);obtain⟨zs,hz,hn⟩:∃zs,AI .u8 W a len cap zs/\(a=none->cap=0):=AI.of_trod2 Tryz.underlying26 Tryz.underlying5 (by kernel_rfl) h1;obtain⟨a2,rfl,rfl,rfl,w2⟩:=open_int Tryz.underlying3 (hval 2 3 v2 rfl rfl) h2;obtain⟨a3,rfl,rfl,rfl,w3⟩:=open_int Tryz.underlying3 (hval 3 3 v3 rfl rfl) h3;obtain⟨a4,rfl,rfl,rfl,w4⟩:=open_int Tryz.underlying3 (hval 4 3 v4 rfl rfl) h4;obtain⟨hT,m,hM⟩:=ME hL hS;clear hA0;refine(GH hC hz hn w2 w3 w4 hT hM).mono λ e W' ⟨he,bel⟩=> ?_
 subst he;exact⟨_,rfl,_,_,_,[],_,[],hW',trodAll_mk1 (shut_bool Tryz.underlying4 _),(trodAll_cons_mk (Below.trod EL (by kernel_rfl) (of_decide_eq_true (by kernel_rfl)) k0 bel (lt k0)) (trodAll_cons_mk (Below.trod EL (by kernel_rfl) (of_decide_eq_true (by kernel_rfl)) k1 bel (lt k1)) (trodAll_cons_mk (Below.trod EL (by kernel_rfl) (of_decide_eq_true (by kernel_rfl)) k2 bel (lt k2)) (trodAll_cons_mk (Below.trod EL (by kernel_rfl) (of_decide_eq_true (by kernel_rfl)) k3 bel (lt k3)) (trodAll_cons_mk (Below.trod EL (by kernel_rfl) (of_decide_eq_true (by kernel_rfl)) k4 bel (lt k4)) trodAll_mk0))))),rfl,Below.frame bel _,λ h=>by cases h⟩
def wit:Array Value:= #[.agg (cC 0 0 0 0 (.slice none 0 0) (.slice none 0 0) (.slice none 0 0)),.slice none 0 0,.int .i64 0,.int .i64 0,.int .i64 0]
theorem reads (os:Os) {H:Type} (enc:TypeId×Value->H):∃places,DataW.whole enc prog ((IH os).forCall (λ _ _=>0) ⟨#[],wit,[]⟩).memory Tryz.f3.params.toList Rows.topFilesSpec.vars false wit.toList 8=some ([.agg [.lit (.int .i64 0),.lit (.int .i64 0),.lit (.int .i64 0),.lit (.int .u32 0),.nil,.nil,.nil],.nil,.lit (.int .i64 0),.lit (.int .i64 0),.lit (.int .i64 0)],[],places):=
 ⟨[],by kernel_rfl⟩
theorem lifted (os:Os) (started:os.Started) (H:Type) (enc:TypeId×Value->H) (F:Stop.Interp):
  ReturnsInHanded {} Tryz.checked os 3 .any ((OpenSpec.ofChange Rows.topFilesSpec).preRow enc prog Tryz.f3 Rows.topFilesRow.domain false Rows.topFilesRow.laid) (((OpenSpec.ofChange Rows.topFilesSpec).at F).post enc prog Tryz.f3 false true false false):=by
 obtain⟨places,hx⟩:=reads os enc;refine returnsInHanded_of_row (C:=Tryz.checked) (s:=OpenSpec.ofChange Rows.topFilesSpec) own started (by kernel_rfl) Tryz.func3
  (witness_row_at (enc:=enc) (C:=Tryz.checked) false (IH os) wit rfl (by kernel_rfl) (by kernel_rfl) (by kernel_rfl)
   (OpenSpec.preRow_of_cond 8 hx (by kernel_rfl) (λ k hk=>by cases hk) (by kernel_rfl) (S8 os _))) ?_
 intro W base args ds gs before hval hW _ _ _ hL hS _;exact PS H enc W base args ds gs before hval hW hL hS
theorem said:Rows.TopFilesSaid:=
 OpenClaim.holds_of_cond 3 Tryz.f3 rfl rfl rfl rfl rfl rfl rfl ⟨rfl,rfl,rfl,rfl,rfl⟩ rfl rfl rfl rfl rfl (by kernel_rfl) Tryz.func3 Tq
  (of_decide_eq_true (by kernel_rfl)) (by unfold Func.isWrapper;first|(rw[if_pos (by decide+kernel)];kernel_rfl)|(rw[if_neg (by decide+kernel)];exact⟨rfl,rfl⟩))
  (λ os started H enc _ F=>by rw[OpenClaim.pre_eq_preRow];exact lifted os started H enc F)
theorem plain (f:FuncId) (fn:Func) (hf:Tryz.pinned.checked.prog.funcNamed Tryz.f3.name=some f) (hfn:Tryz.pinned.checked.prog.funcs[f]?=some fn):
  true=Tryz.pinned.checked.prog.looks []/\∀(j:Nat) t,fn.params[j]?=some t->Tryz.pinned.checked.prog.wantsStandIn t=false:=by
 obtain rfl:f=3:=Option.some.inj ((show Tryz.prog.funcNamed Tryz.f3.name=some 3 by kernel_rfl).symm.trans hf)|>.symm;obtain rfl:fn=Tryz.f3:=(Option.some.inj (Tryz.func3.symm.trans hfn)).symm;refine⟨by kernel_rfl,λ j t ht=>noFn t ?_⟩;rw[Tryz.params3] at ht;have:=Array.mem_of_getElem? ht;simpa using this
theorem card:Rows.TopFilesCardSaid:=
 Claim7.holds_tied_plain_at .later [] _ _ _ _ said (λ _ h=>by cases h) (by kernel_rfl) (λ _ h=>by cases h) topFiles_row_tie rfl ⟨rfl,rfl⟩ (by kernel_rfl) rfl plain RQ
end Go.Proofs.YtdakioiagpkfhaaGreatDoor.topFiles
