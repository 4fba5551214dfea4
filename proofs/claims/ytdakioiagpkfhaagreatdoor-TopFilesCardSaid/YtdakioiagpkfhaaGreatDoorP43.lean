import Derived.Test.YtdakioiagpkfhaaGreatDoorP36
import Derived.Shelf.Strings.Prefix
import Derived.Shelf.Strings.Split
import Derived.Shelf.Strings.OnBuilder
import Derived.Shelf.Strconv.Itoa3
import Derived.Great.Walk
set_option maxRecDepth 99999
set_option maxHeartbeats 0
set_option linter.all false
namespace Go.Proofs.YtdakioiagpkfhaaGreatDoor
open RowKit Conc Great
open Go.Proofs.Tryz
variable {b base g i:Nat} {k s sep t:ByteArray} {m:Int} {ns:List ByteArray} {v:Value} {w w0:World}
def prC (c:Int):List Int:=if c=0 then[37,48,48] else[c]
def UY (s:ByteArray):Prop:=∀i (h:i<s.size),s[i].toNat=0\/(33<=s[i].toNat/\s[i].toNat<=126/\s[i].toNat≠37)
def prn (s:ByteArray) (i:Nat):List Int:=((sb s).take i).flatMap prC
theorem Iw (s:ByteArray) (i:Nat) (h:i<s.size):prn s (i+1)=prn s i++prC (s[i].toNat:Int):=by
 unfold prn;have e:(sb s)[i]?=some (s[i].toNat:Int):=by
  unfold sb;rw[List.getElem?_map,Ud (by simpa using h)];rfl
 rw[List.take_add_one,e];simp[List.flatMap_append]
theorem Qm (s:ByteArray) (i:Nat):(prn s i).length<=3*i:=by
 have h:∀l:List Int,(l.flatMap prC).length<=3*l.length:=λ l=>by
  induction l with
  |nil=>simp
  |cons x l ih=>
   rw[List.flatMap_cons,Uc,Un];have:(prC x).length<=3:=by unfold prC;split<;>simp
   omega
 have:=h ((sb s).take i);rw[Ul] at this;unfold prn;omega
theorem sl3 (w:World):Sl (w.alloc (.cells #[.int .u8 37,.int .u8 48,.int .u8 48] 5)) (sS w.heap.size 0 3 3) [37,48,48]:=
 ⟨_,_,rfl,⟨rfl,by simp,by unfold maxLen;simp,((Wf.one (by decide) (by decide)).app (.app (.one (by decide) (by decide)) (.one (by decide) (by decide))):Wf ([37]++([48]++[48]))),.inr ⟨_,_,rfl,λ i hi=>by
  rw[cO (Ub w _)];have:i=0\/i=1\/i=2:=by simp at hi;omega
  rcases this with rfl|rfl|rfl<;>rfl⟩⟩,.inr ⟨_,_,rfl⟩⟩
theorem more3 {zs:List Int} (h:AA w base 5 v (bv zs)) (hl:zs.length<=9000000) (hb:base<=w.heap.size):
  ∃v' w',(Builtin.append_ #[26,26] 26 #[v,sS w.heap.size 0 3 3]).run prog (w.alloc (.cells #[.int .u8 37,.int .u8 48,.int .u8 48] 5))= .ok v' w'/\AA w' base 5 v' (bv (zs++[37,48,48]))/\∀o,o.heap.size<=base->Ext o w->Ext o w':=by
 obtain⟨v',w',q1,q2,q3⟩:=(h.ext ((Ext.refl w).alloc (.cells #[.int .u8 37,.int .u8 48,.int .u8 48] 5))).app (sl3 w) (by simp;omega) (by simp;omega) 26;exact⟨v',w',q1,q2,λ o ho hx=>(h.ext ((Ext.refl w).alloc _)).grow_ext q3 (hx.alloc _) ho⟩
theorem OB (s:ByteArray) (hs:s.size<=1000) (h1:s.toList≠[]) (h2:s.toList≠[45]) (h:UY s) (w:World):
  Calls prog 296 #[.string s] w λ r w'=>r= .returned (.string (strOfNums (prn s s.size)))/\Ext w w':=by
 have d1:(s.toList==[])=false:=by simpa using h1
 have d2:(s.toList==[45])=false:=by simpa using h2
 have H:=hid h;clear h h1 h2;go_in;go_wp2_with fail;go_loopw [3,13] (λ v3 v13 wr=>∃i:Nat,i<=s.size/\v13= iI i/\AA wr w.heap.size 5 v3 (bv (prn s i))/\Ext w wr) (λ _ v13 _=>s.size-(intOf v13).toNat)
 case atStart=>exact⟨0,by omega,rfl,AA.nil _ _ _,Ext.refl w⟩
 case round=>
  obtain⟨i,hi,rfl,hO,hX⟩:=hrel;have hpl:=Qm s i;by_cases hlt:i<s.size
  ·have d3:decide ((i:Int)<(s.size:Int))=true:=by simp;omega
   have b0:(0:Int)<=(i:Int):=by omega
   have b1:(i:Int)<(s.size:Int):=by omega
   have hps:=Iw s i hlt;rcases H.o i hlt with hc|⟨hc1,hc2,hc3⟩
   ·obtain⟨v',w',q1,q2,q3⟩:=more3 (hO.ext ((Ext.refl wr).drew)) (by omega) hX.size;have e:prC (s[i].toNat:Int)=[37,48,48]:=by rw[hc];rfl
    rw[e] at hps;rw[<-hps] at q2;have HR:=hid q1;have HO:=hid q2;have HX:=hid (q3 w (Uf _) hX.drew);clear q1 q2 q3 hX hO hps e;go_upto_region 12 with fail;have hb:bits BinOp.and IntKind.u8 0 15=0:=by decide
    have hx:((⟨#[48,49,50,51,52,53,54,55,56,57,97,98,99,100,101,102]⟩:ByteArray)[0]'(by decide)).toNat=48:=rfl;go_region_law (refine AU rfl (.tmp 29) (.tmp 36) _ rfl _ _ _ rfl rfl HR.o ?_)
    all_goals
     go_wp2_with fail;exact⟨⟨i+1,by omega,by go_num,HO.o,HX.o⟩,by simp only[intOf];omega⟩
   ·obtain⟨v',w',q1,q2,q3⟩:=LO hO (s[i].toNat:Int) (by omega) (by omega) (by omega) hX.size;have e:prC (s[i].toNat:Int)=[(s[i].toNat:Int)]:=by unfold prC;rw[if_neg (by omega)]
    rw[e] at hps;rw[<-hps] at q2;have HR:=hid q1;have HO:=hid q2;have HX:=hid (q3 w (Uf _) hX);have g1:decide ((s[i].toNat:Int)<33)=false:=by simp;omega
    have g2:decide (126<(s[i].toNat:Int))=false:=by simp;omega
    have g3:((s[i].toNat:Int)==37)=false:=by simp;omega
    clear q1 q2 q3 hX hO hps e;go_wp2_with (at_builtin;refine jA rfl (.tmp 38) (.tmp 40) _ rfl _ _ _ rfl rfl HR.o ?_);go_roundw
    case rel=>exact⟨i+1,by omega,by go_num,HO.o,HX.o⟩
    case measure=>simp[intOf];omega
  ·have d3:decide ((i:Int)<(s.size:Int))=false:=by simp;omega
   obtain rfl:i=s.size:=by omega
   have HC:=hid hO.str;have R:=HC.o;have HX:=hid hX;clear hO hX;go_wp2_with fail;go_ret;exact⟨rfl,HX.o⟩
def Kw (s:ByteArray):Prop:=∀i (h:i<s.size),33<=s[i].toNat/\s[i].toNat<=126/\s[i].toNat≠37
theorem Kw.pr (h:Kw s):UY s:=λ i hi=> .inr (h i hi)
theorem Kw.take (h:Kw s):∀i,i<=s.size->prn s i=(sb s).take i
 |0,_=>rfl
 |i+1,hi=>by
  rw[Iw s i (by omega),h.take i (by omega),List.take_add_one];have e:(sb s)[i]?=some (s[i].toNat:Int):=by
   unfold sb;rw[List.getElem?_map,Ud (by show i<s.size;omega)];rfl
  rw[e];unfold prC;rw[if_neg (by have:=h i (by omega);omega)];rfl
theorem Kw.prn (h:Kw s):strOfNums (prn s s.size)=s:=by
 rw[h.take _ (Uf _),List.take_of_length_le (by rw[Ab];exact Uf _),VD]
theorem SN (s:ByteArray) (hs:s.size<=1000) (h1:s.toList≠[]) (h2:s.toList≠[45]) (h:Kw s) (w:World):
  Calls prog 204 #[.string s] w λ r w'=>r= .returned (.tuple #[.string s,iI 0])/\Ext w w':=by
 have HP:=hid (OB s hs h1 h2 h.pr);rw[h.prn] at HP;have d2:(s.toList==[45])=false:=by simpa using h2
 have H:=hid h;clear h h1 h2;go_in;go_wp2_with fail;go_loopw [4,5] (λ v4 v5 wr=>∃i:Nat,i<=s.size/\v5= iI i/\AA wr w.heap.size 5 v4 (bv ((sb s).take i))/\Ext w wr) (λ _ v5 _=>s.size-(intOf v5).toNat)
 case atStart=>exact⟨0,by omega,rfl,AA.nil _ _ _,Ext.refl w⟩
 case round=>
  obtain⟨i,hi,rfl,hO,hX⟩:=hrel;by_cases hlt:i<s.size
  ·have d3:decide ((i:Int)<(s.size:Int))=true:=by simp;omega
   have b0:(0:Int)<=(i:Int):=by omega
   have b1:(i:Int)<(s.size:Int):=by omega
   obtain⟨g1,g2,g3⟩:=H.o i hlt;obtain⟨v',w',q1,q2,q3⟩:=LO hO (s[i].toNat:Int) (by omega) (by omega) (by rw[Ul];omega) hX.size;have e:(sb s).take (i+1)=(sb s).take i++[(s[i].toNat:Int)]:=by
    rw[List.take_add_one];unfold sb;rw[List.getElem?_map,Ud (by show i<s.size;omega)];rfl
   rw[<-e] at q2;have HR:=hid q1;have HO:=hid q2;have HX:=hid (q3 w (Uf _) hX);have g4:((s[i].toNat:Int)==37)=false:=by simp;omega
   clear q1 q2 q3 hX hO e g1 g2 g3;go_wp2_with (at_builtin;refine jA rfl (.tmp 50) (.tmp 52) _ rfl _ _ _ rfl rfl HR.o ?_);go_roundw
   case rel=>exact⟨i+1,by omega,by go_num,HO.o,HX.o⟩
   case measure=>simp[intOf];omega
  ·have d3:decide ((i:Int)<(s.size:Int))=false:=by simp;omega
   obtain rfl:i=s.size:=by omega
   rw[List.take_of_length_le (by rw[Ab];exact Uf _)] at hO;have HC:=hid (λ W (X:Ext wr W)=>(hO.ext X).str);have R:=HC.o wr (Ext.refl wr);rw[VD] at R HC;have HX:=hid hX;clear hO hX;go_wp2_with (go_at_call 296;refine(HP.o _).mono ?_;rintro r w1 ⟨rfl,X1⟩;have R1:=HC.o w1 X1;have HX1:=hid (HX.o.trans X1);clear X1);go_ret2;exact⟨rfl,HX1.o⟩
theorem TU (w:World):Calls prog 204 #[.string ⟨#[45]⟩] w λ r w'=>r= .returned (.tuple #[eE,iI 0])/\Ext w w':=by
 go_in;go_wp2_with fail;go_ret2;exact⟨rfl,Ext.refl w⟩
def Jg (s t:ByteArray):Prop:=t.size<=300/\∀w,Calls prog 204 #[.string s] w λ r w'=>r= .returned (.tuple #[.string t,iI 0])/\Ext w w'
theorem Tj (h:Jg s t) (w:World):Calls prog 130 #[.string s] w λ r w'=>r= .returned (.string t)/\Ext w w':=by
 have H:=hid h.2;have d1:decide ((300:Int)<(t.size:Int))=false:=by have:=h.1;simp;omega
 clear h;go_in;go_wp2_with fail;refine(H.o _).mono ?_;rintro r w1 ⟨rfl,X⟩;have HX:=hid X;clear X;go_wp2_with fail;go_ret;exact⟨rfl,HX.o⟩
section
open Go.Shelf
theorem fx {n:Nat} {b c:Func} (h:prog.funcs[n]?=some b) (e:b=c):prog.funcs[n]?=some c:=h.trans (congrArg some e)
def shR:Ren:=⟨λ|100=>128|101=>203|129=>421|138=>116|143=>117|146=>34|156=>180|165=>290|166=>36|169=>37|171=>177|195=>173|197=>174|206=>355|207=>202|208=>294|217=>282|218=>175|219=>176|221=>72|224=>284|225=>283|240=>77|241=>353|243=>286|246=>343|260=>281|266=>341|267=>285|268=>115|276=>131|277=>396|283=>389|284=>390|285=>391|286=>392|314=>342|317=>420|318=>422|319=>423|320=>424|337=>434|338=>435|n=>n,λ|0=>0|2=>2|3=>3|4=>4|5=>5|9=>9|20=>20|21=>21|31=>41|37=>26|46=>283|51=>22|53=>95|70=>103|72=>105|75=>110|76=>111|80=>113|105=>313|119=>455|127=>190|138=>457|139=>458|146=>459|164=>251|171=>484|173=>487|212=>511|213=>512|232=>530|233=>531|n=>n,λ|1=>0|3=>2|4=>3|17=>4|18=>5|19=>6|n=>n⟩
theorem sh101:Lays.n101 prog shR:=⟨by kernel_rfl,fx func203 (by kernel_rfl),fx func355 (by kernel_rfl),fx func294 (by kernel_rfl),underlying3,isAgg3,sizeOf3,zeroValue3,underlying4,isAgg4,sizeOf4,zeroValue4,underlying9,isAgg9,sizeOf9,zeroValue9⟩
theorem sh100:Lays.n100 prog shR:=⟨by kernel_rfl,fx func128 (by kernel_rfl),fx func202 (by kernel_rfl),underlying3,isAgg3,sizeOf3,zeroValue3,underlying4,isAgg4,sizeOf4,zeroValue4,underlying9,isAgg9,sizeOf9,zeroValue9⟩
theorem sh146:Lays.n146 prog shR:=⟨by kernel_rfl,fx func116 (by kernel_rfl),fx func117 (by kernel_rfl),fx func34 (by kernel_rfl),fx func173 (by kernel_rfl),fx func174 (by kernel_rfl),fx func282 (by kernel_rfl),fx func175 (by kernel_rfl),fx func176 (by kernel_rfl),fx func72 (by kernel_rfl),fx func284 (by kernel_rfl),fx func283 (by kernel_rfl),fx func281 (by kernel_rfl),fx func341 (by kernel_rfl),fx func285 (by kernel_rfl),fx func115 (by kernel_rfl),fx func342 (by kernel_rfl),underlying0,isAgg0,sizeOf0,zeroValue0,underlying3,isAgg3,sizeOf3,zeroValue3,underlying4,isAgg4,sizeOf4,zeroValue4,underlying5,isAgg5,sizeOf5,zeroValue5,underlying9,isAgg9,sizeOf9,zeroValue9,underlying21,isAgg21,sizeOf21,zeroValue21,underlying41,isAgg41,sizeOf41,zeroValue41,underlying283,isAgg283,sizeOf283,zeroValue283,underlying22,isAgg22,sizeOf22,zeroValue22,underlying313,isAgg313,sizeOf313,zeroValue313,underlying455,isAgg455,sizeOf455,underlying457,isAgg457,sizeOf457,zeroValue457,underlying458,isAgg458,sizeOf458,zeroValue458,underlying459,isAgg459,sizeOf459,zeroValue459,by kernel_rfl,by kernel_rfl,by kernel_rfl⟩
theorem LB:Lays.n156 prog shR:=⟨by kernel_rfl,fx func180 (by kernel_rfl),fx func290 (by kernel_rfl),fx func36 (by kernel_rfl),fx func37 (by kernel_rfl),fx func77 (by kernel_rfl),fx func353 (by kernel_rfl),fx func131 (by kernel_rfl),fx func396 (by kernel_rfl),underlying0,isAgg0,sizeOf0,zeroValue0,underlying3,isAgg3,sizeOf3,zeroValue3,underlying4,isAgg4,sizeOf4,zeroValue4,underlying9,isAgg9,sizeOf9,zeroValue9,underlying20,isAgg20,sizeOf20,zeroValue20,underlying41,isAgg41,sizeOf41,zeroValue41,underlying26,isAgg26,sizeOf26,zeroValue26,underlying103,isAgg103,sizeOf103,zeroValue103,underlying105,isAgg105,sizeOf105,zeroValue105,underlying110,isAgg110,sizeOf110,zeroValue110,underlying111,isAgg111,sizeOf111,zeroValue111,underlying190,isAgg190,sizeOf190,zeroValue190,underlying251,isAgg251,sizeOf251,zeroValue251⟩
theorem shX:Builder.Extra prog shR:={sizeBuilder:=by kernel_rfl,liesBuilder:=by kernel_rfl,t5:=underlying5,a5:=isAgg5,z5:=sizeOf5,v5:=zeroValue5,infoByte:=by kernel_rfl,cellsByte:=by kernel_rfl,sizeByte:=by kernel_rfl,neB5:=by decide}
theorem sh169:Lays.n169 prog shR:={LB with}
theorem sh171:Lays.n171 prog shR:=⟨by kernel_rfl,fx func421 (by kernel_rfl),fx func177 (by kernel_rfl),fx func286 (by kernel_rfl),fx func343 (by kernel_rfl),fx func389 (by kernel_rfl),fx func390 (by kernel_rfl),fx func391 (by kernel_rfl),fx func392 (by kernel_rfl),fx func420 (by kernel_rfl),fx func422 (by kernel_rfl),fx func423 (by kernel_rfl),fx func424 (by kernel_rfl),fx func434 (by kernel_rfl),fx func435 (by kernel_rfl),underlying0,isAgg0,sizeOf0,zeroValue0,underlying2,isAgg2,sizeOf2,zeroValue2,underlying3,isAgg3,sizeOf3,zeroValue3,underlying4,isAgg4,sizeOf4,zeroValue4,underlying5,isAgg5,sizeOf5,zeroValue5,underlying9,isAgg9,sizeOf9,zeroValue9,underlying20,isAgg20,sizeOf20,zeroValue20,underlying26,isAgg26,sizeOf26,zeroValue26,underlying283,isAgg283,sizeOf283,zeroValue283,underlying22,isAgg22,sizeOf22,zeroValue22,underlying95,isAgg95,sizeOf95,zeroValue95,underlying484,isAgg484,sizeOf484,zeroValue484,underlying487,isAgg487,sizeOf487,zeroValue487,underlying511,isAgg511,sizeOf511,zeroValue511,underlying512,isAgg512,sizeOf512,underlying530,isAgg530,sizeOf530,zeroValue530,underlying531,isAgg531,sizeOf531,zeroValue531,by kernel_rfl,by kernel_rfl,by kernel_rfl⟩
theorem QJ (s:ByteArray) (w:World) (h:Lib.trimPrefix s.data.toList [45]=s.data.toList):Calls prog 203 #[.string s,.string ⟨#[45]⟩] w λ r w'=>r= .returned (.string s)/\w=w':=
 (Any.strings_TrimPrefix sh101 s ⟨#[45]⟩ w).mono λ r w' ⟨e,hw⟩=>⟨by rw[e];congr 2;exact ByteArray.ext (by rw[h]),hw.symm⟩
theorem QO (s p:ByteArray) (w:World) (hs:s.size<=9223372036854775807) (h:Lib.hasSuffix s.data.toList p.data.toList=false):Calls prog 128 #[.string s,.string p] w λ r w'=>r= .returned (.bool false)/\w=w':=
 (Any.strings_HasSuffix sh100 s p w hs).mono λ r w' ⟨e,hw⟩=>⟨by rw[e,h],hw.symm⟩
def dgt (i:Nat):ByteArray:=⟨#[UInt8.ofNat (48+i)]⟩
theorem CH (i:Nat) (hi:i<10) (w:World):Calls prog 177 #[iI i] w λ r w'=>r= .returned (.string (dgt i))/\w=w':=
 (Any.strconv_Itoa_small sh171 i (by omega) w).mono λ r w' ⟨e,hw⟩=>⟨by rw[e,Lib.decDigits_one hi];rfl,hw.symm⟩
theorem Ik (hs:s.size<4294967281) (h1:1<=sep.size) (hn:Lib.splitB sep 0 (Lib.countB s sep) s=ns) (hl:ns.length=Lib.countB s sep+1) (hm:w.cell? (dD 0 0)=some (iI m)):
  Calls prog 34 #[.string s,.string sep] w λ r w'=>r= .returned (sS w.heap.size 0 ns.length ns.length)/\w'=w.alloc (.cells (sv ns).toArray 9):=
 (Any.strings_Split sh146 (by kernel_rfl) s sep m w hs hm h1).mono λ r w' ⟨e,hw⟩=>⟨by rw[e,hl],by rw[hw,hn];rfl⟩
theorem RE {c:Nat} (hc:∀i (h:i<ns.length),w.cell? (dD g i)=some (.string ns[i])) (hg:g<w.heap.size) (hn:ns.length<=1000) (hcap:ns.length<=c) (ht:⟨(Lib.join (ns.map (·.data.toList)) sep.data.toList).toArray⟩=t) (hl:t.size<=100000):
  Calls prog 180 #[sS g 0 ns.length c,.string sep] w λ r w'=>r= .returned (.string t)/\Ext w w':=
 (Any.strings_Join LB shX g 0 c ns sep w (λ j x hj=>by obtain⟨h,e⟩:=List.getElem?_eq_some_iff.1 hj;rw[Nat.zero_add,hc j h,e]) hg (by omega) hcap (by
  have:t.size=(Lib.join (ns.map (·.data.toList)) sep.data.toList).length:=by rw[<-ht];rfl
  omega)).mono λ r w' ⟨e,hw⟩=>⟨by rw[e,ht],hw⟩
end
def dgs (s:ByteArray):Nat->Int
 |0=>0
 |i+1=>dgs s i*10+(((sb s).getD i 0)-48)
structure GE (s:ByteArray) (n:Int):Prop where
 one:1<=s.size
 few:s.size<=9
 each:∀z∈sb s,48<=z/\z<=57
 trim:Lib.trimPrefix s.data.toList [45]=s.data.toList
 num:dgs s s.size=n
theorem PP (h:∀z∈sb s,48<=z/\z<=57):∀i,i<=s.size->0<=dgs s i/\dgs s i<10^i
 |0,_=>⟨by simp[dgs],by simp[dgs]⟩
 |i+1,hi=>by
  obtain⟨h1,h2⟩:=PP h i (by omega);have hm:(sb s).getD i 0∈sb s:=by
   rw[List.getD_eq_getElem?_getD,Ud (by rw[Ab];omega)];exact List.getElem_mem _
  have h3:=h _ hm;unfold dgs;rw[Int.pow_succ];omega
theorem Q9 {n:Int} (h:GE s n) (w:World):
  Calls prog 129 #[.string s] w λ r w'=>r= .returned (iI n)/\w=w':=by
 have HT:=hid (λ W=>QJ s W h.trim);have hs1:=h.one;have hs9:=h.few;have HN:=hid h.num;have HB:=hid (PP h.each);have HE:=hid h.each;have d1:decide ((s.size:Int)<1)=false:=by simp;omega
 have d2:decide ((18:Int)<(s.size:Int))=false:=by simp;omega
 clear h;go_in;go_wp2_with fail;refine(HT.o _).mono ?_;rintro r w1 ⟨rfl,rfl⟩;go_wp2_with fail;go_loop [4,21] (λ v4 v21=>∃i:Nat,i<=s.size/\v21= iI i/\v4= iI (dgs s i)) (λ _ v21=>s.size-(intOf v21).toNat)
 case atStart=>exact⟨0,by omega,rfl,rfl⟩
 case round=>
  obtain⟨i,hi,rfl,rfl⟩:=hrel;obtain⟨q1,q2⟩:=HB.o i hi;by_cases hlt:i<s.size
  ·have d3:decide ((i:Int)<(s.size:Int))=true:=by simp;omega
   have b0:(0:Int)<=(i:Int):=by omega
   have b1:(i:Int)<(s.size:Int):=by omega
   have hz:(sb s).getD i 0=(s[i].toNat:Int):=by
    unfold sb;rw[List.getD_eq_getElem?_getD,List.getElem?_map,Ud (by simpa using hlt)];rfl
   have hm:(s[i].toNat:Int)∈sb s:=by
    rw[<-hz,List.getD_eq_getElem?_getD,Ud (by rw[Ab];omega)];exact List.getElem_mem _
   obtain⟨g1,g2⟩:=HE.o _ hm;have HD:=hid (show dgs s (i+1)=dgs s i*10+((s[i].toNat:Int)-48) from by rw[dgs,hz]);have h9:(10:Int)^i<=1000000000:=by
    have:∀j,j<=9->(10:Int)^j<=1000000000:=by decide
    exact this i (by omega)
   obtain⟨y,hy⟩:∃y,y=dgs s i:=⟨_,rfl⟩;rw[<-hy] at q1 q2 HD|-
   have hy9:y<=1000000000:=by omega
   have e1:IntKind.u8.wrap ((s[i].toNat:Int)-48)=(s[i].toNat:Int)-48:=IntWalk.u8_in _ (by omega);have k1:decide ((s[i].toNat:Int)<48)=false:=by simp;omega
   have k2:decide ((57:Int)<(s[i].toNat:Int))=false:=by simp;omega
   clear hm hz q2 h9 hy;go_wp2_with fail;go_round
   case rel=>exact⟨i+1,by omega,by go_num,by rw[HD.o]⟩
   case measure=>simp[intOf];omega
  ·have d3:decide ((i:Int)<(s.size:Int))=false:=by simp;omega
   obtain rfl:i=s.size:=by omega
   rw[HN.o];go_wp2_with fail;go_ret;exact⟨rfl,rfl⟩
theorem ST (h:AA w base 9 v (sv ns)) (s:ByteArray) (hl:ns.length<=5000) (hb:base<=w.heap.size):
  ∃v' w',(Builtin.append_ #[41,41] 41 #[v,sS w.heap.size 0 1 1]).run prog (w.alloc (.cells #[.string s] 9))= .ok v' w'/\AA w' base 9 v' (sv (ns++[s]))/\(∀o,o.heap.size<=base->Ext o w->Ext o w'):=by
 have e:(sv ns).length=ns.length:=Ct ns;obtain⟨v',w',h1,h2,h3,_⟩:=h.append1 (P:=prog) (t:=41) (ty:=41) (eE) 16 underlying41 IK rfl (.string s) rfl (by unfold maxLen;omega) (by omega) hb;exact⟨v',w',h1,by simpa [sv] using h2,λ o ho hx=>Uu h3 (hx.alloc _) (λ g hg=>by have:=(h.lt hg).1;omega)⟩
structure FJ (s sep:ByteArray) (ns:List ByteArray):Prop where
 few:s.size<4294967281
 one:1<=sep.size
 is:Lib.splitB sep 0 (Lib.countB s sep) s=ns
 num:ns.length=Lib.countB s sep+1
 len:ns.length<=1000
theorem Ta (h:FJ s ⟨#[32]⟩ ns) (hne:∀x∈ns,x.toList≠[]) (hm:w.cell? (dD 0 0)=some (iI m)):
  Calls prog 74 #[.string s] w λ r w'=>∃v,r= .returned v/\AA w' w.heap.size 9 v (sv ns)/\Ext w w':=by
 have HS:=hid (Ik h.few h.one h.is h.num hm);have hl:=h.len;have HN:=hid hne;clear h hne hm;obtain⟨k,hk⟩:∃k,k=ns.length:=⟨_,rfl⟩;rw[<-hk] at HS;have HK:=hid hk;have hkl:k<=1000:=by omega
 clear hk hl;go_in;go_wp2_with fail;refine HS.o.mono ?_;rintro r w1 ⟨rfl,hw1⟩;have hb:w1.heap[w.heap.size]?=some (.cells (sv ns).toArray 9 (0,0)):=by rw[hw1];exact Ub w _
 have X1:Ext w w1:=by rw[hw1];exact(Ext.refl w).alloc _
 have HB:=hid hb;have HX1:=hid X1;clear hw1 hb X1;go_wp2_with fail;go_loopw [3,9] (λ v3 v9 wr=>∃i:Nat,i<=k/\v9= iI i/\AA wr w1.heap.size 9 v3 (sv (ns.take i))/\Ext w1 wr) (λ _ v9 _=>k-(intOf v9).toNat)
 case atStart=>exact⟨0,by omega,rfl,AA.nil _ _ _,Ext.refl w1⟩
 case round=>
  obtain⟨i,hi,rfl,hO,hX⟩:=hrel;by_cases hlt:i<k
  ·have d3:decide ((i:Int)<(k:Int))=true:=by simp;omega
   have b0:(0:Int)<=(i:Int):=by omega
   have b1:(i:Int)<(k:Int):=by omega
   have hik:i<ns.length:=by have:=HK.o;omega
   obtain⟨x,hx⟩:∃x,ns[i]=x:=⟨_,rfl⟩;have hc:wr.cell? (dD w.heap.size i)=some (.string x):=hX.cell (by rw[cO HB.o];simp[sv,hx,hik]);have hxn:(x.toList==[])=false:=by simpa using HN.o x (by rw[<-hx];exact List.getElem_mem hik)
   obtain⟨v',w',q1,q2,q3⟩:=ST hO x (by rw[Ul];omega) hX.size;have HR:=hid q1;have HO:=hid (show AA w' w1.heap.size 9 v' (sv (ns.take (i+1))) from by rw[List.take_add_one,Ud hik,hx];exact q2);have HX:=hid (q3 w1 (Uf _) hX);clear q1 q2 q3 hX hO hx;go_wp2_with (at_builtin;refine jA rfl (.tmp 15) (.tmp 17) _ rfl _ _ _ rfl rfl HR.o ?_);go_roundw
   case rel=>exact⟨i+1,by omega,by go_num,HO.o,HX.o⟩
   case measure=>simp[intOf];omega
  ·have d3:decide ((i:Int)<(k:Int))=false:=by simp;omega
   rw[List.take_of_length_le (by have:=HK.o;omega)] at hO;have HO:=hid (hO.low HX1.o.size);have HX:=hid (HX1.o.trans hX);clear hO hX;go_wp2_with fail;go_ret;exact⟨_,rfl,HO.o,HX.o⟩
abbrev KV:=List (ByteArray×Value)
def Dk:KV->ByteArray->Nat->Option (Nat×Value)
 |[],_,_=>none
 |p::l,k,i=>if p.1.data.toList=k.data.toList then some (i,p.2) else Dk l k (i+1)
theorem US (a b:ByteArray):(a==b)=decide (a.data.toList=b.data.toList):=by
 obtain⟨x⟩:=a;obtain⟨y⟩:=b;show(x==y)=_;rw[Bool.eq_iff_iff];simp
def MkS (w0 w:World) (b:Nat) (l:KV):Prop:=
 (∃es clock,w.heap[b]?=some (.map es clock)/\es.toList.map (λ e=>(e.key,e.val))=l.map (λ p=>(Value.string p.1,p.2)))/\Ext w0 w/\w0.heap.size<=b
theorem MkS.start (w:World):MkS w (w.alloc (.map #[] 0)) w.heap.size []:=⟨⟨#[],0,Ub w _,rfl⟩,(Ext.refl w).alloc _,Uf _⟩
theorem MkS.more {w':World} {l:KV} (h:MkS w0 w b l) (hx:Ext w w'):MkS w0 w' b l:=by
 obtain⟨⟨es,c,h1,h2⟩,h3,h4⟩:=h;exact⟨⟨es,c,hx.heap h1,h2⟩,h3.trans hx,h4⟩
theorem MkS.lt {l:KV} (h:MkS w0 w b l):b<w.heap.size:=by
 obtain⟨⟨es,c,h1,-⟩,-⟩:=h;exact lH h1
theorem Ed (k:ByteArray):∀(es:List MapEntry) (l:KV) (i:Nat),es.map (λ e=>(e.key,e.val))=l.map (λ p=>(Value.string p.1,p.2))->Instr.findNow .string (.string k) es i=some (Dk l k i)
 |[],[],i,_=>rfl
 |[],p::l,i,h=>by simp at h
 |e::es,[],i,h=>by simp at h
 |e::es,p::l,i,h=>by
  simp only[List.map_cons,List.cons.injEq,Prod.mk.injEq] at h;obtain⟨⟨h1,h2⟩,h3⟩:=h;have ih:=Ed k es l (i+1) h3;unfold Instr.findNow Dk;rw[h1];simp only[Instr.sameNow,US];by_cases hk:p.1.data.toList=k.data.toList
  ·rw[if_pos hk,decide_eq_true hk.symm];simp[h2]
  ·rw[if_neg hk,decide_eq_false (λ e=>hk e.symm)];exact ih
section
variable {P:Program} {w0 w:World} {b:Nat} {l:KV} {T K E:TypeId}
theorem FU (hK:P.underlying K=some .string) (em:Bool) (k:ByteArray) (w:World):(Instr.checkKey em 10000 K (.string k)).run P w= .ok () w:=by
 unfold Instr.checkKey;simp[Sem.run_bind,run_underlying hK]
theorem MkS.lookup (h:MkS w0 w b l) (hT:P.underlying T=some (.map K E)) (hK:P.underlying K=some .string) (hf:Dk l k 0=some (i,v)):
  (Instr.lookup T (.map (some b)) (.string k) true).run P w= .ok (.tuple #[v,.bool true]) w:=by
 obtain⟨⟨es,clock,hb,he⟩,_⟩:=h;unfold Instr.lookup Instr.findKey;simp[Sem.run_bind,run_underlying hT,run_underlying hK,getObj,Sem.run,hb,FU hK,Ed k _ l 0 he,hf]
theorem MkS.put (h:MkS w0 w b l) (hT:P.underlying T=some (.map K E)) (hK:P.underlying K=some .string) (hf:Dk l k 0=none) (v:Value):
  ∃w',(Instr.mapUpdate T (.map (some b)) (.string k) v).run P w= .ok () w'/\MkS w0 w' b (l++[(k,v)])/\Upd [b] w w':=by
 obtain⟨⟨es,clock,hb,he⟩,hx,hw⟩:=h;have hlt:=lH hb;refine⟨{w with heap:=w.heap.setIfInBounds b (.map (es.push {key:= .string k,val:=v,born:=clock}) (clock+1))},?_,⟨⟨_,_,Ci _ hlt,by simp[he]⟩,(Bl w b _).ext hx (λ q hq=>by simp at hq;subst hq;exact hw),hw⟩,Bl w b _⟩;unfold Instr.mapUpdate Instr.findKey;simp[Sem.run_bind,run_underlying hT,run_underlying hK,getObj,setObj,Sem.run,hb,FU hK,Ed k _ l 0 he,hf]
variable {ops:Array Oper} {rest:List Oper} {o:Oper} {a:Act} {Q:Exit->Act->World->Prop}
theorem Ie (hgd:o.guard=none) {t:TypeId} {m x v:Operand} (ho:o.op= .insert t m x v) (hT:P.underlying t=some (.map K E)) (hK:P.underlying K=some .string) {vv:Value} (hm:a.eval m= .map (some b)) (hx:a.eval x= .string k) (hv:a.eval v=vv) (h:MkS w0 w b l) (hf:Dk l k 0=none) (hk:∀w',MkS w0 w' b (l++[(k,vv)])->wpList P ops Q rest (a.put o.dst undef) w'):wpList P ops Q (o::rest) a w:=by
 refine wpList_plain hgd λ K' hK'=> ?_
 obtain⟨w',h1,h2,-⟩:=h.put hT hK hf vv;unfold Oper.wp execOp;simp only[ho,Sem.run_bind,Sem.run_pure,Result.andThen_ok,hm,hx,hv,h1];exact hK' _ _ (hk w' h2)
end
def rqL:List (ByteArray×ByteArray×Nat):=[(⟨#[118,101,114,115,105,111,110]⟩,⟨#[78,84]⟩,189),(⟨#[97,116,116,97,99,104]⟩,⟨#[78,84]⟩,190),(⟨#[119,97,108,107]⟩,⟨#[78,78,87]⟩,191),(⟨#[111,112,101,110]⟩,⟨#[78,78]⟩,192),(⟨#[99,114,101,97,116,101]⟩,⟨#[78,84,78,78]⟩,193),(⟨#[114,101,97,100]⟩,⟨#[78,78,78]⟩,194),(⟨#[119,114,105,116,101]⟩,⟨#[78,78,84]⟩,195),(⟨#[99,108,117,110,107]⟩,⟨#[78]⟩,196),(⟨#[114,101,109,111,118,101]⟩,⟨#[78]⟩,197),(⟨#[115,116,97,116]⟩,⟨#[78]⟩,198),(⟨#[119,115,116,97,116]⟩,⟨#[78,78,84]⟩,199),(⟨#[102,108,117,115,104]⟩,⟨#[78]⟩,200)]
def FA:Array Value:=(rqL.flatMap λ p=>[.string p.1,.string p.2.1,fnv p.2.2]).toArray
theorem Hz (w:World):Calls prog 125 #[] w λ r w'=>r= .returned (sS w.heap.size 0 12 12)/\w'=w.alloc (.cells FA 247):=by
 go_in;go_wp2_with fail;go_ret;exact⟨rfl,rfl⟩
def dd (f:ByteArray) (g:Value):Value:= .agg #[.string f,g]
def dd0:KV:=[(⟨#[115,101,114,118,101]⟩,dd ⟨#[78]⟩ (fnv 118)),(⟨#[97,108,108]⟩,dd ⟨#[]⟩ (fnv 119)),(⟨#[111,117,116]⟩,dd ⟨#[]⟩ (fnv 120)),(⟨#[102,111,114,103,101]⟩,dd ⟨#[78,78,84]⟩ (fnv 121)),(⟨#[106,117,110,107]⟩,dd ⟨#[84]⟩ (fnv 122)),(⟨#[115,116,97,116,101]⟩,dd ⟨#[]⟩ (fnv 123)),(⟨#[110,101,119]⟩,dd ⟨#[78,78,78]⟩ (fnv 124))]
def dcl (b:Nat):Value:= .func (.func 126) #[] #[pP b 0]
def Bm (i:Nat):Array Value:=let p:=rqL.getD i (⟨#[]⟩,⟨#[]⟩,0);#[.string p.1,.string p.2.1,fnv p.2.2]
theorem LU:(prog.info? 247).map (·.size)=some 3:=by kernel_rfl
theorem Ng {k:Nat} (h:w.heap[g]?=oC FA 247) (hk:k<12):w.rangeAt g (k*3) (Bm k).toList:=by
 intro j v hv;rw[cO h];have hj:j<3:=by have:=(List.getElem?_eq_some_iff.1 hv).1;simpa [Bm] using this
 have h2:k=0\/k=1\/k=2\/k=3\/k=4\/k=5\/k=6\/k=7\/k=8\/k=9\/k=10\/k=11:=by omega
 have h3:j=0\/j=1\/j=2:=by omega
 rcases h2 with rfl|rfl|rfl|rfl|rfl|rfl|rfl|rfl|rfl|rfl|rfl|rfl<;>rcases h3 with rfl|rfl|rfl<;>exact hv
def ddN (B:Nat->Nat) (k:Nat):KV:=dd0++(List.range k).map λ i=>((rqL.getD i (⟨#[]⟩,⟨#[]⟩,0)).1,dd (rqL.getD i (⟨#[]⟩,⟨#[]⟩,0)).2.1 (dcl (B i)))
theorem PR (B:Nat->Nat) (k g:Nat):ddN (λ i=>if i=k then g else B i) (k+1)=ddN B k++[((rqL.getD k (⟨#[]⟩,⟨#[]⟩,0)).1,dd (rqL.getD k (⟨#[]⟩,⟨#[]⟩,0)).2.1 (dcl g))]:=by
 unfold ddN;rw[List.range_succ,List.map_append,<-Ui];simp only[List.map_cons,List.map_nil,if_true]
 congr 2
 refine List.map_congr_left λ i hi=> ?_
 rw[if_neg (by have:=List.mem_range.1 hi;omega)]
theorem Rl (B:Nat->Nat) {k:Nat} (hk:k<12):Dk (ddN B k) (rqL.getD k (⟨#[]⟩,⟨#[]⟩,0)).1 0=none:=by
 have h2:k=0\/k=1\/k=2\/k=3\/k=4\/k=5\/k=6\/k=7\/k=8\/k=9\/k=10\/k=11:=by omega
 rcases h2 with rfl|rfl|rfl|rfl|rfl|rfl|rfl|rfl|rfl|rfl|rfl|rfl<;>rfl
theorem Gu (w:World):Calls prog 75 #[] w λ r w'=>∃m B,r= .returned (.map (some m))/\MkS w w' m (ddN B 12)/\∀i,i<12->w'.heap[B i]?=oC (Bm i) 247:=by
 have hmm:= @run_makeMap prog;have h0:=MkS.start w;go_in;go_wp2_with (refine Ie rfl rfl underlying185 underlying9 rfl rfl rfl (by assumption) (by rfl) ?_;(try clear hM);intro w' hM);have HM:=hid (show MkS w w' w.heap.size dd0 from hM);have hwl:w.heap.size<w'.heap.size:=HM.o.lt;clear hM;refine(Hz _).mono ?_;rintro r w2 ⟨rfl,hw2⟩;clear h0;have HR:=hid (show w2.heap[w'.heap.size]?=oC FA 247 from by rw[hw2];exact Ub _ _);have HM2:=hid (HM.o.more (show Ext _ w2 from by rw[hw2];exact(Ext.refl _).alloc _));clear hw2 HM;go_wp2_with fail;go_loopw [15] (λ v15 wr=>∃(k:Nat) (B:Nat->Nat),k<=12/\v15= iI k/\MkS w wr w.heap.size (ddN B k)/\(∀i,i<k->wr.heap[B i]?=oC (Bm i) 247)/\wr.heap[w'.heap.size]?=oC FA 247) (λ v15 _=>12-(intOf v15).toNat)
 case atStart=>exact⟨0,λ _=>0,by omega,rfl,HM2.o,λ i hi=>by omega,HR.o⟩
 case round=>
  obtain⟨k,B,hk,rfl,hM,hB,hR⟩:=hrel;by_cases hlt:k<12
  ·have d3:decide ((k:Int)<12)=true:=by simp;omega
   have b0:(0:Int)<=(k:Int):=by omega
   have b1:(k:Int)<12:=by omega
   have HRg:=hid (Ng hR hlt);have HB:=hid hB;have HR':=hid hR;have HM:=hid hM;clear hB hR hM;have hcl:(Bm k).toList.toArray=Bm k:=Array.toArray_toList;go_upto_region 4 with fail;refine wp_region_lit ?_;refine wpList_runTo rfl _ rfl (pP w'.heap.size (k*3)) wr (by go_simp) ?_;refine wpList_load_mid rfl 247 (.tmp 17) rfl w'.heap.size (k*3) rfl (Bm k).toList _ HRg.o underlying247 rfl LU ?_;rw[hcl];refine wpList_runTo rfl _ rfl (pP wr.heap.size 0) (wr.alloc (.cells #[eE,eE,.nilFunc] 247)) (by go_simp) ?_;refine AZ rfl rfl _ _ _ rfl (Bm k) rfl rfl LU rfl (by simp[Bm,fnv,Value.oneCell']) ?_;intro w3 hX E3;refine wpList_nil ?_;obtain⟨wd,hwd⟩:∃p,p=rqL.getD k (⟨#[]⟩,⟨#[]⟩,0):=⟨_,rfl⟩;have hc:=hX;unfold Bm at hc;rw[<-hwd] at hc;dsimp only at hc;have c0:=cO hc 0;have c1:=cO hc 1;obtain⟨w4,q1,q2,q3⟩:=(HM.o.more E3).put (T:=185) underlying185 underlying9 (k:=wd.1) (by rw[hwd];exact Rl B hlt) (dd wd.2.1 (dcl wr.heap.size));have HQ:=hid q1;unfold dd dcl at HQ;have HM4:=hid q2;have HU4:=hid q3;have hml:w.heap.size<wr.heap.size:=HM.o.lt;have HBw:=hid (show∀i,i<k->B i≠w.heap.size from λ i hi e=>by obtain⟨⟨es,c,h1,-⟩,-⟩:=HM.o;have h2:=HB.o i hi;rw[e,h1] at h2;cases h2);have HWd:=hid hwd;have HX:=hid hX;have HE3:=hid E3;clear q1 q2 q3 hc hcl hwd hX E3 HM;go_wp2_with (refine CR rfl _ _ _ _ rfl _ _ _ rfl rfl rfl HQ.o ?_);go_roundw
   case rel=>exact⟨k+1,λ i=>if i=k then wr.heap.size else B i,by omega,by go_num,by rw[PR,<-HWd.o];exact HM4.o,λ i hi=>by
    by_cases e:i=k
    ·subst e;dsimp only;rw[if_pos rfl];exact HU4.o.heap HX.o (by simp;omega)
    ·dsimp only;rw[if_neg e];exact HU4.o.heap (HE3.o.heap (HB.o i (by omega))) (by simp;exact HBw.o i (by omega)),HU4.o.heap (HE3.o.heap HR'.o) (by simp;omega)⟩
   case measure=>simp[intOf];omega
  ·have d3:decide ((k:Int)<12)=false:=by simp;omega
   obtain rfl:k=12:=by omega
   have HM:=hid hM;have HB:=hid hB;clear hM hB;go_wp2_with fail;go_ret;exact⟨_,B,rfl,HM.o,HB.o⟩
inductive WK where
 |n (x:Int)
 |t (s:ByteArray)
def WK.num:WK->Option Int
 | .n x=>some x
 | .t _=>none
def WK.txt:WK->Option ByteArray
 | .n _=>none
 | .t s=>some s
def ksN (ks:List WK):List Int:=ks.filterMap WK.num
def ksT (ks:List WK):List ByteArray:=ks.filterMap WK.txt
structure Ku (form:ByteArray) (ws:List ByteArray) (ks:List WK):Prop where
 len:form.size=ws.length
 klen:ks.length=ws.length
 few:ws.length<=10
 suff:Lib.hasSuffix form.data.toList [87]=false
 each:∀i (h:i<ws.length) (h2:i<form.size) (h3:i<ks.length),(∃x,ks[i]= .n x/\form[i].toNat=78/\GE ws[i] x)\/∃s,ks[i]= .t s/\form[i].toNat≠78/\Jg ws[i] s
theorem AA.nblock {b':Nat} {e e':TypeId} {v':Value} {xs xs':List Value} (h:AA w b e v xs) (h':AA w b' e' v' xs') (hne:e≠e'):∀g,v.ownBlock=some g->v'.ownBlock≠some g:=by
 intro g hg hg';rcases h'.form with⟨rfl,-⟩|⟨g',cp,cur,rfl,h1,h2,h3,h4,h5⟩
 ·simp[Value.ownBlock] at hg'
 ·obtain rfl:g'=g:=by simpa [Value.ownBlock] using hg'
  exact h.otype h4 hne _ hg rfl
theorem JG {ks:List WK} (h:i<ks.length) {x:Int} (e:ks[i]= .n x):ksN (ks.take (i+1))=ksN (ks.take i)++[x]/\ksT (ks.take (i+1))=ksT (ks.take i):=by
 rw[List.take_add_one,Ud h,e];simp[ksN,ksT,List.filterMap_append,WK.num,WK.txt]
theorem JF {ks:List WK} (h:i<ks.length) {x:ByteArray} (e:ks[i]= .t x):ksT (ks.take (i+1))=ksT (ks.take i)++[x]/\ksN (ks.take (i+1))=ksN (ks.take i):=by
 rw[List.take_add_one,Ud h,e];simp[ksN,ksT,List.filterMap_append,WK.num,WK.txt]
theorem Tk (ks:List WK) (i:Nat):(ksN (ks.take i)).length<=i/\(ksT (ks.take i)).length<=i:=
 ⟨Nat.le_trans (List.length_filterMap_le _ _) (by rw[Ul];omega),Nat.le_trans (List.length_filterMap_le _ _) (by rw[Ul];omega)⟩
theorem SlS.at_ (h:SlS w v ns):∃a c,v= .slice a ns.length c/\ns.length<=c/\c<=maxLen/\∀i (hi:i<ns.length),∃g o,a=some ⟨g,o,none⟩/\w.cell? (dD g (o+i))=some (.string ns[i]):=by
 obtain⟨a,c,rfl,h2,h3,h4,h5⟩:=h;refine⟨a,c,rfl,h3,h4,λ i hi=> ?_⟩;rcases h5 with rfl|⟨g,o,rfl,h6⟩
 ·simp at hi
 ·exact⟨g,o,rfl,h6 i hi⟩
theorem lscan {form:ByteArray} {ws:List ByteArray} {ks:List WK} (h:Ku form ws ks) (hv:SlS w v ws):
  Calls prog 76 #[.string form,v] w λ r w'=>∃vn vt,r= .returned (.agg #[vn,vt])/\AA w' w.heap.size 3 vn (nv (ksN ks))/\AA w' w.heap.size 9 vt (sv (ksT ks))/\Ext w w':=by
 obtain⟨la,lc,rfl,hlc,hlm,hcl⟩:=hv.at_;unfold maxLen at hlm;obtain⟨n,hn⟩:∃n,n=ws.length:=⟨_,rfl⟩;have hfs:=h.len;rw[<-hn] at hlc hfs|-
 have hn10:n<=10:=by have:=h.few;omega
 have HN:=hid hn;have HSf:=hid (λ W=>QO form ⟨#[87]⟩ W (by omega) h.suff);have HK:=hid h.klen;have HE:=hid h.each;have HC:=hid hcl;have d1:decide ((n:Int)<(n:Int))=false:=by simp
 clear h hv hcl hn;go_in;go_wp2_with (go_at_call 128;refine(HSf.o _).mono ?_;rintro r w1 ⟨rfl,rfl⟩);obtain⟨W0,hW0⟩:∃W,W=((w.alloc (.cells #[nN,nN] 188)).alloc (.cells #[nN,nN] 188)):=⟨_,rfl⟩;rw[<-hW0];obtain⟨hA0,hB0,X0⟩:=AH w (.cells #[nN,nN] 188) (.cells #[nN,nN] 188);rw[<-hW0] at hA0 hB0 X0;have hz0:W0.heap.size=w.heap.size+2:=by rw[hW0];simp
 have HA:=hid hA0;have HB:=hid hB0;have HX0:=hid X0;clear hW0 hA0 hB0 X0 HSf;go_loopw [33] (λ v33 wr=>∃(i:Nat) (vn vt:Value),i<=n/\v33= iI i/\wr.heap[w.heap.size+1]?=oC #[vn,vt] 188/\AA wr W0.heap.size 3 vn (nv (ksN (ks.take i)))/\AA wr W0.heap.size 9 vt (sv (ksT (ks.take i)))/\Upd [w.heap.size+1] W0 wr) (λ v33 _=>n-(intOf v33).toNat)
 case atStart=>exact⟨0,_,_,by omega,rfl,HB.o,AA.nil _ _ _,AA.nil _ _ _,Upd.refl _ _⟩
 case round=>
  obtain⟨i,vn,vt,hi,rfl,hB,hOn,hOt,hU⟩:=hrel;have hzr:=hU.size;obtain⟨na,nc,rfl⟩:=hOn.sliceN;obtain⟨ta,tc,rfl⟩:=hOt.sliceN;obtain⟨nl,hnl⟩:∃m,m=(nv (ksN (ks.take i))).length:=⟨_,rfl⟩;obtain⟨tl,htl⟩:∃m,m=(sv (ksT (ks.take i))).length:=⟨_,rfl⟩;rw[<-hnl] at hOn hB;rw[<-htl] at hOt hB;have hkl:=Tk ks i;have HOn:=hid hOn;have HOt:=hid hOt;have HBr:=hid hB;have HU:=hid hU;have x0:=cO hB 0;have x1:=cO hB 1;have hbl:=lH hB;have hA:=HU.o.heap HA.o (by simp);have HAr:=hid hA;clear hOn hOt hB hU hnl htl hA;by_cases hlt:i<n
  ·have hwl:i<ws.length:=by have:=HN.o;omega
   have hkl2:i<ks.length:=by have:=HK.o;omega
   have hfl:i<form.size:=by omega
   obtain⟨g,o,rfl,hc⟩:=HC.o i hwl;have hc:=HU.o.cell (HX0.o.cell hc) (by have:=Ug _ _ hc;simp at this|-;omega);have d2:decide ((i:Int)<(n:Int))=true:=by simp;omega
   have i0:(0:Int)<=(i:Int):=by omega
   have i1:(i:Int)<(n:Int):=by omega
   have e1:IntKind.i64.wrap ((i:Int)+1)=(i:Int)+1:=Uh _ (by omega);obtain⟨wd,hwd⟩:∃x,x=ws[i]:=⟨_,rfl⟩;rw[<-hwd] at hc;rcases HE.o i hwl hfl hkl2 with⟨x,ek,ef,ok⟩|⟨x,ek,ef,ok⟩
   ·rw[<-hwd] at ok;clear hwd;have HNu:=hid (λ W=>Q9 ok W);obtain⟨v',w',q1,q2,q3,-⟩:=(HOn.o.ext ((Ext.refl wr).drew)).append1 (P:=prog) (t:=23) (ty:=23) (iI 0) 8 underlying23 IL rfl (iI x) rfl (by rw[Bp];unfold maxLen;omega) (by rw[Bp];omega) (show _<=wr.heap.size from hzr);obtain⟨va',vc',rfl⟩:=q2.sliceN;obtain⟨ml,hml⟩:∃m,m=(nv (ksN (ks.take i))++[Value.int .i64 x]).length:=⟨_,rfl⟩;rw[<-hml] at q1 q2;clear hml;have hBn:=Br q3 (((Ext.refl wr).drew.alloc _).heap HBr.o) (λ e=>HOn.o.otype HBr.o (by decide) _ e.symm rfl);have f7:=fO hBn 0;have x7:=cO hBn 0;have HBn:=hid hBn;have HQ:=hid q1;have HO2:=hid (show AA w' W0.heap.size 3 (.slice va' ml vc') (nv (ksN (ks.take (i+1)))) from by rw[(JG hkl2 ek).1];simpa [nv] using q2);have HU1:=(((Ext.refl wr).drew.alloc (.cells #[iI x] 3)).upd _).trans (BS q3);have HO3:=hid (show AA w' W0.heap.size 9 (.slice ta tl tc) (sv (ksT (ks.take (i+1)))) from by rw[(JG hkl2 ek).2];exact HOt.o.upd HU1 (λ g hg hm=>HOn.o.nblock HOt.o (by decide) g (by simpa using hm) hg));have HU2:=hid (HU.o.trans2 HU1 (λ t ht=>by simp at ht;have:=(HOn.o.lt ht).1;omega));have hC:=(Upd.refl [w.heap.size+1] w').setCell (dD (w.heap.size+1) 0) (.slice va' ml vc') (.inl (by simp));have HS:=hid (And.intro (show(w'.setCell (dD (w.heap.size+1) 0) (.slice va' ml vc')).heap[w.heap.size+1]?=oC #[.slice va' ml vc',.slice ta tl tc] 188 from jP (i:=0) _ HBn.o) (And.intro (HO2.o.upd hC (λ g hg hm=>HO2.o.otype HBn.o (by decide) g hg (by simpa using hm))) (And.intro (HO3.o.upd hC (λ g hg hm=>HO3.o.otype HBn.o (by decide) g hg (by simpa using hm))) (HU2.o.trans hC))))
    clear q1 q2 q3 hBn HU1 ok ek hC;go_wp2_with fail;go_region_law (first|(refine AU rfl (.tmp 48) (.tmp 51) _ rfl _ _ _ rfl rfl HQ.o ?_)|(go_simp;go_at_call 129;refine(HNu.o _).mono ?_;rintro r w1 ⟨rfl,rfl⟩))
    all_goals
     go_wp2_with fail;exact⟨⟨i+1,.slice va' ml vc',.slice ta tl tc,by omega,congrArg (Value.int .i64) (by omega),HS.o.1,HS.o.2.1,HS.o.2.2.1,HS.o.2.2.2⟩,by simp only[intOf];omega⟩
   ·rw[<-hwd] at ok;clear hwd;have HTx:=hid (show Calls prog 130 #[.string wd] wr.drew λ r w2=>r= .returned (.string x)/\∃ml va' vc' w',(Builtin.append_ #[41,41] 41 #[.slice ta tl tc,sS w2.heap.size 0 1 1]).run prog (w2.alloc (.cells #[.string x] 9))= .ok (.slice va' ml vc') w'/\w'.heap[w.heap.size+1]?=oC #[.slice na nl nc,.slice ta tl tc] 188/\AA w' W0.heap.size 9 (.slice va' ml vc') (sv (ksT (ks.take (i+1))))/\AA w' W0.heap.size 3 (.slice na nl nc) (nv (ksN (ks.take (i+1))))/\Upd [w.heap.size+1] W0 w'/\Ext wr w2 from
     (Tj ok wr.drew).mono (by
      rintro r w2 ⟨rfl,X2⟩;have X2:Ext wr w2:=(dE wr).trans X2;have hOt:=HOt.o.ext X2;have hOn:=HOn.o.ext X2;obtain⟨v',w',q1,q2,q3,-⟩:=hOt.append1 (P:=prog) (t:=41) (ty:=41) (eE) 16 underlying41 IK rfl (.string x) rfl (by rw[Ct];unfold maxLen;omega) (by rw[Ct];omega) (Nat.le_trans hzr X2.size);obtain⟨va',vc',rfl⟩:=q2.sliceN;have HU1:=(((Ext.refl w2).alloc (.cells #[.string x] 9)).upd _).trans (BS q3);exact⟨rfl,_,_,_,_,q1,Br q3 (((Ext.refl w2).alloc _).heap (X2.heap HBr.o)) (λ e=>hOt.otype (X2.heap HBr.o) (by decide) _ e.symm rfl),by rw[(JF hkl2 ek).1];simpa [sv] using q2,by rw[(JF hkl2 ek).2];exact hOn.upd HU1 (λ g hg hm=>hOt.nblock hOn (by decide) g (by simpa using hm) hg),(HU.o.trans (X2.upd _)).trans2 HU1 (λ t ht=>by simp at ht;have:=(hOt.lt ht).1;omega),X2⟩))
    have g7:((form[i].toNat:Int)==78)=false:=by simp;omega
    clear ok ek;go_wp2_with fail;go_region_law (first|(refine AU rfl (.tmp 55) (.tmp 58) _ rfl _ _ _ rfl rfl (by assumption) ?_)|(go_simp;go_at_call 130;refine HTx.o.mono ?_;rintro r w2 ⟨rfl,ml,va',vc',w',q1,q2,q3,q4,q5,q6⟩;have y0:=cO (q6.heap HBr.o) 0;have y1:=cO (q6.heap HBr.o) 1;have y2:=cO q2 1;have y3:=fO q2 1;have y4:=lH q2;have y5:=lH (q6.heap HBr.o)))
    all_goals
     have hC:=(Upd.refl [w.heap.size+1] w').setCell (dD (w.heap.size+1) 1) (.slice va' ml vc') (.inl (by simp));have HS:=hid (And.intro (show(w'.setCell (dD (w.heap.size+1) 1) (.slice va' ml vc')).heap[w.heap.size+1]?=oC #[.slice na nl nc,.slice va' ml vc'] 188 from jP (i:=1) _ q2) (And.intro (q4.upd hC (λ g hg hm=>q4.otype q2 (by decide) g hg (by simpa using hm))) (And.intro (q3.upd hC (λ g hg hm=>q3.otype q2 (by decide) g hg (by simpa using hm))) (q5.trans hC))));clear q1 q2 q3 q4 q5 q6 hC y0 y1 y2 y3;go_wp2_with fail;exact⟨⟨i+1,.slice na nl nc,.slice va' ml vc',by omega,congrArg (Value.int .i64) (by omega),HS.o.1,HS.o.2.1,HS.o.2.2.1,HS.o.2.2.2⟩,by simp only[intOf];omega⟩
  ·have d2:decide ((i:Int)<(n:Int))=false:=by simp;omega
   obtain rfl:i=n:=by omega
   have ek:ks.take i=ks:=List.take_of_length_le (by have:=HK.o;have:=HN.o;omega);rw[ek] at HOn HOt;obtain⟨y0,y1,y2,y3⟩:=Al HAr.o;clear ek HE HC HK HA HB;go_wp2_with fail;have hC:=((Upd.refl [w.heap.size] wr).setCell (dD w.heap.size 0) (.slice na nl nc) (.inl (by simp))).setCell (dD w.heap.size 1) (.slice ta tl tc) (.inl (by simp));have hR:((wr.setCell (dD w.heap.size 0) (.slice na nl nc)).setCell (dD w.heap.size 1) (.slice ta tl tc)).heap[w.heap.size]?=oC #[.slice na nl nc,.slice ta tl tc] 188:=jP (i:=1) _ (show _=some (Obj.cells #[.slice na nl nc,nN] 188 (0,0)) from jP (i:=0) _ HAr.o);refine Ue (v:= .agg #[.slice na nl nc,.slice ta tl tc]) (Uj rfl _ _ w.heap.size 188 #[.slice na nl nc,.slice ta tl tc] (0,0) _ rfl hR underlying188 rfl (by kernel_rfl)) rfl ⟨_,_,rfl,(HOn.o.upd hC (λ g hg hm=>HOn.o.otype HAr.o (by decide) g hg (by simpa using hm))).low HX0.o.size,(HOt.o.upd hC (λ g hg hm=>HOt.o.otype HAr.o (by decide) g hg (by simpa using hm))).low HX0.o.size,hC.ext (HU.o.ext HX0.o (by simp)) (by simp)⟩
end Go.Proofs.YtdakioiagpkfhaaGreatDoor
