/- Q14 -/
import Derived.Test.YtdfccaonglmgpaaGreatDoorQ01
import Derived.Test.YtdfccaonglmgpaaGreatDoorQ13
import Derived.Test.YtdfccaonglmgpaaGreatDoorQ05
import Derived.Lib.Bytealg
import Derived.Lib.TrimByte
import Derived.Lib.ParseIntB
import Derived.KernelRfl
import Derived.Shelf.Strings.Builder1
import Derived.Shelf.Strings.Trim
import Derived.Shelf.Small.Utf8
import Derived.Shelf.Small.Strs
import Derived.Shelf.Strings.BuilderF
import Derived.Shelf.Strings.BuilderK
import Derived.Shelf.Strconv.ParseIntEmpty
import Derived.Shelf.LaysM
import Derived.Shelf.Strconv.Clone
import Derived.Shelf.Strconv.SyntaxError
import Derived.Shelf.LaysC
import Derived.Shelf.Strconv.ToError
import Derived.Shelf.Strconv.Lower
import Derived.Shelf.Strconv.ParseUint10
import Derived.Shelf.Strconv.ParseUint10Empty
import Derived.Shelf.Strconv.ParseUint10Any
import Derived.Shelf.Strconv.ParseInt10
import Derived.Shelf.Strconv.RangeError
import Derived.Shelf.Strconv.ToErrorRange
import Derived.Shelf.Strconv.ParseUintEmpty
import Derived.Shelf.Strconv.ParseUint10b64
import Derived.Shelf.Strconv.ParseUint10b32
import Derived.Shelf.Strconv.ParseUint10b16
import Derived.Shelf.Strconv.ParseUint10b8
import Derived.Shelf.Strconv.ParseUint10At
import Derived.Shelf.Strconv.ParseInt10At64
import Derived.Shelf.Strconv.ParseInt10At32
import Derived.Shelf.Strconv.ParseInt10At16
import Derived.Shelf.Strconv.ParseInt10At8
import Derived.Shelf.Strconv.ParseInt10All
import Derived.Shelf.Strconv.ParseIntPublic10
import Derived.Shelf.Strconv.ErrVarParseInt
import Derived.Ground.MpProg
import Derived.Shelf.Pu.ParseUintPublic10
import Derived.Shelf.Pu.ErrVarParseUint
import Derived.Shelf.Strings.Search1
import Derived.Shelf.Strings.Prefix
import Derived.Shelf.Strings.Runes
import Derived.Shelf.Strings.AsciiSet
import Derived.Shelf.Unicode.DecodeSlow
import Derived.Test.YtdfccaonglmgpaaGreatDoorProg
import Derived.Test.YtdfccaonglmgpaaGreatDoorQ06
import Derived.Lib.AtoiErrMem
open Go.Proofs.Tryz
set_option linter.all false
namespace Go.Proofs.YtdfccaonglmgpaaGreatDoor
open Go
def HR {p:UInt8→Prop}(h:∀n:_root_.Fin 256,p (UInt8.ofNat n.val))(b:UInt8):p b:=by
 have:=h ⟨b.toNat,b.toNat_lt⟩
 simpa using this
def ahD (b:UInt8):IntKind.u8.wrap ((BitVec.ofInt IntKind.u8.bits (b.toNat:Int)|||BitVec.ofInt IntKind.u8.bits 32).toNat:Int)=((b|||32).toNat:Int):=
 HR (p:=fun b=>IntKind.u8.wrap ((BitVec.ofInt IntKind.u8.bits (b.toNat:Int)|||BitVec.ofInt IntKind.u8.bits 32).toNat:Int)=((b|||32).toNat:Int)) (by decide+kernel) b
def abX (b:UInt8):decide ((97:Int)≤((b|||32).toNat:Int)∧((b|||32).toNat:Int)≤122)=rY b:=
 HR (p:=fun b=>decide ((97:Int)≤((b|||32).toNat:Int)∧((b|||32).toNat:Int)≤122)=rY b) (by decide+kernel) b
def Ty:List UInt8:=[33,35,36,37,38,42,43,46,47,60,61,62,63,64,92,94,124,45,58]
def anc (b:UInt8):decide ((0:Int)≤Lib.indexByte Ty b)=j1 b:=
 HR (p:=fun b=>decide ((0:Int)≤Lib.indexByte Ty b)=j1 b) (by decide+kernel) b
def apT (b:UInt8):decide ((0:Int)≤Lib.indexByte pH b)=pH.contains b:=
 HR (p:=fun b=>decide ((0:Int)≤Lib.indexByte pH b)=pH.contains b) (by decide+kernel) b
def Uo {P:Program}{o:Oper}{a:Act}{w:World}{x y:Operand}{t t':TypeId}{b:UInt8}(ho:o.op=.binOp .or t x y t')(hx:a.eval x=.int .u8 b.toNat)(hy:a.eval y=.int .u8 32):QV P o a w (.int .u8 ((b|||32).toNat:Int)):=
 qf ho hx hy (by
   show Op.intBits .or .u8 _ _=_
   unfold Op.intBits
   show pure (Value.int .u8 (IntKind.u8.wrap _))=_
   rw[ahD])
def gI (s:List UInt8)(i:Nat):(s.drop i).length=s.length - i:=aw
def Oq (p:UInt8→Bool)(l:List UInt8):(l.takeWhile p).length≤l.length:=(List.takeWhile_sublist p).length_le
def Xw {p:UInt8→Bool}{l:List UInt8}{k:Nat}(hk:k≤(l.takeWhile p).length)(h:¬((k:Int)<l.length∧p (l.getD k 0)=true)):(l.takeWhile p).length=k:=by
 refine Kp p l k hk ?_
 by_cases h1:k<l.length
 ·right
  cases hp:p (l.getD k 0) with
  |false=>rfl
  |true=>exact absurd ⟨V,hp⟩ h
 ·left;omega
def zg (s:List UInt8)(i n:Nat):(s.drop i).take n=cQ s i n:=by
 unfold cQ;rw[List.drop_take,Nat.add_sub_cancel_left]
def Gm (s:List UInt8)(i:Nat):∀(f:Nat) (d:Int) (j:Nat),gm (s.drop i) 0 f d j=gm s i f d (i+j)
 |0,_,_=>rfl
 |f+1,d,j=>by
  have e1:gt (s.drop i) j=gt s (i+j):=pF s i j;have e2:gt (s.drop i) (j+1)=gt s (i+j+1):=pF s i (j+1);unfold gm;rw[gI,e1,e2,Gm s i f (d+1) (j+2),Gm s i f (d - 1) (j+2),Gm s i f d (j+1)];have e4:j+2 - 0=i+j+2 - i:=V
  by_cases h:i+j+1<s.length
  ·rw[if_pos (show j+1<s.length - i by omega),if_pos h,e4];rfl
  ·rw[if_neg (show ¬j+1<s.length - i by omega),if_neg h]
def aot (s:List UInt8)(i:Nat):gm (s.drop i) 0 (s.length+1) 0 0=nq s i:=Gm s i _ _ _
def mB:List UInt8→Nat→Nat
 | [],n=>n
 |c::r,n=>mB r (min (10 * n+(c.toNat - 48)) 1000)
def Hx (s:List UInt8):∀(f n i:Nat),s.length≤i+f→iz s f n i=(mB ((s.drop i).takeWhile cF) n,i+((s.drop i).takeWhile cF).length)
 |0,n,i,h=>by
  rw[List.drop_of_length_le V]
  rfl
 |f+1,n,i,h=>by
  unfold iz
  by_cases hi:i<s.length
  ·have e:s.drop i=gt s i::s.drop (i+1):=by unfold gt;exact OC hi
   by_cases hd:cF (gt s i)=true
   ·rw[if_pos ⟨hi,hd⟩,Hx s f _ (i+1) V,e,List.takeWhile_cons,if_pos hd];refine Prod.ext rfl ?_;simp only[bg];omega
   ·rw[if_neg (fun h=>hd h.2),e,List.takeWhile_cons,if_neg hd]
    rfl
  ·rw[if_neg (fun h=>hi h.1),List.drop_of_length_le V]
   rfl
def Z6 (s:List UInt8)(i j n:Nat)(hj:i+j≤s.length):iz (s.drop i) (s.drop i).length n j=((iz s s.length n (i+j)).1,(iz s s.length n (i+j)).2 - i):=by
 rw[Hx _ _ _ _ V,Hx _ _ _ _ V,List.drop_drop];refine Prod.ext rfl ?_;simp only;omega
def WW:∀(l:List UInt8) (n:Nat),255<n→n≤1000→255<mB l n
 | [],_,h,_=>h
 |c::r,n,h,h2=>WW r _ V V
def Ts:∀(l:List UInt8) (n:Nat),n≤255→(∀c∈l,cF c=true)→(Lib.parseUintM 255 n l=.ok (mB l n)∧mB l n≤255)∨(Lib.parseUintM 255 n l=.range∧255<mB l n)
 | [],n,h,_=>.inl ⟨rfl,h⟩
 |c::r,n,h,hd=>by
  have hc:=AR (hd c jL);unfold Lib.parseUintM mB;rw[if_pos V,if_neg V]
  by_cases hr:255<n * 10+(c.toNat - 48)
  ·rw[if_pos hr];exact .inr ⟨rfl,WW r _ V V⟩
  ·rw[if_neg hr,show min (10 * n+(c.toNat - 48)) 1000=n * 10+(c.toNat - 48) by omega];exact Ts r _ V (fun c h=>hd c (lz _ h))
def QU {l:List UInt8}{p:UInt8→Bool}:∀c∈l.takeWhile p,p c=true:=fun c hc=>by
 have:=List.all_takeWhile (l:=l) (p:=p);exact List.all_eq_true.1 this c hc
def alL {l:List UInt8}(h0:l≠[])(hd:∀c∈l,cF c=true):(Lib.parseUintB 8 l=.ok (mB l 0)∧mB l 0≤255)∨(Lib.parseUintB 8 l=.range∧255<mB l 0):=by
 unfold Lib.parseUintB;rw[if_neg h0];exact Ts l 0 V hd
def Tn:∀(l:List UInt8) (n:Nat),n≤9223372036854775807→(∀c∈l,cF c=true)→
  (∃v,iU l n=some v∧Lib.parseUintM 18446744073709551615 n l=.ok v∧v≤9223372036854775807)∨(iU l n=none∧(Lib.parseUintM 18446744073709551615 n l=.range∨∃v,Lib.parseUintM 18446744073709551615 n l=.ok v∧9223372036854775807<v))
 | [],n,h,_=>.inl ⟨n,rfl,rfl,h⟩
 |c::r,n,h,hd=>by
  have hc:=AR (hd c jL);have hr:=fun c h=>hd c (lz _ h);have big:∀(l:List UInt8) (n:Nat),9223372036854775807<n→(∀c∈l,cF c=true)→(Lib.parseUintM 18446744073709551615 n l=.range∨∃v,Lib.parseUintM 18446744073709551615 n l=.ok v∧9223372036854775807<v):=by
   intro l
   induction l with
   |nil=>intro n hn _;exact .inr ⟨n,rfl,hn⟩
   |cons c r ih=>
    intro n hn hd;have hc:=AR (hd c jL);unfold Lib.parseUintM;rw[if_pos V,if_pos V];exact .inl rfl
  have c0:48≤c.toNat∧c.toNat≤57:=V
  unfold iU Lib.parseUintM;rw[if_pos c0]
  by_cases h1:(9223372036854775807 - (c.toNat - 48)) / 10<n
  ·rw[if_pos h1];refine .inr ⟨rfl,?_⟩
   split
   ·exact .inl rfl
   ·split
    ·exact .inl rfl
    ·exact big r _ V hr
  ·rw[if_neg h1,if_neg V,if_neg V,show 10 * n+(c.toNat - 48)=n * 10+(c.toNat - 48) by omega];exact Tn r _ V hr
def aab {l:List UInt8}(h0:l≠[])(hd:∀c∈l,cF c=true):(∃v:Nat,iU l 0=some v∧Lib.parseIntB 64 l=.ok (v:Int)∧v≤9223372036854775807)∨(iU l 0=none∧Lib.parseIntB 64 l=.range):=by
 cases l with
 |nil=>exact absurd rfl h0
 |cons c r=>
  have hc:=AR (hd c jL);have e1:¬c.toNat=43:=V
  have e2:¬c.toNat=45:=V
  have e3:Lib.parseUintB 64 (c::r)=Lib.parseUintM 18446744073709551615 0 (c::r):=by
   unfold Lib.parseUintB;rw[if_neg aw]
  unfold Lib.parseIntB;simp only[e1,e2,or_self,if_false,e3,false_and,not_false_eq_true,true_and];rcases Tn (c::r) 0 V hd with ⟨v,h1,h2,h3⟩| ⟨h1,h2| ⟨v,h2,h3⟩⟩
  ·rw[h2];refine .inl ⟨v,h1,?_,h3⟩;simp only;rw[if_neg V]
  ·rw[h2];exact .inr ⟨h1,rfl⟩
  ·rw[h2];refine .inr ⟨h1,?_⟩;simp only;rw[if_pos V]
def arX (l:List UInt8):Lib.trimB l 45=[]↔l.all (fun c=>c=45)=true:=by
 unfold Lib.trimB Lib.trimLeftB Lib.trimRightB;have hdw:∀l:List UInt8,l.dropWhile (fun x=>x ==45)=[]↔∀c∈l,c=45:=by
  intro l
  induction l with
  |nil=>simp
  |cons c r ih=>
   rw[List.dropWhile_cons]
   by_cases hc:(c ==45)=true
   ·rw[if_pos hc,ih];simp only[beq_iff_eq] at hc;simp [hc]
   ·rw[if_neg hc];simp only[beq_iff_eq] at hc;simp [hc]
 rw[hdw,It];constructor
 ·intro h c hc;have h1:∀c∈(l.reverse.dropWhile fun x=>x ==45),c=45:=fun c hc=>h c (List.mem_reverse.2 hc);have h2:(l.reverse.dropWhile fun x=>x ==45)=[]:=by
   cases hl:l.reverse.dropWhile (fun x=>x ==45) with
   |nil=>rfl
   |cons x r=>
    have hx:=h1 x (by rw[hl];exact jL);have:=List.head?_dropWhile_not (fun x=>x ==(45:UInt8)) l.reverse;rw[hl] at this;simp [hx] at this
  exact decide_eq_true ((hdw _).1 h2 c (List.mem_reverse.2 hc))
 ·intro h c hc;have h1:=List.mem_reverse.1 hc;have h2:c∈l:=List.mem_reverse.1 ((List.dropWhile_sublist _).subset h1);exact j4 (h c h2)
end Go.Proofs.YtdfccaonglmgpaaGreatDoor
namespace Go.Proofs
open Go.Shelf
def Tryz.PH:Go.Shelf.Ren:=⟨fun|169=>212|n=>n,fun|70=>167|9=>9|0=>0|72=>169|37=>113|127=>187|3=>3|5=>5|n=>n,fun|n=>n⟩
def Tryz.afM:Go.Proofs.Lays.n169 prog Tryz.PH:={
  mixed:=by kernel_rfl
  f169:=func212.trans (congrArg some (by kernel_rfl))
  t0:=underlying0
  a0:=isAgg0
  z0:=sizeOf0
  v0:=zeroValue0
  t3:=underlying3
  a3:=isAgg3
  z3:=sizeOf3
  v3:=zeroValue3
  t9:=underlying9
  a9:=isAgg9
  z9:=sizeOf9
  v9:=zeroValue9
  t37:=underlying113
  a37:=isAgg113
  z37:=sizeOf113
  v37:=zeroValue113
  t70:=underlying167
  a70:=isAgg167
  z70:=sizeOf167
  v70:=zeroValue167
  t72:=underlying169
  a72:=isAgg169
  z72:=sizeOf169
  v72:=zeroValue169
  t127:=underlying187
  a127:=isAgg187
  z127:=sizeOf187
  v127:=zeroValue187}
def Tryz.abW:Builder.Extra prog Tryz.PH:={
  sizeBuilder:=by kernel_rfl
  liesBuilder:=by kernel_rfl
  t5:=underlying5
  a5:=isAgg5
  z5:=sizeOf5
  v5:=zeroValue5
  infoByte:=by kernel_rfl
  cellsByte:=by kernel_rfl
  sizeByte:=by kernel_rfl
  neB5:=by decide}
open Go.RowKit in
def Tryz.Builder_String_any (B b:Nat)(l:List UInt8)(w:World)(h:Lib.IsBuilder 169 5 B b (Lib.byteCells l) w)(hBw:B≤w.heap.size):
 Calls prog 212 #[.pointer (some ⟨b,0,none⟩)] w fun e w'=>e=.returned (.string ⟨l.toArray⟩)∧Below B w w':=Any.Builder_String_any Tryz.afM Tryz.abW B b l w h hBw
def Tryz.ad8:Go.Shelf.Ren:=⟨fun|160=>208|232=>225|231=>224|227=>226|234=>228|233=>227|236=>230|235=>229|228=>240|271=>243|151=>242|197=>241|120=>249|152=>248|260=>247|137=>188|119=>251|224=>252|225=>253|217=>211|266=>231|n=>n,fun|9=>9|4=>4|3=>3|5=>5|117=>183|116=>182|0=>0|124=>186|21=>21|105=>194|46=>176|119=>205|139=>208|138=>207|n=>n,fun|3=>3|4=>4|n=>n⟩
def Tryz.af1:Go.Proofs.Lays.n160 prog Tryz.ad8:={
  mixed:=by kernel_rfl
  f119:=func251.trans (congrArg some (by kernel_rfl))
  f120:=func249.trans (congrArg some (by kernel_rfl))
  f137:=func188.trans (congrArg some (by kernel_rfl))
  f151:=func242.trans (congrArg some (by kernel_rfl))
  f152:=func248.trans (congrArg some (by kernel_rfl))
  f160:=func208.trans (congrArg some (by kernel_rfl))
  f197:=func241.trans (congrArg some (by kernel_rfl))
  f217:=func211.trans (congrArg some (by kernel_rfl))
  f224:=func252.trans (congrArg some (by kernel_rfl))
  f225:=func253.trans (congrArg some (by kernel_rfl))
  f227:=func226.trans (congrArg some (by kernel_rfl))
  f228:=func240.trans (congrArg some (by kernel_rfl))
  f231:=func224.trans (congrArg some (by kernel_rfl))
  f232:=func225.trans (congrArg some (by kernel_rfl))
  f233:=func227.trans (congrArg some (by kernel_rfl))
  f234:=func228.trans (congrArg some (by kernel_rfl))
  f235:=func229.trans (congrArg some (by kernel_rfl))
  f236:=func230.trans (congrArg some (by kernel_rfl))
  f260:=func247.trans (congrArg some (by kernel_rfl))
  f266:=func231.trans (congrArg some (by kernel_rfl))
  f271:=func243.trans (congrArg some (by kernel_rfl))
  t0:=underlying0
  a0:=isAgg0
  z0:=sizeOf0
  v0:=zeroValue0
  t3:=underlying3
  a3:=isAgg3
  z3:=sizeOf3
  v3:=zeroValue3
  t4:=underlying4
  a4:=isAgg4
  z4:=sizeOf4
  v4:=zeroValue4
  t5:=underlying5
  a5:=isAgg5
  z5:=sizeOf5
  v5:=zeroValue5
  t9:=underlying9
  a9:=isAgg9
  z9:=sizeOf9
  v9:=zeroValue9
  t21:=underlying21
  a21:=isAgg21
  z21:=sizeOf21
  v21:=zeroValue21
  t46:=underlying176
  a46:=isAgg176
  z46:=sizeOf176
  v46:=zeroValue176
  t105:=underlying194
  a105:=isAgg194
  z105:=sizeOf194
  v105:=zeroValue194
  t116:=underlying182
  a116:=isAgg182
  z116:=sizeOf182
  t117:=underlying183
  a117:=isAgg183
  z117:=sizeOf183
  v117:=zeroValue183
  t119:=underlying205
  a119:=isAgg205
  z119:=sizeOf205
  t124:=underlying186
  a124:=isAgg186
  z124:=sizeOf186
  v124:=zeroValue186
  t138:=underlying207
  a138:=isAgg207
  z138:=sizeOf207
  v138:=zeroValue207
  t139:=underlying208
  a139:=isAgg208
  z139:=sizeOf208
  v139:=zeroValue208
  g3:=by kernel_rfl
  g4:=by kernel_rfl}
open Go.RowKit in
def Tryz.strings_Trim_one (s:ByteArray)(c:UInt8)(hc:c.toNat<128)(w:World)(hs:s.size≤9223372036854775807):
 Calls prog 208 #[.string s,.string ⟨#[c]⟩] w fun e w'=>e=.returned (.string ⟨(Lib.trimB s.data.toList c).toArray⟩)∧(w'=w∨w'=w.drew):=Any.strings_Trim_one Tryz.af1 s c hc w hs
def Tryz.afV:Go.Shelf.Ren:=⟨fun|137=>188|217=>211|266=>231|n=>n,fun|9=>9|5=>5|3=>3|n=>n,fun|n=>n⟩
def Tryz.ahM:Go.Proofs.Lays.n137 prog Tryz.afV:={
  mixed:=by kernel_rfl
  f137:=func188.trans (congrArg some (by kernel_rfl))
  f217:=func211.trans (congrArg some (by kernel_rfl))
  f266:=func231.trans (congrArg some (by kernel_rfl))
  t3:=underlying3
  a3:=isAgg3
  z3:=sizeOf3
  v3:=zeroValue3
  t5:=underlying5
  a5:=isAgg5
  z5:=sizeOf5
  v5:=zeroValue5
  t9:=underlying9
  a9:=isAgg9
  z9:=sizeOf9
  v9:=zeroValue9}
open Go.RowKit in
def Tryz.strings_IndexByte (s:ByteArray)(c:Int)(w:World):
 Calls prog 188 #[.string s,.int .u8 c] w fun e w'=>e=.returned (.int .i64 (Lib.indexByte s.data.toList c.toNat.toUInt8))∧w'=w:=Any.strings_IndexByte Tryz.ahM s c w
def Tryz.abt:Go.Shelf.Ren:=⟨fun|174=>185|247=>206|245=>207|287=>219|279=>220|280=>221|281=>222|282=>223|321=>235|322=>236|316=>237|171=>239|205=>238|243=>246|246=>250|283=>254|284=>255|285=>256|286=>257|129=>259|317=>258|318=>260|319=>261|320=>262|337=>263|338=>264|n=>n,fun|9=>9|3=>3|2=>2|75=>158|85=>159|4=>4|167=>175|5=>5|53=>171|175=>172|46=>176|168=>177|37=>113|0=>0|210=>191|21=>21|127=>187|145=>202|143=>200|171=>211|173=>214|212=>217|51=>218|20=>20|213=>219|232=>222|233=>223|80=>154|n=>n,fun|15=>0|16=>1|17=>5|18=>6|19=>7|n=>n⟩
def Tryz.Sn:Go.Proofs.LaysC.n174 prog Tryz.abt:={
  mixed:=by kernel_rfl
  f129:=func259.trans (congrArg some (by kernel_rfl))
  f171:=func239.trans (congrArg some (by kernel_rfl))
  f174:=func185.trans (congrArg some (by kernel_rfl))
  f205:=func238.trans (congrArg some (by kernel_rfl))
  f243:=func246.trans (congrArg some (by kernel_rfl))
  f245:=func207.trans (congrArg some (by kernel_rfl))
  f246:=func250.trans (congrArg some (by kernel_rfl))
  f247:=func206.trans (congrArg some (by kernel_rfl))
  f279:=func220.trans (congrArg some (by kernel_rfl))
  f280:=func221.trans (congrArg some (by kernel_rfl))
  f281:=func222.trans (congrArg some (by kernel_rfl))
  f282:=func223.trans (congrArg some (by kernel_rfl))
  f283:=func254.trans (congrArg some (by kernel_rfl))
  f284:=func255.trans (congrArg some (by kernel_rfl))
  f285:=func256.trans (congrArg some (by kernel_rfl))
  f286:=func257.trans (congrArg some (by kernel_rfl))
  f287:=func219.trans (congrArg some (by kernel_rfl))
  f316:=func237.trans (congrArg some (by kernel_rfl))
  f317:=func258.trans (congrArg some (by kernel_rfl))
  f318:=func260.trans (congrArg some (by kernel_rfl))
  f319:=func261.trans (congrArg some (by kernel_rfl))
  f320:=func262.trans (congrArg some (by kernel_rfl))
  f321:=func235.trans (congrArg some (by kernel_rfl))
  f322:=func236.trans (congrArg some (by kernel_rfl))
  f337:=func263.trans (congrArg some (by kernel_rfl))
  f338:=func264.trans (congrArg some (by kernel_rfl))
  t0:=underlying0
  a0:=isAgg0
  z0:=sizeOf0
  v0:=zeroValue0
  t2:=underlying2
  a2:=isAgg2
  z2:=sizeOf2
  v2:=zeroValue2
  t3:=underlying3
  a3:=isAgg3
  z3:=sizeOf3
  v3:=zeroValue3
  t4:=underlying4
  a4:=isAgg4
  z4:=sizeOf4
  v4:=zeroValue4
  t5:=underlying5
  a5:=isAgg5
  z5:=sizeOf5
  v5:=zeroValue5
  t9:=underlying9
  a9:=isAgg9
  z9:=sizeOf9
  v9:=zeroValue9
  t20:=underlying20
  a20:=isAgg20
  z20:=sizeOf20
  v20:=zeroValue20
  t21:=underlying21
  a21:=isAgg21
  z21:=sizeOf21
  v21:=zeroValue21
  t37:=underlying113
  a37:=isAgg113
  z37:=sizeOf113
  v37:=zeroValue113
  t46:=underlying176
  a46:=isAgg176
  z46:=sizeOf176
  v46:=zeroValue176
  t51:=underlying218
  a51:=isAgg218
  z51:=sizeOf218
  v51:=zeroValue218
  t53:=underlying171
  a53:=isAgg171
  z53:=sizeOf171
  v53:=zeroValue171
  t75:=underlying158
  a75:=isAgg158
  z75:=sizeOf158
  v75:=zeroValue158
  t85:=underlying159
  a85:=isAgg159
  z85:=sizeOf159
  v85:=zeroValue159
  t127:=underlying187
  a127:=isAgg187
  z127:=sizeOf187
  v127:=zeroValue187
  t143:=underlying200
  a143:=isAgg200
  z143:=sizeOf200
  v143:=zeroValue200
  t145:=underlying202
  a145:=isAgg202
  z145:=sizeOf202
  v145:=zeroValue202
  t167:=underlying175
  a167:=isAgg175
  z167:=sizeOf175
  v167:=zeroValue175
  t168:=underlying177
  a168:=isAgg177
  z168:=sizeOf177
  v168:=zeroValue177
  t171:=underlying211
  a171:=isAgg211
  z171:=sizeOf211
  v171:=zeroValue211
  t173:=underlying214
  a173:=isAgg214
  z173:=sizeOf214
  v173:=zeroValue214
  t175:=underlying172
  a175:=isAgg172
  z175:=sizeOf172
  v175:=zeroValue172
  t210:=underlying191
  a210:=isAgg191
  z210:=sizeOf191
  v210:=zeroValue191
  t212:=underlying217
  a212:=isAgg217
  z212:=sizeOf217
  v212:=zeroValue217
  t213:=underlying219
  a213:=isAgg219
  z213:=sizeOf219
  t232:=underlying222
  a232:=isAgg222
  z232:=sizeOf222
  v232:=zeroValue222
  t233:=underlying223
  a233:=isAgg223
  z233:=sizeOf223
  v233:=zeroValue223
  g15:=by kernel_rfl
  g16:=by kernel_rfl
  g17:=by kernel_rfl
  g18:=by kernel_rfl
  g19:=by kernel_rfl
  t80:=underlying154
  a80:=isAgg154
  z80:=sizeOf154
  v80:=zeroValue154
  i0:=by kernel_rfl
  i2:=by kernel_rfl
  i3:=by kernel_rfl
  i4:=by kernel_rfl
  i5:=by kernel_rfl
  i9:=by kernel_rfl
  i20:=by kernel_rfl
  i21:=by kernel_rfl
  i37:=by kernel_rfl
  i46:=by kernel_rfl
  i51:=by kernel_rfl
  i53:=by kernel_rfl
  i75:=by kernel_rfl
  i80:=by kernel_rfl
  i85:=by kernel_rfl
  i127:=by kernel_rfl
  i143:=by kernel_rfl
  i145:=by kernel_rfl
  i167:=by kernel_rfl
  i168:=by kernel_rfl
  i171:=by kernel_rfl
  i173:=by kernel_rfl
  i175:=by kernel_rfl
  i210:=by kernel_rfl
  i212:=by kernel_rfl
  i232:=by kernel_rfl
  i233:=by kernel_rfl
  m15:=by kernel_rfl
  m16:=by kernel_rfl
  m17:=by kernel_rfl
  m18:=by kernel_rfl
  m19:=by kernel_rfl
  c0:=by kernel_rfl
  c2:=by kernel_rfl
  c3:=by kernel_rfl
  c4:=by kernel_rfl
  c5:=by kernel_rfl
  c9:=by kernel_rfl
  c20:=by kernel_rfl
  c21:=by kernel_rfl
  c37:=by kernel_rfl
  c46:=by kernel_rfl
  c51:=by kernel_rfl
  c53:=by kernel_rfl
  c75:=by kernel_rfl
  c80:=by kernel_rfl
  c85:=by kernel_rfl
  c127:=by kernel_rfl
  c143:=by kernel_rfl
  c145:=by kernel_rfl
  c167:=by kernel_rfl
  c168:=by kernel_rfl
  c171:=by kernel_rfl
  c173:=by kernel_rfl
  c175:=by kernel_rfl
  c210:=by kernel_rfl
  c212:=by kernel_rfl
  c213:=by kernel_rfl
  c232:=by kernel_rfl
  c233:=by kernel_rfl}
open Go.RowKit in
def Tryz.strconv_ParseInt_10_at64_ok (s:ByteArray)(hmax:s.size≤9223372036854775806)(v:Int)(h:Lib.parseIntB 64 s.data.toList=.ok v)(w:World):
 Calls prog 185 #[.string s,.int .i64 10,.int .i64 64] w fun e w'=>e=.returned (.tuple #[.int .i64 v,.nilIface])∧(w'=w∨∃t,w'=Lib.bytesWorld w 5 t):=Any.strconv_ParseInt_10_at64_ok Tryz.Sn s hmax v h w
open Go.RowKit in
def Tryz.strconv_ParseInt_10_at64_range (s:ByteArray)(hlim:s.size≤281474976710656)(h:Lib.parseIntB 64 s.data.toList=.range)(ev:Value)(w:World)(hv:w.cell? ⟨1,0,none⟩=some ev)(hev:ev=.nilIface∨∃te pe,ev=.iface te pe):
 Calls prog 185 #[.string s,.int .i64 10,.int .i64 64] w fun e w'=>∃N,e=.returned (.tuple #[.int .i64 (Lib.intSat 64 s.data.toList),.iface 177 (.pointer (some ⟨N,0,none⟩))])∧w.heap.size≤N∧w'.heap[N]?=some (.cells #[.string ⟨#[80,97,114,115,101,73,110,116]⟩,.string s,ev] 191 (0,0))∧Below w.heap.size w w':=Any.strconv_ParseInt_10_at64_range Tryz.Sn s hlim h ev w hv hev
def Tryz.afu:Go.Shelf.Ren:=⟨fun|14=>214|16=>219|17=>207|19=>235|20=>236|21=>220|22=>221|23=>222|24=>223|25=>237|27=>239|26=>238|28=>246|29=>250|30=>254|31=>255|32=>256|33=>257|35=>259|34=>258|36=>260|37=>261|38=>262|39=>263|40=>264|n=>n,fun|9=>9|3=>3|22=>171|24=>158|25=>172|4=>4|34=>175|5=>5|36=>176|37=>113|0=>0|39=>177|21=>21|44=>191|47=>187|50=>202|48=>200|2=>2|52=>211|55=>214|59=>217|60=>218|20=>20|61=>219|65=>222|66=>223|67=>154|n=>n,fun|0=>0|1=>1|2=>5|3=>6|4=>7|n=>n⟩
def Tryz.L_:Go.Proofs.LaysPu.n14 prog Tryz.afu:={
  mixed:=by kernel_rfl
  f14:=func214.trans (congrArg some (by kernel_rfl))
  f16:=func219.trans (congrArg some (by kernel_rfl))
  f17:=func207.trans (congrArg some (by kernel_rfl))
  f19:=func235.trans (congrArg some (by kernel_rfl))
  f20:=func236.trans (congrArg some (by kernel_rfl))
  f21:=func220.trans (congrArg some (by kernel_rfl))
  f22:=func221.trans (congrArg some (by kernel_rfl))
  f23:=func222.trans (congrArg some (by kernel_rfl))
  f24:=func223.trans (congrArg some (by kernel_rfl))
  f25:=func237.trans (congrArg some (by kernel_rfl))
  f26:=func238.trans (congrArg some (by kernel_rfl))
  f27:=func239.trans (congrArg some (by kernel_rfl))
  f28:=func246.trans (congrArg some (by kernel_rfl))
  f29:=func250.trans (congrArg some (by kernel_rfl))
  f30:=func254.trans (congrArg some (by kernel_rfl))
  f31:=func255.trans (congrArg some (by kernel_rfl))
  f32:=func256.trans (congrArg some (by kernel_rfl))
  f33:=func257.trans (congrArg some (by kernel_rfl))
  f34:=func258.trans (congrArg some (by kernel_rfl))
  f35:=func259.trans (congrArg some (by kernel_rfl))
  f36:=func260.trans (congrArg some (by kernel_rfl))
  f37:=func261.trans (congrArg some (by kernel_rfl))
  f38:=func262.trans (congrArg some (by kernel_rfl))
  f39:=func263.trans (congrArg some (by kernel_rfl))
  f40:=func264.trans (congrArg some (by kernel_rfl))
  t0:=underlying0
  a0:=isAgg0
  z0:=sizeOf0
  v0:=zeroValue0
  i0:=by kernel_rfl
  t2:=underlying2
  a2:=isAgg2
  z2:=sizeOf2
  v2:=zeroValue2
  i2:=by kernel_rfl
  t3:=underlying3
  a3:=isAgg3
  z3:=sizeOf3
  v3:=zeroValue3
  i3:=by kernel_rfl
  t4:=underlying4
  a4:=isAgg4
  z4:=sizeOf4
  v4:=zeroValue4
  i4:=by kernel_rfl
  t5:=underlying5
  a5:=isAgg5
  z5:=sizeOf5
  v5:=zeroValue5
  i5:=by kernel_rfl
  t9:=underlying9
  a9:=isAgg9
  z9:=sizeOf9
  v9:=zeroValue9
  i9:=by kernel_rfl
  t20:=underlying20
  a20:=isAgg20
  z20:=sizeOf20
  v20:=zeroValue20
  i20:=by kernel_rfl
  t21:=underlying21
  a21:=isAgg21
  z21:=sizeOf21
  v21:=zeroValue21
  i21:=by kernel_rfl
  t22:=underlying171
  a22:=isAgg171
  z22:=sizeOf171
  v22:=zeroValue171
  i22:=by kernel_rfl
  t24:=underlying158
  a24:=isAgg158
  z24:=sizeOf158
  v24:=zeroValue158
  i24:=by kernel_rfl
  t25:=underlying172
  a25:=isAgg172
  z25:=sizeOf172
  v25:=zeroValue172
  i25:=by kernel_rfl
  t34:=underlying175
  a34:=isAgg175
  z34:=sizeOf175
  v34:=zeroValue175
  i34:=by kernel_rfl
  c34:=by kernel_rfl
  t36:=underlying176
  a36:=isAgg176
  z36:=sizeOf176
  v36:=zeroValue176
  i36:=by kernel_rfl
  t37:=underlying113
  a37:=isAgg113
  z37:=sizeOf113
  v37:=zeroValue113
  i37:=by kernel_rfl
  t39:=underlying177
  a39:=isAgg177
  z39:=sizeOf177
  v39:=zeroValue177
  i39:=by kernel_rfl
  t44:=underlying191
  a44:=isAgg191
  z44:=sizeOf191
  v44:=zeroValue191
  i44:=by kernel_rfl
  t47:=underlying187
  a47:=isAgg187
  z47:=sizeOf187
  v47:=zeroValue187
  i47:=by kernel_rfl
  t48:=underlying200
  a48:=isAgg200
  z48:=sizeOf200
  v48:=zeroValue200
  i48:=by kernel_rfl
  t50:=underlying202
  a50:=isAgg202
  z50:=sizeOf202
  v50:=zeroValue202
  i50:=by kernel_rfl
  t52:=underlying211
  a52:=isAgg211
  z52:=sizeOf211
  v52:=zeroValue211
  i52:=by kernel_rfl
  t55:=underlying214
  a55:=isAgg214
  z55:=sizeOf214
  v55:=zeroValue214
  i55:=by kernel_rfl
  t59:=underlying217
  a59:=isAgg217
  z59:=sizeOf217
  v59:=zeroValue217
  i59:=by kernel_rfl
  t60:=underlying218
  a60:=isAgg218
  z60:=sizeOf218
  v60:=zeroValue218
  i60:=by kernel_rfl
  t61:=underlying219
  a61:=isAgg219
  z61:=sizeOf219
  t65:=underlying222
  a65:=isAgg222
  z65:=sizeOf222
  v65:=zeroValue222
  i65:=by kernel_rfl
  t66:=underlying223
  a66:=isAgg223
  z66:=sizeOf223
  v66:=zeroValue223
  i66:=by kernel_rfl
  t67:=underlying154
  a67:=isAgg154
  z67:=sizeOf154
  v67:=zeroValue154
  i67:=by kernel_rfl
  g0:=by kernel_rfl
  m0:=by kernel_rfl
  g1:=by kernel_rfl
  m1:=by kernel_rfl
  g2:=by kernel_rfl
  m2:=by kernel_rfl
  g3:=by kernel_rfl
  m3:=by kernel_rfl
  g4:=by kernel_rfl
  m4:=by kernel_rfl}
open Go.RowKit in
def Tryz.strconv_ParseUint_10_at8_ok (s:ByteArray)(hmax:s.size≤9223372036854775806)(u:Nat)(h:Lib.parseUintB 8 s.data.toList=.ok u)(w:World):
 Calls prog 214 #[.string s,.int .i64 10,.int .i64 8] w fun e w'=>e=.returned (.tuple #[.int .u64 u,.nilIface])∧(w'=w∨w'=Lib.bytesWorld w 5 s):=Any.strconv_ParseUint_10_at8_ok Tryz.L_ s hmax u h w
open Go.RowKit in
def Tryz.strconv_ParseUint_10_at8_syntax (s:ByteArray)(hlim:s.size≤281474976710656)(h:Lib.parseUintB 8 s.data.toList=Lib.parseUintB 8 [])(ev:Value)(w:World)(hv:w.cell? ⟨0,0,none⟩=some ev)(hev:ev=.nilIface∨∃te pe,ev=.iface te pe):
 Calls prog 214 #[.string s,.int .i64 10,.int .i64 8] w fun e w'=>∃N,e=.returned (.tuple #[.int .u64 0,.iface 177 (.pointer (some ⟨N,0,none⟩))])∧w.heap.size≤N∧w'.heap[N]?=some (.cells #[.string ⟨#[80,97,114,115,101,85,105,110,116]⟩,.string s,ev] 191 (0,0))∧Below w.heap.size w w':=Any.strconv_ParseUint_10_at8_syntax Tryz.L_ s hlim (h.trans rfl) ev w hv hev
open Go.RowKit in
def Tryz.strconv_ParseUint_10_at8_range (s:ByteArray)(hlim:s.size≤281474976710656)(h:Lib.parseUintB 8 s.data.toList=.range)(ev:Value)(w:World)(hv:w.cell? ⟨1,0,none⟩=some ev)(hev:ev=.nilIface∨∃te pe,ev=.iface te pe):
 Calls prog 214 #[.string s,.int .i64 10,.int .i64 8] w fun e w'=>∃N,e=.returned (.tuple #[.int .u64 255,.iface 177 (.pointer (some ⟨N,0,none⟩))])∧w.heap.size≤N∧w'.heap[N]?=some (.cells #[.string ⟨#[80,97,114,115,101,85,105,110,116]⟩,.string s,ev] 191 (0,0))∧Below w.heap.size w w':=Any.strconv_ParseUint_10_at8_range Tryz.L_ s hlim h ev w hv hev
end Go.Proofs
namespace Go.Proofs.YtdfccaonglmgpaaGreatDoor
open Go Go.RowKit
set_option linter.unusedVariables false
set_option maxRecDepth 100000
def Qa (Z:World)(l:List UInt8)(b:UInt8):aH prog 188 #[str l,.int .u8 b.toNat] Z (fun v w'=>v=i64 (Lib.indexByte l b)∧St Z [] w' []):=by
 refine aH.mono (DO (Tryz.strings_IndexByte ⟨l.toArray⟩ (b.toNat:Int) Z)) fun v w' ⟨hv,hw⟩=>?_;subst hv hw;refine⟨?_,yx⟩;have e:((b.toNat:Int)).toNat.toUInt8=b:=aw
 rw[xH,e];rfl
def abk (Z:World)(l:List UInt8)(hl:l.length≤16384):aH prog 208 #[str l,str [45]] Z (fun v w'=>v=str (Lib.trimB l 45)∧St Z [] w' []):=by
 refine aH.mono (DO (Tryz.strings_Trim_one ⟨l.toArray⟩ 45 ai Z (by rw[wM];omega))) fun v w' ⟨hv,hw⟩=>?_;subst hv;rw[xH];refine⟨rfl,?_⟩;rcases hw with rfl|rfl
 ·exact yx
 ·exact St.drew yx
def ajS (Z:World)(l:List UInt8)(hl:l.length≤16384)(h0:l≠[])(hd:∀c∈l,cF c=true)(hG:cL Z []):aH prog 185 #[str l,i64 10,i64 64] Z (fun v w'=>∃(n:Int) (e:Option (TypeId×Value)),v=.tuple #[i64 n,Ng e]∧((∃k:Nat,iU l 0=some k∧n=k∧e=none)∨(iU l 0=none∧e.isSome=true))∧St Z [] w' []):=by
 have hs:(⟨l.toArray⟩:ByteArray).size=l.length:=wM l;rcases aab h0 hd with ⟨v,h1,h2,h3⟩| ⟨h1,h2⟩
 ·refine aH.mono (DO (Tryz.strconv_ParseInt_10_at64_ok ⟨l.toArray⟩ (by rw[hs];omega) (v:Int) (by rw[xH];exact h2) Z)) fun u w' ⟨hv,hw⟩=>?_;subst hv;refine⟨v,none,rfl,.inl ⟨v,h1,rfl,rfl⟩,?_⟩;rcases hw with rfl| ⟨t,rfl⟩
  ·exact yx
  ·exact CF (Lib.bytesWorld_below _ _ _)
 ·obtain⟨ev,hr,hev⟩:=hG.b;refine Calls.mono (Tryz.strconv_ParseInt_10_at64_range ⟨l.toArray⟩ (by rw[hs];omega) (by rw[xH];exact h2) ev Z (IW hr rfl) hev) fun e w' ⟨N,he,_,_,hw⟩=>?_;exact⟨_,he,_,some (_,_),rfl,.inr ⟨h1,rfl⟩,CF hw⟩
def adR (Z:World)(l:List UInt8)(hl:l.length≤16384)(hd:∀c∈l,cF c=true)(hG:cL Z []):aH prog 214 #[str l,i64 10,i64 8] Z (fun v w'=>∃(n:Nat) (e:Option (TypeId×Value)),v=.tuple #[.int .u64 n,Ng e]∧(l≠[]→(n=mB l 0∧n≤255∧e=none)∨(255<mB l 0∧e.isSome=true))∧St Z [] w' []):=by
 have hs:(⟨l.toArray⟩:ByteArray).size=l.length:=wM l
 by_cases h0:l=[]
 ·subst h0;obtain⟨ev,hr,hev⟩:=hG.a;refine Calls.mono (Tryz.strconv_ParseUint_10_at8_syntax ⟨([]:List UInt8).toArray⟩ (by rw[hs];omega) (by rw[xH];first|done|rfl|decide) ev Z (IW hr rfl) hev) fun e w' ⟨N,he,_,_,hw⟩=>?_;exact⟨_,he,0,some (_,_),rfl,fun h=>absurd rfl h,CF hw⟩
 ·rcases alL h0 hd with ⟨h2,h3⟩| ⟨h2,h3⟩
  ·refine aH.mono (DO (Tryz.strconv_ParseUint_10_at8_ok ⟨l.toArray⟩ (by rw[hs];omega) (mB l 0) (by rw[xH];exact h2) Z)) fun u w' ⟨hv,hw⟩=>?_;subst hv;refine⟨mB l 0,none,rfl,fun _=>.inl ⟨rfl,h3,rfl⟩,?_⟩;rcases hw with rfl|rfl
   ·exact yx
   ·exact CF (Lib.bytesWorld_below _ _ _)
  ·obtain⟨ev,hr,hev⟩:=hG.b;refine Calls.mono (Tryz.strconv_ParseUint_10_at8_range ⟨l.toArray⟩ (by rw[hs];omega) (by rw[xH];exact h2) ev Z (IW hr rfl) hev) fun e w' ⟨N,he,_,_,hw⟩=>?_;exact⟨_,he,255,some (_,_),rfl,fun _=>.inr ⟨h3,rfl⟩,CF hw⟩
def aqj (l:List UInt8):flat ny l=Lib.byteCells l:=by
 unfold flat Lib.byteCells
 induction l with
 |nil=>rfl
 |cons b l ih=>rw[List.flatMap_cons,ih];rfl
def aea {Z w:World}{b:Nat}{o:Option Addr}{bv:Value}{l:List UInt8}(ho:o=none∨o=some (aa b))(O:St Z [] w [.ob b 169 [.pointer o,bv],ax bv 5 ny l]):aH prog 212 #[ptr (aa b)] w (fun v w'=>v=str l∧St Z [] w' []):=by
 have hb:Z.heap.size≤b:=by
  rcases O.src b (by simp [az,an.bs]) with h|h
  ·cases h
  ·exact h
 have hob:w.heap[b]?=some (.cells #[.pointer o,bv] 169 (0,0)):=O.ok (i:=0) rfl;have hsl:w.ownsRow 0 5 1 bv l.length (flat ny l):=O.ok (i:=1) rfl;have aW:bv.ownBlock≠some b:=fun h=>by
  have:=O.nodup;simp [az,an.bs,ax,h] at this
 have hrow:w.ownsRow Z.heap.size 5 1 bv (Lib.byteCells l).length (Lib.byteCells l):=by
  rw[aqj] at hsl;have hlen:(Lib.byteCells l).length=l.length:=by simp [Lib.byteCells]
  refine⟨by rw[Nat.mul_one],?_⟩;rw[hlen];rcases hsl.2 with h| ⟨g,cap,cur,rfl,_,rest⟩
  ·exact .inl h
  ·refine .inr ⟨g,cap,cur,rfl,?_,rest⟩;rcases O.src g (by simp [az,an.bs,ax,Value.ownBlock]) with h|h
   ·cases h
   ·exact h
 have hB:Lib.IsBuilder 169 5 Z.heap.size b (Lib.byteCells l) w:=by
  rcases ho with rfl|rfl
  ·exact .inl ⟨hb,bv,hob,hrow,aW⟩
  ·exact .inr ⟨hb,bv,hob,hrow,aW⟩
 refine aH.mono (DO (Tryz.Builder_String_any Z.heap.size b l w hB O.le)) fun v w' ⟨hv,hw⟩=>⟨hv,?_⟩;have h0:=O.less (L':=[]) (List.nil_sublist _);exact⟨hw.os.trans h0.os,hw.tape.trans h0.tape,hw.output.trans h0.output,Nat.le_trans h0.le hw.size,fun k hk hm=>(hw.block k hk).trans (h0.iN k hk hm),fun _ h=>(by cases h),List.nodup_nil,fun _ h=>(by cases h)⟩
def aqQ {o:Oper}{a:Act}{w Z:World}{x:Operand}{b i:Nat}{cs:List Value}{M:List Nat}{L:List an}(O:St Z M w L)(hi:L[i]?=some (.ob b 169 cs))(hc:cs.length=2)(ho:o.op=.convert 167 197 x)(hx:a.eval x=ptr (aa b)):QV prog o a w (ptr (aa b)):=by
 have hob:w.heap[b]?=some (.cells cs.toArray 169 (0,0)):=O.ok hi;have hsh:w.shape? b=some (169,2):=by simp [World.shape?,hob,hc]
 have:=Lib.run_to_unsafe (P:=prog) (w:=w) (src:=167) (dst:=197) (t:=169) (e:=169) (j:=Tryz.t169) (cells:=2) (aa b) underlying167 underlying197 eE (by decide+kernel) hsh (Nat.zero_lt_succ 1);simp only[QV,execOp,ho,hx,ptr,Sem.run_bind,this,Result.andThen_ok]
 rfl
def aia {o:Oper}{a:Act}{w Z:World}{x:Operand}{b i:Nat}{cs:List Value}{M:List Nat}{L:List an}(O:St Z M w L)(hi:L[i]?=some (.ob b 169 cs))(hc:cs.length=2)(ho:o.op=.convert 197 167 x)(hx:a.eval x=ptr (aa b)):QV prog o a w (ptr (aa b)):=by
 have hob:w.heap[b]?=some (.cells cs.toArray 169 (0,0)):=O.ok hi;have hsh:w.shape? b=some (169,2):=by simp [World.shape?,hob,hc]
 have:=Lib.run_from_unsafe (P:=prog) (w:=w) (src:=197) (dst:=167) (u:=169) (e:=169) (j:=Tryz.t169) (cells:=2) (aa b) underlying197 underlying167 eE hsh eE;simp only[QV,execOp,ho,hx,ptr,Sem.run_bind,this,Result.andThen_ok]
 rfl
def aj0 {o:Oper}{a:Act}{w:World}{x:Operand}{v:Value}{ts:Array TypeId}(ho:o.op=.call {callee:=.value (.func 244),args:=#[x],argTypes:=ts})(hx:a.eval x=v):QV prog o a w v:=by
 have h:=run_callFunc_extern (P:=prog) func244 eE eE eE (e:=Extern.AbiNoEscape.same) eE #[v] w;rw[Lib.run_noEscape] at h;have hv:(#[x]:Array Operand).map a.eval=#[v]:=by simp [hx]
 have hff:a.eval (.func 244)=.func (.func 244) #[] #[]:=rfl;have h2:(callFunc 244 #[v]).run prog w=.ok (.value v) w:=h;simp [QV,execOp,ho,resolve,invoke,hff,Deferred.ofValue,hx,h2]
def ah3 {o:Oper}{a:Act}{w:World}{x y:Operand}{t t':TypeId}{p:Addr}(ht:prog.underlying t=some (.pointer 169))(ho:o.op=.binOp .neq t x y t')(hx:a.eval x=ptr p)(hy:a.eval y=ptr p):QV prog o a w (.bool (decide (¬True))):=by
 have hg:eqGuard .neq t x y (ptr p) (ptr p)=pure ():=eqGuard_at_pointer ..;have:=Lib.run_neq_ptr_same (P:=prog) w p ht (j:=Tryz.t169) eE;simp only[QV,execOp,ho,hx,hy,hg,Sem.run_bind,Sem.run_pure,Result.andThen_ok];simp only[ptr] at this ⊢;rw[this]
 rfl
open Go
set_option maxHeartbeats 4000000
def VA (Z:World)(b:UInt8):aH prog 181 #[.int .u8 b.toNat] Z (fun v w'=>v=.bool (rY b)∧St Z [] w' []):=by
 have O:=St.bL Z;refine aS func181 ntmps181 fun a U=>?_;refine Zv 2 fun a U=>?_;refine aZ U (Uo rfl (U.af rfl) (U.af rfl)) fun a U=>?_;refine Zw 3 fun a U=>?_;refine cG U rfl rfl rfl rfl rfl rfl (fun hg=>Uo rfl ((U.af rfl).trans (a6 hg)) (U.af rfl)) fun a U=>?_;refine Zw 3 fun a U=>?_;refine Zr 0 ?_;exact⟨congrArg Value.bool (abX b),O⟩
def Iv (Z:World)(b:UInt8):aH prog 183 #[.int .u8 b.toNat] Z (fun v w'=>v=.bool (cF b)∧St Z [] w' []):=by
 have O:=St.bL Z;refine aS func183 ntmps183 fun a U=>?_;refine Zw 8 fun a U=>?_;refine Zr 0 ?_;exact⟨rfl,O⟩
def QQ (Z:World)(b:UInt8):aH prog 186 #[.int .u8 b.toNat] Z (fun v w'=>v=.bool (j1 b)∧St Z [] w' []):=by
 have O:=St.bL Z;refine aS func186 ntmps186 fun a U=>?_;refine Yc 2 (Qa _ _ _) fun a w O U=>?_;refine Zr 2 ?_;exact⟨congrArg Value.bool (anc b),O⟩
def asd (Z:World)(b:UInt8):aH prog 204 #[.int .u8 b.toNat] Z (fun v w'=>v=.bool (fC 0 b)∧St Z [] w' []):=by
 have O:=St.bL Z;refine aS func204 ntmps204 fun a U=>?_;refine Yc 2 (VA _ _) fun a w O U=>?_;refine Zw 2 fun a U=>?_;refine fS O U rfl rfl rfl rfl rfl rfl (fun hg=>jo U rfl rfl (je trivial) call183 (Iv _ _)) fun a w O U=>?_;refine aZ U (r_ rfl (U.af rfl) (eN _) (fun dV=>((U.af rfl).trans (a6 dV))) (eN _)) fun a U=>?_;refine Zw 9 fun a U=>?_;refine Zr 0 ?_;exact⟨congrArg Value.bool (M5 (k:=0) (b:=b) rfl).symm,O⟩
def art (Z:World)(b:UInt8):aH prog 209 #[.int .u8 b.toNat] Z (fun v w'=>v=.bool (fC 3 b)∧St Z [] w' []):=by
 have O:=St.bL Z;refine aS func209 ntmps209 fun a U=>?_;refine Zr 4 ?_;exact⟨congrArg Value.bool (Ob (k:=3) (b:=b) ai ai ai).symm,O⟩
def amW (Z:World)(s:List UInt8)(vl:Value)(ls:List (List UInt8))(hR:aG Z [] vl oC ls):aH prog 136 #[vl,str s] Z (fun v w'=>∃n:Int,v=i64 n∧decide (0≤n)=ls.contains s∧St Z [] w' []):=by
 have O:=St.bL Z;have hl:=aG.gi hR;refine aS func136 ntmps136 fun a U=>?_;refine Zg 2 (bA hR) fun a U=>?_;refine Zv 1 fun a U=>?_;refine cl (fun (k:Nat) a w'=>(k≤ls.length∧(ls.take k).contains s=false)∧St Z [] w' []∧Fr a 19 [(0,vl),(1,str s),(7,i64 ls.length),(8,i64 k)]) (fun (k:Nat)=>ls.length - k) 0 ⟨⟨V,aw⟩,O,U.su⟩ ?_;rintro k a w ⟨⟨hk,hn⟩,O,U⟩;refine Zi 1 (fun a U ao=>?_) fun a U ao=>?_
 ·obtain⟨x,hx⟩:=dM (l:=ls) (i:=k) V;refine Zg 5 (bw k hR V) fun a U=>?_;refine Zh 0 hR hx fun a U=>?_;refine Zi 1 (fun a U ay=>?_) fun a U ay=>?_
  ·refine Zr 2 ?_;exact⟨_,rfl,(decide_eq_true V).trans (RS hx ay.symm).symm,O⟩
  ·refine Zv 2 fun a U=>?_;exact⟨k+1,⟨⟨V,Yr hx hn (fun e=>ay e.symm)⟩,O,U.su⟩,V⟩
 ·refine Zr 1 ?_;exact⟨_,rfl,(decide_eq_false V).trans (by rw[←hn,List.take_of_length_le V]),O⟩
def aaq (Z:World)(s:List UInt8)(vl:Value)(ls:List (List UInt8))(hR:aG Z [] vl oC ls):aH prog 102 #[vl,str s] Z (fun v w'=>v=.bool (ls.contains s)∧St Z [] w' []):=by
 have O:=St.bL Z;refine aS func102 ntmps102 fun a U=>?_;refine Yc 3 (amW _ _ _ _ (hR.ba O)) fun ix hix a w O U=>?_;refine Zr 2 ?_;exact⟨congrArg Value.bool hix,O⟩
def Ux (Z:World)(s:List UInt8)(vl:Value)(ls:List (List UInt8))(hR:aG Z [] vl oC ls):aH prog 218 #[str s,vl] Z (fun v w'=>v=.bool (ls.contains s)∧St Z [] w' []):=by
 have O:=St.bL Z;refine aS func218 ntmps218 fun a U=>?_;refine Yc 3 (aaq _ _ _ _ (hR.ba O)) fun a w O U=>?_;refine Zr 1 ?_;exact⟨rfl,O⟩
def ajZ (Z:World)(s:List UInt8):aH prog 205 #[str s] Z (fun v w'=>v=.bool (u_.contains s)∧St Z [] w' []):=by
 have O:=St.bL Z;refine aS func205 ntmps205 fun a U=>?_;refine Zb 3 fun wl a w O U=>?_;refine Yc 0 (Ux _ _ _ _ (aG.ba (O.bW (E:=oC) (l:=u_) 0 rfl) yx)) fun a w O U=>?_;refine Zr 1 ?_;have O:=O.d [0];exact⟨rfl,O⟩
def anW (Z:World)(s:List UInt8):aH prog 210 #[str s] Z (fun v w'=>v=.bool (xB.contains s)∧St Z [] w' []):=by
 have O:=St.bL Z;refine aS func210 ntmps210 fun a U=>?_;refine Zb 3 fun wl a w O U=>?_;refine Yc 0 (Ux _ _ _ _ (aG.ba (O.bW (E:=oC) (l:=xB) 0 rfl) yx)) fun a w O U=>?_;refine Zr 1 ?_;have O:=O.d [0];exact⟨rfl,O⟩
def ad7 (P:Program)(f:Nat)(p:UInt8→Bool):Prop:=∀(w:World) (c:UInt8),aH P f #[.int .u8 (c.toNat:Int)] w (fun v w'=>v=.bool (p c)∧St w [] w' [])
def jX (s:List UInt8)(aj:Nat)(vo:Value):List Value:=[str (s.drop aj),i64 (cH s aj).1,i64 (cH s aj).2,vo]
def WJ {s:List UInt8}{aj k:Nat}:((s.drop aj).getD k 0).toNat=(gt s (aj+k)).toNat:=by rw[pF];rfl
def aiu {s:List UInt8}{k aj:Nat}(vo:Value)(h:(((s.drop aj).getD k 0).toNat:Int)=10):[i64 (cH s (aj+(k+1))).1,i64 (cH s (aj+(k+1))).2,vo]=[i64 ((cH s (aj+k)).1+1),i64 1,vo]:=by
 rw[WJ] at h;have h':gt s (aj+k)=10:=UInt8.toNat_inj.1 (by have:(gt s (aj+k)).toNat=10:=V;exact this);simp [←Nat.add_assoc,cH,h']
def aeS {s:List UInt8}{k aj:Nat}(vo:Value)(h:¬(((s.drop aj).getD k 0).toNat:Int)=10):[i64 (cH s (aj+(k+1))).1,i64 (cH s (aj+(k+1))).2,vo]=[i64 (cH s (aj+k)).1,i64 ((cH s (aj+k)).2+1),vo]:=by
 rw[WJ] at h;have h':¬gt s (aj+k)=10:=fun e=>h (by rw[e];rfl);simp [←Nat.add_assoc,cH,h']
set_option maxHeartbeats 1000000 in
def G0 (Z:World)(bs:Nat)(s:List UInt8)(aj:Nat)(vo:Value)(hs:s.length≤16384)(hA:bT Z [.ob bs 143 (jX s (aj) vo)])(n:Nat)(hn:aj+n≤s.length):aH prog 178 #[ptr (aa bs),i64 n] Z (fun v w'=>v=.tuple #[]∧St Z [bs] w' [.ob bs 143 (jX s (aj+n) vo)]):=by
 have O:=St.init hA;have hb:=vv s aj;refine aS func178 ntmps178 fun a U=>?_;refine Zv 2 fun a U=>?_;refine cl (fun (k:Nat) a w'=>(k≤n)∧St Z [bs] w' [.ob bs 143 [str (s.drop aj),i64 (cH s (aj+k)).1,i64 (cH s (aj+k)).2,vo]]∧Fr a 44 [(0,ptr (aa bs)),(1,i64 n),(5,i64 n),(6,i64 k)]) (fun (k:Nat)=>n - k) 0 ⟨V,O,U.su⟩ ?_;rintro k a w ⟨hk,O,U⟩;have hb:=vv s (aj+k);refine Zi 1 (fun a U ao=>?_) fun a U ao=>?_
 ·refine Zs 15 fun a w O U=>?_;refine aZ U (iG (m:=k) underlying9 rfl (U.af rfl) (U.af rfl) (by rw[gI];omega)) fun a U=>?_;refine Zi 1 (fun a U ay=>?_) fun a U ay=>?_
  ·refine Zs 15 fun a w O U=>?_;have O:=O.eq (congrArg (fun x=>[an.ob bs 143 (str (s.drop aj)::x)]) (aiu vo ay).symm);exact⟨k+1,⟨V,O,U.su⟩,V⟩
  ·refine Zv 2 fun a U=>?_;have O:=O.eq (congrArg (fun x=>[an.ob bs 143 (str (s.drop aj)::x)]) (aeS vo ay).symm);exact⟨k+1,⟨V,O,U.su⟩,V⟩
 ·refine Zv 6 fun a U=>?_;refine aZ U (abJ (i:=n) underlying9 rfl (U.af rfl) (U.af rfl) (by rw[gI];omega)) fun a U=>?_;refine Zs 3 fun a w O U=>?_;refine Zr 0 ?_;obtain rfl:k=n:=V
  rw[List.drop_drop] at O;exact⟨rfl,O⟩
def Gp (Z:World)(b f:Nat)(t:List UInt8)(ht:t.length≤16384)(x1 x2 x3:Value)(hB:Rd Z [] (mX b) 4 1 [str t,x1,x2,x3])(p:UInt8→Bool)(hcf:∀(args:Array Value) (w:World),(callFunc f args).run prog w=.ok (.enter f args) w)(hf:ad7 prog f p):aH prog 184 #[ptr (aa b),.func (.func f) #[] #[]] Z (fun v w'=>v=i64 (t.takeWhile p).length∧St Z [] w' []):=by
 have O:=St.bL Z;have htw:=Oq p t;refine aS func184 ntmps184 fun a U=>?_;refine Zv 2 fun a U=>?_;refine cl (fun (k:Nat) a w'=>(k≤(t.takeWhile p).length)∧St Z [] w' []∧Fr a 26 [(0,ptr (aa b)),(1,.func (.func f) #[] #[]),(5,i64 k)]) (fun (k:Nat)=>(t.takeWhile p).length - k) 0 ⟨V,O,U.su⟩ ?_;rintro k a w ⟨hk,O,U⟩;refine Zv 4 fun a U=>?_;refine aZ U (eD isAgg9 rfl (U.af rfl) (MG (Rd.now hB O) rfl)) fun a U=>?_;refine Zw 7 fun a U=>?_;refine cG U rfl rfl rfl rfl rfl rfl (fun hg=>eD isAgg9 rfl ((U.af rfl).trans (a6 hg)) (MG (Rd.now hB O) rfl)) fun a U=>?_;refine Zw 1 fun a U=>?_;refine cG U rfl rfl rfl rfl rfl rfl (fun hg=>iG (m:=k) underlying9 rfl ((U.af rfl).trans (a6 hg)) ((U.af rfl).trans (a6 hg)) (by have:=gA hg;omega)) fun a U=>?_;refine fS O U rfl rfl rfl rfl rfl rfl (fun hg=>pw U rfl ((U.af rfl).trans (a6 hg)) rfl (by first| (simp only[a6 hg];done)| (simp only[a6 hg];rfl)) (by rfl) hcf (hf _ (t.getD k 0))) fun a w O U=>?_;refine Wb 0 fun a U=>?_;refine Zi 0 (fun ao=>?_) fun ao=>?_
 ·refine Zv 3 fun a U=>?_;exact⟨k+1,⟨Ct p t k hk (by have:=ao.1;omega) ao.2,O,U.su⟩,by have:=Ct p t k hk (by have:=ao.1;omega) ao.2;omega⟩
 ·refine Zr 2 ?_;exact⟨by rw[Xw hk ao],O⟩
set_option maxHeartbeats 1000000 in
def Ay (Z:World)(bs:Nat)(s:List UInt8)(aj:Nat)(vo:Value)(out:List Tok)(hs:s.length≤16384)(hol:out.length≤aj)(hA:bT Z [.ob bs 143 (jX s (aj) vo),ax vo 44 aM out])(kind num:Int)(text:List UInt8)(n:Nat)(hn:aj+n≤s.length):aH prog 150 #[ptr (aa bs),i64 kind,str text,i64 num,i64 n] Z (fun v w'=>∃vo2,v=i64 0∧St Z (az [.ob bs 143 (jX s (aj) vo),ax vo 44 aM out]) w' [.ob bs 143 (jX s (aj+n) vo2),ax vo2 44 aM (out++[⟨kind,text,num,(cH s aj).1,(cH s aj).2⟩])]):=by
 have O:=St.init hA;have hb:=vv s aj;refine aS func150 ntmps150 fun a U=>?_;refine Zd 1 [0,0,0,0,1,0,0,0,0,0,0,1,0,0,0,1,0,2,3,0,0,3] fun a w O U=>?_;refine Zv 17 fun a U=>?_;refine eg U (kH U O underlying22 sizeOf44 zeroValue44 rfl rfl rfl rfl rfl rfl rfl) (fun _ _ ⟨_,_,O⟩=>O.tail) ?_;rintro a _ w ⟨b1,rfl,O⟩ U;refine jh U (iJ (bytes:=48) (r:=[⟨kind,text,num,(cH s aj).1,(cH s aj).2⟩]) O (i:=2) rfl (O.rd 0 rfl) underlying22 pV rfl rfl rfl rfl rfl rfl (U.af rfl) (U.af rfl) (by show (List.length _+1) * 48≤_;omega) (by show List.length _+1≤_;omega)) ?_;rintro a vo2 w O U;have O:=O.nm;refine Zs 3 fun a w O U=>?_;refine Zv 2 fun a U=>?_;have O:=O.q [1];refine Yc 0 (G0 _ _ _ _ _ hs O.aB (_) V) fun a w O U=>?_;refine Zr 1 ?_;have O:=O.d [1];exact⟨_,rfl,O⟩
def i2 (i:Nat):(i:Int)+1+1=((i+2:Nat):Int):=V
set_option maxHeartbeats 1000000 in
def ah0 (Z:World)(t:List UInt8)(ht:t.length≤16384)(F:Nat)(hF9:t.length<F):aH prog 180 #[str t] Z (fun v w'=>v=i64 (match gm t 0 F 0 0 with|none=> -1|some k=>(k:Int))∧St Z [] w' []):=by
 have O:=St.bL Z;refine aS func180 ntmps180 fun a U=>?_;refine Zv 3 fun a U=>?_;refine cl (fun (x:Nat×Int×Nat) a w'=>match x with| (f,d,i)=>(gm t 0 f d i=gm t 0 F 0 0∧t.length<i+f∧i≤t.length+1∧d≤i∧ -(i:Int)≤d)∧St Z [] w' []∧Fr a 33 [(0,str t),(3,i64 d),(4,i64 i)]) (fun (x:Nat×Int×Nat)=>match x with| (f,d,i)=>f) (F,0,0) ⟨⟨rfl,V,V,V,V⟩,O,U.su⟩ ?_;rintro⟨f,d,i⟩ a w ⟨⟨hr,hf,hil,uF,AE⟩,O,U⟩;refine Zi 5 (fun a U ao=>?_) fun a U ao=>?_
 ·refine Zv 4 fun a U=>?_;refine aZ U (yv (i:=i) (j:=i+2) underlying9 rfl (U.af rfl) (U.af rfl) (U.af rfl) V V) fun a U=>?_;refine Zi 2 (fun a U ay=>?_) fun a U ay=>?_
  ·obtain⟨g,rfl⟩:∃g,f=g+1:=⟨f - 1,V⟩;refine Zv 9 fun a U=>?_;exact⟨(g,d+1,i+2),⟨⟨(QB V ay).symm.trans hr,V,V,V,V⟩,O,U.sub ⟨rfl,rfl,(congrArg some (congrArg i64 (i2 i))),trivial⟩⟩,by dsimp only;omega⟩
  ·refine Zi 2 (fun a U aF=>?_) fun a U aF=>?_
   ·refine Zi 8 (fun a U aT=>?_) fun a U aT=>?_
    ·refine Zv 3 fun a U=>?_;refine dI ?_;refine dI ?_;refine dv ?_;refine dv ?_;refine dI ?_;refine dv ?_;refine yX U rfl rfl ?_;obtain⟨g,rfl⟩:∃g,f=g+1:=⟨f - 1,V⟩;refine⟨?_,O⟩;rw[←hr,Yh V ay aF aT];exact congrArg i64 (show (i:Int)+1+1=((i+2 - 0:Nat):Int) by omega)
    ·obtain⟨g,rfl⟩:∃g,f=g+1:=⟨f - 1,V⟩;refine Zv 3 fun a U=>?_;exact⟨(g,d - 1,i+2),⟨⟨(V_ V ay aF aT).symm.trans hr,V,V,V,V⟩,O,U.sub ⟨rfl,rfl,(congrArg some (congrArg i64 (i2 i))),trivial⟩⟩,by dsimp only;omega⟩
   ·obtain⟨g,rfl⟩:∃g,f=g+1:=⟨f - 1,V⟩;refine Zv 3 fun a U=>?_;exact⟨(g,d,i+1),⟨⟨(UI V ay aF).symm.trans hr,V,V,V,V⟩,O,U.su⟩,by dsimp only;omega⟩
 ·refine Zv 1 fun a U=>?_;refine yX U rfl rfl ?_;refine⟨?_,O⟩;rw[←hr,Ur V]
  rfl
def aqR (Z:World)(s p:List UInt8)(hl:s.length≤9223372036854775000)(jf:p.length≤9223372036854775000):aH prog 203 #[str s,str p] Z (fun v w'=>v=.bool (decide (p.length≤s.length∧s.take p.length=p))∧St Z [] w' []):=by
 have O:=St.bL Z;refine aS func203 ntmps203 fun a U=>?_;refine Zw 10 fun a U=>?_;refine cG U rfl rfl rfl rfl rfl rfl (fun hg=>Bp (j:=p.length) underlying9 rfl ((U.af rfl).trans (a6 hg)) ((U.af rfl).trans (a6 hg)) (by have:=gA hg;omega)) fun a U=>?_;refine Zw 4 fun a U=>?_;refine Zr 0 ?_;exact⟨congrArg Value.bool (decide_eq_decide.2 (and_congr V Iff.rfl)),O⟩
def ame (Z:World)(s p:List UInt8)(hl:s.length≤9223372036854775000)(jf:p.length≤9223372036854775000):aH prog 179 #[str s,str p] Z (fun v w'=>v=.bool (decide (p.length≤s.length∧s.take p.length=p))∧St Z [] w' []):=by
 have O:=St.bL Z;refine aS func179 ntmps179 fun a U=>?_;refine Yc 3 (aqR _ _ _ hl jf) fun a w O U=>?_;refine Zr 1 ?_;exact⟨rfl,O⟩
def ik (i k:Nat):((i+1+k:Nat):Int) - 1+1=((i+1+k:Nat):Int):=V
section
variable {t:List UInt8} {i k:Nat}
def OY (hk:k≤((t.drop (i+1)).takeWhile cF).length)(h:((i+1+k:Nat):Int)<t.length∧cF (t.getD (i+1+k) 0)=true):k+1≤((t.drop (i+1)).takeWhile cF).length:=
 Ct cF _ k hk (by rw[gI];have:=h.1;omega) (by rw[pF];exact h.2)
def aj4 (h:¬(((i+1+k:Nat):Int)<t.length∧cF (t.getD (i+1+k) 0)=true)):¬((k:Int)< (t.drop (i+1)).length∧cF ((t.drop (i+1)).getD k 0)=true):=by
 rw[gI,pF];exact fun g=>h ⟨by have:=g.1;omega,g.2⟩
def afc (hk:((t.drop (i+1)).takeWhile cF).length=k):(t.take (i+1+k)).drop (i+1)=(t.drop (i+1)).takeWhile cF:=by
 have:∀l:List UInt8,l.take (l.takeWhile cF).length=l.takeWhile cF:=by
  intro l
  induction l with
  |nil=>rfl
  |cons c r ih=>
   rw[List.takeWhile_cons]
   split
   ·rw[bg,List.take_succ_cons,ih]
   ·rfl
 rw[List.drop_take,Nat.add_sub_cancel_left,←hk,this]
def amR (hk:((t.drop (i+1)).takeWhile cF).length=k)(h:¬((i+1:Nat):Int)< ((i+1+k:Nat):Int)):¬((i:Int)+1<t.length∧cF (t.getD (i+1) 0)=true):=by
 intro g;have:=OY (t:=t) (i:=i) (k:=0) V ⟨by have:=g.1;omega,g.2⟩;omega
def Pn (hk:((t.drop (i+1)).takeWhile cF).length=k)(h:0<k):(i:Int)+1<t.length∧cF (t.getD (i+1) 0)=true:=by
 have h1:=Mb cF (t.drop (i+1)) 0 V;rw[pF] at h1;have h2:=Oq cF (t.drop (i+1));rw[gI] at h2;exact⟨V,h1⟩
def SS (h:i+1≤t.length):iz t t.length 0 (i+1)=(mB ((t.drop (i+1)).takeWhile cF) 0,i+1+((t.drop (i+1)).takeWhile cF).length):=Hx _ _ _ _ V
def LH (h:i+1<t.length)(hc:((t.getD (i+1) 0).toNat:Int)=110∨((t.getD (i+1) 0).toNat:Int)=116∨(((t.getD (i+1) 0).toNat:Int)=92∨((t.getD (i+1) 0).toNat:Int)=34)):¬((t.length:Int)≤i+1∨¬vJ.contains (t.getD (i+1) 0)=true):=by
 rintro (h1|h1)
 ·omega
 ·apply h1;rcases hc with hc|hc|hc|hc
  ·rw[show t.getD (i+1) 0=110 from oY 110 rfl hc];rfl
  ·rw[show t.getD (i+1) 0=116 from oY 116 rfl hc];rfl
  ·rw[show t.getD (i+1) 0=92 from oY 92 rfl hc];rfl
  ·rw[show t.getD (i+1) 0=34 from oY 34 rfl hc];rfl
def amz (h1:¬((t.getD (i+1) 0).toNat:Int)=110)(h2:¬((t.getD (i+1) 0).toNat:Int)=116)(h3:¬(((t.getD (i+1) 0).toNat:Int)=92∨((t.getD (i+1) 0).toNat:Int)=34)):(t.length:Int)≤i+1∨¬vJ.contains (t.getD (i+1) 0)=true:=by
 right;intro h;rcases (by simpa [vJ] using h:t.getD (i+1) 0=110∨t.getD (i+1) 0=116∨t.getD (i+1) 0=92∨t.getD (i+1) 0=34) with e|e|e|e
 ·exact h1 (by rw[e];rfl)
 ·exact h2 (by rw[e];rfl)
 ·exact h3 (.inl (by rw[e];rfl))
 ·exact h3 (.inr (by rw[e];rfl))
end
def arw (Z:World)(b:Nat)(o:Option Addr)(bv:Value)(ho:o=none∨o=some (aa b))(hA:bT Z [.ob b 169 [.pointer o,bv]]):aH prog 232 #[ptr (aa b)] Z (fun v w'=>v=.tuple #[]∧St Z [b] w' [.ob b 169 [.pointer (some (aa b)),bv]]):=by
 have O:=St.init hA;refine aS func232 ntmps232 fun a U=>?_;refine Zv 4 fun a U=>?_;refine aZ U (an7 underlying167 rfl (U.af rfl) (U.af rfl)) fun a U=>?_;refine Zi 0 (fun ao=>?_) fun ao=>?_
 ·refine Zv 2 fun a U=>?_;refine aZ U (aqQ O (i:=0) rfl rfl rfl (U.af rfl)) fun a U=>?_;refine aZ U (aj0 rfl (U.af rfl)) fun a U=>?_;refine aZ U (aia O (i:=0) rfl rfl rfl (U.af rfl)) fun a U=>?_;refine Zs 3 fun a w O U=>?_;refine Zr 0 ?_;exact⟨rfl,O⟩
 ·obtain rfl:o=some (aa b):=ho.resolve_left ao;refine Zv 5 fun a U=>?_;refine aZ U (ah3 underlying167 rfl (U.af rfl) (U.af rfl)) fun a U=>?_;refine Zi 0 (fun ay=>?_) fun ay=>?_
  ·exact absurd ay aw
  ·refine Zr 0 ?_;exact⟨rfl,O⟩
def Df (Z:World)(b:Nat)(o:Option Addr)(bv:Value)(l:List UInt8)(c:UInt8)(hl:l.length≤100000)(ho:o=none∨o=some (aa b))(hA:bT Z [.ob b 169 [.pointer o,bv],ax bv 5 ny l]):aH prog 213 #[ptr (aa b),.int .u8 c.toNat] Z (fun v w'=>∃bv2,v=.nilIface∧St Z (az [.ob b 169 [.pointer o,bv],ax bv 5 ny l]) w' [.ob b 169 [.pointer (some (aa b)),bv2],ax bv2 5 ny (l++[c])]):=by
 have O:=St.init hA;refine aS func213 ntmps213 fun a U=>?_;refine Yc 2 (arw _ _ _ _ ho O.aB) fun a w O U=>?_;refine Zb 7 fun b1 a w O U=>?_;refine eP U (iJ (bytes:=1) (r:=[c]) O (i:=2) rfl (O.rd 0 rfl) underlying113 xR rfl rfl rfl rfl rfl rfl (U.af rfl) (U.af rfl) (by show (List.length _+1) * 1≤_;omega) (by show List.length _+1≤_;omega)) ?_;rintro a v14 w O U;have O:=O.nm;refine Zs 3 fun a w O U=>?_;refine Zr 1 ?_;have O:=O.d [0];exact⟨_,rfl,O⟩
def ajP (Z:World)(t:List UInt8)(ht:t.length≤16384)(h0:0<t.length)(F:Nat)(hF9:t.length<F)(hG:cL Z []):aH prog 189 #[str t] Z (fun v w'=>v=(match fu t F [] 1 with|none=>.tuple #[str [],i64 (-1)]|some (x,n)=>.tuple #[str x,i64 (n:Int)])∧St Z [] w' []):=by
 have O:=St.bL Z;refine aS func189 ntmps189 fun a U=>?_;refine Zb 3 fun bb a w O U=>?_;have O:=O.eI 5 1;have O:=O.pull 1 rfl;refine Zv 1 fun a U=>?_;have O:=O.nm;refine cl (fun (x:Nat×List UInt8×Nat×Option Addr×Value) a w'=>match x with| (f,out,i,o,bv)=>(fu t f out i=fu t F [] 1∧t.length<i+f∧1≤i∧i≤t.length∧out.length≤i∧(o=none∨o=some (aa bb)))∧St Z [] w' [.ob bb 169 [.pointer o,bv],ax bv 5 ny out]∧Fr a 108 [(0,str t),(4,ptr (aa bb)),(5,i64 i)]) (fun (x:Nat×List UInt8×Nat×Option Addr×Value)=>match x with| (f,out,i,o,bv)=>f) (F,[],1,none,_) ⟨⟨rfl,V,V,V,aw,.inl rfl⟩,O,U.su⟩ ?_;rintro⟨f,out,i,o,bv⟩ a w ⟨⟨hr,hf,bC,hil,hol,ho⟩,O,U⟩;refine Zi 4 (fun a U ao=>?_) fun a U ao=>?_
 ·refine Zv 2 fun a U=>?_;refine aZ U (iG (m:=i) underlying9 rfl (U.af rfl) (U.af rfl) V) fun a U=>?_;refine Zi 4 (fun a U ay=>?_) fun a U ay=>?_
  ·refine Zc 0 (aea ho O) ?_;rintro a _ w ⟨rfl,O⟩ U;refine Zv 4 fun a U=>?_;refine dI ?_;refine dI ?_;refine dv ?_;refine dv ?_;refine dI ?_;refine dv ?_;refine qC U rfl rfl rfl ?_;have O:=(O.wT 0).wT 0;obtain⟨g,rfl⟩:∃g,f=g+1:=⟨f - 1,V⟩;refine⟨?_,O⟩;rw[←hr,XZ V ay];exact congrArg (fun x=>Value.tuple #[str out,i64 x]) (show (i:Int)+1=((i+1:Nat):Int) by omega)
  ·refine Zw 7 fun a U=>?_;refine Zi 0 (fun aF=>?_) fun aF=>?_
   ·refine Zv 2 fun a U=>?_;refine dI ?_;refine dI ?_;refine dv ?_;refine dv ?_;refine dI ?_;refine dv ?_;refine qC U rfl rfl rfl ?_;have O:=O.d [0,0];obtain⟨g,rfl⟩:∃g,f=g+1:=⟨f - 1,V⟩;refine⟨?_,O⟩;rw[←hr,P4 V ay V aF]
    rfl
   ·refine Zi 3 (fun a U aT=>?_) fun a U aT=>?_
    ·refine Yc 1 (Df _ _ _ _ _ (t.getD i 0) V ho O.aI) fun bv2 a w O U=>?_;obtain⟨g,rfl⟩:∃g,f=g+1:=⟨f - 1,V⟩;refine Zv 3 fun a U=>?_;exact⟨(g,out++[gt t i],i+1,some (aa bb),bv2),⟨⟨(WY V ay V aF).symm.trans hr,V,V,V,by rw[List.length_append,List.length_singleton];omega,.inr rfl⟩,O,U.su⟩,by dsimp only;omega⟩
    ·refine Zi 7 (fun a U bm=>?_) fun a U bm=>?_
     ·refine Zv 2 fun a U=>?_;refine dv ?_;refine dI ?_;refine dI ?_;refine dv ?_;refine dv ?_;refine dI ?_;refine dv ?_;refine qC U rfl rfl rfl ?_;have O:=O.d [0,0];obtain⟨g,rfl⟩:∃g,f=g+1:=⟨f - 1,V⟩;refine⟨?_,O⟩;rw[←hr,Oo V ay aT (fun h=>by have:=h.1;omega) (.inl V)]
      rfl
     ·refine Zv 2 fun a U=>?_;refine cl (fun (k:Nat) a w'=>(k≤((t.drop (i+1)).takeWhile cF).length)∧St Z [] w' [.ob bb 169 [.pointer o,bv],ax bv 5 ny out]∧Fr a 108 [(0,str t),(4,ptr (aa bb)),(5,i64 ((i+1:Nat):Int)),(7,i64 ((i+1+k:Nat):Int))]) (fun (k:Nat)=>((t.drop (i+1)).takeWhile cF).length - k) 0 ⟨V,O,U.su⟩ ?_;rintro k a w ⟨hk,O,U⟩;have hDl:((t.drop (i+1)).takeWhile cF).length≤t.length - (i+1):=Nat.le_trans (Oq _ _) (by rw[gI];exact bQ _);refine Zw 7 fun a U=>?_;refine cG U rfl rfl rfl rfl rfl rfl (fun hg=>iG (m:=i+1+k) underlying9 rfl ((U.af rfl).trans (a6 hg)) ((U.af rfl).trans (a6 hg)) (by have:=gA hg;omega)) fun a U=>?_;refine fS O U rfl rfl rfl rfl rfl rfl (fun hg=>jo U rfl rfl (je trivial) call183 (Iv _ _)) fun a w O U=>?_;refine Wb 0 fun a U=>?_;refine Zi 0 (fun bl=>?_) fun bl=>?_
      ·refine Zv 3 fun a U=>?_;exact⟨k+1,⟨OY hk bl,O,U.su⟩,by have:=OY hk bl;omega⟩
      ·have hnd:=aj4 bl;have hkD:((t.drop (i+1)).takeWhile cF).length=k:=Xw V hnd;have hDe:=afc (i:=i) hkD;have hDn:0<k→((t.drop (i+1)).takeWhile cF)≠[]:=fun h e=>by rw[e] at hkD;simp at hkD;omega
       refine Zv 3 fun a U=>?_;refine aZ U (yv (i:=(i+1)) (j:=(i+1+k)) underlying9 rfl (U.af rfl) (U.af rfl) (U.af rfl) V V) fun a U=>?_;rw[hDe] at U;refine eP U (JC U rfl rfl call214 (adR _ _ V (fun c hc=>QU c hc) (hG.ba O))) ?_;rintro a _ w ⟨n,er,rfl,hpu,hS⟩ U;have O:=O.k0 hS;refine Zw 10 fun a U=>?_;refine cG U rfl rfl rfl rfl rfl rfl (fun hg=>UJ underlying158 rfl ((U.af rfl).trans (a6 hg))) fun a U=>?_;refine Wb 0 fun a U=>?_;refine Zi 1 (fun a U bN=>?_) fun a U bN=>?_
       ·refine Zv 2 fun a U=>?_;refine dI ?_;refine dI ?_;refine dI ?_;refine dv ?_;refine dv ?_;refine dI ?_;refine dv ?_;refine qC U rfl rfl rfl ?_;have O:=O.d [0,0];obtain⟨g,rfl⟩:∃g,f=g+1:=⟨f - 1,V⟩;refine⟨?_,O⟩;have hbig:255<mB ((t.drop (i+1)).takeWhile cF) 0:=by rcases hpu (hDn V) with ⟨_,_,a3⟩| ⟨a1,_⟩;rw[a3] at bN;exact absurd bN.2 aw;exact a1
        rw[←hr,Xj V ay aT (Pn hkD V) (SS V) V]
        rfl
       ·refine Zi 4 (fun a U db=>?_) fun a U db=>?_
        ·obtain⟨EI,vF⟩:n=mB ((t.drop (i+1)).takeWhile cF) 0∧n≤255:=by rcases hpu (hDn V) with ⟨a1,a2,_⟩| ⟨_,a2⟩;exact⟨a1,a2⟩;exact absurd ⟨db,a2⟩ bN
         refine Zv 1 fun a U=>?_;refine aZ U (Fw underlying171 underlying5 rfl (U.af rfl) (WE vF)) fun a U=>?_;refine Yc 0 (Df _ _ _ _ _ (UInt8.ofNat n) V ho O.aI) fun bv2 a w O U=>?_;obtain⟨g,rfl⟩:∃g,f=g+1:=⟨f - 1,V⟩;refine Zv 6 fun a U=>?_;exact⟨(g,out++[UInt8.ofNat n],i+1+k,some (aa bb),bv2),⟨⟨(O_ V ay aT (Pn hkD V) (by rw[SS V,hkD,←EI]) vF).symm.trans hr,V,V,V,by rw[List.length_append,List.length_singleton];omega,.inr rfl⟩,O,U.sub ⟨rfl,rfl,(congrArg some (congrArg i64 (ik i k))),trivial⟩⟩,by dsimp only;omega⟩
        ·have dB:¬((i:Int)+1<t.length∧cF (t.getD (i+1) 0)=true):=amR hkD db;refine Zv 2 fun a U=>?_;refine aZ U (iG (m:=i+1) underlying9 rfl (U.af rfl) (U.af rfl) V) fun a U=>?_;refine Zi 2 (fun a U d_=>?_) fun a U d_=>?_
         ·refine Yc 0 (Df _ _ _ _ _ 10 V ho O.aI) fun bv2 a w O U=>?_;obtain⟨g,rfl⟩:∃g,f=g+1:=⟨f - 1,V⟩;refine Zv 3 fun a U=>?_;exact⟨(g,out++[10],i+2,some (aa bb),bv2),⟨⟨(Al (c:=10) V ay aT dB (LH V (.inl d_)) (Td d_)).symm.trans hr,V,V,V,by rw[List.length_append,List.length_singleton];omega,.inr rfl⟩,O,U.su⟩,by dsimp only;omega⟩
         ·refine Zv 2 fun a U=>?_;refine aZ U (iG (m:=i+1) underlying9 rfl (U.af rfl) (U.af rfl) V) fun a U=>?_;refine Zi 2 (fun a U eA=>?_) fun a U eA=>?_
          ·refine Yc 0 (Df _ _ _ _ _ 9 V ho O.aI) fun bv2 a w O U=>?_;obtain⟨g,rfl⟩:∃g,f=g+1:=⟨f - 1,V⟩;refine Zv 3 fun a U=>?_;exact⟨(g,out++[9],i+2,some (aa bb),bv2),⟨⟨(Al (c:=9) V ay aT dB (LH V (.inr (.inl eA))) (Vr d_ eA)).symm.trans hr,V,V,V,by rw[List.length_append,List.length_singleton];omega,.inr rfl⟩,O,U.su⟩,by dsimp only;omega⟩
          ·refine Zv 2 fun a U=>?_;refine aZ U (iG (m:=i+1) underlying9 rfl (U.af rfl) (U.af rfl) V) fun a U=>?_;refine Zw 4 fun a U=>?_;refine cG U rfl rfl rfl rfl rfl rfl (fun hg=>iG (m:=i+1) underlying9 rfl ((U.af rfl).trans (a6 hg)) ((U.af rfl).trans (a6 hg)) V) fun a U=>?_;refine Zw 3 fun a U=>?_;refine Zi 0 (fun gE=>?_) fun gE=>?_
           ·refine Zv 2 fun a U=>?_;refine aZ U (iG (m:=i+1) underlying9 rfl (U.af rfl) (U.af rfl) V) fun a U=>?_;refine Yc 0 (Df _ _ _ _ _ (t.getD (i+1) 0) V ho O.aI) fun bv2 a w O U=>?_;obtain⟨g,rfl⟩:∃g,f=g+1:=⟨f - 1,V⟩;refine Zv 3 fun a U=>?_;exact⟨(g,out++[gt t (i+1)],i+2,some (aa bb),bv2),⟨⟨(Al V ay aT dB (LH V (.inr (.inr gE))) (V2 d_ eA)).symm.trans hr,V,V,V,by rw[List.length_append,List.length_singleton];omega,.inr rfl⟩,O,U.su⟩,by dsimp only;omega⟩
           ·refine Zv 2 fun a U=>?_;refine dI ?_;refine dI ?_;refine dI ?_;refine dv ?_;refine dv ?_;refine dI ?_;refine dv ?_;refine qC U rfl rfl rfl ?_;have O:=O.d [0,0];obtain⟨g,rfl⟩:∃g,f=g+1:=⟨f - 1,V⟩;refine⟨?_,O⟩;rw[←hr,Oo V ay aT dB (amz d_ eA gE)]
            rfl
 ·refine Zv 2 fun a U=>?_;refine qC U rfl rfl rfl ?_;have O:=O.d [0,0];refine⟨?_,O⟩;rw[←hr,ZX ao]
  rfl
section
variable {s:List UInt8} {aj n:Nat}
def WC (hn:0<n):(cQ s aj n).getD 0 0=s.getD aj 0:=by
 have:=WZ (s:=s) (aj:=aj) (n:=n) (k:=0) hn
 rwa [Nat.add_zero] at this
def XG (hn:1≤n):((65:Int)≤(((cQ s aj n).getD 0 0).toNat:Int)∧(((cQ s aj n).getD 0 0).toNat:Int)≤90)↔(65≤gt s aj∧gt s aj≤90):=by
 rw[WC hn];exact JR 65 90
def S2 (hn:1≤n):(((cQ s aj n).getD 0 0).toNat:Int)=58↔gt s aj=58:=by
 rw[WC hn];exact yE 58 rfl
def Xf:((1:Int)< (bo s aj 2:Nat)∧Lib.trimB (cQ s aj (bo s aj 2)) 45=[])↔((cQ s aj (bo s aj 2)).all (fun c=>c=45)=true∧2≤bo s aj 2):=by
 rw[arX];constructor
 ·rintro⟨h,h2⟩;exact⟨h2,V⟩
 ·rintro⟨h,h2⟩;exact⟨V,h⟩
end
def aqb (Z:World)(b:Nat)(s:List UInt8)(aj:Nat)(hs:s.length≤16384)(x1 x2 x3:Value)(hB:Rd Z [] (mX b) 4 1 [str (s.drop aj),x1,x2,x3]):aH prog 184 #[ptr (aa b),.func (.func 204) #[] #[]] Z (fun v w'=>v=i64 (bo s aj 0)∧St Z [] w' []):=
 Gp Z b 204 (s.drop aj) (by rw[gI];omega) x1 x2 x3 hB (fC 0) call204 (fun w c=>asd w c)
def anu (Z:World)(b:Nat)(s:List UInt8)(aj:Nat)(hs:s.length≤16384)(x1 x2 x3:Value)(hB:Rd Z [] (mX b) 4 1 [str (s.drop aj),x1,x2,x3]):aH prog 184 #[ptr (aa b),.func (.func 183) #[] #[]] Z (fun v w'=>v=i64 (bo s aj 1)∧St Z [] w' []):=
 Gp Z b 183 (s.drop aj) (by rw[gI];omega) x1 x2 x3 hB (fC 1) call183 (fun w c=>by rw[D2 rfl];exact Iv w c)
def am3 (Z:World)(b:Nat)(s:List UInt8)(aj:Nat)(hs:s.length≤16384)(x1 x2 x3:Value)(hB:Rd Z [] (mX b) 4 1 [str (s.drop aj),x1,x2,x3]):aH prog 184 #[ptr (aa b),.func (.func 186) #[] #[]] Z (fun v w'=>v=i64 (bo s aj 2)∧St Z [] w' []):=
 Gp Z b 186 (s.drop aj) (by rw[gI];omega) x1 x2 x3 hB (fC 2) call186 (fun w c=>by rw[Ot rfl];exact QQ w c)
def alz (Z:World)(b:Nat)(s:List UInt8)(aj:Nat)(hs:s.length≤16384)(x1 x2 x3:Value)(hB:Rd Z [] (mX b) 4 1 [str (s.drop aj),x1,x2,x3]):aH prog 184 #[ptr (aa b),.func (.func 209) #[] #[]] Z (fun v w'=>v=i64 (bo s aj 3)∧St Z [] w' []):=
 Gp Z b 209 (s.drop aj) (by rw[gI];omega) x1 x2 x3 hB (fC 3) call209 (fun w c=>art w c)
set_option maxHeartbeats 1000000 in
def anN (Z:World)(bs:Nat)(s:List UInt8)(aj:Nat)(vo:Value)(out:List Tok)(hs:s.length≤16384)(hol:out.length≤aj)(hA:bT Z [.ob bs 143 (jX s (aj) vo),ax vo 44 aM out])(h1:aj<s.length)(h6:H6 s aj):aH prog 182 #[ptr (aa bs)] Z (fun v w'=>∃vo2,v=i64 0∧St Z (az [.ob bs 143 (jX s (aj) vo),ax vo 44 aM out]) w' [.ob bs 143 (jX s (aj+bo s aj 0) vo2),ax vo2 44 aM (out++[⟨(if u_.contains (cQ s aj (bo s aj 0)) then 7 else if (cQ s aj (bo s aj 0))=[95] then 8 else if 65≤gt s aj∧gt s aj≤90 then 2 else 1:Int),(cQ s aj (bo s aj 0)),0,(cH s aj).1,(cH s aj).2⟩])]):=by
 have O:=St.init hA;have hb:=vv s aj;have hrl:=nh s aj 0;have lJ:=vS h1 h6;refine aS func182 ntmps182 fun a U=>?_;refine Yc 2 (aqb _ _ _ _ hs _ _ _ (O.Cw 0 rfl)) fun a w O U=>?_;refine Zv 6 fun a U=>?_;refine aZ U (Bp (j:=(bo s aj 0)) underlying9 rfl (U.af rfl) (U.af rfl) (by rw[gI];omega)) fun a U=>?_;rw[zg] at U;refine Zn 2 fun a U=>?_;refine k9 ?_;refine jx ?_;refine tw (fun (kd:Int) a w'=>(kd=(if u_.contains (cQ s aj (bo s aj 0)) then 7 else if (cQ s aj (bo s aj 0))=[95] then 8 else if 65≤gt s aj∧gt s aj≤90 then 2 else 1:Int))∧St Z (az [.ob bs 143 (jX s (aj) vo),ax vo 44 aM out]) w' [.ob bs 143 (jX s (aj) vo),ax vo 44 aM out]∧Fr a 34 [(0,ptr (aa bs)),(3,i64 (bo s aj 0)),(4,str (cQ s aj (bo s aj 0))),(5,i64 kd)]) ?_ ?_
 ·refine Yc 1 (ajZ _ _) fun a w O U=>?_;refine Zj 1 (fun a U ao=>?_) fun a U ao=>?_
  ·refine Zv 1 fun a U=>?_;exact⟨7,⟨(if_pos ao).symm,O,U.su⟩⟩
  ·refine Zi 3 (fun a U ay=>?_) fun a U ay=>?_
   ·refine Zv 1 fun a U=>?_;exact⟨8,⟨by rw[if_neg ao,if_pos ay],O,U.su⟩⟩
   ·refine Zv 1 fun a U=>?_;refine aZ U (iG (m:=0) underlying9 rfl (U.af rfl) (U.af rfl) (by rw[qW V];omega)) fun a U=>?_;refine Zw 3 fun a U=>?_;refine cG U rfl rfl rfl rfl rfl rfl (fun hg=>iG (m:=0) underlying9 rfl ((U.af rfl).trans (a6 hg)) (U.af rfl) (by rw[qW V];omega)) fun a U=>?_;refine Zw 3 fun a U=>?_;refine Zi 0 (fun aF=>?_) fun aF=>?_
    ·refine Zv 1 fun a U=>?_;exact⟨2,⟨by rw[if_neg ao,if_neg ay,if_pos ((XG lJ).1 aF)],O,U.su⟩⟩
    ·refine Zv 0 ?_;exact⟨1,⟨by rw[if_neg ao,if_neg ay,if_neg (fun h=>aF ((XG lJ).2 h))],O,U.su⟩⟩
 ·rintro kd a w ⟨rfl,O,U⟩;refine Yc 4 (Ay _ _ _ _ _ _ hs V O.aI _ _ _ ((bo s aj 0)) V) fun vo2 a w O U=>?_;refine Zr 1 ?_;exact⟨_,rfl,O⟩
set_option maxHeartbeats 1000000 in
def ab3 (Z:World)(bs:Nat)(s:List UInt8)(aj:Nat)(vo:Value)(out:List Tok)(hs:s.length≤16384)(hol:out.length≤aj)(hA:bT Z [.ob bs 143 (jX s (aj) vo),ax vo 44 aM out])(h1:aj<s.length)(h13:j1 (s.getD aj 0)=true):aH prog 187 #[ptr (aa bs)] Z (fun v w'=>∃vo2,v=i64 0∧((((cQ s aj (bo s aj 2)).all (fun c=>c=45)=true∧2≤bo s aj 2)∧St Z (az [.ob bs 143 (jX s (aj) vo),ax vo 44 aM out]) w' [.ob bs 143 (jX s (aj+bo s aj 3) vo2),ax vo2 44 aM out])∨(¬((cQ s aj (bo s aj 2)).all (fun c=>c=45)=true∧2≤bo s aj 2)∧St Z (az [.ob bs 143 (jX s (aj) vo),ax vo 44 aM out]) w' [.ob bs 143 (jX s (aj+bo s aj 2) vo2),ax vo2 44 aM (out++[⟨(if xB.contains (cQ s aj (bo s aj 2)) then 8 else if gt s aj=58 then 4 else 3:Int),(cQ s aj (bo s aj 2)),0,(cH s aj).1,(cH s aj).2⟩])]))):=by
 have O:=St.init hA;have hb:=vv s aj;have hrl:=nh s aj 2;have anl:=nh s aj 3;have lJ:=yW h1 h13;refine aS func187 ntmps187 fun a U=>?_;refine Yc 2 (am3 _ _ _ _ hs _ _ _ (O.Cw 0 rfl)) fun a w O U=>?_;refine Zv 6 fun a U=>?_;refine aZ U (Bp (j:=(bo s aj 2)) underlying9 rfl (U.af rfl) (U.af rfl) (by rw[gI];omega)) fun a U=>?_;rw[zg] at U;refine Zn 2 fun a U=>?_;refine k9 ?_;refine jx ?_;refine tw (fun (kd:Int) a w'=>(kd=(if xB.contains (cQ s aj (bo s aj 2)) then 8 else if gt s aj=58 then 4 else 3:Int)∧¬((cQ s aj (bo s aj 2)).all (fun c=>c=45)=true∧2≤bo s aj 2))∧St Z (az [.ob bs 143 (jX s (aj) vo),ax vo 44 aM out]) w' [.ob bs 143 (jX s (aj) vo),ax vo 44 aM out]∧Fr a 38 [(0,ptr (aa bs)),(3,i64 (bo s aj 2)),(4,str (cQ s aj (bo s aj 2))),(5,i64 kd)]) ?_ ?_
 ·refine Zw 4 fun a U=>?_;refine fS O U rfl rfl rfl rfl rfl rfl (fun hg=>jo U rfl rfl (je trivial) call208 (abk _ _ (by rw[qW V];omega))) fun a w O U=>?_;refine Zw 3 fun a U=>?_;refine Zi 0 (fun ao=>?_) fun ao=>?_
  ·have hda:=(Xf (s:=s) (aj:=aj)).1 ao;refine Yc 2 (alz _ _ _ _ hs _ _ _ (O.Cw 0 rfl)) fun a w O U=>?_;refine Yc 0 (G0 _ _ _ _ _ hs O.aB ((bo s aj 3)) V) fun a w O U=>?_;refine Zr 1 ?_;exact⟨_,rfl,.inl ⟨hda,O⟩⟩
  ·have hda:=fun h=>ao ((Xf (s:=s) (aj:=aj)).2 h);refine Yc 1 (anW _ _) fun a w O U=>?_;refine Zj 1 (fun a U ay=>?_) fun a U ay=>?_
   ·refine Zv 1 fun a U=>?_;exact⟨8,⟨⟨(if_pos ay).symm,hda⟩,O,U.su⟩⟩
   ·refine Zv 1 fun a U=>?_;refine aZ U (iG (m:=0) underlying9 rfl (U.af rfl) (U.af rfl) (by rw[qW V];omega)) fun a U=>?_;refine Zi 2 (fun a U aF=>?_) fun a U aF=>?_
    ·refine Zv 1 fun a U=>?_;exact⟨4,⟨⟨by rw[if_neg ay,if_pos ((S2 lJ).1 aF)],hda⟩,O,U.su⟩⟩
    ·refine Zv 0 ?_;exact⟨3,⟨⟨by rw[if_neg ay,if_neg (fun h=>aF ((S2 lJ).2 h))],hda⟩,O,U.su⟩⟩
 ·rintro kd a w ⟨⟨rfl,hda⟩,O,U⟩;refine Yc 4 (Ay _ _ _ _ _ _ hs V O.aI _ _ _ ((bo s aj 2)) V) fun vo2 a w O U=>?_;refine Zr 1 ?_;exact⟨_,rfl,.inr ⟨hda,O⟩⟩
def uy (s:List UInt8)(aj:Nat)(out:List Tok)(e:Int)(n2:Nat)(eT:List Tok):Prop:=
 (match eB s aj with
   | .skip n=>e=0∧n2=n∧eT=out
   | .tok k t v n=>e=0∧n2=n∧eT=out++[⟨k,t,v,(cH s aj).1,(cH s aj).2⟩]
   | .bad x=>e=x∧e≠0∧n2=0∧eT=out)∧aj+n2≤s.length∧(e=0→1≤n2)∧eT.length≤aj+n2
section
variable {s:List UInt8} {aj n:Nat} {out:List Tok}
def NL (h:eB s aj=.skip n)(h1:1≤n)(h2:aj+n≤s.length)(h3:out.length≤aj):uy s aj out 0 n out:=by
 unfold uy;rw[h];exact⟨⟨rfl,rfl,rfl⟩,h2,fun _=>h1,V⟩
def B8 {k v:Int}{t:List UInt8}(h:eB s aj=.tok k t v n)(h1:1≤n)(h2:aj+n≤s.length)(h3:out.length≤aj):uy s aj out 0 n (out++[⟨k,t,v,(cH s aj).1,(cH s aj).2⟩]):=by
 unfold uy;rw[h];exact⟨⟨rfl,rfl,rfl⟩,h2,fun _=>h1,by rw[bt,List.length_singleton];omega⟩
def Gc {e:Int}(h:eB s aj=.bad e)(h1:e≠0)(h2:aj≤s.length)(h3:out.length≤aj):uy s aj out e 0 out:=by
 unfold uy;rw[h];exact⟨⟨rfl,h1,rfl,rfl⟩,h2,fun h=>absurd h h1,h3⟩
def abo {g n2:Nat}{eT:List Tok}(h1:aj<s.length)(h:uy s aj out 0 n2 eT):h_ s (g+1) aj out=h_ s g (aj+n2) eT∧aj+n2≤s.length∧eT.length≤aj+n2∧1≤n2:=by
 obtain⟨h2,h3,h4,h5⟩:=h;refine⟨?_,h3,h5,h4 rfl⟩;rw[h_,if_pos h1]
 cases hl:eB s aj with
 |skip n=>rw[hl] at h2;obtain⟨_,rfl,rfl⟩:=h2;rfl
 |tok k t v n=>rw[hl] at h2;obtain⟨_,rfl,rfl⟩:=h2;rfl
 |bad x=>rw[hl] at h2;exact absurd rfl h2.2.1
def ap6 {e:Int}{n2:Nat}{eT:List Tok}(h:uy s aj out e n2 eT)(he:¬e=0):eB s aj=.bad e∧n2=0∧eT=out:=by
 obtain⟨h2,h3,h4,h5⟩:=h
 cases hl:eB s aj with
 |skip n=>rw[hl] at h2;exact absurd h2.1 he
 |tok k t v n=>rw[hl] at h2;exact absurd h2.1 he
 |bad x=>rw[hl] at h2;obtain⟨rfl,_,rfl,rfl⟩:=h2;exact⟨rfl,rfl,rfl⟩
def Up:((2≤(s.drop aj).length)∧(s.drop aj).take 2=[123,45])↔H4 s aj:=by
 rw[i4];have e:(s.drop aj).take 2=(s.take (aj+2)).drop aj:=by rw[List.drop_take,Nat.add_sub_cancel_left]
 rw[e,gI];constructor
 ·rintro⟨h,h2⟩;have h3:=(Bs (s:=s) (i:=aj) V 123 45).1 h2;exact⟨h3.1,V,h3.2⟩
 ·rintro⟨h,h2,h3⟩;exact⟨V,(Bs h2 123 45).2 ⟨h,h3⟩⟩
def ZG {b:UInt8}:(0:Int)≤Lib.indexByte pH b↔pH.contains b=true:=by
 have:=apT b;rw[←this,decide_eq_true_iff]
def apk (h:1≤n)(h2:aj+n≤s.length):cQ s aj n≠[]:=fun e=>by
 have:=qW h2;rw[e] at this;simp at this;omega
def anT:∀c∈cQ s aj (bo s aj 1),cF c=true:=by
 have e:cQ s aj (bo s aj 1)=(s.drop aj).takeWhile cF:=by
  have h:∀l:List UInt8,l.take (l.takeWhile cF).length=l.takeWhile cF:=by
   intro l
   induction l with
   |nil=>rfl
   |cons c r ih=>
    rw[List.takeWhile_cons]
    split
    ·rw[bg,List.take_succ_cons,ih]
    ·rfl
  rw[←zg];have h2:bo s aj 1=((s.drop aj).takeWhile cF).length:=by
   unfold bo;rw[show fC 1=cF from funext fun c=>D2 rfl]
  rw[h2,h]
 rw[e];exact fun c hc=>QU c hc
def ahh {l:List UInt8}{nv:Int}{er:Option (TypeId×Value)}(h:(∃k:Nat,iU l 0=some k∧nv=k∧er=none)∨(iU l 0=none∧er.isSome=true))(he:er.isSome=true):iU l 0=none:=by
 rcases h with ⟨_,_,_,rfl⟩|h
 ·cases he
 ·exact h.1
def apw {l:List UInt8}{nv:Int}{er:Option (TypeId×Value)}(h:(∃k:Nat,iU l 0=some k∧nv=k∧er=none)∨(iU l 0=none∧er.isSome=true))(he:¬er.isSome=true):∃k:Nat,iU l 0=some k∧nv=k:=by
 rcases h with ⟨k,h1,h2,_⟩|h
 ·exact⟨k,h1,h2⟩
 ·exact absurd h.2 he
def GS (s:List UInt8)(i:Nat):∀(f:Nat) (out:List UInt8) (j:Nat),fu (s.drop i) f out j=(fu s f out (i+j)).map fun p=>(p.1,p.2 - i)
 |0,_,_=>rfl
 |f+1,out,j=>by
  have e1:gt (s.drop i) j=gt s (i+j):=pF s i j;have e2:gt (s.drop i) (j+1)=gt s (i+j+1):=pF s i (j+1);unfold fu;rw[e1,e2,GS s i f _ (j+1),GS s i f _ (j+2)]
  by_cases h1:i+j<s.length
  ·rw[if_pos (show j< (s.drop i).length by rw[gI];omega),if_pos h1]
   split
   ·simp only[Option.map_some];congr 2;omega
   ·split
    ·split
     ·rfl
     ·rfl
    ·by_cases h2:i+j+1<s.length∧cF (gt s (i+j+1))=true
     ·rw[if_pos (show j+1< (s.drop i).length∧_ from⟨by rw[gI];omega,h2.2⟩),if_pos h2];have hd:=Z6 s i (j+1) 0 V;rw[hd];have hle:=K5 (s:=s) s.length 0 (i+(j+1)) V;show (if 255< (iz s s.length 0 (i+(j+1))).1 then none else fu (s.drop i) f _ ((iz s s.length 0 (i+(j+1))).2 - i))=Option.map _ (if 255< (iz s s.length 0 (i+j+1)).1 then none else _);rw[GS s i f,show i+((iz s s.length 0 (i+(j+1))).2 - i)=(iz s s.length 0 (i+(j+1))).2 by omega];show (if 255< (iz s s.length 0 (i+j+1)).1 then none else _)=_
      split
      ·rfl
      ·rfl
     ·rw[if_neg (show ¬(j+1< (s.drop i).length∧_) from fun h=>h2 ⟨by have:=h.1;rw[gI] at this;omega,h.2⟩),if_neg h2]
      by_cases h3:s.length≤i+j+1∨vJ.contains (gt s (i+j+1))=false
      ·rw[if_pos (show (s.drop i).length≤j+1∨_ from h3.imp (fun h=>by rw[gI];omega) id),if_pos h3];rfl
      ·rw[if_neg (show ¬((s.drop i).length≤j+1∨_) from fun h=>h3 (h.imp (fun h=>by rw[gI] at h;omega) id)),if_neg h3];rfl
  ·rw[if_neg (show ¬j< (s.drop i).length by rw[gI];omega),if_neg h1];rfl
def anK (s:List UInt8)(i:Nat):fu (s.drop i) (s.length+1) [] 1=lq s i:=GS s i _ _ _
end
def adf (Z:World)(s:List UInt8)(aj:Nat)(hs:s.length≤16384):aH prog 180 #[str (s.drop aj)] Z (fun v w'=>∃n:Int,v=i64 n∧GQ s aj n∧St Z [] w' []):=
 (ah0 Z (s.drop aj) (by rw[gI];omega) (s.length+1) (by rw[gI];omega)).mono fun v w' ⟨hv,hS⟩=>by
  rw[aot] at hv
  cases h:nq s aj with
  |none=>rw[h] at hv;exact⟨_,hv,.inl ⟨h,rfl⟩,hS⟩
  |some k=>rw[h] at hv;exact⟨_,hv,.inr ⟨k,h,rfl⟩,hS⟩
def abj (Z:World)(s:List UInt8)(aj:Nat)(hs:s.length≤16384)(h1:aj<s.length)(hG:cL Z []):aH prog 189 #[str (s.drop aj)] Z (fun v w'=>∃t,∃n:Int,v=.tuple #[str t,i64 n]∧FG s aj t n∧St Z [] w' []):=
 (ajP Z (s.drop aj) (by rw[gI];omega) (by rw[gI];omega) (s.length+1) (by rw[gI];omega) hG).mono fun v w' ⟨hv,hS⟩=>by
  rw[anK] at hv
  cases h:lq s aj with
  |none=>rw[h] at hv;exact⟨_,_,hv,.inl ⟨h,rfl⟩,hS⟩
  |some p=>rw[h] at hv;exact⟨_,_,hv,.inr ⟨p.2,h,rfl⟩,hS⟩
def amt (Z:World)(bs:Nat)(s:List UInt8)(aj:Nat)(vo:Value)(out:List Tok)(hs:s.length≤16384)(hol:out.length≤aj)(hA:bT Z [.ob bs 143 (jX s (aj) vo),ax vo 44 aM out])(h1:aj<s.length)(hG:cL Z (az [.ob bs 143 (jX s (aj) vo),ax vo 44 aM out])):aH prog 149 #[ptr (aa bs)] Z (fun v w'=>∃vo2 e n2 eT,v=i64 e∧uy s aj out (e) (n2) (eT)∧St Z (az [.ob bs 143 (jX s (aj) vo),ax vo 44 aM out]) w' [.ob bs 143 (jX s (aj+n2) vo2),ax vo2 44 aM eT]):=by
 have O:=St.init hA;have hb:=vv s aj;have ak3:=nh s aj 1;have au_:=hol;refine aS func149 ntmps149 fun a U=>?_;refine Zv 5 fun a U=>?_;refine aZ U (iG (m:=0) underlying9 rfl (U.af rfl) (U.af rfl) (by rw[gI];omega)) fun a U=>?_;rw[show (s.drop aj).getD 0 0=s.getD aj 0 from pF s aj 0] at U;refine Zw 8 fun a U=>?_;refine Zi 0 (fun ao=>?_) fun ao=>?_
 ·refine Yc 1 (G0 _ _ _ _ _ hs O.aB (1) V) fun a w O U=>?_;refine Zr 1 ?_;exact⟨_,0,1,out,rfl,NL (Qp ao) V V V,O⟩
 ·refine Zv 4 fun a U=>?_;refine eP U (dY U rfl rfl (ame _ _ _ (by rw[gI];omega) ai)) ?_;rintro a _ w ⟨rfl,hS⟩ U;have O:=O.k0 hS;refine Zj 1 (fun a U ay=>?_) fun a U ay=>?_
  ·have h4:=Up.1 (j4 ay);refine Yc 4 (adf _ _ _ hs) fun rn hrm a w O U=>?_;refine Zi 3 (fun a U aF=>?_) fun a U aF=>?_
   ·refine Zr 1 ?_;exact⟨_,14,0,out,rfl,Gc (by rw[Fz ao h4,WU hrm aF]) ai V V,O⟩
   ·obtain⟨k,hkm,rfl⟩:=Sx s aj hrm aF;have tF:=Hn hkm;refine Yc 2 (G0 _ _ _ _ _ hs O.aB (k) V) fun a w O U=>?_;refine Zr 1 ?_;exact⟨_,0,k,out,rfl,NL (by rw[Fz ao h4,hkm]) V V V,O⟩
  ·have h4:=fun h=>ay (decide_eq_true (Up.2 h));refine Yc 1 (VA _ _) fun a w O U=>?_;refine Zw 3 fun a U=>?_;refine aZ U (r_ rfl (U.af rfl) (eN _) (fun dV=>((U.af rfl).trans (a6 dV))) rfl) fun a U=>?_;refine Zi 1 (fun a U aT=>?_) fun a U aT=>?_
   ·refine Yc 1 (anN _ _ _ _ _ _ hs V O.aI h1 aT) fun vo2 a w O U=>?_;refine Zr 1 ?_;exact⟨_,0,(bo s aj 0),_,rfl,B8 (EH ao h4 aT rfl) (vS h1 aT) (by have:=nh s aj 0;omega) V,O⟩
   ·refine Yc 1 (Iv _ _) fun a w O U=>?_;refine Zj 1 (fun a U bm=>?_) fun a U bm=>?_
    ·have SK:=JU h1 bm;refine Yc 1 (anu _ _ _ _ hs _ _ _ (O.Cw 0 rfl)) fun a w O U=>?_;refine Zv 6 fun a U=>?_;refine aZ U (Bp (j:=(bo s aj 1)) underlying9 rfl (U.af rfl) (U.af rfl) (by rw[gI];omega)) fun a U=>?_;rw[zg] at U;refine Yc 0 (ajS _ _ (by rw[qW V];omega) (apk SK V) anT (hG.ba O)) fun nv er hnum a w O U=>?_;refine Zv 6 fun a U=>?_;refine aZ U (UJ underlying158 rfl (U.af rfl)) fun a U=>?_;refine Zj 0 (fun bl=>?_) fun bl=>?_
     ·refine Zr 1 ?_;exact⟨_,12,0,out,rfl,Gc (by rw[Hz ao h4 aT bm,ahh hnum bl]) ai V V,O⟩
     ·refine Zv 6 fun a U=>?_;refine aZ U (Bp (j:=(bo s aj 1)) underlying9 rfl (U.af rfl) (U.af rfl) (by rw[gI];omega)) fun a U=>?_;rw[zg] at U;refine Yc 2 (Ay _ _ _ _ _ _ hs V O.aI _ _ _ ((bo s aj 1)) V) fun vo2 a w O U=>?_;refine Zr 1 ?_;obtain⟨kn,hkn,rfl⟩:=apw hnum bl;exact⟨_,0,(bo s aj 1),_,rfl,B8 (by rw[Hz ao h4 aT bm,hkn]) SK V V,O⟩
    ·refine Yc 1 (QQ _ _) fun a w O U=>?_;refine Zj 1 (fun a U bN=>?_) fun a U bN=>?_
     ·refine Zc 1 (ab3 _ _ _ _ _ _ hs V O.aI h1 bN) ?_;rintro a _ w ⟨vo2,rfl,hop⟩ U;refine Zr 1 ?_;rcases hop with ⟨hda,hS⟩| ⟨hda,hS⟩
      ·exact⟨_,0,(bo s aj 3),out,rfl,NL (SI ao h4 aT bm bN hda) (OZ h1 bN) (by have:=nh s aj 3;omega) V,O.call2 hS⟩
      ·exact⟨_,0,(bo s aj 2),_,rfl,B8 (F2 ao h4 aT bm bN hda rfl) (yW h1 bN) (by have:=nh s aj 2;omega) V,O.call2 hS⟩
     ·refine Yc 1 (Qa _ _ _) fun a w O U=>?_;refine Zi 2 (fun a U db=>?_) fun a U db=>?_
      ·have h18:=(ZG (b:=s.getD aj 0)).1 db;refine Zv 5 fun a U=>?_;refine aZ U (Bp (j:=1) underlying9 rfl (U.af rfl) (U.af rfl) (by rw[gI];omega)) fun a U=>?_;rw[zg] at U;refine Yc 0 (Ay _ _ _ _ _ _ hs V O.aI _ _ _ (1) V) fun vo2 a w O U=>?_;refine Zr 1 ?_;exact⟨_,0,1,_,rfl,B8 (Ra ao h4 aT bm bN h18) V V V,O⟩
      ·have h18:=fun h=>db ((ZG (b:=s.getD aj 0)).2 h);refine Zi 3 (fun a U d_=>?_) fun a U d_=>?_
       ·refine Yc 4 (abj _ _ _ hs h1 (hG.ba O)) fun tt tn htx a w O U=>?_;refine Zi 7 (fun a U eA=>?_) fun a U eA=>?_
        ·refine Zr 1 ?_;exact⟨_,13,0,out,rfl,Gc (by rw[Iq ao h4 aT bm bN h18 d_,Vt htx eA]) ai V V,O⟩
        ·obtain⟨k,hkm,rfl⟩:=Xz s aj htx eA;have tF:=JF hkm;refine Yc 3 (Ay _ _ _ _ _ _ hs V O.aI _ _ _ (k) V) fun vo2 a w O U=>?_;refine Zr 1 ?_;exact⟨_,0,k,_,rfl,B8 (by rw[Iq ao h4 aT bm bN h18 d_,hkm]) V V V,O⟩
       ·refine Zr 1 ?_;exact⟨_,11,0,out,rfl,Gc (TX ao h4 aT bm bN h18 d_) ai V V,O⟩
def aba {s:List UInt8}{aj:Nat}(h:¬s.drop aj=[]):aj<s.length:=by
 apply Classical.byContradiction;intro h2;exact h (List.drop_of_length_le V)
def aho {s:List UInt8}{aj:Nat}(hal:aj≤s.length)(h:¬¬s.drop aj=[]):aj=s.length:=by
 have h:=Classical.not_not.1 h;have:=congrArg List.length h;rw[gI,bp] at this;omega
def agf (Z:World)(s:List UInt8)(hG:cL Z []):aH prog 112 #[str s] Z (fun v w'=>∃va l d,fR s=(l,d)∧v=.tuple #[va,.agg (dZ d).toArray]∧St Z [] w' [ax va 44 aM l]):=by
 have O:=St.bL Z;refine aS func112 ntmps112 fun a U=>?_;refine Zb 5 fun dg a w O U=>?_;refine Zi 0 (fun ao=>?_) fun ao=>?_
 ·refine Zs 3 fun a w O U=>?_;refine dv ?_;refine qp U rfl rfl rfl isAgg31 sizeOf31 (O.cells 0 rfl) rfl ?_;exact⟨_,[],_,by rw[fR,if_pos V],rfl,by exact ((O.eI 44 5).only)⟩
 ·have hs:s.length≤16384:=V
  refine Zb 3 fun sc a w O U=>?_;have O:=O.eI 44 5;have O:=O.pull 1 rfl;refine Zv 1 fun a U=>?_;have O:=O.nm;refine cl (fun (x:Nat×Nat×List Tok×Value) a w'=>match x with| (f,aj,out,vo)=>(h_ s f aj out=h_ s (s.length+1) 0 []∧aj≤s.length∧s.length<aj+f∧out.length≤aj)∧St Z [] w' [.ob sc 143 (jX s (aj) vo),ax vo 44 aM out,.ob dg 31 [str [],i64 0,i64 0,i64 0]]∧Fr a 39 [(0,str s),(3,ptr (aa dg)),(4,ptr (aa sc))]) (fun (x:Nat×Nat×List Tok×Value)=>match x with| (f,aj,out,vo)=>f) (s.length+1,0,[],_) ⟨⟨rfl,V,V,aw⟩,O,U.su⟩ ?_;rintro⟨f,aj,out,vo⟩ a w ⟨⟨hr,hal,hf,hol⟩,O,U⟩;refine Zi 5 (fun a U ay=>?_) fun a U ay=>?_
  ·have h1:=aba ay;refine Yc 1 (amt _ _ _ _ _ _ hs hol O.aI V (hG.df O)) fun vo2 e n2 eT hnx a w O U=>?_;refine Zi 3 (fun a U aF=>?_) fun a U aF=>?_
   ·refine Zd 0 [0,0,0,1,0,0,0,1,0,0,0,3] fun w O=>?_;refine Zs 12 fun a w O U=>?_;refine dI ?_;refine dv ?_;refine dI ?_;refine dv ?_;refine qp U rfl rfl rfl isAgg31 sizeOf31 (O.cells 2 rfl) rfl ?_;obtain⟨g,rfl⟩:∃g,f=g+1:=⟨f - 1,V⟩;obtain⟨hlx,hn0,_⟩:=ap6 hnx aF;have hrd:=B2 h1 hr hs hlx;rw[←show aj+n2=aj by omega] at hrd;exact⟨_,[],_,hrd,rfl,by exact ((O.eI 44 5).only)⟩
   ·obtain rfl:e=0:=Classical.not_not.1 aF;obtain⟨g,rfl⟩:∃g,f=g+1:=⟨f - 1,V⟩;obtain⟨OT,Ca,hq3,hq4⟩:=abo h1 hnx;refine Zv 0 ?_;exact⟨(g,aj+n2,eT,vo2),⟨⟨OT.symm.trans hr,Ca,V,hq3⟩,O,U.su⟩,by dsimp only;omega⟩
  ·have h1:=aho hal ay;refine Yc 1 (Ay _ _ _ _ _ _ hs V O.aI _ _ _ (0) V) fun vo2 a w O U=>?_;refine Zs 7 fun a w O U=>?_;refine qp U rfl rfl rfl isAgg31 sizeOf31 (O.cells 2 rfl) rfl ?_;have O:=O.pull 1 rfl;exact⟨_,_,_,RC V hf hal hr hs,rfl,O.only⟩
def alP (s:List UInt8)(i k:Nat):gt (s.drop i) k=gt s (i+k):=pF s i k
def ID {l r:List UInt8}{i:Nat}(h:i<l.length):gt (l++r) i=gt l i:=by
 unfold gt;rw[List.getD_eq_getElem?_getD,List.getD_eq_getElem?_getD,List.getElem?_append_left h]
def afK (l b:List UInt8):gt (l++10::b) l.length=10:=by
 unfold gt;rw[List.getD_eq_getElem?_getD,List.getElem?_append_right (bQ _)];simp
def GB (l:List UInt8):∀(f g:Nat) (d:Int) (i:Nat),gm l 0 f d i=none→l.length<i+f→gm (l++[10]) 0 g d i=none
 |_,0,_,_,_,_=>rfl
 |0,g+1,d,i,h,hf=>by
  unfold gm;rw[if_neg (by rw[bt,List.length_singleton];omega)]
 |f+1,g+1,d,i,h,hf=>by
  unfold gm at h ⊢
  by_cases h1:i+1<l.length
  ·rw[if_pos h1] at h;rw[if_pos (show i+1< (l++([10]:List UInt8)).length by rw[bt];omega),ID V,ID V]
   by_cases h2:gt l i=123∧gt l (i+1)=45
   ·rw[if_pos h2] at h ⊢;exact GB l f g _ _ h V
   ·rw[if_neg h2] at h ⊢
    by_cases h3:gt l i=45∧gt l (i+1)=125
    ·rw[if_pos h3] at h ⊢
     by_cases h4:d - 1=0
     ·rw[if_pos h4] at h;cases h
     ·rw[if_neg h4] at h ⊢;exact GB l f g _ _ h V
    ·rw[if_neg h3] at h ⊢;exact GB l f g _ _ h V
  ·by_cases h5:i+1< (l++[10]).length
   ·have e:i+1=l.length:=by rw[bt,List.length_singleton] at h5;omega
    have e2:gt (l++[10]) (i+1)=10:=by rw[e];exact afK l []
    rw[if_pos h5,e2,if_neg (fun h=>by cases h.2),if_neg (fun h=>by cases h.2)];have:∀g,gm (l++[10]) 0 g d (i+1)=none:=by
     intro g
     cases g with
     |zero=>rfl
     |succ g=>unfold gm;rw[if_neg (by rw[bt,List.length_singleton];omega)]
    exact this g
   ·rw[if_neg h5]
def ate {l:List UInt8}(h:l≠[])(hb:eB l 0=.bad 14):eB (l++[10]) 0=.bad 14:=by
 have h0:0<l.length:=List.length_pos_iff.2 h;unfold eB at hb ⊢;dsimp only at hb ⊢;rw[ID h0]
 by_cases b1:gt l 0=32∨gt l 0=10
 ·rw[if_pos b1] at hb;cases hb
 rw[if_neg b1] at hb ⊢
 by_cases b2:gt l 0=123∧0+1<l.length∧gt l (0+1)=45
 ·rw[if_pos b2] at hb;rw[if_pos (⟨b2.1,by rw[bt];omega,by rw[ID b2.2.1];exact b2.2.2⟩:gt l 0=123∧0+1< (l++([10]:List UInt8)).length∧gt (l++([10]:List UInt8)) (0+1)=45)]
  cases hk:nq l 0 with
  |some k=>rw[hk] at hb;cases hb
  |none=>
   have:nq (l++[10]) 0=none:=GB l _ _ _ _ hk V;rw[this]
 ·rw[if_neg b2] at hb;exfalso
  split at hb
  ·cases hb
  ·split at hb
   ·split at hb<;>cases hb
   ·split at hb
    ·split at hb<;>cases hb
    ·split at hb
     ·cases hb
     ·split at hb
      ·split at hb<;>cases hb
      ·cases hb
def adt (s:List UInt8)(i:Nat):ZN→Prop
 | .skip n=>1≤n∧i+n≤s.length
 | .tok k t _ n=>1≤n∧i+n≤s.length∧k≠9∧(k≠6→t=cQ s i n)∧(k=6→gt s i=34)
 | .bad e=>11≤e∧e≤14
def x_ {s:List UInt8}{i:Nat}(h:i<s.length):adt s i (eB s i):=by
 unfold eB;dsimp only
 by_cases b1:gt s i=32∨gt s i=10
 ·rw[if_pos b1];exact⟨bQ _,h⟩
 rw[if_neg b1]
 by_cases b2:gt s i=123∧i+1<s.length∧gt s (i+1)=45
 ·rw[if_pos b2]
  cases hk:nq s i with
  |none=>exact⟨V,V⟩
  |some k=>have:=Hn hk;exact⟨V,this.1⟩
 rw[if_neg b2]
 by_cases b3:rY (gt s i)=true∨gt s i=95
 ·rw[if_pos b3];have h1:=vS h (i6.2 b3);have h2:=nh s i 0;refine⟨h1,V,?_,fun _=>rfl,?_⟩
  ·split
   ·omega
   ·split
    ·omega
    ·split<;>omega
  ·intro h;split at h
   ·omega
   ·split at h
    ·omega
    ·split at h<;>omega
 rw[if_neg b3]
 by_cases b4:cF (gt s i)=true
 ·rw[if_pos b4];have h1:=JU h b4;have h2:=nh s i 1
  cases hn:iU (cQ s i (bo s i 1)) 0 with
  |none=>exact⟨V,V⟩
  |some v=>exact⟨h1,V,V,fun _=>rfl,fun h=>V⟩
 rw[if_neg b4]
 by_cases b5:j1 (gt s i)=true
 ·rw[if_pos b5];have h1:=yW h b5;have h2:=nh s i 2
  split
  ·have h3:=OZ h b5;have h4:=nh s i 3;exact⟨h3,V⟩
  ·refine⟨h1,V,?_,fun _=>rfl,?_⟩
   ·split
    ·omega
    ·split<;>omega
   ·intro h;split at h
    ·omega
    ·split at h<;>omega
 rw[if_neg b5]
 split
 ·exact⟨V,V,V,fun _=>rfl,fun h=>V⟩
 ·split
  ·rename_i h34
   cases ht:lq s i with
   |none=>exact⟨V,V⟩
   |some p=>have:=JF ht;exact⟨this.2,this.1,V,fun h=>absurd rfl h,fun _=>h34⟩
  ·exact⟨V,V⟩
def CC (s:List UInt8):Tok:=⟨9,[],0,(cH s s.length).1,(cH s s.length).2⟩
inductive ow (s:List UInt8):Nat→List Tok→Prop
 |fin:ow s s.length [CC s]
 |skip {i n:Nat} {l:List Tok}:i<s.length→eB s i=.skip n→ow s (i+n) l→ow s i l
 |tok {i n:Nat} {k v:Int} {t:List UInt8} {l:List Tok}:i<s.length→eB s i=.tok k t v n→ow s (i+n) l→ow s i (⟨k,t,v,(cH s i).1,(cH s i).2⟩::l)
inductive u5 (s:List UInt8):Nat→fI→Prop
 |bad {i:Nat} {e:Int}:i<s.length→eB s i=.bad e→u5 s i ⟨[],(cH s i).1,(cH s i).2,e⟩
 |skip {i n:Nat} {d:fI}:i<s.length→eB s i=.skip n→u5 s (i+n) d→u5 s i d
 |tok {i n:Nat} {k v:Int} {t:List UInt8} {d:fI}:i<s.length→eB s i=.tok k t v n→u5 s (i+n) d→u5 s i d
def Lm (s:List UInt8):∀(f i:Nat),i≤s.length→s.length<i+f→(∃l,ow s i l)∨(∃d,u5 s i d)
 |0,i,h,h2=>V
 |f+1,i,h,h2=>by
  by_cases hi:i<s.length
  ·have hs:=x_ hi
   cases hx:eB s i with
   |skip n=>
    rw[hx] at hs;obtain⟨h3,h4⟩:=hs;rcases Lm s f (i+n) h4 V with ⟨l,hl⟩| ⟨d,hd⟩
    ·exact .inl ⟨l,.skip hi hx hl⟩
    ·exact .inr ⟨d,.skip hi hx hd⟩
   |tok k t v n=>
    rw[hx] at hs;obtain⟨h3,h4,_⟩:=hs;rcases Lm s f (i+n) h4 V with ⟨l,hl⟩| ⟨d,hd⟩
    ·exact .inl ⟨_,.tok hi hx hl⟩
    ·exact .inr ⟨d,.tok hi hx hd⟩
   |bad e=>exact .inr ⟨_,.bad hi hx⟩
  ·obtain rfl:i=s.length:=V
   exact .inl ⟨_,.fin⟩
def ase {s:List UInt8}{i:Nat}{l:List Tok}(h:ow s i l):∀(f:Nat) (o:List Tok),s.length<i+f→h_ s f i o=(o++l,.ok):=by
 induction h with
 |fin=>
  intro f o hf;obtain⟨g,rfl⟩:∃g,f=g+1:=⟨f - 1,V⟩;rw[h_,if_neg V];rfl
 | @skip i n l h1 h2 _ ih=>
  intro f o hf;obtain⟨g,rfl⟩:∃g,f=g+1:=⟨f - 1,V⟩;have:=x_ h1;rw[h2] at this;rw[Ey h1 h2,ih g o (by have:=this.1;omega)]
 | @tok i n k v t l h1 h2 _ ih=>
  intro f o hf;obtain⟨g,rfl⟩:∃g,f=g+1:=⟨f - 1,V⟩;have:=x_ h1;rw[h2] at this;rw[OR h1 h2,ih g _ (by have:=this.1;omega),cC];rfl
def ack {s:List UInt8}{i:Nat}{d:fI}(h:u5 s i d):∀(f:Nat) (o:List Tok),s.length<i+f→h_ s f i o=([],d):=by
 induction h with
 | @bad i e h1 h2=>
  intro f o hf;obtain⟨g,rfl⟩:∃g,f=g+1:=⟨f - 1,V⟩;rw[h_,if_pos h1,h2]
 | @skip i n l h1 h2 _ ih=>
  intro f o hf;obtain⟨g,rfl⟩:∃g,f=g+1:=⟨f - 1,V⟩;have:=x_ h1;rw[h2] at this;rw[Ey h1 h2,ih g o (by have:=this.1;omega)]
 | @tok i n k v t l h1 h2 _ ih=>
  intro f o hf;obtain⟨g,rfl⟩:∃g,f=g+1:=⟨f - 1,V⟩;have:=x_ h1;rw[h2] at this;rw[OR h1 h2,ih g _ (by have:=this.1;omega)]
def Tw {s:List UInt8}{l:List Tok}(hs:s.length≤16384)(h:ow s 0 l):fR s=(l,.ok):=by
 rw[fR,if_neg V,ase h _ _ V];rfl
def ank {s:List UInt8}{d:fI}(hs:s.length≤16384)(h:u5 s 0 d):fR s=([],d):=by
 rw[fR,if_neg V,ack h _ _ V]
def OO {s:List UInt8}{l:List Tok}{d:fI}(h:fR s=(l,d)):(16384<s.length∧l=[]∧d=⟨[],1,1,10⟩)∨(s.length≤16384∧((d=.ok∧ow s 0 l)∨(l=[]∧u5 s 0 d))):=by
 by_cases hs:16384<s.length
 ·rw[fR,if_pos hs] at h;cases h;exact .inl ⟨hs,rfl,rfl⟩
 ·refine .inr ⟨V,?_⟩;rcases Lm s (s.length+1) 0 V V with ⟨l',hl⟩| ⟨d',hd⟩
  ·rw[Tw V hl] at h;cases h;exact .inl ⟨rfl,hl⟩
  ·rw[ank V hd] at h;cases h;exact .inr ⟨rfl,hd⟩
section
variable {t b:List UInt8} {i:Nat}
end
section
variable {a b:List UInt8}
end
section
variable {m n:Nat} {t:List UInt8}
end
end Go.Proofs.YtdfccaonglmgpaaGreatDoor
