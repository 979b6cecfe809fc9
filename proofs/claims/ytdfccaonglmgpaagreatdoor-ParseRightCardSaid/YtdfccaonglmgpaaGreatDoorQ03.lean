/- Q03 -/
import Derived.Test.YtdfccaonglmgpaaGreatDoorQ02
import Derived.ChangeArms
import Derived.OpenShut
import Derived.Below
import Derived.WideLaws
import Derived.Lib.ConvBytes
import Derived.Test.YtdfccaonglmgpaaGreatDoorCards
import Derived.Test.YtdfccaonglmgpaaGreatDoorTie
import Derived.WalkKit
import Derived.ProofKit
import Derived.ChangeMaps5
import Derived.Stop.LaidErr
import Derived.Deep.DeepHandedRow
import Derived.Lib.LaidTab
import Derived.Maps.OwnSet
import Derived.Maps.Views
import Derived.Test.YtdfccaonglmgpaaGreatDoorQ01
import Derived.Test.YtdfccaonglmgpaaGreatDoorRows
set_option linter.all false
namespace Go.Proofs.YtdfccaonglmgpaaGreatDoor
open Go Go.WideShapes Go.Deep
def Vt (α:Type):={H:Type}→World→α→DataW H→Prop
section
variable {P:Program} {α:Type} {E:oe α} {Q:Vt α} {H:Type} {enc:TypeId×Value→H} {w:World} {sp:Nat→Bool} {cs:List Value} {x:DataW H×List MemPlace} {t e:TypeId}
end
open Go
structure aO where
 A:Option Addr
 n:Nat
 c:Nat
def aO.v (h:aO):Value:=.slice h.A h.n h.c
theorem Rd.hdr {w:World}{M:List Nat}{v:Value}{size n:Nat}{xs:List Value}(h:Rd w M v size n xs):∃q:aO,v=q.v:=by
 obtain⟨A,c,rfl,_⟩:=h.is;exact⟨⟨A,n,c⟩,rfl⟩
section
variable {P:Program} {o:Oper} {a:Act} {w w0:World} {v u:Value} {M:List Nat} {L Es Es':List aq} {e:aq}
theorem St.gx (hO:St w0 M w L):St w0 M w (aq.dF []::L):=St.group (A:=[]) hO
theorem St.acA (hO:St w0 M w (e::L))(i:Nat)(hi:L[i]?=some (aq.dF Es)):St w0 M w (L.set i (aq.dF (Es++[e]))):=by
 have h1:St w0 M w (aq.dF Es::e::L.eraseIdx i):=by
  refine hO.perm ?_;exact (List.Perm.swap _ _ _).trans ((rq L i _ hi).cons e)
 have h2:St w0 M w (Es++[e]++L.eraseIdx i):=by
  have:=St.ungroup (A:=Es) h1
  rwa [List.append_assoc]
 have h3:=St.group (A:=Es++[e]) h2;exact h3.perm (set_perm L i _ _ hi)
end
open Go Go.RowKit
def Rt:Option (TypeId×Value)→Value
 |none=>.nilIface
 |some x=>.iface x.1 x.2
section
variable {P:Program} {o:Oper} {a:Act} {w w0:World} {x y:Operand} {t t':TypeId} {ms:List Nat} {M:List Nat} {L:List aq} {n:Nat} {F:List (Nat×Value)}
theorem Eb {ms:Array (String×TypeId)}{e:Option (TypeId×Value)}(ht:P.underlying t=some (.interface ms))(ho:o.op=.binOp .neq t x (.const .nilIface) t')(hx:a.eval x=Rt e):QV P o a w (.bool e.isSome):=by
 have hy:a.eval (.const .nilIface)=.nilIface:=rfl;have h:P.underlying t=some (.interface (P.methodsAt t)):=by simp [Program.methodsAt,ht]
 cases e with
 |none=>
  have hx':a.eval x=.nilIface:=hx;have hg:eqGuard .neq t x (.const .nilIface) .nilIface .nilIface=pure ():=eqGuard_nil_constR ..;simp [QV,execOp,ho,hx',hy,hg,binOp,run_equal_nil_nil w t h]
 |some p=>
  have hx':a.eval x=.iface p.1 p.2:=hx;have hg:eqGuard .neq t x (.const .nilIface) (.iface p.1 p.2) .nilIface=pure ():=eqGuard_at_iface ..;simp [QV,execOp,ho,hx',hy,hg,binOp,run_equal_held_nil w t p.1 p.2 h]
theorem fo {f:Nat}{g:Operand}{fs cs args args':List Value}{argo:List Operand}{vs:List Value}{ts:Array TypeId}{R:Value→World→Prop}(hF:Fr a n F)(ho:o.op=.call {callee:=.value g,args:=argo.toArray,argTypes:=ts})
  (hg:a.eval g=.func (.func f) fs.toArray cs.toArray) (hv:Fl F argo=some args) (ha:args=args') (hvs:fs++args'++cs=vs) (hf:∀args w,(callFunc f args).run P w=.ok (.enter f args) w) (hc:bI P f vs.toArray w R):eH P o a w R:=by
 subst ha;exact cC hF ho hg hv hvs hf hc
theorem mI {f:Nat}{args:Array Value}{v:Value}{X:World→Prop}(h:Calls P f args w fun e w'=>e=.returned v∧X w'):bI P f args w (fun u w'=>u=v∧X w'):=Calls.mono h fun _ _ ⟨he,hx⟩=>⟨v,he,rfl,hx⟩
theorem nS {w':World}(h:Below w.heap.size w w'):St w [] w' []:=⟨h.os,h.tape,h.output,h.size,fun b hb _=>h.block b hb,fun _ h=>(by cases h),List.nodup_nil,fun _ h=>(by cases h)⟩
theorem mV:St w [] w []:=⟨rfl,rfl,rfl,Nat.le_refl _,fun _ _ _=>rfl,fun _ h=>(by cases h),List.nodup_nil,fun _ h=>(by cases h)⟩
theorem mW (l:List UInt8):(⟨l.toArray⟩:ByteArray).data.toList=l:=by simp
end
structure gq (w:World)(M:List Nat):Prop where
 a:∃ev,Rd w M (Bf 0) 1 1 [ev]∧(ev=.nilIface∨∃te pe,ev=.iface te pe)
 b:∃ev,Rd w M (Bf 1) 1 1 [ev]∧(ev=.nilIface∨∃te pe,ev=.iface te pe)
section
variable {w0 w:World} {M:List Nat} {L B:List aq} {e f:aq}
theorem gq.now (h:gq w0 M)(hO:St w0 M w L):gq w (ak L):=by
 obtain⟨⟨x,h1,h2⟩,⟨y,h3,h4⟩⟩:=h;exact⟨⟨x,Rd.now h1 hO,h2⟩,⟨y,Rd.now h3 hO,h4⟩⟩
theorem gq.cH (h:gq w0 M)(hO:St w0 M w L):gq w []:=by
 obtain⟨⟨x,h1,h2⟩,⟨y,h3,h4⟩⟩:=h;exact⟨⟨x,Rd.cH h1 hO,h2⟩,⟨y,Rd.cH h3 hO,h4⟩⟩
theorem gq.nQ (h:gq w0 M)(hO:St w0 M w (e::f::B)):gq w (ak [e,f]):=h.now (St.front (A:=[e,f]) hO)
end
open Go.ChangeShapes Go.WideShapes Go.ChangeAt Go.RowKit Go.ChangeMaps
set_option maxRecDepth 100000
theorem own:ownKnob Tryz.prog.godebug=none:=by kernel_rfl
theorem star: "*" ++ "errors.errorString" = "*errors.errorString" :=by decide
theorem UX (u:TypeId)(h:Tryz.prog.typeName? 3 u=some "*errors.errorString"):u=200:=
 typeName_ptr_named (nm:= "errors.errorString") (by rw[star];kernel_rfl) (by kernel_rfl) (by decide) u (by rw[star];exact h)
theorem CW {W:World}{n:String}{text:List UInt8}{r:List (String×DataW Unit)}{g:Nat}(h:laidMet Tryz.prog ((n,.iface "*errors.errorString" (.ptr (.agg [.lit (.string text)])))::r) W)
  (hg:Tryz.prog.globalNamed n=some g) (ht:(Tryz.prog.globals[g]?).map (·.type)=some 158):∃ev,Rd W [] (Bf g) 1 1 [ev]∧(ev=.nilIface∨∃te pe,ev=.iface te pe):=by
 obtain⟨a,s,hv,_⟩:=laid_sentinel h hg ht Tryz.underlying158 UX Tryz.underlying200 Tryz.underlying202 rfl rfl Tryz.underlying9 (by kernel_rfl) (by kernel_rfl);have hc:W.cell? ⟨g,0,none⟩=some (.iface 200 (.pointer (some a))):=by simpa using World.var?_cell hg hv 0
 obtain⟨o,ho,_⟩:=cells_of_cell hc;have hlt:=(Array.getElem?_eq_some_iff.1 ho).1;refine⟨.iface 200 (.pointer (some a)),⟨rfl,_,1,rfl,Nat.le_refl _,by decide,fun _=>⟨aj g,rfl,by simp,hlt,fun j u hj=>?_⟩⟩,.inr ⟨_,_,rfl⟩⟩
 match j,hj with
 |0,hj=>cases hj;exact hc
theorem Hc {W:World}(h:laidMet Tryz.prog Rows.parseRightRow.laid W):gq W []:=
 ⟨CW (g:=0) h.tail.tail.tail.tail.tail (by kernel_rfl) (by kernel_rfl),CW (g:=1) h.tail.tail.tail.tail (by kernel_rfl) (by kernel_rfl)⟩
noncomputable def low:Nat:=(World.holding Tryz.prog default ⟨#[],#[],[]⟩).heap.size
noncomputable def Hp (os:Os):World:=World.holding Tryz.prog os ⟨#[.cells #[.string ⟨#[105,110,118,97,108,105,100,32,115,121,110,116,97,120]⟩] 202,.cells #[.string ⟨#[118,97,108,117,101,32,111,117,116,32,111,102,32,114,97,110,103,101]⟩] 202],#[],[]⟩
def Cs (h:Array Obj)(g:Nat)(cs:Array Value):Array Obj:=h.modify g fun| .cells _ t frozen=>.cells cs t frozen|o=>o
noncomputable def ry (os:Os):World:={Hp os with heap:=(Cs (Cs (Cs (Cs (Cs (Cs (Cs (Hp os).heap 6 (([.int .u8 0,.int .u8 1,.int .u8 28,.int .u8 2,.int .u8 29,.int .u8 14,.int .u8 24,.int .u8 3,.int .u8 30,.int .u8 22,.int .u8 20,.int .u8 15,.int .u8 25,.int .u8 17,.int .u8 4,.int .u8 8,.int .u8 31,.int .u8 27,.int .u8 13,.int .u8 23,.int .u8 21,.int .u8 19,.int .u8 16,.int .u8 7,.int .u8 26,.int .u8 12,.int .u8 18,.int .u8 6,.int .u8 11,.int .u8 5,.int .u8 10,.int .u8 9]:List Value).toArray)) 7 (([.int .u8 0,.int .u8 1,.int .u8 56,.int .u8 2,.int .u8 57,.int .u8 49,.int .u8 28,.int .u8 3,.int .u8 61,.int .u8 58,.int .u8 42,.int .u8 50,.int .u8 38,.int .u8 29,.int .u8 17,.int .u8 4,.int .u8 62,.int .u8 47,.int .u8 59,.int .u8 36,.int .u8 45,.int .u8 43,.int .u8 51,.int .u8 22,.int .u8 53,.int .u8 39,.int .u8 33,.int .u8 30,.int .u8 24,.int .u8 18,.int .u8 12,.int .u8 5,.int .u8 63,.int .u8 55,.int .u8 48,.int .u8 27,.int .u8 60,.int .u8 41,.int .u8 37,.int .u8 16,.int .u8 46,.int .u8 35,.int .u8 44,.int .u8 21,.int .u8 52,.int .u8 32,.int .u8 23,.int .u8 11,.int .u8 54,.int .u8 26,.int .u8 40,.int .u8 15,.int .u8 34,.int .u8 20,.int .u8 31,.int .u8 10,.int .u8 25,.int .u8 14,.int .u8 19,.int .u8 9,.int .u8 13,.int .u8 8,.int .u8 7,.int .u8 6]:List Value).toArray)) 5 (([.int .u64 1,.int .u64 10,.int .u64 100,.int .u64 1000,.int .u64 10000,.int .u64 100000,.int .u64 1000000,.int .u64 10000000,.int .u64 100000000,.int .u64 1000000000,.int .u64 10000000000,.int .u64 100000000000,.int .u64 1000000000000,.int .u64 10000000000000,.int .u64 100000000000000,.int .u64 1000000000000000,.int .u64 10000000000000000,.int .u64 100000000000000000,.int .u64 1000000000000000000,.int .u64 10000000000000000000]:List Value).toArray)) 4 (([.int .u8 128,.int .u8 191,.int .u8 160,.int .u8 191,.int .u8 128,.int .u8 159,.int .u8 144,.int .u8 191,.int .u8 128,.int .u8 143,.int .u8 0,.int .u8 0,.int .u8 0,.int .u8 0,.int .u8 0,.int .u8 0,.int .u8 0,.int .u8 0,.int .u8 0,.int .u8 0,.int .u8 0,.int .u8 0,.int .u8 0,.int .u8 0,.int .u8 0,.int .u8 0,.int .u8 0,.int .u8 0,.int .u8 0,.int .u8 0,.int .u8 0,.int .u8 0]:List Value).toArray)) 1 #[.iface 200 (.pointer (some ⟨low+1,0,none⟩))]) 0 #[.iface 200 (.pointer (some ⟨low,0,none⟩))]) 3 (Pinned.utf8FirstZ.map fun (z:Nat)=>Value.int .u8 (z:Int)).toArray)}
theorem MO (s:ByteArray):str s.data.toList=.string s:=by simp [str]
class YU (P:Program)(t:TypeId)(d:outParam TypeDesc):Prop where
 h:P.underlying t=some d
class YS (P:Program)(t:TypeId)(n:outParam Nat):Prop where
 h:∀w,(sizeOf t).run P w=.ok n w
class YA (P:Program)(t:TypeId)(b:outParam Bool):Prop where
 h:∀w,(isAgg t).run P w=.ok b w
class YZ (P:Program)(t:TypeId)(z:outParam Value):Prop where
 h:∀w,(zeroValue t).run P w=.ok z w
class YI (P:Program)(t:TypeId)(i:outParam TypeInfo):Prop where
 h:P.info? t=some i
class YL (P:Program)(t:TypeId)(l:outParam (List Nat)):Prop where
 h:lr P t l
class YG (P:Program)(t:TypeId)(l:outParam (List (Nat×Nat))):Prop where
 h:oP P t l
class YC (P:Program)(f:Nat):Prop where
 h:∀args w,(callFunc f args).run P w=.ok (.enter f args) w
class YM (P:Program):Prop where
 h:P.follows .mixedOrders=true
class YD (P:Program)(t:TypeId)(i:Nat)(d:outParam Nat):Prop where
 h:∃fs f,P.underlying t=some (.struct fs)∧fs[i]?=some f∧(∀w,(isAgg f.type).run P w=.ok false w)∧f.offset=d
class YF (P:Program)(t:TypeId)(i:Nat)(d:outParam Nat):Prop where
 h:∃fs f k,P.underlying t=some (.struct fs)∧fs[i]?=some f∧(∀w,(sizeOf f.type).run P w=.ok k w)∧k≠0∧f.offset=d
class tq (A B:List aq)(C:outParam (List aq)):Prop where
 h:A++B=C
instance {B:List aq}:tq [] B B:=⟨rfl⟩
instance {x:aq}{A B C:List aq}[h:tq A B C]:tq (x::A) B (x::C):=⟨by rw[←h.h];rfl⟩
class vE (L:List aq)(b:Nat)(t:outParam Nat)(cs:outParam (List Value))(A B:outParam (List aq)):Prop where
 h:L=A++.ob b t cs::B
instance {e:aq}{L A B:List aq}{b t:Nat}{cs:List Value}[h:vE L b t cs A B]:vE (e::L) b t cs (e::A) B:=⟨by rw[h.h];rfl⟩
instance {L:List aq}{b t:Nat}{cs:List Value}:vE (.ob b t cs::L) b t cs [] L:=⟨rfl⟩
class Nw (L:List aq)(i:Nat)(e:outParam aq):Prop where
 h:BR L i=some e
instance {e:aq}{L:List aq}:Nw (e::L) 0 e:=⟨rfl⟩
instance {x e:aq}{L:List aq}{i:Nat}[h:Nw L i e]:Nw (x::L) (i+1) e:=⟨h.h⟩
class FB (L:List aq)(is:List Nat)(L':outParam (List aq)):Prop where
 h:BV L is=L'
instance {L:List aq}:FB L [] []:=⟨rfl⟩
instance {L L':List aq}{i:Nat}{is:List Nat}{e:aq}[h:Nw L i e][h2:FB L is L']:FB L (i::is) (e::L'):=⟨by simp only[BV,h.h,h2.h]⟩
class RmE (L:List aq)(i:Nat)(e:outParam aq)(R:outParam (List aq)):Prop where
 h:L.Perm (e::R)∧R.Sublist L
instance {e:aq}{L:List aq}:RmE (e::L) 0 e L:=⟨List.Perm.refl _,List.sublist_cons_self _ _⟩
instance {x e:aq}{L R:List aq}{i:Nat}[h:RmE L i e R]:RmE (x::L) (i+1) e (x::R):=⟨(h.h.1.cons x).trans (List.Perm.swap e x R),h.h.2.cons_cons x⟩
class FrE (L:List aq)(is:List Nat)(L':outParam (List aq)):Prop where
 h:L.Perm L'
instance {L:List aq}:FrE L [] L:=⟨List.Perm.refl _⟩
instance {L L' R:List aq}{i:Nat}{is:List Nat}{e:aq}[h:RmE L i e R][h2:FrE R is L']:FrE L (i::is) (e::L'):=⟨h.h.1.trans (h2.h.cons e)⟩
class DrE (L:List aq)(is:List Nat)(L':outParam (List aq)):Prop where
 h:L'.Sublist L
instance {L:List aq}:DrE L [] L:=⟨List.Sublist.refl _⟩
instance {L L' R:List aq}{i:Nat}{is:List Nat}{e:aq}[h:RmE L i e R][h2:DrE R is L']:DrE L (i::is) L':=⟨h2.h.trans h.h.2⟩
class TkE (L:List aq)(e:aq)(R:outParam (List aq)):Prop where
 h:L.Perm (e::R)
instance {x e:aq}{L R:List aq}[h:TkE L e R]:TkE (x::L) e (x::R):=⟨(h.h.cons x).trans (List.Perm.swap e x R)⟩
instance {e:aq}{L:List aq}:TkE (e::L) e L:=⟨List.Perm.refl _⟩
class UM (L L':List aq):Prop where
 h:∃R,L.Perm (L'++R)
instance {L:List aq}:UM L []:=⟨L,List.Perm.refl _⟩
instance {e:aq}{L L' R:List aq}[h:TkE L e R][h2:UM R L']:UM L (e::L'):=⟨by
  obtain⟨S,hs⟩:=h2.h
  exact⟨S,h.h.trans (hs.cons e)⟩⟩
class Ea (L:List aq)(L':outParam (List aq)):Prop where
 h:L=L'
instance:Ea [] []:=⟨rfl⟩
instance {e:aq}{L L':List aq}[h:Ea L L']:Ea (e::L) (e::L'):=⟨congrArg _ h.h⟩
class Zz (L:List aq)(i:Nat)(e:aq)(L':outParam (List aq)):Prop where
 h:L.set i e=L'
instance {x e:aq}{L:List aq}:Zz (x::L) 0 e (e::L):=⟨rfl⟩
instance {x e:aq}{L L':List aq}{i:Nat}[h:Zz L i e L']:Zz (x::L) (i+1) e (x::L'):=⟨congrArg _ h.h⟩
class ErE (L:List aq)(i:Nat)(L':outParam (List aq)):Prop where
 h:L.eraseIdx i=L'
instance {x:aq}{L:List aq}:ErE (x::L) 0 L:=⟨rfl⟩
instance {x:aq}{L L':List aq}{i:Nat}[h:ErE L i L']:ErE (x::L) (i+1) (x::L'):=⟨congrArg _ h.h⟩
instance {e:aq}{L L1 L':List aq}{i:Nat}[h1:Ea L L1][h:Zz L1 i e L']:Ea (L.set i e) L':=⟨h1.h▸h.h⟩
instance {L L1 L':List aq}{i:Nat}[h1:Ea L L1][h:ErE L1 i L']:Ea (L.eraseIdx i) L':=⟨h1.h▸h.h⟩
instance {A B A' B' C:List aq}[h1:Ea A A'][h2:Ea B B'][h:tq A' B' C]:Ea (A.append B) C:=⟨by have:=h1.h;have:=h2.h;subst_vars;exact h.h⟩
instance {A B A' B' C:List aq}[h1:Ea A A'][h2:Ea B B'][h:tq A' B' C]:Ea (A++B) C:=⟨by rw[h1.h,h2.h];exact h.h⟩
section
variable {w0 w w':World} {M:List Nat} {L L' A B C:List aq} {e f g:aq}
theorem St.kp' (h:UM L L')(hO:St w0 M w L):St w0 M w L':=by
 obtain⟨R,hr⟩:=h.h;exact (hO.perm hr.symm).front
theorem St.nm [h:Ea L L'](hO:St w0 M w L):St w0 M w L':=h.h▸hO
theorem kpN {L:List aq}{f:Nat→Value}{X:Nat→List aq}[h:∀b,UM (X b) L]:∀v w',(∃b,v=f b∧St w0 M w' (X b))→St w0 M w' L:=fun _ _ ⟨b,_,h2⟩=>St.kp' (h b) h2
theorem St.kp [h:UM L L'](hO:St w0 M w L):St w0 M w L':=by
 obtain⟨R,hr⟩:=h.h;exact (hO.perm hr.symm).front
theorem St.s (hO:St w0 M w L)(is:List Nat)[h:FB L is L'](hn:Bz L.length is=true:=by rfl):St w0 M w L':=h.h▸hO.sL is hn
theorem St.q (hO:St w0 M w L)(is:List Nat)[h:FrE L is L']:St w0 M w L':=hO.perm h.h.symm
theorem St.d (hO:St w0 M w L)(is:List Nat)[h:DrE L is L']:St w0 M w L':=hO.less h.h
theorem St.k0 [h:tq A B C](hO:St w0 M w B)(hc:St w [] w' A):St w0 M w' C:=h.h▸hO.sv hc
theorem St.k1 [h:tq A B C](hO:St w0 M w (e::B))(hc:St w (ak [e]) w' A):St w0 M w' C:=h.h▸hO.gi hc
theorem St.k2 [h:tq A B C](hO:St w0 M w (e::f::B))(hc:St w (ak [e,f]) w' A):St w0 M w' C:=h.h▸hO.call2 hc
theorem St.k3 [h:tq A B C](hO:St w0 M w (e::f::g::B))(hc:St w (ak [e,f,g]) w' A):St w0 M w' C:=h.h▸hO.call3 hc
end
structure eO {α:Type}(x:α)(n:Nat)(G:Prop):Prop where
 go:G
section
variable {α:Type} {x:α} {m n:Nat} {G G':Prop}
theorem gJ (f:G'→G)(h:eO x m G'):eO x (m+1) G:=⟨f h.go⟩
theorem aB {F:List (Nat×Value)}{X:Act→Prop}(f:(∀a,Fr a n F→X a)→G)(h:∀a,Fr a n F→eO x m (X a)):eO x (m+1) G:=⟨f fun a hF=>(h a hF).go⟩
theorem lM {R:Value→World→Prop}{Y:Act→Value→Prop}{X:Act→Value→World→Prop}(f:(∀a v w,R v w→Y a v→X a v w)→G)(h:∀a v w,R v w→Y a v→eO x m (X a v w)):eO x (m+1) G:=
 ⟨f fun a v w h1 h2=>(h a v w h1 h2).go⟩
theorem aF (f:G'→G)(h:eO x m G'):eO x m G:=⟨f h.go⟩
theorem gK (f:G'→G)(h:eO x (m+1) G'):eO x (m+1) G:=⟨f h.go⟩
theorem QD (h:eO x 1 G):eO x 0 G:=⟨h.go⟩
theorem ny (h:G):eO x 0 G:=⟨h⟩
theorem rE {K:Prop}(f:K→G)(k:K):eO x 0 G:=⟨f k⟩
theorem ZB {K1 K2:Prop}(f:K1→K2→G)(k1:K1)(k2:K2):eO x 0 G:=⟨f k1 k2⟩
end
theorem gL {g:Value}{b r:Bool}(h:jc g b=r:=by first|rfl|exact j7 (by omega)|exact o8 (by omega)|exact ct (by omega)|exact j_ (by omega)|exact ct rfl|exact j_ rfl|exact j7 rfl|exact o8 rfl):jc g b=r:=h
def KK:Value→Bool
 | .pointer (some _)=>true
 |_=>false
def YY (op:BinOp)(m n:Int):Option Value:=match op with
 | .eql=>some (.bool (decide (m=n)))
 | .neq=>some (.bool (decide (¬m=n)))
 | .lss=>some (.bool (decide (m<n)))
 | .leq=>some (.bool (decide (m≤n)))
 | .gtr=>some (.bool (decide (n<m)))
 | .geq=>some (.bool (decide (n≤m)))
 |_=>none
def aaF (op:BinOp):Value→Value→Option Value
 | .int k m,.int k' n=>if k=k' then YY op m n else none
 | .string ⟨⟨l⟩⟩,.string ⟨⟨r⟩⟩=>match op with
  | .eql=>some (.bool (decide (l=r)))
  | .neq=>some (.bool (decide (¬l=r)))
  |_=>none
 |_,_=>none
def ZY (F:List (Nat×Value)):Op→Option Value
 | .move x=>ev F x
 | .assign x=>ev F x
 | .nilCheck x=>match ev F x with
  |some v=>bif KK v then some v else none
  |none=>none
 | .extract x i=>match ev F x with
  |some (.tuple vs)=>vs[i]?
  |_=>none
 | .binOp op _ x y _=>match ev F x,ev F y with
  |some u,some v=>aaF op u v
  |_,_=>none
 |_=>none
section
variable {P:Program} {o:Oper} {a:Act} {w:World} {v:Value} {n:Nat} {F:List (Nat×Value)}
theorem bf (hF:Fr a n F)(h:ZY F o.op=some v):QV P o a w v:=by
 generalize ho:o.op=op at h;unfold ZY at h
 split at h
 ·exact I_ ho (hF.eval h)
 ·exact Bc ho (hF.eval h)
 ·split at h
  ·rename_i x u hu
   cases hp:KK u with
   |false=>rw[hp] at h;cases h
   |true=>
    rw[hp] at h;cases h;unfold KK at hp
    split at hp
    ·exact tZ ho (hF.eval hu)
    ·cases hp
  ·cases h
 ·split at h
  ·rename_i hu;exact ia ho (hF.eval hu) h
  ·cases h
 ·split at h
  ·rename_i hx hy;have ex:=hF.eval hx;have ey:=hF.eval hy;unfold aaF at h
   split at h
   ·split at h
    ·rename_i hk;subst hk;unfold YY at h
     split at h
     ·cases h;exact ZX ho ex ey
     ·cases h;exact Yb ho ex ey
     ·cases h;exact Yq ho ex ey
     ·cases h;exact Yo ho ex ey
     ·cases h;exact aak ho ex ey
     ·cases h;exact Z9 ho ex ey
     ·cases h
    ·cases h
   ·split at h
    ·cases h;exact OA ho ex ey
    ·cases h;exact N9 ho ex ey
    ·cases h
   ·cases h
  ·cases h
 ·cases h
end
section
variable {P:Program} {o:Oper} {a:Act} {w w0:World} {v u:Value} {x y zz:Operand} {t t':TypeId} {M:List Nat} {L L' A B:List aq} {n m:Nat} {F:List (Nat×Value)} {b tb:Nat} {cs:List Value}
theorem JJ {ad:Addr}{i d:Nat}[hf:YF P t i d](ho:o.op=.fieldAddr t x i)(hx:a.eval x=ptr ad):QV P o a w (ptr (ad.add d)):=by
 obtain⟨fs,f,k,h1,h2,h3,h4,h5⟩:=hf.h;exact qN h1 ho hx h2 h3 h4 h5
theorem Qk {ad:Addr}{m i d:Nat}[hf:YF P t i d](ho:o.op=.fieldAddr t x i)(hx:a.eval x=ptr (ad.add m)):QV P o a w (ptr (ad.add (m+d))):=by
 obtain⟨fs,f,k,h1,h2,h3,h4,h5⟩:=hf.h;exact Aa h1 ho hx h2 h3 h4 h5
theorem vE.nth (h:vE L b tb cs A B):L[A.length]?=some (.ob b tb cs):=by rw[h.h];simp
theorem vE.cell [h:vE L b tb cs A B](hO:St w0 M w L){k:Nat}(hk:cs[k]?=some v):w.cell? ((aj b).add k)=some v:=hO.cell A.length h.nth hk
theorem vE.cell0 [h:vE L b tb cs A B](hO:St w0 M w L)(hk:cs[0]?=some v):w.cell? (aj b)=some v:=hO.cell0 A.length h.nth hk
theorem vE.cells [h:vE L b tb cs A B](hO:St w0 M w L):∀j u,cs[j]?=some u→w.cell? ((aj b).add j)=some u:=hO.cells A.length h.nth
theorem Sv {k:Nat}[h:YA P t false](hO:St w0 M w L)(ho:o.op=.load t x)(hx:a.eval x=ptr ((aj b).add k))[vE L b tb cs A B](hk:cs[k]?=some v:=by rfl):QV P o a w v:=bO h.h ho hx (vE.cell hO hk)
theorem QX [h:YA P t false](hO:St w0 M w L)(ho:o.op=.load t x)(hx:a.eval x=ptr (aj b))[vE L b tb cs A B](hk:cs[0]?=some v:=by rfl):QV P o a w v:=bO h.h ho hx (vE.cell0 hO hk)
theorem Qp [h:YA P t true][hs:YS P t n](hO:St w0 M w L)(ho:o.op=.load t x)(hx:a.eval x=ptr (aj b))[vE L b tb cs A B](hl:cs.length=n:=by rfl):QV P o a w (.agg cs.toArray):=cE h.h hs.h ho hx (vE.cells hO) hl
theorem M4 {i d:Nat}[h:YD P t i d](ho:o.op=.field t x i)(hx:a.eval x=.agg cs.toArray)(hv:cs[d]?=some v):QV P o a w v:=by
 obtain⟨fs,f,h1,h2,h3,rfl⟩:=h.h;exact MU h1 ho hx h2 h3 hv
theorem Hw {l:List UInt8}[h:YU P t .string](ho:o.op=.call {callee:=.builtin .len,args:=#[x],argTypes:=#[t]})(hx:a.eval x=str l):QV P o a w (i64 l.length):=Yy h.h ho hx
theorem abT {e:TypeId}{w1:World}{size:Nat}{xs:List Value}(hR:Rd w1 M v size n xs)[h:YU P t (.slice e)](ho:o.op=.call {callee:=.builtin .len,args:=#[x],argTypes:=#[t]})(hx:a.eval x=v):QV P o a w (i64 n):=kZ hR h.h ho hx
theorem aij {e:TypeId}{w1:World}{k:IntKind}{i size:Nat}{xs:List Value}(hR:Rd w1 M v size n xs)[h:YU P t (.slice e)][hs:YS P e size](ho:o.op=.indexAddr t x y)(hx:a.eval x=v)(hy:a.eval y=.int k (i:Int))(hi:i<n):
 QV P o a w (ptr ((sa v).add (i * size))):=kj hR h.h hs.h ho hx hy hi
theorem Lk {fs:Array Field}{parts:List (Nat×Operand)}{vs:List (Nat×Value)}{zv:Value}{offs:List Nat}(hF:Fr a n F)(ho:o.op=.build t parts.toArray)[h:YU P t (.struct fs)][hz:YZ P t zv][hp:YL P t offs]
 (hzc:zv.cells=cs.toArray) (hv:KW F parts=some vs) (hok:wI offs cs.length vs=true):QV P o a w (.agg (tX offs cs vs).toArray):=Ln hF h.h hz.h hp.h hzc ho hv hok
theorem J2 {fs:Array Field}{parts:List (Nat×Operand)}{vs:List (Nat×Value)}{zv:Value}{offs:List (Nat×Nat)}(hF:Fr a n F)(ho:o.op=.build t parts.toArray)[h:YU P t (.struct fs)][hz:YZ P t zv][hp:YG P t offs]
 (hzc:zv.cells=cs.toArray) (hv:KW F parts=some vs) (hok:r9 offs cs.length vs=true):QV P o a w (.agg (oZ offs cs vs).toArray):=KD hF h.h hz.h hp.h hzc ho hv hok
theorem JA {fs:Array Field}{zv:Value}{offs:List (Nat×Nat)}(ho:o.op=.build t #[])[h:YU P t (.struct fs)][hz:YZ P t zv][hp:YG P t offs]
 (hzc:zv.cells=cs.toArray):QV P o a w (.agg cs.toArray):=HI h.h hz.h hp.h hzc ho
theorem sU (h:a.eval x=v:=by
  first
  |exact (hF.eval rfl).trans (an hg)
  |exact (hF.eval rfl).trans (an (yL hg).1)
  |exact hF.eval rfl):a.eval x=v:=h
theorem eN (h:QV P o a w v:=by
  first
  |exact JJ rfl (hF.eval rfl)
  |exact Qk rfl (hF.eval rfl)
  |exact Sv hO rfl (hF.eval rfl)
  |exact Qp hO rfl (hF.eval rfl)
  |exact QX hO rfl (hF.eval rfl)
  |exact qu rfl (hF.eval rfl) (hF.eval rfl) (by omega)
  |exact Da rfl (hF.eval rfl) (hF.eval rfl) (by omega)
  |exact Hw rfl (hF.eval rfl)
  |exact cY rfl (hF.eval rfl) rfl
  |exact dk rfl (hF.eval rfl) rfl (fun hg=>sU) rfl
  |exact uC rfl (hF.eval rfl) rfl (fun hg=>sU) rfl
  |exact M4 rfl (hF.eval rfl) rfl
  |exact pO hF rfl rfl rfl
  |exact Lk hF rfl rfl rfl rfl
  |exact JA rfl rfl
  |exact J2 hF rfl rfl rfl rfl):QV P o a w v:=h
theorem zQg (h:QV P o a w v:=by
  first
  |exact I_ rfl sU
  |exact Bc rfl sU
  |exact tZ rfl sU
  |exact JJ rfl ((hF.eval rfl).trans (an hg))
  |exact JJ rfl (hF.eval rfl)
  |exact Qk rfl ((hF.eval rfl).trans (an hg))
  |exact Qk rfl (hF.eval rfl)
  |exact Sv hO rfl ((hF.eval rfl).trans (an hg))
  |exact Sv hO rfl (hF.eval rfl)
  |exact Qp hO rfl ((hF.eval rfl).trans (an hg))
  |exact Qp hO rfl (hF.eval rfl)
  |exact QX hO rfl ((hF.eval rfl).trans (an hg))
  |exact QX hO rfl (hF.eval rfl)
  |exact ZX rfl sU sU
  |exact OA rfl sU sU
  |exact Yb rfl sU sU
  |exact N9 rfl sU sU
  |exact Yq rfl sU sU
  |exact Yo rfl sU sU
  |exact aak rfl sU sU
  |exact Z9 rfl sU sU
  |exact qu rfl sU sU (by omega)
  |exact Da rfl sU sU (by omega)
  |exact cY rfl sU rfl
  |exact Hw rfl ((hF.eval rfl).trans (an hg))
  |exact Hw rfl (hF.eval rfl)):QV P o a w v:=h
structure LnI (v:Value)(n:Nat):Prop where
 h:∃w1 M size xs,Rd w1 M v size n xs
theorem ew {w1:World}{size:Nat}{xs:List Value}(hR:Rd w1 M v size n xs):LnI v n:=⟨_,_,_,_,hR⟩
theorem Ws {e:TypeId}(c:LnI v n)(ho:o.op=.call {callee:=.builtin .len,args:=#[x],argTypes:=#[t]})(hx:a.eval x=v)[h:YU P t (.slice e)]:QV P o a w (i64 n):=by
 obtain⟨w1,M,size,xs,hR⟩:=c.h;exact kZ hR h.h ho hx
structure AtI (v:Value)(size n i:Nat):Prop where
 h:∃w1 M xs,Rd w1 M v size n xs∧i<n
theorem eB {w1:World}{size:Nat}{xs:List Value}(i:Nat)(hR:Rd w1 M v size n xs)(hi:i<n):AtI v size n i:=⟨_,_,_,hR,hi⟩
theorem nP {α:Type}{E:oe α}{l:List α}{w1:World}{i:Nat}{q:α}(hR:bF w1 M v E l)(h:l[i]?=some q):AtI v E.size l.length i:=⟨_,_,_,hR,(List.getElem?_eq_some_iff.1 h).1⟩
theorem VK {e:TypeId}{k:IntKind}{i size s2:Nat}(c:AtI v size n i)(ho:o.op=.indexAddr t x y)(hx:a.eval x=v)(hy:a.eval y=.int k (i:Int))[h:YU P t (.slice e)][hs:YS P e s2](he:s2=size:=by rfl):QV P o a w (ptr ((sa v).add (i * size))):=by
 subst he;obtain⟨w1,M,xs,hR,hi⟩:=c.h;exact kj hR h.h hs.h ho hx hy hi
section
variable {α:Type} {E:oe α} {l:List α} {i:Nat} {q:α}
theorem PX (hR:bF w M v E l)(hi:l[i]?=some q)(ho:o.op=.load t x)(hx:a.eval x=ptr ((sa v).add (i * E.size)))[h:YA P t true][hs:YS P t n](hl:(E.cells q).length=n:=by rfl):QV P o a w (.agg (E.cells q).toArray):=cE h.h hs.h ho hx (bF.cells hR hi) hl
theorem OS {j:Nat}(hR:bF w M v E l)(hi:l[i]?=some q)(ho:o.op=.load t x)(hx:a.eval x=ptr (((sa v).add (i * E.size)).add j))[h:YA P t false](hj:(E.cells q)[j]?=some u:=by rfl):QV P o a w u:=bO h.h ho hx (bF.cells hR hi j u hj)
theorem HU (hR:bF w M v E l)(hi:l[i]?=some q)(ho:o.op=.load t x)(hx:a.eval x=ptr ((sa v).add (i * E.size)))[h:YA P t false](hj:(E.cells q)[0]?=some u:=by rfl):QV P o a w u:=bO h.h ho hx (bF.cell0 hR hi hj)
end
theorem XQ (h:QV P o a w v:=by
  first
  |exact PX (bF.now c hO) d rfl (hF.eval rfl)
  |exact OS (bF.now c hO) d rfl (hF.eval rfl)
  |exact HU (bF.now c hO) d rfl (hF.eval rfl)
  |exact PX c d rfl (hF.eval rfl)
  |exact OS c d rfl (hF.eval rfl)
  |exact HU c d rfl (hF.eval rfl)
  |exact PX (TG hO c) d rfl (hF.eval rfl)
  |exact OS (TG hO c) d rfl (hF.eval rfl)
  |exact HU (TG hO c) d rfl (hF.eval rfl)):QV P o a w v:=h
theorem W5 {H:Prop}(c:H)(h:H→QV P o a w v:=by intro c;first|exact VK c rfl (hF.eval rfl) (hF.eval rfl)|exact Ws c rfl (hF.eval rfl)):QV P o a w v:=h c
theorem M8 {z:Value}(hO:St w0 M w L)(ho:o.op=.alloc t)[h:YZ P t z](hc:z.cells=cs.toArray):eH P o a w (fun u w'=>∃b,u=ptr (aj b)∧St w0 M w' (.ob b t cs::L)):=qU hO h.h ho hc
theorem ack {e:TypeId}{size len:Nat}{parts:List (Nat×Operand)}{vs:List (Nat×Value)}{zv:Value}(hF:Fr a n F)(hO:St w0 M w L)(ho:o.op=.buildSlice t len parts.toArray)[ht:YU P t (.slice e)][hs:YS P e size][hz:YZ P e zv]
  (hv:KW F parts=some vs) (hsm:Nat.ble (len * size) 16777216=true) (h0:Nat.ble 1 (len * size)=true)
  (hlen:vs.length=len) (hok:wm size 0 vs=true) (hm:Nat.ble len 9223372036854775807=true):
  eH P o a w (fun u w'=>∃b,u=.slice (some (aj b)) len len∧St w0 M w' (.sl (.slice (some (aj b)) len len) e size len (iE vs)::L)):=
 bM hF hO ht.h hs.h hz.h ho hv hsm h0 hlen hok hm
theorem B0 (A B:List aq)(e e':aq):(A++e::B).set A.length e'=A++e'::B:=by simp
theorem aaG {vs:List Value}(hO:St w0 M w L)(ho:o.op=.store t x y)(hx:a.eval x=ptr (aj b))(hy:a.eval y=.agg vs.toArray)[hs:YS P t n][hb:vE L b tb cs A B]
  (hn:vs.length=n:=by rfl) (hk:vs.length=cs.length:=by rfl) (h1:vs.all (·.oneCell')=true:=by rfl) [hA:tq A (.ob b tb vs::B) L']:eH P o a w (fun u w'=>u=undef∧St w0 M w' L'):=by
 subst hn;have:=lH (P:=P) hO (i:=A.length) hb.nth hs.h ho hx hy hk h1;rw[hb.h,B0,hA.h] at this;exact this
theorem Wa {k:Nat}(hO:St w0 M w L)(ho:o.op=.store t x y)(hx:a.eval x=ptr ((aj b).add k))(hy:a.eval y=v)[hs:YS P t 1][hb:vE L b tb cs A B]
  (hv:v.cells=#[v]:=by rfl) (hk:Nat.ble (k+1) cs.length=true:=by rfl) (h1:v.oneCell'=true:=by rfl) [hA:tq A (.ob b tb (cs.set k v)::B) L']:eH P o a w (fun u w'=>u=undef∧St w0 M w' L'):=by
 have:=cK (P:=P) hO (i:=A.length) hb.nth hs.h ho hx hy hv hk h1;rw[hb.h,B0,hA.h] at this;exact this
theorem YJ (hO:St w0 M w L)(ho:o.op=.store t x y)(hx:a.eval x=ptr (aj b))(hy:a.eval y=v)[hs:YS P t 1][hb:vE L b tb cs A B]
  (hv:v.cells=#[v]:=by rfl) (hk:Nat.ble 1 cs.length=true:=by rfl) (h1:v.oneCell'=true:=by rfl) [hA:tq A (.ob b tb (cs.set 0 v)::B) L']:eH P o a w (fun u w'=>u=undef∧St w0 M w' L'):=by
 have:=dm (P:=P) hO (i:=A.length) hb.nth hs.h ho hx hy hv hk h1;rw[hb.h,B0,hA.h] at this;exact this
theorem Gk {R:Value→World→Prop}(h:eH P o a w R:=by
  first
  |exact aaG hO rfl (hF.eval rfl) (hF.eval rfl)
  |exact Wa hO rfl (hF.eval rfl) (hF.eval rfl)
  |exact YJ hO rfl (hF.eval rfl) (hF.eval rfl)):eH P o a w R:=h
theorem NT {R:Value→World→Prop}(h:eH P o a w R:=by
  first
  |exact M8 hO rfl rfl
  |exact ack hF hO rfl rfl rfl rfl rfl rfl rfl
  |exact KQ hO rfl (hF.eval rfl) rfl):eH P o a w R:=h
theorem zCv {f f':Nat}{args:List Operand}{vs:List Value}{ts:Array TypeId}{R:Value→World→Prop}(hF:Fr a n F)(ho:o.op=.call {callee:=.value (.func f),args:=args.toArray,argTypes:=ts})(hv:Fl F args=some vs)[hf:YC P f](hc:bI P f' vs.toArray w R)(he:f'=f:=by rfl):eH P o a w R:=a6 hF ho hv hf.h (he▸hc)
end
theorem kpC {R:Value→World→Prop}{S:World→Prop}(h:∀v w',R v w'→S w':=by
  intro v w2 h
  repeat (first
  |exact (St.k0 hO h).kp
  |exact (St.k1 hO h).kp
  |exact (St.k2 hO h).kp
  |exact (St.k3 hO h).kp
  |obtain⟨_,h⟩:=h)):∀v w',R v w'→S w':=h
theorem aay {P:Program}{id:Nat}{l:List Oper}{Q:Exit→Act→World→Prop}{a:Act}{w w0:World}{M:List Nat}{L:List aq}{ks:List Nat}[hm:YM P](hO:St w0 M w L)(hlook:wL l.toArray ks=true)
 (h:∀w,St w0 M w L→ji P l.toArray (fun w=>St w0 M w L) (Q .normal) l ks a w):eO ks 0 ((Code.region id l.toArray true).wp P Q a w):=⟨sZ ks _ hm.h hlook hO.drew (h _ hO.drew)⟩
theorem XL {P:Program}{a:Act}{w w0:World}{M:List Nat}{L A B:List aq}{fn:Func}{R:Value→World→Prop}{m k n b tb:Nat}{F:List (Nat×Value)}{ty:TypeId}{cs:List Value}(hF:Fr a m F)(hO:St w0 M w L)(hr:fn.results=#[.cell k ty])(hu:lk F k=some (ptr (aj b)))
 [ha:YA P ty true] [hs:YS P ty n] [vE L b tb cs A B] (hl:cs.length=n:=by rfl) (hR:R (.agg cs.toArray) w):uy P fn R .ret a w:=ae7 hF hr hu ha.h hs.h (vE.cells hO) hl hR
class LF (l:List Value)(F:outParam (List (Nat×Value))):Prop where
 h:(List.range l.length).zip l=F
instance:LF [] []:=⟨rfl⟩
instance {a:Value}:LF [a] [(0,a)]:=⟨rfl⟩
instance {a b:Value}:LF [a,b] [(0,a),(1,b)]:=⟨rfl⟩
instance {a b c:Value}:LF [a,b,c] [(0,a),(1,b),(2,c)]:=⟨rfl⟩
instance {a b c d:Value}:LF [a,b,c,d] [(0,a),(1,b),(2,c),(3,d)]:=⟨rfl⟩
instance {a b c d e:Value}:LF [a,b,c,d,e] [(0,a),(1,b),(2,c),(3,d),(4,e)]:=⟨rfl⟩
instance {a b c d e f:Value}:LF [a,b,c,d,e,f] [(0,a),(1,b),(2,c),(3,d),(4,e),(5,f)]:=⟨rfl⟩
theorem pE:∀(l:List (Nat×Value)) (L:List (Nat×Value)),(∀k v,(k,v)∈l→lk L k=some v)→qC L l
 | [],_,_=>trivial
 | (k,v)::r,L,h=>⟨h k v List.mem_cons_self,pE r L fun k v hm=>h k v (List.mem_cons_of_mem _ hm)⟩
theorem Cy:∀(l:List Value) (j:Nat) (k:Nat) (v:Value),(k,v)∈(List.range' j l.length).zip l→lk ((List.range' j l.length).zip l) k=some v
 | [],_,_,_,h=>by cases h
 |x::r,j,k,v,h=>by
  simp only[List.length_cons,List.range'_succ,List.zip_cons_cons] at h ⊢;rcases List.mem_cons.1 h with e|hm
  ·cases e;exact tI _ _ _
  ·have hk:j+1≤k:=by
    have:=(List.of_mem_zip hm).1;rw[List.mem_range'_1] at this;exact this.1
   rw[DS (by omega)];exact Cy r (j+1) k v hm
theorem cw {P:Program}{f m:Nat}{fn:Func}{c:Code}{w:World}{l:List Value}{F:List (Nat×Value)}{R:Value→World→Prop}(hf:P.funcs[f]?=some fn)(hm:fn.ntmps=m)[hz:LF l F](h:∀a,Fr a m F→c.wp P (uy P fn R) a w)
  (hb:fn.body=some c:=by rfl) (hle:Nat.ble l.length m=true:=by rfl):bI P f l.toArray w R:=by
 refine Sl (m:=m) hf hb hm F (by simpa using hle) ?_ h;rw[←hz.h];refine pE _ _ fun k v hm=>?_;simp only[List.range_eq_range'] at hm ⊢;have:=Cy l 0 k v hm
 simpa using this
theorem Zv (n:Nat){G K:Prop}(k:K)(h:K→eO () n G:=by
  intro k
  repeat (first
  | ((with_reducible show eO _ (_+1) (wpList _ _ _ (_::_) _ _));first| (refine aB (ao hF rfl rfl rfl (bf hF rfl)) ?_;intro a hF)| (refine aB (ao hF rfl rfl rfl eN) ?_;intro a hF)| (refine aB (cW hF rfl rfl rfl rfl gL rfl rfl) ?_;intro a hF)|refine gJ (bg hF rfl rfl rfl rfl gL) ?_)
  |with_unfolding_none (first|refine aF c8 ?_ |refine aF fV ?_ |refine aF fZ ?_)
  |with_reducible (first|refine aF wp_seq ?_ |refine aF wp_region_lit ?_ |refine aF wp_block ?_ |refine aF wp_skip ?_ |refine aF wp_exit ?_ |refine aF wp_ret ?_)
  | ((with_reducible show eO _ (_+1) (ji _ _ _ _ (_::_) _ _ _));first| (refine aB (dE hF rfl rfl rfl (fun w=>(bf hF rfl))) ?_;intro a hF)| (refine aB (dE hF rfl rfl rfl (fun w=>eN)) ?_;intro a hF)| (refine aB (jC hF rfl rfl rfl (fun w hO=>eN)) ?_;intro a hF)| (refine aB (iu hF rfl rfl rfl rfl gL rfl rfl) ?_;intro a hF)|refine gJ (ij hF rfl rfl rfl rfl gL) ?_)
  | ((with_reducible show eO _ (_+1) (kA _ _ _ _ _ _ (_::_) _ _));first| (refine aB (eC rfl rfl hF rfl rfl rfl (fun w=>(bf hF rfl))) ?_;intro a hF)| (refine aB (eC rfl rfl hF rfl rfl rfl (fun w=>eN)) ?_;intro a hF)| (refine aB (fM rfl rfl hF rfl rfl rfl (fun w hO=>eN)) ?_;intro a hF))
  |refine aF w9 ?_
  |refine aF (ye rfl) ?_
  |with_unfolding_none refine aF v7 ?_)
  refine ny ?_
  first|with_reducible exact k|exact k a hF):G:=(h k).go
theorem Zn (n:Nat){G K:Prop}(k:K)(h:K→eO () n G:=by
  intro k
  repeat (first
  | ((with_reducible show eO _ (_+1) (wpList _ _ _ (_::_) _ _));first| (refine aB (ao hF rfl rfl rfl (bf hF rfl)) ?_;intro a hF)| (refine aB (ao hF rfl rfl rfl eN) ?_;intro a hF)| (refine aB (cW hF rfl rfl rfl rfl gL rfl rfl) ?_;intro a hF)|refine gJ (bg hF rfl rfl rfl rfl gL) ?_)
  |with_unfolding_none (first|refine gK c8 ?_ |refine gK fV ?_ |refine gK fZ ?_)
  |with_reducible (first|refine gK wp_seq ?_ |refine gK wp_region_lit ?_ |refine gK wp_block ?_ |refine gK wp_skip ?_ |refine gK wp_exit ?_ |refine gK wp_ret ?_)
  | ((with_reducible show eO _ (_+1) (ji _ _ _ _ (_::_) _ _ _));first| (refine aB (dE hF rfl rfl rfl (fun w=>(bf hF rfl))) ?_;intro a hF)| (refine aB (dE hF rfl rfl rfl (fun w=>eN)) ?_;intro a hF)| (refine aB (jC hF rfl rfl rfl (fun w hO=>eN)) ?_;intro a hF)| (refine aB (iu hF rfl rfl rfl rfl gL rfl rfl) ?_;intro a hF)|refine gJ (ij hF rfl rfl rfl rfl gL) ?_)
  | ((with_reducible show eO _ (_+1) (kA _ _ _ _ _ _ (_::_) _ _));first| (refine aB (eC rfl rfl hF rfl rfl rfl (fun w=>(bf hF rfl))) ?_;intro a hF)| (refine aB (eC rfl rfl hF rfl rfl rfl (fun w=>eN)) ?_;intro a hF)| (refine aB (fM rfl rfl hF rfl rfl rfl (fun w hO=>eN)) ?_;intro a hF))
  |refine gK w9 ?_
  |refine gK (ye rfl) ?_
  |with_unfolding_none refine gK v7 ?_)
  refine ny ?_
  exact k a hF):G:=(h k).go
theorem Zu (n:Nat){G K:Prop}(k:K)(h:K→eO () n G:=by
  intro k
  repeat (first
  | ((with_reducible show eO _ (_+1) (wpList _ _ _ (_::_) _ _));first| (refine aB (ao hF rfl rfl rfl (bf hF rfl)) ?_;intro a hF)| (refine aB (ao hF rfl rfl rfl eN) ?_;intro a hF)| (refine lM (fN hF rfl rfl rfl NT) ?_;rintro a _ w ⟨b,rfl,hO⟩ hF)| (refine lM (c_ hF rfl rfl Gk) ?_;rintro a _ w ⟨-,hO⟩ hF)| (refine aB (cW hF rfl rfl rfl rfl gL rfl rfl) ?_;intro a hF)|refine gJ (bg hF rfl rfl rfl rfl gL) ?_)
  |with_unfolding_none (first|refine gK c8 ?_ |refine gK fV ?_ |refine gK fZ ?_)
  |with_reducible (first|refine gK wp_seq ?_ |refine gK wp_region_lit ?_ |refine gK wp_block ?_ |refine gK wp_skip ?_ |refine gK wp_exit ?_ |refine gK wp_ret ?_)
  | ((with_reducible show eO _ (_+1) (ji _ _ _ _ (_::_) _ _ _));first| (refine aB (dE hF rfl rfl rfl (fun w=>(bf hF rfl))) ?_;intro a hF)| (refine aB (dE hF rfl rfl rfl (fun w=>eN)) ?_;intro a hF)| (refine aB (jC hF rfl rfl rfl (fun w hO=>eN)) ?_;intro a hF)| (refine aB (iu hF rfl rfl rfl rfl gL rfl rfl) ?_;intro a hF)|refine gJ (ij hF rfl rfl rfl rfl gL) ?_ | (refine lM (jO hF rfl rfl rfl NT) ?_;rintro a _ w ⟨b,rfl,hO⟩ hF)| (refine lM (yP hF rfl rfl Gk) ?_;rintro a _ w ⟨-,hO⟩ hF))
  | ((with_reducible show eO _ (_+1) (kA _ _ _ _ _ _ (_::_) _ _));first| (refine aB (eC rfl rfl hF rfl rfl rfl (fun w=>(bf hF rfl))) ?_;intro a hF)| (refine aB (eC rfl rfl hF rfl rfl rfl (fun w=>eN)) ?_;intro a hF)| (refine aB (fM rfl rfl hF rfl rfl rfl (fun w hO=>eN)) ?_;intro a hF)| (refine lM (vO rfl rfl hF rfl rfl rfl NT) ?_;rintro a _ w ⟨b,rfl,hO⟩ hF)| (refine lM (eY rfl rfl hF rfl rfl rfl NT kpN) ?_;rintro a _ w ⟨b,rfl,hO⟩ hF)| (refine lM (de rfl rfl hF rfl rfl Gk) ?_;rintro a _ w ⟨-,hO⟩ hF))
  |refine gK w9 ?_
  |refine gK (ye rfl) ?_
  |with_unfolding_none refine gK v7 ?_)
  refine ny ?_
  exact k b a w hO hF):G:=(h k).go
theorem Zy (n:Nat){G K:Prop}(k:K)(h:K→eO () n G:=by
  intro k
  repeat (first
  | ((with_reducible show eO _ (_+1) (wpList _ _ _ (_::_) _ _));first| (refine aB (ao hF rfl rfl rfl (bf hF rfl)) ?_;intro a hF)| (refine aB (ao hF rfl rfl rfl eN) ?_;intro a hF)| (refine lM (c_ hF rfl rfl Gk) ?_;rintro a _ w ⟨-,hO⟩ hF)| (refine aB (cW hF rfl rfl rfl rfl gL rfl rfl) ?_;intro a hF)|refine gJ (bg hF rfl rfl rfl rfl gL) ?_)
  |with_unfolding_none (first|refine gK c8 ?_ |refine gK fV ?_ |refine gK fZ ?_)
  |with_reducible (first|refine gK wp_seq ?_ |refine gK wp_region_lit ?_ |refine gK wp_block ?_ |refine gK wp_skip ?_ |refine gK wp_exit ?_ |refine gK wp_ret ?_)
  | ((with_reducible show eO _ (_+1) (ji _ _ _ _ (_::_) _ _ _));first| (refine aB (dE hF rfl rfl rfl (fun w=>(bf hF rfl))) ?_;intro a hF)| (refine aB (dE hF rfl rfl rfl (fun w=>eN)) ?_;intro a hF)| (refine aB (jC hF rfl rfl rfl (fun w hO=>eN)) ?_;intro a hF)| (refine aB (iu hF rfl rfl rfl rfl gL rfl rfl) ?_;intro a hF)|refine gJ (ij hF rfl rfl rfl rfl gL) ?_ | (refine lM (yP hF rfl rfl Gk) ?_;rintro a _ w ⟨-,hO⟩ hF))
  | ((with_reducible show eO _ (_+1) (kA _ _ _ _ _ _ (_::_) _ _));first| (refine aB (eC rfl rfl hF rfl rfl rfl (fun w=>(bf hF rfl))) ?_;intro a hF)| (refine aB (eC rfl rfl hF rfl rfl rfl (fun w=>eN)) ?_;intro a hF)| (refine aB (fM rfl rfl hF rfl rfl rfl (fun w hO=>eN)) ?_;intro a hF)| (refine lM (de rfl rfl hF rfl rfl Gk) ?_;rintro a _ w ⟨-,hO⟩ hF))
  |refine gK w9 ?_
  |refine gK (ye rfl) ?_
  |with_unfolding_none refine gK v7 ?_)
  refine ny ?_
  exact k a w hO hF):G:=(h k).go
theorem Zw (n:Nat){G K:Prop}(k:K)(h:K→eO () n G:=by
  intro k
  repeat (first
  | ((with_reducible show eO _ (_+1) (wpList _ _ _ (_::_) _ _));first| (refine aB (ao hF rfl rfl rfl (bf hF rfl)) ?_;intro a hF)| (refine aB (ao hF rfl rfl rfl eN) ?_;intro a hF)| (refine aB (cL hF rfl rfl rfl rfl rfl rfl fun hg=>zQg) ?_;intro a hF))
  |with_unfolding_none (first|refine aF c8 ?_ |refine aF fV ?_ |refine aF fZ ?_)
  |with_reducible (first|refine aF wp_seq ?_ |refine aF wp_region_lit ?_ |refine aF wp_block ?_ |refine aF wp_skip ?_ |refine aF wp_exit ?_ |refine aF wp_ret ?_)
  | ((with_reducible show eO _ (_+1) (ji _ _ _ _ (_::_) _ _ _));first| (refine aB (dE hF rfl rfl rfl (fun w=>(bf hF rfl))) ?_;intro a hF)| (refine aB (dE hF rfl rfl rfl (fun w=>eN)) ?_;intro a hF)| (refine aB (jC hF rfl rfl rfl (fun w hO=>eN)) ?_;intro a hF)| (refine aB (uo hF rfl rfl rfl rfl rfl rfl fun hg w=>zQg) ?_;intro a hF)| (refine aB (Ad hF rfl rfl rfl rfl rfl rfl fun hg w hO=>zQg) ?_;intro a hF))
  | ((with_reducible show eO _ (_+1) (kA _ _ _ _ _ _ (_::_) _ _));first| (refine aB (eC rfl rfl hF rfl rfl rfl (fun w=>(bf hF rfl))) ?_;intro a hF)| (refine aB (eC rfl rfl hF rfl rfl rfl (fun w=>eN)) ?_;intro a hF)| (refine aB (fM rfl rfl hF rfl rfl rfl (fun w hO=>eN)) ?_;intro a hF))
  |refine aF w9 ?_
  |refine aF (ye rfl) ?_
  |with_unfolding_none refine aF v7 ?_)
  refine ny ?_
  exact k a hF):G:=(h k).go
theorem Zs (n:Nat){G K:Prop}(k:K)(h:K→eO () n G:=by
  intro k
  repeat (first
  | ((with_reducible show eO _ (_+1) (wpList _ _ _ (_::_) _ _));first| (refine aB (ao hF rfl rfl rfl (bf hF rfl)) ?_;intro a hF)| (refine aB (ao hF rfl rfl rfl eN) ?_;intro a hF)| (refine lM (c_ hF rfl rfl Gk) ?_;rintro a _ w ⟨-,hO⟩ hF)| (refine aB (cW hF rfl rfl rfl rfl gL rfl rfl) ?_;intro a hF)|refine gJ (bg hF rfl rfl rfl rfl gL) ?_)
  |with_unfolding_none (first|refine aF c8 ?_ |refine aF fV ?_ |refine aF fZ ?_)
  |with_reducible (first|refine aF wp_seq ?_ |refine aF wp_region_lit ?_ |refine aF wp_block ?_ |refine aF wp_skip ?_ |refine aF wp_exit ?_ |refine aF wp_ret ?_)
  | ((with_reducible show eO _ (_+1) (ji _ _ _ _ (_::_) _ _ _));first| (refine aB (dE hF rfl rfl rfl (fun w=>(bf hF rfl))) ?_;intro a hF)| (refine aB (dE hF rfl rfl rfl (fun w=>eN)) ?_;intro a hF)| (refine aB (jC hF rfl rfl rfl (fun w hO=>eN)) ?_;intro a hF)| (refine aB (iu hF rfl rfl rfl rfl gL rfl rfl) ?_;intro a hF)|refine gJ (ij hF rfl rfl rfl rfl gL) ?_ | (refine lM (yP hF rfl rfl Gk) ?_;rintro a _ w ⟨-,hO⟩ hF))
  | ((with_reducible show eO _ (_+1) (kA _ _ _ _ _ _ (_::_) _ _));first| (refine aB (eC rfl rfl hF rfl rfl rfl (fun w=>(bf hF rfl))) ?_;intro a hF)| (refine aB (eC rfl rfl hF rfl rfl rfl (fun w=>eN)) ?_;intro a hF)| (refine aB (fM rfl rfl hF rfl rfl rfl (fun w hO=>eN)) ?_;intro a hF)| (refine lM (de rfl rfl hF rfl rfl Gk) ?_;rintro a _ w ⟨-,hO⟩ hF))
  |refine aF w9 ?_
  |refine aF (ye rfl) ?_
  |with_unfolding_none refine aF v7 ?_)
  refine ny ?_
  exact k a w hO hF):G:=(h k).go
theorem Zb (n:Nat){G K:Prop}(k:K)(h:K→eO () n G:=by
  intro k
  repeat (first
  | ((with_reducible show eO _ (_+1) (wpList _ _ _ (_::_) _ _));first| (refine aB (ao hF rfl rfl rfl (bf hF rfl)) ?_;intro a hF)| (refine aB (ao hF rfl rfl rfl eN) ?_;intro a hF)| (refine lM (fN hF rfl rfl rfl NT) ?_;rintro a _ w ⟨b,rfl,hO⟩ hF)| (refine lM (c_ hF rfl rfl Gk) ?_;rintro a _ w ⟨-,hO⟩ hF)| (refine aB (cW hF rfl rfl rfl rfl gL rfl rfl) ?_;intro a hF)|refine gJ (bg hF rfl rfl rfl rfl gL) ?_)
  |with_unfolding_none (first|refine aF c8 ?_ |refine aF fV ?_ |refine aF fZ ?_)
  |with_reducible (first|refine aF wp_seq ?_ |refine aF wp_region_lit ?_ |refine aF wp_block ?_ |refine aF wp_skip ?_ |refine aF wp_exit ?_ |refine aF wp_ret ?_)
  | ((with_reducible show eO _ (_+1) (ji _ _ _ _ (_::_) _ _ _));first| (refine aB (dE hF rfl rfl rfl (fun w=>(bf hF rfl))) ?_;intro a hF)| (refine aB (dE hF rfl rfl rfl (fun w=>eN)) ?_;intro a hF)| (refine aB (jC hF rfl rfl rfl (fun w hO=>eN)) ?_;intro a hF)| (refine aB (iu hF rfl rfl rfl rfl gL rfl rfl) ?_;intro a hF)|refine gJ (ij hF rfl rfl rfl rfl gL) ?_ | (refine lM (jO hF rfl rfl rfl NT) ?_;rintro a _ w ⟨b,rfl,hO⟩ hF)| (refine lM (yP hF rfl rfl Gk) ?_;rintro a _ w ⟨-,hO⟩ hF))
  | ((with_reducible show eO _ (_+1) (kA _ _ _ _ _ _ (_::_) _ _));first| (refine aB (eC rfl rfl hF rfl rfl rfl (fun w=>(bf hF rfl))) ?_;intro a hF)| (refine aB (eC rfl rfl hF rfl rfl rfl (fun w=>eN)) ?_;intro a hF)| (refine aB (fM rfl rfl hF rfl rfl rfl (fun w hO=>eN)) ?_;intro a hF)| (refine lM (vO rfl rfl hF rfl rfl rfl NT) ?_;rintro a _ w ⟨b,rfl,hO⟩ hF)| (refine lM (eY rfl rfl hF rfl rfl rfl NT kpN) ?_;rintro a _ w ⟨b,rfl,hO⟩ hF)| (refine lM (de rfl rfl hF rfl rfl Gk) ?_;rintro a _ w ⟨-,hO⟩ hF))
  |refine aF w9 ?_
  |refine aF (ye rfl) ?_
  |with_unfolding_none refine aF v7 ?_)
  refine ny ?_
  exact k b a w hO hF):G:=(h k).go
theorem Zr (n:Nat){G K:Prop}(k:K)(h:K→eO () n G:=by
  intro k
  repeat (first
  | ((with_reducible show eO _ (_+1) (wpList _ _ _ (_::_) _ _));first| (refine aB (ao hF rfl rfl rfl (bf hF rfl)) ?_;intro a hF)| (refine aB (ao hF rfl rfl rfl eN) ?_;intro a hF)| (refine aB (cW hF rfl rfl rfl rfl gL rfl rfl) ?_;intro a hF)|refine gJ (bg hF rfl rfl rfl rfl gL) ?_)
  |with_unfolding_none (first|refine aF c8 ?_ |refine aF fV ?_ |refine aF fZ ?_)
  |with_reducible (first|refine aF wp_seq ?_ |refine aF wp_region_lit ?_ |refine aF wp_block ?_ |refine aF wp_skip ?_ |refine aF wp_exit ?_ |refine aF wp_ret ?_)
  | ((with_reducible show eO _ (_+1) (ji _ _ _ _ (_::_) _ _ _));first| (refine aB (dE hF rfl rfl rfl (fun w=>(bf hF rfl))) ?_;intro a hF)| (refine aB (dE hF rfl rfl rfl (fun w=>eN)) ?_;intro a hF)| (refine aB (jC hF rfl rfl rfl (fun w hO=>eN)) ?_;intro a hF)| (refine aB (iu hF rfl rfl rfl rfl gL rfl rfl) ?_;intro a hF)|refine gJ (ij hF rfl rfl rfl rfl gL) ?_)
  | ((with_reducible show eO _ (_+1) (kA _ _ _ _ _ _ (_::_) _ _));first| (refine aB (eC rfl rfl hF rfl rfl rfl (fun w=>(bf hF rfl))) ?_;intro a hF)| (refine aB (eC rfl rfl hF rfl rfl rfl (fun w=>eN)) ?_;intro a hF)| (refine aB (fM rfl rfl hF rfl rfl rfl (fun w hO=>eN)) ?_;intro a hF))
  |refine aF w9 ?_
  |refine aF (ye rfl) ?_
  |with_unfolding_none refine aF v7 ?_)
  repeat (first
  | (refine rE (Ty hF rfl rfl) ?_;exact k)
  | (refine rE (XL hF hO rfl rfl) ?_;exact k)
  | (refine rE (Gi hF rfl rfl rfl) ?_;exact k)
  | (refine rE (r_3 hF rfl rfl rfl rfl) ?_;exact k)
  | (refine rE (r_0 hF rfl) ?_;exact k)
  | (refine rE (aa_ hF rfl) ?_;exact k)
  |with_unfolding_none refine aF jz ?_
  |with_unfolding_none refine aF ke ?_)):G:=(h k).go
theorem Zi (n:Nat){G K1 K2:Prop}(k1:K1)(k2:K2)(h:K1→K2→eO () n G:=by
  intro k1 k2
  repeat (first
  | ((with_reducible show eO _ (_+1) (wpList _ _ _ (_::_) _ _));first| (refine aB (ao hF rfl rfl rfl (bf hF rfl)) ?_;intro a hF)| (refine aB (ao hF rfl rfl rfl eN) ?_;intro a hF)| (refine aB (cW hF rfl rfl rfl rfl gL rfl rfl) ?_;intro a hF)|refine gJ (bg hF rfl rfl rfl rfl gL) ?_)
  |with_unfolding_none (first|refine aF c8 ?_ |refine aF fV ?_ |refine aF fZ ?_)
  |with_reducible (first|refine aF wp_seq ?_ |refine aF wp_region_lit ?_ |refine aF wp_block ?_ |refine aF wp_skip ?_ |refine aF wp_exit ?_ |refine aF wp_ret ?_)
  | ((with_reducible show eO _ (_+1) (ji _ _ _ _ (_::_) _ _ _));first| (refine aB (dE hF rfl rfl rfl (fun w=>(bf hF rfl))) ?_;intro a hF)| (refine aB (dE hF rfl rfl rfl (fun w=>eN)) ?_;intro a hF)| (refine aB (jC hF rfl rfl rfl (fun w hO=>eN)) ?_;intro a hF)| (refine aB (iu hF rfl rfl rfl rfl gL rfl rfl) ?_;intro a hF)|refine gJ (ij hF rfl rfl rfl rfl gL) ?_)
  | ((with_reducible show eO _ (_+1) (kA _ _ _ _ _ _ (_::_) _ _));first| (refine aB (eC rfl rfl hF rfl rfl rfl (fun w=>(bf hF rfl))) ?_;intro a hF)| (refine aB (eC rfl rfl hF rfl rfl rfl (fun w=>eN)) ?_;intro a hF)| (refine aB (fM rfl rfl hF rfl rfl rfl (fun w hO=>eN)) ?_;intro a hF))
  |refine aF w9 ?_
  |refine aF (ye rfl) ?_
  |with_unfolding_none refine aF v7 ?_)
  (refine ZB (H8 hF rfl rfl) ?_ ?_;first| (with_reducible (exact k1;exact k2))| (exact k1 a hF;exact k2 a hF))):G:=(h k1 k2).go
theorem Zj (n:Nat){G K1 K2:Prop}(k1:K1)(k2:K2)(h:K1→K2→eO () n G:=by
  intro k1 k2
  repeat (first
  | ((with_reducible show eO _ (_+1) (wpList _ _ _ (_::_) _ _));first| (refine aB (ao hF rfl rfl rfl (bf hF rfl)) ?_;intro a hF)| (refine aB (ao hF rfl rfl rfl eN) ?_;intro a hF)| (refine aB (cW hF rfl rfl rfl rfl gL rfl rfl) ?_;intro a hF)|refine gJ (bg hF rfl rfl rfl rfl gL) ?_)
  |with_unfolding_none (first|refine aF c8 ?_ |refine aF fV ?_ |refine aF fZ ?_)
  |with_reducible (first|refine aF wp_seq ?_ |refine aF wp_region_lit ?_ |refine aF wp_block ?_ |refine aF wp_skip ?_ |refine aF wp_exit ?_ |refine aF wp_ret ?_)
  | ((with_reducible show eO _ (_+1) (ji _ _ _ _ (_::_) _ _ _));first| (refine aB (dE hF rfl rfl rfl (fun w=>(bf hF rfl))) ?_;intro a hF)| (refine aB (dE hF rfl rfl rfl (fun w=>eN)) ?_;intro a hF)| (refine aB (jC hF rfl rfl rfl (fun w hO=>eN)) ?_;intro a hF)| (refine aB (iu hF rfl rfl rfl rfl gL rfl rfl) ?_;intro a hF)|refine gJ (ij hF rfl rfl rfl rfl gL) ?_)
  | ((with_reducible show eO _ (_+1) (kA _ _ _ _ _ _ (_::_) _ _));first| (refine aB (eC rfl rfl hF rfl rfl rfl (fun w=>(bf hF rfl))) ?_;intro a hF)| (refine aB (eC rfl rfl hF rfl rfl rfl (fun w=>eN)) ?_;intro a hF)| (refine aB (fM rfl rfl hF rfl rfl rfl (fun w hO=>eN)) ?_;intro a hF))
  |refine aF w9 ?_
  |refine aF (ye rfl) ?_
  |with_unfolding_none refine aF v7 ?_)
  (refine ZB (H8 hF rfl (bh _)) ?_ ?_;first| (with_reducible (exact k1;exact k2))| (exact k1 a hF;exact k2 a hF))):G:=(h k1 k2).go
theorem Zc (n:Nat){G K H:Prop}(c:H)(k:K)(h:H→K→eO () n G:=by
  intro c k
  repeat (first
  | ((with_reducible show eO _ (_+1) (wpList _ _ _ (_::_) _ _));first| (refine aB (ao hF rfl rfl rfl (bf hF rfl)) ?_;intro a hF)| (refine aB (ao hF rfl rfl rfl eN) ?_;intro a hF)| (refine aB (cW hF rfl rfl rfl rfl gL rfl rfl) ?_;intro a hF)|refine gJ (bg hF rfl rfl rfl rfl gL) ?_)
  |with_unfolding_none (first|refine aF c8 ?_ |refine aF fV ?_ |refine aF fZ ?_)
  |with_reducible (first|refine aF wp_seq ?_ |refine aF wp_region_lit ?_ |refine aF wp_block ?_ |refine aF wp_skip ?_ |refine aF wp_exit ?_ |refine aF wp_ret ?_)
  | ((with_reducible show eO _ (_+1) (ji _ _ _ _ (_::_) _ _ _));first| (refine aB (dE hF rfl rfl rfl (fun w=>(bf hF rfl))) ?_;intro a hF)| (refine aB (dE hF rfl rfl rfl (fun w=>eN)) ?_;intro a hF)| (refine aB (jC hF rfl rfl rfl (fun w hO=>eN)) ?_;intro a hF)| (refine aB (iu hF rfl rfl rfl rfl gL rfl rfl) ?_;intro a hF)|refine gJ (ij hF rfl rfl rfl rfl gL) ?_)
  | ((with_reducible show eO _ (_+1) (kA _ _ _ _ _ _ (_::_) _ _));first| (refine aB (eC rfl rfl hF rfl rfl rfl (fun w=>(bf hF rfl))) ?_;intro a hF)| (refine aB (eC rfl rfl hF rfl rfl rfl (fun w=>eN)) ?_;intro a hF)| (refine aB (fM rfl rfl hF rfl rfl rfl (fun w hO=>eN)) ?_;intro a hF))
  |refine aF w9 ?_
  |refine aF (ye rfl) ?_
  |with_unfolding_none refine aF v7 ?_)
  first
  | (refine rE (fN hF rfl rfl rfl (zCv hF rfl rfl c)) ?_;exact k)
  | (refine rE (vO rfl rfl hF rfl rfl rfl (zCv hF rfl rfl c)) ?_;exact k)
  | (refine rE (jO hF rfl rfl rfl (zCv hF rfl rfl c)) ?_;exact k)):G:=(h c k).go
theorem Zk (n:Nat){G K H:Prop}(c:H)(k:K)(h:H→K→eO () n G:=by
  intro c k
  repeat (first
  | ((with_reducible show eO _ (_+1) (wpList _ _ _ (_::_) _ _));first| (refine aB (ao hF rfl rfl rfl (bf hF rfl)) ?_;intro a hF)| (refine aB (ao hF rfl rfl rfl eN) ?_;intro a hF)| (refine aB (cW hF rfl rfl rfl rfl gL rfl rfl) ?_;intro a hF)|refine gJ (bg hF rfl rfl rfl rfl gL) ?_)
  |with_unfolding_none (first|refine aF c8 ?_ |refine aF fV ?_ |refine aF fZ ?_)
  |with_reducible (first|refine aF wp_seq ?_ |refine aF wp_region_lit ?_ |refine aF wp_block ?_ |refine aF wp_skip ?_ |refine aF wp_exit ?_ |refine aF wp_ret ?_)
  | ((with_reducible show eO _ (_+1) (ji _ _ _ _ (_::_) _ _ _));first| (refine aB (dE hF rfl rfl rfl (fun w=>(bf hF rfl))) ?_;intro a hF)| (refine aB (dE hF rfl rfl rfl (fun w=>eN)) ?_;intro a hF)| (refine aB (jC hF rfl rfl rfl (fun w hO=>eN)) ?_;intro a hF)| (refine aB (iu hF rfl rfl rfl rfl gL rfl rfl) ?_;intro a hF)|refine gJ (ij hF rfl rfl rfl rfl gL) ?_)
  | ((with_reducible show eO _ (_+1) (kA _ _ _ _ _ _ (_::_) _ _));first| (refine aB (eC rfl rfl hF rfl rfl rfl (fun w=>(bf hF rfl))) ?_;intro a hF)| (refine aB (eC rfl rfl hF rfl rfl rfl (fun w=>eN)) ?_;intro a hF)| (refine aB (fM rfl rfl hF rfl rfl rfl (fun w hO=>eN)) ?_;intro a hF))
  |refine aF w9 ?_
  |refine aF (ye rfl) ?_
  |with_unfolding_none refine aF v7 ?_)
  (refine rE (eY rfl rfl hF rfl rfl rfl (zCv hF rfl rfl c) kpC) ?_;exact k)):G:=(h c k).go
theorem Zd (n:Nat)(ks:List Nat){G K:Prop}(k:K)(h:K→eO ks n G:=by
  intro k
  repeat (first
  | ((with_reducible show eO _ (_+1) (wpList _ _ _ (_::_) _ _));first| (refine aB (ao hF rfl rfl rfl (bf hF rfl)) ?_;intro a hF)| (refine aB (ao hF rfl rfl rfl eN) ?_;intro a hF)| (refine aB (cW hF rfl rfl rfl rfl gL rfl rfl) ?_;intro a hF)|refine gJ (bg hF rfl rfl rfl rfl gL) ?_)
  |with_unfolding_none (first|refine aF c8 ?_ |refine aF fV ?_ |refine aF fZ ?_)
  |with_reducible (first|refine aF wp_seq ?_ |refine aF wp_region_lit ?_ |refine aF wp_block ?_ |refine aF wp_skip ?_ |refine aF wp_exit ?_ |refine aF wp_ret ?_)
  | ((with_reducible show eO _ (_+1) (ji _ _ _ _ (_::_) _ _ _));first| (refine aB (dE hF rfl rfl rfl (fun w=>(bf hF rfl))) ?_;intro a hF)| (refine aB (dE hF rfl rfl rfl (fun w=>eN)) ?_;intro a hF)| (refine aB (jC hF rfl rfl rfl (fun w hO=>eN)) ?_;intro a hF)| (refine aB (iu hF rfl rfl rfl rfl gL rfl rfl) ?_;intro a hF)|refine gJ (ij hF rfl rfl rfl rfl gL) ?_)
  | ((with_reducible show eO _ (_+1) (kA _ _ _ _ _ _ (_::_) _ _));first| (refine aB (eC rfl rfl hF rfl rfl rfl (fun w=>(bf hF rfl))) ?_;intro a hF)| (refine aB (eC rfl rfl hF rfl rfl rfl (fun w=>eN)) ?_;intro a hF)| (refine aB (fM rfl rfl hF rfl rfl rfl (fun w hO=>eN)) ?_;intro a hF))
  |refine aF w9 ?_
  |refine aF (ye rfl) ?_
  |with_unfolding_none refine aF v7 ?_)
  (refine aay hO (by kernel_rfl) ?_;intro w hO;first|with_reducible exact k w hO|exact k a w hO hF)):G:=(h k).go
theorem Zg (n:Nat){G K H:Prop}(c:H)(k:K)(h:H→K→eO () n G:=by
  intro c k
  repeat (first
  | ((with_reducible show eO _ (_+1) (wpList _ _ _ (_::_) _ _));first| (refine aB (ao hF rfl rfl rfl (bf hF rfl)) ?_;intro a hF)| (refine aB (ao hF rfl rfl rfl eN) ?_;intro a hF)| (refine aB (cW hF rfl rfl rfl rfl gL rfl rfl) ?_;intro a hF)|refine gJ (bg hF rfl rfl rfl rfl gL) ?_)
  |with_unfolding_none (first|refine aF c8 ?_ |refine aF fV ?_ |refine aF fZ ?_)
  |with_reducible (first|refine aF wp_seq ?_ |refine aF wp_region_lit ?_ |refine aF wp_block ?_ |refine aF wp_skip ?_ |refine aF wp_exit ?_ |refine aF wp_ret ?_)
  | ((with_reducible show eO _ (_+1) (ji _ _ _ _ (_::_) _ _ _));first| (refine aB (dE hF rfl rfl rfl (fun w=>(bf hF rfl))) ?_;intro a hF)| (refine aB (dE hF rfl rfl rfl (fun w=>eN)) ?_;intro a hF)| (refine aB (jC hF rfl rfl rfl (fun w hO=>eN)) ?_;intro a hF)| (refine aB (iu hF rfl rfl rfl rfl gL rfl rfl) ?_;intro a hF)|refine gJ (ij hF rfl rfl rfl rfl gL) ?_)
  | ((with_reducible show eO _ (_+1) (kA _ _ _ _ _ _ (_::_) _ _));first| (refine aB (eC rfl rfl hF rfl rfl rfl (fun w=>(bf hF rfl))) ?_;intro a hF)| (refine aB (eC rfl rfl hF rfl rfl rfl (fun w=>eN)) ?_;intro a hF)| (refine aB (fM rfl rfl hF rfl rfl rfl (fun w hO=>eN)) ?_;intro a hF))
  |refine aF w9 ?_
  |refine aF (ye rfl) ?_
  |with_unfolding_none refine aF v7 ?_)
  refine QD ?_
  first
  | (refine aB (ao hF rfl rfl rfl (W5 c)) ?_;intro a hF;refine ny ?_;exact k a hF)
  | (refine aB (dE hF rfl rfl rfl (fun w=>(W5 c))) ?_;intro a hF;refine ny ?_;exact k a hF)
  | (refine aB (jC hF rfl rfl rfl (fun w hO=>(W5 c))) ?_;intro a hF;refine ny ?_;exact k a hF)
  | (refine aB (eC rfl rfl hF rfl rfl rfl (fun w=>(W5 c))) ?_;intro a hF;refine ny ?_;exact k a hF)
  | (refine aB (fM rfl rfl hF rfl rfl rfl (fun w hO=>(W5 c))) ?_;intro a hF;refine ny ?_;exact k a hF)):G:=(h c k).go
theorem Zh (n:Nat){G K H D:Prop}(c:H)(d:D)(k:K)(h:H→D→K→eO () n G:=by
  intro c d k
  repeat (first
  | ((with_reducible show eO _ (_+1) (wpList _ _ _ (_::_) _ _));first| (refine aB (ao hF rfl rfl rfl (bf hF rfl)) ?_;intro a hF)| (refine aB (ao hF rfl rfl rfl eN) ?_;intro a hF)| (refine aB (cW hF rfl rfl rfl rfl gL rfl rfl) ?_;intro a hF)|refine gJ (bg hF rfl rfl rfl rfl gL) ?_)
  |with_unfolding_none (first|refine aF c8 ?_ |refine aF fV ?_ |refine aF fZ ?_)
  |with_reducible (first|refine aF wp_seq ?_ |refine aF wp_region_lit ?_ |refine aF wp_block ?_ |refine aF wp_skip ?_ |refine aF wp_exit ?_ |refine aF wp_ret ?_)
  | ((with_reducible show eO _ (_+1) (ji _ _ _ _ (_::_) _ _ _));first| (refine aB (dE hF rfl rfl rfl (fun w=>(bf hF rfl))) ?_;intro a hF)| (refine aB (dE hF rfl rfl rfl (fun w=>eN)) ?_;intro a hF)| (refine aB (jC hF rfl rfl rfl (fun w hO=>eN)) ?_;intro a hF)| (refine aB (iu hF rfl rfl rfl rfl gL rfl rfl) ?_;intro a hF)|refine gJ (ij hF rfl rfl rfl rfl gL) ?_)
  | ((with_reducible show eO _ (_+1) (kA _ _ _ _ _ _ (_::_) _ _));first| (refine aB (eC rfl rfl hF rfl rfl rfl (fun w=>(bf hF rfl))) ?_;intro a hF)| (refine aB (eC rfl rfl hF rfl rfl rfl (fun w=>eN)) ?_;intro a hF)| (refine aB (fM rfl rfl hF rfl rfl rfl (fun w hO=>eN)) ?_;intro a hF))
  |refine aF w9 ?_
  |refine aF (ye rfl) ?_
  |with_unfolding_none refine aF v7 ?_)
  refine QD ?_
  first
  | (refine aB (ao hF rfl rfl rfl XQ) ?_;intro a hF;refine ny ?_;exact k a hF)
  | (refine aB (dE hF rfl rfl rfl (fun w=>XQ)) ?_;intro a hF;refine ny ?_;exact k a hF)
  | (refine aB (jC hF rfl rfl rfl (fun w hO=>XQ)) ?_;intro a hF;refine ny ?_;exact k a hF)
  | (refine aB (eC rfl rfl hF rfl rfl rfl (fun w=>XQ)) ?_;intro a hF;refine ny ?_;exact k a hF)
  | (refine aB (fM rfl rfl hF rfl rfl rfl (fun w hO=>XQ)) ?_;intro a hF;refine ny ?_;exact k a hF)):G:=(h c d k).go
open Go Go.Maps Go.WideAt
set_option linter.unusedVariables false
def Ou:Value→Option (DataW Value×List MemPlace):=fun v=>some (.held v,[])
def gl (P:Program)(w:World)(k:TypeId)(b n:Nat)(f:Lit→Option Value):Prop:=
 ∃D:DataW Value,w.ownsMap P k Ou b n D∧∀kl z,D.atKey kl (.held z)=.held ((f kl).getD z)
open Classical in
noncomputable def fJ (f:Lit→Option Value)(kl:Lit)(v:Value):Lit→Option Value:=fun x=>if x=kl then some v else f x
theorem gl.kz {P:Program}{w w':World}{k:TypeId}{b n:Nat}{f:Lit→Option Value}(h:gl P w k b n f)(hk:w'.heap[b]?=w.heap[b]?):gl P w' k b n f:=by
 obtain⟨D,⟨es,clock,hb,rest⟩,hf⟩:=h;exact⟨D,⟨es,clock,hk.trans hb,rest⟩,hf⟩
theorem gl.lt {P:Program}{w:World}{k:TypeId}{b n:Nat}{f:Lit→Option Value}(h:gl P w k b n f):b<w.heap.size:=by
 obtain⟨D,h,_⟩:=h;exact h.lt
def aq.eX (P:Program)(k:TypeId)(b n:Nat)(f:Lit→Option Value):aq:=
 .gp [b] (fun w=>gl P w k b n f) (fun _ _ h hk=>h.kz (hk b (List.mem_singleton.2 rfl))) (fun _ h b' hb=>by obtain rfl:=List.mem_singleton.1 hb;exact h.lt)
theorem wF:(Value.bool true)≠.bool false:=by simp
theorem Fk {f:Option Value}(h:∀z,(DataW.held (H:=Value) z)=.held (f.getD z)):f=none:=by
 cases f with
 |none=>rfl
 |some u=>
  have h1:Value.bool true=u:=by simpa using h (.bool true)
  have h2:Value.bool false=u:=by simpa using h (.bool false)
  exact absurd (h1.trans h2.symm) wF
theorem Ez {f:Option Value}{v:Value}(h:∀z,(DataW.held (H:=Value) v)=.held (f.getD z)):f=some v:=by
 cases f with
 |none=>
  have h1:v=Value.bool true:=by simpa using h (.bool true)
  have h2:v=Value.bool false:=by simpa using h (.bool false)
  exact absurd (h1.symm.trans h2) wF
 |some u=>
  have h1:v=u:=by simpa using h (.bool true)
  rw[h1]
section
variable {P:Program} {w w0 w':World} {k e t:TypeId} {b n:Nat} {f:Lit→Option Value} {M:List Nat} {L:List aq} {o:Oper} {a:Act} {x y:Operand} {key z v:Value} {kl:Lit}
theorem gl.look (c:Bool)(h:gl P w k b n f)(K:Keyed P k)(ht:P.underlying t=some (.map k e))(hz:(zeroValue e).run P w=.ok z w)(hkey:keyOf P k key=some kl):
  (Instr.lookup t (.map (some b)) key c).run P w=.ok (if c then .tuple #[(f kl).getD z,.bool (f kl).isSome] else (f kl).getD z) w:=by
 obtain⟨D,⟨es,clock,hb,F,_,rfl⟩,hf⟩:=h;rcases Maps.fit_look c K ht hz hb F hkey with ⟨hrun,_,hat⟩| ⟨e0,y,_,_,hrun,hRv,hat,_⟩
 ·have:f kl=none:=Fk fun z=>(hat _).symm.trans (hf kl z);rw[hrun,this];rfl
 ·cases hRv;have:f kl=some e0.val:=Ez fun z=>(hat _).symm.trans (hf kl z);rw[hrun,this];rfl
theorem gl.put (h:gl P w k b n f)(K:Keyed P k)(ht:P.underlying t=some (.map k e))(hn:n<maxLen)(hkey:keyOf P k key=some kl):
  ∃w',(Instr.mapUpdate t (.map (some b)) key v).run P w=.ok () w'∧gl P w' k b (n+1) (fJ f kl v)∧w.grownBy w' (some b):=by
 obtain⟨D,hD,hf⟩:=h;obtain⟨w',h1,h2,h3⟩:=hD.update K ht hn (val:=v) (d:=.held v) (ps:=[]) hkey rfl;refine⟨w',h1,⟨_,h2,fun kl' z=>?_⟩,h3⟩;unfold fJ
 by_cases hk:kl'=kl
 ·subst hk;rw[if_pos rfl,atKey_put_same hD.isMap (K.key hkey)];rfl
 ·rw[if_neg hk,atKey_put_other hk,hf]
theorem St.Vz {e e':aq}{i:Nat}(hO:St w0 M w L)(hi:L[i]?=some e)(hg:w.grownBy w' (some b))(hb:e.bs=[b])(he:e'.ok w')(hb':e'.bs=[b]):St w0 M w' (L.set i e'):=
 ((hO.pull i hi).turns hg.os hg.tape hg.output hg.size (fun b' hlt hn=>hg.block b' hlt (fun h=>hn (by rw[hb];cases h;exact List.mem_singleton.2 rfl))) he (by rw[hb'];simp) (fun x hx=>.inl (by rw[hb];rwa [hb'] at hx))).perm (set_perm L i _ _ hi)
theorem Ap {i:Nat}(hO:St w0 M w L)(hi:L[i]?=some (aq.eX P k b n f))(K:Keyed P k)(ht:P.underlying t=some (.map k e))(hz:(zeroValue e).run P w=.ok z w)(ho:o.op=.lookup t x y true)(hx:a.eval x=.map (some b))(hy:a.eval y=key)(hkey:keyOf P k key=some kl):QV P o a w (.tuple #[(f kl).getD z,.bool (f kl).isSome]):=by
 have hrun:=gl.look true (hO.ok hi:gl P w k b n f) K ht hz hkey;simp [QV,execOp,ho,hx,hy,hrun]
theorem IS (w:World):gl P (w.alloc (.map #[] 0)) k w.heap.size 0 (fun _=>none):=⟨_,w.ownsMap_made P k Ou,fun _ _=>rfl⟩
theorem St.SW (hO:St w0 M w L):St w0 M (w.alloc (.map #[] 0)) (aq.eX P k w.heap.size 0 (fun _=>none)::L):=by
 have h1:=hO.Ys (.map #[] 0);refine h1.turns (e':=aq.eX P k w.heap.size 0 (fun _=>none)) rfl rfl rfl (Nat.le_refl _) (fun _ _ _=>rfl) (IS w) ?_ ?_
 ·show ([w.heap.size]:List Nat).Nodup;simp
 ·intro b hb;exact .inl hb
theorem mD (hO:St w0 M w L)(k:TypeId)(ho:o.op=.makeMap t none):eH P o a w (fun u w'=>∃b,u=.map (some b)∧St w0 M w' (aq.eX P k b 0 (fun _=>none)::L)):=by
 refine eH.value (w':=w.alloc (.map #[] 0)) (v:=.map (some w.heap.size)) ?_ ⟨_,rfl,hO.SW⟩;simp [execOp,ho,Instr.makeMap]
end
section
variable {P:Program} {w w0 w':World} {e t:TypeId} {size n:Nat} {v:Value} {xs:List Value} {M:List Nat} {L:List aq} {o:Oper} {a:Act} {x y:Operand}
end
open Go Go.Maps
section
variable {P:Program} {w w0 w':World} {e t:TypeId} {size n:Nat} {v u x:Value} {M:List Nat} {L B A':List aq} {o:Oper} {a:Act} {e1 e2 e3 e4 e5 e6 e7 e8:aq}
def eF (f:Lit→Option Value)(g:Int→Option Value):Prop:=∀n:Int,f (.int .i64 n)=g n
theorem eF.put {f:Lit→Option Value}{g:Int→Option Value}(h:eF f g)(n:Int)(v:Value):eF (fJ f (.int .i64 n) v) (fun m=>if m=n then some v else g m):=by
 intro m;unfold fJ;dsimp only
 by_cases hm:m=n
 ·subst hm;rw[if_pos rfl,if_pos rfl]
 ·rw[if_neg (by simp [hm]),if_neg hm,h m]
theorem CE {n:Int}(h: -9223372036854775808≤n∧n≤9223372036854775807):(Lit.int .i64 n).wf=true:=by
 obtain⟨h1,h2⟩:=h;simp only[Lit.wf,IntKind.min,IntKind.max,IntKind.bits,IntKind.signed];simp;omega
end
section
variable (P:Program) (ops:Array Oper) (ks:List Nat) (w0:World) (M:List Nat) (L0:List aq) (G:Value→List aq→Prop) (K:Act→World→Prop)
abbrev St5:=List aq ⊕ World
end
section
variable {P:Program} {ops:Array Oper} {ks:List Nat} {w0:World} {M:List Nat} {L0:List aq} {G:Value→List aq→Prop} {K:Act→World→Prop}
variable {rest:List Oper} {o:Oper} {n d:Nat} {F:List (Nat×Value)} {v:Value} {a:Act} {σ:St5} {L:List aq} {R:Value→World→Prop}
end
open Go Go.ChangeMaps
section
variable {P:Program} {w w0 w':World} {t kt et e:TypeId} {b n i:Nat} {M:List Nat} {L:List aq} {o:Oper} {a:Act} {x y u:Operand} {v z:Value} {p:Option Addr} {ad:Addr}
end
def pe (v:Value):List PanicEntry:=[{v,recovered:=false}]
def dx (P:Program)(f:Nat)(args:Array Value)(w:World)(R E:Value→World→Prop):Prop:=
 Calls P f args w fun e w'=>(∃v,e=.returned v∧R v w')∨(∃v,e=.panicked (pe v)∧E v w')
def GI (P:Program)(fn:Func)(R E:Value→World→Prop):Exit→Act→World→Prop
 | .panic ch,a,w=>a.defers=[]∧∃v,ch=pe v∧E v w
 |e,a,w=>uy P fn R e a w
section
variable {P:Program} {f:Nat} {fn:Func} {args:Array Value} {w:World} {R E R' E':Value→World→Prop}
theorem dx.mono (h:dx P f args w R E)(hr:∀v w',R v w'→R' v w')(he:∀v w',E v w'→E' v w'):dx P f args w R' E':=
 Calls.mono h fun _ _ h=>h.imp (fun⟨v,e,hv⟩=>⟨v,e,hr _ _ hv⟩) fun⟨v,e,hv⟩=>⟨v,e,he _ _ hv⟩
theorem Nt {c:Code}(hf:P.funcs[f]?=some fn)(hb:fn.body=some c){m:Nat}(hm:fn.ntmps=m)(L:List (Nat×Value))(hle:Nat.ble args.size m=true)(hL:qC ((List.range args.size).zip args.toList) L)
  (h:∀a,Fr a m L→c.wp P (GI P fn R E) a w):dx P f args w R E:=by
 refine calls_of_wp hf hb ?_;have:=Fr.init args (fn.ntmps - args.size) L hL;rw[show args.size+(fn.ntmps - args.size)=m by rw[hm];have:=Nat.le_of_ble_eq_true hle;omega] at this;refine wp_mono (h _ this) fun e a w' he=>?_
 cases e with
 |normal=>obtain⟨h1,v,h2,v',h3,h4⟩:=he;exact⟨h1,v,h2,.inl ⟨v',h3,h4⟩⟩
 |ret=>obtain⟨h1,v,h2,v',h3,h4⟩:=he;exact⟨h1,v,h2,.inl ⟨v',h3,h4⟩⟩
 |panic ch=>obtain⟨h1,v,rfl,h2⟩:=he;exact⟨h1,.inr ⟨v,rfl,h2⟩⟩
 |exit id=>exact he
 |goto l=>exact he
 |outgrown=>obtain⟨v,h,_⟩:=he;cases h
end
section
variable {P:Program} {ops:Array Oper} {Q:Exit→Act→World→Prop} {a:Act} {w:World} {rest:List Oper} {o:Oper} {n d:Nat} {L:List (Nat×Value)} {R E:Value→World→Prop}
theorem rC {f:Nat}{vs:Array Value}{K:Act→World→Prop}(h:(execOp a.eval o).run P w=.ok (.enter f vs) w)(hc:dx P f vs w R E)(pan:∀v w',E v w'→Q (.panic (pe v)) a w')(next:∀v w',R v w'→K (a.put o.dst v) w'):o.wp P a w K Q:=by
 unfold Oper.wp;rw[h];show Calls P f vs w _;refine Calls.mono hc fun e w' he=>?_;rcases he with ⟨v,rfl,hv⟩| ⟨v,rfl,hv⟩
 ·exact next v w' hv
 ·exact pan v w' hv
theorem Bn {f:Nat}{args:Array Operand}{vs:Array Value}{ts:Array TypeId}(ho:o.op=.call {callee:=.value (.func f),args:=args,argTypes:=ts})(hv:args.map a.eval=vs)
  (hf:∀args w,(callFunc f args).run P w=.ok (.enter f args) w):(execOp a.eval o).run P w=.ok (.enter f vs) w:=by
 simp [execOp,ho,resolve,invoke,Act.eval,Deferred.ofValue,hv,hf]
theorem ze {f:Nat}{g:Operand}{fs cs:Array Value}{args:Array Operand}{vs:Array Value}{ts:Array TypeId}(ho:o.op=.call {callee:=.value g,args:=args,argTypes:=ts})(hg:a.eval g=.func (.func f) fs cs)(hv:fs++args.map a.eval++cs=vs)
  (hf:∀args w,(callFunc f args).run P w=.ok (.enter f args) w):(execOp a.eval o).run P w=.ok (.enter f vs) w:=by
 simp [execOp,ho,resolve,invoke,hg,Deferred.ofValue,hv,hf]
theorem k_ {f:Nat}{vs:Array Value}(hF:Fr a n L)(hg:o.guard=none)(hd:o.dst=some d)(hn:Nat.ble (d+1) n=true)(h:(execOp a.eval o).run P w=.ok (.enter f vs) w)(hc:dx P f vs w R E)
  (pan:∀v w',E v w'→Q (.panic (pe v)) a w') (next:∀a v w',R v w'→Fr a n ((d,v)::L)→wpList P ops Q rest a w'):wpList P ops Q (o::rest) a w:=by
 unfold wpList;rw[if_pos (by simp [Region.wanted,hg])];exact .inl (rC h hc pan fun v w' hv=>by rw[hd];exact next _ v w' hv (hF.put (Nat.le_of_ble_eq_true hn) v))
theorem V1 {f:Nat}{vs:Array Value}(hF:Fr a n L)(hg:o.guard=none)(hd:o.dst=none)(h:(execOp a.eval o).run P w=.ok (.enter f vs) w)(hc:dx P f vs w R E)
  (pan:∀v w',E v w'→Q (.panic (pe v)) a w') (next:∀a v w',R v w'→Fr a n L→wpList P ops Q rest a w'):wpList P ops Q (o::rest) a w:=by
 unfold wpList;rw[if_pos (by simp [Region.wanted,hg])];exact .inl (rC h hc pan fun v w' hv=>by rw[hd];exact next _ v w' hv (hF.tR v))
theorem qE {x:Operand}{v:Value}(hg:o.guard=none)(ho:o.op=.panic x)(hr:(execOp a.eval o).run P w=.halt (.panic v) w)(pan:Q (.panic (pe v)) a w):wpList P ops Q (o::rest) a w:=by
 unfold wpList;rw[if_pos (by simp [Region.wanted,hg])];refine .inl ?_;unfold Oper.wp;rw[hr];exact pan
end
def AY (P:Program)(o:Oper)(a:Act)(w:World)(R E:Value→World→Prop):Prop:=∃f vs,(execOp a.eval o).run P w=.ok (.enter f vs) w∧dx P f vs w R E
theorem AY.mono {P:Program}{o:Oper}{a:Act}{w:World}{R R' E:Value→World→Prop}(h:AY P o a w R E)(hr:∀v w',R v w'→R' v w'):AY P o a w R' E:=by
 obtain⟨f,vs,h1,h2⟩:=h;exact⟨f,vs,h1,h2.mono hr fun _ _ h=>h⟩
theorem AY.congr {P:Program}{o:Oper}{a a':Act}{w:World}{R E:Value→World→Prop}(h:AY P o a w R E)(he:execOp a'.eval o=execOp a.eval o):AY P o a' w R E:=by
 obtain⟨f,vs,h1,h2⟩:=h;exact⟨f,vs,by rw[he];exact h1,h2⟩
def KX (k1 k2:Nat):Bool:=k1 != 9&&(k1 ==0||k2 ==0||(k1 ==1&&(decide (k2≤2)||k2 ==9))||(k1 ==2&&k2 ==1))
section
variable (P:Program) (ops:Array Oper) (ks:List Nat) (S:World→Prop) (E:Value→World→Prop) (K:Act→World→Prop)
def mQ (o:Oper)(k:Nat)(next:Act→World→Prop)(a:Act)(w:World):Prop:=
 if Region.wanted o (yielded ops a.tmps) then
  if k≤1 then ∃v,(∀w',cls S k w'→QV P o a w' v)∧next (a.put o.dst v) w
  else if k=9 then AY P o a w (fun u w2=>S w2∧next (a.put o.dst u) w2) E
  else eH P o a w (fun u w2=>pst S k w2∧next (a.put o.dst u) w2)
 else next (a.put o.dst undef) w
def kA:List Nat→Act→World→Prop
 | [],a,w=>K a w
 |i::rest,a,w=>match ops[i]? with
  |none=>kA rest a w
  |some o=>mQ P ops S E o (ks.getD i 0) (kA rest) a w
end
section
variable {P:Program} {ops:Array Oper} {ks:List Nat} {S:World→Prop} {E:Value→World→Prop} {K:Act→World→Prop}
theorem Bw {p i:Oper}{kp ki:Nat}{next:Act→World→Prop}{a:Act}{w:World}(hap:i.apart ops p=true)(hsi:iI i=true)(hsp:iI p=true)
  (hok:KX kp ki=true) (hS:S w∨(kp≠1∧kp≠2∧kp≠9∧ki≠1∧ki≠2∧ki≠9))
  (h:mQ P ops S E p kp (mQ P ops S E i ki next) a w):mQ P ops S E i ki (mQ P ops S E p kp next) a w:=by
 obtain⟨h1,h2,h3⟩:=Oper.apart_spec hap;have hi:=nA hsi;have hp:=nA hsp;have e1:∀v,execOp (a.put p.dst v).eval i=execOp a.eval i:=fun v=>execOp_put i hi a p.dst v h3;have e2:∀v,execOp (a.put i.dst v).eval p=execOp a.eval p:=fun v=>execOp_put p hp a i.dst v h1;have g1:∀v,Region.wanted i (yielded ops (a.put p.dst v).tmps)=Region.wanted i (yielded ops a.tmps):=fun v=>wanted_put i a p.dst v h3;have g2:∀v,Region.wanted p (yielded ops (a.put i.dst v).tmps)=Region.wanted p (yielded ops a.tmps):=fun v=>wanted_put p a i.dst v h1;have comm:∀u v,(a.put p.dst u).put i.dst v=(a.put i.dst v).put p.dst u:=fun u v=>(Act.put_comm a v u h2).symm;have hk9:kp≠9:=by
  simp only[KX,Bool.and_eq_true,bne_iff_ne] at hok;exact hok.1
 unfold mQ at h ⊢
 by_cases hwp:Region.wanted p (yielded ops a.tmps)=true
 ·rw[if_pos hwp] at h
  by_cases hwi:Region.wanted i (yielded ops a.tmps)=true
  ·rw[if_pos hwi]
   by_cases hkp:kp≤1
   ·rw[if_pos hkp] at h;obtain⟨vp,hvp,h⟩:=h;rw[g1,if_pos hwi] at h
    by_cases hki:ki≤1
    ·rw[if_pos hki] at h ⊢;obtain⟨vi,hvi,h⟩:=h;refine⟨vi,fun w' hw'=>(hvi w' hw').congr (e1 vp).symm,?_⟩;rw[g2,if_pos hwp,if_pos hkp];exact⟨vp,fun w' hw'=>(hvp w' hw').congr (e2 vi),by rw[←comm];exact h⟩
    ·rw[if_neg hki] at h ⊢
     by_cases Io:ki=9
     ·rw[if_pos Io] at h ⊢;refine (h.congr (a':=a) (e1 vp).symm).mono fun u w2 hu=>⟨hu.1,?_⟩;rw[g2,if_pos hwp,if_pos hkp];exact⟨vp,fun w' hw'=>(hvp w' hw').congr (e2 u),by rw[←comm];exact hu.2⟩
     ·rw[if_neg Io] at h ⊢;refine (h.congr (a':=a) (e1 vp).symm).mono fun u w2 hu=>⟨hu.1,?_⟩;rw[g2,if_pos hwp,if_pos hkp];exact⟨vp,fun w' hw'=>(hvp w' hw').congr (e2 u),by rw[←comm];exact hu.2⟩
   ·rw[if_neg hkp,if_neg hk9] at h;have hki:ki≤1:=by
     simp only[KX,Bool.or_eq_true,Bool.and_eq_true,beq_iff_eq,bne_iff_ne,decide_eq_true_eq] at hok;omega
    rw[if_pos hki];have hw:∃w',cls S ki w':=by
     rcases hS with hS|hS
     ·exact⟨w,.inr hS⟩
     ·exact⟨w,.inl (by omega)⟩
    obtain⟨u0,w0,hu0⟩:=h.some_;obtain⟨_,h0⟩:=hu0;rw[g1,if_pos hwi,if_pos hki] at h0;obtain⟨v0,hv0,_⟩:=h0;refine⟨v0,fun w' hw'=>(hv0 w' hw').congr (e1 u0).symm,?_⟩;rw[g2,if_pos hwp,if_neg hkp,if_neg hk9];refine (h.congr (a':=a.put i.dst v0) (e2 v0)).mono fun u w2 hu=>⟨hu.1,?_⟩;have hu2:=hu.2;rw[g1,if_pos hwi,if_pos hki] at hu2;obtain⟨v,hv,hn⟩:=hu2;obtain⟨w',hw'⟩:=hw;have a1:=(hv w' hw').congr (e1 u).symm;have a2:=(hv0 w' hw').congr (e1 u0).symm;have:v=v0:=by
     unfold QV at a1 a2;rw[a1] at a2;injection a2 with a2;injection a2
    subst this;rw[←comm];exact hn
  ·rw[if_neg hwi];rw[g2,if_pos hwp]
   by_cases hkp:kp≤1
   ·rw[if_pos hkp] at h ⊢;obtain⟨vp,hvp,h⟩:=h;rw[g1,if_neg hwi] at h;exact⟨vp,fun w' hw'=>(hvp w' hw').congr (e2 _),by rw[←comm];exact h⟩
   ·rw[if_neg hkp,if_neg hk9] at h ⊢;refine (h.congr (a':=a.put i.dst undef) (e2 _)).mono fun u w2 hu=>⟨hu.1,?_⟩;have:=hu.2;rw[g1,if_neg hwi] at this;rw[←comm];exact this
 ·rw[if_neg hwp] at h;rw[g1] at h
  by_cases hwi:Region.wanted i (yielded ops a.tmps)=true
  ·rw[if_pos hwi] at h ⊢
   by_cases hki:ki≤1
   ·rw[if_pos hki] at h ⊢;obtain⟨vi,hvi,h⟩:=h;refine⟨vi,fun w' hw'=>(hvi w' hw').congr (e1 _).symm,?_⟩;rw[g2,if_neg hwp,←comm];exact h
   ·rw[if_neg hki] at h ⊢
    by_cases Io:ki=9
    ·rw[if_pos Io] at h ⊢;refine (h.congr (a':=a) (e1 _).symm).mono fun u w2 hu=>⟨hu.1,?_⟩;rw[g2,if_neg hwp,←comm];exact hu.2
    ·rw[if_neg Io] at h ⊢;refine (h.congr (a':=a) (e1 _).symm).mono fun u w2 hu=>⟨hu.1,?_⟩;rw[g2,if_neg hwp,←comm];exact hu.2
  ·rw[if_neg hwi] at h ⊢;rw[g2,if_neg hwp,←comm];exact h
def wP (ops:Array Oper)(ks:List Nat)(p i:Nat):Bool:=
 (reach ops ops.size p i||(match ops[p]?,ops[i]? with
   |some op,some oi=>oi.apart ops op&&KX (ks.getD p 0) (ks.getD i 0)
   |_,_=>false))&&(ks.getD p 0 != 3||ks.getD i 0 ==0||ks.getD i 0 ==3)
def s_ (ops:Array Oper)(ks:List Nat):List Nat→List Nat→Bool
 |_,[]=>true
 |seen,i::l=>(match ops[i]? with
     |some o=>iI o&&(o.after.all fun e=>!Region.binds .any e||seen.contains e.on)&&(decide (ks.getD i 0≤3)||ks.getD i 0 ==9)
     |none=>false)&&(l.all fun q=>wP ops ks i q)&&s_ ops ks (seen++[i]) l
def wQ (ops:Array Oper)(ks:List Nat)(ord:List Nat):Bool:=s_ ops ks [] ord&&decide ord.Nodup&&((List.range ops.size).all fun i=>ord.contains i)&&decide (ord.length≤ops.size)
theorem qZ {i:Nat}{B:List Nat}:∀(A seen:List Nat),s_ ops ks seen (A++i::B)=true→
  ∃o,ops[i]?=some o∧iI o=true∧(∀e∈o.after,Region.binds .any e=true→e.on∈seen++A)∧(ks.getD i 0≤3∨ks.getD i 0=9)
 | [],seen,h=>by
  simp only[List.nil_append,s_,Bool.and_eq_true] at h
  cases ho:ops[i]? with
  |none=>rw[ho] at h;exact absurd h.1.1 (by simp)
  |some o=>
   rw[ho] at h;obtain⟨⟨h1,_⟩,_⟩:=h;simp only[Bool.and_eq_true,Bool.or_eq_true,decide_eq_true_eq,beq_iff_eq] at h1;refine⟨o,rfl,h1.1.1,fun e he hb=>?_,h1.2⟩;have h2:=Array.all_eq_true'.1 h1.1.2 e he;simp only[hb,Bool.not_true,Bool.false_or] at h2;rw[List.append_nil];exact List.contains_iff_mem.1 h2
 |x::A,seen,h=>by
  simp only[List.cons_append,s_,Bool.and_eq_true] at h;obtain⟨o,h1,h2,h3,h4⟩:=qZ A (seen++[x]) h.2;exact⟨o,h1,h2,fun e he hb=>by have:=h3 e he hb;simpa using this,h4⟩
theorem u4:∀(l seen:List Nat),s_ ops ks seen l=true→l.Pairwise fun p q=>wP ops ks p q=true
 | [],_,_=>List.Pairwise.nil
 |i::l,seen,h=>by
  simp only[s_,Bool.and_eq_true] at h;exact List.pairwise_cons.2 ⟨fun q hq=>List.all_eq_true.1 h.1.2 q hq,u4 l _ h.2⟩
def lV (ord:List Nat)(listed:Array Bool):List Nat:=ord.filter fun i=>!listed.getD i true
theorem mA {ord:List Nat}{listed:Array Bool}{i:Nat}:i∈lV ord listed↔i∈ord∧listed.getD i true=false:=by simp [lV,List.mem_filter]
theorem Sw {i:Nat}{oi:Oper}(hoi:ops[i]?=some oi)(hsi:iI oi=true):
  ∀(pre post:List Nat) (a:Act) (w:World),
   (∀p∈pre,∃op,ops[p]?=some op∧iI op=true∧oi.apart ops op=true∧KX (ks.getD p 0) (ks.getD i 0)=true∧(ks.getD p 0≤3∨ks.getD p 0=9))→
   pre.Pairwise (fun p q=>ks.getD p 0=3→ks.getD q 0=0∨ks.getD q 0=3)→
   (S w∨∀p∈i::pre,ks.getD p 0≠1∧ks.getD p 0≠2∧ks.getD p 0≠9)→
   kA P ops ks S E K (pre++i::post) a w→mQ P ops S E oi (ks.getD i 0) (kA P ops ks S E K (pre++post)) a w:=by
 intro pre
 induction pre with
 |nil=>intro post a w _ _ _ h;simpa [kA,hoi] using h
 |cons p pre ih=>
  intro post a w hpre h3 hS h;obtain⟨op,hop,hsp,hap,hok,hk3⟩:=hpre p (by simp);obtain⟨h3p,h3'⟩:=List.pairwise_cons.1 h3;have hk9:ks.getD p 0≠9:=by
   simp only[KX,Bool.and_eq_true,bne_iff_ne] at hok;exact hok.1
  have e:kA P ops ks S E K (p::pre++post)=mQ P ops S E op (ks.getD p 0) (kA P ops ks S E K (pre++post)):=by
   funext a w
   simp [kA,hop]
  rw[e];have h':mQ P ops S E op (ks.getD p 0) (kA P ops ks S E K (pre++i::post)) a w:=by simpa [kA,hop] using h
  refine Bw hap hsi hsp hok (hS.imp id fun hS=>?_) ?_
  ·have h1:=hS p (by simp);have h2:=hS i (by simp);exact⟨h1.1,h1.2.1,h1.2.2,h2.1,h2.2.1,h2.2.2⟩
  ·unfold mQ at h' ⊢;have hpre':∀q∈pre,∃op,ops[q]?=some op∧iI op=true∧oi.apart ops op=true∧KX (ks.getD q 0) (ks.getD i 0)=true∧(ks.getD q 0≤3∨ks.getD q 0=9):=fun q hq=>hpre q (by simp [hq]);have hS':∀w,(S w∨∀q∈i::p::pre,ks.getD q 0≠1∧ks.getD q 0≠2∧ks.getD q 0≠9)→(S w∨∀q∈i::pre,ks.getD q 0≠1∧ks.getD q 0≠2∧ks.getD q 0≠9):=fun w hw=>hw.imp id fun h q hq=>h q (by rcases List.mem_cons.1 hq with rfl|hq<;>simp [*])
   by_cases hwp:Region.wanted op (yielded ops a.tmps)=true
   ·rw[if_pos hwp] at h' ⊢
    by_cases hkp:ks.getD p 0≤1
    ·rw[if_pos hkp] at h' ⊢;obtain⟨v,hv,h'⟩:=h';exact⟨v,hv,ih post _ w hpre' h3' (hS' w hS) h'⟩
    ·rw[if_neg hkp,if_neg hk9] at h' ⊢;refine h'.mono fun u w2 hu=>⟨hu.1,ih post _ w2 hpre' h3' ?_ hu.2⟩
     by_cases hk2:ks.getD p 0=2
     ·exact .inl (hu.1 hk2)
     ·right;intro q hq;simp only[KX,Bool.or_eq_true,Bool.and_eq_true,beq_iff_eq,bne_iff_ne,decide_eq_true_eq] at hok;have hi0:ks.getD i 0=0:=by omega
      rcases List.mem_cons.1 hq with rfl|hq
      ·omega
      ·have:=h3p q hq (by omega);omega
   ·rw[if_neg hwp] at h' ⊢;exact ih post _ w hpre' h3' (hS' w hS) h'
theorem Co {i:Nat}{o:Oper}(ho:ops[i]?=some o){k:Nat}{next N:Act→World→Prop}{Q:Exit→Act→World→Prop}{a:Act}{w:World}(hE:∀v a' w',a'.defers=a.defers→E v w'→Q (.panic (pe v)) a' w')(hS:S w∨(k≠1∧k≠2∧k≠9))
  (hN:∀a' w',a'.defers=a.defers→(S w'∨(¬S w∧w'=w)∨(k≠0∧k≠1∧k≠2∧k≠9))→next a' w'→N a' w') (h:mQ P ops S E o k next a w):wpOp P ops Q i N a w:=by
 have hself:S w∨(¬S w∧w=w)∨(k≠0∧k≠1∧k≠2∧k≠9):=by
  by_cases hs:S w
  ·exact .inl hs
  ·exact .inr (.inl ⟨hs,rfl⟩)
 have hd:∀v,(a.put o.dst v).defers=a.defers:=fun v=>by cases hh:o.dst<;>rfl
 unfold mQ at h;unfold wpOp;simp only[ho]
 by_cases hw:Region.wanted o (yielded ops a.tmps)=true
 ·rw[if_pos hw] at h ⊢
  by_cases hk:k≤1
  ·rw[if_pos hk] at h;obtain⟨v,hv,hn⟩:=h;refine .inl (eH.wp ?_);have hc:cls S k w:=by
    rcases hS with hS|hS
    ·exact .inr hS
    ·exact .inl (by omega)
   exact eH.value (hv w hc) (hN _ _ (hd v) hself hn)
  ·rw[if_neg hk] at h
   by_cases hk9:k=9
   ·rw[if_pos hk9] at h;obtain⟨f,vs,h1,h2⟩:=h;exact .inl (rC h1 h2 (fun v w' hv=>hE v a w' rfl hv) fun v w' hv=>hN _ _ (hd v) (.inl hv.1) hv.2)
   ·rw[if_neg hk9] at h;refine .inl (eH.wp (h.mono fun u w2 hu=>hN _ _ (hd u) ?_ hu.2))
    by_cases hk2:k=2
    ·exact .inl (hu.1 hk2)
    ·exact .inr (.inr ⟨by omega,by omega,hk2,hk9⟩)
 ·rw[if_neg hw] at h ⊢;exact hN _ _ (hd _) hself h
theorem I3 {ord:List Nat}(hnd:ord.Nodup){listed:Array Bool}{i:Nat}{pre post:List Nat}(hl:listed.size=ops.size)(hlt:i<ops.size)(h:lV ord listed=pre++i::post):lV ord (listed.setIfInBounds i true)=pre++post:=by
 have hs:(lV ord listed).Nodup:=hnd.filter _;rw[h] at hs;have e:lV ord (listed.setIfInBounds i true)=(lV ord listed).filter (fun j=>j != i):=by
  unfold lV;rw[List.filter_filter];refine List.filter_congr fun j hj=>?_
  by_cases hij:i=j
  ·subst hij;simp [hl,hlt]
  ·have:(listed.setIfInBounds i true).getD j true=listed.getD j true:=getD_set_ne true hij;rw[this];have:(j != i)=true:=by simp;exact fun h=>hij h.symm
   simp [this]
 rw[e,h];obtain⟨_,h2,h3⟩:=List.nodup_append.1 hs;rw[List.filter_append,List.filter_cons];simp only[bne_self_eq_false,Bool.false_eq_true,if_false];rw[List.filter_eq_self.2,List.filter_eq_self.2]
 ·intro j hj;simp only[bne_iff_ne];exact fun e=>(List.nodup_cons.1 h2).1 (e▸hj)
 ·intro j hj;simp only[bne_iff_ne];exact fun e=>h3 j hj i (by simp) e
theorem sO {p:Nat→Bool}{i:Nat}{r:List Nat}:∀{l:List Nat},l.filter p=i::r→∃A B,l=A++i::B∧∀x∈A,p x=false
 | [],h=>by cases h
 |x::l,h=>by
  rw[List.filter_cons] at h
  by_cases hx:p x=true
  ·rw[if_pos hx] at h;injection h with h1 h2;subst h1;exact⟨[],l,rfl,by simp⟩
  ·rw[if_neg hx] at h;obtain⟨A,B,e,hA⟩:=sO h;refine⟨x::A,B,by rw[e];rfl,fun y hy=>?_⟩;rcases List.mem_cons.1 hy with rfl|hy
   ·exact Bool.eq_false_iff.2 hx
   ·exact hA y hy
theorem NB {ord:List Nat}{Q:Exit→Act→World→Prop}(hgood:s_ ops ks [] ord=true)(hnd:ord.Nodup)(hall:∀i,i<ops.size→i∈ord)(ds:List Deferred)(hE:∀v a' w',a'.defers=ds→E v w'→Q (.panic (pe v)) a' w')(hQ:∀a w,K a w→Q .normal a w):
  ∀(fuel:Nat) (listed:Array Bool) (a:Act) (w:World),a.defers=ds→(lV ord listed).length≤fuel→listed.size=ops.size→yb ops listed→
   (S w∨∀p∈lV ord listed,ks.getD p 0=0∨ks.getD p 0=3)→kA P ops ks S E K (lV ord listed) a w→wpAny P .any ops Q fuel listed a w:=by
 have look:∀i∈ord,∃o,ops[i]?=some o∧iI o=true∧(ks.getD i 0≤3∨ks.getD i 0=9):=fun i hi=>by
  obtain⟨A,B,rfl⟩:=List.append_of_mem hi;obtain⟨o,h1,h2,_,h4⟩:=qZ A [] hgood;exact⟨o,h1,h2,h4⟩
 have none_left:∀(listed:Array Bool),listed.size=ops.size→Region.ready .any ops listed=[]→lV ord listed=[]:=by
  intro listed hl hr
  cases hrem:lV ord listed with
  |nil=>rfl
  |cons i r=>
   exfalso;obtain⟨A,B,hAB,hA⟩:=sO (show ord.filter (fun i=>!listed.getD i true)=i::r from hrem);have hi:i∈lV ord listed:=by rw[hrem];simp
   obtain⟨hin,hun⟩:=mA.1 hi;obtain⟨o,ho,_,hed,_⟩:=qZ A [] (by rw[←hAB];exact hgood);have hrd:i∈Region.ready .any ops listed:=by
    refine mem_ready.2 ⟨hun,o,ho,fun e he hb=>?_⟩;have h1:e.on∈A:=by simpa using hed e he hb
    have h2:=hA _ h1;have h3:e.on∈ord:=by rw[hAB];simp [h1]
    obtain⟨o',ho',_⟩:=look _ h3;have hlt:e.on<listed.size:=by rw[hl];exact (Array.getElem?_eq_some_iff.1 ho').1
    simp only[Bool.not_eq_false'] at h2
    simpa [hlt] using h2
   rw[hr] at hrd;cases hrd
 intro fuel
 induction fuel with
 |zero=>
  intro listed a w hd hf hl hc hS h;have hrem:lV ord listed=[]:=List.eq_nil_of_length_eq_zero (by omega);refine⟨?_,hQ _ _ (by rw[hrem] at h;exact h)⟩
  cases hr:Region.ready .any ops listed with
  |nil=>rfl
  |cons i r=>
   have hi:i∈Region.ready .any ops listed:=by rw[hr];simp
   obtain⟨hun,o,ho,_⟩:=mem_ready.1 hi;have:i∈lV ord listed:=mA.2 ⟨hall i (Array.getElem?_eq_some_iff.1 ho).1,hun⟩;rw[hrem] at this;cases this
 |succ fuel ih=>
  intro listed a w hd hf hl hc hS h;refine⟨fun hr=>hQ _ _ (by rw[none_left listed hl hr] at h;exact h),fun i hi=>?_⟩;obtain⟨hun,oi,hoi,hrdy⟩:=mem_ready.1 hi;have hlt:i<ops.size:=(Array.getElem?_eq_some_iff.1 hoi).1;have him:i∈lV ord listed:=mA.2 ⟨hall i hlt,hun⟩;obtain⟨pre,post,hsplit⟩:=List.append_of_mem him;have hpw:(lV ord listed).Pairwise fun p q=>wP ops ks p q=true:=(u4 ord [] hgood).sublist (List.filter_sublist);rw[hsplit,List.pairwise_append] at hpw;obtain⟨hs1,hs2,hs3⟩:=hpw;have hpre:∀p∈pre,∃op,ops[p]?=some op∧iI op=true∧oi.apart ops op=true∧KX (ks.getD p 0) (ks.getD i 0)=true∧(ks.getD p 0≤3∨ks.getD p 0=9):=by
   intro p hp;have hpm:p∈lV ord listed:=by rw[hsplit];simp [hp]
   obtain⟨hpo,hpu⟩:=mA.1 hpm;obtain⟨op,hop,hsp,hk⟩:=look p hpo;have hpair:=hs3 p hp i (by simp);simp only[wP,Bool.and_eq_true,Bool.or_eq_true] at hpair;rcases hpair.1 with hre|hpair
   ·have:=su hc hi hre;have hps:p<listed.size:=by rw[hl];exact (Array.getElem?_eq_some_iff.1 hop).1
    simp [hps] at this hpu;rw[this] at hpu;cases hpu
   ·simp only[hop,hoi,Bool.and_eq_true] at hpair;exact⟨op,hop,hsp,hpair.1,hpair.2,hk⟩
  have h3:pre.Pairwise (fun p q=>ks.getD p 0=3→ks.getD q 0=0∨ks.getD q 0=3):=by
   refine hs1.imp fun {p q} hpq h3=>?_;simp only[wP,Bool.and_eq_true,Bool.or_eq_true,bne_iff_ne,beq_iff_eq] at hpq;rcases hpq.2 with (h|h)|h
   ·exact absurd h3 h
   ·exact .inl h
   ·exact .inr h
  have hfront:=Sw (P:=P) (K:=K) (S:=S) (E:=E) (ks:=ks) hoi (by obtain⟨o,h1,h2,_⟩:=look i (mA.1 him).1;rw[hoi] at h1;cases h1;exact h2) pre post a w hpre h3
   (hS.imp id fun hS p hp=>by
     have hpm:p∈lV ord listed:=by rw[hsplit];rcases List.mem_cons.1 hp with rfl|hp<;>simp [*]
     have:=hS p hpm
     omega) (by rw[←hsplit];exact h)
  have hset:=I3 (ops:=ops) hnd hl hlt hsplit;refine Co hoi (fun v a' w' hd' hv=>hE v a' w' (hd'.trans hd) hv) (hS.imp id fun hS=>by have:=hS i him;omega) (fun a' w' hd' hw' hn=>?_) hfront;refine ih _ a' w' (hd'.trans hd) ?_ (by simp [hl]) ?_ ?_ (by rw[hset];exact hn)
  ·rw[hset];rw[hsplit] at hf;simp only[List.length_append,List.length_cons] at hf ⊢;omega
  ·intro j o hj hlj e he hb
   by_cases hij:i=j
   ·subst hij;have:o=oi:=Option.some.inj (hj.symm.trans hoi);subst this;exact getD_set_true (hrdy e he hb)
   ·rw[getD_set_ne false hij] at hlj;exact getD_set_true (hc j o hj hlj e he hb)
  ·rw[hset];rcases hw' with hw'| ⟨hns,rfl⟩|hk
   ·exact .inl hw'
   ·rcases hS with hS|hS
    ·exact absurd hS hns
    ·exact .inr fun p hp=>hS p (by rw[hsplit];rcases List.mem_append.1 hp with h|h<;>simp [h])
   ·have hk3:ks.getD i 0=3:=by
     obtain⟨_,_,_,h⟩:=look i (mA.1 him).1;omega
    refine .inr fun p hp=>?_;rcases List.mem_append.1 hp with hp|hp
    ·obtain⟨op,_,_,_,hok,_⟩:=hpre p hp;simp only[KX,Bool.or_eq_true,Bool.and_eq_true,beq_iff_eq,bne_iff_ne,decide_eq_true_eq] at hok;omega
    ·have hpi:=(List.pairwise_cons.1 hs2).1 p hp;simp only[wP,Bool.and_eq_true,Bool.or_eq_true,bne_iff_ne,beq_iff_eq] at hpi;omega
theorem Kg {l:List Oper}{Q:Exit→Act→World→Prop}{a:Act}{w:World}(ks ord:List Nat)(S:World→Prop)(E:Value→World→Prop)(hlook:wQ l.toArray ks ord=true)
  (hS:S w) (hE:∀v a' w',a'.defers=a.defers→E v w'→Q (.panic (pe v)) a' w') (h:kA P l.toArray ks S E (Q .normal) ord a w):wpAny P .any l.toArray Q l.toArray.size (Array.replicate l.toArray.size false) a w:=by
 simp only[wQ,Bool.and_eq_true,decide_eq_true_eq] at hlook;obtain⟨⟨⟨h1,h2⟩,h3⟩,hlen⟩:=hlook;have e0:lV ord (Array.replicate l.toArray.size false)=ord:=by
  unfold lV;rw[List.filter_eq_self.2];intro i hi;obtain⟨A,B,rfl⟩:=List.append_of_mem hi;obtain⟨o,ho,_⟩:=qZ A [] h1;have:i<l.length:=by simpa using (Array.getElem?_eq_some_iff.1 ho).1
  simp [this]
 refine NB (ks:=ks) (S:=S) (E:=E) (K:=Q .normal) h1 h2 (fun i hi=>List.contains_iff_mem.1 (List.all_eq_true.1 h3 i (List.mem_range.2 hi))) a.defers hE (fun _ _ h=>h) _ _ _ _ rfl ?_ (by simp) ?_ (.inl hS) ?_
 ·rw[e0];exact hlen
 ·intro j o hj hl;simp at hl;have:j<l.length:=by simpa using (Array.getElem?_eq_some_iff.1 hj).1
  simp [this] at hl
 ·rw[e0];exact h
theorem ym {id:Nat}{l:List Oper}{Q:Exit→Act→World→Prop}{a:Act}{w:World}(ks ord:List Nat)(S:World→Prop)(E:Value→World→Prop)(hm:P.follows .mixedOrders=true)(hlook:wQ l.toArray ks ord=true)
  (hS:S w.drew) (hE:∀v a' w',a'.defers=a.defers→E v w'→Q (.panic (pe v)) a' w') (h:kA P l.toArray ks S E (Q .normal) ord a w.drew):(Code.region id l.toArray true).wp P Q a w:=
 wp_region_any hm (Kg ks ord S E hlook hS hE h)
end
section
variable {P:Program} {ops:Array Oper} {S:World→Prop} {E:Value→World→Prop} {K:Act→World→Prop} {a:Act} {w:World} {rest ks:List Nat} {o:Oper} {n d i:Nat} {L:List (Nat×Value)} {v:Value} {R:Value→World→Prop}
theorem mL (hi:ops[i]?=some o)(hg:o.guard=none){k:Nat}(hk:ks.getD i 0=k):
  kA P ops ks S E K (i::rest) a w=if k≤1 then ∃v,(∀w',cls S k w'→QV P o a w' v)∧kA P ops ks S E K rest (a.put o.dst v) w
   else if k=9 then AY P o a w (fun u w2=>S w2∧kA P ops ks S E K rest (a.put o.dst u) w2) E
   else eH P o a w (fun u w2=>pst S k w2∧kA P ops ks S E K rest (a.put o.dst u) w2):=by
 subst hk;show (match ops[i]? with|none=>_|some o=>_)=_;rw[hi];simp only;unfold mQ;rw[if_pos (by simp [Region.wanted,hg])]
theorem eC (hi:ops[i]?=some o)(hk:ks.getD i 0=0)(hF:Fr a n L)(hg:o.guard=none)(hd:o.dst=some d)(hn:Nat.ble (d+1) n=true)(h:∀w,QV P o a w v)
  (next:∀a,Fr a n ((d,v)::L)→kA P ops ks S E K rest a w):kA P ops ks S E K (i::rest) a w:=by
 rw[mL hi hg hk,if_pos (by omega)];exact⟨v,fun w' _=>h w',by rw[hd];exact next _ (hF.put (Nat.le_of_ble_eq_true hn) v)⟩
theorem fM (hi:ops[i]?=some o)(hk:ks.getD i 0=1)(hF:Fr a n L)(hg:o.guard=none)(hd:o.dst=some d)(hn:Nat.ble (d+1) n=true)(h:∀w,S w→QV P o a w v)
  (next:∀a,Fr a n ((d,v)::L)→kA P ops ks S E K rest a w):kA P ops ks S E K (i::rest) a w:=by
 rw[mL hi hg hk,if_pos (by omega)];exact⟨v,fun w' hc=>h w' (hc.resolve_left (by omega)),by rw[hd];exact next _ (hF.put (Nat.le_of_ble_eq_true hn) v)⟩
theorem eY (hi:ops[i]?=some o)(hk:ks.getD i 0=2)(hF:Fr a n L)(hg:o.guard=none)(hd:o.dst=some d)(hn:Nat.ble (d+1) n=true)(h:eH P o a w R)(hS:∀v w',R v w'→S w')
  (next:∀a v w,R v w→Fr a n ((d,v)::L)→kA P ops ks S E K rest a w):kA P ops ks S E K (i::rest) a w:=by
 rw[mL hi hg hk,if_neg (by omega),if_neg (by omega)];exact h.mono fun v w' hR=>⟨fun _=>hS _ _ hR,by rw[hd];exact next _ _ _ hR (hF.put (Nat.le_of_ble_eq_true hn) v)⟩
theorem vO (hi:ops[i]?=some o)(hk:ks.getD i 0=3)(hF:Fr a n L)(hg:o.guard=none)(hd:o.dst=some d)(hn:Nat.ble (d+1) n=true)(h:eH P o a w R)
  (next:∀a v w,R v w→Fr a n ((d,v)::L)→kA P ops ks S E K rest a w):kA P ops ks S E K (i::rest) a w:=by
 rw[mL hi hg hk,if_neg (by omega),if_neg (by omega)];exact h.mono fun v w' hR=>⟨fun h=>by omega,by rw[hd];exact next _ _ _ hR (hF.put (Nat.le_of_ble_eq_true hn) v)⟩
theorem de (hi:ops[i]?=some o)(hk:ks.getD i 0=3)(hF:Fr a n L)(hg:o.guard=none)(hd:o.dst=none)(h:eH P o a w R)
  (next:∀a v w,R v w→Fr a n L→kA P ops ks S E K rest a w):kA P ops ks S E K (i::rest) a w:=by
 rw[mL hi hg hk,if_neg (by omega),if_neg (by omega)];exact h.mono fun v w' hR=>⟨fun h=>by omega,by rw[hd];exact next _ _ _ hR (hF.tR v)⟩
theorem XH {E':Value→World→Prop}(hi:ops[i]?=some o)(hk:ks.getD i 0=9)(hF:Fr a n L)(hg:o.guard=none)(hd:o.dst=some d)(hn:Nat.ble (d+1) n=true){f:Nat}{vs:Array Value}(h:(execOp a.eval o).run P w=.ok (.enter f vs) w)
  (hc:dx P f vs w R E') (hS:∀v w',R v w'→S w') (pan:∀v w',E' v w'→E v w')
  (next:∀a v w,R v w→Fr a n ((d,v)::L)→kA P ops ks S E K rest a w):kA P ops ks S E K (i::rest) a w:=by
 rw[mL hi hg hk,if_neg (by omega),if_pos rfl];refine⟨f,vs,h,hc.mono (fun v w' hR=>⟨hS _ _ hR,?_⟩) pan⟩;rw[hd];exact next _ _ _ hR (hF.put (Nat.le_of_ble_eq_true hn) v)
theorem fZ (h:K a w):kA P ops ks S E K [] a w:=h
end
section
variable {P:Program} {a:Act} {w:World} {o:Oper} {n:Nat} {F:List (Nat×Value)}
theorem dV {f:Nat}{args:List Operand}{vs:List Value}{ts:Array TypeId}(hF:Fr a n F)(ho:o.op=.call {callee:=.value (.func f),args:=args.toArray,argTypes:=ts})(hv:Fl F args=some vs)
  (hf:∀args w,(callFunc f args).run P w=.ok (.enter f args) w):(execOp a.eval o).run P w=.ok (.enter f vs.toArray) w:=
 Bn ho (by rw[List.map_toArray,hF.vD hv]) hf
theorem qM {f:Nat}{g:Operand}{fs cs args:List Value}{argo:List Operand}{vs:List Value}{ts:Array TypeId}(hF:Fr a n F)(ho:o.op=.call {callee:=.value g,args:=argo.toArray,argTypes:=ts})
  (hg:a.eval g=.func (.func f) fs.toArray cs.toArray) (hv:Fl F argo=some args) (hvs:fs++args++cs=vs) (hf:∀args w,(callFunc f args).run P w=.ok (.enter f args) w):(execOp a.eval o).run P w=.ok (.enter f vs.toArray) w:=
 ze ho hg (by rw[List.map_toArray,hF.vD hv,←hvs];simp) hf
theorem dH {x y z:Operand}{v:Value}(ho:o.op=.pick x y z)(hx:a.eval x=.bool true)(hy:a.eval y=v):QV P o a w v:=yN ho hx hy
theorem dU {x y z:Operand}{v:Value}(ho:o.op=.pick x y z)(hx:a.eval x=.bool false)(hz:a.eval z=v):QV P o a w v:=yN ho hx hz
theorem tA {t:TypeId}{x:Operand}{v:Value}{e:TypeDesc}(ht:P.underlying t=some e)(hd:∀m,e≠.interface m)(ho:o.op=.makeInterface t x)(hx:a.eval x=v):QV P o a w (.iface t v):=by
 cases e with
 |interface m=>exact absurd rfl (hd m)
 |_=>simp [QV,execOp,ho,Instr.makeInterface,run_underlying ht,hx]
theorem tO {x:Operand}{t:TypeId}{v:Value}(ho:o.op=.panic x)(hx:a.eval x=.iface t v):(execOp a.eval o).run P w=.halt (.panic (.iface t v)) w:=by
 simp [execOp,ho,Instr.panic,hx,goPanic]
theorem ml {K:Act→World→Prop}{Q:Exit→Act→World→Prop}{ch:List PanicEntry}(h:Q (.panic ch) a w):Exit.then K Q (.panic ch) a w:=h
theorem vF {i:Nat}{Q:Exit→Act→World→Prop}{ch:List PanicEntry}(h:Q (.panic ch) a w):Exit.inBlock i Q (.panic ch) a w:=h
theorem cn {fn:Func}{R E:Value→World→Prop}{v:Value}(hd:a.defers=[])(h:E v w):GI P fn R E (.panic (pe v)) a w:=⟨hd,v,rfl,h⟩
end
section
variable {P:Program} {ops:Array Oper} {S:World→Prop} {K:Act→World→Prop} {Q:Exit→Act→World→Prop} {a:Act} {w:World} {rest:List Oper} {ks:List Nat} {o:Oper} {n d:Nat} {F:List (Nat×Value)}
theorem cW {j:Nat}{b:Bool}{dj:Nat}{oj:Oper}{g:Value}(hF:Fr a n F)(hg:o.guard=some (j,b))(hj:ops[j]?=some oj)(hdj:oj.dst=some dj)(hv:lk F dj=some g)(hT:jc g b=false)
  (hd:o.dst=some d) (hn:Nat.ble (d+1) n=true) (next:∀a,Fr a n ((d,undef)::F)→wpList P ops Q rest a w):wpList P ops Q (o::rest) a w:=by
 have hw:=gn hF hg hj hdj hv;unfold wpList;rw[hw,hT];have:=next _ (hF.put (Nat.le_of_ble_eq_true hn) undef);rw[hd];exact this
theorem iu {k:Nat}{j:Nat}{b:Bool}{dj:Nat}{oj:Oper}{g:Value}(hF:Fr a n F)(hg:o.guard=some (j,b))(hj:ops[j]?=some oj)(hdj:oj.dst=some dj)(hv:lk F dj=some g)(hT:jc g b=false)
  (hd:o.dst=some d) (hn:Nat.ble (d+1) n=true) (next:∀a,Fr a n ((d,undef)::F)→ji P ops S K rest ks a w):ji P ops S K (o::rest) (k::ks) a w:=by
 show eG P ops S o k (ji P ops S K rest ks) a w;have hw:=gn hF hg hj hdj hv;unfold eG;rw[hw,hT];have:=next _ (hF.put (Nat.le_of_ble_eq_true hn) undef);rw[hd];exact this
theorem j7 {p:Prop}{_:Decidable p}(h:p):jc (.bool (decide p)) false=false:=by simp [jc,h]
theorem o8 {p:Prop}{_:Decidable p}(h:¬p):jc (.bool (decide p)) true=false:=by simp [jc,h]
end
def oF (x:Nat):List Oper→Nat→List Oper
 | [],_=>[]
 |o::r,0=>{o with after:=o.after.push {on:=x,ground:=.data}}::r
 |o::r,y+1=>o::oF x r y
def OF (x:Nat)(o:Oper):Oper:={o with after:=o.after.push {on:=x,ground:=.data}}
theorem uF (x:Nat):∀(l:List Oper) (y:Nat),(oF x l y).length=l.length
 | [],_=>rfl
 |_::_,0=>rfl
 |_::r,y+1=>congrArg (· +1) (uF x r y)
theorem Dt (x:Nat):∀(l:List Oper) (y i:Nat),(oF x l y)[i]?=if i=y then l[i]?.map (OF x) else l[i]?
 | [],y,i=>by simp [oF]
 |o::r,0,0=>rfl
 |o::r,0,i+1=>by simp [oF]
 |o::r,y+1,0=>by simp [oF]
 |o::r,y+1,i+1=>by
  have:=Dt x r y i
  simpa [oF] using this
theorem qY (x:Nat)(l:List Oper)(y i:Nat):(oF x l y).toArray[i]?=if i=y then l.toArray[i]?.map (OF x) else l.toArray[i]?:=by
 simpa using Dt x l y i
def qR (ops:Array Oper):Nat→Array Bool→List Nat→Prop
 |f,listed,[]=>f=0∨Region.ready .any ops listed=[]
 |0,_,_::_=>False
 |f+1,listed,i::r=>i∈Region.ready .any ops listed∧qR ops f (listed.setIfInBounds i true) r
def DT (x y:Nat):List Nat→Prop
 | []=>True
 |i::r=>i=x∨(i≠y∧DT x y r)
theorem AE {x y:Nat}(h:x≠y):∀l:List Nat,DT x y l∨DT y x l
 | []=>.inl trivial
 |i::r=>by
  by_cases hx:i=x
  ·exact .inl (.inl hx)
  ·by_cases hy:i=y
   ·exact .inr (.inl hy)
   ·exact (AE h r).imp (fun h=>.inr ⟨hy,h⟩) fun h=>.inr ⟨hx,h⟩
section
variable {P:Program} {ops:Array Oper} {Q:Exit→Act→World→Prop} {l:List Oper}
theorem Ba:∀(f t:Nat) (listed:Array Bool),qR ops f listed (Region.linearise.go .any ops f t listed [])
 |0,_,_=>.inl rfl
 |f+1,t,listed=>by
  simp only[Region.linearise.go]
  change qR ops (f+1) listed (match (Region.ready .any ops listed)[t % (Region.ready .any ops listed).length]? with
    |some i=>Region.linearise.go .any ops f (t / (Region.ready .any ops listed).length) (listed.setIfInBounds i true) [i]
    |none=>[].reverse)
  cases hi:(Region.ready .any ops listed)[t % (Region.ready .any ops listed).length]? with
  |none=>
   refine .inr ?_
   cases hr:Region.ready .any ops listed with
   |nil=>rfl
   |cons x xs=>
    rw[hr] at hi;have hlt:t % (x::xs).length< (x::xs).length:=Nat.mod_lt _ (by simp);simp at hi;simp at hlt;omega
  |some i=>
   simp only[];rw[linearise_go_acc,List.reverse_singleton,List.singleton_append];exact⟨List.mem_of_getElem? hi,Ba f _ _⟩
theorem DQ:∀(f:Nat) (listed:Array Bool) (ord:List Nat) (a:Act) (w:World),qR ops f listed ord→wpAny P .any ops Q f listed a w→wpOps P ops Q ord a w
 |0,_,[],_,_,_,h=>h.2
 |f+1,_,[],_,_,ho,h=>h.1 (ho.resolve_left (by omega))
 |0,_,_::_,_,_,ho,_=>ho.elim
 |f+1,listed,i::r,a,w,ho,h=>by
  rw[wpOps_cons];exact wpOp_mono (fun a w hh=>DQ f _ r a w ho.2 hh) (h.2 i ho.1)
theorem Fh {x y i:Nat}{listed:Array Bool}(h:i∈Region.ready .any l.toArray listed)(hy:i≠y∨listed.getD x false=true):i∈Region.ready .any (oF x l y).toArray listed:=by
 obtain⟨h1,o,h2,h3⟩:=mem_ready.1 h;refine mem_ready.2 ⟨h1,?_⟩;rw[qY]
 by_cases hi:i=y
 ·rw[if_pos hi,h2];refine⟨_,rfl,fun e he hb=>?_⟩;have hx:=hy.resolve_left (fun h=>h hi);rcases Array.mem_push.1 he with he|rfl
  ·exact h3 e he hb
  ·exact hx
 ·rw[if_neg hi];exact⟨o,h2,h3⟩
theorem FR {x y i:Nat}{listed:Array Bool}(h:i∈Region.ready .any (oF x l y).toArray listed):i∈Region.ready .any l.toArray listed:=by
 obtain⟨h1,o,h2,h3⟩:=mem_ready.1 h;refine mem_ready.2 ⟨h1,?_⟩;rw[qY] at h2
 by_cases hi:i=y
 ·rw[if_pos hi] at h2
  cases ho:l.toArray[i]? with
  |none=>rw[ho] at h2;cases h2
  |some o'=>
   rw[ho] at h2;cases h2;exact⟨o',rfl,fun e he hb=>h3 e (Array.mem_push_of_mem _ he) hb⟩
 ·rw[if_neg hi] at h2;exact⟨o,h2,h3⟩
theorem xh {f:Nat}{listed:Array Bool}:qR ops f listed []↔(f=0∨Region.ready .any ops listed=[]):=by cases f<;>simp [qR]
theorem sf {x y:Nat}(hxy:x≠y):∀(f:Nat) (listed:Array Bool) (ord:List Nat),listed.size=l.length→qR l.toArray f listed ord→listed.getD x false=true∨DT x y ord→qR (oF x l y).toArray f listed ord
 |f,listed,[],hs,h,_=>xh.2 <| (xh.1 h).imp id fun h=>by
   cases hr:Region.ready .any (oF x l y).toArray listed with
   |nil=>rfl
   |cons i r=>
    have:i∈Region.ready .any l.toArray listed:=FR (x:=x) (y:=y) (by rw[hr];simp);rw[h] at this;cases this
 |0,_,_::_,_,h,_=>h.elim
 |f+1,listed,i::r,hs,h,ho=>by
  have hlt:i<listed.size:=by
   obtain⟨_,o,h2,_⟩:=mem_ready.1 h.1;have:=(Array.getElem?_eq_some_iff.1 h2).1;simp at this;omega
  refine⟨Fh h.1 ?_,sf hxy f _ r (by simpa using hs) h.2 ?_⟩
  ·rcases ho with ho|ho|ho
   ·exact .inr ho
   ·exact .inl (ho▸hxy)
   ·exact .inl ho.1
  ·by_cases hx:i=x
   ·refine .inl ?_;subst hx;simp [hlt]
   ·rcases ho with ho|ho
    ·refine .inl ?_
     by_cases hl:x<listed.size
     ·simp only[Array.getD_eq_getD_getElem?] at ho ⊢;rw[Array.getElem?_setIfInBounds_ne (fun e=>hx e)];exact ho
     ·simp [hl] at ho
    ·rcases ho with ho|ho
     ·exact absurd ho hx
     ·exact .inr ho.2
theorem Iw {x y i:Nat}{K:Act→World→Prop}{a:Act}{w:World}(h:wpOp P (oF x l y).toArray Q i K a w):wpOp P l.toArray Q i K a w:=by
 have hy:∀t:Array Value,yielded (oF x l y).toArray t=yielded l.toArray t:=fun t=>by
  funext j
  unfold yielded;rw[qY]
  by_cases hj:j=y
  ·rw[if_pos hj];cases l.toArray[j]?<;>rfl
  ·rw[if_neg hj]
 unfold wpOp at h ⊢;rw[qY,hy] at h
 by_cases hi:i=y
 ·rw[if_pos hi] at h
  cases ho:l.toArray[i]? with
  |none=>rw[ho] at h;exact h
  |some o=>rw[ho] at h;exact h
 ·rw[if_neg hi] at h;exact h
theorem rl {x y:Nat}:∀(ord:List Nat) (a:Act) (w:World),wpOps P (oF x l y).toArray Q ord a w→wpOps P l.toArray Q ord a w
 | [],_,_,h=>h
 |i::r,a,w,h=>by
  rw[wpOps_cons] at h ⊢;exact wpOp_mono (fun a w hh=>rl r a w hh) (Iw h)
def OW (P:Program)(l:List Oper)(Q:Exit→Act→World→Prop)(a:Act)(w:World):Prop:=∀ord,qR l.toArray l.length (Array.replicate l.length false) ord→wpOps P l.toArray Q ord a w
theorem bG {id:Nat}{a:Act}{w:World}(hm:P.follows .mixedOrders=true)(h:OW P l Q a w.drew):(Code.region id l.toArray true).wp P Q a w:=
 wp_region_draw fun t=>by
  simp only[Region.schedule,hm,Bool.true_or,if_true];exact h _ (Ba _ _ _)
theorem aL {a:Act}{w:World}(x y:Nat)(hxy:Nat.beq x y=false)(h1:OW P (oF x l y) Q a w)(h2:OW P (oF y l x) Q a w):OW P l Q a w:=fun ord ho=>by
 have hne:x≠y:=fun e=>by subst e;simp at hxy
 rcases AE hne ord with h|h
 ·have:=h1 ord;rw[uF] at this;exact rl ord _ _ (this (sf hne _ _ _ (by simp) ho (.inr h)))
 ·have:=h2 ord;rw[uF] at this;exact rl ord _ _ (this (sf (Ne.symm hne) _ _ _ (by simp) ho (.inr h)))
theorem Q_ {a:Act}{w:World}(h:wpAny P .any l.toArray Q l.length (Array.replicate l.length false) a w):OW P l Q a w:=fun ord ho=>DQ _ _ ord _ _ ho h
theorem Wc {a:Act}{w:World}(ks ord:List Nat)(S:World→Prop)(E:Value→World→Prop)(hlook:wQ l.toArray ks ord=true)
 (hS:S w) (hE:∀v a' w',a'.defers=a.defers→E v w'→Q (.panic (pe v)) a' w') (h:kA P l.toArray ks S E (Q .normal) ord a w):OW P l Q a w:=Q_ (Kg ks ord S E hlook hS hE h)
end
inductive NN where
 |mk (kind:Int) (name:List UInt8) (n line cR:Int) (h:aO) (ag:List NN)
def NN.kind:NN→Int| .mk k _ _ _ _ _ _=>k
def NN.name:NN→List UInt8| .mk _ s _ _ _ _ _=>s
def NN.n:NN→Int| .mk _ _ n _ _ _ _=>n
def NN.line:NN→Int| .mk _ _ _ a _ _ _=>a
def NN.cR:NN→Int| .mk _ _ _ _ c _ _=>c
def NN.h:NN→aO| .mk _ _ _ _ _ h _=>h
def NN.ag:NN→List NN| .mk _ _ _ _ _ _ l=>l
def aU:aO:=⟨none,0,0⟩
def ea:NN:=.mk 0 [] 0 0 0 aU []
mutual
def NN.er:NN→Nd
 | .mk k s n _ _ _ l=>.mk k s n (NN.erL l)
def NN.erL:List NN→List Nd
 | []=>[]
 |t::l=>t.er::NN.erL l
end
theorem D0:∀l:List NN,NN.erL l=l.map NN.er
 | []=>rfl
 |_::l=>congrArg _ (D0 l)
theorem sw (k:Int)(s:List UInt8)(n a c:Int)(h:aO)(l:List NN):(NN.mk k s n a c h l).er=.mk k s n (l.map NN.er):=by
 show Nd.mk k s n (NN.erL l)=_;rw[D0]
theorem NN.al (t:NN):t.er.kind=t.kind:=by cases t;rfl
theorem NN.aH (t:NN):t.er.name=t.name:=by cases t;rfl
theorem NN.cU (t:NN):t.er.n=t.n:=by cases t;rfl
theorem NN.bo (t:NN):t.er.ag=t.ag.map NN.er:=by cases t;rw[sw];rfl
theorem NN.ind {P:NN→Prop}(h:∀k s n a c hd l,(∀t∈l,P t)→P (.mk k s n a c hd l)):∀t,P t
 | .mk k s n a c hd l=>h k s n a c hd l fun t _=>NN.ind h t
termination_by t=>SizeOf.sizeOf t
decreasing_by
 rename_i ht;have:=List.sizeOf_lt_of_mem ht;simp only[NN.mk.sizeOf_spec];omega
def aM:oe NN where
 size:=6
 cells t:=[i64 t.kind,str t.name,i64 t.n,i64 t.line,i64 t.cR,t.h.v]
 len _:=rfl
 one t u hu:=by
  simp only[List.mem_cons,List.not_mem_nil,or_false] at hu;rcases hu with rfl|rfl|rfl|rfl|rfl|rfl<;>rfl
mutual
def gP (w:World)(M:List Nat):NN→Prop
 | .mk _ _ _ _ _ h l=>bF w M h.v aM l∧Nq w M l
def Nq (w:World)(M:List Nat):List NN→Prop
 | []=>True
 |t::l=>gP w M t∧Nq w M l
end
section
variable {w w0 w':World} {M:List Nat} {L B:List aq}
theorem tY:∀{l:List NN},Nq w M l↔∀t∈l,gP w M t
 | []=>⟨fun _ t h=>(by cases h),fun _=>trivial⟩
 |t::l=>by
  show gP w M t∧Nq w M l↔_;rw[tY];simp
theorem gP.sl {k:Int}{s:List UInt8}{n a c:Int}{h:aO}{l:List NN}(hR:gP w M (.mk k s n a c h l)):bF w M h.v aM l:=hR.1
theorem gP.sub {k:Int}{s:List UInt8}{n a c:Int}{h:aO}{l:List NN}(hR:gP w M (.mk k s n a c h l)):∀t∈l,gP w M t:=tY.1 hR.2
theorem gP.mk {k:Int}{s:List UInt8}{n a c:Int}{h:aO}{l:List NN}(h1:bF w M h.v aM l)(h2:∀t∈l,gP w M t):gP w M (.mk k s n a c h l):=⟨h1,tY.2 h2⟩
theorem gP.nR {t:NN}(hR:gP w M t):bF w M t.h.v aM t.ag:=by cases t;exact hR.1
theorem gP.kI {t:NN}(hR:gP w M t):∀x∈t.ag,gP w M x:=by cases t;exact hR.sub
theorem gP.cH {t:NN}(h:gP w0 M t)(hO:St w0 M w L):gP w [] t:=
 NN.ind (P:=fun t=>gP w0 M t→gP w [] t) (fun _ _ _ _ _ _ _ ih h=>.mk (h.sl.cH hO) fun t ht=>ih t ht (h.sub t ht)) t h
theorem pX {h:aO}(hR:bF w M h.v aM [])(w':World)(M':List Nat):bF w' M' h.v aM []:=by
 obtain⟨h1,A,c,e,h2,h3,_⟩:=hR;exact⟨h1,A,c,e,h2,h3,fun h0=>absurd h0 (Nat.lt_irrefl 0)⟩
mutual
def nE (T:Nat):NN→aq
 | .mk _ _ _ _ _ h []=>aq.gp [] (fun w=>bF w [] h.v aM []) (fun _ w' h _=>pX h w' []) (fun _ _ b hb=>by cases hb)
 | .mk _ _ _ _ _ h (t::l)=>aq.dF [aT h.v T aM (t::l),aq.dF (nE T t::nEL T l)]
def nEL (T:Nat):List NN→List aq
 | []=>[]
 |t::l=>nE T t::nEL T l
end
theorem CR (T:Nat):∀l:List NN,nEL T l=l.map (nE T)
 | []=>rfl
 |_::l=>congrArg _ (CR T l)
theorem qI (T:Nat)(k:Int)(s:List UInt8)(n a c:Int)(h:aO)(t:NN)(l:List NN):nE T (.mk k s n a c h (t::l))=aq.dF [aT h.v T aM (t::l),aq.dF ((t::l).map (nE T))]:=by
 rw[←CR];rfl
theorem fY (T:Nat)(k k':Int)(s s':List UInt8)(n n' a a' c c':Int)(h:aO)(l:List NN):nE T (.mk k s n a c h l)=nE T (.mk k' s' n' a' c' h l):=by
 cases l with
 |nil=>rfl
 |cons t l=>rw[qI,qI]
theorem St.gpN (hO:St w0 M w L)(ok:World→Prop)(h1:∀w w',ok w→(∀b∈([]:List Nat),w'.heap[b]?=w.heap[b]?)→ok w')(h2:∀w,ok w→∀b∈([]:List Nat),b<w.heap.size)(h:ok w):St w0 M w (aq.gp [] ok h1 h2::L):=by
 have e:ak (aq.gp [] ok h1 h2::L)=ak L:=rfl;refine⟨hO.os,hO.tape,hO.output,hO.le,hO.kz,fun x hx=>?_,e▸hO.nodup,fun b hb=>hO.src b (e▸hb)⟩;rcases List.mem_cons.1 hx with rfl|hx
 ·exact h
 ·exact hO.own x hx
theorem St.bk {T:Nat}{h:aO}{l:List NN}(hO:St w0 M w (aT h.v T aM l::aq.dF (l.map (nE T))::L))(k:Int)(s:List UInt8)(n a c:Int):St w0 M w (nE T (.mk k s n a c h l)::L):=by
 cases l with
 |nil=>
  have hR:bF w [] h.v aM []:=hO.gD 0 rfl;exact St.gpN hO.tail.tail _ _ _ hR
 |cons t l=>
  rw[qI];exact St.group (A:=[_,_]) hO
theorem St.N8 {T:Nat}{h:aO}(hO:St w0 M w L)(hR:bF w [] h.v aM [])(k:Int)(s:List UInt8)(n a c:Int):St w0 M w (nE T (.mk k s n a c h [])::L):=St.gpN hO _ _ _ hR
theorem St.unN {T:Nat}{k:Int}{s:List UInt8}{n a c:Int}{h:aO}{t:NN}{l:List NN}(hO:St w0 M w (nE T (.mk k s n a c h (t::l))::L)):St w0 M w (aT h.v T aM (t::l)::aq.dF ((t::l).map (nE T))::L):=by
 rw[qI] at hO;exact St.ungroup (A:=[_,_]) hO
end
structure Tok where
 kind:Int
 text:List UInt8
 num:Int
 line:Int
 cR:Int
 deriving DecidableEq
structure gT where
 file:List UInt8
 line:Int
 cR:Int
 number:Int
 deriving DecidableEq
def aK:oe Tok where
 size:=5
 cells t:=[i64 t.kind,str t.text,i64 t.num,i64 t.line,i64 t.cR]
 len _:=rfl
 one t u hu:=by
  simp only[List.mem_cons,List.not_mem_nil,or_false] at hu;rcases hu with rfl|rfl|rfl|rfl|rfl<;>rfl
def rA:oe (List UInt8) where
 size:=1
 cells s:=[str s]
 len _:=rfl
 one t u hu:=by
  simp only[List.mem_cons,List.not_mem_nil,or_false] at hu;subst hu;rfl
def aJ (d:gT):List Value:=[str d.file,i64 d.line,i64 d.cR,i64 d.number]
theorem Dp (s t:gT):(decide (s.file=t.file)&&(decide (s.line=t.line)&&(decide (s.cR=t.cR)&&(decide (s.number=t.number)&&true))))=decide (s=t):=by
 obtain⟨a1,a2,a3,a4⟩:=s;obtain⟨b1,b2,b3,b4⟩:=t;simp [Bool.decide_and]
def gT.ok:gT:=⟨[],0,0,0⟩
def gt (s:List UInt8)(i:Nat):UInt8:=s.getD i 0
def jw (b:UInt8):Bool:=decide (((97:Int)≤b.toNat∧(b.toNat:Int)≤122)∨((65:Int)≤b.toNat∧(b.toNat:Int)≤90))
def aY (b:UInt8):Bool:=decide ((48:Int)≤b.toNat∧(b.toNat:Int)≤57)
def Q5:List UInt8:=[33,35,36,37,38,42,43,46,47,60,61,62,63,64,92,94,124,45,58,126]
def im (b:UInt8):Bool:=decide (Q5.contains b=true∧¬(b.toNat:Int)=126)
def fK:List UInt8:=[40,41,44,59,91,93,123,125,96]
def pH:List (List UInt8):=[[99,97,115,101],[99,108,97,115,115],[100,97,116,97],[100,111],[101,108,115,101],[105,102],[105,109,112,111,114,116],[105,110],[105,110,102,105,120],[105,110,102,105,120,108],[105,110,102,105,120,114],[105,110,115,116,97,110,99,101],[108,101,116],[109,111,100,117,108,101],[111,102],[116,104,101,110],[119,104,101,114,101]]
def pQ:List (List UInt8):=[[61],[92],[124],[60,45],[45,62],[64],[61,62],[58,58]]
def dM (kind:Nat)(c:UInt8):Bool:=
 if kind=0 then decide (((jw c=true∨aY c=true)∨(c.toNat:Int)=95)∨(c.toNat:Int)=39)
 else if kind=1 then aY c
 else if kind=2 then im c
 else decide (¬(c.toNat:Int)=10)
def bq (s:List UInt8)(at_ kind:Nat):Nat:=((s.drop at_).takeWhile (dM kind)).length
def cF (s:List UInt8):Nat→Nat×Nat
 |0=>(1,1)
 |k+1=>if gt s k=10 then ((cF s k).1+1,1) else ((cF s k).1,(cF s k).2+1)
def jP (s:List UInt8)(at_:Nat):Nat→Int→Nat→Option Nat
 |0,_,_=>none
 |f+1,deep,i=>
  if i+1<s.length then
   if gt s i=123∧gt s (i+1)=45 then jP s at_ f (deep+1) (i+2)
   else if gt s i=45∧gt s (i+1)=125 then
    if deep - 1=0 then some (i+2 - at_) else jP s at_ f (deep - 1) (i+2)
   else jP s at_ f deep (i+1)
  else none
def fA (s:List UInt8)(at_:Nat):Option Nat:=jP s at_ (s.length+1) 0 at_
def jU (s:List UInt8):Nat→Nat→Nat→Nat×Nat
 |0,n,i=>(n,i)
 |f+1,n,i=>if i<s.length∧aY (gt s i)=true then jU s f (min (10 * n+((gt s i).toNat - 48)) 1000) (i+1) else (n,i)
def Fw (c:UInt8):UInt8:=if c=110 then 10 else if c=116 then 9 else c
def sP:List UInt8:=[110,116,92,34]
def gB (s:List UInt8):Nat→List UInt8→Nat→Option (List UInt8×Nat)
 |0,_,_=>none
 |f+1,out,i=>
  if i<s.length then
   if gt s i=34 then some (out,i+1)
   else if ¬gt s i=92 then (if gt s i<32∨126<gt s i then none else gB s f (out++[gt s i]) (i+1))
   else if i+1<s.length∧aY (gt s (i+1))=true then
    (let d:=jU s s.length 0 (i+1)
     if 255<d.1 then none else gB s f (out++[UInt8.ofNat d.1]) d.2)
   else if s.length≤i+1∨sP.contains (gt s (i+1))=false then none
   else gB s f (out++[Fw (gt s (i+1))]) (i+2)
  else none
def jx (s:List UInt8)(at_:Nat):Option (List UInt8×Nat):=(gB s (s.length+1) [] (at_+1)).map fun p=>(p.1,p.2 - at_)
def kh:List UInt8→Nat→Option Nat
 | [],n=>some n
 |c::r,n=>if (9223372036854775807 - (c.toNat - 48)) / 10<n then none else kh r (10 * n+(c.toNat - 48))
inductive aag where
 |skip (n:Nat)
 |tok (kind:Int) (text:List UInt8) (num:Int) (n:Nat)
 |bad (e:Int)
def cQ (s:List UInt8)(at_ n:Nat):List UInt8:=(s.take (at_+n)).drop at_
def eP (s:List UInt8)(at_:Nat):aag:=
 let b:=gt s at_
 if b=32∨b=10 then .skip 1
 else if b=123∧at_+1<s.length∧gt s (at_+1)=45 then
  match fA s at_ with
  |none=>.bad 14
  |some k=>.skip k
 else if jw b=true∨b=95 then
  let n:=bq s at_ 0
  let t:=cQ s at_ n
  .tok (if pH.contains t then 7 else if t=[95] then 8 else if 65≤b∧b≤90 then 2 else 1) t 0 n
 else if aY b=true then
  let n:=bq s at_ 1
  match kh (cQ s at_ n) 0 with
  |none=>.bad 12
  |some v=>.tok 5 (cQ s at_ n) v n
 else if im b=true then
  let n:=bq s at_ 2
  let t:=cQ s at_ n
  if t.all (fun c=>c=45)=true∧2≤n then .skip (bq s at_ 3)
  else .tok (if pQ.contains t then 8 else if b=58 then 4 else 3) t 0 n
 else if fK.contains b=true then .tok 8 (cQ s at_ 1) 0 1
 else if b=34 then
  match jx s at_ with
  |none=>.bad 13
  |some (t,n)=>.tok 6 t 0 n
 else .bad 11
def ck (s:List UInt8):Nat→Nat→List Tok→List Tok×gT
 |0,_,out=>(out,.ok)
 |f+1,at_,out=>
  if at_<s.length then
   match eP s at_ with
   | .skip n=>ck s f (at_+n) out
   | .tok k t v n=>ck s f (at_+n) (out++[⟨k,t,v,(cF s at_).1,(cF s at_).2⟩])
   | .bad e=>([],⟨[],(cF s at_).1,(cF s at_).2,e⟩)
  else (out++[⟨9,[],0,(cF s at_).1,(cF s at_).2⟩],.ok)
def eS (s:List UInt8):List Tok×gT:=
 if 16384<s.length then ([],⟨[],1,1,10⟩) else ck s (s.length+1) 0 []
theorem bH:Tryz.prog.follows .mixedOrders=true:=by kernel_rfl
theorem iX:Tryz.prog.info? 5=some Tryz.t5:=by kernel_rfl
theorem nT:Tryz.prog.info? 28=some Tryz.t28:=by kernel_rfl
theorem fq:Tryz.prog.info? 44=some Tryz.t44:=by kernel_rfl
theorem k8:Tryz.prog.info? 115=some Tryz.t115:=by kernel_rfl
theorem vT:lr Tryz.prog 28 [0,1,2,3,4,5]:=by
 intro fs h w;have e:=Tryz.underlying28.symm.trans h;injection e with e;injection e with e;subst e;show @Eq _ _ _
 kernel_rfl
theorem we:lr Tryz.prog 31 [0,1,2,3]:=by
 intro fs h w;have e:=Tryz.underlying31.symm.trans h;injection e with e;injection e with e;subst e;show @Eq _ _ _
 kernel_rfl
theorem v_:lr Tryz.prog 44 [0,1,2,3,4]:=by
 intro fs h w;have e:=Tryz.underlying44.symm.trans h;injection e with e;injection e with e;subst e;show @Eq _ _ _
 kernel_rfl
theorem oG:oP Tryz.prog 47 [(0,4)]:=by
 intro fs h w;have e:=Tryz.underlying47.symm.trans h;injection e with e;injection e with e;subst e;show @Eq _ _ _
 kernel_rfl
theorem vM:lr Tryz.prog 51 [0,1,2]:=by
 intro fs h w;have e:=Tryz.underlying51.symm.trans h;injection e with e;injection e with e;subst e;show @Eq _ _ _
 kernel_rfl
theorem oz:oP Tryz.prog 53 [(0,3)]:=by
 intro fs h w;have e:=Tryz.underlying53.symm.trans h;injection e with e;injection e with e;subst e;show @Eq _ _ _
 kernel_rfl
theorem vY:lr Tryz.prog 70 [0,1,2,3]:=by
 intro fs h w;have e:=Tryz.underlying70.symm.trans h;injection e with e;injection e with e;subst e;show @Eq _ _ _
 kernel_rfl
theorem oA:oP Tryz.prog 85 [(0,1),(1,1),(2,4)]:=by
 intro fs h w;have e:=Tryz.underlying85.symm.trans h;injection e with e;injection e with e;subst e;show @Eq _ _ _
 kernel_rfl
theorem vn:lr Tryz.prog 106 [0,1,2]:=by
 intro fs h w;have e:=Tryz.underlying106.symm.trans h;injection e with e;injection e with e;subst e;show @Eq _ _ _
 kernel_rfl
theorem vA:lr Tryz.prog 115 [0,1]:=by
 intro fs h w;have e:=Tryz.underlying115.symm.trans h;injection e with e;injection e with e;subst e;show @Eq _ _ _
 kernel_rfl
theorem uZ:lr Tryz.prog 143 [0,1,2,3]:=by
 intro fs h w;have e:=Tryz.underlying143.symm.trans h;injection e with e;injection e with e;subst e;show @Eq _ _ _
 kernel_rfl
def lP (t:Tok):Tk:=⟨t.kind,t.text,t.num⟩
def pW:Tok:=⟨0,[],0,0,0⟩
def aS (tl:List Tok)(n:Nat)(dp:Int):PS:=⟨(tl.drop n).map lP,dp⟩
theorem N0 (tl:List Tok)(n k:Nat)(dp:Int):gC (aS tl n dp) k=lP (tl.getD (n+k) pW):=by
 simp only[gC,aS,List.getD_eq_getElem?_getD,List.getElem?_map,List.getElem?_drop];cases tl[n+k]?<;>rfl
theorem jo {tl:List Tok}{n k:Nat}{dp:Int}{t:Tok}(h:tl[n+k]?=some t):gC (aS tl n dp) k=lP t:=by
 rw[N0,List.getD_eq_getElem?_getD,h];rfl
theorem Lq {tl:List Tok}{n k:Nat}{dp:Int}(h:tl.length≤n+k):gC (aS tl n dp) k=t0:=by
 rw[N0,List.getD_eq_getElem?_getD,List.getElem?_eq_none h];rfl
theorem C4 {tl:List Tok}{n:Nat}{dp:Int}{t:Tok}(h:tl[n]?=some t):aS tl n dp=⟨lP t::(aS tl (n+1) dp).r,dp⟩:=by
 obtain⟨hn,rfl⟩:=List.getElem?_eq_some_iff.1 h;simp only[aS];rw[List.drop_eq_getElem_cons hn];rfl
theorem CM {tl:List Tok}{n:Nat}{dp:Int}(h:tl.length≤n):(aS tl n dp).r=[]:=by
 simp only[aS,List.drop_eq_nil_of_le h,List.map_nil]
theorem step_eq {tl:List Tok}{n:Nat}{dp d:Int}{t:Tok}(h:tl[n]?=some t):dT ⟨(aS tl n dp).r,d⟩=.ok (lP t,aS tl (n+1) d):=by
 rw[C4 h];rfl
theorem NY {tl:List Tok}{n:Nat}{dp:Int}{t:Tok}(h:tl[n]?=some t):(aS tl n dp).r≠[]:=by rw[C4 h];simp
theorem T9 {tl:List Tok}{n:Nat}{dp k:Int}{t:Tok}(h:tl[n]?=some t)(ho:kN (aS tl n dp) [k]=true):jj k (aS tl n dp)=.ok (lP t,aS tl (n+1) dp):=by
 unfold jj;rw[if_neg (by rw[not_or];exact⟨NY h,by rw[ho];decide⟩)];exact step_eq (dp:=dp) h
theorem Hu {tl:List Tok}{n:Nat}{dp k:Int}(h:tl.length≤n∨¬kN (aS tl n dp) [k]=true):jj k (aS tl n dp)=.error 30:=by
 unfold jj;rw[if_pos (h.imp CM fun h=>by simpa using h)]
theorem Dn {tl:List Tok}{n:Nat}{dp:Int}{w:List UInt8}(h:tl.length≤n∨¬eM (aS tl n dp) [w]=true):bC w (aS tl n dp)=.error 30:=by
 unfold bC;rw[if_pos (h.imp CM fun h=>by simpa using h)]
theorem qK {tl:List Tok}{n:Nat}{dp:Int}{w:List UInt8}{t:Tok}(h:tl[n]?=some t)(ho:eM (aS tl n dp) [w]=true):¬((aS tl n dp).r=[]∨eM (aS tl n dp) [w]=false):=by
 rw[not_or];exact⟨NY h,by rw[ho];decide⟩
theorem rQ {tl:List Tok}{n:Nat}{dp:Int}{w:List UInt8}{t:Tok}(h:tl[n]?=some t)(ho:eM (aS tl n dp) [w]=true)(hw:w=kP∨w=KY∨w=KU)(hd:64≤dp):bC w (aS tl n dp)=.error 32:=by
 unfold bC;rw[if_neg (qK h ho),if_pos hw,if_pos (show (aS tl n dp).deep≥64 from hd)]
theorem sr {tl:List Tok}{n:Nat}{dp:Int}{w:List UInt8}{t:Tok}(h:tl[n]?=some t)(ho:eM (aS tl n dp) [w]=true)(hw:w=kP∨w=KY∨w=KU)(hd:¬64≤dp):bC w (aS tl n dp)=.ok (lP t,aS tl (n+1) (dp+1)):=by
 unfold bC;rw[if_neg (qK h ho),if_pos hw,if_neg (show ¬(aS tl n dp).deep≥64 from hd)];exact step_eq (dp:=dp) h
theorem ri {tl:List Tok}{n:Nat}{dp:Int}{w:List UInt8}{t:Tok}(h:tl[n]?=some t)(ho:eM (aS tl n dp) [w]=true)(hw:¬(w=kP∨w=KY∨w=KU))(hw2:w=gI∨w=Na∨w=Gj):bC w (aS tl n dp)=.ok (lP t,aS tl (n+1) (dp - 1)):=by
 unfold bC;rw[if_neg (qK h ho),if_neg hw,if_pos hw2];exact step_eq (dp:=dp) h
theorem Ft {tl:List Tok}{n:Nat}{dp:Int}{w:List UInt8}{t:Tok}(h:tl[n]?=some t)(ho:eM (aS tl n dp) [w]=true)(hw:¬(w=kP∨w=KY∨w=KU))(hw2:¬(w=gI∨w=Na∨w=Gj)):bC w (aS tl n dp)=.ok (lP t,aS tl (n+1) dp):=by
 unfold bC;rw[if_neg (qK h ho),if_neg hw,if_neg hw2];exact step_eq (dp:=dp) h
theorem I2 {s s':PS}{w:List UInt8}{t:Tk}(ho:eM s [w]=true)(h:bC w s=.ok (t,s')):bB w s=.ok (true,s'):=by
 unfold bB;rw[if_pos ho,bind_eq,h];rfl
theorem wE {s:PS}{w:List UInt8}{e:Int}(ho:eM s [w]=true)(h:bC w s=.error e):bB w s=.error e:=by
 unfold bB;rw[if_pos ho,bind_eq,h]
theorem Ia {s:PS}{w:List UInt8}(ho:¬eM s [w]=true):bB w s=.ok (false,s):=by
 unfold bB;rw[if_neg ho]
def UL (TB:Nat)(l c e:Int):Value:=.iface TB (.agg #[str [],i64 l,i64 c,i64 e])
section
variable {α β γ:Type}
theorem aw (x:PM α)(f:α→PM β)(g:β→PM γ):(x >>= f) >>= g=x >>= fun a=>f a >>= g:=by
 funext s
 show PM.bind (PM.bind x f) g s=PM.bind x (fun a=>PM.bind (f a) g) s;unfold PM.bind;cases x s<;>rfl
theorem az (a:α)(f:α→PM β):(pure a:PM α) >>= f=f a:=rfl
theorem a8 {c:Prop}[Decidable c](x y:PM α)(f:α→PM β):(if c then x else y) >>= f=if c then x >>= f else y >>= f:=by split<;>rfl
theorem bl (e:Int)(f:α→PM β):(bad e:PM α) >>= f=bad e:=rfl
variable {F:PM α} {g:α→PM β} {s s':PS} {R0:Except Int (β×PS)} {a:α} {e:Int} {A B:PS→PM β} {A' B':PM β} {c:PS→Bool} {b:Bool}
theorem aa (hQ:R0=(F >>= g) s)(h:F s=.ok (a,s')):R0=g a s':=by
 rw[hQ];show PM.bind F g s=_;unfold PM.bind;rw[h]
theorem cT (hQ:R0=(F >>= g) s)(h:F s=.error e):R0=.error e:=by
 rw[hQ];show PM.bind F g s=_;unfold PM.bind;rw[h]
theorem ae (hne:R0≠.error (-1))(hQ:R0=(F >>= g) s):F s≠.error (-1):=fun h=>hne (cT hQ h)
theorem cM (hQ:R0=(get >>= fun s=>if c s=true then A s else B s) s')(h:c s'=true):R0=A s' s':=by
 rw[hQ];show (if c s'=true then A s' else B s') s'=_;rw[if_pos h]
theorem cG (hQ:R0=(get >>= fun s=>if c s=true then A s else B s) s')(h:¬c s'=true):R0=B s' s':=by
 rw[hQ];show (if c s'=true then A s' else B s') s'=_;rw[if_neg h]
theorem rP {c:PS→Prop}{_:∀s,Decidable (c s)}(hQ:R0=(get >>= fun s=>if c s then A s else B s) s')(h:c s'):R0=A s' s':=by
 rw[hQ];show (if c s' then A s' else B s') s'=_;rw[if_pos h]
theorem om {c:PS→Prop}{_:∀s,Decidable (c s)}(hQ:R0=(get >>= fun s=>if c s then A s else B s) s')(h:¬c s'):R0=B s' s':=by
 rw[hQ];show (if c s' then A s' else B s') s'=_;rw[if_neg h]
theorem eh (hQ:R0=(if b=true then A' else B') s)(h:b=true):R0=A' s:=by rw[hQ,if_pos h]
theorem d_ (hQ:R0=(if b=true then A' else B') s)(h:¬b=true):R0=B' s:=by rw[hQ,if_neg h]
theorem gY (hQ:R0=(F >>= g) s):∃G:α→PM β,G=g∧R0=(F >>= G) s:=⟨g,rfl,hQ⟩
theorem mF {F:PM α}{R0:Except Int (α×PS)}(hQ:R0=F s):∃G:α→PM α,G=pure∧R0=(F >>= G) s:=by
 refine⟨pure,rfl,hQ.trans ?_⟩;show F s=PM.bind F PM.pure s;unfold PM.bind PM.pure;cases F s<;>rfl
theorem sN (hQ:R0=(get >>= A) s):R0=A s s:=hQ
theorem uq {F:PM α}{R0:Except Int (α×PS)}(hQ:R0=F s)(h:F s=.ok (a,s')):R0=.ok (a,s'):=hQ.trans h
theorem y0 {F:PM α}{R0:Except Int (α×PS)}(hQ:R0=F s)(h:F s=.error e):R0=.error e:=hQ.trans h
theorem u_ {F:PM α}{R0:Except Int (α×PS)}(hne:R0≠.error (-1))(hQ:R0=F s):F s≠.error (-1):=hQ▸hne
end
theorem fm {β:Type}{g:Tk→PM β}{tl:List Tok}{n:Nat}{dp:Int}{R0:Except Int (β×PS)}(hne:R0≠.error (-1))(hQ:R0=(dT >>= g) (aS tl n dp)):
  ∃t,tl[n]?=some t∧R0=g (lP t) (aS tl (n+1) dp):=by
 cases h:tl[n]? with
 |none=>
  have h1:(aS tl n dp).r=[]:=CM (List.getElem?_eq_none_iff.1 h);refine absurd (cT (e:= -1) hQ ?_) hne;unfold dT;rw[h1]
 |some t=>exact⟨t,rfl,aa hQ (step_eq (dp:=dp) h)⟩
def ux:Nat→PM (List UInt8)
 |0=>pure dI
 |m+1=>bB jK >>= fun b=>if b=true then ux m else pure (rF (2 - m))
theorem FT:iO=ux 2:=rfl
structure Pos (tl:List Tok)(n:Nat)(dp:Int):Prop where
 hn:n≤tl.length
 hL:tl.length≤1099511627776
 lo: -(n:Int)≤dp
 hi:dp≤64
theorem Pos.dB {tl:List Tok}{n:Nat}{dp:Int}(h:Pos tl n dp):tl.length≤4611686018427387904:=by have:=h.hL;omega
theorem Pos.nL {tl:List Tok}{n:Nat}{dp:Int}(h:Pos tl n dp):n≤1099511627776:=by have:=h.hL;have:=h.hn;omega
theorem Pos.succ {tl:List Tok}{n:Nat}{dp:Int}{t:Tok}(h:Pos tl n dp)(ht:tl[n]?=some t):Pos tl (n+1) dp:=by
 have:=h.lo;exact⟨(List.getElem?_eq_some_iff.1 ht).1,h.hL,by omega,h.hi⟩
abbrev bc (b T:Nat)(vs:Value)(n:Nat)(dp:Int):aq:=.ob b T [vs,i64 (n:Nat),i64 dp]
def WI (l c:Int):Tok:=⟨0,[],0,l,c⟩
theorem bJ (k:Int)(s:List UInt8)(n a c:Int)(h:aO)(l:List NN):(NN.mk k s n a c h l).er=.mk k s n (l.map NN.er):=sw k s n a c h l
section
variable {w0 w:World} {M:List Nat} {L:List aq} {T:Nat} {v:Value} {x:NN} {l m:List NN}
theorem Dw (w:World)(M:List Nat):bF w M aU.v aM []:=Rd.nil w M 6
theorem St.bP (l:List NN)(hO:St w0 M w (aT v T aM l::(l.map (nE T)++L))):St w0 M w (aT v T aM l::aq.dF (l.map (nE T))::L):=by
 have h1:St w0 M w (l.map (nE T)++aT v T aM l::L):=hO.perm List.perm_middle;have h2:=St.group h1;exact h2.pull 1 rfl
theorem St.fH (hO:St w0 M w L):St w0 M w (aq.dF (([]:List NN).map (nE T))::L):=St.group (A:=[]) hO
theorem St.cf (hO:St w0 M w (nE T x::L))(i:Nat)(hi:L[i]?=some (aq.dF (l.map (nE T)))):St w0 M w (L.set i (aq.dF ((l++[x]).map (nE T)))):=by
 have h:=hO.acA i hi;rw[List.map_append];exact h
theorem St.uj (hO:St w0 M w (aq.dF (m.map (nE T))::L))(i:Nat)(hi:L[i]?=some (aq.dF (l.map (nE T)))):St w0 M w (L.set i (aq.dF ((l++m).map (nE T)))):=by
 have h1:St w0 M w (m.map (nE T)++L):=St.ungroup hO;clear hO
 revert L l
 induction m with
 |nil=>
  intro L l hi h1;have e:L.set i (aq.dF ((l++[]).map (nE T)))=L:=by
   rw[List.append_nil];exact List.ext_getElem? fun j=>by
    rw[List.getElem?_set]
    split
    ·rename_i h;subst h;rw[hi];have:=(List.getElem?_eq_some_iff.1 hi).1;simp [this]
    ·rfl
  rw[e];exact h1
 |cons x m ih=>
  intro L l hi h1;have h2:St w0 M w (nE T x::(m.map (nE T)++L)):=h1;have hi2:(m.map (nE T)++L)[m.length+i]?=some (aq.dF (l.map (nE T))):=by
   rw[List.getElem?_append_right (by simp)]
   simpa using hi
  have h3:=St.cf h2 (m.length+i) hi2;have e:(m.map (nE T)++L).set (m.length+i) (aq.dF ((l++[x]).map (nE T)))=m.map (nE T)++L.set i (aq.dF ((l++[x]).map (nE T))):=by
   rw[List.set_append_right _ _ (by simp)];simp
  rw[e] at h3;have hlt:=(List.getElem?_eq_some_iff.1 hi).1;have h4:=ih (L:=L.set i (aq.dF ((l++[x]).map (nE T)))) (l:=l++[x]) (by simp [hlt]) h3;rw[List.set_set,List.append_assoc] at h4;exact h4
theorem b_:ea.er=kJ:=rfl
theorem St.bL {k n a c:Int}{s:List UInt8}{h:aO}(hx:x=.mk k s n a c h l)(hO:St w0 M w (aT h.v T aM l::aq.dF (l.map (nE T))::L)):St w0 M w (nE T x::L):=hx▸hO.bk k s n a c
theorem St.ga {k n a c:Int}{s:List UInt8}(hx:x=.mk k s n a c aU [])(hO:St w0 M w L):St w0 M w (nE T x::L):=hx▸hO.N8 (Dw w []) k s n a c
theorem St.SE (hO:St w0 M w L):St w0 M w (nE T ea::L):=hO.N8 (Dw w []) 0 [] 0 0 0
end
end Go.Proofs.YtdfccaonglmgpaaGreatDoor
