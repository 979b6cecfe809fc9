/- Q06 -/
import Derived.Test.YtdfccaonglmgpaaGreatDoorQ05
import Derived.Test.YtdfccaonglmgpaaGreatDoorQ01
import Derived.Test.YtdfccaonglmgpaaGreatDoorQ04
import Derived.Test.YtdfccaonglmgpaaGreatDoorRows
import Derived.Recover
open Go.Proofs.Tryz
set_option linter.all false
namespace Go.Proofs.YtdfccaonglmgpaaGreatDoor
open Go
class YU (P:Program)(t:TypeId)(d:outParam TypeDesc):Prop where
 h:P.underlying t=some d
class YS (P:Program)(t:TypeId)(n:outParam Nat):Prop where
 h:∀w,(sizeOf t).run P w=.ok n w
class YA (P:Program)(t:TypeId)(b:outParam Bool):Prop where
 h:∀w,(isAgg t).run P w=.ok b w
class YZ (P:Program)(t:TypeId)(z:outParam Value):Prop where
 h:∀w,(zeroValue t).run P w=.ok z w
class YI (P:Program)(t:TypeId)(i:outParam TypeInfo):Prop where
 h:P.info? t=some i
class YL (P:Program)(t:TypeId)(l:outParam (List Nat)):Prop where
 h:sr P t l
class YG (P:Program)(t:TypeId)(l:outParam (List (Nat×Nat))):Prop where
 h:BS P t l
def H5 (P:Program)(f:Nat):Bool:=match P.funcs[f]? with
 |some fn=>!(fn.name == "runtime.NumGoroutine")&&!fn.body.isNone
 |none=>false
def T9 {P:Program}{f:Nat}(h:H5 P f=true)(args:Array Value)(w:World):(callFunc f args).run P w=.ok (.enter f args) w:=by
 unfold H5 at h
 split at h
 ·rename_i fn hf;rw[aQ,Bool.not_eq_true',Bool.not_eq_true'] at h;unfold callFunc;simp [Sem.run_bind,hf];rw[if_neg (by simpa using h.1),if_neg (by intro e;rw[e] at h;cases h.2)]
 ·cases h
class YM (P:Program):Prop where
 h:P.follows .mixedOrders=true
class YD (P:Program)(t:TypeId)(i:Nat)(d:outParam Nat):Prop where
 h:∃fs f,P.underlying t=some (.struct fs)∧fs[i]?=some f∧(∀w,(isAgg f.type).run P w=.ok false w)∧f.offset=d
class YF (P:Program)(t:TypeId)(i:Nat)(d:outParam Nat):Prop where
 h:∃fs f k,P.underlying t=some (.struct fs)∧fs[i]?=some f∧(∀w,(sizeOf f.type).run P w=.ok k w)∧k≠0∧f.offset=d
class oP (A B:List an)(C:outParam (List an)):Prop where
 h:A++B=C
instance {B:List an}:oP [] B B:=⟨rfl⟩
instance {x:an}{A B C:List an}[h:oP A B C]:oP (x::A) B (x::C):=⟨by rw[←h.h];rfl⟩
class jB (L:List an)(b:Nat)(t:outParam Nat)(cs:outParam (List Value))(A B:outParam (List an)):Prop where
 h:L=A++.ob b t cs::B
instance {e:an}{L A B:List an}{b t:Nat}{cs:List Value}[h:jB L b t cs A B]:jB (e::L) b t cs (e::A) B:=⟨by rw[h.h];rfl⟩
instance {L:List an}{b t:Nat}{cs:List Value}:jB (.ob b t cs::L) b t cs [] L:=⟨rfl⟩
class Fp (L:List an)(i:Nat)(e:outParam an):Prop where
 h:zA L i=some e
instance {e:an}{L:List an}:Fp (e::L) 0 e:=⟨rfl⟩
instance {x e:an}{L:List an}{i:Nat}[h:Fp L i e]:Fp (x::L) (i+1) e:=⟨h.h⟩
class Am (L:List an)(is:List Nat)(L':outParam (List an)):Prop where
 h:yG L is=L'
instance {L:List an}:Am L [] []:=⟨rfl⟩
instance {L L':List an}{i:Nat}{is:List Nat}{e:an}[h:Fp L i e][h2:Am L is L']:Am L (i::is) (e::L'):=⟨by simp only[yG,h.h,h2.h]⟩
class Dk (L:List an)(i:Nat)(e:outParam an)(R:outParam (List an)):Prop where
 h:L.Perm (e::R)∧R.Sublist L
instance {e:an}{L:List an}:Dk (e::L) 0 e L:=⟨List.Perm.refl _,List.sublist_cons_self _ _⟩
instance {x e:an}{L R:List an}{i:Nat}[h:Dk L i e R]:Dk (x::L) (i+1) e (x::R):=⟨(h.h.1.cons x).trans (List.Perm.swap e x R),h.h.2.cons_cons x⟩
class Da (L:List an)(is:List Nat)(L':outParam (List an)):Prop where
 h:L.Perm L'
instance {L:List an}:Da L [] L:=⟨List.Perm.refl _⟩
instance {L L' R:List an}{i:Nat}{is:List Nat}{e:an}[h:Dk L i e R][h2:Da R is L']:Da L (i::is) (e::L'):=⟨h.h.1.trans (h2.h.cons e)⟩
class F3 (L:List an)(is:List Nat)(L':outParam (List an)):Prop where
 h:L'.Sublist L
instance {L:List an}:F3 L [] L:=⟨List.Sublist.refl _⟩
instance {L L' R:List an}{i:Nat}{is:List Nat}{e:an}[h:Dk L i e R][h2:F3 R is L']:F3 L (i::is) L':=⟨h2.h.trans h.h.2⟩
class EL (L:List an)(e:an)(R:outParam (List an)):Prop where
 h:L.Perm (e::R)
instance {x e:an}{L R:List an}[h:EL L e R]:EL (x::L) e (x::R):=⟨(h.h.cons x).trans (List.Perm.swap e x R)⟩
instance {e:an}{L:List an}:EL (e::L) e L:=⟨List.Perm.refl _⟩
class Ae (L L':List an):Prop where
 h:∃R,L.Perm (L'++R)
instance {L:List an}:Ae L []:=⟨L,List.Perm.refl _⟩
instance {e:an}{L L' R:List an}[h:EL L e R][h2:Ae R L']:Ae L (e::L'):=⟨by
  obtain⟨S,hs⟩:=h2.h
  exact⟨S,h.h.trans (hs.cons e)⟩⟩
class pz (L:List an)(L':outParam (List an)):Prop where
 h:L=L'
instance:pz [] []:=⟨rfl⟩
instance {e:an}{L L':List an}[h:pz L L']:pz (e::L) (e::L'):=⟨congrArg _ h.h⟩
class E9 (L:List an)(i:Nat)(e:an)(L':outParam (List an)):Prop where
 h:L.set i e=L'
instance {x e:an}{L:List an}:E9 (x::L) 0 e (e::L):=⟨rfl⟩
instance {x e:an}{L L':List an}{i:Nat}[h:E9 L i e L']:E9 (x::L) (i+1) e (x::L'):=⟨congrArg _ h.h⟩
class FZ (L:List an)(i:Nat)(L':outParam (List an)):Prop where
 h:L.eraseIdx i=L'
instance {x:an}{L:List an}:FZ (x::L) 0 L:=⟨rfl⟩
instance {x:an}{L L':List an}{i:Nat}[h:FZ L i L']:FZ (x::L) (i+1) (x::L'):=⟨congrArg _ h.h⟩
instance {e:an}{L L1 L':List an}{i:Nat}[h1:pz L L1][h:E9 L1 i e L']:pz (L.set i e) L':=⟨h1.h▸h.h⟩
instance {L L1 L':List an}{i:Nat}[h1:pz L L1][h:FZ L1 i L']:pz (L.eraseIdx i) L':=⟨h1.h▸h.h⟩
instance {A B A' B' C:List an}[h1:pz A A'][h2:pz B B'][h:oP A' B' C]:pz (A.append B) C:=⟨by have:=h1.h;have:=h2.h;subst_vars;exact h.h⟩
instance {A B A' B' C:List an}[h1:pz A A'][h2:pz B B'][h:oP A' B' C]:pz (A++B) C:=⟨by rw[h1.h,h2.h];exact h.h⟩
section
variable {Z w w':World} {M:List Nat} {L L' A B C:List an} {e f g:an}
def St.kp' (h:Ae L L')(O:St Z M w L):St Z M w L':=by
 obtain⟨R,hr⟩:=h.h;exact (O.perm hr.symm).front
def St.nm [h:pz L L'](O:St Z M w L):St Z M w L':=h.h▸O
def QX {L:List an}{f:Nat→Value}{avn:Nat→List an}[h:∀b,Ae (avn b) L]:∀v w',(∃b,v=f b∧St Z M w' (avn b))→St Z M w' L:=fun _ _ ⟨b,_,h2⟩=>St.kp' (h b) h2
def St.kp [h:Ae L L'](O:St Z M w L):St Z M w L':=by
 obtain⟨R,hr⟩:=h.h;exact (O.perm hr.symm).front
def St.s (O:St Z M w L)(is:List Nat)[h:Am L is L'](hn:yQ L.length is=true:=by rfl):St Z M w L':=h.h▸O.sL is hn
def St.q (O:St Z M w L)(is:List Nat)[h:Da L is L']:St Z M w L':=O.perm h.h.symm
def St.d (O:St Z M w L)(is:List Nat)[h:F3 L is L']:St Z M w L':=O.less h.h
def St.k0 [h:oP A B C](O:St Z M w B)(hc:St w [] w' A):St Z M w' C:=h.h▸O.wc hc
def St.k1 [h:oP A B C](O:St Z M w (e::B))(hc:St w (az [e]) w' A):St Z M w' C:=h.h▸O.i_ hc
def St.k2 [h:oP A B C](O:St Z M w (e::f::B))(hc:St w (az [e,f]) w' A):St Z M w' C:=h.h▸O.call2 hc
def St.k3 [h:oP A B C](O:St Z M w (e::f::g::B))(hc:St w (az [e,f,g]) w' A):St Z M w' C:=h.h▸O.call3 hc
end
structure bJ {α:Type}(x:α)(n:Nat)(G:Prop):Prop where
 go:G
section
variable {α:Type} {x:α} {m n:Nat} {G G':Prop}
def FN (f:G'→G)(h:bJ x m G'):bJ x (m+1) G:=⟨f h.go⟩
def eO {F:List (Nat×Value)}{avn:Act→Prop}(f:(∀a,Fr a n F→avn a)→G)(h:∀a,Fr a n F→bJ x m (avn a)):bJ x (m+1) G:=⟨f fun a U=>(h a U).go⟩
def iw {R:Value→World→Prop}{avo:Act→Value→Prop}{avn:Act→Value→World→Prop}(f:(∀a v w,R v w→avo a v→avn a v w)→G)(h:∀a v w,R v w→avo a v→bJ x m (avn a v w)):bJ x (m+1) G:=
 ⟨f fun a v w h1 h2=>(h a v w h1 h2).go⟩
def ib (f:G'→G)(h:bJ x m G'):bJ x m G:=⟨f h.go⟩
def ri (f:G'→G)(h:bJ x (m+1) G'):bJ x (m+1) G:=⟨f h.go⟩
def ph (h:bJ x 1 G):bJ x 0 G:=⟨h.go⟩
def jU (h:G):bJ x 0 G:=⟨h⟩
def pL {K:Prop}(f:K→G)(k:K):bJ x 0 G:=⟨f k⟩
def QI {K1 K2:Prop}(f:K1→K2→G)(k1:K1)(k2:K2):bJ x 0 G:=⟨f k1 k2⟩
end
def wN {g:Value}{b r:Bool}(h:dk g b=r:=by first|rfl|exact mS V|exact nV V|exact da V|exact mC V|exact da rfl|exact mC rfl|exact mS rfl|exact nV rfl):dk g b=r:=h
class AK (L:List an)(v:Value):Prop where
 h:∀{Z w:World} {M:List Nat} {L0:List an},St Z M w (L0++L)→v.oneCell'=true
instance {e:an}{L:List an}{v:Value}[h:AK L v]:AK (e::L) v:=⟨fun {_ _ _ L0} O=>h.h (L0:=L0++[e]) (by simpa using O)⟩
instance {v:Value}{t s n:Nat}{xs:List Value}{L:List an}:AK (.sl v t s n xs::L) v:=⟨fun {_ _ _ L0} O=>O.F5 (e:=t) (size:=s) (n:=n) (xs:=xs) L0.length aw⟩
instance {α:Type}{v:Value}{t:Nat}{E:fp α}{l:List α}{L:List an}:AK (ax v t E l::L) v:=⟨fun {_ _ _ L0} O=>O.F5 (e:=t) (size:=E.size) (n:=l.length) (xs:=flat E l) L0.length (by simp [ax])⟩
def Lf:Value→Bool
 | .pointer (some _)=>true
 |_=>false
def SY (op:BinOp)(m n:Int):Option Value:=match op with
 | .eql=>some (.bool (decide (m=n)))
 | .neq=>some (.bool (decide (¬m=n)))
 | .lss=>some (.bool (decide (m<n)))
 | .leq=>some (.bool (decide (m≤n)))
 | .gtr=>some (.bool (decide (n<m)))
 | .geq=>some (.bool (decide (n≤m)))
 |_=>none
def Qo (op:BinOp):Value→Value→Option Value
 | .int k m,.int k' n=>if k=k' then SY op m n else none
 | .string ⟨⟨l⟩⟩,.string ⟨⟨r⟩⟩=>match op with
  | .eql=>some (.bool (decide (l=r)))
  | .neq=>some (.bool (decide (¬l=r)))
  |_=>none
 |_,_=>none
def RN (F:List (Nat×Value)):Op→Option Value
 | .move x=>ev F x
 | .assign x=>ev F x
 | .nilCheck x=>match ev F x with
  |some v=>bif Lf v then some v else none
  |none=>none
 | .extract x i=>match ev F x with
  |some (.tuple vs)=>vs[i]?
  |_=>none
 | .binOp op _ x y _=>match ev F x,ev F y with
  |some u,some v=>Qo op u v
  |_,_=>none
 |_=>none
section
variable {P:Program} {o:Oper} {a:Act} {w:World} {v:Value} {n:Nat} {F:List (Nat×Value)}
def vD (U:Fr a n F)(h:RN F o.op=some v):QV P o a w v:=by
 generalize ho:o.op=op at h;unfold RN at h
 split at h
 ·exact SG ho (U.af h)
 ·exact SA ho (U.af h)
 ·split at h
  ·rename_i x u hu
   cases hp:Lf u with
   |false=>rw[hp] at h;cases h
   |true=>
    rw[hp] at h;cases h;unfold Lf at hp
    split at hp
    ·exact Z1 ho (U.af hu)
    ·cases hp
  ·cases h
 ·split at h
  ·rename_i hu;exact uz ho (U.af hu) h
  ·cases h
 ·split at h
  ·rename_i hx hy;have ex:=U.af hx;have ey:=U.af hy;unfold Qo at h
   split at h
   ·split at h
    ·rename_i hk;subst hk;unfold SY at h
     split at h
     ·cases h;exact ZI ho ex ey
     ·cases h;exact PI ho ex ey
     ·cases h;exact QL ho ex ey
     ·cases h;exact P7 ho ex ey
     ·cases h;exact S1 ho ex ey
     ·cases h;exact Q8 ho ex ey
     ·cases h
    ·cases h
   ·split at h
    ·cases h;exact Zf ho ex ey
    ·cases h;exact Pv ho ex ey
    ·cases h
   ·cases h
  ·cases h
 ·cases h
end
section
variable {P:Program} {o:Oper} {a:Act} {w Z:World} {v u:Value} {x y zz:Operand} {t t':TypeId} {M:List Nat} {L L' A B:List an} {n m:Nat} {F:List (Nat×Value)} {b tb:Nat} {cs:List Value}
def KQ {ad:Addr}{i d:Nat}[hf:YF P t i d](ho:o.op=.fieldAddr t x i)(hx:a.eval x=ptr ad):QV P o a w (ptr (ad.add d)):=by
 obtain⟨fs,f,k,h1,h2,h3,h4,h5⟩:=hf.h;exact O9 h1 ho hx h2 h3 h4 h5
def IU {ad:Addr}{m i d:Nat}[hf:YF P t i d](ho:o.op=.fieldAddr t x i)(hx:a.eval x=ptr (ad.add m)):QV P o a w (ptr (ad.add (m+d))):=by
 obtain⟨fs,f,k,h1,h2,h3,h4,h5⟩:=hf.h;exact aj1 h1 ho hx h2 h3 h4 h5
def jB.nth (h:jB L b tb cs A B):L[A.length]?=some (.ob b tb cs):=by rw[h.h];simp
def jB.cell [h:jB L b tb cs A B](O:St Z M w L){k:Nat}(hk:cs[k]?=some v):w.cell? ((aa b).add k)=some v:=O.cell A.length h.nth hk
def jB.cell0 [h:jB L b tb cs A B](O:St Z M w L)(hk:cs[0]?=some v):w.cell? (aa b)=some v:=O.cell0 A.length h.nth hk
def jB.cells [h:jB L b tb cs A B](O:St Z M w L):∀j u,cs[j]?=some u→w.cell? ((aa b).add j)=some u:=O.cells A.length h.nth
def Nv {k:Nat}[h:YA P t false](O:St Z M w L)(ho:o.op=.load t x)(hx:a.eval x=ptr ((aa b).add k))[jB L b tb cs A B](hk:cs[k]?=some v:=by rfl):QV P o a w v:=eD h.h ho hx (jB.cell O hk)
def M9 [h:YA P t false](O:St Z M w L)(ho:o.op=.load t x)(hx:a.eval x=ptr (aa b))[jB L b tb cs A B](hk:cs[0]?=some v:=by rfl):QV P o a w v:=eD h.h ho hx (jB.cell0 O hk)
def NH [h:YA P t true][hs:YS P t n](O:St Z M w L)(ho:o.op=.load t x)(hx:a.eval x=ptr (aa b))[jB L b tb cs A B](hl:cs.length=n:=by rfl):QV P o a w (.agg cs.toArray):=kq h.h hs.h ho hx (jB.cells O) hl
def am5 {i d:Nat}[h:YD P t i d](ho:o.op=.field t x i)(hx:a.eval x=.agg cs.toArray)(hv:cs[d]?=some v):QV P o a w v:=by
 obtain⟨fs,f,h1,h2,h3,rfl⟩:=h.h;exact aqs h1 ho hx h2 h3 hv
def M_ {l:List UInt8}[h:YU P t .string](ho:o.op=.call {callee:=.builtin .len,args:=#[x],argTypes:=#[t]})(hx:a.eval x=str l):QV P o a w (i64 l.length):=Z7 h.h ho hx
def auR {e:TypeId}{w1:World}{size:Nat}{xs:List Value}(hR:Rd w1 M v size n xs)[h:YU P t (.slice e)](ho:o.op=.call {callee:=.builtin .len,args:=#[x],argTypes:=#[t]})(hx:a.eval x=v):QV P o a w (i64 n):=rU hR h.h ho hx
def atu {e:TypeId}{w1:World}{k:IntKind}{i size:Nat}{xs:List Value}(hR:Rd w1 M v size n xs)[h:YU P t (.slice e)][hs:YS P e size](ho:o.op=.indexAddr t x y)(hx:a.eval x=v)(hy:a.eval y=.int k (i:Int))(hi:i<n):
 QV P o a w (ptr ((sa v).add (i * size))):=iK hR h.h hs.h ho hx hy hi
def ape {fs:Array Field}{parts:List (Nat×Operand)}{vs:List (Nat×Value)}{zv:Value}{offs:List Nat}(U:Fr a n F)(ho:o.op=.build t parts.toArray)[h:YU P t (.struct fs)][hz:YZ P t zv][hp:YL P t offs]
 (hzc:zv.cells=cs.toArray) (hv:tD F parts=some vs) (hok:zM offs cs.length vs=true):QV P o a w (.agg (Cq offs cs vs).toArray):=abm U h.h hz.h hp.h hzc ho hv hok
def akj {fs:Array Field}{parts:List (Nat×Operand)}{vs:List (Nat×Value)}{zv:Value}{offs:List (Nat×Nat)}(U:Fr a n F)(ho:o.op=.build t parts.toArray)[h:YU P t (.struct fs)][hz:YZ P t zv][hp:YG P t offs]
 (hzc:zv.cells=cs.toArray) (hv:tD F parts=some vs) (hok:BT offs cs.length vs=true):QV P o a w (.agg (zQ offs cs vs).toArray):=amB U h.h hz.h hp.h hzc ho hv hok
def aiJ {fs:Array Field}{zv:Value}{offs:List (Nat×Nat)}(ho:o.op=.build t #[])[h:YU P t (.struct fs)][hz:YZ P t zv][hp:YG P t offs]
 (hzc:zv.cells=cs.toArray):QV P o a w (.agg cs.toArray):=asb h.h hz.h hp.h hzc ho
def iX (h:a.eval x=v:=by
  first
  |exact (U.af rfl).trans (a6 hg)
  |exact (U.af rfl).trans (a6 (Gi hg).1)
  |exact U.af rfl):a.eval x=v:=h
def nS (h:QV P o a w v:=by
  first
  |exact KQ rfl (U.af rfl)
  |exact IU rfl (U.af rfl)
  |exact Nv O rfl (U.af rfl)
  |exact NH O rfl (U.af rfl)
  |exact M9 O rfl (U.af rfl)
  |exact ud rfl (U.af rfl) (U.af rfl) V
  |exact Hs rfl (U.af rfl) (U.af rfl) V
  |exact M_ rfl (U.af rfl)
  |exact kT rfl (U.af rfl) rfl
  |exact j3 rfl (U.af rfl) rfl (fun hg=>iX) rfl
  |exact r_ rfl (U.af rfl) rfl (fun hg=>iX) rfl
  |exact am5 rfl (U.af rfl) rfl
  |exact LK U rfl rfl rfl
  |exact ape U rfl rfl rfl rfl
  |exact aiJ rfl rfl
  |exact akj U rfl rfl rfl rfl):QV P o a w v:=h
def N7 (h:QV P o a w v:=by
  first
  |exact SG rfl iX
  |exact SA rfl iX
  |exact Z1 rfl iX
  |exact KQ rfl ((U.af rfl).trans (a6 hg))
  |exact KQ rfl (U.af rfl)
  |exact IU rfl ((U.af rfl).trans (a6 hg))
  |exact IU rfl (U.af rfl)
  |exact Nv O rfl ((U.af rfl).trans (a6 hg))
  |exact Nv O rfl (U.af rfl)
  |exact NH O rfl ((U.af rfl).trans (a6 hg))
  |exact NH O rfl (U.af rfl)
  |exact M9 O rfl ((U.af rfl).trans (a6 hg))
  |exact M9 O rfl (U.af rfl)
  |exact ZI rfl iX iX
  |exact Zf rfl iX iX
  |exact PI rfl iX iX
  |exact Pv rfl iX iX
  |exact QL rfl iX iX
  |exact P7 rfl iX iX
  |exact S1 rfl iX iX
  |exact Q8 rfl iX iX
  |exact ud rfl iX iX V
  |exact Hs rfl iX iX V
  |exact kT rfl iX rfl
  |exact M_ rfl ((U.af rfl).trans (a6 hg))
  |exact M_ rfl (U.af rfl)):QV P o a w v:=h
structure QY (v:Value)(n:Nat):Prop where
 h:∃w1 M size xs,Rd w1 M v size n xs
def bA {w1:World}{size:Nat}{xs:List Value}(hR:Rd w1 M v size n xs):QY v n:=⟨_,_,_,_,hR⟩
def af6 {e:TypeId}(c:QY v n)(ho:o.op=.call {callee:=.builtin .len,args:=#[x],argTypes:=#[t]})(hx:a.eval x=v)[h:YU P t (.slice e)]:QV P o a w (i64 n):=by
 obtain⟨w1,M,size,xs,hR⟩:=c.h;exact rU hR h.h ho hx
structure K3 (v:Value)(size n i:Nat):Prop where
 h:∃w1 M xs,Rd w1 M v size n xs∧i<n
def bw {w1:World}{size:Nat}{xs:List Value}(i:Nat)(hR:Rd w1 M v size n xs)(hi:i<n):K3 v size n i:=⟨_,_,_,hR,hi⟩
def b_ {α:Type}{E:fp α}{l:List α}{w1:World}{i:Nat}{q:α}(hR:aG w1 M v E l)(h:l[i]?=some q):K3 v E.size l.length i:=⟨_,_,_,hR,(List.getElem?_eq_some_iff.1 h).1⟩
def aje {e:TypeId}{k:IntKind}{i size s2:Nat}(c:K3 v size n i)(ho:o.op=.indexAddr t x y)(hx:a.eval x=v)(hy:a.eval y=.int k (i:Int))[h:YU P t (.slice e)][hs:YS P e s2](he:s2=size:=by rfl):QV P o a w (ptr ((sa v).add (i * size))):=by
 subst he;obtain⟨w1,M,xs,hR,hi⟩:=c.h;exact iK hR h.h hs.h ho hx hy hi
section
variable {α:Type} {E:fp α} {l:List α} {i:Nat} {q:α}
def KV (hR:aG w M v E l)(hi:l[i]?=some q)(ho:o.op=.load t x)(hx:a.eval x=ptr ((sa v).add (i * E.size)))[h:YA P t true][hs:YS P t n](hl:(E.cells q).length=n:=by rfl):QV P o a w (.agg (E.cells q).toArray):=kq h.h hs.h ho hx (aG.cells hR hi) hl
def KG {j:Nat}(hR:aG w M v E l)(hi:l[i]?=some q)(ho:o.op=.load t x)(hx:a.eval x=ptr (((sa v).add (i * E.size)).add j))[h:YA P t false](hj:(E.cells q)[j]?=some u:=by rfl):QV P o a w u:=eD h.h ho hx (aG.cells hR hi j u hj)
def IG (hR:aG w M v E l)(hi:l[i]?=some q)(ho:o.op=.load t x)(hx:a.eval x=ptr ((sa v).add (i * E.size)))[h:YA P t false](hj:(E.cells q)[0]?=some u:=by rfl):QV P o a w u:=eD h.h ho hx (aG.cell0 hR hi hj)
end
def Cs (h:QV P o a w v:=by
  first
  |exact KV (aG.now c O) d rfl (U.af rfl)
  |exact KG (aG.now c O) d rfl (U.af rfl)
  |exact IG (aG.now c O) d rfl (U.af rfl)
  |exact KV c d rfl (U.af rfl)
  |exact KG c d rfl (U.af rfl)
  |exact IG c d rfl (U.af rfl)
  |exact KV (Mc O c) d rfl (U.af rfl)
  |exact KG (Mc O c) d rfl (U.af rfl)
  |exact IG (Mc O c) d rfl (U.af rfl)):QV P o a w v:=h
def BV {H:Prop}(c:H)(h:H→QV P o a w v:=by intro c;first|exact aje c rfl (U.af rfl) (U.af rfl)|exact af6 c rfl (U.af rfl)):QV P o a w v:=h c
def amD {z:Value}(O:St Z M w L)(ho:o.op=.alloc t)[h:YZ P t z](hc:z.cells=cs.toArray):bG P o a w (fun u w'=>∃b,u=ptr (aa b)∧St Z M w' (.ob b t cs::L)):=DJ O h.h ho hc
def ae5 {e:TypeId}{size len:Nat}{parts:List (Nat×Operand)}{vs:List (Nat×Value)}{zv:Value}(U:Fr a n F)(O:St Z M w L)(ho:o.op=.buildSlice t len parts.toArray)[ht:YU P t (.slice e)][hs:YS P e size][hz:YZ P e zv]
  (hv:tD F parts=some vs) (hsm:Nat.ble (len * size) 16777216=true) (h0:Nat.ble 1 (len * size)=true)
  (hlen:vs.length=len) (hok:Bu size 0 vs=true) (hm:Nat.ble len 9223372036854775807=true):
  bG P o a w (fun u w'=>∃b,u=.slice (some (aa b)) len len∧St Z M w' (.sl (.slice (some (aa b)) len len) e size len (tC vs)::L)):=
 kH U O ht.h hs.h hz.h ho hv hsm h0 hlen hok hm
def EJ (A B:List an)(e e':an):(A++e::B).set A.length e'=A++e'::B:=aw
def aqz {vs:List Value}(O:St Z M w L)(ho:o.op=.store t x y)(hx:a.eval x=ptr (aa b))(hy:a.eval y=.agg vs.toArray)[hs:YS P t n][hb:jB L b tb cs A B]
  (hn:vs.length=n:=by rfl) (hk:vs.length=cs.length:=by rfl) (h1:vs.all (·.oneCell')=true:=by rfl) [hA:oP A (.ob b tb vs::B) L']:bG P o a w (fun u w'=>u=undef∧St Z M w' L'):=by
 subst hn;have:=Ee (P:=P) O (i:=A.length) hb.nth hs.h ho hx hy hk h1;rw[hb.h,EJ,hA.h] at this;exact this
def adv {k:Nat}(O:St Z M w L)(ho:o.op=.store t x y)(hx:a.eval x=ptr ((aa b).add k))(hy:a.eval y=v)[hs:YS P t 1][hb:jB L b tb cs A B]
  (hv:v.cells=#[v]:=by rfl) (hk:Nat.ble (k+1) cs.length=true:=by rfl) (h1:v.oneCell'=true:=by rfl) [hA:oP A (.ob b tb (cs.set k v)::B) L']:bG P o a w (fun u w'=>u=undef∧St Z M w' L'):=by
 have:=LB (P:=P) O (i:=A.length) hb.nth hs.h ho hx hy hv hk h1;rw[hb.h,EJ,hA.h] at this;exact this
def aj8 (O:St Z M w L)(ho:o.op=.store t x y)(hx:a.eval x=ptr (aa b))(hy:a.eval y=v)[hs:YS P t 1][hb:jB L b tb cs A B]
  (hv:v.cells=#[v]:=by rfl) (hk:Nat.ble 1 cs.length=true:=by rfl) (h1:v.oneCell'=true:=by rfl) [hA:oP A (.ob b tb (cs.set 0 v)::B) L']:bG P o a w (fun u w'=>u=undef∧St Z M w' L'):=by
 have:=V1 (P:=P) O (i:=A.length) hb.nth hs.h ho hx hy hv hk h1;rw[hb.h,EJ,hA.h] at this;exact this
def afj (O:St Z M w L)(ho:o.op=.store t x y)(hx:a.eval x=ptr (aa b))(hy:a.eval y=v)[hs:YS P t 1][hb:jB L b tb cs A B][h1:AK L v]
  (hk:Nat.ble 1 cs.length=true:=by rfl) [hA:oP A (.ob b tb (cs.set 0 v)::B) L']:bG P o a w (fun u w'=>u=undef∧St Z M w' L'):=by
 have h1:=h1.h (L0:=[]) O;have:=V1 (P:=P) O (i:=A.length) hb.nth hs.h ho hx hy (E8 h1) hk h1;rw[hb.h,EJ,hA.h] at this;exact this
def ajq {k:Nat}(O:St Z M w L)(ho:o.op=.store t x y)(hx:a.eval x=ptr ((aa b).add k))(hy:a.eval y=v)[hs:YS P t 1][hb:jB L b tb cs A B][h1:AK L v]
  (hk:Nat.ble (k+1) cs.length=true:=by rfl) [hA:oP A (.ob b tb (cs.set k v)::B) L']:bG P o a w (fun u w'=>u=undef∧St Z M w' L'):=by
 have h1:=h1.h (L0:=[]) O;have:=LB (P:=P) O (i:=A.length) hb.nth hs.h ho hx hy (E8 h1) hk h1;rw[hb.h,EJ,hA.h] at this;exact this
def AP {R:Value→World→Prop}(h:bG P o a w R:=by
  first
  |exact aqz O rfl (U.af rfl) (U.af rfl)
  |exact adv O rfl (U.af rfl) (U.af rfl)
  |exact aj8 O rfl (U.af rfl) (U.af rfl)
  |exact ajq O rfl (U.af rfl) (U.af rfl)
  |exact afj O rfl (U.af rfl) (U.af rfl)):bG P o a w R:=h
def wm {R:Value→World→Prop}(h:bG P o a w R:=by
  first
  |exact amD O rfl rfl
  |exact ae5 U O rfl rfl rfl rfl rfl rfl rfl
  |exact NG O rfl (U.af rfl) rfl):bG P o a w R:=h
def dY {f f':Nat}{args:List Operand}{vs:List Value}{ts:Array TypeId}{R:Value→World→Prop}(U:Fr a n F)(ho:o.op=.call {callee:=.value (.func f),args:=args.toArray,argTypes:=ts})(hv:pA F args=some vs)(hc:aH P f' vs.toArray w R)(he:f'=f:=by rfl)(hf:H5 P f=true:=by kernel_rfl):bG P o a w R:=JC U ho hv (T9 hf) (he▸hc)
end
def GG {R:Value→World→Prop}{S:World→Prop}(h:∀v w',R v w'→S w':=by
  intro v w2 h
  repeat (first
  |exact (St.k0 O h).kp
  |exact (St.k1 O h).kp
  |exact (St.k2 O h).kp
  |exact (St.k3 O h).kp
  |obtain⟨_,h⟩:=h)):∀v w',R v w'→S w':=h
def an4 {P:Program}{id:Nat}{l:List Oper}{Q:Exit→Act→World→Prop}{a:Act}{w Z:World}{M:List Nat}{L:List an}{ks:List Nat}[hm:YM P](O:St Z M w L)(hlook:zG l.toArray ks=true)
 (h:∀w,St Z M w L→dK P l.toArray (fun w=>St Z M w L) (Q .normal) l ks a w):bJ ks 0 ((Code.region id l.toArray true).wp P Q a w):=⟨RD ks _ hm.h hlook O.drew (h _ O.drew)⟩
def ad1 {P:Program}{a:Act}{w Z:World}{M:List Nat}{L A B:List an}{fn:Func}{R:Value→World→Prop}{m k n b tb:Nat}{F:List (Nat×Value)}{ty:TypeId}{cs:List Value}(U:Fr a m F)(O:St Z M w L)(hr:fn.results=#[.cell k ty])(hu:lk F k=some (ptr (aa b)))
 [ha:YA P ty true] [hs:YS P ty n] [jB L b tb cs A B] (hl:cs.length=n:=by rfl) (hR:R (.agg cs.toArray) w):rZ P fn R .ret a w:=alO U hr hu ha.h hs.h (jB.cells O) hl hR
class uN (l:List Value)(F:outParam (List (Nat×Value))):Prop where
 h:(List.range l.length).zip l=F
instance:uN [] []:=⟨rfl⟩
instance {a:Value}:uN [a] [(0,a)]:=⟨rfl⟩
instance {a b:Value}:uN [a,b] [(0,a),(1,b)]:=⟨rfl⟩
instance {a b c:Value}:uN [a,b,c] [(0,a),(1,b),(2,c)]:=⟨rfl⟩
instance {a b c d:Value}:uN [a,b,c,d] [(0,a),(1,b),(2,c),(3,d)]:=⟨rfl⟩
instance {a b c d e:Value}:uN [a,b,c,d,e] [(0,a),(1,b),(2,c),(3,d),(4,e)]:=⟨rfl⟩
instance {a b c d e f:Value}:uN [a,b,c,d,e,f] [(0,a),(1,b),(2,c),(3,d),(4,e),(5,f)]:=⟨rfl⟩
def K8:∀(l:List (Nat×Value)) (L:List (Nat×Value)),(∀k v,(k,v)∈l→lk L k=some v)→tq L l
 | [],_,_=>trivial
 | (k,v)::r,L,h=>⟨h k v jL,K8 r L fun k v hm=>h k v (lz _ hm)⟩
def LL:∀(l:List Value) (j:Nat) (k:Nat) (v:Value),(k,v)∈(List.range' j l.length).zip l→lk ((List.range' j l.length).zip l) k=some v
 | [],_,_,_,h=>by cases h
 |x::r,j,k,v,h=>by
  simp only[bg,List.range'_succ,List.zip_cons_cons] at h ⊢;rcases List.mem_cons.1 h with e|hm
  ·cases e;exact Gv _ _ _
  ·have hk:j+1≤k:=by
    have:=(List.of_mem_zip hm).1;rw[List.mem_range'_1] at this;exact this.1
   rw[CB V];exact LL r (j+1) k v hm
def aS {P:Program}{f m:Nat}{fn:Func}{c:Code}{w:World}{l:List Value}{F:List (Nat×Value)}{R:Value→World→Prop}(hf:P.funcs[f]?=some fn)(hm:fn.ntmps=m)[hz:uN l F](h:∀a,Fr a m F→c.wp P (rZ P fn R) a w)
  (hb:fn.body=some c:=by rfl) (hle:Nat.ble l.length m=true:=by rfl):aH P f l.toArray w R:=by
 refine ald (m:=m) hf hb hm F (by simpa using hle) ?_ h;rw[←hz.h];refine K8 _ _ fun k v hm=>?_;simp only[List.range_eq_range'] at hm ⊢;have:=LL l 0 k v hm
 simpa using this
def Fr.tl {a:Act}{n:Nat}{p:Nat×Value}{L:List (Nat×Value)}(h:Fr a n (p::L))(hp:lk L p.1=none:=by rfl):Fr a n L:=⟨h.size,h.defs,fun t v ht=>h.get t v (by
  rw[show p=(p.1,p.2) from rfl,CB (fun e=>by rw[←e,hp] at ht;cases ht)];exact ht)⟩
section
variable {P:Program} {ops:Array Oper} {Q:Exit→Act→World→Prop} {rest:List Oper} {is:List Nat} {o:Oper} {a:Act} {w:World} {v:Value} {n i d:Nat} {F:List (Nat×Value)} {R E2:Value→World→Prop} {S:World→Prop} {E:Value→World→Prop} {K:Act→World→Prop} {ks:List Nat}
def aZ (U:Fr a n F)(h:QV P o a w v)(next:∀a,Fr a n ((d,v)::F)→wpList P ops Q rest a w)(hg:o.guard=none:=by rfl)(hd:o.dst=some d:=by rfl)(hn:Nat.ble (d+1) n=true:=by rfl):wpList P ops Q (o::rest) a w:=qZ U hg hd hn h next
def eP (U:Fr a n F)(h:bG P o a w R)(next:∀a v w,R v w→Fr a n ((d,v)::F)→wpList P ops Q rest a w)(hg:o.guard=none:=by rfl)(hd:o.dst=some d:=by rfl)(hn:Nat.ble (d+1) n=true:=by rfl):wpList P ops Q (o::rest) a w:=yb U hg hd hn h next
def kv (U:Fr a n F)(h:bG P o a w R)(next:∀a v w,R v w→Fr a n F→wpList P ops Q rest a w)(hg:o.guard=none:=by rfl)(hd:o.dst=none:=by rfl):wpList P ops Q (o::rest) a w:=Ox U hg hd h next
def eg (U:Fr a n F)(h:bG P o a w R)(hS:∀v w',R v w'→S w')(next:∀a v w,R v w→Fr a n ((d,v)::F)→dK P ops S K rest ks a w)(hg:o.guard=none:=by rfl)(hd:o.dst=some d:=by rfl)(hn:Nat.ble (d+1) n=true:=by rfl):dK P ops S K (o::rest) (2::ks) a w:=ae7 U hg hd hn h hS next
def jh (U:Fr a n F)(h:bG P o a w R)(next:∀a v w,R v w→Fr a n ((d,v)::F)→dK P ops S K rest ks a w)(hg:o.guard=none:=by rfl)(hd:o.dst=some d:=by rfl)(hn:Nat.ble (d+1) n=true:=by rfl):dK P ops S K (o::rest) (3::ks) a w:=Dh U hg hd hn h next
def jY (U:Fr a n F)(h:∀w,QV P o a w v)(next:∀a,Fr a n ((d,v)::F)→dK P ops S K rest ks a w)(hg:o.guard=none:=by rfl)(hd:o.dst=some d:=by rfl)(hn:Nat.ble (d+1) n=true:=by rfl):dK P ops S K (o::rest) (0::ks) a w:=tW U hg hd hn h next
def uk (U:Fr a n F)(h:∀w,S w→QV P o a w v)(next:∀a,Fr a n ((d,v)::F)→dK P ops S K rest ks a w)(hg:o.guard=none:=by rfl)(hd:o.dst=some d:=by rfl)(hn:Nat.ble (d+1) n=true:=by rfl):dK P ops S K (o::rest) (1::ks) a w:=BD U hg hd hn h next
end
def Fr.su {a:Act}{n:Nat}{L L':List (Nat×Value)}(h:Fr a n L)(hA:tq L L':=by repeat (first|exact trivial|refine⟨rfl,?_⟩)):Fr a n L':=h.sub hA
inductive cP|v|s|b|C|K|E|M|r|i|j|c|k|g|h|o|e|m|a|d|P|Q|N|A|B|z|t|x|R|n|u|y|w|q
section
variable {α:Type} {kd:cP} {x:α} {is:List Nat} {G G':Prop}
def eh {Z w:World}{M:List Nat}{L L':List an}[h:Da L is L'](O:St Z M w L)(k:St Z M w L'→G):bJ (kd,is) 0 G:=⟨k (O.q is)⟩
def Yb (h:bJ x 0 G):bJ (kd,x) 0 G:=⟨h.go⟩
def ahq {n:Nat}{c A B:Prop}(f:(c→A)→(¬c→B)→G)(h1:c→False)(h:¬c→bJ x n B):bJ x n G:=⟨f (fun q=>(h1 q).elim) fun q=>(h q).go⟩
end
def zz {α:Type}{x:α}{n:Nat}{G K H D:Prop}(c:H)(d:D)(k:K)(h:H→D→K→bJ x n G:=by
  intro c d k
  repeat (first
  | ((with_reducible show bJ _ (_+1) (wpList _ _ _ (_::_) _ _));first| (refine eO (qZ U rfl rfl rfl (vD U rfl)) ?_;intro a U)| (refine eO (qZ U rfl rfl rfl nS) ?_;intro a U)| (refine iw (yb U rfl rfl rfl wm) ?_;rintro a _ w ⟨b,rfl,O⟩ U)| (refine iw (Ox U rfl rfl AP) ?_;rintro a _ w ⟨-,O⟩ U)| (refine eO (fJ U rfl rfl rfl rfl wN rfl rfl) ?_;intro a U)|refine FN (ct U rfl rfl rfl rfl wN) ?_)
  |with_unfolding_none (first|refine ib k9 ?_ |refine ib My ?_ |refine ib MQ ?_)
  |with_reducible (first|refine ib wp_seq ?_ |refine ib wp_region_lit ?_ |refine ib wp_block ?_ |refine ib wp_skip ?_ |refine ib wp_exit ?_ |refine ib wp_ret ?_)
  | ((with_reducible show bJ _ (_+1) (dK _ _ _ _ (_::_) _ _ _));first| (refine eO (tW U rfl rfl rfl (fun w=>(vD U rfl))) ?_;intro a U)| (refine eO (tW U rfl rfl rfl (fun w=>nS)) ?_;intro a U)| (refine eO (BD U rfl rfl rfl (fun w O=>nS)) ?_;intro a U)| (refine eO (Bb U rfl rfl rfl rfl wN rfl rfl) ?_;intro a U)|refine FN (AA U rfl rfl rfl rfl wN) ?_ | (refine iw (Dh U rfl rfl rfl wm) ?_;rintro a _ w ⟨b,rfl,O⟩ U)| (refine iw (S0 U rfl rfl AP) ?_;rintro a _ w ⟨-,O⟩ U))
  | ((with_reducible show bJ _ (_+1) (eH _ _ _ _ _ _ (_::_) _ _));first| (refine eO (vA rfl rfl U rfl rfl rfl (fun w=>(vD U rfl))) ?_;intro a U)| (refine eO (vA rfl rfl U rfl rfl rfl (fun w=>nS)) ?_;intro a U)| (refine eO (A8 rfl rfl U rfl rfl rfl (fun w O=>nS)) ?_;intro a U)| (refine iw (AX rfl rfl U rfl rfl rfl wm) ?_;rintro a _ w ⟨b,rfl,O⟩ U)| (refine iw (yJ rfl rfl U rfl rfl rfl wm QX) ?_;rintro a _ w ⟨b,rfl,O⟩ U)| (refine iw (Ms rfl rfl U rfl rfl AP) ?_;rintro a _ w ⟨-,O⟩ U))
  |refine ib Fo ?_
  |refine ib (MA rfl) ?_
  |with_unfolding_none refine ib Dt ?_
  | ((with_reducible show bJ (cP.x,_) _ _);refine ahq (Li U rfl rfl) (by intro q;omega) ?_;intro _))
  first
  | ((with_reducible show bJ (cP.v,_) _ _);refine jU ?_;first|with_reducible exact k|exact k a U)
  | ((with_reducible show bJ (cP.s,_) _ _);refine eh O ?_;intro O;exact k a w O U)
  | ((with_reducible show bJ (cP.b,_) _ _);refine eh O ?_;intro O;exact k b a w O U)
  | ((with_reducible show bJ (cP.C,_) _ _);refine ph ?_;(first|refine iw (yb U rfl rfl rfl (dY U rfl rfl c)) ?_ |refine iw (AX rfl rfl U rfl rfl rfl (dY U rfl rfl c)) ?_ |refine iw (Dh U rfl rfl rfl (dY U rfl rfl c)) ?_);(intro a v w h U;repeat (first| ((first|with_reducible (first|refine eh (St.k0 O h) ?_ |refine eh (St.k1 O h) ?_ |refine eh (St.k2 O h) ?_ |refine eh (St.k3 O h) ?_)|refine eh (St.k0 O h) ?_ |refine eh (St.k1 O h) ?_ |refine eh (St.k2 O h) ?_ |refine eh (St.k3 O h) ?_);intro O;first|exact k a w O U|exact k a w O U.tl)| (obtain⟨x,h⟩:=h;first| (have e:v=_:=x;subst e)|specialize k x))))
  | ((with_reducible show bJ (cP.K,_) _ _);refine ph ?_;refine iw (yJ rfl rfl U rfl rfl rfl (dY U rfl rfl c) GG) ?_;(intro a v w h U;repeat (first| ((first|with_reducible (first|refine eh (St.k0 O h) ?_ |refine eh (St.k1 O h) ?_ |refine eh (St.k2 O h) ?_ |refine eh (St.k3 O h) ?_)|refine eh (St.k0 O h) ?_ |refine eh (St.k1 O h) ?_ |refine eh (St.k2 O h) ?_ |refine eh (St.k3 O h) ?_);intro O;first|exact k a w O U|exact k a w O U.tl)| (obtain⟨x,h⟩:=h;first| (have e:v=_:=x;subst e)|specialize k x))))
  | ((with_reducible show bJ (cP.E,_) _ _);refine ph ?_;(first|replace c:=c (St.aB O) (hT.aV O) d (oT aW J)|replace c:=c (St.aI O) (hT.df O) d (oT aW J));(first|refine iw (jg U rfl rfl rfl (zI c U rfl rfl) c (by rintro _ w ⟨l,c2,e,n2,d2,he,rfl,hS⟩;(repeat (with_unfolding_none (first|refine eL ?_ |refine js ?_)));exact gU U.defs ⟨l,c2,e,n2,d2,by first|exact gD J he|exact vU J he,rfl,by first|exact (St.k1 O hS).kp|exact (St.k2 O hS).kp|exact (St.k3 O hS).kp⟩)) ?_ |refine iw (Vb U rfl rfl (zI c U rfl rfl) c (by rintro _ w ⟨l,c2,e,n2,d2,he,rfl,hS⟩;(repeat (with_unfolding_none (first|refine eL ?_ |refine js ?_)));exact gU U.defs ⟨l,c2,e,n2,d2,by first|exact gD J he|exact vU J he,rfl,by first|exact (St.k1 O hS).kp|exact (St.k2 O hS).kp|exact (St.k3 O hS).kp⟩)) ?_);(intro a v w h U;repeat (first| ((first|with_reducible (first|refine eh (St.k0 O h) ?_ |refine eh (St.k1 O h) ?_ |refine eh (St.k2 O h) ?_ |refine eh (St.k3 O h) ?_)|refine eh (St.k0 O h) ?_ |refine eh (St.k1 O h) ?_ |refine eh (St.k2 O h) ?_ |refine eh (St.k3 O h) ?_);intro O;first|exact k a w O U J|exact k a w O U.tl J)| (obtain⟨x,h⟩:=h;first| (have e:v=_:=x;subst e)|replace J:=pD J x|specialize k x))))
  | ((with_reducible show bJ (cP.M,_) _ _);refine ph ?_;(first|replace c:=c (St.aB O) (hT.aV O) d (oT aW J)|replace c:=c (St.aI O) (hT.df O) d (oT aW J));refine iw (LR rfl rfl U rfl rfl rfl (zI c U rfl rfl) c GG (by rintro _ w ⟨l,c2,e,n2,d2,he,rfl,hS⟩;exact⟨l,c2,e,n2,d2,by first|exact gD J he|exact vU J he,rfl,by first|exact (St.k1 O hS).kp|exact (St.k2 O hS).kp|exact (St.k3 O hS).kp⟩)) ?_;(intro a v w h U;repeat (first| ((first|with_reducible (first|refine eh (St.k0 O h) ?_ |refine eh (St.k1 O h) ?_ |refine eh (St.k2 O h) ?_ |refine eh (St.k3 O h) ?_)|refine eh (St.k0 O h) ?_ |refine eh (St.k1 O h) ?_ |refine eh (St.k2 O h) ?_ |refine eh (St.k3 O h) ?_);intro O;first|exact k a w O U J|exact k a w O U.tl J)| (obtain⟨x,h⟩:=h;first| (have e:v=_:=x;subst e)|replace J:=pD J x|specialize k x))))
  | ((with_reducible show bJ (cP.r,_) _ _);repeat (first| (refine pL (yX U rfl rfl) ?_;exact k)| (refine pL (ad1 U O rfl rfl) ?_;exact k)| (refine pL (qC U rfl rfl rfl) ?_;exact k)| (refine pL (r_3 U rfl rfl rfl rfl) ?_;exact k)| (refine pL (r_0 U rfl) ?_;exact k)| (refine pL (agl U rfl) ?_;exact k)|with_unfolding_none refine ib dv ?_ |with_unfolding_none refine ib dI ?_))
  | ((with_reducible show bJ (cP.i,_) _ _);refine QI (Li U rfl rfl) ?_ ?_;first| (with_reducible (exact c;exact k))| (exact c a U;exact k a U))
  | ((with_reducible show bJ (cP.j,_) _ _);refine QI (Li U rfl (eN _)) ?_ ?_;first| (with_reducible (exact c;exact k))| (exact c a U;exact k a U))
  | ((with_reducible show bJ (cP.c,_) _ _);first| (refine pL (yb U rfl rfl rfl (dY U rfl rfl c)) ?_;exact k)| (refine pL (AX rfl rfl U rfl rfl rfl (dY U rfl rfl c)) ?_;exact k)| (refine pL (Dh U rfl rfl rfl (dY U rfl rfl c)) ?_;exact k))
  | ((with_reducible show bJ (cP.k,_) _ _);refine pL (yJ rfl rfl U rfl rfl rfl (dY U rfl rfl c) GG) ?_;exact k)
  | ((with_reducible show bJ (cP.g,_) _ _);refine ph ?_;(first| (refine eO (qZ U rfl rfl rfl (BV c)) ?_;intro a U;refine jU ?_;exact k a U)| (refine eO (tW U rfl rfl rfl (fun w=>(BV c))) ?_;intro a U;refine jU ?_;exact k a U)| (refine eO (BD U rfl rfl rfl (fun w O=>(BV c))) ?_;intro a U;refine jU ?_;exact k a U)| (refine eO (vA rfl rfl U rfl rfl rfl (fun w=>(BV c))) ?_;intro a U;refine jU ?_;exact k a U)| (refine eO (A8 rfl rfl U rfl rfl rfl (fun w O=>(BV c))) ?_;intro a U;refine jU ?_;exact k a U)))
  | ((with_reducible show bJ (cP.h,_) _ _);refine ph ?_;(first| (refine eO (qZ U rfl rfl rfl Cs) ?_;intro a U;refine jU ?_;exact k a U)| (refine eO (tW U rfl rfl rfl (fun w=>Cs)) ?_;intro a U;refine jU ?_;exact k a U)| (refine eO (BD U rfl rfl rfl (fun w O=>Cs)) ?_;intro a U;refine jU ?_;exact k a U)| (refine eO (vA rfl rfl U rfl rfl rfl (fun w=>Cs)) ?_;intro a U;refine jU ?_;exact k a U)| (refine eO (A8 rfl rfl U rfl rfl rfl (fun w O=>Cs)) ?_;intro a U;refine jU ?_;exact k a U)))
  | ((with_reducible show bJ (cP.o,_) _ _);refine Yb (abd O (by intro v a2 w2 hd h;first| ((repeat (with_unfolding_none (first|refine eL ?_ |refine js ?_)));exact gU (hd.trans U.defs) h)|exact False.elim h) rfl eE ?_);intro w O;first|with_reducible exact k w O|exact k a w O U)
  | ((with_reducible show bJ (cP.e,_) _ _);first| (refine pL (jg U rfl rfl rfl (zI c U rfl rfl) c (by rintro _ w ⟨l,c2,e,n2,d2,he,rfl,hS⟩;(repeat (with_unfolding_none (first|refine eL ?_ |refine js ?_)));exact gU U.defs ⟨l,c2,e,n2,d2,by first|exact gD J he|exact vU J he,rfl,by first|exact (St.k1 O hS).kp|exact (St.k2 O hS).kp|exact (St.k3 O hS).kp⟩)) ?_;exact k)| (refine pL (Vb U rfl rfl (zI c U rfl rfl) c (by rintro _ w ⟨l,c2,e,n2,d2,he,rfl,hS⟩;(repeat (with_unfolding_none (first|refine eL ?_ |refine js ?_)));exact gU U.defs ⟨l,c2,e,n2,d2,by first|exact gD J he|exact vU J he,rfl,by first|exact (St.k1 O hS).kp|exact (St.k2 O hS).kp|exact (St.k3 O hS).kp⟩)) ?_;exact k))
  | ((with_reducible show bJ (cP.m,_) _ _);refine pL (LR rfl rfl U rfl rfl rfl (zI c U rfl rfl) c GG (by rintro _ w ⟨l,c2,e,n2,d2,he,rfl,hS⟩;exact⟨l,c2,e,n2,d2,by first|exact gD J he|exact vU J he,rfl,by first|exact (St.k1 O hS).kp|exact (St.k2 O hS).kp|exact (St.k3 O hS).kp⟩)) ?_;exact k)
  | ((with_reducible show bJ (cP.a,_) _ _);refine ph ?_;first| (refine iw (yb U rfl rfl rfl (Rr c)) ?_;rintro a _ w ⟨h,rfl,O⟩ U;refine jU ?_;exact k h a w O U)| (refine iw (AX rfl rfl U rfl rfl rfl (Rr c)) ?_;rintro a _ w ⟨h,rfl,O⟩ U;refine jU ?_;exact k h a w O U))
  | ((with_reducible show bJ (cP.d,_) _ _);refine Yb (an4 O eE ?_);intro w O;first|with_reducible exact k w O|exact k a w O U)
  | ((with_reducible show bJ (cP.P,_) _ _);refine ph ?_;refine iw (yJ rfl rfl U rfl rfl rfl (dY U rfl rfl c) (by intro v w2 h;repeat (first|exact (St.shr (St.k0 O h) lex).kp|exact (St.shr (St.k1 O h) lex).kp|exact (St.shr (St.k2 O h) lex).kp| (obtain⟨x,h⟩:=h;try (have lex:aR.le _ _:=x))))) ?_;(intro a v w h U;repeat (first| ((first|with_reducible (first|refine eh (St.k0 O h) ?_ |refine eh (St.k1 O h) ?_ |refine eh (St.k2 O h) ?_ |refine eh (St.k3 O h) ?_)|refine eh (St.k0 O h) ?_ |refine eh (St.k1 O h) ?_ |refine eh (St.k2 O h) ?_ |refine eh (St.k3 O h) ?_);intro O;first|exact k a w O U|exact k a w O U.tl)| (obtain⟨x,h⟩:=h;first| (have e:v=_:=x;subst e)|specialize k x))))
  | ((with_reducible show bJ (cP.Q,_) _ _);refine ph ?_;refine iw (yJ rfl rfl U rfl rfl rfl (dY U rfl rfl c) (by intro v w2 h;repeat (first|exact (St.shr (St.k0 O h) d).kp|exact (St.shr (St.k1 O h) d).kp|exact (St.shr (St.k2 O h) d).kp|exact (St.shr (St.k0 O h) (d.trans lex)).kp|exact (St.shr (St.k1 O h) (d.trans lex)).kp|exact (St.shr (St.k2 O h) (d.trans lex)).kp| (obtain⟨x,h⟩:=h;try (have lex:aR.le _ _:=x))))) ?_;(intro a v w h U;repeat (first| ((first|with_reducible (first|refine eh (St.k0 O h) ?_ |refine eh (St.k1 O h) ?_ |refine eh (St.k2 O h) ?_ |refine eh (St.k3 O h) ?_)|refine eh (St.k0 O h) ?_ |refine eh (St.k1 O h) ?_ |refine eh (St.k2 O h) ?_ |refine eh (St.k3 O h) ?_);intro O;first|exact k a w O U|exact k a w O U.tl)| (obtain⟨x,h⟩:=h;first| (have e:v=_:=x;subst e)|specialize k x))))
  | ((with_reducible show bJ (cP.N,_) _ _);refine ph ?_;refine eO (qZ U rfl rfl rfl (kT rfl (U.af rfl) (eN _))) ?_;intro a U;refine jU ?_;exact k a U)
  | ((with_reducible show bJ (cP.A,_) _ _);refine ph ?_;refine eO (qZ U rfl rfl rfl (j3 rfl (U.af rfl) rfl (fun dV=>(U.af rfl)) (eN _))) ?_;intro a U;refine jU ?_;exact k a U)
  | ((with_reducible show bJ (cP.B,_) _ _);refine ph ?_;refine eO (qZ U rfl rfl rfl (j3 rfl (U.af rfl) rfl (fun dV=>((U.af rfl).trans (a6 dV))) (eN _))) ?_;intro a U;refine jU ?_;exact k a U)
  | ((with_reducible show bJ (cP.z,_) _ _);refine ph ?_;have O:=O.q [1,1];refine iw (yb U rfl rfl rfl (dY U rfl rfl (uJ _ _ (St.aI O) (O.mZ (l:=[_]) 0 rfl) (aO c)))) ?_;rintro a _ w ⟨v1,o1,e1,n1,hS⟩ U;have O:=(St.k2 O hS).d [2];refine jU ?_;first|exact k b v1 o1 e1 n1 a w O U|exact k b v1 o1 e1 n1 a w O U.tl)
  | ((with_reducible show bJ (cP.t,_) _ _);repeat (with_unfolding_none (first|refine ib dv ?_ |refine ib dI ?_));exact⟨k⟩)
  | ((with_reducible show bJ (cP.x,_) _ _);exact⟨k a U⟩)
  | ((with_reducible show bJ (cP.R,_) _ _);refine ph ?_;refine iw (kv U (zIm c)) ?_;rintro a _ w ⟨-,O⟩ U;have O:=O.nm;refine jU ?_;exact k c a w O U)):bJ x n G:=h c d k
def Zv (n:Nat){G K:Prop}(k:K)(h:K→bJ (cP.v,([]:List Nat)) n G:=by intro k;refine zz trivial trivial k):G:=(h k).go
def Zs (n:Nat){G K:Prop}(k:K)(h:K→bJ (cP.s,([]:List Nat)) n G:=by intro k;refine zz trivial trivial k):G:=(h k).go
def Zb (n:Nat){G K:Prop}(k:K)(h:K→bJ (cP.b,([]:List Nat)) n G:=by intro k;refine zz trivial trivial k):G:=(h k).go
def Xs (n:Nat)(is:List Nat){G K:Prop}(k:K)(h:K→bJ (cP.s,is) n G:=by intro k;refine zz trivial trivial k):G:=(h k).go
def Xb (n:Nat)(is:List Nat){G K:Prop}(k:K)(h:K→bJ (cP.b,is) n G:=by intro k;refine zz trivial trivial k):G:=(h k).go
def Zx {G K:Prop}(k:K)(h:K→bJ (cP.x,()) 300 G:=by intro k;refine zz trivial trivial k):G:=(h k).go
def Wn (n:Nat){G K:Prop}(k:K)(h:K→bJ (cP.N,()) n G:=by intro k;refine zz trivial trivial k):G:=(h k).go
def Wa (n:Nat){G K:Prop}(k:K)(h:K→bJ (cP.A,()) n G:=by intro k;refine zz trivial trivial k):G:=(h k).go
def Wb (n:Nat){G K:Prop}(k:K)(h:K→bJ (cP.B,()) n G:=by intro k;refine zz trivial trivial k):G:=(h k).go
def Zt {G K:Prop}(k:K)(h:K→bJ (cP.t,()) 0 G:=by intro k;refine zz trivial trivial k):G:=(h k).go
def Zr (n:Nat){G K:Prop}(k:K)(h:K→bJ (cP.r,()) n G:=by intro k;refine zz trivial trivial k):G:=(h k).go
def Zi (n:Nat){G C K:Prop}(c:C)(k:K)(h:C→K→bJ (cP.i,()) n G:=by intro c k;refine zz c trivial k):G:=(h c k).go
def Zj (n:Nat){G C K:Prop}(c:C)(k:K)(h:C→K→bJ (cP.j,()) n G:=by intro c k;refine zz c trivial k):G:=(h c k).go
def Zc (n:Nat){G C K:Prop}(c:C)(k:K)(h:C→K→bJ (cP.c,()) n G:=by intro c k;refine zz c trivial k):G:=(h c k).go
def Zk (n:Nat){G C K:Prop}(c:C)(k:K)(h:C→K→bJ (cP.k,()) n G:=by intro c k;refine zz c trivial k):G:=(h c k).go
def Yc (n:Nat){G C K:Prop}(c:C)(k:K)(h:C→K→bJ (cP.C,([]:List Nat)) n G:=by intro c k;refine zz c trivial k):G:=(h c k).go
def Xc (n:Nat)(is:List Nat){G C K:Prop}(c:C)(k:K)(h:C→K→bJ (cP.C,is) n G:=by intro c k;refine zz c trivial k):G:=(h c k).go
def Yk (n:Nat){G C K:Prop}(c:C)(k:K)(h:C→K→bJ (cP.K,([]:List Nat)) n G:=by intro c k;refine zz c trivial k):G:=(h c k).go
def Xk (n:Nat)(is:List Nat){G C K:Prop}(c:C)(k:K)(h:C→K→bJ (cP.K,is) n G:=by intro c k;refine zz c trivial k):G:=(h c k).go
def Zd (n:Nat)(ks:List Nat){G K:Prop}(k:K)(h:K→bJ (cP.d,ks) n G:=by intro k;refine zz trivial trivial k):G:=(h k).go
def Zg (n:Nat){G C K:Prop}(c:C)(k:K)(h:C→K→bJ (cP.g,()) n G:=by intro c k;refine zz c trivial k):G:=(h c k).go
def Zh (n:Nat){G C D K:Prop}(c:C)(d:D)(k:K)(h:C→D→K→bJ (cP.h,()) n G:=by intro c d k;refine zz c d k):G:=(h c d k).go
def zy {α:Type}{x:α}{n:Nat}{G K:Prop}(k:K)(h:K→bJ x n G:=by
  intro k
  repeat (first
  | ((with_reducible show bJ _ (_+1) (wpList _ _ _ (_::_) _ _));first| (refine eO (qZ U rfl rfl rfl (vD U rfl)) ?_;intro a U)| (refine eO (qZ U rfl rfl rfl nS) ?_;intro a U)| (refine iw (yb U rfl rfl rfl wm) ?_;rintro a _ w ⟨b,rfl,O⟩ U)| (refine iw (Ox U rfl rfl AP) ?_;rintro a _ w ⟨-,O⟩ U)| (refine eO (fJ U rfl rfl rfl rfl wN rfl rfl) ?_;intro a U)|refine FN (ct U rfl rfl rfl rfl wN) ?_)
  |with_unfolding_none (first|refine ri k9 ?_ |refine ri My ?_ |refine ri MQ ?_)
  |with_reducible (first|refine ri wp_seq ?_ |refine ri wp_region_lit ?_ |refine ri wp_block ?_ |refine ri wp_skip ?_ |refine ri wp_exit ?_ |refine ri wp_ret ?_)
  | ((with_reducible show bJ _ (_+1) (dK _ _ _ _ (_::_) _ _ _));first| (refine eO (tW U rfl rfl rfl (fun w=>(vD U rfl))) ?_;intro a U)| (refine eO (tW U rfl rfl rfl (fun w=>nS)) ?_;intro a U)| (refine eO (BD U rfl rfl rfl (fun w O=>nS)) ?_;intro a U)| (refine eO (Bb U rfl rfl rfl rfl wN rfl rfl) ?_;intro a U)|refine FN (AA U rfl rfl rfl rfl wN) ?_ | (refine iw (Dh U rfl rfl rfl wm) ?_;rintro a _ w ⟨b,rfl,O⟩ U)| (refine iw (S0 U rfl rfl AP) ?_;rintro a _ w ⟨-,O⟩ U))
  | ((with_reducible show bJ _ (_+1) (eH _ _ _ _ _ _ (_::_) _ _));first| (refine eO (vA rfl rfl U rfl rfl rfl (fun w=>(vD U rfl))) ?_;intro a U)| (refine eO (vA rfl rfl U rfl rfl rfl (fun w=>nS)) ?_;intro a U)| (refine eO (A8 rfl rfl U rfl rfl rfl (fun w O=>nS)) ?_;intro a U)| (refine iw (AX rfl rfl U rfl rfl rfl wm) ?_;rintro a _ w ⟨b,rfl,O⟩ U)| (refine iw (yJ rfl rfl U rfl rfl rfl wm QX) ?_;rintro a _ w ⟨b,rfl,O⟩ U)| (refine iw (Ms rfl rfl U rfl rfl AP) ?_;rintro a _ w ⟨-,O⟩ U))
  |refine ri Fo ?_
  |refine ri (MA rfl) ?_
  |with_unfolding_none refine ri Dt ?_)
  first
  | ((with_reducible show bJ (cP.n,_) _ _);refine jU ?_;exact k a U)
  | ((with_reducible show bJ (cP.u,_) _ _);refine jU ?_;exact k b a w O U)
  | ((with_reducible show bJ (cP.y,_) _ _);refine jU ?_;exact k a w O U)):bJ x n G:=h k
def Zn (n:Nat){G K:Prop}(k:K)(h:K→bJ (cP.n,()) n G:=by intro k;refine zy k):G:=(h k).go
def Zu (n:Nat){G K:Prop}(k:K)(h:K→bJ (cP.u,()) n G:=by intro k;refine zy k):G:=(h k).go
def Zy (n:Nat){G K:Prop}(k:K)(h:K→bJ (cP.y,()) n G:=by intro k;refine zy k):G:=(h k).go
def Zw (n:Nat){G K:Prop}(k:K)(h:K→bJ () n G:=by
  intro k
  repeat (first
  | ((with_reducible show bJ _ (_+1) (wpList _ _ _ (_::_) _ _));first| (refine eO (qZ U rfl rfl rfl (vD U rfl)) ?_;intro a U)| (refine eO (qZ U rfl rfl rfl nS) ?_;intro a U)| (refine eO (cG U rfl rfl rfl rfl rfl rfl fun hg=>N7) ?_;intro a U))
  |with_unfolding_none (first|refine ib k9 ?_ |refine ib My ?_ |refine ib MQ ?_)
  |with_reducible (first|refine ib wp_seq ?_ |refine ib wp_region_lit ?_ |refine ib wp_block ?_ |refine ib wp_skip ?_ |refine ib wp_exit ?_ |refine ib wp_ret ?_)
  | ((with_reducible show bJ _ (_+1) (dK _ _ _ _ (_::_) _ _ _));first| (refine eO (tW U rfl rfl rfl (fun w=>(vD U rfl))) ?_;intro a U)| (refine eO (tW U rfl rfl rfl (fun w=>nS)) ?_;intro a U)| (refine eO (BD U rfl rfl rfl (fun w O=>nS)) ?_;intro a U)| (refine eO (zq U rfl rfl rfl rfl rfl rfl fun hg w=>N7) ?_;intro a U)| (refine eO (Cb U rfl rfl rfl rfl rfl rfl fun hg w O=>N7) ?_;intro a U))
  | ((with_reducible show bJ _ (_+1) (eH _ _ _ _ _ _ (_::_) _ _));first| (refine eO (vA rfl rfl U rfl rfl rfl (fun w=>(vD U rfl))) ?_;intro a U)| (refine eO (vA rfl rfl U rfl rfl rfl (fun w=>nS)) ?_;intro a U)| (refine eO (A8 rfl rfl U rfl rfl rfl (fun w O=>nS)) ?_;intro a U))
  |refine ib Fo ?_
  |refine ib (MA rfl) ?_
  |with_unfolding_none refine ib Dt ?_)
  refine jU ?_
  exact k a U):G:=(h k).go
def pe (v:Value):List PanicEntry:=[{v,recovered:=false}]
def fZ (P:Program)(f:Nat)(args:Array Value)(w:World)(R E:Value→World→Prop):Prop:=
 Calls P f args w fun e w'=>(∃v,e=.returned v∧R v w')∨(∃v,e=.panicked (pe v)∧E v w')
def Jb (P:Program)(fn:Func)(R E:Value→World→Prop):Exit→Act→World→Prop
 | .panic ch,a,w=>a.defers=[]∧∃v,ch=pe v∧E v w
 |e,a,w=>rZ P fn R e a w
section
variable {P:Program} {f:Nat} {fn:Func} {args:Array Value} {w:World} {R E R' E':Value→World→Prop}
def fZ.mono (h:fZ P f args w R E)(hr:∀v w',R v w'→R' v w')(he:∀v w',E v w'→E' v w'):fZ P f args w R' E':=
 Calls.mono h fun _ _ h=>h.imp (fun⟨v,e,hv⟩=>⟨v,e,hr _ _ hv⟩) fun⟨v,e,hv⟩=>⟨v,e,he _ _ hv⟩
def apq {c:Code}(hf:P.funcs[f]?=some fn)(hb:fn.body=some c){m:Nat}(hm:fn.ntmps=m)(L:List (Nat×Value))(hle:Nat.ble args.size m=true)(hL:tq ((List.range args.size).zip args.toList) L)
  (h:∀a,Fr a m L→c.wp P (Jb P fn R E) a w):fZ P f args w R E:=by
 refine calls_of_wp hf hb ?_;have:=Fr.init args (fn.ntmps - args.size) L hL;rw[show args.size+(fn.ntmps - args.size)=m by rw[hm];have:=cX hle;omega] at this;refine wp_mono (h _ this) fun e a w' he=>?_
 cases e with
 |normal=>obtain⟨h1,v,h2,v',h3,h4⟩:=he;exact⟨h1,v,h2,.inl ⟨v',h3,h4⟩⟩
 |ret=>obtain⟨h1,v,h2,v',h3,h4⟩:=he;exact⟨h1,v,h2,.inl ⟨v',h3,h4⟩⟩
 |panic ch=>obtain⟨h1,v,rfl,h2⟩:=he;exact⟨h1,.inr ⟨v,rfl,h2⟩⟩
 |exit id=>exact he
 |goto l=>exact he
 |outgrown=>obtain⟨v,h,_⟩:=he;cases h
end
section
variable {P:Program} {ops:Array Oper} {Q:Exit→Act→World→Prop} {a:Act} {w:World} {rest:List Oper} {o:Oper} {n d:Nat} {L:List (Nat×Value)} {R E:Value→World→Prop}
def JM {f:Nat}{vs:Array Value}{K:Act→World→Prop}(h:(execOp a.eval o).run P w=.ok (.enter f vs) w)(hc:fZ P f vs w R E)(pan:∀v w',E v w'→Q (.panic (pe v)) a w')(next:∀v w',R v w'→K (a.put o.dst v) w'):o.wp P a w K Q:=by
 unfold Oper.wp;rw[h];show Calls P f vs w _;refine Calls.mono hc fun e w' he=>?_;rcases he with ⟨v,rfl,hv⟩| ⟨v,rfl,hv⟩
 ·exact next v w' hv
 ·exact pan v w' hv
def aee {f:Nat}{args:Array Operand}{vs:Array Value}{ts:Array TypeId}(ho:o.op=.call {callee:=.value (.func f),args:=args,argTypes:=ts})(hv:args.map a.eval=vs)
  (hf:∀args w,(callFunc f args).run P w=.ok (.enter f args) w):(execOp a.eval o).run P w=.ok (.enter f vs) w:=by
 simp [execOp,ho,resolve,invoke,Act.eval,Deferred.ofValue,hv,hf]
def ahG {f:Nat}{g:Operand}{fs cs:Array Value}{args:Array Operand}{vs:Array Value}{ts:Array TypeId}(ho:o.op=.call {callee:=.value g,args:=args,argTypes:=ts})(hg:a.eval g=.func (.func f) fs cs)(hv:fs++args.map a.eval++cs=vs)
  (hf:∀args w,(callFunc f args).run P w=.ok (.enter f args) w):(execOp a.eval o).run P w=.ok (.enter f vs) w:=by
 simp [execOp,ho,resolve,invoke,hg,Deferred.ofValue,hv,hf]
def jg {f:Nat}{vs:Array Value}(U:Fr a n L)(hg:o.guard=none)(hd:o.dst=some d)(hn:Nat.ble (d+1) n=true)(h:(execOp a.eval o).run P w=.ok (.enter f vs) w)(hc:fZ P f vs w R E)
  (pan:∀v w',E v w'→Q (.panic (pe v)) a w') (next:∀a v w',R v w'→Fr a n ((d,v)::L)→wpList P ops Q rest a w'):wpList P ops Q (o::rest) a w:=by
 unfold wpList;rw[if_pos (by simp [Region.wanted,hg])];exact .inl (JM h hc pan fun v w' hv=>by rw[hd];exact next _ v w' hv (U.put (cX hn) v))
def Vb {f:Nat}{vs:Array Value}(U:Fr a n L)(hg:o.guard=none)(hd:o.dst=none)(h:(execOp a.eval o).run P w=.ok (.enter f vs) w)(hc:fZ P f vs w R E)
  (pan:∀v w',E v w'→Q (.panic (pe v)) a w') (next:∀a v w',R v w'→Fr a n L→wpList P ops Q rest a w'):wpList P ops Q (o::rest) a w:=by
 unfold wpList;rw[if_pos (by simp [Region.wanted,hg])];exact .inl (JM h hc pan fun v w' hv=>by rw[hd];exact next _ v w' hv (U.Gn v))
def HY {x:Operand}{v:Value}(hg:o.guard=none)(ho:o.op=.panic x)(hr:(execOp a.eval o).run P w=.halt (.panic v) w)(pan:Q (.panic (pe v)) a w):wpList P ops Q (o::rest) a w:=by
 unfold wpList;rw[if_pos (by simp [Region.wanted,hg])];refine .inl ?_;unfold Oper.wp;rw[hr];exact pan
end
def vR (P:Program)(o:Oper)(a:Act)(w:World)(R E:Value→World→Prop):Prop:=∃f vs,(execOp a.eval o).run P w=.ok (.enter f vs) w∧fZ P f vs w R E
def vR.mono {P:Program}{o:Oper}{a:Act}{w:World}{R R' E:Value→World→Prop}(h:vR P o a w R E)(hr:∀v w',R v w'→R' v w'):vR P o a w R' E:=by
 obtain⟨f,vs,h1,h2⟩:=h;exact⟨f,vs,h1,h2.mono hr fun _ _ h=>h⟩
def vR.congr {P:Program}{o:Oper}{a a':Act}{w:World}{R E:Value→World→Prop}(h:vR P o a w R E)(he:execOp a'.eval o=execOp a.eval o):vR P o a' w R E:=by
 obtain⟨f,vs,h1,h2⟩:=h;exact⟨f,vs,by rw[he];exact h1,h2⟩
def sY (k1 k2:Nat):Bool:=k1 != 9&&(k1 ==0||k2 ==0||(k1 ==1&&(decide (k2≤2)||k2 ==9))||(k1 ==2&&k2 ==1))
section
variable (P:Program) (ops:Array Oper) (ks:List Nat) (S:World→Prop) (E:Value→World→Prop) (K:Act→World→Prop)
def p_ (o:Oper)(k:Nat)(next:Act→World→Prop)(a:Act)(w:World):Prop:=
 if Region.wanted o (yielded ops a.tmps) then
  if k≤1 then ∃v,(∀w',cls S k w'→QV P o a w' v)∧next (a.put o.dst v) w
  else if k=9 then vR P o a w (fun u w2=>S w2∧next (a.put o.dst u) w2) E
  else bG P o a w (fun u w2=>Im S k w2∧next (a.put o.dst u) w2)
 else next (a.put o.dst undef) w
def eH:List Nat→Act→World→Prop
 | [],a,w=>K a w
 |i::rest,a,w=>match ops[i]? with
  |none=>eH rest a w
  |some o=>p_ P ops S E o (ks.getD i 0) (eH rest) a w
end
section
variable {P:Program} {ops:Array Oper} {ks:List Nat} {S:World→Prop} {E:Value→World→Prop} {K:Act→World→Prop}
def afF {p i:Oper}{kp ki:Nat}{next:Act→World→Prop}{a:Act}{w:World}(hap:i.apart ops p=true)(hsi:kB i=true)(hsp:kB p=true)
  (hok:sY kp ki=true) (hS:S w∨(kp≠1∧kp≠2∧kp≠9∧ki≠1∧ki≠2∧ki≠9))
  (h:p_ P ops S E p kp (p_ P ops S E i ki next) a w):p_ P ops S E i ki (p_ P ops S E p kp next) a w:=by
 obtain⟨h1,h2,h3⟩:=Oper.apart_spec hap;have hi:=Hb hsi;have hp:=Hb hsp;have e1:∀v,execOp (a.put p.dst v).eval i=execOp a.eval i:=fun v=>execOp_put i hi a p.dst v h3;have e2:∀v,execOp (a.put i.dst v).eval p=execOp a.eval p:=fun v=>execOp_put p hp a i.dst v h1;have g1:∀v,Region.wanted i (yielded ops (a.put p.dst v).tmps)=Region.wanted i (yielded ops a.tmps):=fun v=>wanted_put i a p.dst v h3;have g2:∀v,Region.wanted p (yielded ops (a.put i.dst v).tmps)=Region.wanted p (yielded ops a.tmps):=fun v=>wanted_put p a i.dst v h1;have comm:∀u v,(a.put p.dst u).put i.dst v=(a.put i.dst v).put p.dst u:=fun u v=>(Act.put_comm a v u h2).symm;have vy:kp≠9:=by
  simp only[sY,aQ,bne_iff_ne] at hok;exact hok.1
 unfold p_ at h ⊢
 by_cases hwp:Region.wanted p (yielded ops a.tmps)=true
 ·rw[if_pos hwp] at h
  by_cases hwi:Region.wanted i (yielded ops a.tmps)=true
  ·rw[if_pos hwi]
   by_cases hkp:kp≤1
   ·rw[if_pos hkp] at h;obtain⟨vp,hvp,h⟩:=h;rw[g1,if_pos hwi] at h
    by_cases hki:ki≤1
    ·rw[if_pos hki] at h ⊢;obtain⟨vi,hvi,h⟩:=h;refine⟨vi,fun w' hw'=>(hvi w' hw').congr (e1 vp).symm,?_⟩;rw[g2,if_pos hwp,if_pos hkp];exact⟨vp,fun w' hw'=>(hvp w' hw').congr (e2 vi),by rw[←comm];exact h⟩
    ·rw[if_neg hki] at h ⊢
     by_cases C0:ki=9
     ·rw[if_pos C0] at h ⊢;refine (h.congr (a':=a) (e1 vp).symm).mono fun u w2 hu=>⟨hu.1,?_⟩;rw[g2,if_pos hwp,if_pos hkp];exact⟨vp,fun w' hw'=>(hvp w' hw').congr (e2 u),by rw[←comm];exact hu.2⟩
     ·rw[if_neg C0] at h ⊢;refine (h.congr (a':=a) (e1 vp).symm).mono fun u w2 hu=>⟨hu.1,?_⟩;rw[g2,if_pos hwp,if_pos hkp];exact⟨vp,fun w' hw'=>(hvp w' hw').congr (e2 u),by rw[←comm];exact hu.2⟩
   ·rw[if_neg hkp,if_neg vy] at h;have hki:ki≤1:=by
     simp only[sY,fW,aQ,beq_iff_eq,bne_iff_ne,cx] at hok;omega
    rw[if_pos hki];have hw:∃w',cls S ki w':=by
     rcases hS with hS|hS
     ·exact⟨w,.inr hS⟩
     ·exact⟨w,.inl V⟩
    obtain⟨u0,Z,xq⟩:=h.some_;obtain⟨_,h0⟩:=xq;rw[g1,if_pos hwi,if_pos hki] at h0;obtain⟨v0,ER,_⟩:=h0;refine⟨v0,fun w' hw'=>(ER w' hw').congr (e1 u0).symm,?_⟩;rw[g2,if_pos hwp,if_neg hkp,if_neg vy];refine (h.congr (a':=a.put i.dst v0) (e2 v0)).mono fun u w2 hu=>⟨hu.1,?_⟩;have Fe:=hu.2;rw[g1,if_pos hwi,if_pos hki] at Fe;obtain⟨v,hv,hn⟩:=Fe;obtain⟨w',hw'⟩:=hw;have a1:=(hv w' hw').congr (e1 u).symm;have a2:=(ER w' hw').congr (e1 u0).symm;have:v=v0:=by
     unfold QV at a1 a2;rw[a1] at a2;injection a2 with a2;injection a2
    subst this;rw[←comm];exact hn
  ·rw[if_neg hwi];rw[g2,if_pos hwp]
   by_cases hkp:kp≤1
   ·rw[if_pos hkp] at h ⊢;obtain⟨vp,hvp,h⟩:=h;rw[g1,if_neg hwi] at h;exact⟨vp,fun w' hw'=>(hvp w' hw').congr (e2 _),by rw[←comm];exact h⟩
   ·rw[if_neg hkp,if_neg vy] at h ⊢;refine (h.congr (a':=a.put i.dst undef) (e2 _)).mono fun u w2 hu=>⟨hu.1,?_⟩;have:=hu.2;rw[g1,if_neg hwi] at this;rw[←comm];exact this
 ·rw[if_neg hwp] at h;rw[g1] at h
  by_cases hwi:Region.wanted i (yielded ops a.tmps)=true
  ·rw[if_pos hwi] at h ⊢
   by_cases hki:ki≤1
   ·rw[if_pos hki] at h ⊢;obtain⟨vi,hvi,h⟩:=h;refine⟨vi,fun w' hw'=>(hvi w' hw').congr (e1 _).symm,?_⟩;rw[g2,if_neg hwp,←comm];exact h
   ·rw[if_neg hki] at h ⊢
    by_cases C0:ki=9
    ·rw[if_pos C0] at h ⊢;refine (h.congr (a':=a) (e1 _).symm).mono fun u w2 hu=>⟨hu.1,?_⟩;rw[g2,if_neg hwp,←comm];exact hu.2
    ·rw[if_neg C0] at h ⊢;refine (h.congr (a':=a) (e1 _).symm).mono fun u w2 hu=>⟨hu.1,?_⟩;rw[g2,if_neg hwp,←comm];exact hu.2
  ·rw[if_neg hwi] at h ⊢;rw[g2,if_neg hwp,←comm];exact h
def Bi (ops:Array Oper)(ks:List Nat)(p i:Nat):Bool:=
 (reach ops ops.size p i||(match ops[p]?,ops[i]? with
   |some op,some oi=>oi.apart ops op&&sY (ks.getD p 0) (ks.getD i 0)
   |_,_=>false))&&(ks.getD p 0 != 3||ks.getD i 0 ==0||ks.getD i 0 ==3)
def wB (ops:Array Oper)(ks:List Nat):List Nat→List Nat→Bool
 |_,[]=>true
 |seen,i::l=>(match ops[i]? with
     |some o=>kB o&&(o.after.all fun e=>!Region.binds .any e||seen.contains e.on)&&(decide (ks.getD i 0≤3)||ks.getD i 0 ==9)
     |none=>false)&&(l.all fun q=>Bi ops ks i q)&&wB ops ks (seen++[i]) l
def BG (ops:Array Oper)(ks:List Nat)(ord:List Nat):Bool:=wB ops ks [] ord&&decide ord.Nodup&&((List.range ops.size).all fun i=>ord.contains i)&&decide (ord.length≤ops.size)
def GI {i:Nat}{B:List Nat}:∀(A seen:List Nat),wB ops ks seen (A++i::B)=true→
  ∃o,ops[i]?=some o∧kB o=true∧(∀e∈o.after,Region.binds .any e=true→e.on∈seen++A)∧(ks.getD i 0≤3∨ks.getD i 0=9)
 | [],seen,h=>by
  simp only[cD,wB,aQ] at h
  cases ho:ops[i]? with
  |none=>rw[ho] at h;exact absurd h.1.1 aw
  |some o=>
   rw[ho] at h;obtain⟨⟨h1,_⟩,_⟩:=h;simp only[aQ,fW,cx,beq_iff_eq] at h1;refine⟨o,rfl,h1.1.1,fun e he hb=>?_,h1.2⟩;have h2:=Array.all_eq_true'.1 h1.1.2 e he;simp only[hb,Bool.not_true,pj] at h2;rw[cB];exact List.contains_iff_mem.1 h2
 |x::A,seen,h=>by
  simp only[ck,wB,aQ] at h;obtain⟨o,h1,h2,h3,h4⟩:=GI A (seen++[x]) h.2;exact⟨o,h1,h2,fun e he hb=>by have:=h3 e he hb;simpa using this,h4⟩
def YB:∀(l seen:List Nat),wB ops ks seen l=true→l.Pairwise fun p q=>Bi ops ks p q=true
 | [],_,_=>List.Pairwise.nil
 |i::l,seen,h=>by
  simp only[wB,aQ] at h;exact List.pairwise_cons.2 ⟨fun q hq=>List.all_eq_true.1 h.1.2 q hq,YB l _ h.2⟩
def km (ord:List Nat)(listed:Array Bool):List Nat:=ord.filter fun i=>!listed.getD i true
def BJ {ord:List Nat}{listed:Array Bool}{i:Nat}:i∈km ord listed↔i∈ord∧listed.getD i true=false:=by simp [km,List.mem_filter]
def agj {i:Nat}{oi:Oper}(hoi:ops[i]?=some oi)(hsi:kB oi=true):
  ∀(pre post:List Nat) (a:Act) (w:World),
   (∀p∈pre,∃op,ops[p]?=some op∧kB op=true∧oi.apart ops op=true∧sY (ks.getD p 0) (ks.getD i 0)=true∧(ks.getD p 0≤3∨ks.getD p 0=9))→
   pre.Pairwise (fun p q=>ks.getD p 0=3→ks.getD q 0=0∨ks.getD q 0=3)→
   (S w∨∀p∈i::pre,ks.getD p 0≠1∧ks.getD p 0≠2∧ks.getD p 0≠9)→
   eH P ops ks S E K (pre++i::post) a w→p_ P ops S E oi (ks.getD i 0) (eH P ops ks S E K (pre++post)) a w:=by
 intro pre
 induction pre with
 |nil=>intro post a w _ _ _ h;simpa [eH,hoi] using h
 |cons p pre ih=>
  intro post a w hpre h3 hS h;obtain⟨op,hop,hsp,hap,hok,wu⟩:=hpre p aw;obtain⟨h3p,h3'⟩:=List.pairwise_cons.1 h3;have vy:ks.getD p 0≠9:=by
   simp only[sY,aQ,bne_iff_ne] at hok;exact hok.1
  have e:eH P ops ks S E K (p::pre++post)=p_ P ops S E op (ks.getD p 0) (eH P ops ks S E K (pre++post)):=by
   funext a w
   simp [eH,hop]
  rw[e];have h':p_ P ops S E op (ks.getD p 0) (eH P ops ks S E K (pre++i::post)) a w:=by simpa [eH,hop] using h
  refine afF hap hsi hsp hok (hS.imp id fun hS=>?_) ?_
  ·have h1:=hS p aw;have h2:=hS i aw;exact⟨h1.1,h1.2.1,h1.2.2,h2.1,h2.2.1,h2.2.2⟩
  ·unfold p_ at h' ⊢;have hpre':∀q∈pre,∃op,ops[q]?=some op∧kB op=true∧oi.apart ops op=true∧sY (ks.getD q 0) (ks.getD i 0)=true∧(ks.getD q 0≤3∨ks.getD q 0=9):=fun q hq=>hpre q (by simp [hq]);have hS':∀w,(S w∨∀q∈i::p::pre,ks.getD q 0≠1∧ks.getD q 0≠2∧ks.getD q 0≠9)→(S w∨∀q∈i::pre,ks.getD q 0≠1∧ks.getD q 0≠2∧ks.getD q 0≠9):=fun w hw=>hw.imp id fun h q hq=>h q (by rcases List.mem_cons.1 hq with rfl|hq<;>simp [*])
   by_cases hwp:Region.wanted op (yielded ops a.tmps)=true
   ·rw[if_pos hwp] at h' ⊢
    by_cases hkp:ks.getD p 0≤1
    ·rw[if_pos hkp] at h' ⊢;obtain⟨v,hv,h'⟩:=h';exact⟨v,hv,ih post _ w hpre' h3' (hS' w hS) h'⟩
    ·rw[if_neg hkp,if_neg vy] at h' ⊢;refine h'.mono fun u w2 hu=>⟨hu.1,ih post _ w2 hpre' h3' ?_ hu.2⟩
     by_cases fL:ks.getD p 0=2
     ·exact .inl (hu.1 fL)
     ·right;intro q hq;simp only[sY,fW,aQ,beq_iff_eq,bne_iff_ne,cx] at hok;have aY:ks.getD i 0=0:=V
      rcases List.mem_cons.1 hq with rfl|hq
      ·omega
      ·have:=h3p q hq V;omega
   ·rw[if_neg hwp] at h' ⊢;exact ih post _ w hpre' h3' (hS' w hS) h'
def ake {i:Nat}{o:Oper}(ho:ops[i]?=some o){k:Nat}{next N:Act→World→Prop}{Q:Exit→Act→World→Prop}{a:Act}{w:World}(hE:∀v a' w',a'.defers=a.defers→E v w'→Q (.panic (pe v)) a' w')(hS:S w∨(k≠1∧k≠2∧k≠9))
  (hN:∀a' w',a'.defers=a.defers→(S w'∨(¬S w∧w'=w)∨(k≠0∧k≠1∧k≠2∧k≠9))→next a' w'→N a' w') (h:p_ P ops S E o k next a w):wpOp P ops Q i N a w:=by
 have hself:S w∨(¬S w∧w=w)∨(k≠0∧k≠1∧k≠2∧k≠9):=by
  by_cases hs:S w
  ·exact .inl hs
  ·exact .inr (.inl ⟨hs,rfl⟩)
 have hd:∀v,(a.put o.dst v).defers=a.defers:=fun v=>by cases hh:o.dst<;>rfl
 unfold p_ at h;unfold wpOp;simp only[ho]
 by_cases hw:Region.wanted o (yielded ops a.tmps)=true
 ·rw[if_pos hw] at h ⊢
  by_cases hk:k≤1
  ·rw[if_pos hk] at h;obtain⟨v,hv,hn⟩:=h;refine .inl (bG.wp ?_);have hc:cls S k w:=by
    rcases hS with hS|hS
    ·exact .inr hS
    ·exact .inl V
   exact bG.value (hv w hc) (hN _ _ (hd v) hself hn)
  ·rw[if_neg hk] at h
   by_cases vy:k=9
   ·rw[if_pos vy] at h;obtain⟨f,vs,h1,h2⟩:=h;exact .inl (JM h1 h2 (fun v w' hv=>hE v a w' rfl hv) fun v w' hv=>hN _ _ (hd v) (.inl hv.1) hv.2)
   ·rw[if_neg vy] at h;refine .inl (bG.wp (h.mono fun u w2 hu=>hN _ _ (hd u) ?_ hu.2))
    by_cases fL:k=2
    ·exact .inl (hu.1 fL)
    ·exact .inr (.inr ⟨V,V,fL,vy⟩)
 ·rw[if_neg hw] at h ⊢;exact hN _ _ (hd _) hself h
def anV {ord:List Nat}(hnd:ord.Nodup){listed:Array Bool}{i:Nat}{pre post:List Nat}(hl:listed.size=ops.size)(hlt:i<ops.size)(h:km ord listed=pre++i::post):km ord (listed.setIfInBounds i true)=pre++post:=by
 have hs:(km ord listed).Nodup:=hnd.filter _;rw[h] at hs;have e:km ord (listed.setIfInBounds i true)=(km ord listed).filter (fun j=>j != i):=by
  unfold km;rw[List.filter_filter];refine List.filter_congr fun j hj=>?_
  by_cases hij:i=j
  ·subst hij;simp [hl,hlt]
  ·have:(listed.setIfInBounds i true).getD j true=listed.getD j true:=getD_set_ne true hij;rw[this];have:(j != i)=true:=by simp;exact fun h=>hij h.symm
   simp [this]
 rw[e,h];obtain⟨_,h2,h3⟩:=List.nodup_append.1 hs;rw[List.filter_append,List.filter_cons];simp only[bne_self_eq_false,Bool.false_eq_true,if_false];rw[List.filter_eq_self.2,List.filter_eq_self.2]
 ·intro j hj;simp only[bne_iff_ne];exact fun e=>(List.nodup_cons.1 h2).1 (e▸hj)
 ·intro j hj;simp only[bne_iff_ne];exact fun e=>h3 j hj i aw e
def Xu {p:Nat→Bool}{i:Nat}{r:List Nat}:∀{l:List Nat},l.filter p=i::r→∃A B,l=A++i::B∧∀x∈A,p x=false
 | [],h=>by cases h
 |x::l,h=>by
  rw[List.filter_cons] at h
  by_cases hx:p x=true
  ·rw[if_pos hx] at h;injection h with h1 h2;subst h1;exact⟨[],l,rfl,aw⟩
  ·rw[if_neg hx] at h;obtain⟨A,B,e,hA⟩:=Xu h;refine⟨x::A,B,by rw[e];rfl,fun y hy=>?_⟩;rcases List.mem_cons.1 hy with rfl|hy
   ·exact Bool.eq_false_iff.2 hx
   ·exact hA y hy
def aeA {ord:List Nat}{Q:Exit→Act→World→Prop}(hgood:wB ops ks [] ord=true)(hnd:ord.Nodup)(hall:∀i,i<ops.size→i∈ord)(ds:List Deferred)(hE:∀v a' w',a'.defers=ds→E v w'→Q (.panic (pe v)) a' w')(J:∀a w,K a w→Q .normal a w):
  ∀(fuel:Nat) (listed:Array Bool) (a:Act) (w:World),a.defers=ds→(km ord listed).length≤fuel→listed.size=ops.size→Fm ops listed→
   (S w∨∀p∈km ord listed,ks.getD p 0=0∨ks.getD p 0=3)→eH P ops ks S E K (km ord listed) a w→wpAny P .any ops Q fuel listed a w:=by
 have look:∀i∈ord,∃o,ops[i]?=some o∧kB o=true∧(ks.getD i 0≤3∨ks.getD i 0=9):=fun i hi=>by
  obtain⟨A,B,rfl⟩:=List.append_of_mem hi;obtain⟨o,h1,h2,_,h4⟩:=GI A [] hgood;exact⟨o,h1,h2,h4⟩
 have none_left:∀(listed:Array Bool),listed.size=ops.size→Region.ready .any ops listed=[]→km ord listed=[]:=by
  intro listed hl hr
  cases hrem:km ord listed with
  |nil=>rfl
  |cons i r=>
   exfalso;obtain⟨A,B,hAB,hA⟩:=Xu (show ord.filter (fun i=>!listed.getD i true)=i::r from hrem);have hi:i∈km ord listed:=by rw[hrem];simp
   obtain⟨hin,hun⟩:=BJ.1 hi;obtain⟨o,ho,_,hed,_⟩:=GI A [] (by rw[←hAB];exact hgood);have hrd:i∈Region.ready .any ops listed:=by
    refine mem_ready.2 ⟨hun,o,ho,fun e he hb=>?_⟩;have h1:e.on∈A:=by simpa using hed e he hb
    have h2:=hA _ h1;have h3:e.on∈ord:=by rw[hAB];simp [h1]
    obtain⟨o',ho',_⟩:=look _ h3;have hlt:e.on<listed.size:=by rw[hl];exact (Array.getElem?_eq_some_iff.1 ho').1
    simp only[Bool.not_eq_false'] at h2
    simpa [hlt] using h2
   rw[hr] at hrd;cases hrd
 intro fuel
 induction fuel with
 |zero=>
  intro listed a w hd hf hl hc hS h;have hrem:km ord listed=[]:=kj V;refine⟨?_,J _ _ (by rw[hrem] at h;exact h)⟩
  cases hr:Region.ready .any ops listed with
  |nil=>rfl
  |cons i r=>
   have hi:i∈Region.ready .any ops listed:=by rw[hr];simp
   obtain⟨hun,o,ho,_⟩:=mem_ready.1 hi;have:i∈km ord listed:=BJ.2 ⟨hall i (Array.getElem?_eq_some_iff.1 ho).1,hun⟩;rw[hrem] at this;cases this
 |succ fuel ih=>
  intro listed a w hd hf hl hc hS h;refine⟨fun hr=>J _ _ (by rw[none_left listed hl hr] at h;exact h),fun i hi=>?_⟩;obtain⟨hun,oi,hoi,hrdy⟩:=mem_ready.1 hi;have hlt:i<ops.size:=(Array.getElem?_eq_some_iff.1 hoi).1;have him:i∈km ord listed:=BJ.2 ⟨hall i hlt,hun⟩;obtain⟨pre,post,hsplit⟩:=List.append_of_mem him;have hpw:(km ord listed).Pairwise fun p q=>Bi ops ks p q=true:=(YB ord [] hgood).sublist (List.filter_sublist);rw[hsplit,List.pairwise_append] at hpw;obtain⟨Jm,ke,u9⟩:=hpw;have hpre:∀p∈pre,∃op,ops[p]?=some op∧kB op=true∧oi.apart ops op=true∧sY (ks.getD p 0) (ks.getD i 0)=true∧(ks.getD p 0≤3∨ks.getD p 0=9):=by
   intro p hp;have hpm:p∈km ord listed:=by rw[hsplit];simp [hp]
   obtain⟨hpo,hpu⟩:=BJ.1 hpm;obtain⟨op,hop,hsp,hk⟩:=look p hpo;have hpair:=u9 p hp i aw;simp only[Bi,aQ,fW] at hpair;rcases hpair.1 with hre|hpair
   ·have:=YW hc hi hre;have hps:p<listed.size:=by rw[hl];exact (Array.getElem?_eq_some_iff.1 hop).1
    simp [hps] at this hpu;rw[this] at hpu;cases hpu
   ·simp only[hop,hoi,aQ] at hpair;exact⟨op,hop,hsp,hpair.1,hpair.2,hk⟩
  have h3:pre.Pairwise (fun p q=>ks.getD p 0=3→ks.getD q 0=0∨ks.getD q 0=3):=by
   refine Jm.imp fun {p q} hpq h3=>?_;simp only[Bi,aQ,fW,bne_iff_ne,beq_iff_eq] at hpq;rcases hpq.2 with (h|h)|h
   ·exact absurd h3 h
   ·exact .inl h
   ·exact .inr h
  have hfront:=agj (P:=P) (K:=K) (S:=S) (E:=E) (ks:=ks) hoi (by obtain⟨o,h1,h2,_⟩:=look i (BJ.1 him).1;rw[hoi] at h1;cases h1;exact h2) pre post a w hpre h3
   (hS.imp id fun hS p hp=>by
     have hpm:p∈km ord listed:=by rw[hsplit];rcases List.mem_cons.1 hp with rfl|hp<;>simp [*]
     have:=hS p hpm
     omega) (by rw[←hsplit];exact h)
  have hset:=anV (ops:=ops) hnd hl hlt hsplit;refine ake hoi (fun v a' w' hd' hv=>hE v a' w' (hd'.trans hd) hv) (hS.imp id fun hS=>by have:=hS i him;omega) (fun a' w' hd' hw' hn=>?_) hfront;refine ih _ a' w' (hd'.trans hd) ?_ (by simp [hl]) ?_ ?_ (by rw[hset];exact hn)
  ·rw[hset];rw[hsplit] at hf;simp only[bt,bg] at hf ⊢;omega
  ·intro j o hj hlj e he hb
   by_cases hij:i=j
   ·subst hij;have:o=oi:=Option.some.inj (hj.symm.trans hoi);subst this;exact getD_set_true (hrdy e he hb)
   ·rw[getD_set_ne false hij] at hlj;exact getD_set_true (hc j o hj hlj e he hb)
  ·rw[hset];rcases hw' with hw'| ⟨hns,rfl⟩|hk
   ·exact .inl hw'
   ·rcases hS with hS|hS
    ·exact absurd hS hns
    ·exact .inr fun p hp=>hS p (by rw[hsplit];rcases List.mem_append.1 hp with h|h<;>simp [h])
   ·have wu:ks.getD i 0=3:=by
     obtain⟨_,_,_,h⟩:=look i (BJ.1 him).1;omega
    refine .inr fun p hp=>?_;rcases List.mem_append.1 hp with hp|hp
    ·obtain⟨op,_,_,_,hok,_⟩:=hpre p hp;simp only[sY,fW,aQ,beq_iff_eq,bne_iff_ne,cx] at hok;omega
    ·have hpi:=(List.pairwise_cons.1 ke).1 p hp;simp only[Bi,aQ,fW,bne_iff_ne,beq_iff_eq] at hpi;omega
def Sf {l:List Oper}{Q:Exit→Act→World→Prop}{a:Act}{w:World}(ks ord:List Nat)(S:World→Prop)(E:Value→World→Prop)(hlook:BG l.toArray ks ord=true)
  (hS:S w) (hE:∀v a' w',a'.defers=a.defers→E v w'→Q (.panic (pe v)) a' w') (h:eH P l.toArray ks S E (Q .normal) ord a w):wpAny P .any l.toArray Q l.toArray.size (Array.replicate l.toArray.size false) a w:=by
 simp only[BG,aQ,cx] at hlook;obtain⟨⟨⟨h1,h2⟩,h3⟩,hlen⟩:=hlook;have e0:km ord (Array.replicate l.toArray.size false)=ord:=by
  unfold km;rw[List.filter_eq_self.2];intro i hi;obtain⟨A,B,rfl⟩:=List.append_of_mem hi;obtain⟨o,ho,_⟩:=GI A [] h1;have:i<l.length:=by simpa using (Array.getElem?_eq_some_iff.1 ho).1
  simp [this]
 refine aeA (ks:=ks) (S:=S) (E:=E) (K:=Q .normal) h1 h2 (fun i hi=>List.contains_iff_mem.1 (List.all_eq_true.1 h3 i (List.mem_range.2 hi))) a.defers hE (fun _ _ h=>h) _ _ _ _ rfl ?_ aw ?_ (.inl hS) ?_
 ·rw[e0];exact hlen
 ·intro j o hj hl;simp at hl;have:j<l.length:=by simpa using (Array.getElem?_eq_some_iff.1 hj).1
  simp [this] at hl
 ·rw[e0];exact h
def aiw {id:Nat}{l:List Oper}{Q:Exit→Act→World→Prop}{a:Act}{w:World}(ks ord:List Nat)(S:World→Prop)(E:Value→World→Prop)(hm:P.follows .mixedOrders=true)(hlook:BG l.toArray ks ord=true)
  (hS:S w.drew) (hE:∀v a' w',a'.defers=a.defers→E v w'→Q (.panic (pe v)) a' w') (h:eH P l.toArray ks S E (Q .normal) ord a w.drew):(Code.region id l.toArray true).wp P Q a w:=
 wp_region_any hm (Sf ks ord S E hlook hS hE h)
end
section
variable {P:Program} {ops:Array Oper} {S:World→Prop} {E:Value→World→Prop} {K:Act→World→Prop} {a:Act} {w:World} {rest ks:List Nat} {o:Oper} {n d i:Nat} {L:List (Nat×Value)} {v:Value} {R:Value→World→Prop}
def BK (hi:ops[i]?=some o)(hg:o.guard=none){k:Nat}(hk:ks.getD i 0=k):
  eH P ops ks S E K (i::rest) a w=if k≤1 then ∃v,(∀w',cls S k w'→QV P o a w' v)∧eH P ops ks S E K rest (a.put o.dst v) w
   else if k=9 then vR P o a w (fun u w2=>S w2∧eH P ops ks S E K rest (a.put o.dst u) w2) E
   else bG P o a w (fun u w2=>Im S k w2∧eH P ops ks S E K rest (a.put o.dst u) w2):=by
 subst hk;show (match ops[i]? with|none=>_|some o=>_)=_;rw[hi];simp only;unfold p_;rw[if_pos (by simp [Region.wanted,hg])]
def vA (hi:ops[i]?=some o)(hk:ks.getD i 0=0)(U:Fr a n L)(hg:o.guard=none)(hd:o.dst=some d)(hn:Nat.ble (d+1) n=true)(h:∀w,QV P o a w v)
  (next:∀a,Fr a n ((d,v)::L)→eH P ops ks S E K rest a w):eH P ops ks S E K (i::rest) a w:=by
 rw[BK hi hg hk,if_pos V];exact⟨v,fun w' _=>h w',by rw[hd];exact next _ (U.put (cX hn) v)⟩
def A8 (hi:ops[i]?=some o)(hk:ks.getD i 0=1)(U:Fr a n L)(hg:o.guard=none)(hd:o.dst=some d)(hn:Nat.ble (d+1) n=true)(h:∀w,S w→QV P o a w v)
  (next:∀a,Fr a n ((d,v)::L)→eH P ops ks S E K rest a w):eH P ops ks S E K (i::rest) a w:=by
 rw[BK hi hg hk,if_pos V];exact⟨v,fun w' hc=>h w' (hc.resolve_left V),by rw[hd];exact next _ (U.put (cX hn) v)⟩
def yJ (hi:ops[i]?=some o)(hk:ks.getD i 0=2)(U:Fr a n L)(hg:o.guard=none)(hd:o.dst=some d)(hn:Nat.ble (d+1) n=true)(h:bG P o a w R)(hS:∀v w',R v w'→S w')
  (next:∀a v w,R v w→Fr a n ((d,v)::L)→eH P ops ks S E K rest a w):eH P ops ks S E K (i::rest) a w:=by
 rw[BK hi hg hk,if_neg V,if_neg V];exact h.mono fun v w' hR=>⟨fun _=>hS _ _ hR,by rw[hd];exact next _ _ _ hR (U.put (cX hn) v)⟩
def AX (hi:ops[i]?=some o)(hk:ks.getD i 0=3)(U:Fr a n L)(hg:o.guard=none)(hd:o.dst=some d)(hn:Nat.ble (d+1) n=true)(h:bG P o a w R)
  (next:∀a v w,R v w→Fr a n ((d,v)::L)→eH P ops ks S E K rest a w):eH P ops ks S E K (i::rest) a w:=by
 rw[BK hi hg hk,if_neg V,if_neg V];exact h.mono fun v w' hR=>⟨fun h=>V,by rw[hd];exact next _ _ _ hR (U.put (cX hn) v)⟩
def Ms (hi:ops[i]?=some o)(hk:ks.getD i 0=3)(U:Fr a n L)(hg:o.guard=none)(hd:o.dst=none)(h:bG P o a w R)
  (next:∀a v w,R v w→Fr a n L→eH P ops ks S E K rest a w):eH P ops ks S E K (i::rest) a w:=by
 rw[BK hi hg hk,if_neg V,if_neg V];exact h.mono fun v w' hR=>⟨fun h=>V,by rw[hd];exact next _ _ _ hR (U.Gn v)⟩
def LR {E':Value→World→Prop}(hi:ops[i]?=some o)(hk:ks.getD i 0=9)(U:Fr a n L)(hg:o.guard=none)(hd:o.dst=some d)(hn:Nat.ble (d+1) n=true){f:Nat}{vs:Array Value}(h:(execOp a.eval o).run P w=.ok (.enter f vs) w)
  (hc:fZ P f vs w R E') (hS:∀v w',R v w'→S w') (pan:∀v w',E' v w'→E v w')
  (next:∀a v w,R v w→Fr a n ((d,v)::L)→eH P ops ks S E K rest a w):eH P ops ks S E K (i::rest) a w:=by
 rw[BK hi hg hk,if_neg V,if_pos rfl];refine⟨f,vs,h,hc.mono (fun v w' hR=>⟨hS _ _ hR,?_⟩) pan⟩;rw[hd];exact next _ _ _ hR (U.put (cX hn) v)
def MQ (h:K a w):eH P ops ks S E K [] a w:=h
end
section
variable {P:Program} {a:Act} {w:World} {o:Oper} {n:Nat} {F:List (Nat×Value)}
def kF {f:Nat}{args:List Operand}{vs:List Value}{ts:Array TypeId}(U:Fr a n F)(ho:o.op=.call {callee:=.value (.func f),args:=args.toArray,argTypes:=ts})(hv:pA F args=some vs)
  (hf:∀args w,(callFunc f args).run P w=.ok (.enter f args) w):(execOp a.eval o).run P w=.ok (.enter f vs.toArray) w:=
 aee ho (by rw[List.map_toArray,U.xX hv]) hf
def GZ {f:Nat}{g:Operand}{fs cs args:List Value}{argo:List Operand}{vs:List Value}{ts:Array TypeId}(U:Fr a n F)(ho:o.op=.call {callee:=.value g,args:=argo.toArray,argTypes:=ts})
  (hg:a.eval g=.func (.func f) fs.toArray cs.toArray) (hv:pA F argo=some args) (hvs:fs++args++cs=vs) (hf:∀args w,(callFunc f args).run P w=.ok (.enter f args) w):(execOp a.eval o).run P w=.ok (.enter f vs.toArray) w:=
 ahG ho hg (by rw[List.map_toArray,U.xX hv,←hvs];simp) hf
def jA {x y z:Operand}{v:Value}(ho:o.op=.pick x y z)(hx:a.eval x=.bool true)(hy:a.eval y=v):QV P o a w v:=HJ ho hx hy
def jV {x y z:Operand}{v:Value}(ho:o.op=.pick x y z)(hx:a.eval x=.bool false)(hz:a.eval z=v):QV P o a w v:=HJ ho hx hz
def Fk {t:TypeId}{x:Operand}{v:Value}{e:TypeDesc}(ht:P.underlying t=some e)(hd:∀m,e≠.interface m)(ho:o.op=.makeInterface t x)(hx:a.eval x=v):QV P o a w (.iface t v):=by
 cases e with
 |interface m=>exact absurd rfl (hd m)
 |_=>simp [QV,execOp,ho,Instr.makeInterface,run_underlying ht,hx]
def GD {x:Operand}{t:TypeId}{v:Value}(ho:o.op=.panic x)(hx:a.eval x=.iface t v):(execOp a.eval o).run P w=.halt (.panic (.iface t v)) w:=by
 simp [execOp,ho,Instr.panic,hx,goPanic]
def eL {K:Act→World→Prop}{Q:Exit→Act→World→Prop}{ch:List PanicEntry}(h:Q (.panic ch) a w):Exit.then K Q (.panic ch) a w:=h
def js {i:Nat}{Q:Exit→Act→World→Prop}{ch:List PanicEntry}(h:Q (.panic ch) a w):Exit.inBlock i Q (.panic ch) a w:=h
def gU {fn:Func}{R E:Value→World→Prop}{v:Value}(hd:a.defers=[])(h:E v w):Jb P fn R E (.panic (pe v)) a w:=⟨hd,v,rfl,h⟩
end
section
variable {P:Program} {ops:Array Oper} {S:World→Prop} {K:Act→World→Prop} {Q:Exit→Act→World→Prop} {a:Act} {w:World} {rest:List Oper} {ks:List Nat} {o:Oper} {n d:Nat} {F:List (Nat×Value)}
def fJ {j:Nat}{b:Bool}{dj:Nat}{oj:Oper}{g:Value}(U:Fr a n F)(hg:o.guard=some (j,b))(hj:ops[j]?=some oj)(hdj:oj.dst=some dj)(hv:lk F dj=some g)(hT:dk g b=false)
  (hd:o.dst=some d) (hn:Nat.ble (d+1) n=true) (next:∀a,Fr a n ((d,undef)::F)→wpList P ops Q rest a w):wpList P ops Q (o::rest) a w:=by
 have hw:=sC U hg hj hdj hv;unfold wpList;rw[hw,hT];have:=next _ (U.put (cX hn) undef);rw[hd];exact this
def Bb {k:Nat}{j:Nat}{b:Bool}{dj:Nat}{oj:Oper}{g:Value}(U:Fr a n F)(hg:o.guard=some (j,b))(hj:ops[j]?=some oj)(hdj:oj.dst=some dj)(hv:lk F dj=some g)(hT:dk g b=false)
  (hd:o.dst=some d) (hn:Nat.ble (d+1) n=true) (next:∀a,Fr a n ((d,undef)::F)→dK P ops S K rest ks a w):dK P ops S K (o::rest) (k::ks) a w:=by
 show gn P ops S o k (dK P ops S K rest ks) a w;have hw:=sC U hg hj hdj hv;unfold gn;rw[hw,hT];have:=next _ (U.put (cX hn) undef);rw[hd];exact this
def mS {p:Prop}{_:Decidable p}(h:p):dk (.bool (decide p)) false=false:=by simp [dk,h]
def nV {p:Prop}{_:Decidable p}(h:¬p):dk (.bool (decide p)) true=false:=by simp [dk,h]
end
def mN (x:Nat):List Oper→Nat→List Oper
 | [],_=>[]
 |o::r,0=>{o with after:=o.after.push {on:=x,ground:=.data}}::r
 |o::r,y+1=>o::mN x r y
def WD (x:Nat)(o:Oper):Oper:={o with after:=o.after.push {on:=x,ground:=.data}}
def L6 (x:Nat):∀(l:List Oper) (y:Nat),(mN x l y).length=l.length
 | [],_=>rfl
 |_::_,0=>rfl
 |_::r,y+1=>congrArg (· +1) (L6 x r y)
def RW (x:Nat):∀(l:List Oper) (y i:Nat),(mN x l y)[i]?=if i=y then l[i]?.map (WD x) else l[i]?
 | [],y,i=>by simp [mN]
 |o::r,0,0=>rfl
 |o::r,0,i+1=>by simp [mN]
 |o::r,y+1,0=>by simp [mN]
 |o::r,y+1,i+1=>by
  have:=RW x r y i
  simpa [mN] using this
def FB (x:Nat)(l:List Oper)(y i:Nat):(mN x l y).toArray[i]?=if i=y then l.toArray[i]?.map (WD x) else l.toArray[i]?:=by
 simpa using RW x l y i
def ur (ops:Array Oper):Nat→Array Bool→List Nat→Prop
 |f,listed,[]=>f=0∨Region.ready .any ops listed=[]
 |0,_,_::_=>False
 |f+1,listed,i::r=>i∈Region.ready .any ops listed∧ur ops f (listed.setIfInBounds i true) r
def H9 (x y:Nat):List Nat→Prop
 | []=>True
 |i::r=>i=x∨(i≠y∧H9 x y r)
def Qi {x y:Nat}(h:x≠y):∀l:List Nat,H9 x y l∨H9 y x l
 | []=>.inl trivial
 |i::r=>by
  by_cases hx:i=x
  ·exact .inl (.inl hx)
  ·by_cases hy:i=y
   ·exact .inr (.inl hy)
   ·exact (Qi h r).imp (fun h=>.inr ⟨hy,h⟩) fun h=>.inr ⟨hx,h⟩
section
variable {P:Program} {ops:Array Oper} {Q:Exit→Act→World→Prop} {l:List Oper}
def Vh:∀(f t:Nat) (listed:Array Bool),ur ops f listed (Region.linearise.go .any ops f t listed [])
 |0,_,_=>.inl rfl
 |f+1,t,listed=>by
  simp only[Region.linearise.go]
  change ur ops (f+1) listed (match (Region.ready .any ops listed)[t % (Region.ready .any ops listed).length]? with
    |some i=>Region.linearise.go .any ops f (t / (Region.ready .any ops listed).length) (listed.setIfInBounds i true) [i]
    |none=>[].reverse)
  cases hi:(Region.ready .any ops listed)[t % (Region.ready .any ops listed).length]? with
  |none=>
   refine .inr ?_
   cases hr:Region.ready .any ops listed with
   |nil=>rfl
   |cons x xs=>
    rw[hr] at hi;have hlt:t % (x::xs).length< (x::xs).length:=Nat.mod_lt _ aw;simp at hi;simp at hlt;omega
  |some i=>
   simp only[];rw[linearise_go_acc,List.reverse_singleton,List.singleton_append];exact⟨bV hi,Vh f _ _⟩
def Vk:∀(f:Nat) (listed:Array Bool) (ord:List Nat) (a:Act) (w:World),ur ops f listed ord→wpAny P .any ops Q f listed a w→wpOps P ops Q ord a w
 |0,_,[],_,_,_,h=>h.2
 |f+1,_,[],_,_,ho,h=>h.1 (ho.resolve_left V)
 |0,_,_::_,_,_,ho,_=>ho.elim
 |f+1,listed,i::r,a,w,ho,h=>by
  rw[wpOps_cons];exact wpOp_mono (fun a w hh=>Vk f _ r a w ho.2 hh) (h.2 i ho.1)
def aqD {x y i:Nat}{listed:Array Bool}(h:i∈Region.ready .any l.toArray listed)(hy:i≠y∨listed.getD x false=true):i∈Region.ready .any (mN x l y).toArray listed:=by
 obtain⟨h1,o,h2,h3⟩:=mem_ready.1 h;refine mem_ready.2 ⟨h1,?_⟩;rw[FB]
 by_cases hi:i=y
 ·rw[if_pos hi,h2];refine⟨_,rfl,fun e he hb=>?_⟩;have hx:=hy.resolve_left (fun h=>h hi);rcases Array.mem_push.1 he with he|rfl
  ·exact h3 e he hb
  ·exact hx
 ·rw[if_neg hi];exact⟨o,h2,h3⟩
def asc {x y i:Nat}{listed:Array Bool}(h:i∈Region.ready .any (mN x l y).toArray listed):i∈Region.ready .any l.toArray listed:=by
 obtain⟨h1,o,h2,h3⟩:=mem_ready.1 h;refine mem_ready.2 ⟨h1,?_⟩;rw[FB] at h2
 by_cases hi:i=y
 ·rw[if_pos hi] at h2
  cases ho:l.toArray[i]? with
  |none=>rw[ho] at h2;cases h2
  |some o'=>
   rw[ho] at h2;cases h2;exact⟨o',rfl,fun e he hb=>h3 e (Array.mem_push_of_mem _ he) hb⟩
 ·rw[if_neg hi] at h2;exact⟨o,h2,h3⟩
def YT {f:Nat}{listed:Array Bool}:ur ops f listed []↔(f=0∨Region.ready .any ops listed=[]):=by cases f<;>simp [ur]
def J0 {x y:Nat}(hxy:x≠y):∀(f:Nat) (listed:Array Bool) (ord:List Nat),listed.size=l.length→ur l.toArray f listed ord→listed.getD x false=true∨H9 x y ord→ur (mN x l y).toArray f listed ord
 |f,listed,[],hs,h,_=>YT.2 <| (YT.1 h).imp id fun h=>by
   cases hr:Region.ready .any (mN x l y).toArray listed with
   |nil=>rfl
   |cons i r=>
    have:i∈Region.ready .any l.toArray listed:=asc (x:=x) (y:=y) (by rw[hr];simp);rw[h] at this;cases this
 |0,_,_::_,_,h,_=>h.elim
 |f+1,listed,i::r,hs,h,ho=>by
  have hlt:i<listed.size:=by
   obtain⟨_,o,h2,_⟩:=mem_ready.1 h.1;have:=(Array.getElem?_eq_some_iff.1 h2).1;simp at this;omega
  refine⟨aqD h.1 ?_,J0 hxy f _ r (by simpa using hs) h.2 ?_⟩
  ·rcases ho with ho|ho|ho
   ·exact .inr ho
   ·exact .inl (ho▸hxy)
   ·exact .inl ho.1
  ·by_cases hx:i=x
   ·refine .inl ?_;subst hx;simp [hlt]
   ·rcases ho with ho|ho
    ·refine .inl ?_
     by_cases hl:x<listed.size
     ·simp only[Array.getD_eq_getD_getElem?] at ho ⊢;rw[Array.getElem?_setIfInBounds_ne (fun e=>hx e)];exact ho
     ·simp [hl] at ho
    ·rcases ho with ho|ho
     ·exact absurd ho hx
     ·exact .inr ho.2
def aow {x y i:Nat}{K:Act→World→Prop}{a:Act}{w:World}(h:wpOp P (mN x l y).toArray Q i K a w):wpOp P l.toArray Q i K a w:=by
 have hy:∀t:Array Value,yielded (mN x l y).toArray t=yielded l.toArray t:=fun t=>by
  funext j
  unfold yielded;rw[FB]
  by_cases hj:j=y
  ·rw[if_pos hj];cases l.toArray[j]?<;>rfl
  ·rw[if_neg hj]
 unfold wpOp at h ⊢;rw[FB,hy] at h
 by_cases hi:i=y
 ·rw[if_pos hi] at h
  cases ho:l.toArray[i]? with
  |none=>rw[ho] at h;exact h
  |some o=>rw[ho] at h;exact h
 ·rw[if_neg hi] at h;exact h
def Kn {x y:Nat}:∀(ord:List Nat) (a:Act) (w:World),wpOps P (mN x l y).toArray Q ord a w→wpOps P l.toArray Q ord a w
 | [],_,_,h=>h
 |i::r,a,w,h=>by
  rw[wpOps_cons] at h ⊢;exact wpOp_mono (fun a w hh=>Kn r a w hh) (aow h)
def OW (P:Program)(l:List Oper)(Q:Exit→Act→World→Prop)(a:Act)(w:World):Prop:=∀ord,ur l.toArray l.length (Array.replicate l.length false) ord→wpOps P l.toArray Q ord a w
def jC {id:Nat}{a:Act}{w:World}(hm:P.follows .mixedOrders=true)(h:OW P l Q a w.drew):(Code.region id l.toArray true).wp P Q a w:=
 wp_region_draw fun t=>by
  simp only[Region.schedule,hm,Bool.true_or,if_true];exact h _ (Vh _ _ _)
def dy {a:Act}{w:World}(x y:Nat)(hxy:Nat.beq x y=false)(h1:OW P (mN x l y) Q a w)(h2:OW P (mN y l x) Q a w):OW P l Q a w:=fun ord ho=>by
 have aW:x≠y:=fun e=>by subst e;simp at hxy
 rcases Qi aW ord with h|h
 ·have:=h1 ord;rw[L6] at this;exact Kn ord _ _ (this (J0 aW _ _ _ aw ho (.inr h)))
 ·have:=h2 ord;rw[L6] at this;exact Kn ord _ _ (this (J0 (Ne.symm aW) _ _ _ aw ho (.inr h)))
def adw {a:Act}{w:World}(h:wpAny P .any l.toArray Q l.length (Array.replicate l.length false) a w):OW P l Q a w:=fun ord ho=>Vk _ _ ord _ _ ho h
def afY {a:Act}{w:World}(ks ord:List Nat)(S:World→Prop)(E:Value→World→Prop)(hlook:BG l.toArray ks ord=true)
 (hS:S w) (hE:∀v a' w',a'.defers=a.defers→E v w'→Q (.panic (pe v)) a' w') (h:eH P l.toArray ks S E (Q .normal) ord a w):OW P l Q a w:=adw (Sf ks ord S E hlook hS hE h)
end
inductive W where
 |mk (kind:Int) (name:List UInt8) (n line bh:Int) (h:aC) (ae:List W)
def W.kind:W→Int| .mk k _ _ _ _ _ _=>k
def W.name:W→List UInt8| .mk _ s _ _ _ _ _=>s
def W.n:W→Int| .mk _ _ n _ _ _ _=>n
def W.line:W→Int| .mk _ _ _ a _ _ _=>a
def W.bh:W→Int| .mk _ _ _ _ c _ _=>c
def W.h:W→aC| .mk _ _ _ _ _ h _=>h
def W.ae:W→List W| .mk _ _ _ _ _ _ l=>l
def bj:aC:=⟨none,0,0⟩
def bH:W:=.mk 0 [] 0 0 0 bj []
mutual
def W.er:W→X
 | .mk k s n _ _ _ l=>.mk k s n (W.Fy l)
def W.Fy:List W→List X
 | []=>[]
 |t::l=>t.er::W.Fy l
end
def YY:∀l:List W,W.Fy l=l.map W.er
 | []=>rfl
 |_::l=>congrArg _ (YY l)
def xv (k:Int)(s:List UInt8)(n a c:Int)(h:aC)(l:List W):(W.mk k s n a c h l).er=.mk k s n (l.map W.er):=by
 show X.mk k s n (W.Fy l)=_;rw[YY]
def W.a8 (t:W):t.er.kind=t.kind:=by cases t;rfl
def W.cf (t:W):t.er.name=t.name:=by cases t;rfl
def W.cO (t:W):t.er.n=t.n:=by cases t;rfl
def W.cq (t:W):t.er.ae=t.ae.map W.er:=by cases t;rw[xv];rfl
def W.ind {P:W→Prop}(h:∀k s n a c hd l,(∀t∈l,P t)→P (.mk k s n a c hd l)):∀t,P t
  | .mk k s n a c hd l=>h k s n a c hd l fun t _=>W.ind h t
 termination_by t=>SizeOf.sizeOf t
 decreasing_by
  rename_i ht;have:=List.sizeOf_lt_of_mem ht;simp only[W.mk.sizeOf_spec];omega
def av:fp W where
 size:=6
 cells t:=[i64 t.kind,str t.name,i64 t.n,i64 t.line,i64 t.bh,t.h.v]
 len _:=rfl
 one t u hu:=by
  simp only[iS,jD,or_false] at hu;rcases hu with rfl|rfl|rfl|rfl|rfl|rfl<;>rfl
mutual
def bS (w:World)(M:List Nat):W→Prop
 | .mk _ _ _ _ _ h l=>aG w M h.v av l∧GR w M l
def GR (w:World)(M:List Nat):List W→Prop
 | []=>True
 |t::l=>bS w M t∧GR w M l
end
section
variable {w Z w':World} {M:List Nat} {L B:List an}
def KK:∀{l:List W},GR w M l↔∀t∈l,bS w M t
 | []=>⟨fun _ t h=>(by cases h),fun _=>trivial⟩
 |t::l=>by
  show bS w M t∧GR w M l↔_;rw[KK];simp
def bS.sl {k:Int}{s:List UInt8}{n a c:Int}{h:aC}{l:List W}(hR:bS w M (.mk k s n a c h l)):aG w M h.v av l:=hR.1
def bS.sub {k:Int}{s:List UInt8}{n a c:Int}{h:aC}{l:List W}(hR:bS w M (.mk k s n a c h l)):∀t∈l,bS w M t:=KK.1 hR.2
def bS.mk {k:Int}{s:List UInt8}{n a c:Int}{h:aC}{l:List W}(h1:aG w M h.v av l)(h2:∀t∈l,bS w M t):bS w M (.mk k s n a c h l):=⟨h1,KK.2 h2⟩
def bS.aK {t:W}(hR:bS w M t):aG w M t.h.v av t.ae:=by cases t;exact hR.1
def bS.bK {t:W}(hR:bS w M t):∀x∈t.ae,bS w M x:=by cases t;exact hR.sub
def bS.now (O:St Z M w L):∀{t:W},bS Z M t→bS w (az L) t:=fun {t}=>W.ind (P:=fun t=>bS Z M t→bS w (az L) t) (fun _ _ _ _ _ _ _ ih h=>.mk (h.sl.now O) fun t ht=>ih t ht (h.sub t ht)) t
def bS.ba {t:W}(h:bS Z M t)(O:St Z M w L):bS w [] t:=
 W.ind (P:=fun t=>bS Z M t→bS w [] t) (fun _ _ _ _ _ _ _ ih h=>.mk (h.sl.ba O) fun t ht=>ih t ht (h.sub t ht)) t h
def HI {h:aC}(hR:aG w M h.v av [])(w':World)(M':List Nat):aG w' M' h.v av []:=by
 obtain⟨h1,A,c,e,h2,h3,_⟩:=hR;exact⟨h1,A,c,e,h2,h3,fun h0=>absurd h0 (Nat.lt_irrefl 0)⟩
mutual
def nE (T:Nat):W→an
 | .mk _ _ _ _ _ h []=>an.gp [] (fun w=>aG w [] h.v av []) (fun _ w' h _=>HI h w' []) (fun _ _ b hb=>by cases hb)
 | .mk _ _ _ _ _ h (t::l)=>an.bx [ax h.v T av (t::l),an.bx (nE T t::J_ T l)]
def J_ (T:Nat):List W→List an
 | []=>[]
 |t::l=>nE T t::J_ T l
end
def QE (T:Nat):∀l:List W,J_ T l=l.map (nE T)
 | []=>rfl
 |_::l=>congrArg _ (QE T l)
def DL (T:Nat)(k:Int)(s:List UInt8)(n a c:Int)(h:aC)(t:W)(l:List W):nE T (.mk k s n a c h (t::l))=an.bx [ax h.v T av (t::l),an.bx ((t::l).map (nE T))]:=by
 rw[←QE];rfl
def nP (T:Nat)(k k':Int)(s s':List UInt8)(n n' a a' c c':Int)(h:aC)(l:List W):nE T (.mk k s n a c h l)=nE T (.mk k' s' n' a' c' h l):=by
 cases l with
 |nil=>rfl
 |cons t l=>rw[DL,DL]
def St.Y8 (O:St Z M w L)(ok:World→Prop)(h1:∀w w',ok w→(∀b∈([]:List Nat),w'.heap[b]?=w.heap[b]?)→ok w')(h2:∀w,ok w→∀b∈([]:List Nat),b<w.heap.size)(h:ok w):St Z M w (an.gp [] ok h1 h2::L):=by
 have e:az (an.gp [] ok h1 h2::L)=az L:=rfl;refine⟨O.os,O.tape,O.output,O.le,O.iN,fun x hx=>?_,e▸O.nodup,fun b hb=>O.src b (e▸hb)⟩;rcases List.mem_cons.1 hx with rfl|hx
 ·exact h
 ·exact O.own x hx
def St.ag {T:Nat}{h:aC}{l:List W}(O:St Z M w (ax h.v T av l::an.bx (l.map (nE T))::L))(k:Int)(s:List UInt8)(n a c:Int):St Z M w (nE T (.mk k s n a c h l)::L):=by
 cases l with
 |nil=>
  have hR:aG w [] h.v av []:=O.bW 0 rfl;exact St.Y8 O.tail.tail _ _ _ hR
 |cons t l=>
  rw[DL];exact St.group (A:=[_,_]) O
def St.QG {T:Nat}{h:aC}(O:St Z M w L)(hR:aG w [] h.v av [])(k:Int)(s:List UInt8)(n a c:Int):St Z M w (nE T (.mk k s n a c h [])::L):=St.Y8 O _ _ _ hR
def St.unN {T:Nat}{k:Int}{s:List UInt8}{n a c:Int}{h:aC}{t:W}{l:List W}(O:St Z M w (nE T (.mk k s n a c h (t::l))::L)):St Z M w (ax h.v T av (t::l)::an.bx ((t::l).map (nE T))::L):=by
 rw[DL] at O;exact St.ungroup (A:=[_,_]) O
end
structure Tok where
 kind:Int
 text:List UInt8
 num:Int
 line:Int
 bh:Int
 deriving DecidableEq
structure fI where
 file:List UInt8
 line:Int
 bh:Int
 number:Int
 deriving DecidableEq
def aM:fp Tok where
 size:=5
 cells t:=[i64 t.kind,str t.text,i64 t.num,i64 t.line,i64 t.bh]
 len _:=rfl
 one t u hu:=by
  simp only[iS,jD,or_false] at hu;rcases hu with rfl|rfl|rfl|rfl|rfl<;>rfl
def oC:fp (List UInt8) where
 size:=1
 cells s:=[str s]
 len _:=rfl
 one t u hu:=by
  simp only[iS,jD,or_false] at hu;subst hu;rfl
def dZ (d:fI):List Value:=[str d.file,i64 d.line,i64 d.bh,i64 d.number]
def S6 (s t:fI):(decide (s.file=t.file)&&(decide (s.line=t.line)&&(decide (s.bh=t.bh)&&(decide (s.number=t.number)&&true))))=decide (s=t):=by
 obtain⟨a1,a2,a3,a4⟩:=s;obtain⟨b1,b2,b3,b4⟩:=t;simp [Bool.decide_and]
def fI.ok:fI:=⟨[],0,0,0⟩
def gt (s:List UInt8)(i:Nat):UInt8:=s.getD i 0
def rY (b:UInt8):Bool:=decide (((97:Int)≤b.toNat∧(b.toNat:Int)≤122)∨((65:Int)≤b.toNat∧(b.toNat:Int)≤90))
def cF (b:UInt8):Bool:=decide ((48:Int)≤b.toNat∧(b.toNat:Int)≤57)
def acO:List UInt8:=[33,35,36,37,38,42,43,46,47,60,61,62,63,64,92,94,124,45,58,126]
def j1 (b:UInt8):Bool:=decide (acO.contains b=true∧¬(b.toNat:Int)=126)
def pH:List UInt8:=[40,41,44,59,91,93,123,125,96]
def u_:List (List UInt8):=[[99,97,115,101],[99,108,97,115,115],[100,97,116,97],[100,111],[101,108,115,101],[105,102],[105,109,112,111,114,116],[105,110],[105,110,102,105,120],[105,110,102,105,120,108],[105,110,102,105,120,114],[105,110,115,116,97,110,99,101],[108,101,116],[109,111,100,117,108,101],[111,102],[116,104,101,110],[119,104,101,114,101]]
def xB:List (List UInt8):=[[61],[92],[124],[60,45],[45,62],[64],[61,62],[58,58]]
def fC (kind:Nat)(c:UInt8):Bool:=
 if kind=0 then decide (((rY c=true∨cF c=true)∨(c.toNat:Int)=95)∨(c.toNat:Int)=39)
 else if kind=1 then cF c
 else if kind=2 then j1 c
 else decide (¬(c.toNat:Int)=10)
def bo (s:List UInt8)(aj kind:Nat):Nat:=((s.drop aj).takeWhile (fC kind)).length
def cH (s:List UInt8):Nat→Nat×Nat
 |0=>(1,1)
 |k+1=>if gt s k=10 then ((cH s k).1+1,1) else ((cH s k).1,(cH s k).2+1)
def gm (s:List UInt8)(aj:Nat):Nat→Int→Nat→Option Nat
 |0,_,_=>none
 |f+1,deep,i=>
  if i+1<s.length then
   if gt s i=123∧gt s (i+1)=45 then gm s aj f (deep+1) (i+2)
   else if gt s i=45∧gt s (i+1)=125 then
    if deep - 1=0 then some (i+2 - aj) else gm s aj f (deep - 1) (i+2)
   else gm s aj f deep (i+1)
  else none
def nq (s:List UInt8)(aj:Nat):Option Nat:=gm s aj (s.length+1) 0 aj
def iz (s:List UInt8):Nat→Nat→Nat→Nat×Nat
 |0,n,i=>(n,i)
 |f+1,n,i=>if i<s.length∧cF (gt s i)=true then iz s f (min (10 * n+((gt s i).toNat - 48)) 1000) (i+1) else (n,i)
def Bo (c:UInt8):UInt8:=if c=110 then 10 else if c=116 then 9 else c
def vJ:List UInt8:=[110,116,92,34]
def fu (s:List UInt8):Nat→List UInt8→Nat→Option (List UInt8×Nat)
 |0,_,_=>none
 |f+1,out,i=>
  if i<s.length then
   if gt s i=34 then some (out,i+1)
   else if ¬gt s i=92 then (if gt s i<32∨126<gt s i then none else fu s f (out++[gt s i]) (i+1))
   else if i+1<s.length∧cF (gt s (i+1))=true then
    (let d:=iz s s.length 0 (i+1)
     if 255<d.1 then none else fu s f (out++[UInt8.ofNat d.1]) d.2)
   else if s.length≤i+1∨vJ.contains (gt s (i+1))=false then none
   else fu s f (out++[Bo (gt s (i+1))]) (i+2)
  else none
def lq (s:List UInt8)(aj:Nat):Option (List UInt8×Nat):=(fu s (s.length+1) [] (aj+1)).map fun p=>(p.1,p.2 - aj)
def iU:List UInt8→Nat→Option Nat
 | [],n=>some n
 |c::r,n=>if (9223372036854775807 - (c.toNat - 48)) / 10<n then none else iU r (10 * n+(c.toNat - 48))
inductive ZN where
 |skip (n:Nat)
 |tok (kind:Int) (text:List UInt8) (num:Int) (n:Nat)
 |bad (e:Int)
def cQ (s:List UInt8)(aj n:Nat):List UInt8:=(s.take (aj+n)).drop aj
def eB (s:List UInt8)(aj:Nat):ZN:=
 let b:=gt s aj
 if b=32∨b=10 then .skip 1
 else if b=123∧aj+1<s.length∧gt s (aj+1)=45 then
  match nq s aj with
  |none=>.bad 14
  |some k=>.skip k
 else if rY b=true∨b=95 then
  let n:=bo s aj 0
  let t:=cQ s aj n
  .tok (if u_.contains t then 7 else if t=[95] then 8 else if 65≤b∧b≤90 then 2 else 1) t 0 n
 else if cF b=true then
  let n:=bo s aj 1
  match iU (cQ s aj n) 0 with
  |none=>.bad 12
  |some v=>.tok 5 (cQ s aj n) v n
 else if j1 b=true then
  let n:=bo s aj 2
  let t:=cQ s aj n
  if t.all (fun c=>c=45)=true∧2≤n then .skip (bo s aj 3)
  else .tok (if xB.contains t then 8 else if b=58 then 4 else 3) t 0 n
 else if pH.contains b=true then .tok 8 (cQ s aj 1) 0 1
 else if b=34 then
  match lq s aj with
  |none=>.bad 13
  |some (t,n)=>.tok 6 t 0 n
 else .bad 11
def h_ (s:List UInt8):Nat→Nat→List Tok→List Tok×fI
 |0,_,out=>(out,.ok)
 |f+1,aj,out=>
  if aj<s.length then
   match eB s aj with
   | .skip n=>h_ s f (aj+n) out
   | .tok k t v n=>h_ s f (aj+n) (out++[⟨k,t,v,(cH s aj).1,(cH s aj).2⟩])
   | .bad e=>([],⟨[],(cH s aj).1,(cH s aj).2,e⟩)
  else (out++[⟨9,[],0,(cH s aj).1,(cH s aj).2⟩],.ok)
def fR (s:List UInt8):List Tok×fI:=
 if 16384<s.length then ([],⟨[],1,1,10⟩) else h_ s (s.length+1) 0 []
set_option maxRecDepth 100000
def iD:prog.follows .mixedOrders=true:=by kernel_rfl
def xR:prog.info? 5=some Tryz.t5:=by kernel_rfl
def ET:prog.info? 28=some Tryz.t28:=by kernel_rfl
def pV:prog.info? 44=some Tryz.t44:=by kernel_rfl
def FL:prog.info? 115=some Tryz.t115:=by kernel_rfl
def ahW:sr prog 28 [0,1,2,3,4,5]:=by
 intro fs h w;have e:=underlying28.symm.trans h;injection e with e;injection e with e;subst e;show @Eq _ _ _
 kernel_rfl
def ajU:sr prog 31 [0,1,2,3]:=by
 intro fs h w;have e:=underlying31.symm.trans h;injection e with e;injection e with e;subst e;show @Eq _ _ _
 kernel_rfl
def agw:sr prog 44 [0,1,2,3,4]:=by
 intro fs h w;have e:=underlying44.symm.trans h;injection e with e;injection e with e;subst e;show @Eq _ _ _
 kernel_rfl
def Xv:BS prog 47 [(0,4)]:=by
 intro fs h w;have e:=underlying47.symm.trans h;injection e with e;injection e with e;subst e;show @Eq _ _ _
 kernel_rfl
def aey:sr prog 51 [0,1,2]:=by
 intro fs h w;have e:=underlying51.symm.trans h;injection e with e;injection e with e;subst e;show @Eq _ _ _
 kernel_rfl
def Pw:BS prog 53 [(0,3)]:=by
 intro fs h w;have e:=underlying53.symm.trans h;injection e with e;injection e with e;subst e;show @Eq _ _ _
 kernel_rfl
def apl:sr prog 70 [0,1,2,3]:=by
 intro fs h w;have e:=underlying70.symm.trans h;injection e with e;injection e with e;subst e;show @Eq _ _ _
 kernel_rfl
def XF:BS prog 85 [(0,1),(1,1),(2,4)]:=by
 intro fs h w;have e:=underlying85.symm.trans h;injection e with e;injection e with e;subst e;show @Eq _ _ _
 kernel_rfl
def aif:sr prog 106 [0,1,2]:=by
 intro fs h w;have e:=underlying106.symm.trans h;injection e with e;injection e with e;subst e;show @Eq _ _ _
 kernel_rfl
def akb:sr prog 115 [0,1]:=by
 intro fs h w;have e:=underlying115.symm.trans h;injection e with e;injection e with e;subst e;show @Eq _ _ _
 kernel_rfl
def ajv:sr prog 143 [0,1,2,3]:=by
 intro fs h w;have e:=underlying143.symm.trans h;injection e with e;injection e with e;subst e;show @Eq _ _ _
 kernel_rfl
def bP (t:Tok):Tk:=⟨t.kind,t.text,t.num⟩
def qE:Tok:=⟨0,[],0,0,0⟩
def aN (tl:List Tok)(n:Nat)(dp:Int):PS:=⟨(tl.drop n).map bP,dp⟩
def Wi (tl:List Tok)(n k:Nat)(dp:Int):fa (aN tl n dp) k=bP (tl.getD (n+k) qE):=by
 simp only[fa,aN,List.getD_eq_getElem?_getD,List.getElem?_map,List.getElem?_drop];cases tl[n+k]?<;>rfl
def rL {tl:List Tok}{n k:Nat}{dp:Int}{t:Tok}(h:tl[n+k]?=some t):fa (aN tl n dp) k=bP t:=by
 rw[Wi,List.getD_eq_getElem?_getD,h];rfl
def aeB {tl:List Tok}{n k:Nat}{dp:Int}(h:tl.length≤n+k):fa (aN tl n dp) k=t0:=by
 rw[Wi,List.getD_eq_getElem?_getD,List.getElem?_eq_none h];rfl
def ZL {tl:List Tok}{n:Nat}{dp:Int}{t:Tok}(h:tl[n]?=some t):aN tl n dp=⟨bP t::(aN tl (n+1) dp).r,dp⟩:=by
 obtain⟨hn,rfl⟩:=List.getElem?_eq_some_iff.1 h;simp only[aN];rw[List.drop_eq_getElem_cons hn];rfl
def Oc {tl:List Tok}{n:Nat}{dp:Int}(h:tl.length≤n):(aN tl n dp).r=[]:=by
 simp only[aN,ia h,bX]
def step_eq {tl:List Tok}{n:Nat}{dp d:Int}{t:Tok}(h:tl[n]?=some t):gC ⟨(aN tl n dp).r,d⟩=.ok (bP t,aN tl (n+1) d):=by
 rw[ZL h];rfl
def Tu {tl:List Tok}{n:Nat}{dp:Int}{t:Tok}(h:tl[n]?=some t):(aN tl n dp).r≠[]:=by rw[ZL h];simp
def ajD {tl:List Tok}{n:Nat}{dp k:Int}{t:Tok}(h:tl[n]?=some t)(ho:dH (aN tl n dp) [k]=true):jr k (aN tl n dp)=.ok (bP t,aN tl (n+1) dp):=by
 unfold jr;rw[if_neg (by rw[not_or];exact⟨Tu h,by rw[ho];decide⟩)];exact step_eq (dp:=dp) h
def ZH {tl:List Tok}{n:Nat}{dp k:Int}(h:tl.length≤n∨¬dH (aN tl n dp) [k]=true):jr k (aN tl n dp)=.error 30:=by
 unfold jr;rw[if_pos (h.imp Oc fun h=>by simpa using h)]
def SJ {tl:List Tok}{n:Nat}{dp:Int}{w:List UInt8}(h:tl.length≤n∨¬bk (aN tl n dp) [w]=true):cA w (aN tl n dp)=.error 30:=by
 unfold cA;rw[if_pos (h.imp Oc fun h=>by simpa using h)]
def Gz {tl:List Tok}{n:Nat}{dp:Int}{w:List UInt8}{t:Tok}(h:tl[n]?=some t)(ho:bk (aN tl n dp) [w]=true):¬((aN tl n dp).r=[]∨bk (aN tl n dp) [w]=false):=by
 rw[not_or];exact⟨Tu h,by rw[ho];decide⟩
def J5 {tl:List Tok}{n:Nat}{dp:Int}{w:List UInt8}{t:Tok}(h:tl[n]?=some t)(ho:bk (aN tl n dp) [w]=true)(hw:w=bY∨w=eX∨w=cw)(hd:64≤dp):cA w (aN tl n dp)=.error 32:=by
 unfold cA;rw[if_neg (Gz h ho),if_pos hw,if_pos (show (aN tl n dp).deep≥64 from hd)]
def Nz {tl:List Tok}{n:Nat}{dp:Int}{w:List UInt8}{t:Tok}(h:tl[n]?=some t)(ho:bk (aN tl n dp) [w]=true)(hw:w=bY∨w=eX∨w=cw)(hd:¬64≤dp):cA w (aN tl n dp)=.ok (bP t,aN tl (n+1) (dp+1)):=by
 unfold cA;rw[if_neg (Gz h ho),if_pos hw,if_neg (show ¬(aN tl n dp).deep≥64 from hd)];exact step_eq (dp:=dp) h
def IE {tl:List Tok}{n:Nat}{dp:Int}{w:List UInt8}{t:Tok}(h:tl[n]?=some t)(ho:bk (aN tl n dp) [w]=true)(hw:¬(w=bY∨w=eX∨w=cw))(HO:w=bB∨w=iI∨w=cd):cA w (aN tl n dp)=.ok (bP t,aN tl (n+1) (dp - 1)):=by
 unfold cA;rw[if_neg (Gz h ho),if_neg hw,if_pos HO];exact step_eq (dp:=dp) h
def aed {tl:List Tok}{n:Nat}{dp:Int}{w:List UInt8}{t:Tok}(h:tl[n]?=some t)(ho:bk (aN tl n dp) [w]=true)(hw:¬(w=bY∨w=eX∨w=cw))(HO:¬(w=bB∨w=iI∨w=cd)):cA w (aN tl n dp)=.ok (bP t,aN tl (n+1) dp):=by
 unfold cA;rw[if_neg (Gz h ho),if_neg hw,if_neg HO];exact step_eq (dp:=dp) h
def aaJ {s s':PS}{w:List UInt8}{t:Tk}(ho:bk s [w]=true)(h:cA w s=.ok (t,s')):dG w s=.ok (true,s'):=by
 unfold dG;rw[if_pos ho,bind_eq,h];rfl
def Sp {s:PS}{w:List UInt8}{e:Int}(ho:bk s [w]=true)(h:cA w s=.error e):dG w s=.error e:=by
 unfold dG;rw[if_pos ho,bind_eq,h]
def agA {s:PS}{w:List UInt8}(ho:¬bk s [w]=true):dG w s=.ok (false,s):=by
 unfold dG;rw[if_neg ho]
def zT (TB:Nat)(l c e:Int):Value:=.iface TB (.agg #[str [],i64 l,i64 c,i64 e])
section
variable {α β γ:Type}
def cM (x:PM α)(f:α→PM β)(g:β→PM γ):(x >>= f) >>= g=x >>= fun a=>f a >>= g:=by
 funext s
 show PM.bind (PM.bind x f) g s=PM.bind x (fun a=>PM.bind (f a) g) s;unfold PM.bind;cases x s<;>rfl
def cy (a:α)(f:α→PM β):(pure a:PM α) >>= f=f a:=rfl
def cN {c:Prop}[Decidable c](x y:PM α)(f:α→PM β):(if c then x else y) >>= f=if c then x >>= f else y >>= f:=by split<;>rfl
def cV (e:Int)(f:α→PM β):(bad e:PM α) >>= f=bad e:=rfl
variable {F:PM α} {g:α→PM β} {s s':PS} {R0:Except Int (β×PS)} {a:α} {e:Int} {A B:PS→PM β} {A' B':PM β} {c:PS→Bool} {b:Bool}
def pD (J:R0=(F >>= g) s)(h:F s=.ok (a,s')):R0=g a s':=by
 rw[J];show PM.bind F g s=_;unfold PM.bind;rw[h]
def gD (J:R0=(F >>= g) s)(h:F s=.error e):R0=.error e:=by
 rw[J];show PM.bind F g s=_;unfold PM.bind;rw[h]
def oT (aW:R0≠.error (-1))(J:R0=(F >>= g) s):F s≠.error (-1):=fun h=>aW (gD J h)
def eC (J:R0=(get >>= fun s=>if c s=true then A s else B s) s')(h:c s'=true):R0=A s' s':=by
 rw[J];show (if c s'=true then A s' else B s') s'=_;rw[if_pos h]
def ej (J:R0=(get >>= fun s=>if c s=true then A s else B s) s')(h:¬c s'=true):R0=B s' s':=by
 rw[J];show (if c s'=true then A s' else B s') s'=_;rw[if_neg h]
def BQ {c:PS→Prop}{_:∀s,Decidable (c s)}(J:R0=(get >>= fun s=>if c s then A s else B s) s')(h:c s'):R0=A s' s':=by
 rw[J];show (if c s' then A s' else B s') s'=_;rw[if_pos h]
def wq {c:PS→Prop}{_:∀s,Decidable (c s)}(J:R0=(get >>= fun s=>if c s then A s else B s) s')(h:¬c s'):R0=B s' s':=by
 rw[J];show (if c s' then A s' else B s') s'=_;rw[if_neg h]
def fT (J:R0=(if b=true then A' else B') s)(h:b=true):R0=A' s:=by rw[J,if_pos h]
def fV (J:R0=(if b=true then A' else B') s)(h:¬b=true):R0=B' s:=by rw[J,if_neg h]
def r8 (J:R0=(F >>= g) s):∃G:α→PM β,G=g∧R0=(F >>= G) s:=⟨g,rfl,J⟩
def AY {F:PM α}{R0:Except Int (α×PS)}(J:R0=F s):∃G:α→PM α,G=pure∧R0=(F >>= G) s:=by
 refine⟨pure,rfl,J.trans ?_⟩;show F s=PM.bind F PM.pure s;unfold PM.bind PM.pure;cases F s<;>rfl
def wo (J:R0=(get >>= A) s):R0=A s s:=J
def xS {F:PM α}{R0:Except Int (α×PS)}(J:R0=F s)(h:F s=.ok (a,s')):R0=.ok (a,s'):=J.trans h
def vU {F:PM α}{R0:Except Int (α×PS)}(J:R0=F s)(h:F s=.error e):R0=.error e:=J.trans h
def yV {F:PM α}{R0:Except Int (α×PS)}(aW:R0≠.error (-1))(J:R0=F s):F s≠.error (-1):=J▸aW
end
def mD {β:Type}{g:Tk→PM β}{tl:List Tok}{n:Nat}{dp:Int}{R0:Except Int (β×PS)}(aW:R0≠.error (-1))(J:R0=(gC >>= g) (aN tl n dp)):
  ∃t,tl[n]?=some t∧R0=g (bP t) (aN tl (n+1) dp):=by
 cases h:tl[n]? with
 |none=>
  have h1:(aN tl n dp).r=[]:=Oc (List.getElem?_eq_none_iff.1 h);refine absurd (gD (e:= -1) J ?_) aW;unfold gC;rw[h1]
 |some t=>exact⟨t,rfl,pD J (step_eq (dp:=dp) h)⟩
def C2:Nat→PM (List UInt8)
 |0=>pure gM
 |m+1=>dG bD >>= fun b=>if b=true then C2 m else pure (Fu (2 - m))
def afp:pB=C2 2:=rfl
structure Pos (tl:List Tok)(n:Nat)(dp:Int):Prop where
 hn:n≤tl.length
 hL:tl.length≤1099511627776
 lo: -(n:Int)≤dp
 hi:dp≤64
def Pos.bz {tl:List Tok}{n:Nat}{dp:Int}(h:Pos tl n dp):tl.length≤4611686018427387904:=by have:=h.hL;omega
def Pos.nL {tl:List Tok}{n:Nat}{dp:Int}(h:Pos tl n dp):n≤1099511627776:=by have:=h.hL;have:=h.hn;omega
def Pos.succ {tl:List Tok}{n:Nat}{dp:Int}{t:Tok}(h:Pos tl n dp)(ht:tl[n]?=some t):Pos tl (n+1) dp:=by
 have:=h.lo;exact⟨(List.getElem?_eq_some_iff.1 ht).1,h.hL,V,h.hi⟩
abbrev aX (b T:Nat)(vs:Value)(n:Nat)(dp:Int):an:=.ob b T [vs,i64 (n:Nat),i64 dp]
def CY (l c:Int):Tok:=⟨0,[],0,l,c⟩
def bM (k:Int)(s:List UInt8)(n a c:Int)(h:aC)(l:List W):(W.mk k s n a c h l).er=.mk k s n (l.map W.er):=xv k s n a c h l
section
variable {Z w:World} {M:List Nat} {L:List an} {T:Nat} {v:Value} {x:W} {l m:List W}
def QK (w:World)(M:List Nat):aG w M bj.v av []:=Rd.nil w M 6
def St.b0 (l:List W)(O:St Z M w (ax v T av l::(l.map (nE T)++L))):St Z M w (ax v T av l::an.bx (l.map (nE T))::L):=by
 have h1:St Z M w (l.map (nE T)++ax v T av l::L):=O.perm List.perm_middle;have h2:=St.group h1;exact h2.pull 1 rfl
def St.iv (O:St Z M w L):St Z M w (an.bx (([]:List W).map (nE T))::L):=St.group (A:=[]) O
def St.eV (O:St Z M w (nE T x::L))(i:Nat)(hi:L[i]?=some (an.bx (l.map (nE T)))):St Z M w (L.set i (an.bx ((l++[x]).map (nE T)))):=by
 have h:=O.aip i hi;rw[cZ];exact h
def St.Fj (O:St Z M w (an.bx (m.map (nE T))::L))(i:Nat)(hi:L[i]?=some (an.bx (l.map (nE T)))):St Z M w (L.set i (an.bx ((l++m).map (nE T)))):=by
 have h1:St Z M w (m.map (nE T)++L):=St.ungroup O;clear O
 revert L l
 induction m with
 |nil=>
  intro L l hi h1;have e:L.set i (an.bx ((l++[]).map (nE T)))=L:=by
   rw[cB];exact List.ext_getElem? fun j=>by
    rw[List.getElem?_set]
    split
    ·rename_i h;subst h;rw[hi];have:=(List.getElem?_eq_some_iff.1 hi).1;simp [this]
    ·rfl
  rw[e];exact h1
 |cons x m ih=>
  intro L l hi h1;have h2:St Z M w (nE T x::(m.map (nE T)++L)):=h1;have kP:(m.map (nE T)++L)[m.length+i]?=some (an.bx (l.map (nE T))):=by
   rw[List.getElem?_append_right aw]
   simpa using hi
  have h3:=St.eV h2 (m.length+i) kP;have e:(m.map (nE T)++L).set (m.length+i) (an.bx ((l++[x]).map (nE T)))=m.map (nE T)++L.set i (an.bx ((l++[x]).map (nE T))):=by
   rw[List.set_append_right _ _ aw];simp
  rw[e] at h3;have hlt:=(List.getElem?_eq_some_iff.1 hi).1;have h4:=ih (L:=L.set i (an.bx ((l++[x]).map (nE T)))) (l:=l++[x]) (by simp [hlt]) h3;rw[List.set_set,cC] at h4;exact h4
def eJ:bH.er=cc:=rfl
def St.aP {k n a c:Int}{s:List UInt8}{h:aC}(hx:x=.mk k s n a c h l)(O:St Z M w (ax h.v T av l::an.bx (l.map (nE T))::L)):St Z M w (nE T x::L):=hx▸O.ag k s n a c
def St.jk {k n a c:Int}{s:List UInt8}(hx:x=.mk k s n a c bj [])(O:St Z M w L):St Z M w (nE T x::L):=hx▸O.QG (QK w []) k s n a c
def St.Oj (O:St Z M w L):St Z M w (nE T bH::L):=O.QG (QK w []) 0 [] 0 0 0
end
section
variable {P:Program} {o:Oper} {a:Act} {w:World} {x y:Operand} {t:TypeId} {v:Value}
def Ba {e:TypeId}{k:IntKind}{m j:Nat}{cs:List Value}(ht:P.underlying t=some (.array m e))(hs:∀w,(sizeOf e).run P w=.ok 1 w)(ha:∀w,(isAgg e).run P w=.ok false w)(ho:o.op=.index t x y)
  (hx:a.eval x=.agg cs.toArray) (hy:a.eval y=.int k (j:Int)) (hj:j<m) (hv:cs[j]?=some v):QV P o a w v:=by
 simp [QV,execOp,ho,hx,hy,Instr.index,asIntOf,run_underlying ht,hj,hs,part,asAgg,ha,hv]
end
def Sr:List Value:=[str ji,str [],str gY,str gM]
def As {j:Nat}(h:j<4):Sr[j]?=some (str (Fu j)):=by
 match j,h with
 |0,_=>rfl
 |1,_=>rfl
 |2,_=>rfl
 |3,_=>rfl
section
variable {Z w:World} {M:List Nat} {L:List an} {T:Nat} {v:Value} {x y:W} {l m:List W}
def St.qm (O:St Z M w (an.bx ([x].map (nE T))::L)):St Z M w (nE T x::L):=St.ungroup (A:=[_]) O
def St.OB {e p q:an}(O:St Z M w (e::p::q::L)):St Z M w (e::an.bx [p,q]::L):=by
 have h:=(O.pull 1 rfl).pull 2 rfl;have h:St Z M w ([q,p]++e::L):=h;have h:=St.group h;have h:St Z M w (an.bx [q,p]::e::L):=h;have h2:St Z M w ([p,q]++e::L):=O.perm (by
   show (p::q::e::L).Perm (e::p::q::L)
   exact (List.perm_middle (l₁:=[p,q])))
 exact (St.group h2).pull 1 rfl
def St.alo {e d p q:an}(O:St Z M w (e::d::p::q::L)):St Z M w (e::d::an.bx [p,q]::L):=by
 have h2:St Z M w ([p,q]++e::d::L):=O.perm (by
   show (p::q::e::d::L).Perm (e::d::p::q::L)
   exact List.perm_append_comm (l₁:=[p,q]) (l₂:=[e,d]) |>.append_right L)
 exact ((St.group h2).pull 1 rfl |>.pull 2 rfl).pull 1 rfl
def St.BC {i:Nat}(hx:l[i]?=some y)(O:St Z M w (an.bx ((l.drop i).map (nE T))::L)):St Z M w (nE T y::an.bx ((l.drop (i+1)).map (nE T))::L):=by
 obtain⟨hi,rfl⟩:=List.getElem?_eq_some_iff.1 hx;rw[List.drop_eq_getElem_cons hi] at O;have h1:St Z M w ((nE T l[i]::(l.drop (i+1)).map (nE T))++L):=St.ungroup (A:=nE T l[i]::(l.drop (i+1)).map (nE T)) O;have h2:St Z M w ((l.drop (i+1)).map (nE T)++nE T l[i]::L):=h1.perm List.perm_middle;exact (St.group h2).pull 1 rfl
end
def MN {l:List W}(h:1<l.length):kM (l.map W.er)=ag 23 [] (l.map W.er):=by
 match l,h with
 |_::_::_,_=>rfl
def adJ {l:List W}(h0:0<l.length)(h:¬1<l.length):∃x,l=[x]:=by
 match l,h0,h with
 | [x],_,_=>exact⟨x,rfl⟩
 |_::_::_,_,h=>exact absurd aw h
def NB {f:X→X→X}{l:List W}{i:Nat}{y:W}(hx:l[i]?=some y)(n:X):((l.drop i).map W.er).foldl f n=((l.drop (i+1)).map W.er).foldl f (f n y.er):=by
 obtain⟨hi,rfl⟩:=List.getElem?_eq_some_iff.1 hx;rw[List.drop_eq_getElem_cons hi]
 rfl
def Qd {f:X→X→X}{l:List W}{i:Nat}(h:l.length≤i)(n:X):((l.drop i).map W.er).foldl f n=n:=by
 rw[ia h];rfl
def SE {k:Nat}{s s':PS}{l:List W}(h:pM k s=.ok (l.map W.er,s')):0<l.length:=by
 cases k with
 |zero=>simp only[pM] at h;cases h
 |succ k=>
  simp only[pM] at h;rw[bind_eq] at h
  cases h1:rh k s with
  |error e=>rw[h1] at h;cases h
  |ok p=>
   obtain⟨a,s1⟩:=p;rw[h1] at h;simp only at h;rw[bind_eq] at h
   cases h2:rz k s1 with
   |error e=>rw[h2] at h;cases h
   |ok q=>
    obtain⟨m,s2⟩:=q;rw[h2] at h;have h3:(Except.ok (a::m,s2):Except Int (List X×PS))=.ok (l.map W.er,s'):=h;injection h3 with h3;injection h3 with h3 _
    cases l with
    |nil=>cases h3
    |cons x l=>simp
def agt {l:List W}{x:W}(hx:l[0]?=some x):((l.drop 1).map W.er).foldl (fun n x=>ag 22 [] [n,x]) x.er=fg (l.map W.er):=by
 cases l with
 |nil=>cases hx
 |cons y l=>cases hx;rfl
def jE (l:List W):(l++[bH])[l.length]?=some bH:=aw
def akr (l:List W)(x:W):(l++[bH]).set l.length x=l++[x]:=aw
def St.jy {Z w:World}{M:List Nat}{L:List an}{T i:Nat}{l:List W}{h:aC}{x:W}(O:St Z M w L)(hi:L[i]?=some (ax h.v T av ((l++[bH]).set l.length x))):St Z M w (L.set i (ax h.v T av (l++[x]))):=by
 rw[akr] at hi;have e:L.set i (ax h.v T av (l++[x]))=L:=by
  refine List.ext_getElem? fun j=>?_;rw[List.getElem?_set]
  split
  ·rename_i hj;subst hj
   split
   ·exact hi.symm
   ·rename_i h2;exact absurd (List.getElem?_eq_some_iff.1 hi).1 h2
  ·rfl
 rw[e];exact O
structure aR where
 bs:List Nat
 S:aC→List W→Prop
 ok:World→Prop
 st:∀w w',ok w→(∀b∈bs,w'.heap[b]?=w.heap[b]?)→ok w'
 lt:∀w,ok w→∀b∈bs,b<w.heap.size
 rd:∀w,ok w→∀h l,S h l→∀M:List Nat,(∀b∈bs,b∉M)→aG w M h.v av l
 nil:S bj []
 sub:∀h l,S h l→∀y∈l,S y.h y.ae
def bO (p:aR):an:=.gp p.bs p.ok p.st p.lt
def aR.has (p:aR)(x:W):Prop:=p.S x.h x.ae
structure aR.le (p q:aR):Prop where
 S:∀h l,p.S h l→q.S h l
 bs:p.bs.Sublist q.bs
 ok:∀w,q.ok w→p.ok w
def aR.le.rfl {p:aR}:p.le p:=⟨fun _ _ h=>h,List.Sublist.refl _,fun _ h=>h⟩
def aR.le.trans {p q r:aR}(h:p.le q)(h2:q.le r):p.le r:=⟨fun a b h3=>h2.S a b (h.S a b h3),h.bs.trans h2.bs,fun w h3=>h.ok w (h2.ok w h3)⟩
def aR.le.all {p q:aR}(h:p.le q){l:List W}(hl:∀y∈l,p.has y):∀y∈l,q.has y:=fun y hy=>h.S _ _ (hl y hy)
def n_ {p:aR}{x:W}(h:p.has x):∀y∈[x],p.has y:=fun y hy=>by cases List.mem_singleton.1 hy;exact h
def jm {p:aR}{l m:List W}(h:∀y∈l,p.has y)(h2:∀y∈m,p.has y):∀y∈l++m,p.has y:=fun y hy=>by
 rcases List.mem_append.1 hy with hy|hy
 ·exact h y hy
 ·exact h2 y hy
def all_nil {p:aR}:∀y∈([]:List W),p.has y:=fun y hy=>by cases hy
def all_cons {p:aR}{x:W}{l:List W}(h:p.has x)(h2:∀y∈l,p.has y):∀y∈x::l,p.has y:=fun y hy=>by
 rcases List.mem_cons.1 hy with rfl|hy
 ·exact h
 ·exact h2 y hy
def aR.elem {p:aR}{h:aC}{l:List W}(hS:p.S h l){i:Nat}{y:W}(hy:l[i]?=some y):p.has y:=p.sub h l hS y (bV hy)
def aR.aP {p:aR}{x:W}{k:Int}{s:List UInt8}{n a c:Int}{h:aC}{l:List W}(hx:x=W.mk k s n a c h l)(hS:p.S h l):p.has x:=by subst hx;exact hS
def aR.e:aR where
 bs:=[]
 S h l:=h=bj∧l=[]
 ok _:=True
 st _ _ _ _:=trivial
 lt _ _ b hb:=by cases hb
 rd w _ h l hS M _:=by obtain⟨rfl,rfl⟩:=hS;exact Rd.nil w M 6
 nil:=⟨rfl,rfl⟩
 sub h l hS y hy:=by obtain⟨_,rfl⟩:=hS;cases hy
section
variable {Z w w':World} {M:List Nat} {L:List an} {p q:aR} {h h':aC} {l l':List W} {T i:Nat} {x:W}
def St.Hu (O:St Z M w L):St Z M w (bO aR.e::L):=by
 have e:az (bO aR.e::L)=az L:=rfl;refine⟨O.os,O.tape,O.output,O.le,O.iN,fun x hx=>?_,e▸O.nodup,fun b hb=>O.src b (e▸hb)⟩;rcases List.mem_cons.1 hx with rfl|hx
 ·exact trivial
 ·exact O.own x hx
def St.du (O:St Z M w L)(i:Nat)(hi:L[i]?=some (bO p))(hS:p.S h l):aG w [] h.v av l:=p.rd w (O.ok hi) h l hS [] (fun _ _ h=>by cases h)
def aR.and (p:aR)(e:an)(S:aC→List W→Prop)(rd:∀w,e.ok w→p.ok w→∀h l,S h l→∀M:List Nat,(∀b∈e.bs++p.bs,b∉M)→aG w M h.v av l)(sub:∀h l,S h l→∀y∈l,S y.h y.ae∨p.has y):aR where
 bs:=e.bs++p.bs
 S h l:=p.S h l∨S h l
 ok w:=e.ok w∧p.ok w
 st w w' ho hk:=⟨an.Gy ho.1 fun b hb=>hk b (List.mem_append_left _ hb),p.st w w' ho.2 fun b hb=>hk b (List.mem_append_right _ hb)⟩
 lt w ho b hb:=by
  rcases List.mem_append.1 hb with hb|hb
  ·exact an.Az ho.1 hb
  ·exact p.lt w ho.2 b hb
 rd w ho h l hS M hM:=by
  rcases hS with hS|hS
  ·exact p.rd w ho.2 h l hS M fun b hb=>hM b (List.mem_append_right _ hb)
  ·exact rd w ho.1 ho.2 h l hS M hM
 nil:=.inl p.nil
 sub h l hS y hy:=by
  rcases hS with hS|hS
  ·exact .inl (p.sub h l hS y hy)
  ·rcases sub h l hS y hy with h1|h1
   ·exact .inr h1
   ·exact .inl h1
def St.and {e:an}{S:aC→List W→Prop}{rd sub}(O:St Z M w (e::bO p::L)):p.le (p.and e S rd sub)∧St Z M w (bO (p.and e S rd sub)::L):=by
 have e1:az (bO (p.and e S rd sub)::L)=az (e::bO p::L):=by
  rw[mh,mh,mh,←cC];rfl
 refine⟨⟨fun _ _ h=>.inl h,List.sublist_append_right _ _,fun w h=>h.2⟩,O.os,O.tape,O.output,O.le,O.iN,fun x hx=>?_,e1▸O.nodup,fun b hb=>O.src b (e1▸hb)⟩;rcases List.mem_cons.1 hx with rfl|hx
 ·exact⟨O.own _ aw,O.own (bO p) aw⟩
 ·exact O.own x (by simp [hx])
def St.freeze (O:St Z M w (ax h.v T av l::bO p::L))(hl:∀y∈l,p.has y):∃q:aR,p.le q∧q.S h l∧St Z M w (bO q::L):=by
 have h1:=St.and (S:=fun h' l'=>h'=h∧l'=l) (rd:=fun w he _ h' l' hS M hM=>by
     obtain⟨rfl,rfl⟩:=hS
     exact an.rd he fun b hb=>hM b (List.mem_append_left _ (Option.mem_toList.2 hb))) (sub:=fun h' l' hS y hy=>by
     obtain⟨rfl,rfl⟩:=hS
     exact .inr (hl y hy)) O
 exact⟨_,h1.1,.inr ⟨rfl,rfl⟩,h1.2⟩
def St.view (O:St Z M w (bO p::L))(hS:p.S h l)(hv:∀w M,aG w M h.v av l→aG w M h'.v av l')(hl:∀y∈l',p.has y):∃q:aR,p.le q∧q.S h' l'∧St Z M w (bO q::L):=by
 have hO':St Z M w (an.bx []::bO p::L):=O.eb;have h1:=St.and (S:=fun h2 l2=>h2=h'∧l2=l') (rd:=fun w _ hp h2 l2 hS2 M hM=>by
     obtain⟨rfl,rfl⟩:=hS2
     exact hv w M (p.rd w hp h l hS M fun b hb=>hM b (List.mem_append_right _ hb))) (sub:=fun h2 l2 hS2 y hy=>by
     obtain⟨rfl,rfl⟩:=hS2
     exact .inr (hl y hy)) hO'
 exact⟨_,h1.1,.inr ⟨rfl,rfl⟩,h1.2⟩
inductive W.In:W→W→Prop
 |here (x:W):W.In x x
 |sub {x y z:W}:y∈x.ae→W.In y z→W.In x z
def W.In.trans {x y z:W}(h:W.In x y)(h2:W.In y z):W.In x z:=by
 induction h with
 |here=>exact h2
 |sub hy _ ih=>exact .sub hy (ih h2)
def bS.agE {M:List Nat}{x y:W}(h:bS w M x)(hi:W.In x y):bS w M y:=by
 induction hi with
 |here=>exact h
 |sub hy _ ih=>exact ih (h.bK _ hy)
def aah {M:List Nat}:∀t:W,(nE T t).ok w→(∀b∈(nE T t).bs,b∉M)→bS w M t:=W.ind fun k s n a c h l ih hok hM=>by
 cases l with
 |nil=>exact .mk (HI hok w M) fun t ht=>by cases ht
 |cons t l=>
  rw[DL] at hok hM;have h1:(ax h.v T av (t::l)).ok w:=hok _ aw;have h2:(an.bx ((t::l).map (nE T))).ok w:=hok _ aw;refine .mk (an.rd h1 fun b hb=>hM b (wy.2 ⟨_,jL,Option.mem_toList.2 hb⟩)) fun s hs=>ih s hs (h2 _ (List.mem_map.2 ⟨s,hs,rfl⟩)) fun b hb=>hM b ?_;exact wy.2 ⟨_,lz _ jL,wy.2 ⟨_,List.mem_map.2 ⟨s,hs,rfl⟩,hb⟩⟩
def St.yU (O:St Z M w (nE T x::bO p::L)):∃q:aR,p.le q∧q.has x∧St Z M w (bO q::L):=by
 have h1:=St.and (S:=fun h' l'=>∃y,W.In x y∧h'=y.h∧l'=y.ae) (rd:=fun w he _ h' l' hS M hM=>by
     obtain⟨y,hy,rfl,rfl⟩:=hS
     exact ((aah x he fun b hb=>hM b (List.mem_append_left _ hb)).agE hy).aK) (sub:=fun h' l' hS y hy=>by
     obtain⟨z,hz,rfl,rfl⟩:=hS
     exact .inl ⟨y,hz.trans (.sub hy (.here y)),rfl,rfl⟩) O
 exact⟨_,h1.1,.inr ⟨x,.here x,rfl,rfl⟩,h1.2⟩
def St.At (O:St Z M w (bO q::L))(hq:p.le q):St Z M w (bO p::L):=by
 have hs:(az (bO p::L)).Sublist (az (bO q::L)):=by rw[mh,mh];exact hq.bs.append (List.Sublist.refl _)
 refine⟨O.os,O.tape,O.output,O.le,O.iN,fun x hx=>?_,hs.nodup O.nodup,fun b hb=>O.src b (hs.subset hb)⟩;rcases List.mem_cons.1 hx with rfl|hx
 ·exact hq.ok w (O.own (bO q) aw)
 ·exact O.own x (by simp [hx])
def St.N8 (O:St Z M w L)(i:Nat)(hi:L[i]?=some (bO p)):∀{x:W},p.has x→bS w [] x:=fun {x}=>
 W.ind (P:=fun x=>p.has x→bS w [] x) (fun k s n a c h l ih hx=>.mk (O.du i hi hx) fun t ht=>ih t ht (p.sub _ _ hx t ht)) x
end
abbrev FE (T b:Nat)(l c:Int)(bd:Bool):an:=.ob b T [str [],i64 l,i64 c,i64 (if bd then 31 else 0)]
def St.gH {Z w:World}{M:List Nat}{L:List an}{T b:Nat}{l c:Int}{x y:Bool}(e:x=y)(O:St Z M w (FE T b l c x::L)):St Z M w (FE T b l c y::L):=e▸O
section
variable {α β:Type}
def ez {x:FM α}{f:α→FM β}{c:β}{d:Bool}(h:(x >>= f)=some (c,d)):∃a b d1,x=some (a,b)∧f a=some (c,d1)∧d=(b||d1):=by
 have h:FM.bind x f=some (c,d):=h;unfold FM.bind at h
 cases x with
 |none=>cases h
 |some p=>
  obtain⟨a,b⟩:=p;dsimp only at h
  cases h2:f a with
  |none=>rw[h2] at h;cases h
  |some q=>
   obtain⟨e,d1⟩:=q;rw[h2] at h;cases h;exact⟨a,b,d1,rfl,h2,rfl⟩
def fz {a c:α}{d:Bool}(h:(pure a:FM α)=some (c,d)):a=c∧d=false:=by
 have h:(some (a,false):Option (α×Bool))=some (c,d):=h;cases h;exact⟨rfl,rfl⟩
def s8 {b e:Bool}{u:Unit}(h:fw b=some (u,e)):e=b:=by
 have h:(some ((),b):Option (Unit×Bool))=some (u,e):=h;cases h;rfl
def fY {c:α}{d:Bool}(h:(lj:FM α)=some (c,d)):False:=by cases h
end
def bR (y:X)(l:List X):aJ (y::l)=1+aL y+aJ l:=by rw[aJ]
def aqN {x y:W}{m:List W}(hs:x.ae=y::m):aL y.er+aJ (m.map W.er)+2=aL x.er:=by
 rw[lK x.er,W.cq,hs,bf,bR];omega
def Tc (y:W)(m:List W):aJ ((y::m).map W.er)=1+aL y.er+aJ (m.map W.er):=by rw[bf,bR]
def AG:∀l:List X,l.length≤aJ l
 | []=>dN _
 |y::l=>by
  have:=dx y;have:=AG l;rw[bR,bg];omega
def Gf (l:List W):l.length≤aJ (l.map W.er):=by
 have:=AG (l.map W.er)
 simpa using this
def dO {x y:W}{i:Nat}(hy:x.ae[i]?=some y):aL y.er+1≤aL x.er:=by
 have h:=bV hy;generalize hl:x.ae=l at h;have e:aL x.er=1+aJ (l.map W.er):=by rw[lK x.er,W.cq,hl]
 rw[e];clear hl e hy
 induction l with
 |nil=>cases h
 |cons z l ih=>
  rw[Tc];rcases List.mem_cons.1 h with rfl|h
  ·omega
  ·have:=ih h;omega
def V5 {l:List W}{y:W}{i:Nat}(hy:l[i]?=some y):aL y.er+1≤aJ (l.map W.er):=by
 have h:=bV hy;clear hy
 induction l with
 |nil=>cases h
 |cons z l ih=>
  rw[Tc];rcases List.mem_cons.1 h with rfl|h
  ·omega
  ·have:=ih h;omega
def Mk (l:List X):Prop:=3≤l.length∧l.length % 2=1∧∀(i:Nat) (o:X),l[i]?=some o→o.kind=24→i % 2=1
mutual
def jI:X→Prop
 | .mk k _ _ l=>(0≤k∧k≤100)∧(k=23→Mk l)∧AL l
def AL:List X→Prop
 | []=>True
 |a::l=>jI a∧AL l
end
def SN:∀{l:List X},AL l↔∀a∈l,jI a
 | []=>⟨fun _ _ h=>(by cases h),fun _=>by simp only[AL]⟩
 |a::l=>by
  simp only[AL,iS,forall_eq_or_imp];rw[SN]
def wY {n:X}:jI n↔(0≤n.kind∧n.kind≤100)∧(n.kind=23→Mk n.ae)∧∀a∈n.ae,jI a:=by
 cases n;simp only[jI,SN];exact Iff.rfl
def gh (n:X):Prop:=aL n≤274877906944∧jI n
def sX (l:List X):Prop:=l.length≤274877906944∧∀a∈l,gh a
def Cc {l:List X}{y:X}(h:y∈l):aL y+1≤aJ l:=by
 induction l with
 |nil=>cases h
 |cons z l ih=>
  rw[bR];rcases List.mem_cons.1 h with rfl|h
  ·omega
  ·have:=ih h;omega
def aet {n:X}(h:gh n):sX n.ae:=by
 have h1:=h.1;rw[lK] at h1;refine⟨?_,fun a ha=>⟨?_,(wY.1 h.2).2.2 a ha⟩⟩
 ·have:=AG n.ae;omega
 ·have:=Cc ha;omega
def ni {x:W}(h:gh x.er):sX (x.ae.map W.er):=W.cq x▸aet h
def Sd {l:List W}(h:sX (l.map W.er)):l.length≤274877906944:=by simpa using h.1
def MY {l:List W}{y:W}{i:Nat}(h:sX (l.map W.er))(hy:l[i]?=some y):gh y.er:=h.2 _ (List.mem_map_of_mem (bV hy))
def jH {x y:W}{i:Nat}(h:gh x.er)(hy:x.ae[i]?=some y):gh y.er:=MY (ni h) hy
def aiv {x:W}(h:gh x.er):0≤x.kind∧x.kind≤100:=by
 have:=(wY.1 h.2).1
 rwa [W.a8] at this
def M6 {x:W}(h:gh x.er)(hk:x.kind=23):3≤x.ae.length∧x.ae.length % 2=1∧∀(i:Nat) (o:W),x.ae[i]?=some o→o.kind=24→i % 2=1:=by
 have h1:=(wY.1 h.2).2.1 (by rw[W.a8];exact hk);rw[W.cq] at h1;exact⟨by simpa using h1.1,by simpa using h1.2.1,fun i o hi ho=>h1.2.2 i o.er (by rw[List.getElem?_map,hi];rfl) (by rw[W.a8];exact ho)⟩
def Su {l:List W}(h:l.length≤274877906944)(h2:∀y∈l,gh y.er):sX (l.map W.er):=⟨by simpa using h,fun a ha=>by
  obtain⟨y,hy,rfl⟩:=List.mem_map.1 ha
  exact h2 y hy⟩
def wZ {l:List W}{y:W}{i:Nat}(hy:l[i]?=some y):(l.drop i).map W.er=y.er::(l.drop (i+1)).map W.er:=by
 obtain⟨hi,rfl⟩:=List.getElem?_eq_some_iff.1 hy;rw[List.drop_eq_getElem_cons hi];rfl
open Go Go.Maps Go.WideAt
section
variable {P:Program} {w Z w':World} {k e t:TypeId} {b n:Nat} {f:Lit→Option Value} {M:List Nat} {L:List an} {o:Oper} {a:Act} {x y:Operand} {key z v:Value} {kl:Lit}
def xj (O:St Z M w L)(h:QV P o a w v):bG P o a w (fun u w'=>u=v∧St Z M w' L):=h.eff.mono fun u w' ⟨h1,h2⟩=>⟨h1,by rw[h2];exact O⟩
def VL {i:Nat}{u:Operand}(O:St Z M w L)(hi:L[i]?=some (an.mQ P k b n f))(K:Keyed P k)(ht:P.underlying t=some (.map k e))(hn:n<maxLen)(ho:o.op=.insert t x y u)(hx:a.eval x=.map (some b))(hy:a.eval y=key)(hu:a.eval u=v)(hkey:keyOf P k key=some kl):
  bG P o a w (fun u w'=>u=undef∧St Z M w' (L.set i (an.mQ P k b (n+1) (qN f kl v)))):=by
 obtain⟨w',hrun,h2,h3⟩:=(O.ok hi:iZ P w k b n f).put (v:=v) K ht hn hkey;refine bG.skip (w':=w') ?_ ⟨rfl,O.adm hi h3 rfl h2 rfl⟩;simp [execOp,ho,hx,hy,hu,hrun]
def sy {i:Nat}{u:Operand}{m:Int}(O:St Z M w L)(hi:L[i]?=some (an.mQ P k b n f))(hk:P.underlying k=some (.int .i64))(ht:P.underlying t=some (.map k e))(hc:n<9223372036854775807)(ho:o.op=.insert t x y u)(hx:a.eval x=.map (some b))(hy:a.eval y=i64 m)(hu:a.eval u=v)(hm: -9223372036854775808≤m∧m≤9223372036854775807):
  bG P o a w (fun u w'=>u=undef∧St Z M w' (L.set i (an.mQ P k b (n+1) (qN f (.int .i64 m) v)))):=
 VL O hi (int_keyed hk) ht (by unfold maxLen;exact hc) ho hx hy hu (keyOf_int_mk hk (Kq hm))
def aiU {i:Nat}{g:Int→Option Value}{m:Int}(O:St Z M w L)(hi:L[i]?=some (an.mQ P k b n f))(hf:kK f g)(hk:P.underlying k=some (.int .i64))(ht:P.underlying t=some (.map k e))(hz:(zeroValue e).run P w=.ok z w)(ho:o.op=.lookup t x y true)(hx:a.eval x=.map (some b))(hy:a.eval y=i64 m)(hm: -9223372036854775808≤m∧m≤9223372036854775807):
  QV P o a w (.tuple #[(g m).getD z,.bool (g m).isSome]):=by
 have h:=Sl O hi (int_keyed hk) ht hz ho hx hy (keyOf_int_mk hk (Kq hm))
 rwa [hf m] at h
def ahr:kK (fun _=>none) (fun _=>none):=fun _=>rfl
def r_3 {fn:Func}{R:Value→World→Prop}{m:Nat}{F:List (Nat×Value)}{j k l:Nat}{u v1:Value}(U:Fr a m F)(hr:fn.results=#[.tmp j,.tmp k,.tmp l])(h1:lk F j=some v)(h2:lk F k=some u)(h3:lk F l=some v1)(hR:R (.tuple #[v,u,v1]) w):rZ P fn R .ret a w:=by
 refine⟨U.defs,.tuple #[v,u,v1],?_,_,rfl,hR⟩;rw[show (results fn a.tmps).run P w=.ok (.tuple #[a.tmps.getD j undef,a.tmps.getD k undef,a.tmps.getD l undef]) w by simp [results,hr],U.get j v h1,U.get k u h2,U.get l v1 h3]
end
def alT (n:Int):(j0 n).map i64=(if n=23 then some (i64 47) else if n=35 then some (i64 51) else if n=19 then some (i64 46) else if n=32 then some (i64 49) else if n=31 then some (i64 48) else if n=39 then some (i64 50) else if n=21 then some (i64 45) else if n=20 then some (i64 44) else if n=38 then some (i64 43) else if n=18 then some (i64 42) else none):=by
 unfold j0
 split<;>simp_all
def ajl {n k:Int}{z:Value}(h:j0 n=some k):((j0 n).map i64).getD z=i64 k:=by rw[h];rfl
def aC.cut (h:aC)(j:Nat):aC:=⟨h.A,j,h.c⟩
def aC.ES (h:aC)(j s:Nat):aC:=⟨if h.c=j then h.A else h.A.map (·.add (j * s)),h.n - j,h.c - j⟩
def amq (h:aC)(j:Nat):(h.cut j).v=tH h.v j:=rfl
def acb (h:aC)(j s:Nat):(h.ES j s).v=pN h.v j s:=rfl
def aG.drop {α:Type}{E:fp α}{l:List α}{w:World}{M:List Nat}{v:Value}{j:Nat}(hR:aG w M v E l)(hj:j≤l.length):aG w M (pN v j E.size) E (l.drop j):=by
 have h:=aG.KZ hR hj (bQ _);rw[List.take_of_length_le (by rw[List.length_drop];omega)] at h;obtain⟨A,c,rfl,_⟩:=Rd.is hR;exact h
def Tz {x:W}{l:List W}{h:aC}(hx:(1<l.length∧∃a c:Int,x=W.mk 23 [] 0 a c h l)∨(l.length=1∧l[0]?=some x)):x.er=kM (l.map W.er):=by
 rcases hx with ⟨h1,a,c,rfl⟩| ⟨h1,h2⟩
 ·rw[bM,MN h1];rfl
 ·match l,h1,h2 with
  | [y],_,h2=>cases h2;rfl
def QC {p:aR}{x:W}{l:List W}{h:aC}(hx:(1<l.length∧∃a c:Int,x=W.mk 23 [] 0 a c h l)∨(l.length=1∧l[0]?=some x))(hS:p.S h l):p.has x:=by
 rcases hx with ⟨h1,a,c,rfl⟩| ⟨h1,h2⟩
 ·exact hS
 ·exact aR.elem hS h2
def amX (l:List X)(i:Nat):aJ (l.take i)≤aJ l:=by
 have h:=z6 (l.take i) (l.drop i);rw[List.take_append_drop] at h;omega
def akg (l:List X)(i:Nat):aJ (l.drop i)≤aJ l:=by
 have h:=z6 (l.take i) (l.drop i);rw[List.take_append_drop] at h;omega
def W_ {x y:W}{l:List W}(hw:gh x.er)(hk:x.kind=23)(hy:y.er=kM (l.map W.er))(hs:∀z∈l,z∈x.ae)(hn:aJ (l.map W.er)≤aJ (x.ae.map W.er))(ho:l.length=1∨Mk (l.map W.er)):gh y.er:=by
 have h1:=hw.1;rw[lK,W.cq] at h1;refine⟨?_,?_⟩
 ·rw[hy];have:=JI (l.map W.er);omega
 ·rw[hy];have hz:∀z∈l,jI z.er:=fun z hz=>(wY.1 hw.2).2.2 _ (by rw[W.cq];exact List.mem_map_of_mem (hs z hz));rcases ho with ho|ho
  ·match l,ho,hz with
   | [z],_,hz=>exact hz z aw
  ·have h2:1<l.length:=by have:=ho.1;simp at this;omega
   rw[MN h2];refine wY.2 ⟨⟨by show (0:Int)≤23;decide,by show (23:Int)≤100;decide⟩,fun _=>ho,fun a ha=>?_⟩;obtain⟨z,hz',rfl⟩:=List.mem_map.1 (show a∈l.map W.er from ha);exact hz z hz'
def amu {x y:W}{i:Nat}(hw:gh x.er)(hk:x.kind=23)(hy:y.er=kM ((x.ae.take i).map W.er))(hi:i % 2=1)(hl:i<x.ae.length):gh y.er:=by
 obtain⟨h1,h2,h3⟩:=M6 hw hk;refine W_ hw hk hy (fun z hz=>List.mem_of_mem_take hz) (by rw[List.map_take];exact amX _ _) ?_
 by_cases h4:i=1
 ·left;rw[gW];omega
 ·right;refine⟨by rw[dW,gW];omega,by rw[dW,gW];omega,fun j o hj ho=>?_⟩;rw[List.getElem?_map] at hj
  cases hz:(x.ae.take i)[j]? with
  |none=>rw[hz] at hj;cases hj
  |some z=>
   rw[hz] at hj;cases hj;rw[List.getElem?_take] at hz
   split at hz
   ·exact h3 j z hz (by rw[←W.a8];exact ho)
   ·cases hz
def aon {x y:W}{i:Nat}(hw:gh x.er)(hk:x.kind=23)(hy:y.er=kM ((x.ae.drop (i+1)).map W.er))(hi:i % 2=1)(hl:i<x.ae.length):gh y.er:=by
 obtain⟨h1,h2,h3⟩:=M6 hw hk;refine W_ hw hk hy (fun z hz=>List.mem_of_mem_drop hz) (by rw[List.map_drop];exact akg _ _) ?_
 by_cases h4:i+2=x.ae.length
 ·left;rw[List.length_drop];omega
 ·right;refine⟨by rw[dW,List.length_drop];omega,by rw[dW,List.length_drop];omega,fun j o hj ho=>?_⟩;rw[List.getElem?_map] at hj
  cases hz:(x.ae.drop (i+1))[j]? with
  |none=>rw[hz] at hj;cases hj
  |some z=>
   rw[hz] at hj;cases hj;rw[List.getElem?_drop] at hz;have:=h3 _ z hz (by rw[←W.a8];exact ho);omega
def ag3 {P:W→Prop}{x y:W}(h:P x)(h2:P y):∀z∈[x,y],P z:=fun z hz=>by
 rcases List.mem_cons.1 hz with rfl|hz
 ·exact h
 ·cases List.mem_singleton.1 hz;exact h2
def ae2 {l:List W}{i:Nat}{y:W}(hy:l[i]?=some y):(l.map W.er).getD i cc=y.er:=by
 rw[List.getD_eq_getElem?_getD,List.getElem?_map,hy];rfl
def wC (l l':List W)(i:Nat):Prop:=l'.length=l.length∧∀k,l'[k]?=if k<i∨l.length≤k+i then l.reverse[k]? else l[k]?
def wC.start (l:List W):wC l l 0:=⟨rfl,fun k=>by
  split
  · rename_i h
    have h:l.length≤k:=V
    rw[List.getElem?_eq_none V,List.getElem?_eq_none (by rw[List.length_reverse];omega)]
  · rfl⟩
def MU (l:List W){k:Nat}(h:k<l.length):l.reverse[k]?=l[l.length - 1 - k]?:=List.getElem?_reverse h
def wC.next {l l':List W}{i:Nat}{x y:W}(h:wC l l' i)(hi:i<l.length - 1 - i)(hx:l'[l.length - 1 - i]?=some x)(hy:l'[i]?=some y):wC l ((l'.set i x).set (l.length - 1 - i) y) (i+1):=by
 obtain⟨h1,h2⟩:=h;refine⟨by rw[List.length_set,List.length_set,h1],fun k=>?_⟩;have ex:l[l.length - 1 - i]?=some x:=by rw[←hx,h2,if_neg V]
 have ey:l[i]?=some y:=by rw[←hy,h2,if_neg V]
 by_cases e1:k=l.length - 1 - i
 ·rw[e1,List.getElem?_set_self (by rw[List.length_set];omega),if_pos V,MU l V,show l.length - 1 - (l.length - 1 - i)=i by omega,ey]
 ·rw[List.getElem?_set_ne (fun e=>e1 e.symm)]
  by_cases e2:k=i
  ·rw[e2,List.getElem?_set_self V,if_pos V,MU l V,ex]
  ·rw[List.getElem?_set_ne (fun e=>e2 e.symm),h2]
   by_cases e3:k<i∨l.length≤k+i
   ·rw[if_pos e3,if_pos V]
   ·rw[if_neg e3,if_neg V]
def wC.done {l l':List W}{i:Nat}(h:wC l l' i)(hi:¬i<l.length - 1 - i):l'=l.reverse:=by
 obtain⟨h1,h2⟩:=h;refine List.ext_getElem? fun k=>?_;rw[h2]
 by_cases e:k<i∨l.length≤k+i
 ·rw[if_pos e]
 ·rw[if_neg e];have:k=i:=V
  rw[MU l V]
  congr 1;omega
def DM (l:List X):Prop:=l.length≤274877906944∧∀a∈l,a.kind=15→gh a
def JP {l:List X}(h:sX l):DM l:=⟨h.1,fun a ha _=>h.2 a ha⟩
def Y5 {l:List W}{y:W}(h:l[l.length - 1]?=some y):(l.map W.er).getLastD cc=y.er:=by
 rw[List.getLastD_eq_getLast?,List.getLast?_eq_getElem?,dW,List.getElem?_map,h];rfl
def jG (pre:List W)(on:Bool)(D:W):List W:=match on with
 |true=>pre++[D]
 |false=>pre
def clE (T:Nat)(on:Bool)(D:W):an:=match on with
 |true=>ax D.h.v T av D.ae
 |false=>an.bx []
def MW (on:Bool)(n:Nat):Value:=match on with
 |true=>i64 n
 |false=>i64 (-1)
def DOk (D:W):Prop:=∃(c0:W) (m:List W) (p r:W),D.ae=c0::m∧c0.ae=[p,r]
def tz (l:List W)(y:W):(l++[y])[l.length]?=some y:=aw
def HH (l:List W)(y:W):((l++[y]).map W.er).getLastD cc=y.er:=by simp [List.getLastD_eq_getLast?]
def ZU {D c0 p r:W}{m:List W}(h:D.ae=c0::m)(h2:c0.ae=[p,r]):arity D.er=p.ae.length:=by
 unfold arity sub;rw[W.cq,h];show ((c0.er.ae.getD 0 cc).ae).length=_;rw[W.cq,h2];show p.er.ae.length=_;rw[W.cq,dW]
def GU (pre:List W)(D x:W)(h:aC):(pre++[W.mk D.kind D.name D.n D.line D.bh h (D.ae++[x])]).map W.er=CG ((pre++[D]).map W.er) x.er:=by
 unfold CG;rw[cZ,cZ,bf,bf,bX,List.getLast?_append,List.dropLast_concat];show _=_++[X.mk D.er.kind D.er.name D.er.n (D.er.ae++[x.er])];rw[bM,W.a8,W.cf,W.cO,W.cq,cZ];rfl
def setLast (l:List W)(x y:W):(l++[x]).set l.length y=l++[y]:=aw
def St.F9 {Z w:World}{M:List Nat}{L:List an}{T i:Nat}{l:List W}{h:aC}{x y:W}(O:St Z M w L)(hi:L[i]?=some (ax h.v T av ((l++[x]).set l.length y))):St Z M w (L.set i (ax h.v T av (l++[y]))):=by
 rw[setLast] at hi;have e:L.set i (ax h.v T av (l++[y]))=L:=by
  refine List.ext_getElem? fun j=>?_;rw[List.getElem?_set]
  split
  ·rename_i hj;subst hj
   split
   ·exact hi.symm
   ·rename_i h2;exact absurd (List.getElem?_eq_some_iff.1 hi).1 h2
  ·rfl
 rw[e];exact O
def St.H0 {Z w:World}{M:List Nat}{L:List an}{T i:Nat}{l:List W}{h:aC}{D:W}(O:St Z M w L)(hi:L[i]?=some (ax h.v T av l))(hs:D.ae=l)(hh:D.h=h):St Z M w (L.set i (ax D.h.v T av D.ae)):=by
 subst hs hh;have e:L.set i (ax D.h.v T av D.ae)=L:=by
  refine List.ext_getElem? fun j=>?_;rw[List.getElem?_set]
  split
  ·rename_i hj;subst hj
   split
   ·exact hi.symm
   ·rename_i h2;exact absurd (List.getElem?_eq_some_iff.1 hi).1 h2
  ·rfl
 rw[e];exact O
section
variable {P:Program} {id:Nat} {l:List Oper} {Q:Exit→Act→World→Prop} {a:Act} {w Z:World} {M:List Nat} {L Lb:List an} {is ks ord:List Nat}
def abd {E:Value→World→Prop}[hm:YM P](O:St Z M w L)(hE:∀v a' w',a'.defers=a.defers→E v w'→Q (.panic (pe v)) a' w')[hb:Am L is Lb](hn:yQ L.length is=true)(hlook:BG l.toArray ks ord=true)
  (h:∀w,St Z M w L→eH P l.toArray ks (fun w=>St Z M w Lb) E (Q .normal) ord a w):bJ (is,ks,ord) 0 ((Code.region id l.toArray true).wp P Q a w):=
 ⟨aiw ks ord _ E hm.h hlook (O.drew.s is hn) hE (h _ O.drew)⟩
def afJ {E:Value→World→Prop}(O:St Z M w L)(hE:∀v a' w',a'.defers=a.defers→E v w'→Q (.panic (pe v)) a' w')[hb:Am L is Lb](hn:yQ L.length is=true)(hlook:BG l.toArray ks ord=true)
  (h:eH P l.toArray ks (fun w=>St Z M w Lb) E (Q .normal) ord a w):bJ (is,ks,ord) 0 (OW P l Q a w):=
 ⟨afY ks ord _ E hlook (O.s is hn) hE h⟩
def zI {n:Nat}{o:Oper}{f:Nat}{args:List Operand}{vs:List Value}{ts:Array TypeId}{R E:Value→World→Prop}{F:List (Nat×Value)}(_:fZ P f vs.toArray w R E)(U:Fr a n F)(ho:o.op=.call {callee:=.value (.func f),args:=args.toArray,argTypes:=ts})(hv:pA F args=some vs)(hf:H5 P f=true:=by kernel_rfl):(execOp a.eval o).run P w=.ok (.enter f vs.toArray) w:=
 kF U ho hv (T9 hf)
end
def fk {P:Program}{f m:Nat}{fn:Func}{c:Code}{w:World}{l:List Value}{F:List (Nat×Value)}{R E:Value→World→Prop}(hf:P.funcs[f]?=some fn)(hm:fn.ntmps=m)[hz:uN l F](h:∀a,Fr a m F→c.wp P (Jb P fn R E) a w)
  (hb:fn.body=some c:=by rfl) (hle:Nat.ble l.length m=true:=by rfl):fZ P f l.toArray w R E:=by
 refine apq (m:=m) hf hb hm F (by simpa using hle) ?_ h;rw[←hz.h];refine K8 _ _ fun k v hm=>?_;simp only[List.range_eq_range'] at hm ⊢;have:=LL l 0 k v hm
 simpa using this
class GJ (L:List an)(p:outParam aR):Prop where
 h:∃i:Nat,L[i]?=some (bO p)
instance {e:an}{L:List an}{p:aR}[h:GJ L p]:GJ (e::L) p:=⟨by obtain⟨i,hi⟩:=h.h;exact⟨i+1,hi⟩⟩
instance {L:List an}{p:aR}:GJ (bO p::L) p:=⟨0,rfl⟩
section
variable {P:Program} {o:Oper} {a:Act} {w Z:World} {M:List Nat} {L L':List an} {p:aR} {h:aC} {l r:List W} {T b n i j:Nat} {xs:List Value} {v u:Value}
def Mc [q:GJ L p](O:St Z M w L)(hS:p.S h l):aG w [] h.v av l:=by
 obtain⟨i,hi⟩:=q.h;exact O.du i hi hS
def St.dJ (O:St Z M w (.sl (.slice (some (aa b)) n n) T 6 n xs::L))(l:List W)(hx:xs=flat av l:=by rfl)(hn:n=l.length:=by rfl):St Z M w (ax (aC.v ⟨some (aa b),n,n⟩) T av l::L):=by
 subst hx hn;exact O
structure Wp (r:List W)(i j:Nat)(p:Prop):Prop where
 h:p
def cR {p:Prop}(r:List W)(i j:Nat)(h:p):Wp r i j p:=⟨h⟩
def aoW {q:Prop}{t:TypeId}{x y:Operand}{inf:TypeInfo}{zv:Value}{e2:Nat}{v2:Value}{L1:aC→List an}(c:Wp r i j q)(O:St Z M w L)(hi:L[i]?=some (ax v T av l))(hj:L[j]?=some (.sl v2 e2 6 r.length (flat av r)))
  (ho:o.op=.call {callee:=.builtin .append,args:=#[x,y],argTypes:=#[t,t]}) (hx:a.eval x=v) (hy:a.eval y=v2) [hu:YU P t (.slice T)] [hin:YI P T inf]
  (hz:inf.zero=some zv) (hs:inf.size=6) (hb:inf.bytes=72) (hzs:zv.cells.size=6)
  [hL:∀h:aC,E9 L i (ax h.v T av (l++r)) (L1 h)]
  (hm:q→(l.length+r.length) * 72≤140737488355328:=by
    intro hq
    first
    |omega
    | (simp only[bg,bp,bt];omega)
    | (simp only[jG,bt,bg,bp] at hq;first|omega| (simp only[bg,bp,bt];omega))):bG P o a w (fun u w'=>∃h:aC,u=h.v∧St Z M w' (L1 h)):=by
 have h1:=hm c.h;refine (iJ (E:=av) (bytes:=72) (r:=r) O hi (O.rd j hj) hu.h hin.h hz hs hb hzs rfl ho hx hy h1 V).mono fun u w' hS=>?_;have hi':i<L.length:=(List.getElem?_eq_some_iff.1 hi).1;obtain⟨h,rfl⟩:=Rd.Hd (hS.rd i (by rw[List.getElem?_set_self hi'];rfl));refine⟨h,rfl,?_⟩;rw[(hL h).h] at hS;exact hS
def Rr {H:Prop}{R:Value→World→Prop}(c:H)(h:H→bG P o a w R:=by intro c;exact aoW c O rfl rfl rfl (U.af rfl) (U.af rfl) rfl rfl rfl rfl):bG P o a w R:=h c
end
section
variable {P:Program} {ops:Array Oper} {Q:Exit→Act→World→Prop} {rest:List Oper} {is:List Nat} {o:Oper} {a:Act} {w:World} {v:Value} {n i d:Nat} {F:List (Nat×Value)} {R E2:Value→World→Prop} {S:World→Prop} {E:Value→World→Prop} {K:Act→World→Prop} {ks:List Nat}
def fF (hi:ops[i]?=some o)(U:Fr a n F)(h:bG P o a w R)(next:∀a v w,R v w→Fr a n F→eH P ops ks S E K is a w)(hk:ks.getD i 0=3:=by rfl)(hg:o.guard=none:=by rfl)(hd:o.dst=none:=by rfl):eH P ops ks S E K (i::is) a w:=Ms hi hk U hg hd h next
def pn (hi:ops[i]?=some o)(U:Fr a n F)(h:bG P o a w R)(hS:∀v w',R v w'→S w')(next:∀a v w,R v w→Fr a n ((d,v)::F)→eH P ops ks S E K is a w)(hk:ks.getD i 0=2:=by rfl)(hg:o.guard=none:=by rfl)(hd:o.dst=some d:=by rfl)(hn:Nat.ble (d+1) n=true:=by rfl):eH P ops ks S E K (i::is) a w:=yJ hi hk U hg hd hn h hS next
def Ai (hi:ops[i]?=some o)(U:Fr a n F)(h:bG P o a w R)(next:∀a v w,R v w→Fr a n ((d,v)::F)→eH P ops ks S E K is a w)(hk:ks.getD i 0=3:=by rfl)(hg:o.guard=none:=by rfl)(hd:o.dst=some d:=by rfl)(hn:Nat.ble (d+1) n=true:=by rfl):eH P ops ks S E K (i::is) a w:=AX hi hk U hg hd hn h next
def lH (hi:ops[i]?=some o)(U:Fr a n F)(h:∀w,S w→QV P o a w v)(next:∀a,Fr a n ((d,v)::F)→eH P ops ks S E K is a w)(hk:ks.getD i 0=1:=by rfl)(hg:o.guard=none:=by rfl)(hd:o.dst=some d:=by rfl)(hn:Nat.ble (d+1) n=true:=by rfl):eH P ops ks S E K (i::is) a w:=A8 hi hk U hg hd hn h next
def sD (hi:ops[i]?=some o)(U:Fr a n F)(h:∀w,QV P o a w v)(next:∀a,Fr a n ((d,v)::F)→eH P ops ks S E K is a w)(hk:ks.getD i 0=0:=by rfl)(hg:o.guard=none:=by rfl)(hd:o.dst=some d:=by rfl)(hn:Nat.ble (d+1) n=true:=by rfl):eH P ops ks S E K (i::is) a w:=vA hi hk U hg hd hn h next
end
def St.kN {Z w:World}{M:List Nat}{L:List an}(O:St Z M w L)(T:Nat):St Z M w (ax (aC.v bj) T av ([]:List W)::L):=O.eI T 6
abbrev HK:List Nat:=[0,1,2,3]
abbrev YN:List Nat:=[0,1,2,3,4]
abbrev rg6:List Nat:=[0,1,2,3,4,5]
abbrev qi:List Nat:=[0,1,2,3,4,5,6]
abbrev gB:List Nat:=[0,1,2,3,4,5,6,7]
abbrev xu:List Nat:=[0,1,2,3,4,5,6,7,8]
abbrev ly:List Nat:=[0,1,2,3,4,5,6,7,8,9]
abbrev zt:List Nat:=[0,1,2,3,4,5,6,7,8,9,10]
abbrev DY:List Nat:=[0,1,2,3,4,5,6,7,8,9,10,11]
abbrev By:List Nat:=[0,1,2,3,4,5,6,7,8,9,10,11,12]
abbrev Y7:List Nat:=[0,1,2,3,4,5,6,7,8,9,10,11,12,13]
abbrev Pz:List Nat:=[0,1,2,3,4,5,6,7,8,9,10,11,12,13,14]
abbrev NY:List Nat:=[0,1,2,3,4,5,6,7,8,9,10,11,12,13,14,15]
abbrev TU:List Nat:=[0,1,2,3,4,5,6,7,8,9,10,11,12,13,14,15,16]
def St.shr {Z w:World}{M:List Nat}{L R:List an}{p q:aR}[h:EL L (bO q) R](O:St Z M w L)(le:p.le q):St Z M w (bO p::R):=St.At (O.perm h.h.symm) le
open Go.Maps Go.WideAt in
def MJ {P:Program}{Z w:World}{k t e:TypeId}{b n i:Nat}{f f':Lit→Option Value}{M:List Nat}{L:List an}{o:Oper}{a:Act}{x y u:Operand}{v:Value}{m:Int}{G:Int→Option Value}{F:List (Nat×Value)}{N:Nat}(c:kK (qN f' (.int .i64 m) v) G)(U:Fr a N F)(O:St Z M w L)(hi:L[i]?=some (an.mQ P k b n f))(ho:o.op=.insert t x y u)(hx:a.eval x=.map (some b))(hy:a.eval y=i64 m)(hu:a.eval u=v)[hk:YU P k (.int .i64)][ht:YU P t (.map k e)](hc:n<9223372036854775807)(hm: -9223372036854775808≤m∧m≤9223372036854775807):
 bG P o a w (fun u w'=>u=undef∧St Z M w' (L.set i (an.mQ P k b (n+1) (qN f (.int .i64 m) v)))):=sy O hi hk.h ht.h hc ho hx hy hu hm
def zIm {P:Program}{w:World}{o:Oper}{a:Act}{R:Value→World→Prop}{H:Prop}(c:H)(h:H→bG P o a w R:=by
  intro c
  first
  |exact MJ c U O (i:=0) rfl rfl (U.af rfl) (U.af rfl) (U.af rfl) ai ai
  |exact MJ c U O (i:=1) rfl rfl (U.af rfl) (U.af rfl) (U.af rfl) ai ai
  |exact MJ c U O (i:=2) rfl rfl (U.af rfl) (U.af rfl) (U.af rfl) ai ai):bG P o a w R:=h c
def Zo (n:Nat)(is ks ord:List Nat){G K:Prop}(k:K)(h:K→bJ (cP.o,(is,ks,ord)) n G:=by intro k;refine zz trivial trivial k):G:=(h k).go
def Zq (is ks ord:List Nat){G K:Prop}(k:K)(h:K→bJ (is,ks,ord) 0 G:=by
  intro k
  (refine afJ O (by intro v a2 w2 hd h;first| ((repeat (with_unfolding_none (first|refine eL ?_ |refine js ?_)));exact gU (hd.trans U.defs) h)|exact False.elim h) rfl eE ?_;exact k)):G:=(h k).go
def Ze (n:Nat){G C K:Prop}(c:C)(k:K)(h:C→K→bJ (cP.e,()) n G:=by intro c k;refine zz c trivial k):G:=(h c k).go
def Zm (n:Nat){G C K:Prop}(c:C)(k:K)(h:C→K→bJ (cP.m,()) n G:=by intro c k;refine zz c trivial k):G:=(h c k).go
def Yp (n:Nat){G C K:Prop}(c:C)(k:K)(h:C→K→bJ (cP.P,([]:List Nat)) n G:=by intro c k;refine zz c trivial k):G:=(h c k).go
def Xp (n:Nat)(is:List Nat){G C K:Prop}(c:C)(k:K)(h:C→K→bJ (cP.P,is) n G:=by intro c k;refine zz c trivial k):G:=(h c k).go
def Yq (n:Nat){G C D K:Prop}(c:C)(d:D)(k:K)(h:C→D→K→bJ (cP.Q,([]:List Nat)) n G:=by intro c d k;refine zz c d k):G:=(h c d k).go
def Xq (n:Nat)(is:List Nat){G C D K:Prop}(c:C)(d:D)(k:K)(h:C→D→K→bJ (cP.Q,is) n G:=by intro c d k;refine zz c d k):G:=(h c d k).go
def Yz (n:Nat){G C K:Prop}(c:C)(k:K)(h:C→K→bJ (cP.z,()) n G:=by intro c k;refine zz c trivial k):G:=(h c k).go
def Ye (n:Nat){G C D K:Prop}(c:C)(d:D)(k:K)(h:C→D→K→bJ (cP.E,([]:List Nat)) n G:=by intro c d k;refine zz c d k):G:=(h c d k).go
def Ym (n:Nat){G C D K:Prop}(c:C)(d:D)(k:K)(h:C→D→K→bJ (cP.M,([]:List Nat)) n G:=by intro c d k;refine zz c d k):G:=(h c d k).go
def Xe (n:Nat)(is:List Nat){G C D K:Prop}(c:C)(d:D)(k:K)(h:C→D→K→bJ (cP.E,is) n G:=by intro c d k;refine zz c d k):G:=(h c d k).go
def Xm (n:Nat)(is:List Nat){G C D K:Prop}(c:C)(d:D)(k:K)(h:C→D→K→bJ (cP.M,is) n G:=by intro c d k;refine zz c d k):G:=(h c d k).go
def Wr (n:Nat){G C K:Prop}(c:C)(k:K)(h:C→K→bJ (cP.R,()) n G:=by intro c k;refine zz c trivial k):G:=(h c k).go
def Za (n:Nat){G C K:Prop}(c:C)(k:K)(h:C→K→bJ (cP.a,()) n G:=by intro c k;refine zz c trivial k):G:=(h c k).go
instance:type_of% (YU.mk underlying2):=⟨underlying2⟩
instance:type_of% (YU.mk underlying3):=⟨underlying3⟩
instance:type_of% (YU.mk underlying5):=⟨underlying5⟩
instance:type_of% (YU.mk underlying9):=⟨underlying9⟩
instance:type_of% (YU.mk underlying21):=⟨underlying21⟩
instance:type_of% (YU.mk underlying22):=⟨underlying22⟩
instance:type_of% (YU.mk underlying26):=⟨underlying26⟩
instance:type_of% (YU.mk underlying28):=⟨underlying28⟩
instance:type_of% (YU.mk underlying29):=⟨underlying29⟩
instance:type_of% (YU.mk underlying31):=⟨underlying31⟩
instance:type_of% (YU.mk underlying37):=⟨underlying37⟩
instance:type_of% (YU.mk underlying44):=⟨underlying44⟩
instance:type_of% (YU.mk underlying47):=⟨underlying47⟩
instance:type_of% (YU.mk underlying51):=⟨underlying51⟩
instance:type_of% (YU.mk underlying53):=⟨underlying53⟩
instance:type_of% (YU.mk underlying56):=⟨underlying56⟩
instance:type_of% (YU.mk underlying70):=⟨underlying70⟩
instance:type_of% (YU.mk underlying77):=⟨underlying77⟩
instance:type_of% (YU.mk underlying83):=⟨underlying83⟩
instance:type_of% (YU.mk underlying85):=⟨underlying85⟩
instance:type_of% (YU.mk underlying100):=⟨underlying100⟩
instance:type_of% (YU.mk underlying106):=⟨underlying106⟩
instance:type_of% (YU.mk underlying107):=⟨underlying107⟩
instance:type_of% (YU.mk underlying113):=⟨underlying113⟩
instance:type_of% (YU.mk underlying115):=⟨underlying115⟩
instance:type_of% (YU.mk underlying125):=⟨underlying125⟩
instance:type_of% (YU.mk underlying131):=⟨underlying131⟩
instance:type_of% (YU.mk underlying139):=⟨underlying139⟩
instance:type_of% (YU.mk underlying143):=⟨underlying143⟩
instance:type_of% (YU.mk underlying152):=⟨underlying152⟩
instance:type_of% (YU.mk underlying158):=⟨underlying158⟩
instance:type_of% (YU.mk underlying167):=⟨underlying167⟩
instance:type_of% (YU.mk underlying169):=⟨underlying169⟩
instance:type_of% (YU.mk underlying171):=⟨underlying171⟩
instance:type_of% (YU.mk underlying176):=⟨underlying176⟩
instance:type_of% (YU.mk underlying182):=⟨underlying182⟩
instance:type_of% (YU.mk underlying187):=⟨underlying187⟩
instance:type_of% (YU.mk underlying191):=⟨underlying191⟩
instance:type_of% (YU.mk underlying197):=⟨underlying197⟩
instance:type_of% (YU.mk underlying202):=⟨underlying202⟩
instance:type_of% (YU.mk underlying205):=⟨underlying205⟩
instance:type_of% (YU.mk underlying207):=⟨underlying207⟩
instance:type_of% (YU.mk underlying208):=⟨underlying208⟩
instance:type_of% (YU.mk underlying211):=⟨underlying211⟩
instance:type_of% (YU.mk underlying217):=⟨underlying217⟩
instance:type_of% (YU.mk underlying218):=⟨underlying218⟩
instance:type_of% (YU.mk underlying219):=⟨underlying219⟩
instance:type_of% (YU.mk underlying222):=⟨underlying222⟩
instance:type_of% (YU.mk underlying223):=⟨underlying223⟩
instance:YS prog 3 1:=⟨sizeOf3⟩
instance:YS prog 4 1:=⟨sizeOf4⟩
instance:YS prog 5 1:=⟨sizeOf5⟩
instance:YS prog 9 1:=⟨sizeOf9⟩
instance:YS prog 22 1:=⟨sizeOf22⟩
instance:YS prog 26 1:=⟨sizeOf26⟩
instance:YS prog 28 6:=⟨sizeOf28⟩
instance:YS prog 29 1:=⟨sizeOf29⟩
instance:YS prog 31 4:=⟨sizeOf31⟩
instance:YS prog 35 1:=⟨sizeOf35⟩
instance:YS prog 44 5:=⟨sizeOf44⟩
instance:YS prog 47 4:=⟨sizeOf47⟩
instance:YS prog 49 1:=⟨sizeOf49⟩
instance:YS prog 51 3:=⟨sizeOf51⟩
instance:YS prog 58 1:=⟨sizeOf58⟩
instance:YS prog 60 1:=⟨sizeOf60⟩
instance:YS prog 64 1:=⟨sizeOf64⟩
instance:YS prog 83 1:=⟨sizeOf83⟩
instance:YS prog 100 1:=⟨sizeOf100⟩
instance:YS prog 103 1:=⟨sizeOf103⟩
instance:YS prog 106 3:=⟨sizeOf106⟩
instance:YS prog 107 1:=⟨sizeOf107⟩
instance:YS prog 110 1:=⟨sizeOf110⟩
instance:YS prog 113 1:=⟨sizeOf113⟩
instance:YS prog 115 2:=⟨sizeOf115⟩
instance:YS prog 152 4:=⟨sizeOf152⟩
instance:YS prog 158 1:=⟨sizeOf158⟩
instance:YS prog 167 1:=⟨sizeOf167⟩
instance:YS prog 171 1:=⟨sizeOf171⟩
instance:YS prog 182 256:=⟨sizeOf182⟩
instance:YS prog 207 2:=⟨sizeOf207⟩
instance:YS prog 208 32:=⟨sizeOf208⟩
instance:YS prog 217 20:=⟨sizeOf217⟩
instance:YS prog 222 32:=⟨sizeOf222⟩
instance:YS prog 223 64:=⟨sizeOf223⟩
instance:YA prog 3 false:=⟨isAgg3⟩
instance:YA prog 4 false:=⟨isAgg4⟩
instance:YA prog 5 false:=⟨isAgg5⟩
instance:YA prog 9 false:=⟨isAgg9⟩
instance:YA prog 22 false:=⟨isAgg22⟩
instance:YA prog 26 false:=⟨isAgg26⟩
instance:YA prog 28 true:=⟨isAgg28⟩
instance:YA prog 29 false:=⟨isAgg29⟩
instance:YA prog 31 true:=⟨isAgg31⟩
instance:YA prog 35 false:=⟨isAgg35⟩
instance:YA prog 44 true:=⟨isAgg44⟩
instance:YA prog 49 false:=⟨isAgg49⟩
instance:YA prog 58 false:=⟨isAgg58⟩
instance:YA prog 60 false:=⟨isAgg60⟩
instance:YA prog 64 false:=⟨isAgg64⟩
instance:YA prog 83 false:=⟨isAgg83⟩
instance:YA prog 100 false:=⟨isAgg100⟩
instance:YA prog 103 false:=⟨isAgg103⟩
instance:YA prog 107 false:=⟨isAgg107⟩
instance:YA prog 110 false:=⟨isAgg110⟩
instance:YA prog 113 false:=⟨isAgg113⟩
instance:YA prog 115 true:=⟨isAgg115⟩
instance:YA prog 152 true:=⟨isAgg152⟩
instance:YA prog 158 false:=⟨isAgg158⟩
instance:YA prog 167 false:=⟨isAgg167⟩
instance:YA prog 171 false:=⟨isAgg171⟩
instance:YA prog 182 true:=⟨isAgg182⟩
instance:YA prog 207 true:=⟨isAgg207⟩
instance:type_of% (YZ.mk zeroValue3):=⟨zeroValue3⟩
instance:type_of% (YZ.mk zeroValue5):=⟨zeroValue5⟩
instance:type_of% (YZ.mk zeroValue9):=⟨zeroValue9⟩
instance:type_of% (YZ.mk zeroValue26):=⟨zeroValue26⟩
instance:type_of% (YZ.mk zeroValue28):=⟨zeroValue28⟩
instance:type_of% (YZ.mk zeroValue31):=⟨zeroValue31⟩
instance:type_of% (YZ.mk zeroValue37):=⟨zeroValue37⟩
instance:type_of% (YZ.mk zeroValue44):=⟨zeroValue44⟩
instance:type_of% (YZ.mk zeroValue47):=⟨zeroValue47⟩
instance:type_of% (YZ.mk zeroValue51):=⟨zeroValue51⟩
instance:type_of% (YZ.mk zeroValue53):=⟨zeroValue53⟩
instance:type_of% (YZ.mk zeroValue56):=⟨zeroValue56⟩
instance:type_of% (YZ.mk zeroValue58):=⟨zeroValue58⟩
instance:type_of% (YZ.mk zeroValue70):=⟨zeroValue70⟩
instance:type_of% (YZ.mk zeroValue85):=⟨zeroValue85⟩
instance:type_of% (YZ.mk zeroValue106):=⟨zeroValue106⟩
instance:type_of% (YZ.mk zeroValue107):=⟨zeroValue107⟩
instance:type_of% (YZ.mk zeroValue115):=⟨zeroValue115⟩
instance:type_of% (YZ.mk zeroValue143):=⟨zeroValue143⟩
instance:type_of% (YZ.mk zeroValue152):=⟨zeroValue152⟩
instance:type_of% (YZ.mk zeroValue169):=⟨zeroValue169⟩
instance:type_of% (YZ.mk zeroValue182):=⟨zeroValue182⟩
instance:type_of% (YZ.mk zeroValue191):=⟨zeroValue191⟩
instance:type_of% (YZ.mk zeroValue202):=⟨zeroValue202⟩
instance:type_of% (YZ.mk zeroValue207):=⟨zeroValue207⟩
instance:type_of% (YZ.mk zeroValue208):=⟨zeroValue208⟩
instance:type_of% (YZ.mk zeroValue211):=⟨zeroValue211⟩
instance:type_of% (YZ.mk zeroValue217):=⟨zeroValue217⟩
instance:type_of% (YZ.mk zeroValue219):=⟨zeroValue219⟩
instance:type_of% (YZ.mk zeroValue222):=⟨zeroValue222⟩
instance:type_of% (YZ.mk zeroValue223):=⟨zeroValue223⟩
instance:YI prog 5 Tryz.t5:=⟨xR⟩
instance:YI prog 28 Tryz.t28:=⟨ET⟩
instance:YI prog 44 Tryz.t44:=⟨pV⟩
instance:YI prog 115 Tryz.t115:=⟨FL⟩
instance:YL prog 28 [0,1,2,3,4,5]:=⟨ahW⟩
instance:YL prog 31 [0,1,2,3]:=⟨ajU⟩
instance:YL prog 44 [0,1,2,3,4]:=⟨agw⟩
instance:YL prog 51 [0,1,2]:=⟨aey⟩
instance:YL prog 70 [0,1,2,3]:=⟨apl⟩
instance:YL prog 106 [0,1,2]:=⟨aif⟩
instance:YL prog 115 [0,1]:=⟨akb⟩
instance:YL prog 143 [0,1,2,3]:=⟨ajv⟩
instance:YF prog 28 0 0:=⟨_,_,_,underlying28,rfl,sizeOf3,ai,rfl⟩
instance:YF prog 28 1 1:=⟨_,_,_,underlying28,rfl,sizeOf9,ai,rfl⟩
instance:YF prog 28 2 2:=⟨_,_,_,underlying28,rfl,sizeOf3,ai,rfl⟩
instance:YF prog 28 3 3:=⟨_,_,_,underlying28,rfl,sizeOf3,ai,rfl⟩
instance:YF prog 28 4 4:=⟨_,_,_,underlying28,rfl,sizeOf3,ai,rfl⟩
instance:YF prog 28 5 5:=⟨_,_,_,underlying28,rfl,sizeOf26,ai,rfl⟩
instance:YF prog 31 1 1:=⟨_,_,_,underlying31,rfl,sizeOf3,ai,rfl⟩
instance:YF prog 31 2 2:=⟨_,_,_,underlying31,rfl,sizeOf3,ai,rfl⟩
instance:YF prog 31 3 3:=⟨_,_,_,underlying31,rfl,sizeOf29,ai,rfl⟩
instance:YF prog 37 0 0:=⟨_,_,_,underlying37,rfl,sizeOf22,ai,rfl⟩
instance:YF prog 44 0 0:=⟨_,_,_,underlying44,rfl,sizeOf3,ai,rfl⟩
instance:YF prog 44 1 1:=⟨_,_,_,underlying44,rfl,sizeOf9,ai,rfl⟩
instance:YF prog 44 2 2:=⟨_,_,_,underlying44,rfl,sizeOf3,ai,rfl⟩
instance:YF prog 44 3 3:=⟨_,_,_,underlying44,rfl,sizeOf3,ai,rfl⟩
instance:YF prog 44 4 4:=⟨_,_,_,underlying44,rfl,sizeOf3,ai,rfl⟩
instance:YF prog 47 0 0:=⟨_,_,_,underlying47,rfl,sizeOf31,ai,rfl⟩
instance:YF prog 51 0 0:=⟨_,_,_,underlying51,rfl,sizeOf22,ai,rfl⟩
instance:YF prog 51 1 1:=⟨_,_,_,underlying51,rfl,sizeOf3,ai,rfl⟩
instance:YF prog 51 2 2:=⟨_,_,_,underlying51,rfl,sizeOf3,ai,rfl⟩
instance:YF prog 53 0 0:=⟨_,_,_,underlying53,rfl,sizeOf51,ai,rfl⟩
instance:YF prog 56 0 0:=⟨_,_,_,underlying56,rfl,sizeOf31,ai,rfl⟩
instance:YF prog 70 0 0:=⟨_,_,_,underlying70,rfl,sizeOf9,ai,rfl⟩
instance:YF prog 70 1 1:=⟨_,_,_,underlying70,rfl,sizeOf3,ai,rfl⟩
instance:YF prog 70 2 2:=⟨_,_,_,underlying70,rfl,sizeOf3,ai,rfl⟩
instance:YF prog 70 3 3:=⟨_,_,_,underlying70,rfl,sizeOf3,ai,rfl⟩
instance:YF prog 85 0 0:=⟨_,_,_,underlying85,rfl,sizeOf22,ai,rfl⟩
instance:YF prog 85 1 1:=⟨_,_,_,underlying85,rfl,sizeOf83,ai,rfl⟩
instance:YF prog 85 2 2:=⟨_,_,_,underlying85,rfl,sizeOf31,ai,rfl⟩
instance:YF prog 106 0 0:=⟨_,_,_,underlying106,rfl,sizeOf35,ai,rfl⟩
instance:YF prog 106 1 1:=⟨_,_,_,underlying106,rfl,sizeOf103,ai,rfl⟩
instance:YF prog 106 2 2:=⟨_,_,_,underlying106,rfl,sizeOf60,ai,rfl⟩
instance:YF prog 115 0 0:=⟨_,_,_,underlying115,rfl,sizeOf9,ai,rfl⟩
instance:YF prog 115 1 1:=⟨_,_,_,underlying115,rfl,sizeOf3,ai,rfl⟩
instance:YF prog 143 0 0:=⟨_,_,_,underlying143,rfl,sizeOf9,ai,rfl⟩
instance:YF prog 143 1 1:=⟨_,_,_,underlying143,rfl,sizeOf3,ai,rfl⟩
instance:YF prog 143 2 2:=⟨_,_,_,underlying143,rfl,sizeOf3,ai,rfl⟩
instance:YF prog 143 3 3:=⟨_,_,_,underlying143,rfl,sizeOf22,ai,rfl⟩
instance:YF prog 169 0 0:=⟨_,_,_,underlying169,rfl,sizeOf167,ai,rfl⟩
instance:YF prog 169 1 1:=⟨_,_,_,underlying169,rfl,sizeOf113,ai,rfl⟩
instance:YF prog 207 0 0:=⟨_,_,_,underlying207,rfl,sizeOf5,ai,rfl⟩
instance:YF prog 207 1 1:=⟨_,_,_,underlying207,rfl,sizeOf5,ai,rfl⟩
instance:type_of% (YG.mk Xv):=⟨Xv⟩
instance:type_of% (YG.mk Pw):=⟨Pw⟩
instance:type_of% (YG.mk XF):=⟨XF⟩
instance:YD prog 44 0 0:=⟨_,_,underlying44,rfl,isAgg3,rfl⟩
instance:YD prog 44 1 1:=⟨_,_,underlying44,rfl,isAgg9,rfl⟩
instance:YD prog 44 2 2:=⟨_,_,underlying44,rfl,isAgg3,rfl⟩
instance:YM prog:=⟨iD⟩
def rQ (T:Nat)(h:aC)(l:List W):an:=match l with
 | []=>an.gp [] (fun w=>aG w [] h.v av []) (fun _ w' h _=>HI h w' []) (fun _ _ b hb=>by cases hb)
 |t::l=>ax h.v T av (t::l)
section
variable {Z w:World} {M:List Nat} {L:List an} {p:aR} {T i:Nat} {h:aC} {l l':List W} {x y:W}
def St.Ec (O:St Z M w (nE T x::L)):St Z M w (rQ T x.h x.ae::an.bx (x.ae.map (nE T))::L):=by
 obtain⟨k,s,n,a,c,h,l⟩:=x
 cases l with
 |nil=>
  show St Z M w (nE T (.mk k s n a c h [])::an.bx []::L);exact (O.eb).pull 1 rfl
 |cons t l=>exact O.unN
def St.Dy (O:St Z M w L)(i:Nat)(hi:L[i]?=some (rQ T h l)):aG w [] h.v av l:=by
 cases l with
 |nil=>exact (O.ok hi:(rQ T h []).ok w)
 |cons t l=>exact O.bW i (show L[i]?=some (ax h.v T av (t::l)) from hi)
def St.agF (O:St Z M w (rQ T h l::bO p::L))(hl:∀y∈l,p.has y):∃q:aR,p.le q∧q.S h l∧St Z M w (bO q::L):=by
 cases l with
 |cons t l=>exact St.freeze O hl
 |nil=>
  have h1:=St.and (S:=fun h' l'=>h'=h∧l'=[]) (rd:=fun w he _ h' l' hS M hM=>by
    obtain⟨rfl,rfl⟩:=hS
    exact HI (show aG w [] h'.v av [] from he) w M) (sub:=fun h' l' hS y hy=>by
    obtain⟨_,rfl⟩:=hS
    cases hy) O
  exact⟨_,h1.1,.inr ⟨rfl,rfl⟩,h1.2⟩
def yM (l l':List W):Prop:=flat av l=flat av l'∧l.length=l'.length
def yM.refl (l:List W):yM l l:=⟨rfl,rfl⟩
def yM.one (a b:List W)(h:av.cells x=av.cells y):yM (a++x::b) (a++y::b):=by
 refine⟨?_,aw⟩;unfold flat;rw[List.flatMap_append,List.flatMap_append,List.flatMap_cons,List.flatMap_cons,h]
def St.ZV (O:St Z M w L)(hi:L[i]?=some (rQ T h l))(hs:yM l l'):St Z M w (L.set i (rQ T h l')):=by
 have e:rQ T h l=rQ T h l':=by
  obtain⟨h1,h2⟩:=hs
  match l,l',h2 with
  | [],[],_=>rfl
  |a::l,b::l',h2=>
   show an.sl h.v T 6 _ (flat av (a::l))=an.sl h.v T 6 _ (flat av (b::l'));rw[h1,h2]
 rw[←e];have e2:L.set i (rQ T h l)=L:=by
  refine List.ext_getElem? fun j=>?_;rw[List.getElem?_set]
  split
  ·rename_i hj;subst hj
   split
   ·exact hi.symm
   ·rename_i h2;exact absurd (List.getElem?_eq_some_iff.1 hi).1 h2
  ·rfl
 rw[e2];exact O
def St.ad2 (hy:l[i]?=some y)(O:St Z M w (an.bx ((l.drop i).map (nE T))::L)):St Z M w (nE T y::an.bx ((l.drop (i+1)).map (nE T))::L):=St.BC hy O
end
def LZ (x:W):Prop:=∃e i D:W,x.ae=[e,i,D]∧D.ae.length≤274877906944∧(∀d∈D.ae,d.kind=15→gh d.er)∧∀d∈D.ae,d.kind=10→∃c h q:W,d.ae=[c,h,q]∧DM (q.ae.map W.er)
def amc {l:List W}{y:W}{i:Nat}(hy:l[i]?=some y):rq ((l.drop i).map W.er)=(decide (y.kind=15)||rq ((l.drop (i+1)).map W.er)):=by
 rw[wZ hy,rq,W.a8]
def afZ {l:List W}{i:Nat}(h:l.length≤i):rq ((l.drop i).map W.er)=false:=by
 rw[ia h];rfl
def aoK {l dn:List W}{i:Nat}(h:l.length≤274877906944)(h2:∀y∈dn,y.kind=15→gh y.er)(h3:dn.length=i)(h4:i≤l.length):DM (dn.map W.er):=⟨by rw[dW];omega,fun a ha hk=>by
  obtain⟨y,hy,rfl⟩:=List.mem_map.1 ha
  exact h2 y hy ((W.a8 y).symm.trans hk)⟩
def akG {a b:List W}{y:W}{i:Nat}(hi:a.length=i):(a++y::b)[i]?=some y:=by
 subst hi;simp
def drop_cons {l:List W}{y:W}{i:Nat}(hy:l[i]?=some y):l.drop i=y::l.drop (i+1):=by
 obtain⟨hi,rfl⟩:=List.getElem?_eq_some_iff.1 hy;exact List.drop_eq_getElem_cons hi
def wA (ds:List Deferred)(a:Act):Act:={a with defers:=a.defers++ds}
def AU (ds:List Deferred)(a:Act)(d:Option Tmp)(v:Value):(wA ds a).put d v=wA ds (a.put d v):=by cases d<;>rfl
def Lw (ds:List Deferred)(a:Act):(wA ds a).eval=a.eval:=by funext x;cases x<;>rfl
section
variable {P:Program} {ops:Array Oper} {Q:Exit→Act→World→Prop} {a:Act} {w:World} {ds:List Deferred}
def QA (ds:List Deferred)(Q:Exit→Act→World→Prop):Exit→Act→World→Prop:=fun e a w=>Q e (wA ds a) w
def Sb (h:LetsOut (QA ds Q)):LetsOut Q:=by
 obtain⟨a,w,h⟩:=h;exact⟨_,w,h⟩
def xA:∀(rest:List Oper) (a:Act) (w:World),wpList P ops (QA ds Q) rest a w→wpList P ops Q rest (wA ds a) w
 | [],a,w,h=>h
 |o::rest,a,w,h=>by
  unfold wpList at h ⊢;have ht:(wA ds a).tmps=a.tmps:=rfl;rw[ht]
  split at h
  ·rename_i hw;rw[if_pos hw];rcases h with h| ⟨h1,h2⟩
   ·refine .inl ?_;unfold Oper.wp at h ⊢;rw[Lw];generalize hr:(execOp a.eval o).run P w=r at h ⊢
    match r,h with
    | .ok (.value v) w',h=>
     show wpList P ops Q rest ((wA ds a).put o.dst v) w';rw[AU];exact xA rest _ _ h
    | .ok .skip w',h=>
     show wpList P ops Q rest ((wA ds a).put o.dst undef) w';rw[AU];exact xA rest _ _ h
    | .ok (.defer d) w',h=>
     show wpList P ops Q rest (({wA ds a with defers:=d::(wA ds a).defers}:Act).put o.dst undef) w';have e:({wA ds a with defers:=d::(wA ds a).defers}:Act)=wA ds {a with defers:=d::a.defers}:=rfl;rw[e,AU];exact xA rest _ _ h
    | .ok (.enter f args) w',h=>
     show Calls P f args w' _;refine Calls.mono (show Calls P f args w' _ from h) fun e w2 he=>?_
     cases e with
     |returned v=>
      show wpList P ops Q rest ((wA ds a).put o.dst v) w2;rw[AU];exact xA rest _ _ he
     |panicked ch=>exact he
     |outgrown=>exact Sb he
    | .ok (.row row args) w',h=>
     show Rows P row args w' _;intro b cs;obtain⟨v,w2,h1,h2⟩:=(show Rows P row args w' _ from h) b cs;refine⟨v,w2,?_,h2⟩;show wpList P ops Q rest ((wA ds a).put o.dst v) w2;rw[AU];exact xA rest _ _ h1
    | .halt (.panic v) w',h=>exact h
   ·exact .inr ⟨by unfold Oper.asks at h1 ⊢;rw[Lw];exact h1,Sb h2⟩
  ·rename_i hw;rw[if_neg hw,AU];exact xA rest _ _ h
def qt {id:Nat}{l:List Oper}(h:wpList P l.toArray (QA ds Q) l a w):(Code.region id l.toArray false).wp P Q (wA ds a) w:=wp_region_lit (xA _ _ _ h)
def ZQ {c:Operand}{p q:Code}{m:Nat}{F:List (Nat×Value)}{b:Bool}{r:Prop}{ir:Decidable r}(U:Fr a m F)(hv:ev F c=some (.bool b))(hb:b=decide r)(ht:r→p.wp P Q (wA ds a) w)(hf:¬r→q.wp P Q (wA ds a) w):(Code.cond c p q).wp P Q (wA ds a) w:=by
 subst hb;have e:(wA ds a).eval c=.bool (decide r):=by rw[Lw];exact U.af hv
 refine wp_cond e ?_
 by_cases h:r
 ·simp only[h,decide_true,if_true];exact ht h
 ·simp only[h,decide_false,Bool.false_eq_true,if_false];exact hf h
def Pk {o:Oper}{d:Deferred}{n:Nat}{F:List (Nat×Value)}(U:Fr a n F)(hg:o.guard=none)(hd:o.dst=none)(h:(execOp a.eval o).run P w=.ok (.defer d) w)(next:∀a,Fr a n F→Q .normal (wA [d] a) w):wpList P ops Q [o] a w:=by
 unfold wpList;rw[if_pos (by simp [Region.wanted,hg])];refine .inl ?_;unfold Oper.wp;rw[h];show wpList P ops Q [] (({a with defers:=d::a.defers}:Act).put o.dst undef) w;rw[hd];have e:({a with defers:=d::a.defers}:Act).put none undef=wA [d] a:=by
  show ({a with defers:=d::a.defers}:Act)={a with defers:=a.defers++[d]};rw[U.defs];rfl
 show Q .normal (({a with defers:=d::a.defers}:Act).put none undef) w;rw[e];exact next a U
def QJ {o:Oper}{x:Operand}{f:Nat}{fs cs:Array Value}{ts:Array TypeId}(ho:o.op=.defer {callee:=.value x,args:=#[],argTypes:=ts})(hx:a.eval x=.func (.func f) fs cs):(execOp a.eval o).run P w=.ok (.defer {target:=.fn (.func f) cs,args:=fs}) w:=by
 simp [execOp,ho,resolve,hx,Deferred.ofValue]
def PJ {f:Nat}{fn:Func}{c:Code}{args:Array Value}{R:Value→World→Prop}(hf:P.funcs[f]?=some fn)(hb:fn.body=some c){m:Nat}(hm:fn.ntmps=m)(L:List (Nat×Value))(hle:Nat.ble args.size m=true)(hL:tq ((List.range args.size).zip args.toList) L)
  (h:∀a,Fr a m L→c.wp P (bodyPostD P fn fun e w'=>∃v,e=.returned v∧R v w') a w):aH P f args w R:=by
 refine calls_of_wp_defers hf hb ?_;have:=Fr.init args (fn.ntmps - args.size) L hL;rw[show args.size+(fn.ntmps - args.size)=m by rw[hm];have:=cX hle;omega] at this;exact h _ this
end
section
variable {P:Program} {ops:Array Oper} {Q:Exit→Act→List Frame→World→Prop} {a:Act} {w:World} {cs cs':List Frame}
def wz (hno:∀a w,¬Q .outgrown a cs w):∀(is:List Nat) (a:Act) (w:World),wpOps P ops (fun e a w=>Q e a cs w) is a w→wpOpsS P ops Q is a cs w
 | [],a,w,h=>h
 |i::rest,a,w,h=>by
  unfold wpOps at h;unfold wpOpsS
  cases ho:ops[i]? with
  |none=>rw[ho] at h;exact wz hno rest a w h
  |some o=>
   rw[ho] at h;dsimp only at h ⊢
   split at h
   ·rename_i hw;rw[if_pos hw];rcases h with h| ⟨_,a',w',h2⟩
    ·unfold Oper.wp at h;generalize hr:(execOp a.eval o).run P w=r at h ⊢
     match r,h with
     | .ok (.value v) w',h=>exact wz hno rest _ _ h
     | .ok .skip w',h=>exact wz hno rest _ _ h
     | .ok (.defer d) w',h=>exact wz hno rest _ _ h
     | .ok (.enter f args) w',h=>
      refine Calls.mono (show Calls P f args w' _ from h) fun e w2 he=>?_
      cases e with
      |returned v=>exact wz hno rest _ _ he
      |panicked ch=>exact he
      |outgrown=>
       obtain⟨a',w',h2⟩:=he;exact absurd h2 (hno _ _)
     | .ok (.row row args) w',h=>
      intro b k;obtain⟨v,w2,h1,h2⟩:=(show Rows P row args w' _ from h) b k;exact⟨v,w2,wz hno rest _ _ h1,h2⟩
     | .halt (.panic v) w',h=>exact h
    ·exact absurd h2 (hno _ _)
   ·rename_i hw;rw[if_neg hw];exact wz hno rest _ _ h
def Wv {id n d:Nat}{o:Oper}{l:List Oper}{F:List (Nat×Value)}{v:Value}{ts:Array TypeId}(U:Fr a n F)(hg:o.guard=none)(ho:o.op=.call {callee:=.builtin .recover,args:=#[],argTypes:=ts})(hd:o.dst=some d)(hn:Nat.ble (d+1) n=true)
  (hr:(match recoverD cs with|some p=>p|none=>(Value.nilIface,cs))=(v,cs')) (hno:∀a w,¬Q .outgrown a cs' w) (h:∀a,Fr a n ((d,v)::F)→wpList P (o::l).toArray (fun e a w=>Q e a cs' w) l a w):(Code.region id (o::l).toArray false).wpS P Q a cs w:=by
 refine wpS_region ?_;have a_:(o::l).toArray.size=l.length+1:=aw
 rw[a_,List.range_succ_eq_map];have hrun:(execOp a.eval o).run P w=.ok .recover w:=by
  simp [execOp,ho,resolve,invoke,builtin]
 have hm:(List.range l.length).map Nat.succ=List.range' 1 l.length:=by
  rw[List.range'_eq_map_range];refine List.map_congr_left fun i _=>?_;omega
 rw[hm];unfold wpOpsS;have h0:(o::l).toArray[0]?=some o:=aw
 rw[h0];dsimp only;rw[if_pos (by simp [Region.wanted,hg]),hrun];have hput:=U.put (Nat.le_of_ble_eq_true hn) v;have h1:=wz (P:=P) (ops:=(o::l).toArray) (Q:=Q) hno (List.range' 1 l.length) (a.put (some d) v) w (by
   rw[wpOps_eq_wpList l 1 (fun j=>by simp [Nat.add_comm 1 j])]
   exact h _ hput)
 dsimp only
 cases hc:recoverD cs with
 |none=>
  rw[hc] at hr;cases hr;rw[hd];exact h1
 |some p=>
  rw[hc] at hr;obtain⟨p1,p2⟩:=p;cases hr;rw[hd];exact h1
def UQ {o:Oper}{x:Operand}{t1 t2:TypeId}{v u:Value}(ho:o.op=.typeAssert x t1 t2 true)(hx:a.eval x=v)(h:∀w,(Instr.typeAssert v t1 t2 true).run P w=.ok u w):QV P o a w u:=by
 simp [QV,execOp,ho,hx,h]
end
def al5 {c:Frame}{cs:List Frame}(h:c.mode=.returning):(match recoverD (c::cs) with|some p=>p|none=>(Value.nilIface,c::cs))=(Value.nilIface,c::cs):=by
 simp [recoverD,h]
def aim {c:Frame}{cs:List Frame}{v:Value}(h:c.mode=.panicking (pe v)):(match recoverD (c::cs) with|some p=>p|none=>(Value.nilIface,c::cs))=(v,{c with mode:=.panicking [{v,recovered:=true}]}::cs):=by
 simp [recoverD,h,pe]
set_option maxHeartbeats 4000000
set_option linter.unusedVariables false
def QZ {α:Type}[BEq α][LawfulBEq α]{l:List α}{k:Nat}{b c:α}(h:l[k]?=some c)(hn:(l.take k).contains b=false)(h2:¬c=b):(l.take (k+1)).contains b=false:=by
 rw[List.take_add_one,h];simp only[Option.toList_some,List.contains_append,hn,pj]
 simpa using fun e:b=c=>h2 e.symm
def QR {α:Type}[BEq α][LawfulBEq α]{l:List α}{k:Nat}{b c:α}(h:l[k]?=some c)(h2:c=b):l.contains b=true:=by
 subst h2;exact List.contains_iff_mem.2 (bV h)
def adG (Z:World)(s:List UInt8)(vl:Value)(ls:List (List UInt8))(hR:aG Z [] vl oC ls):aH prog 136 #[vl,str s] Z (fun v w'=>∃n:Int,v=i64 n∧decide (0≤n)=ls.contains s∧St Z [] w' []):=by
 have O:=St.bL Z;have hl:=aG.gi hR;refine aS func136 ntmps136 fun a U=>?_;refine Zg 2 (bA hR) fun a U=>?_;refine Zv 1 fun a U=>?_;refine cl (fun (k:Nat) a w'=>(k≤ls.length∧(ls.take k).contains s=false)∧St Z [] w' []∧Fr a 19 [(0,vl),(1,str s),(7,i64 ls.length),(8,i64 k)]) (fun (k:Nat)=>ls.length - k) 0 ⟨⟨V,aw⟩,O,U.su⟩ ?_;rintro k a w ⟨⟨hk,hn⟩,O,U⟩;refine Zi 1 (fun a U ao=>?_) fun a U ao=>?_
 ·obtain⟨x,hx⟩:=dM (l:=ls) (i:=k) V;refine Zg 5 (bw k hR V) fun a U=>?_;refine Zh 0 hR hx fun a U=>?_;refine Zi 1 (fun a U ay=>?_) fun a U ay=>?_
  ·refine Zr 2 ?_;exact⟨_,rfl,(decide_eq_true V).trans (QR hx ay.symm).symm,O⟩
  ·refine Zv 2 fun a U=>?_;exact⟨k+1,⟨⟨V,QZ hx hn (fun e=>ay e.symm)⟩,O,U.su⟩,V⟩
 ·refine Zr 1 ?_;exact⟨_,rfl,(decide_eq_false V).trans (by rw[←hn,List.take_of_length_le V]),O⟩
def Ls (Z:World)(s:List UInt8)(vl:Value)(ls:List (List UInt8))(hR:aG Z [] vl oC ls):aH prog 102 #[vl,str s] Z (fun v w'=>v=.bool (ls.contains s)∧St Z [] w' []):=by
 have O:=St.bL Z;refine aS func102 ntmps102 fun a U=>?_;refine Yc 3 (adG _ _ _ _ (hR.ba O)) fun ix hix a w O U=>?_;refine Zr 2 ?_;exact⟨congrArg Value.bool hix,O⟩
def aeC (Z:World)(s:Int)(vl:Value)(ls:List (Int))(hR:aG Z [] vl wE ls):aH prog 151 #[vl,i64 s] Z (fun v w'=>∃n:Int,v=i64 n∧decide (0≤n)=ls.contains s∧St Z [] w' []):=by
 have O:=St.bL Z;have hl:=aG.gi hR;refine aS func151 ntmps151 fun a U=>?_;refine Zg 2 (bA hR) fun a U=>?_;refine Zv 1 fun a U=>?_;refine cl (fun (k:Nat) a w'=>(k≤ls.length∧(ls.take k).contains s=false)∧St Z [] w' []∧Fr a 19 [(0,vl),(1,i64 s),(7,i64 ls.length),(8,i64 k)]) (fun (k:Nat)=>ls.length - k) 0 ⟨⟨V,aw⟩,O,U.su⟩ ?_;rintro k a w ⟨⟨hk,hn⟩,O,U⟩;refine Zi 1 (fun a U ao=>?_) fun a U ao=>?_
 ·obtain⟨x,hx⟩:=dM (l:=ls) (i:=k) V;refine Zg 5 (bw k hR V) fun a U=>?_;refine Zh 0 hR hx fun a U=>?_;refine Zi 1 (fun a U ay=>?_) fun a U ay=>?_
  ·refine Zr 2 ?_;exact⟨_,rfl,(decide_eq_true V).trans (QR hx ay.symm).symm,O⟩
  ·refine Zv 2 fun a U=>?_;exact⟨k+1,⟨⟨V,QZ hx hn (fun e=>ay e.symm)⟩,O,U.su⟩,V⟩
 ·refine Zr 1 ?_;exact⟨_,rfl,(decide_eq_false V).trans (by rw[←hn,List.take_of_length_le V]),O⟩
def WB (Z:World)(s:Int)(vl:Value)(ls:List (Int))(hR:aG Z [] vl wE ls):aH prog 113 #[vl,i64 s] Z (fun v w'=>v=.bool (ls.contains s)∧St Z [] w' []):=by
 have O:=St.bL Z;refine aS func113 ntmps113 fun a U=>?_;refine Yc 3 (aeC _ _ _ _ (hR.ba O)) fun ix hix a w O U=>?_;refine Zr 2 ?_;exact⟨congrArg Value.bool hix,O⟩
def mo (T b:Nat)(vs:Value)(tl:List Tok)(n:Nat)(dp:Int)(Z:World)(hA:bT Z [.ob b T [vs,i64 (n:Nat),i64 dp]])(hT:aG Z (az [.ob b T [vs,i64 (n:Nat),i64 dp]]) vs aM tl)(hn:n≤tl.length)(hL:tl.length≤4611686018427387904)(k:Nat)(hk:k≤1):aH prog 101 #[ptr (aa b),i64 k] Z (fun v w'=>∃t:Tok,v=.agg (aM.cells t).toArray∧fa (aN tl n dp) k=bP t∧St Z (az [.ob b T [vs,i64 (n:Nat),i64 dp]]) w' [.ob b T [vs,i64 (n:Nat),i64 dp]]):=by
 have O:=St.init hA;refine aS func101 ntmps101 fun a U=>?_;refine Zb 13 fun tk a w O U=>?_;refine Zg 0 (bA hT) fun a U=>?_;refine Zi 1 (fun a U ao=>?_) fun a U ao=>?_
 ·obtain⟨x,hx⟩:=dM (l:=tl) (i:=(n+k)) V;refine Zv 5 fun a U=>?_;refine aZ U (iK (i:=(n+k)) hT underlying22 sizeOf44 rfl (U.af rfl) ((U.af rfl).trans (congrArg i64 (rfl))) V) fun a U=>?_;refine Zh 0 hT hx fun a U=>?_;refine Zs 1 fun a w O U=>?_;refine Zr 0 ?_;exact⟨x,rfl,rL hx,O.kp⟩
 ·refine Zs 2 fun a w O U=>?_;refine Zr 0 ?_;exact⟨qE,rfl,aeB V,O.kp⟩
def nX (T b:Nat)(vs:Value)(tl:List Tok)(n:Nat)(dp:Int)(Z:World)(hA:bT Z [.ob b T [vs,i64 (n:Nat),i64 dp]])(hT:aG Z (az [.ob b T [vs,i64 (n:Nat),i64 dp]]) vs aM tl)(hn:n≤tl.length)(hL:tl.length≤4611686018427387904)(e:Int):fZ prog 96 #[ptr (aa b),i64 e] Z (fun v w'=>False) (fun ev w'=>∃l c:Int,ev=zT 47 l c e∧St Z (az [.ob b T [vs,i64 (n:Nat),i64 dp]]) w' [.ob b T [vs,i64 (n:Nat),i64 dp]]):=by
 have O:=St.init hA;refine fk func96 ntmps96 fun a U=>?_;refine Zb 7 fun tk a w O U=>?_;refine Zg 0 (bA hT) fun a U=>?_;refine Zi 3 (fun a U ao=>?_) fun a U ao=>?_
 ·refine Zd 0 [0,0,0,1,0,0,0,1,0,0,0,0,1,3] fun w O=>?_;refine Zv 10 fun a U=>?_;refine jY U (fun w=>UN rfl (U.af rfl) (U.af rfl)) fun a U=>?_;obtain⟨x,hx⟩:=dM (l:=tl) (i:=(min n (tl.length - 1))) V;refine jY U (fun w=>iK (i:=(min n (tl.length - 1))) hT underlying22 sizeOf44 rfl (U.af rfl) ((U.af rfl).trans (congrArg i64 V)) V) fun a U=>?_;refine Zh 0 hT hx fun a U=>?_;refine Zs 8 fun a w O U=>?_;refine aZ U (Fk underlying47 (fun _ h=>by cases h) rfl (U.af rfl)) fun a U=>?_;refine HY rfl rfl (GD rfl (U.af rfl)) ?_;have O:=O.d [0];exact gU U.defs ⟨_,_,rfl,O⟩
 ·refine Zv 7 fun a U=>?_;refine aZ U (Fk underlying47 (fun _ h=>by cases h) rfl (U.af rfl)) fun a U=>?_;refine HY rfl rfl (GD rfl (U.af rfl)) ?_;have O:=O.d [0];exact gU U.defs ⟨_,_,rfl,O⟩
def je {H p:Prop}(h:H)(g:H→p:=by intro hh;(first|with_reducible rfl| (simp only[a6 hg];done)| (simp only[a6 hg];rfl))):p:=g h
def iO (T b:Nat)(vs:Value)(tl:List Tok)(n:Nat)(dp:Int)(Z:World)(hA:bT Z [.ob b T [vs,i64 (n:Nat),i64 dp]])(hT:aG Z (az [.ob b T [vs,i64 (n:Nat),i64 dp]]) vs aM tl)(hn:n≤tl.length)(hL:tl.length≤4611686018427387904)(t:Tok)(ht:tl[n]?=some t):aH prog 52 #[ptr (aa b)] Z (fun v w'=>v=.agg (aM.cells t).toArray∧St Z (az [.ob b T [vs,i64 (n:Nat),i64 dp]]) w' [.ob b T [vs,i64 ((n+1):Nat),i64 dp]]):=by
 have O:=St.init hA;have hlt:=(List.getElem?_eq_some_iff.1 ht).1;refine aS func52 ntmps52 fun a U=>?_;refine Zb 9 fun tk a w O U=>?_;refine Zd 0 [0,0,0,1,0,0,0,1,0,0,1,3] fun w O=>?_;obtain⟨x,hx⟩:=dM (l:=tl) (i:=n) V;refine Zv 9 fun a U=>?_;refine jY U (fun w=>iK (i:=n) hT underlying22 sizeOf44 rfl (U.af rfl) ((U.af rfl).trans (congrArg i64 V)) V) fun a U=>?_;refine Zh 0 hT hx fun a U=>?_;refine Zs 1 fun a w O U=>?_;refine Zr 0 ?_;have O:=O.d [0];have hO0:=O;cases Option.some.inj (hx.symm.trans ht);have O:=hO0;exact⟨rfl,O⟩
def fi (T b:Nat)(vs:Value)(tl:List Tok)(n:Nat)(dp:Int)(Z:World)(hA:bT Z [.ob b T [vs,i64 (n:Nat),i64 dp]])(hT:aG Z (az [.ob b T [vs,i64 (n:Nat),i64 dp]]) vs aM tl)(hn:n≤tl.length)(hL:tl.length≤4611686018427387904)(vw:Value)(ws:List (List UInt8))(hW:aG Z (az [.ob b T [vs,i64 (n:Nat),i64 dp]]) vw oC ws):aH prog 51 #[ptr (aa b),vw] Z (fun v w'=>v=.bool (bk (aN tl n dp) ws)∧St Z (az [.ob b T [vs,i64 (n:Nat),i64 dp]]) w' [.ob b T [vs,i64 (n:Nat),i64 dp]]):=by
 have O:=St.init hA;refine aS func51 ntmps51 fun a U=>?_;refine Yc 2 (mo _ _ _ _ _ _ _ (St.aB O) (hT.aV O) hn hL 0 V) fun t hpk a w O U=>?_;refine Zb 6 fun tk a w O U=>?_;refine Zw 8 fun a U=>?_;refine fS O U rfl rfl rfl rfl rfl rfl (fun hg=>jo U rfl rfl (je trivial) call102 (Ls _ _ _ _ (hW.ba O))) fun a w O U=>?_;refine Wb 0 fun a U=>?_;refine Zr 1 ?_;have O:=O.d [0];refine⟨congrArg Value.bool ?_,O⟩;simp [bk,hpk,bP]
def iT (T b:Nat)(vs:Value)(tl:List Tok)(n:Nat)(dp:Int)(Z:World)(hA:bT Z [.ob b T [vs,i64 (n:Nat),i64 dp]])(hT:aG Z (az [.ob b T [vs,i64 (n:Nat),i64 dp]]) vs aM tl)(hn:n≤tl.length)(hL:tl.length≤4611686018427387904)(vw:Value)(ks:List Int)(hW:aG Z (az [.ob b T [vs,i64 (n:Nat),i64 dp]]) vw wE ks):aH prog 97 #[ptr (aa b),vw] Z (fun v w'=>v=.bool (dH (aN tl n dp) ks)∧St Z (az [.ob b T [vs,i64 (n:Nat),i64 dp]]) w' [.ob b T [vs,i64 (n:Nat),i64 dp]]):=by
 have O:=St.init hA;refine aS func97 ntmps97 fun a U=>?_;refine Yc 3 (mo _ _ _ _ _ _ _ (St.aB O) (hT.aV O) hn hL 0 V) fun t hpk a w O U=>?_;refine Yc 1 (WB _ _ _ _ (hW.ba O)) fun a w O U=>?_;refine Zr 1 ?_;refine⟨congrArg Value.bool ?_,O⟩;simp [dH,hpk,bP]
end Go.Proofs.YtdfccaonglmgpaaGreatDoor
