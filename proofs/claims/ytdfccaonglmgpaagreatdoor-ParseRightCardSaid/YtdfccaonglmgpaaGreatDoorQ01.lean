/- Q01 -/
import Derived.KernelRfl
set_option linter.all false
namespace Go.Proofs.YtdfccaonglmgpaaGreatDoor
structure Tk where
 kind:Int
 text:List UInt8
 num:Int
 deriving DecidableEq
inductive Nd where
 |mk (kind:Int) (name:List UInt8) (n:Int) (ag:List Nd)
def Nd.kind:Nd→Int| .mk k _ _ _=>k
def Nd.name:Nd→List UInt8| .mk _ s _ _=>s
def Nd.n:Nd→Int| .mk _ _ n _=>n
def Nd.ag:Nd→List Nd| .mk _ _ _ l=>l
def kJ:Nd:=.mk 0 [] 0 []
def bk (kind:Int)(name:List UInt8)(ag:List Nd):Nd:=.mk kind name 0 ag
def listed (l:List Nd):Nd:=.mk 1 [] 0 l
structure PS where
 r:List Tk
 deep:Int
def PM (α:Type):=PS→Except Int (α×PS)
def PM.pure {α:Type}(a:α):PM α:=fun s=>.ok (a,s)
def PM.bind {α β:Type}(x:PM α)(f:α→PM β):PM β:=fun s=>match x s with
 | .error e=>.error e
 | .ok (a,s')=>f a s'
instance:Monad PM where
 pure:=PM.pure
 bind:=PM.bind
def bad {α:Type}(e:Int):PM α:=fun _=>.error e
def out {α:Type}:PM α:=bad (-1)
def t0:Tk:=⟨0,[],0⟩
def kP:List UInt8:=[40]
def gI:List UInt8:=[41]
def KY:List UInt8:=[91]
def Na:List UInt8:=[93]
def KU:List UInt8:=[123]
def Gj:List UInt8:=[125]
def jK:List UInt8:=[44]
def Dx:List UInt8:=[59]
def AG:List UInt8:=[96]
def kEq:List UInt8:=[61]
def E4:List UInt8:=[124]
def Yg:List UInt8:=[92]
def ez:List UInt8:=[45,62]
def ZE:List UInt8:=[60,45]
def Mf:List UInt8:=[61,62]
def US:List UInt8:=[58,58]
def kAt:List UInt8:=[64]
def Oh:List UInt8:=[95]
def ML:List UInt8:=[109,111,100,117,108,101]
def xR:List UInt8:=[119,104,101,114,101]
def Dd:List UInt8:=[105,109,112,111,114,116]
def ZR:List UInt8:=[100,97,116,97]
def Rj:List UInt8:=[99,108,97,115,115]
def E5:List UInt8:=[105,110,115,116,97,110,99,101]
def oV:List UInt8:=[105,110,102,105,120,108]
def oQ:List UInt8:=[105,110,102,105,120,114]
def sk:List UInt8:=[105,110,102,105,120]
def XX:List UInt8:=[108,101,116]
def kIn:List UInt8:=[105,110]
def kIf:List UInt8:=[105,102]
def XB:List UInt8:=[116,104,101,110]
def ZW:List UInt8:=[101,108,115,101]
def Vw:List UInt8:=[99,97,115,101]
def kOf:List UInt8:=[111,102]
def kDo:List UInt8:=[100,111]
def h_:List UInt8:=[40,41]
def iv:List UInt8:=[40,44,41]
def dI:List UInt8:=[40,44,44,41]
def kM:List UInt8:=[91,93]
def rF:Nat→List UInt8
 |0=>h_
 |1=>[]
 |2=>iv
 |_=>dI
def gC (s:PS)(k:Nat):Tk:=s.r.getD k t0
def eM (s:PS)(ws:List (List UInt8)):Bool:=decide ((gC s 0).kind=7∨(gC s 0).kind=8)&&ws.contains (gC s 0).text
def kN (s:PS)(ks:List Int):Bool:=ks.contains (gC s 0).kind
def lI (s:PS)(w:List UInt8):Bool:=eM s [w]&&decide ((gC s 0).num=0)
def ib (s:PS):Bool:=kN s [3,4]||eM s [AG]
def q8 (s:PS):Bool:=kN s [2,1]||eM s [kP,KY]
def nF (s:PS):Bool:=kN s [1,2,5,6]||eM s [Oh,kP,KY]
def get:PM PS:=fun s=>.ok (s,s)
def dT:PM Tk:=fun s=>match s.r with
 | []=>.error (-1)
 |t::r=>.ok (t,⟨r,s.deep⟩)
def jj (k:Int):PM Tk:=fun s=>if s.r=[]∨kN s [k]=false then .error 30 else dT s
def bC (w:List UInt8):PM Tk:=fun s=>
 if s.r=[]∨eM s [w]=false then .error 30
 else if w=kP∨w=KY∨w=KU then (if s.deep≥64 then .error 32 else dT ⟨s.r,s.deep+1⟩)
 else if w=gI∨w=Na∨w=Gj then dT ⟨s.r,s.deep - 1⟩
 else dT s
def bB (w:List UInt8):PM Bool:=fun s=>if eM s [w]=true then (do let _←bC w;pure true:PM Bool) s else .ok (false,s)
def eo (one:PM Nd):Nat→PM (List Nd)
 |0=>out
 |k+1=>do
  if←bB jK then
   let a←one
   let l←eo one k
   pure (a::l)
  else pure []
def eV (one:PM Nd)(k:Nat):PM (List Nd):=do
 let a←one
 let l←eo one k
 pure (a::l)
def jq:Nat→PM Unit
 |0=>out
 |k+1=>do if←bB Dx then jq k else pure ()
def df {β:Type}(n:Int)(b:β):PM β:=do
 if (gC (←get) 0).num≠n then bad 30
 else do
  let _←bC Gj
  pure b
def eR {β:Type}(one:β→PM β)(n:Int):Nat→β→PM β
 |0,_=>out
 |k+1,b=>do
  jq k
  if eM (←get) [Gj] then df n b
  else do
   let b'←one b
   if eM (←get) [Dx] then eR one n k b' else df n b'
def iy {β:Type}(one:β→PM β)(k:Nat)(b:β):PM β:=do
 let o←bC KU
 eR one o.num k b
def snoc (one:PM Nd)(l:List Nd):PM (List Nd):=do
 let a←one
 pure (l++[a])
def cq (one:PM Nd)(k:Nat):PM (List Nd):=iy (snoc one) k []
def jI (word sign:Int):PM (List UInt8):=do
 if eM (←get) [kP] then
  let _←bC kP
  let t←jj sign
  let _←bC gI
  pure t.text
 else
  let t←jj word
  pure t.text
def gm:PM (List UInt8):=jI 1 3
def mJ:PM Nd:=do
 if kN (←get) [2] then
  let t←dT
  pure (bk 4 t.text [])
 else
  let t←gm
  pure (bk 4 t [])
def jN (k:Nat):PM Nd:=do
 if eM (←get) [kP] then
  let _←bC kP
  let l←(do if eM (←get) [gI] then pure [] else eV mJ k:PM (List Nd))
  let _←bC gI
  pure (listed l)
 else pure kJ
def il:PM Nd:=do
 let v←jj 1
 pure (bk 52 v.text [])
def iB:Nat→PM (List Nd)
 |0=>out
 |k+1=>do
  if kN (←get) [1] then
   let a←il
   let l←iB k
   pure (a::l)
  else pure []
def gw (name:List UInt8)(args:List Nd):Nd:=args.foldl (fun n a=>bk 54 [] [n,a]) (bk 53 name [])
def iO:PM (List UInt8):=do
 if←bB jK then
  if←bB jK then pure dI else pure iv
 else pure []
def dJ:PM Nd:=do
 if←bB AG then
  if kN (←get) [1,2] then
   let u←dT
   let _←bC AG
   pure (.mk 24 u.text (if u.kind=2∨u.kind=4 then 1 else 0) [])
  else bad 30
 else
  if kN (←get) [3,4] then
   let u←dT
   pure (.mk 24 u.text (if u.kind=2∨u.kind=4 then 1 else 0) [])
  else bad 30
def dR:PM Unit:=do
 if lI (←get) Gj then
  let _←bC Gj
  pure ()
 else bad 30
mutual
def my:Nat→PM Nd
 |0=>out
 |k+1=>do
  let n←gS k
  let n←rL k n
  if eM (←get) [ez] then
   let _←dT
   let r←my k
   pure (bk 54 [] [bk 54 [] [bk 53 ez [],n],r])
  else pure n
def rL:Nat→Nd→PM Nd
 |0,_=>out
 |k+1,n=>do
  if q8 (←get) then
   let a←gS k
   rL k (bk 54 [] [n,a])
  else pure n
def nO:Nat→Nat→PM (List Nd)
 |0,_=>out
 |_+1,0=>pure []
 |k+1,m+1=>do
  if←bB jK then
   let a←my k
   let l←nO k m
   pure (a::l)
  else pure []
def gS:Nat→PM Nd
 |0=>out
 |k+1=>do
  if kN (←get) [2] then
   let t←dT
   pure (bk 53 t.text [])
  else if kN (←get) [1] then il
  else if←bB KY then
   let l←(do if eM (←get) [Na] then pure [] else (do let a←my k;pure [a]):PM (List Nd))
   let _←bC Na
   pure (gw kM l)
  else
   let _←bC kP
   let (name,l)←(do
     if←bB ez then pure (ez,[])
     else if eM (←get) [jK] then
       let n←iO
       pure (n,[])
     else if eM (←get) [gI] then pure (h_,[])
     else
       let a←my k
       let l←nO k 2
       pure (rF (l.length+1),a::l):PM (List UInt8×List Nd))
   let _←bC gI
   match l with
   | [a]=>pure a
   |l=>pure (gw name l)
end
def gF (k:Nat)(kind:Int):PM Nd:=do
 let t←gm
 let _←bC US
 let ty←my k
 pure (bk kind t [ty])
def jl:Nat→PM (List Nd)
 |0=>out
 |k+1=>do
  if q8 (←get) then
   let a←gS k
   let l←jl k
   pure (a::l)
  else pure []
def dv (k:Nat):PM Nd:=do
 let t←jI 2 4
 if lI (←get) KU then
  let _←bC KU
  let l←eV (gF k 7) k
  dR
  pure (bk 6 t [listed l])
 else
  let l←jl k
  pure (bk 6 t [listed l])
def oq:Nat→List UInt8→PM (List Nd)
 |0,_=>out
 |k+1,sep=>do
  if←bB sep then
   let c←dv k
   let l←oq k E4
   pure (c::l)
  else pure []
def nH (k:Nat):PM Nd:=do
 let _←dT
 let name←jj 2
 let vars←iB k
 let cons←oq k kEq
 pure (bk 5 name.text [listed vars,listed cons])
def kH (k:Nat):PM Nd:=do
 let _←dT
 let name←jj 2
 let v←il
 if←bB xR then
  let l←cq (gF k 9) k
  pure (bk 8 name.text [v,listed l])
 else pure (bk 8 name.text [v,listed []])
def kU:PM Nd:=do
 let t←jj 2
 let v←il
 pure (bk 11 t.text [v])
def nJ (k:Nat):PM Nd:=do
 if kN (←get) [2] then
  let t←dT
  pure (bk 53 t.text [])
 else if←bB KY then
  let l←(do if kN (←get) [1] then (do let a←il;pure [a]) else pure []:PM (List Nd))
  let _←bC Na
  pure (gw kM l)
 else
  let _←bC kP
  if kN (←get) [2] then
   let t←dT
   let l←iB k
   let _←bC gI
   pure (gw t.text l)
  else if kN (←get) [1] then
   let a←il
   if←bB ez then
    let b←il
    let _←bC gI
    pure (bk 54 [] [bk 54 [] [bk 53 ez [],a],b])
   else
    let _←bC jK
    let b←il
    if←bB jK then
     let c←il
     let _←bC gI
     pure (gw dI [a,b,c])
    else
     let _←bC gI
     pure (gw iv [a,b])
  else if←bB ez then
   let _←bC gI
   pure (gw ez [])
  else if eM (←get) [jK] then
   let n←iO
   let _←bC gI
   pure (gw n [])
  else
   let _←bC gI
   pure (gw h_ [])
def eU:List Nd→Nd
 | []=>kJ
 | [a]=>a
 |l=>bk 23 [] l
def zO:List Nd→Nd
 | []=>kJ
 |a::l=>l.foldl (fun n x=>bk 22 [] [n,x]) a
mutual
def ya:Nat→PM Nd
 |0=>out
 |k+1=>do
  let l←iz k
  let r←nc k kEq
  pure (bk 15 [] [l,r])
def gE:Nat→List UInt8→PM (List Nd)
 |0,_=>out
 |k+1,sep=>do
  if eM (←get) [E4] then
   let _←dT
   let c←iz k
   let _←bC sep
   let e←iz k
   let l←gE k sep
   pure (bk 17 [] [c,e]::l)
  else pure []
def nc:Nat→List UInt8→PM Nd
 |0,_=>out
 |k+1,sep=>do
  let gs←(do
    if eM (←get) [E4] then gE k sep
    else
      let _←bC sep
      let e←iz k
      pure [bk 17 [] [kJ,e]]:PM (List Nd))
  if←bB xR then
   let l←cq (ya k) k
   pure (bk 16 [] [listed gs,listed l])
  else pure (bk 16 [] [listed gs,listed []])
def iz:Nat→PM Nd
 |0=>out
 |k+1=>do
  let a←dP k
  let l←rD k
  pure (eU (a::l))
def rD:Nat→PM (List Nd)
 |0=>out
 |k+1=>do
  if ib (←get) then
   let o←dJ
   let b←dP k
   let l←rD k
   pure (o::b::l)
  else pure []
def dP:Nat→PM Nd
 |0=>out
 |k+1=>do
  if←bB Yg then
   let l←fX k
   let _←bC ez
   let e←iz k
   pure (bk 25 [] [listed l,e])
  else if←bB XX then
   let l←cq (ya k) k
   let _←bC kIn
   let e←iz k
   pure (bk 26 [] [listed l,e])
  else if←bB kIf then
   let a←iz k
   let _←bC XB
   let b←iz k
   let _←bC ZW
   let c←iz k
   pure (bk 27 [] [a,b,c])
  else if←bB Vw then
   let a←iz k
   let _←bC kOf
   let l←cq (pM k) k
   pure (bk 28 [] (a::l))
  else if←bB kDo then
   let l←cq (lq k) k
   pure (bk 30 [] l)
  else
   let l←fX k
   pure (zO l)
def pM:Nat→PM Nd
 |0=>out
 |k+1=>do
  let l←iz k
  let r←nc k ez
  pure (bk 29 [] [l,r])
def qW:Nat→Nd→PM Nd
 |0,_=>out
 |k+1,n=>do
  if←bB ZE then
   let e←iz k
   pure (bk 40 [] [n,e])
  else pure n
def lq:Nat→PM Nd
 |0=>out
 |k+1=>do
  if←bB XX then
   let l←cq (ya k) k
   if←bB kIn then
    let e←iz k
    qW k (bk 26 [] [listed l,e])
   else pure (bk 41 [] [listed l])
  else
   let n←iz k
   qW k n
def fX:Nat→PM (List Nd)
 |0=>out
 |k+1=>do
  let a←jF k
  let l←ju k
  pure (a::l)
def ju:Nat→PM (List Nd)
 |0=>out
 |k+1=>do
  if nF (←get) then
   let a←jF k
   let l←ju k
   pure (a::l)
  else pure []
def iC:Nat→PM Nd
 |0=>out
 |k+1=>do
  let t←gm
  let _←bC kEq
  let e←iz k
  pure (bk 37 t [e])
def jF:Nat→PM Nd
 |0=>out
 |k+1=>do
  let n←lB k
  mR k n
def mR:Nat→Nd→PM Nd
 |0,_=>out
 |k+1,n=>do
  if lI (←get) KU then
   let _←bC KU
   let l←(do if n.kind=19∧lI (←get) Gj=true then pure [] else eV (iC k) k:PM (List Nd))
   dR
   mR k (if n.kind=19 then bk 35 n.name l else bk 36 [] (n::l))
  else pure n
def lB:Nat→PM Nd
 |0=>out
 |k+1=>do
  if kN (←get) [1] then
   let t←dT
   if←bB kAt then
    let a←jF k
    pure (bk 39 t.text [a])
   else pure (bk 18 t.text [])
  else if kN (←get) [2] then
   let t←dT
   pure (bk 19 t.text [])
  else if kN (←get) [5] then
   let t←dT
   pure (.mk 20 [] t.num [])
  else if kN (←get) [6] then
   let t←dT
   pure (bk 21 t.text [])
  else if←bB Oh then pure (bk 38 [] [])
  else if←bB KY then
   let l←(do if eM (←get) [Na] then pure [] else eV (iz k) k:PM (List Nd))
   let _←bC Na
   pure (bk 32 [] l)
  else
   let _←bC kP
   let n←iS k
   let _←bC gI
   pure n
def oh:Nat→Nat→PM (List Nd)
 |0,_=>out
 |_+1,0=>pure []
 |k+1,m+1=>do
  if←bB jK then
   let a←iz k
   let l←oh k m
   pure (a::l)
  else pure []
def iS:Nat→PM Nd
 |0=>out
 |k+1=>do
  if eM (←get) [gI] then pure (bk 19 h_ [])
  else if eM (←get) [jK] then
   let n←iO
   pure (bk 19 n [])
  else if ib (←get) then
   let sign:=!eM (←get) [AG]
   let o←dJ
   if sign=true∧eM (←get) [gI]=true then pure (bk (if o.n=1 then 19 else 18) o.name [])
   else
    let e←iz k
    pure (bk 34 [] [o,e])
  else
   let a←dP k
   jT k [a]
def jT:Nat→List Nd→PM Nd
 |0,_=>out
 |k+1,l=>do
  if ib (←get) then
   let o←dJ
   if eM (←get) [gI] then pure (bk 33 [] [eU l,o])
   else
    let b←dP k
    jT k (l++[o,b])
  else
   let m←oh k 2
   match m with
   | []=>pure (eU l)
   |m=>pure (bk 31 [] (eU l::m))
end
def nK (k:Nat):PM Nd:=do
 let _←dT
 let context←(do
   if←bB kP then
     let l←(do if eM (←get) [gI] then pure [] else eV kU k:PM (List Nd))
     let _←bC gI
     let _←bC Mf
     pure l
   else if kN (←get) [2]&&decide ((gC (←get) 1).kind=1) then
     let p←kU
     let _←bC Mf
     pure [p]
   else pure []:PM (List Nd))
 let name←jj 2
 let h←nJ k
 if←bB xR then
  let l←cq (ya k) k
  pure (bk 10 name.text [listed context,h,listed l])
 else pure (bk 10 name.text [listed context,h,listed []])
def fixF (k:Nat):PM Nd:=do
 let t←dT
 if kN (←get) [5]&&decide ((gC (←get) 0).num<0∨(gC (←get) 0).num>9) then bad 30
 else do
  let n←jj 5
  let l←eV dJ k
  pure (.mk 12 t.text n.num [listed l])
def nN (k:Nat):PM Nd:=do
 if eM (←get) [ZR] then nH k
 else if eM (←get) [Rj] then kH k
 else if eM (←get) [E5] then nK k
 else if eM (←get) [oV,oQ,sk] then fixF k
 else ya k
def nU (k:Nat)(b:List Nd×List Nd):PM (List Nd×List Nd):=do
 if b.2.isEmpty&&eM (←get) [Dd] then
  let _←dT
  let m←jj 2
  let i←jN k
  pure (b.1++[bk 3 m.text [i]],b.2)
 else
  let d←nN k
  pure (b.1,b.2++[d])
def dW (k:Nat):PM Nd:=do
 let _←bC ML
 let name←jj 2
 let exports←jN k
 let _←bC xR
 let b←iy (nU k) k ([],[])
 let _←jj 9
 pure (bk 2 name.text [exports,listed b.1,listed b.2])
def FM (α:Type):=Option (α×Bool)
def FM.pure {α:Type}(a:α):FM α:=some (a,false)
def FM.bind {α β:Type}(x:FM α)(f:α→FM β):FM β:=match x with
 |none=>none
 |some (a,b)=>match f a with
  |none=>none
  |some (c,d)=>some (c,b||d)
instance:Monad FM where
 pure:=FM.pure
 bind:=FM.bind
def dq (b:Bool):FM Unit:=some ((),b)
def mC {α:Type}:FM α:=none
def jg:Int→Option Int
 |18=>some 42
 |38=>some 43
 |20=>some 44
 |21=>some 45
 |39=>some 50
 |31=>some 48
 |32=>some 49
 |19=>some 46
 |35=>some 51
 |23=>some 47
 |_=>none
mutual
def jA:Nat→Nd→FM Nd
 |0,_=>mC
 |k+1,n=>
  if n.kind=24 then (do dq (decide (n.n=0));pure n)
  else if n.kind=37 then match n.ag with
   |a::_=>(do
     let p←jA k a
     pure (bk 37 n.name [p]))
   |_=>mC
  else if n.kind=22 then (do
    let (args,h)←ic k n []
    dq (decide (h.kind≠19))
    pure (bk 46 h.name args))
  else match jg n.kind with
   |none=>(do dq true;pure kJ)
   |some kk=>(do
     let l←dO k n.ag
     pure (.mk kk n.name n.n l))
def ic:Nat→Nd→List Nd→FM (List Nd×Nd)
 |0,_,_=>mC
 |k+1,h,args=>
  if h.kind=22 then match h.ag with
   |f::x::_=>(do
     let p←jA k x
     ic k f (p::args))
   |_=>mC
  else pure (args,h)
def dO:Nat→List Nd→FM (List Nd)
 |_,[]=>pure []
 |0,_=>mC
 |k+1,a::l=>do
  let p←jA k a
  let r←dO k l
  pure (p::r)
end
def oJ:Nat→Nat→List Nd→Nat×Bool
 |at_,_,[]=>(at_,false)
 |at_,i,o::l=>
  if o.kind≠24∨o.n=1 then oJ at_ (i+1) l
  else if at_>0 then ((oJ at_ (i+1) l).1,true)
  else oJ i (i+1) l
def eT:Nat→Nd→List Nd→Option (Nd×List Nd)
 |0,_,_=>none
 |k+1,n,args=>
  if n.kind=22 then match n.ag with
   |f::x::_=>eT k f (x::args)
   |_=>none
  else some (n,args)
def kW (k:Nat)(n:Nd):FM (Option (List UInt8×List Nd)):=
 if n.kind=23 then
  let a:=oJ 0 0 n.ag
  (do
    dq a.2
    if a.1=0 then pure none
    else do
      let ps←dO k [eU (n.ag.take a.1),eU (n.ag.drop (a.1+1))]
      pure (some ((n.ag.getD a.1 kJ).name,ps)))
 else match eT k n [] with
  |none=>mC
  |some (h,args)=>
   if h.kind≠18 then pure none
   else do
    let ps←dO k args
    pure (some (h.name,ps))
def iP (n:Nd):Bool:=decide (n.kind=40∨n.kind=41)
def sub (n:Nd)(i:Nat):Nd:=n.ag.getD i kJ
def ja (out:List Nd)(c:Nd):List Nd:=match out.getLast? with
 |none=>out
 |some d=>out.dropLast++[.mk d.kind d.name d.n (d.ag++[c])]
def arity (d:Nd):Nat:=(sub (sub d 0) 0).ag.length
mutual
def fz:Nat→List Nd→List Nd→Bool→FM (List Nd)
 |_,[],out,_=>pure out
 |0,_,_,_=>mC
 |k+1,d::l,out,on=>
  if d.kind≠15 then fz k l (out++[d]) false
  else match d.ag with
   | [e,r0]=>(do
     let r←iA k r0
     match←kW k e with
     |none=>(do
       let p←jA k e
       fz k l (out++[bk 15 [] [p,r]]) false)
     |some (name,ps)=>
       let c:=bk 14 [] [listed ps,r]
       let d0:=out.getLastD kJ
       if on=true∧ps≠[]∧d0.name=name then (do
         dq (decide (arity d0≠ps.length))
         fz k l (ja out c) true)
       else fz k l (out++[bk 13 name [c]]) (decide (ps≠[])))
   |_=>mC
def iA:Nat→Nd→FM Nd
 |0,_=>mC
 |k+1,n=>match n.ag with
  | [a,b]=>(do
    let x←bW k a.ag
    let y←fz k b.ag [] false
    pure (.mk n.kind n.name n.n [listed x,listed y]))
  |_=>mC
def bW:Nat→List Nd→FM (List Nd)
 |_,[]=>pure []
 |0,_=>mC
 |k+1,a::l=>do
  let x←cl k a
  let r←bW k l
  pure (x::r)
def cl:Nat→Nd→FM Nd
 |0,_=>mC
 |k+1,n=>
  if n.kind=38∨n.kind=39 then (do dq true;pure n)
  else if n.kind=30 then (do
    dq (decide (n.ag=[]∨iP (n.ag.getLastD kJ)=true))
    let l←bW k n.ag
    pure (.mk n.kind n.name n.n l))
  else if n.kind=25 then match n.ag with
   | [a,e]=>(do
     let ps←dO k a.ag
     let x←cl k e
     pure (.mk n.kind n.name n.n [listed ps,x]))
   |_=>mC
  else if n.kind=26 then match n.ag with
   | [a,e]=>(do
     let l←fz k a.ag [] false
     let x←cl k e
     pure (.mk n.kind n.name n.n [listed l,x]))
   |_=>mC
  else if n.kind=41 then match n.ag with
   | [a]=>(do
     let l←fz k a.ag [] false
     pure (.mk n.kind n.name n.n [listed l]))
   |_=>mC
  else if n.kind=29 then match n.ag with
   | [a,r]=>(do
     let p←jA k a
     let x←iA k r
     pure (.mk n.kind n.name n.n [p,x]))
   |_=>mC
  else if n.kind=40 then match n.ag with
   | [a,e]=>(do
     let p←jA k a
     let x←cl k e
     pure (.mk n.kind n.name n.n [p,x]))
   |_=>mC
  else (do
    let l←bW k n.ag
    pure (.mk n.kind n.name n.n l))
end
def mz:List Nd→Bool
 | []=>false
 |d::l=>decide (d.kind=15)||mz l
def fx (k:Nat):List Nd→FM (List Nd)
 | []=>pure []
 |d::l=>
  if d.kind=10 then (do
    let x←fz k (sub d 2).ag [] false
    dq (mz x)
    let r←fx k l
    pure (.mk d.kind d.name d.n [sub d 0,sub d 1,listed x]::r))
  else (do
    let r←fx k l
    pure (d::r))
def lJ (k:Nat)(n:Nd):FM Nd:=do
 let ds←fx k (sub n 2).ag
 let l←fz k ds [] false
 pure (.mk n.kind n.name n.n [sub n 0,sub n 1,listed l])
def gz (k j:Nat)(ts:List Tk):Except Int Nd:=match dW k ⟨ts,0⟩ with
 | .error e=>.error e
 | .ok (n,_)=>match lJ j n with
  |none=>.error (-1)
  |some (m,b)=>if b=true then .error 31 else .ok m
section
variable (sp:List UInt8→Int→Bool)
def isVar (s:List UInt8):Bool:=sp s 1||sp s 3
def wh (s:List UInt8):Bool:=sp s 1
def iV (s:List UInt8):Bool:=sp s 2
def qT (s:List UInt8):Bool:=sp s 2||sp s 4
def fD (s:List UInt8):Bool:=qT sp s||[h_,iv,dI].contains s
def kg (s:List UInt8):Bool:=iV sp s||[h_,iv,dI,kM,ez].contains s
def mu (o:Nd):Bool:=decide (o.kind=24)&&o.ag.isEmpty&&(decide (o.n=1)&&qT sp o.name||decide (o.n=0)&&isVar sp o.name)
def pY (o:Nd):Bool:=decide (o.n=1)&&mu sp o
def pC (n:Nd):Bool:=decide (n.kind=0)&&decide (n.n=0)&&n.name.isEmpty&&n.ag.isEmpty
def eZ (n:Nd):Bool:=decide (n.kind=52)&&decide (n.n=0)&&wh sp n.name&&n.ag.isEmpty
def cV:Nd→Bool
 | .mk k s n l=>decide (n=0)&&
  (if k=52 then wh sp s&&l.isEmpty
  else if k=53 then kg sp s&&l.isEmpty
  else decide (k=54)&&s.isEmpty&&(match l with
    | [a,b]=>cV a&&cV b
    |_=>false))
def jG (s:List UInt8):Option Nat:=
 if s=h_ then some 0 else if s=kM then some 1 else if s=iv then some 2 else if s=ez then some 2 else if s=dI then some 3 else none
def dZ:Nd→Nat→Bool
 | .mk k s n l,j=>
  if k=54 then decide (n=0)&&s.isEmpty&&(match l with
    | [a,b]=>eZ sp b&&dZ a (j+1)
    |_=>false)
  else decide (k=53)&&cV sp (.mk k s n l)&&(match jG s with
    |none=>true
    |some f=>decide (j=0∨j=f))
mutual
def dG:Nd→Bool
 | .mk k s n l=>
  if k=44 then s.isEmpty&&decide (n≥0)&&l.isEmpty
  else decide (n=0)&&(
    if k=42 then isVar sp s&&l.isEmpty
    else if k=43 then s.isEmpty&&l.isEmpty
    else if k=45 then l.isEmpty
    else if k=46 then fD sp s&&lE l
    else if k=47 then s.isEmpty&&decide (l.length>2)&&sT l
    else if k=48 then s.isEmpty&&lE l&&decide (l.length=2∨l.length=3)
    else if k=49 then s.isEmpty&&lE l
    else if k=50 then wh sp s&&s9 l
    else if k=51 then fD sp s&&sE l
    else false)
def lE:List Nd→Bool
 | []=>true
 |a::l=>dG a&&lE l
def s9:List Nd→Bool
 | []=>false
 |a::l=>dG a&&l.isEmpty
def sT:List Nd→Bool
 | []=>false
 |a::l=>dG a&&sS l
def sS:List Nd→Bool
 | []=>true
 |o::l=>pY sp o&&sT l
def sE:List Nd→Bool
 | []=>true
 |f::l=>u5 f&&sE l
def u5:Nd→Bool
 | .mk k s n l=>decide (k=37)&&decide (n=0)&&isVar sp s&&s9 l
end
def mO:List UInt8→List Nd→Bool
 |_,[]=>true
 |s,d::l=>
  if d.kind≠13∨arity d=0 then mO [] l
  else decide (d.name≠s)&&mO d.name l
def px (j:Nat)(l:List Nd):Bool:=l.all fun c=>decide ((sub c 0).ag.length=j)
mutual
def bK:Nd→Bool
 | .mk k s n l=>
  if k=20 then s.isEmpty&&decide (n≥0)&&l.isEmpty
  else decide (n=0)&&(
    if k=18 then isVar sp s&&l.isEmpty
    else if k=19 then fD sp s&&l.isEmpty
    else if k=21 then l.isEmpty
    else if k=22 then s.isEmpty&&decide (l.length=2)&&l_ l
    else if k=23 then s.isEmpty&&decide (l.length>2)&&qt l
    else if k=25 then s.isEmpty&&GK l
    else if k=26 then s.isEmpty&&J0 l
    else if k=27 then s.isEmpty&&decide (l.length=3)&&l_ l
    else if k=28 then s.isEmpty&&wB l
    else if k=30 then s.isEmpty&&nk l&&decide (l≠[])&&!iP (l.getLastD kJ)
    else if k=31 then s.isEmpty&&l_ l&&decide (l.length=2∨l.length=3)
    else if k=32 then s.isEmpty&&l_ l
    else if k=33 then s.isEmpty&&sz l
    else if k=34 then s.isEmpty&&Ey l
    else if k=35 then fD sp s&&pt l
    else if k=36 then s.isEmpty&&FO l
    else false)
def l_:List Nd→Bool
 | []=>true
 |a::l=>bK a&&l_ l
def kO:List Nd→Bool
 | []=>false
 |a::l=>bK a&&l.isEmpty
def qt:List Nd→Bool
 | []=>false
 |a::l=>bK a&&sV l
def sV:List Nd→Bool
 | []=>true
 |o::l=>mu sp o&&qt l
def sz:List Nd→Bool
 | []=>false
 |a::l=>bK a&&(match l with
   | [o]=>mu sp o
   |_=>false)
def Ey:List Nd→Bool
 | []=>false
 |o::l=>mu sp o&&kO l
def GK:List Nd→Bool
 | []=>false
 |a::l=>decide (a.kind=1)&&decide (a.n=0)&&a.name.isEmpty&&decide (a.ag≠[])&&lE sp a.ag&&kO l
def J0:List Nd→Bool
 | []=>false
 |a::l=>lU a&&kO l
def wB:List Nd→Bool
 | []=>false
 |a::l=>bK a&&rf l
def rf:List Nd→Bool
 | []=>true
 |a::l=>CI a&&rf l
def CI:Nd→Bool
 | .mk k s n l=>decide (k=29)&&decide (n=0)&&s.isEmpty&&pc l
def pc:List Nd→Bool
 | []=>false
 |a::l=>dG sp a&&qD l
def qD:List Nd→Bool
 | []=>false
 |a::l=>kV a&&l.isEmpty
def nk:List Nd→Bool
 | []=>true
 |a::l=>p_ a&&nk l
def p_:Nd→Bool
 | .mk k s n l=>
  if k=40 then decide (n=0)&&s.isEmpty&&Jl l
  else if k=41 then decide (n=0)&&s.isEmpty&&qg l
  else bK (.mk k s n l)
def Jl:List Nd→Bool
 | []=>false
 |a::l=>dG sp a&&kO l
def pt:List Nd→Bool
 | []=>true
 |f::l=>sW f&&pt l
def sW:Nd→Bool
 | .mk k s n l=>decide (k=37)&&decide (n=0)&&isVar sp s&&kO l
def FO:List Nd→Bool
 | []=>false
 |a::l=>decide (a.kind≠19)&&bK a&&decide (l≠[])&&pt l
def kV:Nd→Bool
 | .mk k s n l=>decide (k=16)&&decide (n=0)&&s.isEmpty&&w5 l
def w5:List Nd→Bool
 | []=>false
 |g::l=>Z6 g&&qg l
def Z6:Nd→Bool
 | .mk k s n l=>decide (k=1)&&decide (n=0)&&s.isEmpty&&decide (l≠[])&&(jt l||decide (l.length=1)&&k9 l)
def jt:List Nd→Bool
 | []=>true
 |a::l=>pU a&&jt l
def pU:Nd→Bool
 | .mk k s n l=>decide (k=17)&&decide (n=0)&&s.isEmpty&&decide (l.length=2)&&l_ l
def k9:List Nd→Bool
 | []=>true
 |a::l=>rI a&&k9 l
def rI:Nd→Bool
 | .mk k s n l=>decide (k=17)&&decide (n=0)&&s.isEmpty&&oX l
def oX:List Nd→Bool
 | []=>false
 |a::l=>pC a&&kO l
def qg:List Nd→Bool
 | []=>false
 |a::l=>lU a&&l.isEmpty
def lU:Nd→Bool
 | .mk k s n l=>decide (k=1)&&decide (n=0)&&s.isEmpty&&zS l&&mO [] l
def zS:List Nd→Bool
 | []=>true
 |a::l=>nM a&&zS l
def nM:Nd→Bool
 | .mk k s n l=>
  if k=13 then decide (n=0)&&isVar sp s&&decide (l≠[])&&tW l&&KZ (.mk k s n l)
  else decide (k=15)&&decide (n=0)&&s.isEmpty&&decide ((l.getD 0 kJ).kind≠42)&&pc l
def tW:List Nd→Bool
 | []=>true
 |a::l=>UO a&&tW l
def UO:Nd→Bool
 | .mk k s n l=>decide (k=14)&&decide (n=0)&&s.isEmpty&&Jn l
def Jn:List Nd→Bool
 | []=>false
 |a::l=>decide (a.kind=1)&&decide (a.n=0)&&a.name.isEmpty&&lE sp a.ag&&qD l
def KZ:Nd→Bool
 | .mk k s n l=>decide (arity (.mk k s n l)>0∨l.length=1)&&px (arity (.mk k s n l)) l
end
def kS (lo:Nat)(f:Nd→Bool)(n:Nd):Bool:=decide (n.kind=1)&&decide (n.n=0)&&n.name.isEmpty&&decide (lo≤n.ag.length)&&n.ag.all f
def qs (n:Nd):Bool:=decide (n.kind=4)&&decide (n.n=0)&&(isVar sp n.name||iV sp n.name)&&n.ag.isEmpty
def jW (n:Nd):Bool:=pC n||kS 0 (qs sp) n
def jS (k:Int)(n:Nd):Bool:=decide (n.kind=k)&&decide (n.n=0)&&isVar sp n.name&&(match n.ag with
  | [a]=>cV sp a
  |_=>false)
def xA (n:Nd):Bool:=decide (n.kind=6)&&decide (n.n=0)&&qT sp n.name&&(match n.ag with
  | [a]=>kS 0 (cV sp) a||kS 1 (jS sp 7) a
  |_=>false)
def o_ (n:Nd):Bool:=decide (n.kind=11)&&decide (n.n=0)&&iV sp n.name&&(match n.ag with
  | [a]=>eZ sp a
  |_=>false)
def pZ (n:Nd):Bool:=decide (n.kind=13)&&nM sp n
def lS (n:Nd):Bool:=
 if n.kind=5 then iV sp n.name&&decide (n.n=0)&&(match n.ag with
   | [a,b]=>kS 0 (eZ sp) a&&kS 0 (xA sp) b
   |_=>false)
 else if n.kind=8 then iV sp n.name&&decide (n.n=0)&&(match n.ag with
   | [a,b]=>eZ sp a&&kS 0 (jS sp 9) b
   |_=>false)
 else if n.kind=10 then iV sp n.name&&decide (n.n=0)&&(match n.ag with
   | [a,b,c]=>kS 0 (o_ sp) a&&dZ sp b 0&&kS 0 (pZ sp) c&&mO [] c.ag
   |_=>false)
 else if n.kind=12 then [oV,oQ,sk].contains n.name&&decide (n.n≥0∧n.n<10)&&(match n.ag with
   | [a]=>kS 1 (mu sp) a
   |_=>false)
 else nM sp n
def zL (n:Nd):Bool:=decide (n.kind=3)&&decide (n.n=0)&&iV sp n.name&&(match n.ag with
  | [a]=>jW sp a
  |_=>false)
def yk (n:Nd):Bool:=decide (n.kind=2)&&decide (n.n=0)&&iV sp n.name&&(match n.ag with
  | [a,b,c]=>jW sp a&&kS 0 (zL sp) b&&kS 0 (lS sp) c&&mO [] c.ag
  |_=>false)
end
def GT (sp:List UInt8→Int→Bool)(t:Tk):Prop:=(1≤t.kind∧t.kind≤4→sp t.text t.kind=true)∧(t.kind=5→0≤t.num)
def Gs (sp:List UInt8→Int→Bool)(s:PS):Prop:=∀t∈s.r,GT sp t
def At (sp:List UInt8→Int→Bool){α:Type}(s:PS)(x:PM α)(Φ:α→Prop):Prop:=Gs sp s→∀a s',x s=.ok (a,s')→Φ a∧Gs sp s'
section
variable {sp:List UInt8→Int→Bool} {α β:Type} {s:PS} {Φ Ψ:α→Prop}
theorem bind_eq (x:PM α)(f:α→PM β)(s:PS):(x >>= f) s=match x s with
 | .error e=>.error e
 | .ok (a,s')=>f a s':=rfl
protected theorem At.pure {a:α}(h:Φ a):At sp s (Pure.pure a:PM α) Φ:=fun hG b s' e=>by cases e;exact⟨h,hG⟩
protected theorem At.bind {x:PM β}{f:β→PM α}{Φ':β→Prop}(hx:At sp s x Φ')(hf:∀a s',Φ' a→At sp s' (f a) Φ):At sp s (x >>= f) Φ:=fun hG a s' e=>by
 rw[bind_eq] at e
 cases h:x s with
 |error e'=>rw[h] at e;cases e
 |ok p=>
  obtain⟨b,s1⟩:=p;rw[h] at e;obtain⟨h1,h2⟩:=hx hG b s1 h;exact hf b s1 h1 h2 a s' e
protected theorem At.mono {x:PM α}(h:At sp s x Φ)(hr:∀a,Φ a→Ψ a):At sp s x Ψ:=fun hG a s' e=>⟨hr a (h hG a s' e).1,(h hG a s' e).2⟩
protected theorem At.get {f:PS→PM α}(h:At sp s (f s) Φ):At sp s (get >>= f) Φ:=fun hG a s' e=>h hG a s' e
protected theorem At.bad {e:Int}:At sp s (bad e:PM α) Φ:=fun _ _ _ h=>by cases h
protected theorem At.out:At sp s (out:PM α) Φ:=At.bad
protected theorem At.step:At sp s dT (fun t=>t=gC s 0∧GT sp t):=fun hG a s' e=>by
 unfold dT at e
 split at e
 ·cases e
 ·rename_i t r hr;cases e;exact⟨⟨by simp [gC,hr],hG _ (by rw[hr];simp)⟩,fun u hu=>hG u (by rw[hr];exact List.mem_cons_of_mem _ hu)⟩
theorem DH {k:Int}(h:kN s [k]=true):(gC s 0).kind=k:=by simpa [kN] using h
protected theorem At.B5 {k:Int}:At sp s (jj k) (fun t=>t.kind=k∧GT sp t):=fun hG a s' e=>by
 unfold jj at e
 split at e
 ·cases e
 ·rename_i h;obtain⟨⟨h1,h2⟩,h3⟩:=At.step hG a s' e;have:kN s [k]=true:=by
   cases hk:kN s [k] with
   |true=>rfl
   |false=>exact absurd (.inr hk) h
  exact⟨⟨by rw[h1];exact DH this,h2⟩,h3⟩
protected theorem At.take {w:List UInt8}:At sp s (bC w) (fun t=>t=gC s 0):=fun hG a s' e=>by
 unfold bC at e
 split at e
 ·cases e
 ·split at e
  ·split at e
   ·cases e
   ·have:=At.step (s:=⟨s.r,s.deep+1⟩) hG a s' e;exact⟨this.1.1,this.2⟩
  ·split at e
   ·have:=At.step (s:=⟨s.r,s.deep - 1⟩) hG a s' e;exact⟨this.1.1,this.2⟩
   ·have:=At.step hG a s' e;exact⟨this.1.1,this.2⟩
protected theorem At.maybe {w:List UInt8}:At sp s (bB w) (fun _=>True):=fun hG a s' e=>by
 unfold bB at e
 split at e
 ·exact (At.bind (sp:=sp) (Φ:=fun _=>True) At.take fun _ _ _=>At.pure trivial) hG a s' e
 ·cases e;exact⟨trivial,hG⟩
protected theorem At.ite {c:Prop}[Decidable c]{x y:PM α}(h1:c→At sp s x Φ)(h2:¬c→At sp s y Φ):At sp s (if c then x else y) Φ:=by
 split
 ·exact h1 ‹_›
 ·exact h2 ‹_›
protected theorem At.Du {x:PM β}{f:β→PM α}(hx:At sp s x (fun _=>True))(hf:∀a s',At sp s' (f a) Φ):At sp s (x >>= f) Φ:=hx.bind fun a s' _=>hf a s'
protected theorem At.eo {one:PM Nd}{P:Nd→Prop}(h:∀s,At sp s one P):∀k s,At sp s (eo one k) (fun l=>∀a∈l,P a)
 |0,_=>At.out
 |k+1,s=>by
  unfold Go.Proofs.YtdfccaonglmgpaaGreatDoor.eo;refine At.Du At.maybe fun b s=>At.ite (fun _=>?_) (fun _=>At.pure (by simp));exact (h _).bind fun a s ha=>(At.eo h k _).bind fun l s hl=>At.pure (by simp [ha];exact hl)
protected theorem At.fI {one:PM Nd}{P:Nd→Prop}(h:∀s,At sp s one P)(k:Nat)(s:PS):At sp s (eV one k) (fun l=>l≠[]∧∀a∈l,P a):=
 (h _).bind fun a s ha=>(At.eo h k _).bind fun l s hl=>At.pure ⟨by simp,by simp [ha];exact hl⟩
protected theorem At.sX:∀k s,At sp s (jq k) (fun _=>True)
 |0,_=>At.out
 |k+1,s=>by
  unfold jq;exact At.Du At.maybe fun b s=>At.ite (fun _=>At.sX k _) (fun _=>At.pure trivial)
protected theorem At.df {n:Int}{b:β}{P:β→Prop}(h:P b)(s:PS):At sp s (df n b) P:=by
 unfold Go.Proofs.YtdfccaonglmgpaaGreatDoor.df;refine At.get (At.ite (fun _=>At.bad) fun _=>At.Du (At.take.mono fun _ _=>trivial) fun _ _=>At.pure h)
protected theorem At.eR {one:β→PM β}{P:β→Prop}(h:∀s b,P b→At sp s (one b) P)(n:Int):∀k b s,P b→At sp s (eR one n k b) P
 |0,_,_,_=>At.out
 |k+1,b,s,hb=>by
  unfold Go.Proofs.YtdfccaonglmgpaaGreatDoor.eR;refine At.Du (At.sX k _) fun _ s=>At.get (At.ite (fun _=>At.df hb _) fun _=>?_);exact (h _ _ hb).bind fun b' s hb'=>At.get (At.ite (fun _=>At.eR h n k _ _ hb') fun _=>At.df hb' _)
protected theorem At.block {one:β→PM β}{P:β→Prop}(h:∀s b,P b→At sp s (one b) P)(k:Nat)(b:β)(s:PS)(hb:P b):At sp s (iy one k b) P:=by
 unfold iy;exact At.take.bind fun o s _=>At.eR h _ k b s hb
protected theorem At.cq {one:PM Nd}{P:Nd→Prop}(h:∀s,At sp s one P)(k:Nat)(s:PS):At sp s (cq one k) (fun l=>∀a∈l,P a):=by
 unfold Go.Proofs.YtdfccaonglmgpaaGreatDoor.cq;refine At.block (fun s l hl=>?_) k [] s (by simp);unfold snoc;exact (h _).bind fun a s ha=>At.pure fun x hx=>by
  rcases List.mem_append.1 hx with hx|hx
  ·exact hl x hx
  ·rw[List.mem_singleton.1 hx];exact ha
end
section
variable (sp:List UInt8→Int→Bool)
mutual
inductive PE:Nd→Prop
 |var {s}:isVar sp s=true→PE (bk 18 s [])
 |con {s}:fD sp s=true→PE (bk 19 s [])
 |int {n}:0≤n→PE (.mk 20 [] n [])
 |str {s}:PE (bk 21 s [])
 |app {a b}:PE a→PE b→PE (bk 22 [] [a,b])
 |ops {a l}:PE a→PO l→l≠[]→PE (bk 23 [] (a::l))
 |lam {l e}:l≠[]→(∀a∈l,PE a)→PE e→PE (bk 25 [] [listed l,e])
 |elet {l e}:(∀a∈l,PQ a)→PE e→PE (bk 26 [] [listed l,e])
 |eif {a b c}:PE a→PE b→PE c→PE (bk 27 [] [a,b,c])
 |ecase {a l}:PE a→(∀x∈l,PA x)→PE (bk 28 [] (a::l))
 |edo {l}:(∀x∈l,J5 x)→PE (bk 30 [] l)
 |tup {l}:(∀x∈l,PE x)→l.length=2∨l.length=3→PE (bk 31 [] l)
 |lst {l}:(∀x∈l,PE x)→PE (bk 32 [] l)
 |left {a o}:PE a→mu sp o=true→PE (bk 33 [] [a,o])
 |right {o e}:mu sp o=true→PE e→PE (bk 34 [] [o,e])
 |make {s l}:fD sp s=true→(∀x∈l,PF x)→PE (bk 35 s l)
 |put {a l}:a.kind≠19→PE a→l≠[]→(∀x∈l,PF x)→PE (bk 36 [] (a::l))
 |wild:PE (bk 38 [] [])
 |eas {s a}:wh sp s=true→PE a→PE (bk 39 s [a])
inductive PO:List Nd→Prop
 |nil:PO []
 |cons {o b l}:mu sp o=true→PE b→PO l→PO (o::b::l)
inductive PF:Nd→Prop
 |mk {s e}:isVar sp s=true→PE e→PF (bk 37 s [e])
inductive PA:Nd→Prop
 |mk {l r}:PE l→PR r→PA (bk 29 [] [l,r])
inductive J5:Nd→Prop
 |exp {e}:PE e→J5 e
 |gen {a e}:PE a→PE e→J5 (bk 40 [] [a,e])
 |slet {l}:(∀a∈l,PQ a)→J5 (bk 41 [] [listed l])
inductive PR:Nd→Prop
 |plain {e l}:PE e→(∀a∈l,PQ a)→PR (bk 16 [] [listed [bk 17 [] [kJ,e]],listed l])
 |guards {g l}:g≠[]→(∀a∈g,PG a)→(∀a∈l,PQ a)→PR (bk 16 [] [listed g,listed l])
inductive PG:Nd→Prop
 |mk {c e}:PE c→PE e→PG (bk 17 [] [c,e])
inductive PQ:Nd→Prop
 |mk {l r}:PE l→PR r→PQ (bk 15 [] [l,r])
end
end
section
variable {sp:List UInt8→Int→Bool} {s:PS} {w:List UInt8}
protected theorem At.Hh:At sp s (bB w) (fun b=>b=eM s [w]):=fun hG a s' e=>by
 unfold bB at e
 split at e
 ·rename_i h;exact (At.bind (sp:=sp) (Φ:=fun b=>b=eM s [w]) At.take fun _ _ _=>At.pure h.symm) hG a s' e
 ·rename_i h;cases e;refine⟨?_,hG⟩
  cases h':eM s [w] with
  |true=>exact absurd h' h
  |false=>rfl
protected theorem At.j8 {α:Type}{Φ:α→Prop}{x y:PM α}(h1:∀s,At sp s x Φ)(h2:∀s,At sp s y Φ):At sp s (bB w >>= fun b=>if b=true then x else y) Φ:=
 At.Hh.bind fun _ _ _=>At.ite (fun _=>h1 _) fun _=>h2 _
protected theorem At.dL {α:Type}{Φ:α→Prop}{x:PM α}(h:∀s,At sp s x Φ):At sp s (bC w >>= fun _=>x) Φ:=At.take.bind fun _ _ _=>h _
theorem og {t:Tk}{k:Int}(h:GT sp t)(hk:t.kind=k)(h1:1≤k)(h4:k≤4):sp t.text k=true:=by
 subst hk;exact h.1 ⟨h1,h4⟩
theorem G_ {t:Tk}{ks:List Int}(h:t=gC s 0)(hk:kN s ks=true):t.kind∈ks:=by
 rw[h];simpa [kN] using hk
theorem Pf {t:Tk}{k:Int}(h:t=gC s 0)(hk:kN s [k]=true):t.kind=k:=by simpa using G_ h hk
protected theorem At.named {a b:Int}(ha:1≤a∧a≤4)(hb:1≤b∧b≤4):At sp s (jI a b) (fun t=>sp t a=true∨sp t b=true):=by
 unfold jI;refine At.get (At.ite (fun _=>At.dL fun _=>?_) fun _=>?_)
 ·exact At.B5.bind fun t _ ht=>At.dL fun _=>At.pure (.inr (og ht.2 ht.1 hb.1 hb.2))
 ·exact At.B5.bind fun t _ ht=>At.pure (.inl (og ht.2 ht.1 ha.1 ha.2))
protected theorem At.jX:At sp s gm (fun t=>isVar sp t=true):=(At.named (by omega) (by omega)).mono fun t h=>by simpa [isVar] using h
protected theorem At.item:At sp s mJ (fun n=>qs sp n=true):=by
 unfold mJ;refine At.get (At.ite (fun h=>?_) fun _=>?_)
 ·exact At.step.bind fun t _ ht=>At.pure (by have:=og ht.2 (Pf ht.1 h) (by omega) (by omega);simp [qs,bk,Nd.kind,Nd.n,Nd.name,Nd.ag,iV,this])
 ·exact At.jX.bind fun t _ ht=>At.pure (by simp [qs,bk,Nd.kind,Nd.n,Nd.name,Nd.ag,ht])
theorem gk {lo:Nat}{f:Nd→Bool}{l:List Nd}(h:∀a∈l,f a=true)(hl:lo≤l.length):kS lo f (listed l)=true:=by
 simp [kS,listed,Nd.kind,Nd.n,Nd.name,Nd.ag,hl];exact h
protected theorem At.lY {Φ:List Nd→Prop}{x:PM (List Nd)}(h0:Φ [])(hx:At sp s x Φ):At sp s (get >>= fun s=>if eM s [w]=true then (pure []:PM (List Nd)) else x) Φ:=At.get (At.ite (fun _=>At.pure h0) fun _=>hx)
protected theorem At.items {k:Nat}:At sp s (jN k) (fun n=>jW sp n=true):=by
 unfold jN;refine At.get (At.ite (fun _=>At.dL fun _=>?_) fun _=>At.pure ?_)
 ·exact (At.lY (Φ:=fun l=>∀a∈l,qs sp a=true) (by simp) ((At.fI (fun _=>At.item) k _).mono fun _ h=>h.2)).bind fun l _ hl=>At.dL fun _=>At.pure (by
    unfold jW;rw[gk hl (Nat.zero_le _)];simp)
 ·simp [jW,pC,kJ,Nd.kind,Nd.n,Nd.name,Nd.ag]
theorem LM {t:List UInt8}(h:sp t 1=true):eZ sp (bk 52 t [])=true:=by simp [eZ,bk,Nd.kind,Nd.n,Nd.name,Nd.ag,wh,h]
protected theorem At.kL:At sp s il (fun n=>eZ sp n=true):=by
 unfold il;exact At.B5.bind fun t _ ht=>At.pure (LM (og ht.2 ht.1 (by omega) (by omega)))
protected theorem At.oH:∀k s,At sp s (iB k) (fun l=>∀a∈l,eZ sp a=true)
 |0,_=>At.out
 |k+1,s=>by
  unfold iB;exact At.get (At.ite (fun _=>At.kL.bind fun a _ ha=>(At.oH k _).bind fun l _ hl=>At.pure (by simp [ha];exact hl)) fun _=>At.pure (by simp))
theorem ra {a b:Nd}(ha:cV sp a=true)(hb:cV sp b=true):cV sp (bk 54 [] [a,b])=true:=by
 simp [bk,cV,ha,hb]
theorem qL {t:List UInt8}(h:kg sp t=true):cV sp (bk 53 t [])=true:=by simp [bk,cV,h]
theorem ES {a:Nd}(h:eZ sp a=true):cV sp a=true:=by
 obtain⟨k,t,n,l⟩:=a;simp only[eZ,Bool.and_eq_true,decide_eq_true_eq,List.isEmpty_iff] at h;obtain⟨⟨⟨h1,h2⟩,h⟩,h3⟩:=h;simp only[Nd.kind,Nd.n,Nd.name,Nd.ag] at h1 h2 h h3;subst h1 h2 h3;simp [cV,h]
theorem uv {t:List UInt8}(h:kg sp t=true):∀{l:List Nd},(∀a∈l,cV sp a=true)→cV sp (gw t l)=true:=by
 have key:∀(l:List Nd) (n:Nd),cV sp n=true→(∀a∈l,cV sp a=true)→cV sp (l.foldl (fun n a=>bk 54 [] [n,a]) n)=true:=by
  intro l
  induction l with
  |nil=>intro n hn _;exact hn
  |cons a l ih=>intro n hn hl;exact ih _ (ra hn (hl a (by simp))) fun x hx=>hl x (by simp [hx])
 exact fun {l} hl=>key l _ (qL h) hl
theorem xI {t:List UInt8}(h:sp t 2=true):kg sp t=true:=by simp [kg,iV,h]
theorem iL {t:List UInt8}(h:t∈[h_,iv,dI,kM,ez]):kg sp t=true:=by simp only[kg,List.contains_iff_mem.2 h,Bool.or_true]
theorem D7 {t:List UInt8}(h:t∈[h_,iv,dI]):fD sp t=true:=by simp only[fD,List.contains_iff_mem.2 h,Bool.or_true]
protected theorem At.empty (h:eM s [jK]=true):At sp s iO (fun t=>t=iv∨t=dI):=by
 unfold iO;refine At.Hh.bind fun b _ hb=>At.ite (fun _=>?_) fun hn=>absurd (hb.trans h) hn;exact At.j8 (fun _=>At.pure (.inr rfl)) fun _=>At.pure (.inl rfl)
theorem N7 {t:Tk}(hG:GT sp t)(hk:t.kind∈[1,2]∨t.kind∈[3,4]):mu sp (.mk 24 t.text (if t.kind=2∨t.kind=4 then 1 else 0) [])=true:=by
 simp only[List.mem_cons,List.not_mem_nil,or_false] at hk;have:t.kind=1∨t.kind=2∨t.kind=3∨t.kind=4:=by omega
 rcases this with h|h|h|h<;>have h':=og hG h (by omega) (by omega)<;>simp [mu,Nd.kind,Nd.n,Nd.name,Nd.ag,isVar,qT,h,h']
protected theorem At.operator:At sp s dJ (fun o=>mu sp o=true):=by
 unfold dJ;refine At.j8 (fun s=>At.get (At.ite (fun h=>?_) fun _=>At.bad)) fun s=>At.get (At.ite (fun h=>?_) fun _=>At.bad)
 ·exact At.step.bind fun t _ ht=>At.dL fun _=>At.pure (N7 ht.2 (.inl (G_ ht.1 h)))
 ·exact At.step.bind fun t _ ht=>At.pure (N7 ht.2 (.inr (G_ ht.1 h)))
protected theorem At.iZ:At sp s dR (fun _=>True):=by
 unfold dR;exact At.get (At.ite (fun _=>At.dL fun _=>At.pure trivial) fun _=>At.bad)
theorem ve:∀k,(∀s,At sp s (my k) (fun n=>cV sp n=true))∧(∀s n,cV sp n=true→At sp s (rL k n) (fun n=>cV sp n=true))∧
  (∀s m,At sp s (nO k m) (fun l=>l.length≤m∧∀a∈l,cV sp a=true))∧(∀s,At sp s (gS k) (fun n=>cV sp n=true))
 |0=>⟨fun _=>by unfold my;exact At.out,fun _ _ _=>by unfold rL;exact At.out,fun _ _=>by unfold nO;exact At.out,fun _=>by unfold gS;exact At.out⟩
 |k+1=>by
  obtain⟨h1,h2,h3,h4⟩:=ve k;refine⟨fun s=>?_,fun s n hn=>?_,fun s m=>?_,fun s=>?_⟩
  ·unfold my;refine (h4 _).bind fun n _ hn=>(h2 _ _ hn).bind fun n _ hn=>At.get (At.ite (fun _=>?_) fun _=>At.pure hn);exact At.step.bind fun _ _ _=>(h1 _).bind fun r _ hr=>At.pure (ra (ra (qL (iL (by simp))) hn) hr)
  ·unfold rL;exact At.get (At.ite (fun _=>(h4 _).bind fun a _ ha=>h2 _ _ (ra hn ha)) fun _=>At.pure hn)
  ·cases m with
   |zero=>unfold nO;exact At.pure (by simp)
   |succ m=>
    unfold nO;exact At.j8 (fun _=>(h1 _).bind fun a _ ha=>(h3 _ m).bind fun l _ hl=>At.pure ⟨by simpa using hl.1,by simp [ha];exact hl.2⟩) fun _=>At.pure (by simp)
  ·unfold gS;refine At.get (At.ite (fun h=>?_) fun _=>At.get (At.ite (fun h=>?_) fun _=>At.j8 (fun _=>?_) fun _=>At.dL fun _=>?_))
   ·exact At.step.bind fun t _ ht=>At.pure (qL (xI (og ht.2 (Pf ht.1 h) (by omega) (by omega))))
   ·exact At.kL.mono fun _ h=>ES h
   ·exact (At.lY (Φ:=fun l=>∀a∈l,cV sp a=true) (by simp) ((h1 _).bind fun a _ ha=>At.pure (by simp [ha]))).bind fun l _ hl=>At.dL fun _=>At.pure (uv (iL (by simp)) hl)
   ·refine At.bind (Φ':=fun p=>(p.2.length=1∨kg sp p.1=true)∧∀a∈p.2,cV sp a=true) ?_ fun p _ hp=>?_
    ·refine At.j8 (fun _=>At.pure ⟨.inr (iL (by simp)),by simp⟩) fun _=>At.get (At.ite (fun h=>?_) fun _=>At.get (At.ite (fun _=>At.pure ⟨.inr (iL (by simp)),by simp⟩) fun _=>?_))
     ·exact (At.empty h).bind fun t _ ht=>At.pure ⟨.inr (iL (by rcases ht with rfl|rfl<;>simp)),by simp⟩
     ·refine (h1 _).bind fun a _ ha=>(h3 _ 2).bind fun l _ hl=>At.pure ⟨?_,by simp [ha];exact hl.2⟩;have:=hl.1
      match l,this with
      | [],_=>exact .inl rfl
      | [_],_=>exact .inr (iL (by simp [rF]))
      | [_,_],_=>exact .inr (iL (by simp [rF]))
    ·obtain⟨t,l⟩:=p;refine At.dL fun _=>?_;show At sp _ (match l with
       | [a]=>pure a
       |l=>pure (gw t l)) _
     split
     ·exact At.pure (hp.2 _ (by simp))
     ·rename_i h;rcases hp.1 with h1|h1
      ·match l,h1 with
       | [a],_=>exact absurd rfl (h a)
      ·exact At.pure (uv h1 hp.2)
end
section
variable {sp:List UInt8→Int→Bool} {s:PS} {w:List UInt8}
theorem jb {a:Nd}{l:List Nd}(ha:PE sp a)(hl:PO sp l):PE sp (eU (a::l)):=by
 cases l with
 |nil=>exact ha
 |cons o l=>exact .ops ha hl (by simp)
theorem Lu {l:List Nd}(h0:l≠[])(h:∀a∈l,PE sp a):PE sp (zO l):=by
 cases l with
 |nil=>exact absurd rfl h0
 |cons a l=>
  have key:∀(l:List Nd) (n:Nd),PE sp n→(∀a∈l,PE sp a)→PE sp (l.foldl (fun n x=>bk 22 [] [n,x]) n):=by
   intro l
   induction l with
   |nil=>intro n hn _;exact hn
   |cons b l ih=>intro n hn hl;exact ih _ (.app hn (hl b (by simp))) fun x hx=>hl x (by simp [hx])
  exact key l a (h a (by simp)) fun x hx=>h x (by simp [hx])
theorem PO.snoc {o b:Nd}(ho:mu sp o=true)(hb:PE sp b):∀{l:List Nd},PO sp l→PO sp (l++[o,b])
 |_,.nil=>.cons ho hb .nil
 |_,.cons h1 h2 h3=>.cons h1 h2 (PO.snoc ho hb h3)
theorem ay {P:Nd→Prop}{a:Nd}{l:List Nd}(ha:P a)(hl:∀x∈l,P x):∀x∈a::l,P x:=fun x hx=>by
 rcases List.mem_cons.1 hx with rfl|hx
 ·exact ha
 ·exact hl x hx
theorem aN {P:Nd→Prop}:∀x∈([]:List Nd),P x:=fun x hx=>by cases hx
theorem yj {o:Nd}(h:mu sp o=true):(o.n=1→fD sp o.name=true)∧(o.n≠1→isVar sp o.name=true):=by
 simp only[mu,Bool.and_eq_true,Bool.or_eq_true,decide_eq_true_eq] at h;rcases h.2 with ⟨h1,h2⟩| ⟨h1,h2⟩
 ·exact⟨fun _=>by simp [fD,h2],fun h=>absurd h1 h⟩
 ·exact⟨fun h=>by omega,fun _=>h2⟩
theorem zg {n:Nd}(h:PE sp n)(h19:n.kind=19):fD sp n.name=true:=by
 cases h<;>first|assumption| (simp [bk,Nd.kind] at h19)
structure AtK (sp:List UInt8→Int→Bool)(k:Nat):Prop where
 eq:∀s,At sp s (ya k) (PQ sp)
 guards:∀s w,At sp s (gE k w) (fun l=>(eM s [E4]=true→l≠[])∧∀g∈l,PG sp g)
 rhs:∀s w,At sp s (nc k w) (PR sp)
 exp:∀s,At sp s (iz k) (PE sp)
 ops:∀s,At sp s (rD k) (PO sp)
 operand:∀s,At sp s (dP k) (PE sp)
 alt:∀s,At sp s (pM k) (PA sp)
 gen:∀s n,PE sp n→At sp s (qW k n) (J5 sp)
 stmt:∀s,At sp s (lq k) (J5 sp)
 atoms:∀s,At sp s (fX k) (fun l=>l≠[]∧∀a∈l,PE sp a)
 atomsl:∀s,At sp s (ju k) (fun l=>∀a∈l,PE sp a)
 field:∀s,At sp s (iC k) (PF sp)
 atom:∀s,At sp s (jF k) (PE sp)
 recs:∀s n,PE sp n→At sp s (mR k n) (PE sp)
 base:∀s,At sp s (lB k) (PE sp)
 expc:∀s m,At sp s (oh k m) (fun l=>l.length≤m∧∀a∈l,PE sp a)
 inner:∀s,At sp s (iS k) (PE sp)
 innerl:∀s a l,PE sp a→PO sp l→At sp s (jT k (a::l)) (PE sp)
theorem atK:∀k,AtK sp k
 |0=>by
  constructor
  all_goals intros
  all_goals first
   | (unfold ya;exact At.out)| (unfold gE;exact At.out)| (unfold nc;exact At.out)| (unfold iz;exact At.out)| (unfold rD;exact At.out)
   | (unfold dP;exact At.out)| (unfold pM;exact At.out)| (unfold qW;exact At.out)| (unfold lq;exact At.out)| (unfold fX;exact At.out)
   | (unfold ju;exact At.out)| (unfold iC;exact At.out)| (unfold jF;exact At.out)| (unfold mR;exact At.out)| (unfold lB;exact At.out)
   | (unfold oh;exact At.out)| (unfold iS;exact At.out)| (unfold jT;exact At.out)
 |k+1=>by
  have K:=atK k;constructor
  ·intro s;unfold ya;exact (K.exp _).bind fun l _ hl=>(K.rhs _ _).bind fun r _ hr=>At.pure (.mk hl hr)
  ·intro s w;unfold gE;refine At.get (At.ite (fun _=>?_) fun h=>At.pure ⟨fun h'=>absurd h' h,aN⟩);exact At.step.bind fun _ _ _=>(K.exp _).bind fun c _ hc=>At.dL fun _=>(K.exp _).bind fun e _ he=>(K.guards _ _).bind fun l _ hl=>At.pure ⟨fun _=>by simp,ay (.mk hc he) hl.2⟩
  ·intro s w;unfold nc;refine At.bind (Φ':=fun gs=>(∃e,PE sp e∧gs=[bk 17 [] [kJ,e]])∨(gs≠[]∧∀g∈gs,PG sp g)) ?_ fun gs _ hg=>?_
   ·refine At.get (At.ite (fun h=>(K.guards _ _).mono fun l hl=>.inr ⟨hl.1 h,hl.2⟩) fun _=>At.dL fun _=>(K.exp _).bind fun e _ he=>At.pure (.inl ⟨e,he,rfl⟩))
   ·have key:∀l,(∀a∈l,PQ sp a)→PR sp (bk 16 [] [listed gs,listed l]):=fun l hl=>by
     rcases hg with ⟨e,he,rfl⟩| ⟨h0,hg⟩
     ·exact .plain he hl
     ·exact .guards h0 hg hl
    exact At.j8 (fun _=>(At.cq K.eq k _).bind fun l _ hl=>At.pure (key l hl)) fun _=>At.pure (key [] aN)
  ·intro s;unfold iz;exact (K.operand _).bind fun a _ ha=>(K.ops _).bind fun l _ hl=>At.pure (jb ha hl)
  ·intro s;unfold rD;exact At.get (At.ite (fun _=>At.operator.bind fun o _ ho=>(K.operand _).bind fun b _ hb=>(K.ops _).bind fun l _ hl=>At.pure (.cons ho hb hl)) fun _=>At.pure .nil)
  ·intro s;unfold dP;refine At.j8 (fun _=>?_) fun _=>At.j8 (fun _=>?_) fun _=>At.j8 (fun _=>?_) fun _=>At.j8 (fun _=>?_) fun _=>At.j8 (fun _=>?_) fun _=>?_
   ·exact (K.atoms _).bind fun l _ hl=>At.dL fun _=>(K.exp _).bind fun e _ he=>At.pure (.lam hl.1 hl.2 he)
   ·exact (At.cq K.eq k _).bind fun l _ hl=>At.dL fun _=>(K.exp _).bind fun e _ he=>At.pure (.elet hl he)
   ·exact (K.exp _).bind fun a _ ha=>At.dL fun _=>(K.exp _).bind fun b _ hb=>At.dL fun _=>(K.exp _).bind fun c _ hc=>At.pure (.eif ha hb hc)
   ·exact (K.exp _).bind fun a _ ha=>At.dL fun _=>(At.cq K.alt k _).bind fun l _ hl=>At.pure (.ecase ha hl)
   ·exact (At.cq K.stmt k _).bind fun l _ hl=>At.pure (.edo hl)
   ·exact (K.atoms _).bind fun l _ hl=>At.pure (Lu hl.1 hl.2)
  ·intro s;unfold pM;exact (K.exp _).bind fun l _ hl=>(K.rhs _ _).bind fun r _ hr=>At.pure (.mk hl hr)
  ·intro s n hn;unfold qW;exact At.j8 (fun _=>(K.exp _).bind fun e _ he=>At.pure (.gen hn he)) fun _=>At.pure (.exp hn)
  ·intro s;unfold lq;refine At.j8 (fun _=>?_) fun _=>(K.exp _).bind fun n _ hn=>K.gen _ _ hn;refine (At.cq K.eq k _).bind fun l _ hl=>At.j8 (fun _=>(K.exp _).bind fun e _ he=>K.gen _ _ (.elet hl he)) fun _=>At.pure (.slet hl)
  ·intro s;unfold fX;exact (K.atom _).bind fun a _ ha=>(K.atomsl _).bind fun l _ hl=>At.pure ⟨by simp,ay ha hl⟩
  ·intro s;unfold ju;exact At.get (At.ite (fun _=>(K.atom _).bind fun a _ ha=>(K.atomsl _).bind fun l _ hl=>At.pure (ay ha hl)) fun _=>At.pure aN)
  ·intro s;unfold iC;exact At.jX.bind fun t _ ht=>At.dL fun _=>(K.exp _).bind fun e _ he=>At.pure (.mk ht he)
  ·intro s;unfold jF;exact (K.base _).bind fun n _ hn=>K.recs _ _ hn
  ·intro s n hn;unfold mR;refine At.get (At.ite (fun _=>At.dL fun _=>?_) fun _=>At.pure hn);refine At.bind (Φ':=fun l=>(n.kind≠19→l≠[])∧∀a∈l,PF sp a) ?_ fun l _ hl=>At.iZ.bind fun _ _ _=>K.recs _ _ ?_
   ·exact At.get (At.ite (fun h=>At.pure ⟨fun h'=>absurd h.1 h',aN⟩) fun _=>(At.fI K.field k _).mono fun l hl=>⟨fun _=>hl.1,hl.2⟩)
   ·split
    ·rename_i h19;exact .make (zg hn h19) hl.2
    ·rename_i h19;exact .put h19 hn (hl.1 h19) hl.2
  ·intro s;unfold lB;refine At.get (At.ite (fun h=>?_) fun _=>At.get (At.ite (fun h=>?_) fun _=>At.get (At.ite (fun h=>?_) fun _=>At.get (At.ite (fun h=>?_) fun _=>At.j8 (fun _=>At.pure .wild) fun _=>At.j8 (fun _=>?_) fun _=>At.dL fun _=>?_))))
   ·refine At.step.bind fun t _ ht=>?_;have h1:=og ht.2 (Pf ht.1 h) (by omega) (by omega);exact At.j8 (fun _=>(K.atom _).bind fun a _ ha=>At.pure (.eas (by simpa [wh] using h1) ha)) fun _=>At.pure (.var (by simp [isVar,h1]))
   ·exact At.step.bind fun t _ ht=>At.pure (.con (by simp [fD,qT,og ht.2 (Pf ht.1 h) (by omega) (by omega)]))
   ·exact At.step.bind fun t _ ht=>At.pure (.int (ht.2.2 (Pf ht.1 h)))
   ·exact At.step.bind fun t _ ht=>At.pure .str
   ·exact (At.lY (Φ:=fun l=>∀a∈l,PE sp a) aN ((At.fI K.exp k _).mono fun _ h=>h.2)).bind fun l _ hl=>At.dL fun _=>At.pure (.lst hl)
   ·exact (K.inner _).bind fun n _ hn=>At.dL fun _=>At.pure hn
  ·intro s m
   cases m with
   |zero=>unfold oh;exact At.pure ⟨by simp,aN⟩
   |succ m=>
    unfold oh;exact At.j8 (fun _=>(K.exp _).bind fun a _ ha=>(K.expc _ m).bind fun l _ hl=>At.pure ⟨by simpa using hl.1,ay ha hl.2⟩) fun _=>At.pure ⟨by simp,aN⟩
  ·intro s;unfold iS;refine At.get (At.ite (fun _=>At.pure (.con (D7 (by simp)))) fun _=>At.get (At.ite (fun h=>?_) fun _=>At.get (At.ite (fun _=>At.get ?_) fun _=>?_)))
   ·exact (At.empty h).bind fun t _ ht=>At.pure (.con (D7 (by rcases ht with rfl|rfl<;>simp)))
   ·refine At.operator.bind fun o _ ho=>At.get (At.ite (fun _=>At.pure ?_) fun _=>(K.exp _).bind fun e _ he=>At.pure (.right ho he))
    split
    ·exact .con ((yj ho).1 ‹_›)
    ·exact .var ((yj ho).2 ‹_›)
   ·exact (K.operand _).bind fun a _ ha=>K.innerl _ _ _ ha .nil
  ·intro s a l ha hl;unfold jT;refine At.get (At.ite (fun _=>?_) fun _=>?_)
   ·refine At.operator.bind fun o _ ho=>At.get (At.ite (fun _=>At.pure (.left (jb ha hl) ho)) fun _=>(K.operand _).bind fun b _ hb=>?_);exact K.innerl _ _ _ ha (PO.snoc ho hb hl)
   ·refine (K.expc _ 2).bind fun m _ hm=>?_
    split
    ·exact At.pure (jb ha hl)
    ·rename_i hne;refine At.pure (.tup (ay (jb ha hl) hm.2) ?_);have:=hm.1
     match m,this with
     | [],_=>exact absurd rfl hne
     | [_],_=>exact .inl rfl
     | [_,_],_=>exact .inr rfl
end
section
variable {sp:List UInt8→Int→Bool} {s:PS} {w:List UInt8}
def Gh (sp:List UInt8→Int→Bool):Prop:=(∀s,sp s 2=true→jG s=none)∧∀k,sp [] k=false
theorem uH {a b:Nd}{j:Nat}(hb:eZ sp b=true)(ha:dZ sp a (j+1)=true):dZ sp (bk 54 [] [a,b]) j=true:=by
 simp [bk,dZ,hb,ha]
theorem u6 {t:List UInt8}{j:Nat}(h:kg sp t=true)(hf:jG t=none∨j=0∨jG t=some j):dZ sp (bk 53 t []) j=true:=by
 have:=qL h;rcases hf with hf|hf|hf
 ·simp [bk,dZ] at this ⊢;simp [this,hf]
 ·subst hf;simp [bk,dZ] at this ⊢;refine⟨this,?_⟩;cases jG t<;>simp
 ·simp [bk,dZ] at this ⊢;simp [this,hf]
theorem lA {t:List UInt8}{l:List Nd}(h:kg sp t=true)(hl:∀a∈l,eZ sp a=true)(hf:jG t=none∨l.length=0∨jG t=some l.length):dZ sp (gw t l) 0=true:=by
 have key:∀(l:List Nd) (n:Nd) (j:Nat),(∀a∈l,eZ sp a=true)→dZ sp n (j+l.length)=true→dZ sp (l.foldl (fun n a=>bk 54 [] [n,a]) n) j=true:=by
  intro l
  induction l with
  |nil=>intro n j _ h;exact h
  |cons a l ih=>
   intro n j hl h;refine ih _ j (fun x hx=>hl x (by simp [hx])) (uH (hl a (by simp)) ?_);rw[show j+l.length+1=j+(a::l).length by simp;omega];exact h
 exact key l _ 0 hl (by rw[Nat.zero_add];exact u6 h hf)
theorem At.head (hG:Gh sp){k:Nat}:At sp s (nJ k) (fun n=>dZ sp n 0=true):=by
 have hz:∀{t},t∈[h_,iv,dI,kM,ez]→dZ sp (gw t []) 0=true:=fun h=>lA (iL h) aN (.inr (.inl rfl));unfold nJ;refine At.get (At.ite (fun h=>?_) fun _=>At.j8 (fun _=>?_) fun _=>At.dL fun _=>At.get (At.ite (fun h=>?_) fun _=>At.get (At.ite (fun _=>?_) fun _=>At.j8 (fun _=>?_) fun _=>At.get (At.ite (fun h=>?_) fun _=>?_))))
 ·exact At.step.bind fun t _ ht=>At.pure (u6 (xI (og ht.2 (Pf ht.1 h) (by omega) (by omega))) (.inr (.inl rfl)))
 ·refine At.bind (Φ':=fun l=>(l=[]∨l.length=1)∧∀a∈l,eZ sp a=true) ?_ fun l _ hl=>At.dL fun _=>At.pure ?_
  ·exact At.get (At.ite (fun _=>At.kL.bind fun a _ ha=>At.pure ⟨.inr rfl,ay ha aN⟩) fun _=>At.pure ⟨.inl rfl,aN⟩)
  ·refine lA (iL (by simp)) hl.2 ?_;rcases hl.1 with h|h
   ·exact .inr (.inl (by simp [h]))
   ·exact .inr (.inr (by rw[h];rfl))
 ·refine At.step.bind fun t _ ht=>(At.oH k _).bind fun l _ hl=>At.dL fun _=>At.pure ?_;have h2:=og ht.2 (Pf ht.1 h) (by omega) (by omega);exact lA (xI h2) hl (.inl (hG.1 _ h2))
 ·refine At.kL.bind fun a _ ha=>At.j8 (fun _=>?_) fun _=>At.dL fun _=>At.kL.bind fun b _ hb=>At.j8 (fun _=>?_) fun _=>?_
  ·exact At.kL.bind fun b _ hb=>At.dL fun _=>At.pure (uH hb (uH ha (u6 (iL (by simp)) (.inr (.inr rfl)))))
  ·exact At.kL.bind fun c _ hc=>At.dL fun _=>At.pure (lA (iL (by simp)) (ay ha (ay hb (ay hc aN))) (.inr (.inr rfl)))
  ·exact At.dL fun _=>At.pure (lA (iL (by simp)) (ay ha (ay hb aN)) (.inr (.inr rfl)))
 ·exact At.dL fun _=>At.pure (hz (by simp))
 ·exact (At.empty h).bind fun n _ hn=>At.dL fun _=>At.pure (hz (by rcases hn with rfl|rfl<;>simp))
 ·exact At.dL fun _=>At.pure (hz (by simp))
theorem KN {k:Int}{t:List UInt8}{a:Nd}(ht:isVar sp t=true)(ha:cV sp a=true):jS sp k (bk k t [a])=true:=by
 simp [jS,bk,Nd.kind,Nd.n,Nd.name,Nd.ag,ht,ha]
theorem At.signed {k:Nat}{kind:Int}:At sp s (gF k kind) (fun n=>jS sp kind n=true):=by
 unfold gF;exact At.jX.bind fun t _ ht=>At.dL fun _=>((ve k).1 _).bind fun a _ ha=>At.pure (KN ht ha)
theorem At.ow:∀k s,At sp s (jl k) (fun l=>∀a∈l,cV sp a=true)
 |0,_=>At.out
 |k+1,s=>by
  unfold jl;exact At.get (At.ite (fun _=>((ve k).2.2.2 _).bind fun a _ ha=>(At.ow k _).bind fun l _ hl=>At.pure (ay ha hl)) fun _=>At.pure aN)
theorem At.jr {k:Nat}:At sp s (dv k) (fun n=>xA sp n=true):=by
 unfold dv;refine (At.named (by omega) (by omega)).bind fun t _ ht=>At.get (At.ite (fun _=>At.dL fun _=>?_) fun _=>?_)
 ·refine (At.fI (fun _=>At.signed) k _).bind fun l _ hl=>At.iZ.bind fun _ _ _=>At.pure ?_;have hc:qT sp t=true:=by simpa [qT] using ht
  have:=gk hl.2 (List.length_pos_iff.2 hl.1);simp only[xA,bk,Nd.kind,Nd.n,Nd.name,Nd.ag,hc,Bool.and_true,decide_true];rw[this];simp
 ·refine (At.ow k _).bind fun l _ hl=>At.pure ?_;have hc:qT sp t=true:=by simpa [qT] using ht
  have:=gk hl (Nat.zero_le _);simp only[xA,bk,Nd.kind,Nd.n,Nd.name,Nd.ag,hc,Bool.and_true,decide_true];rw[this];simp
theorem At.sF:∀k s w,At sp s (oq k w) (fun l=>∀a∈l,xA sp a=true)
 |0,_,_=>At.out
 |k+1,s,w=>by
  unfold oq;exact At.j8 (fun _=>At.jr.bind fun a _ ha=>(At.sF k _ _).bind fun l _ hl=>At.pure (ay ha hl)) fun _=>At.pure aN
inductive PT (sp:List UInt8→Int→Bool):Nd→Prop
 |top {d}:lS sp d=true→d.kind≠15→d.kind≠13→d.kind≠10→PT sp d
 |inst {t c h l}:iV sp t=true→kS 0 (o_ sp) c=true→dZ sp h 0=true→(∀a∈l,PQ sp a)→PT sp (bk 10 t [c,h,listed l])
 |eq {d}:PQ sp d→PT sp d
theorem uG {t:Tk}(h:t.kind=2∧GT sp t):iV sp t.text=true:=og h.2 h.1 (by omega) (by omega)
theorem At.data {k:Nat}:At sp s (nH k) (PT sp):=by
 unfold nH;refine At.step.bind fun _ _ _=>At.B5.bind fun t _ ht=>(At.oH k _).bind fun v _ hv=>(At.sF k _ _).bind fun c _ hc=>At.pure (.top ?_ (by simp [bk,Nd.kind]) (by simp [bk,Nd.kind]) (by simp [bk,Nd.kind]));simp only[lS,bk,Nd.kind,Nd.n,Nd.name,Nd.ag,uG ht,gk hv (Nat.zero_le _),gk hc (Nat.zero_le _)];simp
theorem At.uc {k:Nat}:At sp s (kH k) (PT sp):=by
 unfold kH;refine At.step.bind fun _ _ _=>At.B5.bind fun t _ ht=>At.kL.bind fun v _ hv=>?_;have key:∀l,(∀a∈l,jS sp 9 a=true)→PT sp (bk 8 t.text [v,listed l]):=fun l hl=>.top (by
   simp only[lS,bk,Nd.kind,Nd.n,Nd.name,Nd.ag,uG ht,hv,gk hl (Nat.zero_le _)];simp) (by simp [bk,Nd.kind]) (by simp [bk,Nd.kind]) (by simp [bk,Nd.kind])
 exact At.j8 (fun _=>(At.cq (fun _=>At.signed) k _).bind fun l _ hl=>At.pure (key l hl)) fun _=>At.pure (key [] aN)
theorem At.pred:At sp s kU (fun n=>o_ sp n=true):=by
 unfold kU;exact At.B5.bind fun t _ ht=>At.kL.bind fun v _ hv=>At.pure (by simp [o_,bk,Nd.kind,Nd.n,Nd.name,Nd.ag,uG ht,hv])
theorem At.inst (hG:Gh sp){k:Nat}:At sp s (nK k) (PT sp):=by
 unfold nK;refine At.step.bind fun _ _ _=>At.bind (Φ':=fun l=>∀a∈l,o_ sp a=true) ?_ fun c _ hc=>At.B5.bind fun t _ ht=>(At.head hG).bind fun h _ hh=>?_
 ·refine At.j8 (fun _=>?_) fun _=>At.get (At.get (At.ite (fun _=>?_) fun _=>At.pure aN))
  ·exact (At.lY (Φ:=fun l=>∀a∈l,o_ sp a=true) aN ((At.fI (fun _=>At.pred) k _).mono fun _ h=>h.2)).bind fun l _ hl=>At.dL fun _=>At.dL fun _=>At.pure hl
  ·exact At.pred.bind fun p _ hp=>At.dL fun _=>At.pure (ay hp aN)
 ·exact At.j8 (fun _=>(At.cq (atK k).eq k _).bind fun l _ hl=>At.pure (.inst (uG ht) (gk hc (Nat.zero_le _)) hh hl)) fun _=>At.pure (.inst (uG ht) (gk hc (Nat.zero_le _)) hh aN)
theorem At.fix (h:eM s [oV,oQ,sk]=true){k:Nat}:At sp s (fixF k) (PT sp):=by
 unfold fixF;refine At.step.bind fun t s1 ht=>At.get (At.get (At.ite (fun _=>At.bad) fun hn=>?_));intro hG;refine (At.bind (Φ':=fun n=>n=gC s1 0∧n.kind=5∧GT sp n) ?_ fun n _ hnn=>(At.fI (fun _=>At.operator) k _).bind fun l _ hl=>At.pure (.top ?_ (by simp [Nd.kind]) (by simp [Nd.kind]) (by simp [Nd.kind]))) hG
 ·intro hG a s' e;unfold jj at e
  split at e
  ·cases e
  ·rename_i h5;obtain⟨⟨h1,h2⟩,h3⟩:=At.step hG a s' e;have:kN s1 [5]=true:=by
    cases hk:kN s1 [5] with
    |true=>rfl
    |false=>exact absurd (.inr hk) h5
   exact⟨⟨h1,by rw[h1];exact DH this,h2⟩,h3⟩
 ·have h5:kN s1 [5]=true:=by simp [kN,←hnn.1,hnn.2.1]
  simp only[h5,Bool.true_and,decide_eq_true_eq,not_or,Int.not_lt] at hn;rw[←hnn.1] at hn;have ht':[oV,oQ,sk].contains t.text=true:=by
   rw[ht.1];simp only[eM,Bool.and_eq_true] at h;exact h.2
  have h10:n.num≥0∧n.num<10:=⟨hn.1,by omega⟩;simp only[lS,Nd.kind,Nd.n,Nd.name,Nd.ag,ht',gk hl.2 (List.length_pos_iff.2 hl.1)];simp [h10.1,h10.2]
theorem At.decl (hG:Gh sp){k:Nat}:At sp s (nN k) (PT sp):=by
 unfold nN;exact At.get (At.ite (fun _=>At.data) fun _=>At.get (At.ite (fun _=>At.uc) fun _=>At.get (At.ite (fun _=>At.inst hG) fun _=>At.get (At.ite (fun h=>At.fix h) fun _=>((atK k).eq _).mono fun _ h=>.eq h))))
def PB (sp:List UInt8→Int→Bool)(b:List Nd×List Nd):Prop:=(∀a∈b.1,zL sp a=true)∧∀a∈b.2,PT sp a
theorem mM {P:Nd→Prop}{l:List Nd}{a:Nd}(hl:∀x∈l,P x)(ha:P a):∀x∈l++[a],P x:=fun x hx=>by
 rcases List.mem_append.1 hx with hx|hx
 ·exact hl x hx
 ·rw[List.mem_singleton.1 hx];exact ha
theorem At.top (hG:Gh sp){k:Nat}{b:List Nd×List Nd}(hb:PB sp b):At sp s (nU k b) (PB sp):=by
 unfold nU;refine At.get (At.ite (fun _=>?_) fun _=>(At.decl hG).bind fun d _ hd=>At.pure ⟨hb.1,mM hb.2 hd⟩);refine At.step.bind fun _ _ _=>At.B5.bind fun t _ ht=>At.items.bind fun i _ hi=>At.pure ⟨mM hb.1 ?_,hb.2⟩;simp [zL,bk,Nd.kind,Nd.n,Nd.name,Nd.ag,uG ht,hi]
inductive WW (sp:List UInt8→Int→Bool):Nd→Prop
 |mk {t e i l}:iV sp t=true→jW sp e=true→(∀a∈i,zL sp a=true)→(∀a∈l,PT sp a)→WW sp (bk 2 t [e,listed i,listed l])
theorem At.module (hG:Gh sp){k:Nat}:At sp s (dW k) (WW sp):=by
 unfold dW;exact At.dL fun _=>At.B5.bind fun t _ ht=>At.items.bind fun e _ he=>At.dL fun _=>(At.block (P:=PB sp) (fun _ b hb=>At.top hG hb) k ([],[]) _ ⟨aN,aN⟩).bind fun b _ hb=>At.B5.bind fun _ _ _=>At.pure (.mk (uG ht) he hb.1 hb.2)
end
def Ok {α:Type}(x:FM α)(Φ:α→Prop):Prop:=∀a,x=some (a,false)→Φ a
section
variable {α β:Type} {Φ Ψ:α→Prop}
protected theorem Ok.pure {a:α}(h:Φ a):Ok (pure a:FM α) Φ:=fun b e=>by cases e;exact h
theorem mH (x:FM β)(f:β→FM α):(x >>= f)=match x with
 |none=>none
 |some (a,b)=>match f a with
  |none=>none
  |some (c,d)=>some (c,b||d):=rfl
protected theorem Ok.bind {x:FM β}{f:β→FM α}{Φ':β→Prop}(hx:Ok x Φ')(hf:∀a,Φ' a→Ok (f a) Φ):Ok (x >>= f) Φ:=fun a e=>by
 rw[mH] at e
 cases h:x with
 |none=>rw[h] at e;cases e
 |some p=>
  obtain⟨b,c⟩:=p;rw[h] at e;simp only at e
  cases h2:f b with
  |none=>rw[h2] at e;cases e
  |some q=>
   obtain⟨b2,c2⟩:=q;rw[h2] at e;injection e with e;injection e with e1 e2;obtain⟨e2,e3⟩:=Bool.or_eq_false_iff.1 e2;subst e1 e2 e3;exact hf b (hx b h) _ h2
protected theorem Ok.off:Ok (mC:FM α) Φ:=fun _ e=>by cases e
theorem Ok.dq {b:Bool}:Ok (dq b) (fun _=>b=false):=fun _ e=>by cases e;rfl
theorem Ok.pw {b:Bool}{x:FM α}(h:b=false→Ok x Φ):Ok (Go.Proofs.YtdfccaonglmgpaaGreatDoor.dq b >>= fun _=>x) Φ:=Ok.dq.bind fun _ hb=>h hb
theorem Ok.mo {x:FM α}:Ok (Go.Proofs.YtdfccaonglmgpaaGreatDoor.dq true >>= fun _=>x) Φ:=Ok.pw fun h=>by cases h
theorem Ok.mono {x:FM α}(h:Ok x Φ)(hr:∀a,Φ a→Ψ a):Ok x Ψ:=fun a e=>hr a (h a e)
end
section
variable {sp:List UInt8→Int→Bool}
theorem lj:∀{l:List Nd},lE sp l=true↔∀a∈l,dG sp a=true
 | []=>by simp [lE]
 |a::l=>by rw[lE,Bool.and_eq_true,lj];simp
theorem wK:∀{l:List Nd},sE sp l=true↔∀a∈l,u5 sp a=true
 | []=>by simp [sE]
 |a::l=>by rw[sE,Bool.and_eq_true,wK];simp
theorem oW {o:Nd}(h:mu sp o=true):o.kind=24∧o.ag=[]∧(o.n=0∨o.n=1):=by
 simp only[mu,Bool.and_eq_true,Bool.or_eq_true,decide_eq_true_eq,List.isEmpty_iff] at h;exact⟨h.1.1,h.1.2,by rcases h.2 with h|h<;>omega⟩
structure ac0 (sp:List UInt8→Int→Bool)(k:Nat):Prop where
 pat:∀n,PE sp n→Ok (jA k n) (fun m=>dG sp m=true∧(n.kind≠18→m.kind≠42))
 op:∀o,mu sp o=true→Ok (jA k o) (fun m=>m=o∧pY sp o=true)
 fld:∀f,PF sp f→Ok (jA k f) (fun m=>u5 sp m=true)
 app:∀h args,PE sp h→(∀a∈args,dG sp a=true)→Ok (ic k h args) (fun r=>(∀a∈r.1,dG sp a=true)∧PE sp r.2)
 pats:∀l,(∀a∈l,PE sp a)→Ok (dO k l) (fun r=>r.length=l.length∧∀a∈r,dG sp a=true)
 flds:∀l,(∀a∈l,PF sp a)→Ok (dO k l) (fun r=>∀a∈r,u5 sp a=true)
 mix:∀a l,PE sp a→PO sp l→Ok (dO k (a::l)) (fun r=>r.length=l.length+1∧sT sp r=true)
 mixo:∀l,PO sp l→Ok (dO k l) (fun r=>r.length=l.length∧sS sp r=true)
theorem c7 (k:Nat):dO k []=pure []:=by cases k<;>rfl
theorem lG:∀k,ac0 sp k
 |0=>by
  constructor
  ·intro n _;unfold jA;exact Ok.off
  ·intro n _;unfold jA;exact Ok.off
  ·intro n _;unfold jA;exact Ok.off
  ·intro n _ _ _;unfold ic;exact Ok.off
  ·intro l hl;cases l with
   |nil=>rw[c7];exact Ok.pure ⟨rfl,aN⟩
   |cons a l=>unfold dO;exact Ok.off
  ·intro l hl;cases l with
   |nil=>rw[c7];exact Ok.pure aN
   |cons a l=>unfold dO;exact Ok.off
  ·intro a l _ _;unfold dO;exact Ok.off
  ·intro l hl;cases l with
   |nil=>rw[c7];exact Ok.pure ⟨rfl,by simp [sS]⟩
   |cons a l=>unfold dO;exact Ok.off
 |k+1=>by
  have K:=lG k;constructor
  ·intro n hn;unfold jA
   cases hn with
   |var h=>simp only[bk,Nd.kind,Nd.ag,Nd.name,Nd.n,jg,c7];exact Ok.bind (Φ':=fun l=>l=[]) (Ok.pure rfl) fun l hl=>Ok.pure ⟨by simp [hl,dG,h],fun h=>absurd rfl h⟩
   |con h=>simp only[bk,Nd.kind,Nd.ag,Nd.name,Nd.n,jg,c7];exact Ok.bind (Φ':=fun l=>l=[]) (Ok.pure rfl) fun l hl=>Ok.pure ⟨by simp [hl,dG,h,lE],fun _=>by simp⟩
   |int h=>simp only[Nd.kind,Nd.ag,Nd.name,Nd.n,jg,c7];exact Ok.bind (Φ':=fun l=>l=[]) (Ok.pure rfl) fun l hl=>Ok.pure ⟨by simp [hl,dG,h],fun _=>by simp⟩
   |str=>simp only[bk,Nd.kind,Nd.ag,Nd.name,Nd.n,jg,c7];exact Ok.bind (Φ':=fun l=>l=[]) (Ok.pure rfl) fun l hl=>Ok.pure ⟨by simp [hl,dG],fun _=>by simp⟩
   |app ha hb=>
    have hh:PE sp (bk 22 [] [_,_]):=.app ha hb;exact (K.app _ [] hh aN).bind fun r hr=>Ok.pw fun h19=>Ok.pure ⟨by
      have:=zg hr.2 (by simpa using h19)
      simp [bk,dG,this,lj.2 hr.1],fun _=>by simp [bk,Nd.kind]⟩
   |ops ha hl h0=>
    simp only[bk,Nd.kind,Nd.ag,Nd.name,Nd.n,jg];refine (K.mix _ _ ha hl).bind fun r hr=>Ok.pure ⟨?_,fun _=>by simp⟩;have:2<r.length:=by
     rw[hr.1]
     cases hl with
     |nil=>exact absurd rfl h0
     |cons _ _ _=>simp
    simp [dG,hr.2,this]
   |lam _ _ _=>exact Ok.mo
   |elet _ _=>exact Ok.mo
   |eif _ _ _=>exact Ok.mo
   |ecase _ _=>exact Ok.mo
   |edo _=>exact Ok.mo
   |tup hl h2=>
    simp only[bk,Nd.kind,Nd.ag,Nd.name,Nd.n,jg];refine (K.pats _ hl).bind fun r hr=>Ok.pure ⟨?_,fun _=>by simp⟩;rw[←hr.1] at h2;simp [dG,lj.2 hr.2,h2]
   |lst hl=>
    simp only[bk,Nd.kind,Nd.ag,Nd.name,Nd.n,jg];exact (K.pats _ hl).bind fun r hr=>Ok.pure ⟨by simp [dG,lj.2 hr.2],fun _=>by simp⟩
   |left _ _=>exact Ok.mo
   |right _ _=>exact Ok.mo
   |make h hl=>
    simp only[bk,Nd.kind,Nd.ag,Nd.name,Nd.n,jg];exact (K.flds _ hl).bind fun r hr=>Ok.pure ⟨by simp [dG,h,wK.2 hr],fun _=>by simp⟩
   |put _ _ _ _=>exact Ok.mo
   |wild=>simp only[bk,Nd.kind,Nd.ag,Nd.name,Nd.n,jg,c7];exact Ok.bind (Φ':=fun l=>l=[]) (Ok.pure rfl) fun l hl=>Ok.pure ⟨by simp [hl,dG],fun _=>by simp⟩
   |eas h ha=>
    simp only[bk,Nd.kind,Nd.ag,Nd.name,Nd.n,jg];refine (K.pats [_] (ay ha aN)).bind fun r hr=>Ok.pure ⟨?_,fun _=>by simp⟩
    match r,hr with
    | [p],hr=>simp [dG,h,s9,hr.2 p (by simp)]
  ·intro o ho;obtain⟨h1,h2,h3⟩:=oW ho;unfold jA;rw[if_pos h1];refine Ok.pw fun hb=>Ok.pure ⟨rfl,?_⟩;have:o.n=1:=by
    have:¬o.n=0:=by simpa using hb
    omega
   simp [pY,ho,this]
  ·intro f hf
   cases hf with
   |mk hs he=>
    unfold jA;exact (K.pat _ he).bind fun p hp=>Ok.pure (by simp [u5,bk,Nd.name,hs,s9,hp.1])
  ·intro h args hh ha;unfold ic
   split
   ·rename_i h22
    cases hh with
    |app h1 h2=>exact (K.pat _ h2).bind fun p hp=>K.app _ _ h1 (ay hp.1 ha)
    |_=>first| (simp [bk,Nd.kind] at h22)| (simp [Nd.kind] at h22)
   ·exact Ok.pure ⟨ha,hh⟩
  ·intro l hl
   cases l with
   |nil=>rw[c7];exact Ok.pure ⟨rfl,aN⟩
   |cons a l=>
    unfold dO;exact (K.pat a (hl a (by simp))).bind fun p hp=>(K.pats l fun x hx=>hl x (by simp [hx])).bind fun r hr=>Ok.pure ⟨by simp [hr.1],ay hp.1 hr.2⟩
  ·intro l hl
   cases l with
   |nil=>rw[c7];exact Ok.pure aN
   |cons a l=>
    unfold dO;exact (K.fld a (hl a (by simp))).bind fun p hp=>(K.flds l fun x hx=>hl x (by simp [hx])).bind fun r hr=>Ok.pure (ay hp hr)
  ·intro a l ha hl;unfold dO;exact (K.pat a ha).bind fun p hp=>(K.mixo l hl).bind fun r hr=>Ok.pure ⟨by simp [hr.1],by simp [sT,hp.1,hr.2]⟩
  ·intro l hl
   cases hl with
   |nil=>rw[c7];exact Ok.pure ⟨rfl,by simp [sS]⟩
   |cons ho hb hl=>
    unfold dO;exact (K.op _ ho).bind fun p hp=>(K.mix _ _ hb hl).bind fun r hr=>Ok.pure ⟨by simp [hr.1],by simp [sS,hp.1,hp.2,hr.2]⟩
end
section
variable {sp:List UInt8→Int→Bool}
theorem ll:∀{l:List Nd},l_ sp l=true↔∀a∈l,bK sp a=true
 | []=>by simp [l_]
 |a::l=>by rw[l_,Bool.and_eq_true,ll];simp
theorem r8:∀{l:List Nd},pt sp l=true↔∀a∈l,sW sp a=true
 | []=>by simp [pt]
 |a::l=>by rw[pt,Bool.and_eq_true,r8];simp
theorem w7:∀{l:List Nd},rf sp l=true↔∀a∈l,CI sp a=true
 | []=>by simp [rf]
 |a::l=>by rw[rf,Bool.and_eq_true,w7];simp
theorem vd:∀{l:List Nd},nk sp l=true↔∀a∈l,p_ sp a=true
 | []=>by simp [nk]
 |a::l=>by rw[nk,Bool.and_eq_true,vd];simp
theorem sK:∀{l:List Nd},jt sp l=true↔∀a∈l,pU sp a=true
 | []=>by simp [jt]
 |a::l=>by rw[jt,Bool.and_eq_true,sK];simp
theorem za:∀{l:List Nd},zS sp l=true↔∀a∈l,nM sp a=true
 | []=>by simp [zS]
 |a::l=>by rw[zS,Bool.and_eq_true,za];simp
theorem vB:∀{l:List Nd},tW sp l=true↔∀a∈l,UO sp a=true
 | []=>by simp [tW]
 |a::l=>by rw[tW,Bool.and_eq_true,vB];simp
def kC:List UInt8→List Nd→List UInt8
 |s,[]=>s
 |_,d::l=>if d.kind≠13∨arity d=0 then kC [] l else kC d.name l
theorem nW (d:Nd):∀(l:List Nd) (s:List UInt8),kC s (l++[d])=if d.kind≠13∨arity d=0 then [] else d.name
 | [],s=>by simp [kC]
 |x::l,s=>by
  simp only[List.cons_append,kC]
  split<;>exact nW d l _
theorem mB (d:Nd):∀(l:List Nd) (s:List UInt8),mO s (l++[d])=(mO s l&&decide (d.kind≠13∨arity d=0∨d.name≠kC s l))
 | [],s=>by
  simp only[List.nil_append,mO,kC,Bool.true_and,Bool.and_true]
  by_cases h1:d.kind=13<;>by_cases h2:arity d=0<;>simp [h1,h2]
 |x::l,s=>by
  simp only[List.cons_append,mO,kC]
  split
  ·exact mB d l _
  ·rw[mB d l _,Bool.and_assoc]
def OnI (sp:List UInt8→Int→Bool)(out:List Nd):Bool→Prop
 |true=>∃i d,out=i++[d]∧d.kind=13∧arity d≠0∧nM sp d=true
 |false=>kC [] out=[]
structure afX (sp:List UInt8→Int→Bool)(k:Nat):Prop where
 eqs:∀(T:Nd→Prop) (_:∀d,T d→d.kind≠15∧d.kind≠13) l out on,(∀d∈l,T d∨PQ sp d)→(∀d∈out,T d∨nM sp d=true)→mO [] out=true→OnI sp out on→
  Ok (fz k l out on) (fun r=>(∀d∈r,T d∨nM sp d=true)∧mO [] r=true)
 right:∀n,PR sp n→Ok (iA k n) (fun m=>kV sp m=true)
 exp:∀n,PE sp n→Ok (cl k n) (fun m=>bK sp m=true∧m.kind=n.kind)
 op:∀o,mu sp o=true→Ok (cl k o) (fun m=>m=o)
 fld:∀f,PF sp f→Ok (cl k f) (fun m=>sW sp m=true)
 alt:∀f,PA sp f→Ok (cl k f) (fun m=>CI sp m=true)
 stm:∀f,J5 sp f→Ok (cl k f) (fun m=>p_ sp m=true∧m.kind=f.kind)
 gd:∀f,PG sp f→Ok (cl k f) (fun m=>pU sp m=true)
 pl:∀e,PE sp e→Ok (cl k (bk 17 [] [kJ,e])) (fun m=>rI sp m=true)
 non:Ok (cl k kJ) (fun m=>m=kJ)
theorem cP (k:Nat):bW k []=pure []:=by cases k<;>rfl
theorem gW {P Q:Nd→Prop}{k:Nat}(h:∀j,j<k→∀a,P a→Ok (cl j a) Q):∀j l,j≤k→(∀a∈l,P a)→Ok (bW j l) (fun r=>r.length=l.length∧∀a∈r,Q a)
 |j,[],_,_=>by rw[cP];exact Ok.pure ⟨rfl,aN⟩
 |0,a::l,_,_=>by unfold bW;exact Ok.off
 |j+1,a::l,hj,hl=>by
  unfold bW;exact (h j (by omega) a (hl a (by simp))).bind fun p hp=>(gW h j l (by omega) fun x hx=>hl x (by simp [hx])).bind fun r hr=>Ok.pure ⟨by simp [hr.1],ay hp hr.2⟩
theorem yS {k:Nat}(he:∀j,j<k→∀a,PE sp a→Ok (cl j a) (fun m=>bK sp m=true∧m.kind=a.kind))(ho:∀j,j<k→∀o,mu sp o=true→Ok (cl j o) (fun m=>m=o)):
  ∀j l,j≤k→PO sp l→(∀a,PE sp a→Ok (bW j (a::l)) (fun r=>r.length=l.length+1∧qt sp r=true))∧Ok (bW j l) (fun r=>r.length=l.length∧sV sp r=true)
 |0,l,_,hl=>⟨fun a _=>by unfold bW;exact Ok.off,by cases hl with
   |nil=>rw[cP];exact Ok.pure ⟨rfl,by simp [sV]⟩
   |cons _ _ _=>unfold bW;exact Ok.off⟩
 |j+1,l,hj,hl=>by
  refine⟨fun a ha=>?_,?_⟩
  ·unfold bW;exact (he j (by omega) a ha).bind fun p hp=>(yS he ho j l (by omega) hl).2.bind fun r hr=>Ok.pure ⟨by simp [hr.1],by simp [qt,hp.1,hr.2]⟩
  ·cases hl with
   |nil=>rw[cP];exact Ok.pure ⟨rfl,by simp [sV]⟩
   |cons h1 h2 h3=>
    unfold bW;exact (ho j (by omega) _ h1).bind fun p hp=>((yS he ho j _ (by omega) h3).1 _ h2).bind fun r hr=>Ok.pure ⟨by simp [hr.1],by simp [sV,hp,h1,hr.2]⟩
theorem mS:∀(l:List Nd) (i a:Nat),(oJ a i l).1≠0→(oJ a i l).1=a∨∃j o,l[j]?=some o∧(oJ a i l).1=i+j∧o.kind=24∧o.n≠1
 | [],i,a,h=>.inl rfl
 |o::l,i,a,h=>by
  unfold oJ at h ⊢
  split
  ·rename_i hc;rw[if_pos hc] at h;rcases mS l (i+1) a h with h1| ⟨j,o',h1,h2,h3⟩
   ·exact .inl h1
   ·exact .inr ⟨j+1,o',by simpa using h1,by omega,h3⟩
  ·rename_i hc;rw[if_neg hc] at h
   split
   ·rename_i hp;rw[if_pos hp] at h;rcases mS l (i+1) a h with h1| ⟨j,o',h1,h2,h3⟩
    ·exact .inl h1
    ·exact .inr ⟨j+1,o',by simpa using h1,by simpa using (by omega:(oJ a (i+1) l).1=i+(j+1)),h3⟩
   ·rename_i hp;rw[if_neg hp] at h;rw[not_or,Decidable.not_not] at hc;rcases mS l (i+1) i h with h1| ⟨j,o',h1,h2,h3⟩
    ·exact .inr ⟨0,o,rfl,by omega,hc⟩
    ·exact .inr ⟨j+1,o',by simpa using h1,by omega,h3⟩
end
section
variable {sp:List UInt8→Int→Bool}
theorem PE.IZ {n:Nd}(h:PE sp n):n.kind≠24∧n.kind≠40∧n.kind≠41∧n.kind≠17:=by
 cases h<;>simp [bk,Nd.kind]
theorem rN:∀{l:List Nd},PO sp l→∀{a o:Nd} {j:Nat},PE sp a→(a::l)[j]?=some o→o.kind=24→
  mu sp o=true∧∃l1 b l2,(a::l).take j=a::l1∧PO sp l1∧(a::l).drop (j+1)=b::l2∧PE sp b∧PO sp l2
 |_,.nil,a,o,j,ha,h,h24=>by
  match j,h with
  |0,h=>simp at h;subst h;exact absurd h24 ha.IZ.1
  |j+1,h=>simp at h
 |_,.cons (o:=o1) (b:=b1) (l:=l) h1 h2 h3,a,o,j,ha,h,h24=>by
  match j,h with
  |0,h=>simp at h;subst h;exact absurd h24 ha.IZ.1
  |1,h=>simp at h;subst h;exact⟨h1,[],b1,l,by simp,.nil,by simp,h2,h3⟩
  |j+2,h=>
   obtain⟨g1,l1,b,l2,g2,g3,g4,g5,g6⟩:=rN h3 h2 (o:=o) (j:=j) (by simpa using h) h24;exact⟨g1,o1::b1::l1,b,l2,by simp [g2],.cons h1 h2 g3,by simpa using g4,g5,g6⟩
theorem ov:∀(k:Nat) (n:Nd) (args:List Nd) (h:Nd) (as:List Nd),PE sp n→(∀a∈args,PE sp a)→eT k n args=some (h,as)→PE sp h∧(∀a∈as,PE sp a)∧(n.kind≠22→h=n)
 |0,_,_,_,_,_,_,e=>by unfold eT at e;cases e
 |k+1,n,args,h,as,hn,ha,e=>by
  unfold eT at e
  split at e
  ·rename_i h22
   cases hn with
   |app h1 h2=>
    have:=ov k _ _ h as h1 (ay h2 ha) e;exact⟨this.1,this.2.1,fun h=>absurd h22 h⟩
   |_=>first| (simp [bk,Nd.kind] at h22)| (simp [Nd.kind] at h22)
  ·cases e;exact⟨hn,ha,fun _=>rfl⟩
theorem Gv {n:Nd}(h:PE sp n)(h18:n.kind=18):isVar sp n.name=true:=by
 cases h<;>first|assumption| (simp [bk,Nd.kind] at h18)| (simp [Nd.kind] at h18)
theorem FK (k:Nat){n:Nd}(hn:PE sp n):Ok (kW k n) (fun r=>match r with
    |none=>n.kind≠18
    |some (s,ps)=>isVar sp s=true∧∀a∈ps,dG sp a=true):=by
 unfold kW
 split
 ·rename_i h23;refine Ok.pw fun _=>?_
  split
  ·exact Ok.pure (show n.kind≠18 by rw[h23];decide)
  ·rename_i h0
   cases hn with
   | @ops a l ha hl _=>
    rcases mS (a::l) 0 0 h0 with h1| ⟨j,o,h1,h2,h3,h4⟩
    ·exact absurd h1 h0
    ·obtain⟨g1,l1,b,l2,g2,g3,g4,g5,g6⟩:=rN hl ha h1 h3;rw[Nat.zero_add] at h2;have e:(bk 23 [] (a::l)).ag=a::l:=rfl;simp only[e];rw[h2,g2,g4];refine ((lG k).pats [_,_] (ay (jb ha g3) (ay (jb g5 g6) aN))).bind fun r hr=>Ok.pure ⟨?_,hr.2⟩;rw[List.getD_eq_getElem?_getD,h1];exact (yj g1).2 h4
   |_=>first| (simp [bk,Nd.kind] at h23)| (simp [Nd.kind] at h23)
 ·cases hh:eT k n [] with
  |none=>exact Ok.off
  |some p=>
   obtain⟨h,as⟩:=p;obtain⟨h1,h2,h3⟩:=ov k n [] h as hn aN hh;simp only
   split
   ·rename_i hk;refine Ok.pure fun h18=>hk ?_;rw[h3 (by rw[h18];decide)];exact h18
   ·rename_i hk;exact ((lG k).pats as h2).bind fun r hr=>Ok.pure ⟨Gv h1 (Decidable.not_not.1 hk),hr.2⟩
theorem FQ {d:Nd}(h:nM sp d=true)(hk:d.kind=13):d.n=0∧isVar sp d.name=true∧d.ag≠[]∧tW sp d.ag=true∧px (arity d) d.ag=true:=by
 obtain⟨k,s,n,l⟩:=d;simp only[Nd.kind] at hk;subst hk;simp only[nM,if_true,Bool.and_eq_true,decide_eq_true_eq,KZ] at h;exact⟨h.1.1.1.1,h.1.1.1.2,h.1.1.2,h.1.2,h.2.2⟩
theorem Gx {s:List UInt8}{l:List Nd}(hs:isVar sp s=true)(h0:l≠[])(hl:tW sp l=true)(ha:arity (.mk 13 s 0 l)>0∨l.length=1)(hc:px (arity (.mk 13 s 0 l)) l=true):nM sp (.mk 13 s 0 l)=true:=by
 simp only[nM,if_true,Bool.and_eq_true,decide_eq_true_eq,KZ];exact⟨⟨⟨⟨trivial,hs⟩,h0⟩,hl⟩,ha,hc⟩
theorem EE (s t:List UInt8)(m n:Int){l r:List Nd}(h:l≠[]):arity (.mk 13 s m (l++r))=arity (.mk 13 t n l):=by
 cases l with
 |nil=>exact absurd rfl h
 |cons a l=>rfl
theorem Ju (s:List UInt8)(n:Int)(ps:List Nd)(r:Nd)(l:List Nd):arity (.mk 13 s n (bk 14 [] [listed ps,r]::l))=ps.length:=rfl
theorem WZ {ps:List Nd}{r:Nd}(hp:∀a∈ps,dG sp a=true)(hr:kV sp r=true):UO sp (bk 14 [] [listed ps,r])=true:=by
 simp [UO,bk,Jn,listed,Nd.kind,Nd.n,Nd.name,Nd.ag,lj.2 hp,qD,hr]
theorem SF {p r:Nd}(hp:dG sp p=true)(h42:p.kind≠42)(hr:kV sp r=true):nM sp (bk 15 [] [p,r])=true:=by
 simp [nM,bk,pc,hp,h42,qD,hr]
theorem Ci {i:List Nd}{d c:Nd}:ja (i++[d]) c=i++[.mk d.kind d.name d.n (d.ag++[c])]:=by
 simp [ja]
theorem T4 {l:List Nd}(h:∀d∈l,nM sp d=true)(ht:mO [] l=true):lU sp (listed l)=true:=by
 simp [lU,listed,za.2 h,ht]
theorem Og {P:Nd→Prop}{l:List Nd}(h:∀d∈l,(fun _=>False) d∨P d):∀d∈l,P d:=fun d hd=>(h d hd).elim False.elim id
theorem zc (hG:Gh sp):∀k,afX sp k:=by
 intro k
 induction k using Nat.strongRecOn with
 |_ k ih=>
 cases k with
 |zero=>
  constructor
  ·intro T hT l out on hl ho ht hO
   cases l with
   |nil=>unfold fz;exact Ok.pure ⟨ho,ht⟩
   |cons d l=>unfold fz;exact Ok.off
  ·intro n _;unfold iA;exact Ok.off
  ·intro n _;unfold cl;exact Ok.off
  ·intro n _;unfold cl;exact Ok.off
  ·intro n _;unfold cl;exact Ok.off
  ·intro n _;unfold cl;exact Ok.off
  ·intro n _;unfold cl;exact Ok.off
  ·intro n _;unfold cl;exact Ok.off
  ·intro n _;unfold cl;exact Ok.off
  ·unfold cl;exact Ok.off
 |succ k=>
  have K:=ih k (by omega);have yB:∀l,(∀a∈l,PQ sp a)→Ok (fz k l [] false) (fun r=>lU sp (listed r)=true):=fun l hl=>
   (K.eqs (fun _=>False) (fun _ h=>h.elim) l [] false (fun d hd=>.inr (hl d hd)) (fun d hd=>by cases hd) rfl rfl).mono fun r hr=>T4 (Og hr.1) hr.2
  have exps:∀l,(∀a∈l,PE sp a)→Ok (bW k l) (fun r=>r.length=l.length∧∀a∈r,bK sp a=true):=fun l hl=>
   (gW (k:=k) (P:=PE sp) (Q:=fun m=>bK sp m=true) (fun j hj a ha=>((ih j (by omega)).exp a ha).mono fun _ h=>h.1) k l (Nat.le_refl _) hl)
  have ops:∀a l,PE sp a→PO sp l→Ok (bW k (a::l)) (fun r=>r.length=l.length+1∧qt sp r=true):=fun a l ha hl=>
   (yS (k:=k) (fun j hj=>(ih j (by omega)).exp) (fun j hj=>(ih j (by omega)).op) k l (Nat.le_refl _) hl).1 a ha
  have opl:∀o,mu sp o=true→Ok (bW k [o]) (fun r=>r=[o]):=fun o ho=>
   (gW (k:=k) (P:=fun m=>m=o) (Q:=fun m=>m=o) (fun j hj a ha=>by subst ha;exact (ih j (by omega)).op a ho) k [o] (Nat.le_refl _) (by simp)).mono fun r hr=>by
    match r,hr with
    | [x],hr=>rw[hr.2 x (by simp)]
  have hexp:∀n,PE sp n→Ok (cl (k+1) n) (fun m=>bK sp m=true∧m.kind=n.kind):=by
   intro n hn;unfold cl
   cases hn with
   |var h=>simp only[bk,Nd.kind,Nd.ag,Nd.name,Nd.n];simp only[cP];exact Ok.bind (Φ':=fun l=>l=[]) (Ok.pure rfl) fun l hl=>Ok.pure ⟨by simp [hl,bK,h],rfl⟩
   |con h=>simp only[bk,Nd.kind,Nd.ag,Nd.name,Nd.n];simp only[cP];exact Ok.bind (Φ':=fun l=>l=[]) (Ok.pure rfl) fun l hl=>Ok.pure ⟨by simp [hl,bK,h],rfl⟩
   |int h=>simp only[Nd.kind,Nd.ag,Nd.name,Nd.n];simp only[cP];exact Ok.bind (Φ':=fun l=>l=[]) (Ok.pure rfl) fun l hl=>Ok.pure ⟨by simp [hl,bK,h],rfl⟩
   |str=>simp only[bk,Nd.kind,Nd.ag,Nd.name,Nd.n];simp only[cP];exact Ok.bind (Φ':=fun l=>l=[]) (Ok.pure rfl) fun l hl=>Ok.pure ⟨by simp [hl,bK],rfl⟩
   |app ha hb=>
    simp only[bk,Nd.kind,Nd.ag,Nd.name,Nd.n];exact (exps [_,_] (ay ha (ay hb aN))).bind fun r hr=>Ok.pure ⟨by simp [bK,ll.2 hr.2,hr.1],rfl⟩
   |ops ha hl h0=>
    simp only[bk,Nd.kind,Nd.ag,Nd.name,Nd.n];refine (ops _ _ ha hl).bind fun r hr=>Ok.pure ⟨?_,rfl⟩;have:2<r.length:=by
     rw[hr.1]
     cases hl with
     |nil=>exact absurd rfl h0
     |cons _ _ _=>simp
    simp [bK,hr.2,this]
   |lam h0 hl he=>
    simp only[bk,Nd.kind,Nd.ag,Nd.name,Nd.n,listed];refine ((lG k).pats _ hl).bind fun ps hps=>(K.exp _ he).bind fun x hx=>Ok.pure ⟨?_,rfl⟩;have h0':ps≠[]:=fun h=>h0 (List.eq_nil_of_length_eq_zero (by rw[←hps.1,h];rfl));simp [bK,GK,Nd.kind,Nd.n,Nd.name,Nd.ag,lj.2 hps.2,h0',kO,hx.1]
   |elet hl he=>
    simp only[bk,Nd.kind,Nd.ag,Nd.name,Nd.n,listed];refine (yB _ hl).bind fun y hy=>(K.exp _ he).bind fun x hx=>Ok.pure ⟨?_,rfl⟩;simp only[listed] at hy;simp [bK,J0,hy,kO,hx.1]
   |eif ha hb hc=>
    simp only[bk,Nd.kind,Nd.ag,Nd.name,Nd.n];exact (exps [_,_,_] (ay ha (ay hb (ay hc aN)))).bind fun r hr=>Ok.pure ⟨by simp [bK,ll.2 hr.2,hr.1],rfl⟩
   |ecase ha hl=>
    simp only[bk,Nd.kind,Nd.ag,Nd.name,Nd.n];refine Ok.bind (Φ':=fun r=>wB sp r=true) ?_ fun r hr=>Ok.pure ⟨by simp [bK,hr],rfl⟩
    cases k with
    |zero=>unfold bW;exact Ok.off
    |succ j=>
     unfold bW;refine ((ih j (by omega)).exp _ ha).bind fun x hx=>(gW (k:=j) (P:=PA sp) (Q:=fun m=>CI sp m=true) (fun i hi a ha=>(ih i (by omega)).alt a ha) j _ (Nat.le_refl _) hl).bind fun r hr=>Ok.pure ?_;simp [wB,hx.1,w7.2 hr.2]
   |edo hl=>
    rename_i l;simp only[bk,Nd.kind,Nd.ag,Nd.name,Nd.n];refine Ok.pw fun hb=>?_;have hb:¬(l=[]∨iP (l.getLastD kJ)=true):=of_decide_eq_false hb;rw[not_or] at hb;have key:∀(j:Nat) (l:List Nd),j≤k→(∀a∈l,J5 sp a)→Ok (bW j l) (fun r=>r.map Nd.kind=l.map Nd.kind∧∀a∈r,p_ sp a=true):=by
     intro j
     induction j with
     |zero=>intro l _ _;cases l with
      |nil=>rw[cP];exact Ok.pure ⟨rfl,aN⟩
      |cons a l=>unfold bW;exact Ok.off
     |succ j ihj=>intro l hj hl;cases l with
      |nil=>rw[cP];exact Ok.pure ⟨rfl,aN⟩
      |cons a l=>
       unfold bW;exact ((ih j (by omega)).stm a (hl a (by simp))).bind fun p hp=>(ihj l (by omega) fun x hx=>hl x (by simp [hx])).bind fun r hr=>Ok.pure ⟨by simp [hp.2,hr.1],ay hp.1 hr.2⟩
    refine (key k l (Nat.le_refl _) hl).bind fun r hr=>Ok.pure ⟨?_,rfl⟩;have h0':r≠[]:=fun h=>hb.1 (by have:=hr.1;rw[h] at this;exact List.map_eq_nil_iff.1 this.symm);have hlast:iP (r.getLastD kJ)=false:=by
     have e:∀l:List Nd,(l.getLastD kJ).kind=(l.map Nd.kind).getLastD 0:=fun l=>by
      rw[List.getLastD_eq_getLast?,List.getLastD_eq_getLast?,List.getLast?_map];cases l.getLast?<;>rfl
     have h2:=hb.2;unfold iP at h2 ⊢;rw[e] at h2 ⊢;rw[hr.1];exact Bool.eq_false_iff.2 h2
    rw[List.getLastD_eq_getLast?] at hlast;simp [bK,vd.2 hr.2,h0',hlast]
   |tup hl h2=>
    simp only[bk,Nd.kind,Nd.ag,Nd.name,Nd.n];refine (exps _ hl).bind fun r hr=>Ok.pure ⟨?_,rfl⟩;rw[←hr.1] at h2;simp [bK,ll.2 hr.2,h2]
   |lst hl=>
    simp only[bk,Nd.kind,Nd.ag,Nd.name,Nd.n];exact (exps _ hl).bind fun r hr=>Ok.pure ⟨by simp [bK,ll.2 hr.2],rfl⟩
   | @left a0 o0 ha ho=>
    simp only[bk,Nd.kind,Nd.ag,Nd.name,Nd.n]
    cases k with
    |zero=>unfold bW;exact Ok.bind (Φ':=fun _=>False) Ok.off fun _ h=>h.elim
    |succ j=>
     unfold bW;refine Ok.bind (Φ':=fun r=>sz sp r=true) ?_ fun r hr=>Ok.pure ⟨by simp [bK,hr],rfl⟩;refine ((ih j (by omega)).exp _ ha).bind fun x hx=>(gW (k:=j) (P:=fun m=>m=o0) (Q:=fun m=>m=o0) (fun i hi a ha=>by subst ha;exact (ih i (by omega)).op _ ho) j [_] (Nat.le_refl _) (by simp)).bind fun r hr=>Ok.pure ?_
     match r,hr with
     | [y],hr=>rw[sz,hx.1,Bool.true_and];show mu sp y=true;rw[hr.2 y (by simp)];exact ho
   |right ho he=>
    simp only[bk,Nd.kind,Nd.ag,Nd.name,Nd.n]
    cases k with
    |zero=>unfold bW;exact Ok.bind (Φ':=fun _=>False) Ok.off fun _ h=>h.elim
    |succ j=>
     unfold bW;refine Ok.bind (Φ':=fun r=>Ey sp r=true) ?_ fun r hr=>Ok.pure ⟨by simp [bK,hr],rfl⟩;refine ((ih j (by omega)).op _ ho).bind fun x hx=>(gW (k:=j) (P:=PE sp) (Q:=fun m=>bK sp m=true) (fun i hi a ha=>((ih i (by omega)).exp _ ha).mono fun _ h=>h.1) j [_] (Nat.le_refl _) (ay he aN)).bind fun r hr=>Ok.pure ?_
     match r,hr with
     | [y],hr=>simp [Ey,hx,ho,kO,hr.2 y (by simp)]
   |make h hl=>
    simp only[bk,Nd.kind,Nd.ag,Nd.name,Nd.n];exact (gW (k:=k) (P:=PF sp) (Q:=fun m=>sW sp m=true) (fun j hj a ha=>(ih j (by omega)).fld a ha) k _ (Nat.le_refl _) hl).bind fun r hr=>Ok.pure ⟨by simp [bK,h,r8.2 hr.2],rfl⟩
   |put h19 ha h0 hl=>
    simp only[bk,Nd.kind,Nd.ag,Nd.name,Nd.n];refine Ok.bind (Φ':=fun r=>FO sp r=true) ?_ fun r hr=>Ok.pure ⟨by simp [bK,hr],rfl⟩
    cases k with
    |zero=>unfold bW;exact Ok.off
    |succ j=>
     unfold bW;refine ((ih j (by omega)).exp _ ha).bind fun x hx=>(gW (k:=j) (P:=PF sp) (Q:=fun m=>sW sp m=true) (fun i hi a ha=>(ih i (by omega)).fld a ha) j _ (Nat.le_refl _) hl).bind fun r hr=>Ok.pure ?_;have h0':r≠[]:=fun h=>h0 (List.eq_nil_of_length_eq_zero (by rw[←hr.1,h];rfl));simp [FO,hx.1,hx.2,h19,h0',r8.2 hr.2]
   |wild=>exact Ok.mo
   |eas _ _=>exact Ok.mo
  constructor
  ·intro T hT l out on hl ho ht hO
   cases l with
   |nil=>unfold fz;exact Ok.pure ⟨ho,ht⟩
   |cons d l=>
    unfold fz;have hl':∀d∈l,T d∨PQ sp d:=fun x hx=>hl x (by simp [hx]);have hN:∀{d:Nd},d.kind≠13∨arity d=0→(T d∨nM sp d=true)→Ok (fz k l (out++[d]) false) (fun r=>(∀d∈r,T d∨nM sp d=true)∧mO [] r=true):=fun {d} hd hT'=>
     K.eqs T hT l _ _ hl' (mM (P:=fun d=>T d∨nM sp d=true) ho hT') (by
       rw[mB,ht,Bool.true_and]
       exact decide_eq_true (by rcases hd with h|h<;>simp [h])) (by
       show kC [] (out++[d])=[]
       rw[nW,if_pos hd])
    rcases hl d (by simp) with hd|hd
    ·rw[if_pos (hT d hd).1];exact hN (.inl (hT d hd).2) (.inl hd)
    ·cases hd with
     |mk he hr=>
      rw[if_neg (by simp [bk,Nd.kind])];simp only[bk,Nd.ag];refine (K.right _ hr).bind fun r hr=>(FK k he).bind fun c hc=>?_
      cases c with
      |none=>
       exact ((lG k).pat _ he).bind fun p hp=>hN (.inl (by simp [Nd.kind])) (.inr (SF hp.1 (hp.2 hc) hr))
      |some q=>
       obtain⟨name,ps⟩:=q;simp only at hc ⊢;have hcl:=WZ hc.2 hr
       split
       ·rename_i hon;obtain⟨h1,h2,h3⟩:=hon;subst h1;obtain⟨i,d0,rfl,g1,g2,g3⟩:=hO;have e0:(i++[d0]).getLastD kJ=d0:=by simp
        rw[e0] at h3 ⊢;refine Ok.pw fun hb=>?_;have hb:arity d0=ps.length:=by simpa using hb
        obtain⟨p1,p2,p3,p4,p5⟩:=FQ g3 g1;rw[show ja (i++[d0]) (.mk 14 [] 0 [listed ps,r])=i++[.mk d0.kind d0.name d0.n (d0.ag++[.mk 14 [] 0 [listed ps,r]])] from Ci,g1,p1];have hA:arity (.mk 13 d0.name 0 (d0.ag++[.mk 14 [] 0 [listed ps,r]]))=arity d0:=by
         obtain⟨kd,sd,nd,ld⟩:=d0;simp only[Nd.kind] at g1;subst g1;exact EE _ _ _ _ p3
        have hE:nM sp (.mk 13 d0.name 0 (d0.ag++[.mk 14 [] 0 [listed ps,r]]))=true:=by
         refine Gx p2 (by simp) ?_ (.inl (by rw[hA];omega)) ?_
         ·rw[vB];exact mM (vB.1 p4) hcl
         ·rw[hA];simp only[px,List.all_append,Bool.and_eq_true] at p5 ⊢;refine⟨p5,?_⟩;simp [sub,Nd.ag,listed,hb]
        have ho':∀x∈i,T x∨nM sp x=true:=fun x hx=>ho x (by simp [hx]);rw[mB,Bool.and_eq_true] at ht;refine K.eqs T hT l _ true hl' (mM (P:=fun d=>T d∨nM sp d=true) ho' (.inr hE)) ?_ ⟨i,_,rfl,rfl,by rw[hA];exact g2,hE⟩;rw[mB,ht.1,Bool.true_and];refine decide_eq_true (.inr (.inr ?_));have:=of_decide_eq_true ht.2;rcases this with h|h|h
        ·exact absurd g1 h
        ·exact absurd h g2
        ·exact h
       ·rename_i hon;have hE:nM sp (bk 13 name [bk 14 [] [listed ps,r]])=true:=by
         refine Gx hc.1 (by simp) (by simp [tW,hcl]) (.inr rfl) ?_;rw[Ju];simp [px,sub,bk,Nd.ag,listed]
        by_cases hps:ps=[]
        ·rw[show decide (ps≠[])=false by simp [hps]];exact hN (.inr (by rw[hps];rfl)) (.inr hE)
        ·rw[show decide (ps≠[])=true by simp [hps]];have har:arity (bk 13 name [bk 14 [] [listed ps,r]])≠0:=fun h=>hps (List.eq_nil_of_length_eq_zero h);refine K.eqs T hT l _ true hl' (mM (P:=fun d=>T d∨nM sp d=true) ho (.inr hE)) ?_ ⟨out,_,rfl,rfl,har,hE⟩;rw[mB,ht,Bool.true_and];refine decide_eq_true (.inr (.inr ?_));show name≠kC [] out
         cases on with
         |true=>
          obtain⟨i,d0,rfl,g1,g2,g3⟩:=hO;rw[nW,if_neg (by rw[not_or,Decidable.not_not];exact⟨g1,g2⟩)];exact fun h=>hon ⟨rfl,hps,by simp [h]⟩
         |false=>
          rw[show kC [] out=[] from hO];intro h;have:=hc.1;rw[h] at this;simp [isVar,hG.2] at this
  ·intro n hn;unfold iA
   cases hn with
   | @plain e0 l0 he hl=>
    simp only[bk,Nd.ag,listed,Nd.kind,Nd.name,Nd.n];refine (gW (k:=k) (P:=fun m=>m=bk 17 [] [kJ,e0]) (Q:=fun m=>rI sp m=true) (fun j hj a ha=>by subst ha;exact (ih j (by omega)).pl _ he) k [_] (Nat.le_refl _) (by simp [bk])).bind fun x hx=>(yB _ hl).bind fun y hy=>Ok.pure ?_
    match x,hx with
    | [g],hx=>
     have:=hx.2 g (by simp);simp only[listed] at hy;simp [kV,w5,Z6,k9,this,qg,hy]
   |guards h0 hg hl=>
    simp only[bk,Nd.ag,listed,Nd.kind,Nd.name,Nd.n];refine (gW (k:=k) (P:=PG sp) (Q:=fun m=>pU sp m=true) (fun j hj a ha=>(ih j (by omega)).gd a ha) k _ (Nat.le_refl _) hg).bind fun x hx=>(yB _ hl).bind fun y hy=>Ok.pure ?_;have h0':x≠[]:=fun h=>h0 (List.eq_nil_of_length_eq_zero (by rw[←hx.1,h];rfl));simp only[listed] at hy;simp [kV,w5,Z6,sK.2 hx.2,h0',qg,hy]
  ·exact hexp
  ·intro o ho;obtain⟨h1,h2,h3⟩:=oW ho;obtain⟨ko,so,no,lo⟩:=o;simp only[Nd.kind,Nd.ag] at h1 h2;subst h1 h2;unfold cl;simp only[Nd.kind,Nd.ag,Nd.name,Nd.n];simp only[cP];exact Ok.bind (Φ':=fun l=>l=[]) (Ok.pure rfl) fun l hl=>Ok.pure (by rw[hl])
  ·intro f hf
   cases hf with
   |mk hs he=>
    unfold cl;simp only[bk,Nd.kind,Nd.ag,Nd.name,Nd.n];refine (exps [_] (ay he aN)).bind fun r hr=>Ok.pure ?_
    match r,hr with
    | [x],hr=>simp [sW,hs,kO,hr.2 x (by simp)]
  ·intro f hf
   cases hf with
   |mk he hr=>
    unfold cl;simp only[bk,Nd.kind,Nd.ag,Nd.name,Nd.n];exact ((lG k).pat _ he).bind fun p hp=>(K.right _ hr).bind fun x hx=>Ok.pure (by simp [CI,pc,hp.1,qD,hx])
  ·intro f hf
   cases hf with
   |exp he=>
    refine (hexp _ he).mono fun m hm=>⟨?_,hm.2⟩
    ·obtain⟨km,sm,nm,lm⟩:=m;have:=he.IZ;simp only[Nd.kind] at hm;rw[p_,if_neg (by rw[hm.2];exact this.2.1),if_neg (by rw[hm.2];exact this.2.2.1)];exact hm.1
   |gen ha he=>
    unfold cl;simp only[bk,Nd.kind,Nd.ag,Nd.name,Nd.n];exact ((lG k).pat _ ha).bind fun p hp=>(K.exp _ he).bind fun x hx=>Ok.pure ⟨by simp [p_,Jl,hp.1,kO,hx.1],rfl⟩
   |slet hl=>
    unfold cl;simp only[bk,Nd.kind,Nd.ag,Nd.name,Nd.n,listed];refine (yB _ hl).bind fun y hy=>Ok.pure ⟨?_,rfl⟩;simp only[listed] at hy;simp [p_,qg,hy]
  ·intro f hf
   cases hf with
   |mk hc he=>
    unfold cl;simp only[bk,Nd.kind,Nd.ag,Nd.name,Nd.n];exact (exps [_,_] (ay hc (ay he aN))).bind fun r hr=>Ok.pure (by simp [pU,ll.2 hr.2,hr.1])
  ·intro e he;unfold cl;simp only[bk,Nd.kind,Nd.ag,Nd.name,Nd.n];refine Ok.bind (Φ':=fun r=>oX sp r=true) ?_ fun r hr=>Ok.pure (by simp [rI,hr])
   cases k with
   |zero=>unfold bW;exact Ok.off
   |succ j=>
    unfold bW;refine ((ih j (by omega)).non).bind fun x hx=>(gW (k:=j) (P:=PE sp) (Q:=fun m=>bK sp m=true) (fun i hi a ha=>((ih i (by omega)).exp _ ha).mono fun _ h=>h.1) j [_] (Nat.le_refl _) (ay he aN)).bind fun r hr=>Ok.pure ?_
    match r,hr with
    | [y],hr=>simp [oX,hx,pC,kJ,Nd.kind,Nd.n,Nd.name,Nd.ag,kO,hr.2 y (by simp)]
  ·unfold cl;simp only[kJ,Nd.kind,Nd.ag,Nd.name,Nd.n];simp only[cP];exact Ok.bind (Φ':=fun l=>l=[]) (Ok.pure rfl) fun l hl=>Ok.pure (by rw[hl])
end
section
variable {sp:List UInt8→Int→Bool}
def HZ (sp:List UInt8→Int→Bool)(d:Nd):Prop:=lS sp d=true∧d.kind≠15∧d.kind≠13
theorem CY {d:Nd}(h:nM sp d=true):d.kind=13∨d.kind=15:=by
 obtain⟨k,s,n,l⟩:=d
 by_cases hk:k=13
 ·exact .inl hk
 ·rw[nM,if_neg hk] at h;simp only[Bool.and_eq_true,decide_eq_true_eq] at h;exact .inr h.1.1.1.1
theorem PU {d:Nd}(h:nM sp d=true):lS sp d=true:=by
 rcases CY h with hk|hk<;>simp [lS,hk,h]
theorem wZ:∀{l:List Nd},mz l=false→∀d∈l,d.kind≠15
 | [],_=>aN
 |d::l,h=>by
  simp only[mz,Bool.or_eq_false_iff,decide_eq_false_iff_not] at h;exact ay h.1 (wZ h.2)
theorem Bd (hG:Gh sp)(k:Nat):∀l,(∀d∈l,PT sp d)→Ok (fx k l) (fun r=>∀d∈r,HZ sp d∨PQ sp d)
 | [],_=>by unfold fx;exact Ok.pure aN
 |d::l,hl=>by
  have ih:=Bd hG k l fun x hx=>hl x (by simp [hx]);have hd:=hl d (by simp);unfold fx
  cases hd with
  |top h1 h2 h3 h4=>
   rw[if_neg h4];exact ih.bind fun r hr=>Ok.pure (ay (P:=fun d=>HZ sp d∨PQ sp d) (.inl ⟨h1,h2,h3⟩) hr)
  |eq h=>
   have:d.kind=15:=by cases h;rfl
   rw[if_neg (by rw[this];decide)];exact ih.bind fun r hr=>Ok.pure (ay (P:=fun d=>HZ sp d∨PQ sp d) (.inr h) hr)
  | @inst t c h l0 h1 h2 h3 h4=>
   rw[if_pos (show (bk 10 t [c,h,listed l0]).kind=10 from rfl)];refine ((zc hG k).eqs (fun _=>False) (fun _ h=>h.elim) l0 [] false (fun d hd=>.inr (h4 d hd)) (fun d hd=>by cases hd) rfl rfl).bind fun x hx=>Ok.pw fun hb=>ih.bind fun r hr=>Ok.pure (ay (P:=fun d=>HZ sp d∨PQ sp d) (.inl ⟨?_,by simp [bk,Nd.kind],by simp [bk,Nd.kind]⟩) hr);have hx1:=Og hx.1;have hf:∀d∈x,pZ sp d=true:=fun d hd=>by
    have h5:=hx1 d hd;have:d.kind=13:=by rcases CY h5 with h|h;exact h;exact absurd h (wZ hb d hd)
    simp [pZ,this,h5]
   have e:sub (bk 10 t [c,h,listed l0]) 0=c∧sub (bk 10 t [c,h,listed l0]) 1=h:=⟨rfl,rfl⟩;rw[e.1,e.2];simp only[lS,bk,Nd.kind,Nd.n,Nd.name,Nd.ag,h1,h2,h3,gk hf (Nat.zero_le _)];simp only[listed,hx.2];simp
theorem Nz (hG:Gh sp)(k:Nat){n:Nd}(hn:WW sp n):Ok (lJ k n) (fun m=>yk sp m=true):=by
 unfold lJ
 cases hn with
 | @mk t e i l h1 h2 h3 h4=>
  refine (Bd hG k l h4).bind fun ds hds=>((zc hG k).eqs (HZ sp) (fun _ h=>h.2) ds [] false hds (fun d hd=>by cases hd) rfl rfl).bind fun r hr=>Ok.pure ?_;have hr1:∀d∈r,lS sp d=true:=fun d hd=>(hr.1 d hd).elim (fun h=>h.1) PU;have e0:sub (bk 2 t [e,listed i,listed l]) 0=e∧sub (bk 2 t [e,listed i,listed l]) 1=listed i:=⟨rfl,rfl⟩;rw[e0.1,e0.2];simp only[yk,bk,Nd.kind,Nd.n,Nd.name,Nd.ag,h1,h2,gk h3 (Nat.zero_le _),gk hr1 (Nat.zero_le _)];simp only[listed,hr.2];simp
theorem sH (hG:Gh sp){k j:Nat}{ts:List Tk}{m:Nd}(ht:∀t∈ts,GT sp t)(h:gz k j ts=.ok m):yk sp m=true:=by
 unfold gz at h
 cases h1:dW k ⟨ts,0⟩ with
 |error e=>rw[h1] at h;cases h
 |ok p=>
  obtain⟨n,s'⟩:=p;rw[h1] at h;have hn:=(At.module hG (k:=k) (s:=⟨ts,0⟩) ht n s' h1).1;simp only at h
  cases h2:lJ j n with
  |none=>rw[h2] at h;cases h
  |some q=>
   obtain⟨x,b⟩:=q;rw[h2] at h;simp only at h
   cases b with
   |true=>cases h
   |false=>cases h;exact Nz hG j hn _ h2
end
def Fin {α:Type}(d:Nat)(s:PS)(x:PM α):Prop:=x s≠.error (-1)∧∀a s',x s=.ok (a,s')→s'.r.length+d≤s.r.length
section
variable {α β:Type} {s:PS} {d:Nat} {w:List UInt8}
protected theorem Fin.pure {a:α}:Fin 0 s (pure a:PM α):=⟨(fun h=>by cases h),fun b s' e=>by cases e;exact Nat.le_refl _⟩
protected theorem Fin.bad {e:Int}(h:e≠ -1):Fin d s (bad e:PM α):=⟨fun h'=>by cases h';exact h rfl,fun _ _ e=>by cases e⟩
theorem Fin.eA {x:PM α}{c:Nat}(h:Fin c s x)(hd:d≤c):Fin d s x:=⟨h.1,fun a s' e=>by have:=h.2 a s' e;omega⟩
protected theorem Fin.bind {x:PM β}{f:β→PM α}{c:Nat}(hx:Fin c s x)(hf:∀a s',x s=.ok (a,s')→s'.r.length+c≤s.r.length→Fin (d - c) s' (f a)):Fin d s (x >>= f):=by
 refine⟨fun e=>?_,fun a s' e=>?_⟩
 ·rw[bind_eq] at e
  cases h:x s with
  |error e'=>rw[h] at e;cases e;exact hx.1 h
  |ok p=>obtain⟨b,s1⟩:=p;rw[h] at e;exact (hf b s1 h (hx.2 b s1 h)).1 e
 ·rw[bind_eq] at e
  cases h:x s with
  |error e'=>rw[h] at e;cases e
  |ok p=>
   obtain⟨b,s1⟩:=p;rw[h] at e;have h1:=hx.2 b s1 h;have h2:=(hf b s1 h h1).2 a s' e;omega
theorem Fin.U9 {x:PM β}{f:β→PM α}(hx:x s≠.error (-1))(hf:∀a s',x s=.ok (a,s')→f a s'≠.error (-1)∧∀b s'',f a s'=.ok (b,s'')→s''.r.length+d≤s.r.length):Fin d s (x >>= f):=by
 refine⟨fun e=>?_,fun a s' e=>?_⟩
 ·rw[bind_eq] at e
  cases h:x s with
  |error e'=>rw[h] at e;cases e;exact hx h
  |ok p=>obtain⟨b,s1⟩:=p;rw[h] at e;exact (hf b s1 h).1 e
 ·rw[bind_eq] at e
  cases h:x s with
  |error e'=>rw[h] at e;cases e
  |ok p=>obtain⟨b,s1⟩:=p;rw[h] at e;exact (hf b s1 h).2 a s' e
protected theorem Fin.get {f:PS→PM α}(h:Fin d s (f s)):Fin d s (get >>= f):=h
protected theorem Fin.ite {c:Prop}[Decidable c]{x y:PM α}(h1:c→Fin d s x)(h2:¬c→Fin d s y):Fin d s (if c then x else y):=by
 split
 ·exact h1 ‹_›
 ·exact h2 ‹_›
theorem vL {ks:List Int}(h:kN s ks=true)(h0:ks.contains 0=false):s.r≠[]:=fun e=>by
 simp only[kN,gC,e,List.getD_nil] at h;rw[show t0.kind=0 from rfl,h0] at h;cases h
theorem BG {ws:List (List UInt8)}(h:eM s ws=true):s.r≠[]:=fun e=>by
 simp only[eM,gC,e,List.getD_nil,Bool.and_eq_true,decide_eq_true_eq] at h;rcases h.1 with h|h<;>cases h
protected theorem Fin.step (h:s.r≠[]):Fin 1 s dT:=by
 refine⟨fun e=>?_,fun a s' e=>?_⟩
 ·unfold dT at e
  split at e
  ·exact h ‹_›
  ·cases e
 ·unfold dT at e
  split at e
  ·cases e
  ·rename_i t r hr;cases e;rw[hr];simp
protected theorem Fin.B5 {k:Int}:Fin 1 s (jj k):=by
 refine⟨fun e=>?_,fun a s' e=>?_⟩
 ·unfold jj at e
  split at e
  ·cases e
  ·rename_i h;exact (Fin.step fun h'=>h (.inl h')).1 e
 ·unfold jj at e
  split at e
  ·cases e
  ·rename_i h;exact (Fin.step fun h'=>h (.inl h')).2 a s' e
protected theorem Fin.take:Fin 1 s (bC w):=by
 have key:∀d:Int,¬(s.r=[]∨eM s [w]=false)→dT ⟨s.r,d⟩≠.error (-1)∧∀a s',dT ⟨s.r,d⟩=.ok (a,s')→s'.r.length+1≤s.r.length:=fun d h=>Fin.step (s:=⟨s.r,d⟩) fun h'=>h (.inl h');unfold Fin bC
 split
 ·exact⟨(fun e=>by cases e),fun _ _ e=>by cases e⟩
 ·rename_i h
  split
  ·split
   ·exact⟨(fun e=>by cases e),fun _ _ e=>by cases e⟩
   ·exact key _ h
  ·split
   ·exact key _ h
   ·exact key s.deep h
theorem OJ {b:Bool}{s':PS}(h:bB w s=.ok (b,s')):b=eM s [w]∧(b=true→s'.r.length+1≤s.r.length)∧(b=false→s'=s):=by
 unfold bB at h
 split at h
 ·rename_i ho;rw[bind_eq] at h
  cases h1:bC w s with
  |error e=>rw[h1] at h;cases h
  |ok p=>
   obtain⟨t,s1⟩:=p;rw[h1] at h;cases h;exact⟨ho.symm,fun _=>Fin.take.2 _ _ h1,(fun h=>by cases h)⟩
 ·rename_i ho;cases h;refine⟨?_,(fun h=>by cases h),fun _=>rfl⟩
  cases h':eM s [w] with
  |true=>exact absurd h' ho
  |false=>rfl
theorem ON:bB w s≠.error (-1):=fun h=>by
 unfold bB at h
 split at h
 ·rw[bind_eq] at h
  cases h1:bC w s with
  |error e=>rw[h1] at h;cases h;exact Fin.take.1 h1
  |ok p=>rw[h1] at h;cases h
 ·cases h
protected theorem Fin.may {x y:PM α}(h1:∀s',s'.r.length+1≤s.r.length→Fin (d - 1) s' x)(h2:eM s [w]=false→Fin d s y):Fin d s (bB w >>= fun b=>if b=true then x else y):=by
 refine Fin.U9 ON fun b s' e=>?_;obtain⟨h3,h4,h5⟩:=OJ e
 cases b with
 |true=>
  simp only[if_true];have:=h4 rfl;exact⟨(h1 s' this).1,fun a s'' e=>by have:=(h1 s' this).2 a s'' e;omega⟩
 |false=>simp only[Bool.false_eq_true,if_false];rw[h5 rfl];exact h2 h3.symm
end
section
variable {α β:Type} {s:PS} {d:Nat} {w:List UInt8}
protected theorem Fin.cd {x:PM α}(h:∀s',s'.r.length+1≤s.r.length→Fin (d - 1) s' x):Fin d s (bC w >>= fun _=>x):=Fin.take.bind fun _ s' _ hl=>h s' hl
protected theorem Fin.dY {f:Tk→PM α}(hr:s.r≠[])(h:∀t s',s'.r.length+1≤s.r.length→Fin (d - 1) s' (f t)):Fin d s (dT >>= f):=(Fin.step hr).bind fun t s' _ hl=>h t s' hl
protected theorem Fin.lQ {k:Int}{f:Tk→PM α}(h:∀t s',s'.r.length+1≤s.r.length→Fin (d - 1) s' (f t)):Fin d s (jj k >>= f):=Fin.B5.bind fun t s' _ hl=>h t s' hl
protected theorem Fin.eE {x:PM β}{f:β→PM α}(hx:Fin 1 s x)(h:∀t s',s'.r.length+1≤s.r.length→Fin (d - 1) s' (f t)):Fin d s (x >>= f):=hx.bind fun t s' _ hl=>h t s' hl
protected theorem Fin.cJ {x:PM β}{f:β→PM α}(hx:Fin 0 s x)(h:∀t s',s'.r.length≤s.r.length→Fin d s' (f t)):Fin d s (x >>= f):=hx.bind fun t s' _ hl=>h t s' hl
theorem KI:(30:Int)≠ -1:=by decide
protected theorem Fin.eo {one:PM Nd}{n:Nat}(h:∀s,s.r.length<n→Fin 0 s one):∀k s,s.r.length≤n→s.r.length+1≤k→Fin 0 s (eo one k)
 |0,_,_,hk=>by omega
 |k+1,s,hn,hk=>by
  unfold Go.Proofs.YtdfccaonglmgpaaGreatDoor.eo;exact Fin.may (fun s1 h1=>Fin.cJ (h _ (by omega)) fun a s2 h2=>Fin.cJ (Fin.eo h k _ (by omega) (by omega)) fun l s3 h3=>Fin.pure) fun _=>Fin.pure
protected theorem Fin.fI {one:PM Nd}{k:Nat}(h:∀s',s'.r.length≤s.r.length→Fin 1 s' one)(hk:s.r.length+1≤k):Fin 1 s (eV one k):=by
 unfold eV;exact Fin.eE (h s (Nat.le_refl _)) fun a s1 h1=>Fin.cJ (Fin.eo (n:=s.r.length) (fun s' h'=>(h s' (by omega)).eA (by omega)) k _ (by omega) (by omega)) fun l _ _=>Fin.pure
protected theorem Fin.sX:∀k s,s.r.length+1≤k→Fin 0 s (jq k)
 |0,_,hk=>by omega
 |k+1,s,hk=>by
  unfold jq;exact Fin.may (fun s1 h1=>Fin.sX k _ (by omega)) fun _=>Fin.pure
protected theorem Fin.df {n:Int}{b:β}:Fin 1 s (df n b):=by
 unfold Go.Proofs.YtdfccaonglmgpaaGreatDoor.df;exact Fin.get (Fin.ite (fun _=>Fin.bad KI) fun _=>Fin.cd fun _ _=>Fin.pure)
protected theorem Fin.eR {one:β→PM β}{n:Nat}(h:∀s b,s.r.length≤n→Fin 1 s (one b))(m:Int):∀k b s,s.r.length≤n→s.r.length+2≤k→Fin 1 s (eR one m k b)
 |0,_,_,_,hk=>by omega
 |k+1,b,s,hn,hk=>by
  unfold Go.Proofs.YtdfccaonglmgpaaGreatDoor.eR;refine Fin.cJ (Fin.sX k _ (by omega)) fun _ s1 h1=>Fin.get (Fin.ite (fun _=>Fin.df) fun _=>?_);exact (h s1 b (by omega)).bind fun b' s2 _ h2=>Fin.get (Fin.ite (fun _=>(Fin.eR h m k b' s2 (by omega) (by omega)).eA (by omega)) fun _=>Fin.df.eA (by omega))
protected theorem Fin.block {one:β→PM β}{k:Nat}{b:β}(h:∀s' b,s'.r.length+1≤s.r.length→Fin 1 s' (one b))(hk:s.r.length+2≤k):Fin 1 s (iy one k b):=by
 unfold iy;exact (Fin.take.bind fun o s1 _ h1=>(Fin.eR (n:=s.r.length - 1) (fun s' b h'=>h s' b (by omega)) _ k b s1 (by omega) (by omega)).eA (by omega))
protected theorem Fin.cq {one:PM Nd}{k:Nat}(h:∀s',s'.r.length+1≤s.r.length→Fin 1 s' one)(hk:s.r.length+2≤k):Fin 1 s (cq one k):=by
 unfold Go.Proofs.YtdfccaonglmgpaaGreatDoor.cq;refine Fin.block (fun s' b h'=>?_) hk;unfold snoc;exact (h s' h').bind fun _ _ _ _=>Fin.pure
protected theorem Fin.named {a b:Int}:Fin 1 s (jI a b):=by
 unfold jI;refine Fin.get (Fin.ite (fun _=>Fin.cd fun _ _=>?_) fun _=>Fin.lQ fun _ _ _=>Fin.pure);exact Fin.cJ (Fin.B5.eA (by omega)) fun _ _ _=>Fin.cJ (Fin.take.eA (by omega)) fun _ _ _=>Fin.pure
protected theorem Fin.jX:Fin 1 s gm:=Fin.named
protected theorem Fin.item:Fin 1 s mJ:=by
 unfold mJ;exact Fin.get (Fin.ite (fun h=>Fin.dY (vL h rfl) fun _ _ _=>Fin.pure) fun _=>Fin.eE Fin.jX fun _ _ _=>Fin.pure)
protected theorem Fin.lY {x:PM (List Nd)}(hx:Fin 0 s x):Fin 0 s (get >>= fun s=>if eM s [w]=true then (pure []:PM (List Nd)) else x):=Fin.get (Fin.ite (fun _=>Fin.pure) fun _=>hx)
protected theorem Fin.items {k:Nat}(hk:s.r.length+1≤k):Fin 0 s (jN k):=by
 unfold jN;refine Fin.get (Fin.ite (fun _=>Fin.cd fun s1 h1=>?_) fun _=>Fin.pure);exact Fin.cJ (Fin.lY ((Fin.fI (fun _ _=>Fin.item) (by omega)).eA (by omega))) fun _ _ _=>Fin.cJ (Fin.take.eA (by omega)) fun _ _ _=>Fin.pure
protected theorem Fin.kL:Fin 1 s il:=by unfold il;exact Fin.lQ fun _ _ _=>Fin.pure
protected theorem Fin.oH:∀k s,s.r.length+1≤k→Fin 0 s (iB k)
 |0,_,hk=>by omega
 |k+1,s,hk=>by
  unfold iB;exact Fin.get (Fin.ite (fun _=>Fin.eE Fin.kL fun _ _ _=>Fin.cJ (Fin.oH k _ (by omega)) fun _ _ _=>Fin.pure) fun _=>Fin.pure)
protected theorem Fin.empty:Fin 0 s iO:=by
 unfold iO;exact Fin.may (fun _ _=>Fin.may (fun _ _=>Fin.pure) fun _=>Fin.pure) fun _=>Fin.pure
protected theorem Fin.operator:Fin 1 s dJ:=by
 unfold dJ;refine Fin.may (fun s1 h1=>Fin.get (Fin.ite (fun h=>?_) fun _=>Fin.bad KI)) fun _=>Fin.get (Fin.ite (fun h=>?_) fun _=>Fin.bad KI)
 ·exact Fin.dY (vL h rfl) fun _ _ _=>Fin.cJ (Fin.take.eA (by omega)) fun _ _ _=>Fin.pure
 ·exact Fin.dY (vL h rfl) fun _ _ _=>Fin.pure
protected theorem Fin.iZ:Fin 1 s dR:=by
 unfold dR;exact Fin.get (Fin.ite (fun _=>Fin.cd fun _ _=>Fin.pure) fun _=>Fin.bad KI)
theorem rJ:∀k,(∀s,24 * s.r.length+2≤k→Fin 1 s (my k))∧(∀s n,24 * s.r.length+2≤k→Fin 0 s (rL k n))∧
  (∀s m,24 * s.r.length+1≤k→Fin 0 s (nO k m))∧(∀s,24 * s.r.length+1≤k→Fin 1 s (gS k))
 |0=>⟨fun _ _=>by omega,fun _ _ _=>by omega,fun _ _ _=>by omega,fun _ _=>by omega⟩
 |k+1=>by
  obtain⟨h1,h2,h3,h4⟩:=rJ k;refine⟨fun s hk=>?_,fun s n hk=>?_,fun s m hk=>?_,fun s hk=>?_⟩
  ·unfold my;refine Fin.eE (h4 _ (by omega)) fun n s1 l1=>Fin.cJ (h2 _ _ (by omega)) fun n s2 l2=>Fin.get (Fin.ite (fun h=>?_) fun _=>Fin.pure);exact Fin.dY (BG h) fun _ s3 l3=>Fin.cJ ((h1 _ (by omega)).eA (by omega)) fun _ _ _=>Fin.pure
  ·unfold rL;exact Fin.get (Fin.ite (fun _=>Fin.eE (h4 _ (by omega)) fun a s1 l1=>h2 _ _ (by omega)) fun _=>Fin.pure)
  ·cases m with
   |zero=>unfold nO;exact Fin.pure
   |succ m=>
    unfold nO;exact Fin.may (fun s1 l1=>Fin.eE (h1 _ (by omega)) fun a s2 l2=>Fin.cJ (h3 _ m (by omega)) fun _ _ _=>Fin.pure) fun _=>Fin.pure
  ·unfold gS;refine Fin.get (Fin.ite (fun h=>Fin.dY (vL h rfl) fun _ _ _=>Fin.pure) fun _=>Fin.get (Fin.ite (fun h=>Fin.kL) fun _=>Fin.may (fun s1 l1=>?_) fun _=>Fin.cd fun s1 l1=>?_))
   ·exact Fin.cJ (Fin.lY (Fin.cJ ((h1 _ (by omega)).eA (by omega)) fun _ _ _=>Fin.pure)) fun _ _ _=>Fin.cJ (Fin.take.eA (by omega)) fun _ _ _=>Fin.pure
   ·refine Fin.cJ ?_ fun p s2 l2=>?_
    ·refine Fin.may (fun _ _=>Fin.pure) fun _=>Fin.get (Fin.ite (fun _=>Fin.cJ Fin.empty fun _ _ _=>Fin.pure) fun _=>Fin.get (Fin.ite (fun _=>Fin.pure) fun _=>?_));exact Fin.cJ ((h1 _ (by omega)).eA (by omega)) fun a s3 l3=>Fin.cJ (h3 _ 2 (by omega)) fun _ _ _=>Fin.pure
    ·obtain⟨t,l⟩:=p;refine Fin.cJ (Fin.take.eA (by omega)) fun _ s3 l3=>?_;show Fin 0 s3 (match l with
       | [a]=>pure a
       |l=>pure (gw t l))
     split<;>exact Fin.pure
end
section
variable {s:PS}
structure ab2 (k:Nat):Prop where
 eq:∀s,24 * s.r.length+6≤k→Fin 1 s (ya k)
 guards:∀s w,24 * s.r.length+1≤k→Fin 0 s (gE k w)
 rhs:∀s w,24 * s.r.length+2≤k→Fin 0 s (nc k w)
 exp:∀s,24 * s.r.length+5≤k→Fin 1 s (iz k)
 ops:∀s,24 * s.r.length+1≤k→Fin 0 s (rD k)
 operand:∀s,24 * s.r.length+4≤k→Fin 1 s (dP k)
 alt:∀s,24 * s.r.length+6≤k→Fin 1 s (pM k)
 gen:∀s n,24 * s.r.length+1≤k→Fin 0 s (qW k n)
 stmt:∀s,24 * s.r.length+6≤k→Fin 1 s (lq k)
 atoms:∀s,24 * s.r.length+3≤k→Fin 1 s (fX k)
 atomsl:∀s,24 * s.r.length+3≤k→Fin 0 s (ju k)
 field:∀s,24 * s.r.length+1≤k→Fin 1 s (iC k)
 atom:∀s,24 * s.r.length+2≤k→Fin 1 s (jF k)
 recs:∀s n,24 * s.r.length+1≤k→Fin 0 s (mR k n)
 base:∀s,24 * s.r.length+1≤k→Fin 1 s (lB k)
 expc:∀s m,24 * s.r.length+1≤k→Fin 0 s (oh k m)
 inner:∀s,24 * s.r.length+5≤k→Fin 0 s (iS k)
 innerl:∀s l,24 * s.r.length+2≤k→Fin 0 s (jT k l)
theorem RA:∀k,ab2 k
 |0=>by constructor<;>intros<;>omega
 |k+1=>by
  have K:=RA k;constructor
  ·intro s hk;unfold ya;exact Fin.eE (K.exp _ (by omega)) fun _ s1 l1=>Fin.cJ (K.rhs _ _ (by omega)) fun _ _ _=>Fin.pure
  ·intro s w hk;unfold gE;refine Fin.get (Fin.ite (fun h=>Fin.dY (BG h) fun _ s1 l1=>?_) fun _=>Fin.pure);exact Fin.eE (K.exp _ (by omega)) fun c s2 l2=>Fin.cd fun s3 l3=>Fin.eE (K.exp _ (by omega)) fun e s4 l4=>Fin.cJ (K.guards _ _ (by omega)) fun _ _ _=>Fin.pure
  ·intro s w hk;unfold nc;refine Fin.cJ ?_ fun gs s1 l1=>Fin.may (fun s2 l2=>?_) fun _=>Fin.pure
   ·exact Fin.get (Fin.ite (fun _=>K.guards _ _ (by omega)) fun _=>Fin.cd fun s1 l1=>Fin.eE (K.exp _ (by omega)) fun _ _ _=>Fin.pure)
   ·exact Fin.cJ ((Fin.cq (fun s' h'=>K.eq s' (by omega)) (by omega)).eA (by omega)) fun _ _ _=>Fin.pure
  ·intro s hk;unfold iz;exact Fin.eE (K.operand _ (by omega)) fun _ s1 l1=>Fin.cJ (K.ops _ (by omega)) fun _ _ _=>Fin.pure
  ·intro s hk;unfold rD;exact Fin.get (Fin.ite (fun _=>Fin.eE Fin.operator fun o s1 l1=>Fin.eE (K.operand _ (by omega)) fun b s2 l2=>Fin.cJ (K.ops _ (by omega)) fun _ _ _=>Fin.pure) fun _=>Fin.pure)
  ·intro s hk;unfold dP;refine Fin.may (fun s1 l1=>?_) fun _=>Fin.may (fun s1 l1=>?_) fun _=>Fin.may (fun s1 l1=>?_) fun _=>Fin.may (fun s1 l1=>?_) fun _=>Fin.may (fun s1 l1=>?_) fun _=>?_
   ·exact Fin.eE (K.atoms _ (by omega)) fun l s2 l2=>Fin.cd fun s3 l3=>Fin.eE (K.exp _ (by omega)) fun _ _ _=>Fin.pure
   ·exact Fin.eE (Fin.cq (fun s' h'=>K.eq s' (by omega)) (by omega)) fun l s2 l2=>Fin.cd fun s3 l3=>Fin.eE (K.exp _ (by omega)) fun _ _ _=>Fin.pure
   ·exact Fin.eE (K.exp _ (by omega)) fun _ s2 l2=>Fin.cd fun s3 l3=>Fin.eE (K.exp _ (by omega)) fun _ s4 l4=>Fin.cd fun s5 l5=>Fin.eE (K.exp _ (by omega)) fun _ _ _=>Fin.pure
   ·exact Fin.eE (K.exp _ (by omega)) fun _ s2 l2=>Fin.cd fun s3 l3=>Fin.eE (Fin.cq (fun s' h'=>K.alt s' (by omega)) (by omega)) fun _ _ _=>Fin.pure
   ·exact Fin.eE (Fin.cq (fun s' h'=>K.stmt s' (by omega)) (by omega)) fun _ _ _=>Fin.pure
   ·exact Fin.eE (K.atoms _ (by omega)) fun _ _ _=>Fin.pure
  ·intro s hk;unfold pM;exact Fin.eE (K.exp _ (by omega)) fun _ s1 l1=>Fin.cJ (K.rhs _ _ (by omega)) fun _ _ _=>Fin.pure
  ·intro s n hk;unfold qW;exact Fin.may (fun s1 l1=>Fin.eE (K.exp _ (by omega)) fun _ _ _=>Fin.pure) fun _=>Fin.pure
  ·intro s hk;unfold lq;refine Fin.may (fun s1 l1=>?_) fun _=>Fin.eE (K.exp _ (by omega)) fun n s1 l1=>K.gen _ _ (by omega);exact Fin.eE (Fin.cq (fun s' h'=>K.eq s' (by omega)) (by omega)) fun l s2 l2=>Fin.may (fun s3 l3=>Fin.eE (K.exp _ (by omega)) fun e s4 l4=>K.gen _ _ (by omega)) fun _=>Fin.pure
  ·intro s hk;unfold fX;exact Fin.eE (K.atom _ (by omega)) fun a s1 l1=>Fin.cJ (K.atomsl _ (by omega)) fun _ _ _=>Fin.pure
  ·intro s hk;unfold ju;exact Fin.get (Fin.ite (fun _=>Fin.eE (K.atom _ (by omega)) fun a s1 l1=>Fin.cJ (K.atomsl _ (by omega)) fun _ _ _=>Fin.pure) fun _=>Fin.pure)
  ·intro s hk;unfold iC;exact Fin.eE Fin.jX fun t s1 l1=>Fin.cd fun s2 l2=>Fin.eE (K.exp _ (by omega)) fun _ _ _=>Fin.pure
  ·intro s hk;unfold jF;exact Fin.eE (K.base _ (by omega)) fun n s1 l1=>K.recs _ _ (by omega)
  ·intro s n hk;unfold mR;refine Fin.get (Fin.ite (fun _=>Fin.cd fun s1 l1=>?_) fun _=>Fin.pure);refine Fin.cJ ?_ fun l s2 l2=>Fin.eE Fin.iZ fun _ s3 l3=>K.recs _ _ (by omega);exact Fin.get (Fin.ite (fun _=>Fin.pure) fun _=>(Fin.fI (fun s' h'=>K.field s' (by omega)) (by omega)).eA (by omega))
  ·intro s hk;unfold lB;refine Fin.get (Fin.ite (fun h=>?_) fun _=>Fin.get (Fin.ite (fun h=>?_) fun _=>Fin.get (Fin.ite (fun h=>?_) fun _=>Fin.get (Fin.ite (fun h=>?_) fun _=>Fin.may (fun _ _=>Fin.pure) fun _=>Fin.may (fun s1 l1=>?_) fun _=>Fin.cd fun s1 l1=>?_))))
   ·exact Fin.dY (vL h rfl) fun t s1 l1=>Fin.may (fun s2 l2=>Fin.eE (K.atom _ (by omega)) fun _ _ _=>Fin.pure) fun _=>Fin.pure
   ·exact Fin.dY (vL h rfl) fun _ _ _=>Fin.pure
   ·exact Fin.dY (vL h rfl) fun _ _ _=>Fin.pure
   ·exact Fin.dY (vL h rfl) fun _ _ _=>Fin.pure
   ·exact Fin.cJ (Fin.lY ((Fin.fI (fun s' h'=>K.exp s' (by omega)) (by omega)).eA (by omega))) fun _ _ _=>Fin.cJ (Fin.take.eA (by omega)) fun _ _ _=>Fin.pure
   ·exact Fin.cJ (K.inner _ (by omega)) fun _ _ _=>Fin.cJ (Fin.take.eA (by omega)) fun _ _ _=>Fin.pure
  ·intro s m hk
   cases m with
   |zero=>unfold oh;exact Fin.pure
   |succ m=>
    unfold oh;exact Fin.may (fun s1 l1=>Fin.eE (K.exp _ (by omega)) fun a s2 l2=>Fin.cJ (K.expc _ m (by omega)) fun _ _ _=>Fin.pure) fun _=>Fin.pure
  ·intro s hk;unfold iS;refine Fin.get (Fin.ite (fun _=>Fin.pure) fun _=>Fin.get (Fin.ite (fun h=>Fin.cJ Fin.empty fun _ _ _=>Fin.pure) fun _=>Fin.get (Fin.ite (fun _=>Fin.get ?_) fun _=>?_)))
   ·exact Fin.eE Fin.operator fun o s1 l1=>Fin.get (Fin.ite (fun _=>Fin.pure) fun _=>Fin.eE (K.exp _ (by omega)) fun _ _ _=>Fin.pure)
   ·exact Fin.eE (K.operand _ (by omega)) fun a s1 l1=>K.innerl _ _ (by omega)
  ·intro s l hk;unfold jT;refine Fin.get (Fin.ite (fun _=>?_) fun _=>?_)
   ·exact Fin.eE Fin.operator fun o s1 l1=>Fin.get (Fin.ite (fun _=>Fin.pure) fun _=>Fin.eE (K.operand _ (by omega)) fun b s2 l2=>K.innerl _ _ (by omega))
   ·refine Fin.cJ (K.expc _ 2 (by omega)) fun m s1 l1=>?_
    split<;>exact Fin.pure
protected theorem Fin.signed {k:Nat}{kind:Int}(hk:24 * s.r.length+2≤k):Fin 1 s (gF k kind):=by
 unfold gF;exact Fin.eE Fin.jX fun t s1 l1=>Fin.cd fun s2 l2=>Fin.eE ((rJ k).1 _ (by omega)) fun _ _ _=>Fin.pure
protected theorem Fin.ow:∀k s,24 * s.r.length+2≤k→Fin 0 s (jl k)
 |0,_,hk=>by omega
 |k+1,s,hk=>by
  unfold jl;exact Fin.get (Fin.ite (fun _=>Fin.eE ((rJ k).2.2.2 _ (by omega)) fun a s1 l1=>Fin.cJ (Fin.ow k _ (by omega)) fun _ _ _=>Fin.pure) fun _=>Fin.pure)
protected theorem Fin.jr {k:Nat}(hk:24 * s.r.length+2≤k):Fin 1 s (dv k):=by
 unfold dv;refine Fin.eE Fin.named fun t s1 l1=>Fin.get (Fin.ite (fun _=>Fin.cd fun s2 l2=>?_) fun _=>?_)
 ·exact Fin.cJ ((Fin.fI (fun s' h'=>Fin.signed (by omega)) (by omega)).eA (by omega)) fun l s3 l3=>Fin.cJ (Fin.iZ.eA (by omega)) fun _ _ _=>Fin.pure
 ·exact Fin.cJ (Fin.ow k _ (by omega)) fun _ _ _=>Fin.pure
protected theorem Fin.sF:∀k s w,24 * s.r.length+2≤k→Fin 0 s (oq k w)
 |0,_,_,hk=>by omega
 |k+1,s,w,hk=>by
  unfold oq;exact Fin.may (fun s1 l1=>Fin.eE (Fin.jr (by omega)) fun a s2 l2=>Fin.cJ (Fin.sF k _ _ (by omega)) fun _ _ _=>Fin.pure) fun _=>Fin.pure
protected theorem Fin.data {k:Nat}(hr:s.r≠[])(hk:24 * s.r.length+2≤k):Fin 1 s (nH k):=by
 unfold nH;exact Fin.dY hr fun _ s1 l1=>Fin.lQ fun t s2 l2=>Fin.cJ (Fin.oH k _ (by omega)) fun v s3 l3=>Fin.cJ (Fin.sF k _ _ (by omega)) fun _ _ _=>Fin.pure
protected theorem Fin.uc {k:Nat}(hr:s.r≠[])(hk:24 * s.r.length+2≤k):Fin 1 s (kH k):=by
 unfold kH;exact Fin.dY hr fun _ s1 l1=>Fin.lQ fun t s2 l2=>Fin.eE Fin.kL fun v s3 l3=>Fin.may (fun s4 l4=>Fin.cJ ((Fin.cq (fun s' h'=>Fin.signed (by omega)) (by omega)).eA (by omega)) fun _ _ _=>Fin.pure) fun _=>Fin.pure
protected theorem Fin.pred:Fin 1 s kU:=by
 unfold kU;exact Fin.lQ fun t s1 l1=>Fin.cJ (Fin.kL.eA (by omega)) fun _ _ _=>Fin.pure
protected theorem Fin.head {k:Nat}(hk:s.r.length+1≤k):Fin 1 s (nJ k):=by
 have tk:∀{s:PS} {w:List UInt8},Fin (1 - 1) s (bC w):=Fin.take.eA (by omega);have tv:∀{s:PS},Fin (1 - 1) s il:=Fin.kL.eA (by omega);unfold nJ;refine Fin.get (Fin.ite (fun h=>?_) fun _=>Fin.may (fun s1 l1=>?_) fun _=>Fin.cd fun s1 l1=>Fin.get (Fin.ite (fun h=>?_) fun _=>Fin.get (Fin.ite (fun _=>?_) fun _=>Fin.may (fun _ _=>?_) fun _=>Fin.get (Fin.ite (fun h=>?_) fun _=>?_))))
 ·exact Fin.dY (vL h rfl) fun _ _ _=>Fin.pure
 ·exact Fin.cJ (Fin.get (Fin.ite (fun _=>Fin.cJ tv fun _ _ _=>Fin.pure) fun _=>Fin.pure)) fun _ _ _=>Fin.cJ tk fun _ _ _=>Fin.pure
 ·exact Fin.dY (vL h rfl) fun t s2 l2=>Fin.cJ (Fin.oH k _ (by omega)) fun _ _ _=>Fin.cJ tk fun _ _ _=>Fin.pure
 ·refine Fin.cJ tv fun a s2 l2=>Fin.may (fun s3 l3=>?_) fun _=>Fin.cJ tk fun _ s3 l3=>Fin.cJ tv fun b s4 l4=>Fin.may (fun s5 l5=>?_) fun _=>?_
  ·exact Fin.cJ tv fun _ _ _=>Fin.cJ tk fun _ _ _=>Fin.pure
  ·exact Fin.cJ tv fun _ _ _=>Fin.cJ tk fun _ _ _=>Fin.pure
  ·exact Fin.cJ tk fun _ _ _=>Fin.pure
 ·exact Fin.cJ tk fun _ _ _=>Fin.pure
 ·exact Fin.cJ Fin.empty fun _ _ _=>Fin.cJ tk fun _ _ _=>Fin.pure
 ·exact Fin.cJ tk fun _ _ _=>Fin.pure
protected theorem Fin.inst {k:Nat}(hr:s.r≠[])(hk:24 * s.r.length+2≤k):Fin 1 s (nK k):=by
 have tk:∀{s:PS} {w:List UInt8},Fin 0 s (bC w):=Fin.take.eA (by omega);unfold nK;refine Fin.dY hr fun _ s1 l1=>Fin.cJ ?_ fun c s2 l2=>Fin.lQ fun t s3 l3=>Fin.cJ ((Fin.head (by omega)).eA (by omega)) fun h s4 l4=>Fin.may (fun s5 l5=>?_) fun _=>Fin.pure
 ·refine Fin.may (fun s2 l2=>?_) fun _=>Fin.get (Fin.get (Fin.ite (fun _=>?_) fun _=>Fin.pure))
  ·exact Fin.cJ (Fin.lY ((Fin.fI (fun _ _=>Fin.pred) (by omega)).eA (by omega))) fun _ _ _=>Fin.cJ tk fun _ _ _=>Fin.cJ tk fun _ _ _=>Fin.pure
  ·exact Fin.eE Fin.pred fun _ _ _=>Fin.cJ tk fun _ _ _=>Fin.pure
 ·exact Fin.cJ ((Fin.cq (fun s' h'=>(RA k).eq s' (by omega)) (by omega)).eA (by omega)) fun _ _ _=>Fin.pure
protected theorem Fin.fix {k:Nat}(hr:s.r≠[])(hk:24 * s.r.length+2≤k):Fin 1 s (fixF k):=by
 unfold fixF;exact Fin.dY hr fun t s1 l1=>Fin.get (Fin.get (Fin.ite (fun _=>Fin.bad KI) fun _=>Fin.lQ fun n s2 l2=>Fin.cJ ((Fin.fI (fun _ _=>Fin.operator) (by omega)).eA (by omega)) fun _ _ _=>Fin.pure))
protected theorem Fin.decl {k:Nat}(hk:24 * s.r.length+6≤k):Fin 1 s (nN k):=by
 unfold nN;exact Fin.get (Fin.ite (fun h=>Fin.data (BG h) (by omega)) fun _=>Fin.get (Fin.ite (fun h=>Fin.uc (BG h) (by omega)) fun _=>Fin.get (Fin.ite (fun h=>Fin.inst (BG h) (by omega)) fun _=>Fin.get (Fin.ite (fun h=>Fin.fix (BG h) (by omega)) fun _=>(RA k).eq _ (by omega)))))
protected theorem Fin.top {k:Nat}{b:List Nd×List Nd}(hk:24 * s.r.length+6≤k):Fin 1 s (nU k b):=by
 unfold nU;refine Fin.get (Fin.ite (fun h=>?_) fun _=>Fin.eE (Fin.decl hk) fun _ _ _=>Fin.pure);rw[Bool.and_eq_true] at h;exact Fin.dY (BG h.2) fun _ s1 l1=>Fin.lQ fun t s2 l2=>Fin.cJ (Fin.items (by omega)) fun _ _ _=>Fin.pure
protected theorem Fin.module {k:Nat}(hk:24 * s.r.length+6≤k):Fin 1 s (dW k):=by
 unfold dW;refine Fin.cd fun s1 l1=>Fin.lQ fun t s2 l2=>Fin.cJ (Fin.items (by omega)) fun e s3 l3=>Fin.cd fun s4 l4=>Fin.cJ ((Fin.block (fun s' b h'=>Fin.top (by omega)) (by omega)).eA (by omega)) fun b s5 l5=>Fin.lQ fun _ _ _=>Fin.pure
end
mutual
def dw:Nd→Nat
 | .mk _ _ _ l=>1+aC l
def aC:List Nd→Nat
 | []=>0
 |a::l=>1+dw a+aC l
end
theorem cg (n:Nd):dw n=1+aC n.ag:=by cases n;rw[dw];rfl
theorem aQ (k:Int)(s:List UInt8)(l:List Nd):dw (bk k s l)=1+aC l:=by rw[cg];rfl
theorem aP (l:List Nd):dw (listed l)=1+aC l:=by rw[cg];rfl
theorem cD (n:Nd):1≤dw n:=by rw[cg];omega
theorem gb:∀l r:List Nd,aC (l++r)=aC l+aC r
 | [],r=>by simp [aC]
 |a::l,r=>by simp only[List.cons_append,aC,gb l r];omega
theorem pD (l:List Nd):dw (eU l)≤1+aC l:=by
 match l with
 | []=>simp [eU,kJ,dw,aC]
 | [a]=>simp only[eU,aC];omega
 |a::b::l=>simp only[eU,aQ];omega
def So {α:Type}(x:FM α):Prop:=x≠none
section
variable {α β:Type}
protected theorem So.pure {a:α}:So (pure a:FM α):=fun h=>by cases h
protected theorem So.bind {x:FM β}{f:β→FM α}(hx:So x)(hf:∀a b,x=some (a,b)→So (f a)):So (x >>= f):=fun e=>by
 rw[mH] at e
 cases h:x with
 |none=>exact hx h
 |some p=>
  obtain⟨b,c⟩:=p;rw[h] at e;simp only at e
  cases h2:f b with
  |none=>exact hf b c h h2
  |some q=>rw[h2] at e;cases e
protected theorem So.dq {b:Bool}{x:FM α}(h:So x):So (dq b >>= fun _=>x):=So.bind (fun h=>by cases h) fun _ _ _=>h
protected theorem So.seq {x:FM β}{f:β→FM α}(hx:So x)(hf:∀a,So (f a)):So (x >>= f):=So.bind hx fun a _ _=>hf a
end
section
variable {sp:List UInt8→Int→Bool}
structure SoP (sp:List UInt8→Int→Bool)(k:Nat):Prop where
 pat:∀n,PE sp n→2 * dw n≤k→So (jA k n)
 op:∀o,mu sp o=true→1≤k→So (jA k o)
 fld:∀f,PF sp f→2 * dw f≤k→So (jA k f)
 app:∀h args,PE sp h→2 * dw h≤k+1→So (ic k h args)
 pats:∀l,(∀a∈l,PE sp a)→2 * aC l≤k→So (dO k l)
 flds:∀l,(∀a∈l,PF sp a)→2 * aC l≤k→So (dO k l)
 mix:∀a l,PE sp a→PO sp l→2 * aC (a::l)≤k→So (dO k (a::l))
 mixo:∀l,PO sp l→2 * aC l≤k→So (dO k l)
theorem QG:∀k,SoP sp k
 |0=>by
  constructor
  ·intro n _ h;have:=cD n;omega
  ·intro o _ h;omega
  ·intro n _ h;have:=cD n;omega
  ·intro h a _ hk;have:=cD h;omega
  ·intro l _ hk;cases l with
   |nil=>rw[c7];exact So.pure
   |cons a l=>simp only[aC] at hk;omega
  ·intro l _ hk;cases l with
   |nil=>rw[c7];exact So.pure
   |cons a l=>simp only[aC] at hk;omega
  ·intro a l _ _ hk;simp only[aC] at hk;omega
  ·intro l _ hk;cases l with
   |nil=>rw[c7];exact So.pure
   |cons a l=>simp only[aC] at hk;omega
 |k+1=>by
  have K:=QG k;constructor
  ·intro n hn hk;have hs:=cg n;unfold jA
   cases hn with
   |var h=>simp only[bk,Nd.kind,Nd.ag,Nd.name,Nd.n,jg,c7];exact So.seq So.pure fun _=>So.pure
   |con h=>simp only[bk,Nd.kind,Nd.ag,Nd.name,Nd.n,jg,c7];exact So.seq So.pure fun _=>So.pure
   |int h=>simp only[Nd.kind,Nd.ag,Nd.name,Nd.n,jg,c7];exact So.seq So.pure fun _=>So.pure
   |str=>simp only[bk,Nd.kind,Nd.ag,Nd.name,Nd.n,jg,c7];exact So.seq So.pure fun _=>So.pure
   |app ha hb=>exact So.seq (K.app _ [] (.app ha hb) (by omega)) fun r=>So.dq So.pure
   |ops ha hl h0=>
    simp only[bk,Nd.kind,Nd.ag,Nd.name,Nd.n,jg] at hs ⊢;exact So.seq (K.mix _ _ ha hl (by simp only[bk] at hk;omega)) fun _=>So.pure
   |lam _ _ _=>exact So.dq So.pure
   |elet _ _=>exact So.dq So.pure
   |eif _ _ _=>exact So.dq So.pure
   |ecase _ _=>exact So.dq So.pure
   |edo _=>exact So.dq So.pure
   |tup hl h2=>
    simp only[bk,Nd.kind,Nd.ag,Nd.name,Nd.n,jg] at hs ⊢;exact So.seq (K.pats _ hl (by simp only[bk] at hk;omega)) fun _=>So.pure
   |lst hl=>
    simp only[bk,Nd.kind,Nd.ag,Nd.name,Nd.n,jg] at hs ⊢;exact So.seq (K.pats _ hl (by simp only[bk] at hk;omega)) fun _=>So.pure
   |left _ _=>exact So.dq So.pure
   |right _ _=>exact So.dq So.pure
   |make h hl=>
    simp only[bk,Nd.kind,Nd.ag,Nd.name,Nd.n,jg] at hs ⊢;exact So.seq (K.flds _ hl (by simp only[bk] at hk;omega)) fun _=>So.pure
   |put _ _ _ _=>exact So.dq So.pure
   |wild=>simp only[bk,Nd.kind,Nd.ag,Nd.name,Nd.n,jg,c7];exact So.seq So.pure fun _=>So.pure
   |eas h ha=>
    simp only[bk,Nd.kind,Nd.ag,Nd.name,Nd.n,jg] at hs ⊢;exact So.seq (K.pats [_] (ay ha aN) (by simp only[bk] at hk;omega)) fun _=>So.pure
  ·intro o ho _;unfold jA;rw[if_pos (oW ho).1];exact So.dq So.pure
  ·intro f hf hk
   cases hf with
   |mk hs he=>
    rw[aQ,aC] at hk;unfold jA;exact So.seq (K.pat _ he (by omega)) fun _=>So.pure
  ·intro h args hh hk;unfold ic
   split
   ·rename_i h22
    cases hh with
    |app h1 h2=>
     rw[aQ,aC,aC,aC] at hk;exact So.seq (K.pat _ h2 (by omega)) fun p=>K.app _ _ h1 (by omega)
    |_=>first| (simp [bk,Nd.kind] at h22)| (simp [Nd.kind] at h22)
   ·exact So.pure
  ·intro l hl hk
   cases l with
   |nil=>rw[c7];exact So.pure
   |cons a l=>
    rw[aC] at hk;unfold dO;exact So.seq (K.pat a (hl a (by simp)) (by omega)) fun _=>So.seq (K.pats l (fun x hx=>hl x (by simp [hx])) (by omega)) fun _=>So.pure
  ·intro l hl hk
   cases l with
   |nil=>rw[c7];exact So.pure
   |cons a l=>
    rw[aC] at hk;unfold dO;exact So.seq (K.fld a (hl a (by simp)) (by omega)) fun _=>So.seq (K.flds l (fun x hx=>hl x (by simp [hx])) (by omega)) fun _=>So.pure
  ·intro a l ha hl hk;rw[aC] at hk;unfold dO;exact So.seq (K.pat a ha (by omega)) fun _=>So.seq (K.mixo l hl (by omega)) fun _=>So.pure
  ·intro l hl hk
   cases hl with
   |nil=>rw[c7];exact So.pure
   | @cons o b l' ho hb hl=>
    rw[aC] at hk;have:=cD o;unfold dO;exact So.seq (K.op _ ho (by omega)) fun _=>So.seq (K.mix _ _ hb hl (by omega)) fun _=>So.pure
theorem sR:∀(k:Nat) (n:Nd) (args:List Nd),PE sp n→dw n≤k→∃h as,eT k n args=some (h,as)∧aC as+dw h≤aC args+dw n
 |0,n,_,_,hk=>by have:=cD n;omega
 |k+1,n,args,hn,hk=>by
  unfold eT
  split
  ·rename_i h22
   cases hn with
   | @app a b h1 h2=>
    rw[aQ,aC,aC,aC] at hk ⊢;obtain⟨h,as,e,hs⟩:=sR k a (b::args) h1 (by omega);rw[aC] at hs;exact⟨h,as,e,by omega⟩
   |_=>first| (simp [bk,Nd.kind] at h22)| (simp [Nd.kind] at h22)
  ·exact⟨_,_,rfl,Nat.le_refl _⟩
theorem EW (k:Nat){n:Nd}(hn:PE sp n)(hk:2 * dw n+2≤k):So (kW k n):=by
 unfold kW
 split
 ·rename_i h23;refine So.dq ?_
  split
  ·exact So.pure
  ·rename_i h0
   cases hn with
   | @ops a l ha hl _=>
    rcases mS (a::l) 0 0 h0 with h1| ⟨j,o,h1,h2,h3,h4⟩
    ·exact absurd h1 h0
    ·obtain⟨g1,l1,b,l2,g2,g3,g4,g5,g6⟩:=rN hl ha h1 h3;rw[Nat.zero_add] at h2;have e:(bk 23 [] (a::l)).ag=a::l:=rfl;simp only[e];rw[h2,g2,g4];refine So.seq ((QG k).pats [_,_] (ay (jb ha g3) (ay (jb g5 g6) aN)) ?_) fun _=>So.pure;rw[aQ] at hk;have e1:aC (a::l)=aC ((a::l).take j)+(1+dw o+aC ((a::l).drop (j+1))):=by
      have h5:(a::l)=(a::l).take j++(o::(a::l).drop (j+1)):=by
       obtain⟨hj,rfl⟩:=List.getElem?_eq_some_iff.1 h1;rw[←List.drop_eq_getElem_cons hj,List.take_append_drop]
      conv=>lhs;rw[h5]
      rw[gb,aC]
     rw[g2,g4] at e1;have e2:=pD (a::l1);have e3:=pD (b::l2);have e4:=cD o;simp only[aC] at e1 e2 e3 hk ⊢;omega
   |_=>first| (simp [bk,Nd.kind] at h23)| (simp [Nd.kind] at h23)
 ·obtain⟨h,as,e,hs⟩:=sR k n [] hn (by omega);obtain⟨h1,h2,h3⟩:=ov k n [] h as hn aN e;rw[e];simp only
  split
  ·exact So.pure
  ·rw[aC] at hs;exact So.seq ((QG k).pats as h2 (by omega)) fun _=>So.pure
end
section
variable {sp:List UInt8→Int→Bool}
def rY:List Nd→Nat
 | []=>0
 |d::l=>1+(if d.kind=15 then 4 * dw d else 0)+rY l
theorem tH:∀l:List Nd,rY l≤4 * aC l
 | []=>by simp [rY,aC]
 |d::l=>by
  have:=tH l;simp only[rY,aC]
  split<;>omega
structure SoE (sp:List UInt8→Int→Bool)(k:Nat):Prop where
 eqs:∀l out on,(∀d∈l,d.kind≠15∨PQ sp d)→rY l≤k→So (fz k l out on)
 right:∀n,PR sp n→4 * dw n≤k→So (iA k n)
 exp:∀n,PE sp n→4 * dw n≤k→So (cl k n)
 op:∀o,mu sp o=true→1≤k→So (cl k o)
 fld:∀f,PF sp f→4 * dw f≤k→So (cl k f)
 alt:∀f,PA sp f→4 * dw f≤k→So (cl k f)
 stm:∀f,J5 sp f→4 * dw f≤k→So (cl k f)
 gd:∀f,PG sp f→4 * dw f≤k→So (cl k f)
 non:1≤k→So (cl k kJ)
inductive uA (sp:List UInt8→Int→Bool):Nd→Prop
 |e {n}:PE sp n→uA sp n
 |o {n}:mu sp n=true→uA sp n
 |f {n}:PF sp n→uA sp n
 |a {n}:PA sp n→uA sp n
 |s {n}:J5 sp n→uA sp n
 |g {n}:PG sp n→uA sp n
 |n:uA sp kJ
 |p {e}:PE sp e→uA sp (bk 17 [] [kJ,e])
theorem PO.any:∀{l:List Nd},PO sp l→∀x∈l,uA sp x
 |_,.nil=>aN
 |_,.cons h1 h2 h3=>ay (.o h1) (ay (.e h2) (PO.any h3))
theorem soE:∀k,SoE sp k:=by
 intro k
 induction k using Nat.strongRecOn with
 |_ k ih=>
 cases k with
 |zero=>
  constructor
  ·intro l out on _ hk;cases l with
   |nil=>unfold fz;exact So.pure
   |cons d l=>simp only[rY] at hk;omega
  ·intro n _ h;have:=cD n;omega
  ·intro n _ h;have:=cD n;omega
  ·intro n _ h;omega
  ·intro n _ h;have:=cD n;omega
  ·intro n _ h;have:=cD n;omega
  ·intro n _ h;have:=cD n;omega
  ·intro n _ h;have:=cD n;omega
  ·intro h;omega
 |succ k=>
  have K:=ih k (by omega);have lst:∀j l,j≤k→(∀a∈l,uA sp a)→4 * aC l≤j→So (bW j l):=by
   intro j
   induction j with
   |zero=>intro l _ _ hk;cases l with
    |nil=>rw[cP];exact So.pure
    |cons a l=>simp only[aC] at hk;omega
   |succ j ihj=>
    intro l hj hl hk
    cases l with
    |nil=>rw[cP];exact So.pure
    |cons a l=>
     rw[aC] at hk;have J:=ih j (by omega);unfold bW;refine So.seq ?_ fun _=>So.seq (ihj l (by omega) (fun x hx=>hl x (by simp [hx])) (by omega)) fun _=>So.pure
     cases hl a (by simp) with
     |e h=>exact J.exp _ h (by omega)
     |o h=>exact J.op _ h (by omega)
     |f h=>exact J.fld _ h (by omega)
     |a h=>exact J.alt _ h (by omega)
     |s h=>exact J.stm _ h (by omega)
     |g h=>exact J.gd _ h (by omega)
     |n=>exact J.non (by omega)
     |p h=>
      rename_i e;simp only[aQ,aC] at hk;have:=cD kJ
      cases j with
      |zero=>omega
      |succ i=>
       have I:=ih i (by omega);unfold cl;simp only[bk,Nd.kind,Nd.ag,Nd.name,Nd.n];refine So.seq ?_ fun _=>So.pure
       cases i with
       |zero=>omega
       |succ m=>
        unfold bW;refine So.seq ((ih m (by omega)).non (by omega)) fun _=>So.seq ?_ fun _=>So.pure
        cases m with
        |zero=>omega
        |succ m=>
         unfold bW;exact So.seq ((ih m (by omega)).exp _ h (by omega)) fun _=>So.seq (by rw[cP];exact So.pure) fun _=>So.pure
  have lstk:∀l,(∀a∈l,uA sp a)→4 * aC l≤k→So (bW k l):=fun l=>lst k l (Nat.le_refl _);have yB:∀l,(∀a∈l,PQ sp a)→4 * aC l≤k→So (fz k l [] false):=fun l hl hk=>K.eqs l [] false (fun d hd=>.inr (hl d hd)) (Nat.le_trans (tH l) hk);have hexp:∀n,PE sp n→4 * dw n≤k+1→So (cl (k+1) n):=by
   intro n hn hk;have hs:=cg n;have hk':4 * aC n.ag≤k:=by omega
   unfold cl
   cases hn with
   |var h=>simp only[bk,Nd.kind,Nd.ag,Nd.name,Nd.n];simp only[cP];exact So.seq So.pure fun _=>So.pure
   |con h=>simp only[bk,Nd.kind,Nd.ag,Nd.name,Nd.n];simp only[cP];exact So.seq So.pure fun _=>So.pure
   |int h=>simp only[Nd.kind,Nd.ag,Nd.name,Nd.n];simp only[cP];exact So.seq So.pure fun _=>So.pure
   |str=>simp only[bk,Nd.kind,Nd.ag,Nd.name,Nd.n];simp only[cP];exact So.seq So.pure fun _=>So.pure
   |app ha hb=>exact So.seq (lstk _ (ay (.e ha) (ay (.e hb) aN)) hk') fun _=>So.pure
   |ops ha hl h0=>exact So.seq (lstk _ (ay (.e ha) hl.any) hk') fun _=>So.pure
   |lam h0 hl he=>
    simp only[aQ,aP,aC] at hk;exact So.seq ((QG k).pats _ hl (by simp only[listed,Nd.ag];omega)) fun _=>So.seq (K.exp _ he (by omega)) fun _=>So.pure
   |elet hl he=>
    simp only[aQ,aP,aC] at hk;exact So.seq (yB _ hl (by simp only[listed,Nd.ag];omega)) fun _=>So.seq (K.exp _ he (by omega)) fun _=>So.pure
   |eif ha hb hc=>exact So.seq (lstk _ (ay (.e ha) (ay (.e hb) (ay (.e hc) aN))) hk') fun _=>So.pure
   |ecase ha hl=>exact So.seq (lstk _ (ay (.e ha) fun x hx=>.a (hl x hx)) hk') fun _=>So.pure
   |edo hl=>exact So.dq (So.seq (lstk _ (fun x hx=>.s (hl x hx)) hk') fun _=>So.pure)
   |tup hl h2=>exact So.seq (lstk _ (fun x hx=>.e (hl x hx)) hk') fun _=>So.pure
   |lst hl=>exact So.seq (lstk _ (fun x hx=>.e (hl x hx)) hk') fun _=>So.pure
   |left ha ho=>exact So.seq (lstk _ (ay (.e ha) (ay (.o ho) aN)) hk') fun _=>So.pure
   |right ho he=>exact So.seq (lstk _ (ay (.o ho) (ay (.e he) aN)) hk') fun _=>So.pure
   |make h hl=>exact So.seq (lstk _ (fun x hx=>.f (hl x hx)) hk') fun _=>So.pure
   |put h19 ha h0 hl=>exact So.seq (lstk _ (ay (.e ha) fun x hx=>.f (hl x hx)) hk') fun _=>So.pure
   |wild=>exact So.dq So.pure
   |eas _ _=>exact So.dq So.pure
  constructor
  ·intro l out on hl hk
   cases l with
   |nil=>unfold fz;exact So.pure
   |cons d l=>
    rw[rY] at hk;have hl':∀d∈l,d.kind≠15∨PQ sp d:=fun x hx=>hl x (by simp [hx]);have nx:∀out on,So (fz k l out on):=fun out on=>K.eqs l out on hl' (by omega);unfold fz
    by_cases h15:d.kind=15
    ·rw[if_neg (by simp [h15])];rw[if_pos h15] at hk
     cases (hl d (by simp)).resolve_left (by simp [h15]) with
     | @mk e r0 he hr=>
      simp only[aQ,aC] at hk;simp only[bk,Nd.ag];refine So.seq (K.right _ hr (by omega)) fun r=>So.seq (EW k he (by omega)) fun c=>?_
      cases c with
      |none=>exact So.seq ((QG k).pat _ he (by omega)) fun _=>nx _ _
      |some q=>
       obtain⟨name,ps⟩:=q;simp only
       split
       ·exact So.dq (nx _ _)
       ·exact nx _ _
    ·rw[if_pos h15];exact nx _ _
  ·intro n hn hk;unfold iA
   cases hn with
   |plain he hl=>
    simp only[aQ,aP,aC] at hk;simp only[bk,Nd.ag,listed];exact So.seq (lstk [_] (ay (.p he) aN) (by simp only[aC,dw];omega)) fun _=>So.seq (yB _ hl (by omega)) fun _=>So.pure
   |guards h0 hg hl=>
    simp only[aQ,aP,aC] at hk;simp only[bk,Nd.ag,listed];exact So.seq (lstk _ (fun x hx=>.g (hg x hx)) (by omega)) fun _=>So.seq (yB _ hl (by omega)) fun _=>So.pure
  ·exact hexp
  ·intro o ho _;obtain⟨h1,h2,h3⟩:=oW ho;obtain⟨ko,so,no,lo⟩:=o;simp only[Nd.kind,Nd.ag] at h1 h2;subst h1 h2;unfold cl;simp only[Nd.kind,Nd.ag,Nd.name,Nd.n];simp only[cP];exact So.seq So.pure fun _=>So.pure
  ·intro f hf hk
   cases hf with
   |mk hs he=>
    simp only[aQ,aC] at hk;unfold cl;exact So.seq (lstk [_] (ay (.e he) aN) (by simp only[aC];omega)) fun _=>So.pure
  ·intro f hf hk
   cases hf with
   |mk he hr=>
    simp only[aQ,aC] at hk;unfold cl;exact So.seq ((QG k).pat _ he (by omega)) fun _=>So.seq (K.right _ hr (by omega)) fun _=>So.pure
  ·intro f hf hk
   cases hf with
   |exp he=>exact hexp _ he hk
   |gen ha he=>
    simp only[aQ,aC] at hk;unfold cl;exact So.seq ((QG k).pat _ ha (by omega)) fun _=>So.seq (K.exp _ he (by omega)) fun _=>So.pure
   |slet hl=>
    simp only[aQ,aP,aC] at hk;unfold cl;exact So.seq (yB _ hl (by simp only[listed,Nd.ag];omega)) fun _=>So.pure
  ·intro f hf hk
   cases hf with
   |mk hc he=>
    simp only[aQ,aC] at hk;unfold cl;exact So.seq (lstk [_,_] (ay (.e hc) (ay (.e he) aN)) (by simp only[aC];omega)) fun _=>So.pure
  ·intro _;unfold cl;simp only[kJ,Nd.kind,Nd.ag,Nd.name,Nd.n];simp only[cP];exact So.seq So.pure fun _=>So.pure
theorem zf (k:Nat):∀l,(∀d∈l,PT sp d)→4 * aC l≤k→So (fx k l)∧∀r b,fx k l=some (r,b)→rY r=rY l∧∀d∈r,d.kind≠15∨PQ sp d
 | [],_,_=>by unfold fx;exact⟨So.pure,fun r b e=>by cases e;exact⟨rfl,aN⟩⟩
 |d::l,hl,hk=>by
  rw[aC] at hk;obtain⟨h1,h2⟩:=zf k l (fun x hx=>hl x (by simp [hx])) (by omega);have skip:d.kind≠10→(d.kind≠15∨PQ sp d)→So (fx k (d::l))∧∀r b,fx k (d::l)=some (r,b)→rY r=rY (d::l)∧∀d∈r,d.kind≠15∨PQ sp d:=fun h10 hd=>by
   unfold fx;rw[if_neg h10];refine⟨So.seq h1 fun _=>So.pure,fun r b e=>?_⟩;rw[mH] at e
   cases h3:fx k l with
   |none=>rw[h3] at e;cases e
   |some q=>
    obtain⟨r',b'⟩:=q;rw[h3] at e;cases e;obtain⟨h4,h5⟩:=h2 r' b' h3;exact⟨by simp only[rY,h4],ay (P:=fun d=>d.kind≠15∨PQ sp d) hd h5⟩
  cases hl d (by simp) with
  |top g1 g2 g3 g4=>exact skip g4 (.inl g2)
  |eq h=>exact skip (by cases h;simp [bk,Nd.kind]) (.inr h)
  | @inst t c h l0 g1 g2 g3 g4=>
   simp only[aQ,aP,aC] at hk;unfold fx;rw[if_pos (show (bk 10 t [c,h,listed l0]).kind=10 from rfl)];refine⟨So.seq ((soE k).eqs l0 [] false (fun d hd=>.inr (g4 d hd)) (Nat.le_trans (tH l0) (by omega))) fun _=>So.dq (So.seq h1 fun _=>So.pure),fun r b e=>?_⟩;rw[mH] at e
   cases h3:fz k (sub (bk 10 t [c,h,listed l0]) 2).ag [] false with
   |none=>rw[h3] at e;cases e
   |some q=>
    obtain⟨x,b1⟩:=q;rw[h3] at e;simp only[mH,dq] at e
    cases h4:fx k l with
    |none=>rw[h4] at e;cases e
    |some q=>
     obtain⟨r',b'⟩:=q;rw[h4] at e;cases e;obtain⟨h5,h6⟩:=h2 r' b' h4;exact⟨by simp only[rY,h5];simp [bk,Nd.kind],ay (P:=fun d=>d.kind≠15∨PQ sp d) (.inl (by simp [bk,Nd.kind])) h6⟩
theorem Mz {n:Nd}(hn:WW sp n):∃k,So (lJ k n):=by
 cases hn with
 | @mk t e i l h1 h2 h3 h4=>
  refine⟨4 * aC l,?_⟩;obtain⟨h5,h6⟩:=zf (4 * aC l) l h4 (Nat.le_refl _);unfold lJ;exact So.bind h5 fun ds b hb=>So.seq ((soE _).eqs ds [] false (h6 ds b hb).2 (by rw[(h6 ds b hb).1];exact tH l)) fun _=>So.pure
theorem BS (hG:Gh sp){ts:List Tk}(ht:∀t∈ts,GT sp t):∃k j,gz k j ts≠.error (-1):=by
 obtain⟨h1,_⟩:=Fin.module (s:=⟨ts,0⟩) (k:=24 * ts.length+6) (Nat.le_refl _);refine⟨24 * ts.length+6,?_⟩;unfold gz
 cases h:dW (24 * ts.length+6) ⟨ts,0⟩ with
 |error e=>exact⟨0,fun h'=>by cases h';exact h1 h⟩
 |ok p=>
  obtain⟨n,s'⟩:=p;obtain⟨j,hj⟩:=Mz (At.module hG (k:=24 * ts.length+6) (s:=⟨ts,0⟩) ht n s' h).1;refine⟨j,?_⟩;simp only
  cases h2:lJ j n with
  |none=>exact absurd h2 hj
  |some q=>
   obtain⟨m,b⟩:=q;cases b<;>intro h'<;>cases h'
end
section
variable (res:List UInt8→Bool)
def kw (w:List UInt8):Tk:=⟨if res w then 7 else 8,w,0⟩
end
def agC {α:Type}(x:PM α)(s:PS)(a:α)(s':PS):Prop:=x s=.error (-1)∨x s=.error 32∨x s=.ok (a,s')
section
variable {α β:Type} {s s1 s2:PS} {a:α} {b:β} {res:List UInt8→Bool} {w:List UInt8} {r:List Tk} {d:Int}
end
section
variable {res:List UInt8→Bool} {s:PS} {w:List UInt8} {r:List Tk} {d:Int}
def XN (res:List UInt8→Bool)(r:List Tk):Prop:=∃r',r=kw res Dx::r'∨r=kw res Gj::r'
inductive Steps (res:List UInt8→Bool){β:Type}(one:β→PM β):β→List (List Tk)→β→Prop
 |nil {b}:Steps res one b [] b
 |cons {b b1 b2 t l}:(∀r d,XN res r→agC (one b) ⟨t++r,d⟩ b1 ⟨r,d⟩)→(∀r d,eM ⟨t++r,d⟩ [Dx]=false∧eM ⟨t++r,d⟩ [Gj]=false)→Steps res one b1 l b2→Steps res one b (t::l) b2
end
section
variable {res:List UInt8→Bool}
end
section
variable (res:List UInt8→Bool)
end
section
variable {res:List UInt8→Bool}
end
section
variable {res:List UInt8→Bool} {k:Nat}
end
section
variable (res:List UInt8→Bool) (kd:List UInt8→Int)
end
section
variable {res:List UInt8→Bool} {kd:List UInt8→Int} {sp:List UInt8→Int→Bool}
end
section
variable {res:List UInt8→Bool} {kd:List UInt8→Int} {sp:List UInt8→Int→Bool}
end
section
variable (sp:List UInt8→Int→Bool)
variable {sp}
end
section
variable {res:List UInt8→Bool} {kd:List UInt8→Int} {sp:List UInt8→Int→Bool}
end
section
variable {α β:Type}
end
section
variable {res:List UInt8→Bool} {kd:List UInt8→Int} {sp:List UInt8→Int→Bool}
end
section
variable {res:List UInt8→Bool} {kd:List UInt8→Int} {sp:List UInt8→Int→Bool}
end
section
variable {res:List UInt8→Bool} {kd:List UInt8→Int} {sp:List UInt8→Int→Bool}
end
section
variable (res:List UInt8→Bool) (kd:List UInt8→Int)
end
section
variable {res:List UInt8→Bool} {kd:List UInt8→Int} {sp:List UInt8→Int→Bool}
end
section
variable {res:List UInt8→Bool} {kd:List UInt8→Int} {sp:List UInt8→Int→Bool}
end
section
variable {res:List UInt8→Bool} {kd:List UInt8→Int} {sp:List UInt8→Int→Bool}
end
end Go.Proofs.YtdfccaonglmgpaaGreatDoor
