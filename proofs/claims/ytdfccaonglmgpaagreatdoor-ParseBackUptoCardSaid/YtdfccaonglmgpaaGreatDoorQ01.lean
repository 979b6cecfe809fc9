/- Q01 -/
import Derived.KernelRfl
set_option linter.all false
namespace Go.Proofs.YtdfccaonglmgpaaGreatDoor
abbrev ak:=@And.intro
abbrev aQ:=@Bool.and_eq_true
abbrev bt:=@List.length_append
abbrev bg:=@List.length_cons
abbrev bp:=@List.length_nil
abbrev bV:=@List.mem_of_getElem?
abbrev bf:=@List.map_cons
abbrev cC:=@List.append_assoc
abbrev cX:=@Nat.le_of_ble_eq_true
abbrev ck:=@List.cons_append
abbrev cx:=@decide_eq_true_eq
abbrev cD:=@List.nil_append
abbrev bX:=@List.map_nil
abbrev cB:=@List.append_nil
abbrev cZ:=@List.map_append
abbrev bQ:=@Nat.le_refl
abbrev iS:=@List.mem_cons
abbrev dQ:=@List.isEmpty_iff
abbrev dW:=@List.length_map
abbrev fP:=@Bool.and_assoc
abbrev ia:=@List.drop_eq_nil_of_le
abbrev kj:=@List.eq_nil_of_length_eq_zero
abbrev dN:=@Nat.zero_le
abbrev iV:=@Bool.true_and
abbrev zp:=@Decidable.not_not
abbrev fW:=@Bool.or_eq_true
abbrev gW:=@List.length_take
abbrev pP:=@Bool.or_false
abbrev jL:=@List.mem_cons_self
abbrev pj:=@Bool.false_or
abbrev lz:=@List.mem_cons_of_mem
abbrev jD:=@List.not_mem_nil
abbrev j4:=@of_decide_eq_true
abbrev It:=@List.all_eq_true
def V {p:Prop}(h:p:=by omega):p:=h
def ai {p:Prop}(h:p:=by decide):p:=h
def aw {p:Prop}(h:p:=by simp):p:=h
def eE {p:Prop}(h:p:=by kernel_rfl):p:=h
structure Tk where
 kind:Int
 text:List UInt8
 num:Int
 deriving DecidableEq
inductive X where
 |mk (kind:Int) (name:List UInt8) (n:Int) (ae:List X)
def X.kind:X→Int| .mk k _ _ _=>k
def X.name:X→List UInt8| .mk _ s _ _=>s
def X.n:X→Int| .mk _ _ n _=>n
def X.ae:X→List X| .mk _ _ _ l=>l
def cc:X:=.mk 0 [] 0 []
def ag (kind:Int)(name:List UInt8)(ae:List X):X:=.mk kind name 0 ae
def listed (l:List X):X:=.mk 1 [] 0 l
structure PS where
 r:List Tk
 deep:Int
def PM (α:Type):=PS→Except Int (α×PS)
def PM.pure {α:Type}(a:α):PM α:=fun s=>.ok (a,s)
def PM.bind {α β:Type}(x:PM α)(f:α→PM β):PM β:=fun s=>match x s with
 | .error e=>.error e
 | .ok (a,s')=>f a s'
instance:Monad PM where
 pure:=PM.pure
 bind:=PM.bind
def bad {α:Type}(e:Int):PM α:=fun _=>.error e
def out {α:Type}:PM α:=bad (-1)
def t0:Tk:=⟨0,[],0⟩
def bY:List UInt8:=[40]
def bB:List UInt8:=[41]
def eX:List UInt8:=[91]
def iI:List UInt8:=[93]
def cw:List UInt8:=[123]
def cd:List UInt8:=[125]
def bD:List UInt8:=[44]
def cn:List UInt8:=[59]
def my:List UInt8:=[96]
def eQ:List UInt8:=[61]
def mW:List UInt8:=[124]
def u1:List UInt8:=[92]
def dC:List UInt8:=[45,62]
def Di:List UInt8:=[60,45]
def w5:List UInt8:=[61,62]
def Oe:List UInt8:=[58,58]
def tG:List UInt8:=[64]
def lU:List UInt8:=[95]
def HW:List UInt8:=[109,111,100,117,108,101]
def gj:List UInt8:=[119,104,101,114,101]
def yi:List UInt8:=[105,109,112,111,114,116]
def Cg:List UInt8:=[100,97,116,97]
def DC:List UInt8:=[99,108,97,115,115]
def DH:List UInt8:=[105,110,115,116,97,110,99,101]
def yr:List UInt8:=[105,110,102,105,120,108]
def xJ:List UInt8:=[105,110,102,105,120,114]
def xL:List UInt8:=[105,110,102,105,120]
def qa:List UInt8:=[108,101,116]
def yD:List UInt8:=[105,110]
def uV:List UInt8:=[105,102]
def zK:List UInt8:=[116,104,101,110]
def BP:List UInt8:=[101,108,115,101]
def ua:List UInt8:=[99,97,115,101]
def AM:List UInt8:=[111,102]
def uh:List UInt8:=[100,111]
def ji:List UInt8:=[40,41]
def gY:List UInt8:=[40,44,41]
def gM:List UInt8:=[40,44,44,41]
def lD:List UInt8:=[91,93]
def Fu:Nat→List UInt8
 |0=>ji
 |1=>[]
 |2=>gY
 |_=>gM
def fa (s:PS)(k:Nat):Tk:=s.r.getD k t0
def bk (s:PS)(ws:List (List UInt8)):Bool:=decide ((fa s 0).kind=7∨(fa s 0).kind=8)&&ws.contains (fa s 0).text
def dH (s:PS)(ks:List Int):Bool:=ks.contains (fa s 0).kind
def lM (s:PS)(w:List UInt8):Bool:=bk s [w]&&decide ((fa s 0).num=0)
def jz (s:PS):Bool:=dH s [3,4]||bk s [my]
def lZ (s:PS):Bool:=dH s [2,1]||bk s [bY,eX]
def ga (s:PS):Bool:=dH s [1,2,5,6]||bk s [lU,bY,eX]
def get:PM PS:=fun s=>.ok (s,s)
def gC:PM Tk:=fun s=>match s.r with
 | []=>.error (-1)
 |t::r=>.ok (t,⟨r,s.deep⟩)
def jr (k:Int):PM Tk:=fun s=>if s.r=[]∨dH s [k]=false then .error 30 else gC s
def cA (w:List UInt8):PM Tk:=fun s=>
 if s.r=[]∨bk s [w]=false then .error 30
 else if w=bY∨w=eX∨w=cw then (if s.deep≥64 then .error 32 else gC ⟨s.r,s.deep+1⟩)
 else if w=bB∨w=iI∨w=cd then gC ⟨s.r,s.deep - 1⟩
 else gC s
def dG (w:List UInt8):PM Bool:=fun s=>if bk s [w]=true then (do let _←cA w;pure true:PM Bool) s else .ok (false,s)
def lP (one:PM X):Nat→PM (List X)
 |0=>out
 |k+1=>do
  if←dG bD then
   let a←one
   let l←lP one k
   pure (a::l)
  else pure []
def lX (one:PM X)(k:Nat):PM (List X):=do
 let a←one
 let l←lP one k
 pure (a::l)
def oZ:Nat→PM Unit
 |0=>out
 |k+1=>do if←dG cn then oZ k else pure ()
def ml {β:Type}(n:Int)(b:β):PM β:=do
 if (fa (←get) 0).num≠n then bad 30
 else do
  let _←cA cd
  pure b
def kO {β:Type}(one:β→PM β)(n:Int):Nat→β→PM β
 |0,_=>out
 |k+1,b=>do
  oZ k
  if bk (←get) [cd] then ml n b
  else do
   let b'←one b
   if bk (←get) [cn] then kO one n k b' else ml n b'
def px {β:Type}(one:β→PM β)(k:Nat)(b:β):PM β:=do
 let o←cA cw
 kO one o.num k b
def snoc (one:PM X)(l:List X):PM (List X):=do
 let a←one
 pure (l++[a])
def gJ (one:PM X)(k:Nat):PM (List X):=px (snoc one) k []
def uK (word sign:Int):PM (List UInt8):=do
 if bk (←get) [bY] then
  let _←cA bY
  let t←jr sign
  let _←cA bB
  pure t.text
 else
  let t←jr word
  pure t.text
def wa:PM (List UInt8):=uK 1 3
def vP:PM X:=do
 if dH (←get) [2] then
  let t←gC
  pure (ag 4 t.text [])
 else
  let t←wa
  pure (ag 4 t [])
def xo (k:Nat):PM X:=do
 if bk (←get) [bY] then
  let _←cA bY
  let l←(do if bk (←get) [bB] then pure [] else lX vP k:PM (List X))
  let _←cA bB
  pure (listed l)
 else pure cc
def nk:PM X:=do
 let v←jr 1
 pure (ag 52 v.text [])
def qO:Nat→PM (List X)
 |0=>out
 |k+1=>do
  if dH (←get) [1] then
   let a←nk
   let l←qO k
   pure (a::l)
  else pure []
def mw (name:List UInt8)(args:List X):X:=args.foldl (fun n a=>ag 54 [] [n,a]) (ag 53 name [])
def pB:PM (List UInt8):=do
 if←dG bD then
  if←dG bD then pure gM else pure gY
 else pure []
def rj:PM X:=do
 if←dG my then
  if dH (←get) [1,2] then
   let u←gC
   let _←cA my
   pure (.mk 24 u.text (if u.kind=2∨u.kind=4 then 1 else 0) [])
  else bad 30
 else
  if dH (←get) [3,4] then
   let u←gC
   pure (.mk 24 u.text (if u.kind=2∨u.kind=4 then 1 else 0) [])
  else bad 30
def tN:PM Unit:=do
 if lM (←get) cd then
  let _←cA cd
  pure ()
 else bad 30
mutual
def qg:Nat→PM X
 |0=>out
 |k+1=>do
  let n←om k
  let n←qU k n
  if bk (←get) [dC] then
   let _←gC
   let r←qg k
   pure (ag 54 [] [ag 54 [] [ag 53 dC [],n],r])
  else pure n
def qU:Nat→X→PM X
 |0,_=>out
 |k+1,n=>do
  if lZ (←get) then
   let a←om k
   qU k (ag 54 [] [n,a])
  else pure n
def qd:Nat→Nat→PM (List X)
 |0,_=>out
 |_+1,0=>pure []
 |k+1,m+1=>do
  if←dG bD then
   let a←qg k
   let l←qd k m
   pure (a::l)
  else pure []
def om:Nat→PM X
 |0=>out
 |k+1=>do
  if dH (←get) [2] then
   let t←gC
   pure (ag 53 t.text [])
  else if dH (←get) [1] then nk
  else if←dG eX then
   let l←(do if bk (←get) [iI] then pure [] else (do let a←qg k;pure [a]):PM (List X))
   let _←cA iI
   pure (mw lD l)
  else
   let _←cA bY
   let (name,l)←(do
     if←dG dC then pure (dC,[])
     else if bk (←get) [bD] then
       let n←pB
       pure (n,[])
     else if bk (←get) [bB] then pure (ji,[])
     else
       let a←qg k
       let l←qd k 2
       pure (Fu (l.length+1),a::l):PM (List UInt8×List X))
   let _←cA bB
   match l with
   | [a]=>pure a
   |l=>pure (mw name l)
end
def qJ (k:Nat)(kind:Int):PM X:=do
 let t←wa
 let _←cA Oe
 let ty←qg k
 pure (ag kind t [ty])
def th:Nat→PM (List X)
 |0=>out
 |k+1=>do
  if lZ (←get) then
   let a←om k
   let l←th k
   pure (a::l)
  else pure []
def y9 (k:Nat):PM X:=do
 let t←uK 2 4
 if lM (←get) cw then
  let _←cA cw
  let l←lX (qJ k 7) k
  tN
  pure (ag 6 t [listed l])
 else
  let l←th k
  pure (ag 6 t [listed l])
def sU:Nat→List UInt8→PM (List X)
 |0,_=>out
 |k+1,sep=>do
  if←dG sep then
   let c←y9 k
   let l←sU k mW
   pure (c::l)
  else pure []
def Aq (k:Nat):PM X:=do
 let _←gC
 let name←jr 2
 let vars←qO k
 let cons←sU k eQ
 pure (ag 5 name.text [listed vars,listed cons])
def AV (k:Nat):PM X:=do
 let _←gC
 let name←jr 2
 let v←nk
 if←dG gj then
  let l←gJ (qJ k 9) k
  pure (ag 8 name.text [v,listed l])
 else pure (ag 8 name.text [v,listed []])
def vm:PM X:=do
 let t←jr 2
 let v←nk
 pure (ag 11 t.text [v])
def xK (k:Nat):PM X:=do
 if dH (←get) [2] then
  let t←gC
  pure (ag 53 t.text [])
 else if←dG eX then
  let l←(do if dH (←get) [1] then (do let a←nk;pure [a]) else pure []:PM (List X))
  let _←cA iI
  pure (mw lD l)
 else
  let _←cA bY
  if dH (←get) [2] then
   let t←gC
   let l←qO k
   let _←cA bB
   pure (mw t.text l)
  else if dH (←get) [1] then
   let a←nk
   if←dG dC then
    let b←nk
    let _←cA bB
    pure (ag 54 [] [ag 54 [] [ag 53 dC [],a],b])
   else
    let _←cA bD
    let b←nk
    if←dG bD then
     let c←nk
     let _←cA bB
     pure (mw gM [a,b,c])
    else
     let _←cA bB
     pure (mw gY [a,b])
  else if←dG dC then
   let _←cA bB
   pure (mw dC [])
  else if bk (←get) [bD] then
   let n←pB
   let _←cA bB
   pure (mw n [])
  else
   let _←cA bB
   pure (mw ji [])
def kM:List X→X
 | []=>cc
 | [a]=>a
 |l=>ag 23 [] l
def fg:List X→X
 | []=>cc
 |a::l=>l.foldl (fun n x=>ag 22 [] [n,x]) a
mutual
def pd:Nat→PM X
 |0=>out
 |k+1=>do
  let l←iM k
  let r←qo k eQ
  pure (ag 15 [] [l,r])
def tL:Nat→List UInt8→PM (List X)
 |0,_=>out
 |k+1,sep=>do
  if bk (←get) [mW] then
   let _←gC
   let c←iM k
   let _←cA sep
   let e←iM k
   let l←tL k sep
   pure (ag 17 [] [c,e]::l)
  else pure []
def qo:Nat→List UInt8→PM X
 |0,_=>out
 |k+1,sep=>do
  let gs←(do
    if bk (←get) [mW] then tL k sep
    else
      let _←cA sep
      let e←iM k
      pure [ag 17 [] [cc,e]]:PM (List X))
  if←dG gj then
   let l←gJ (pd k) k
   pure (ag 16 [] [listed gs,listed l])
  else pure (ag 16 [] [listed gs,listed []])
def iM:Nat→PM X
 |0=>out
 |k+1=>do
  let a←py k
  let l←s9 k
  pure (kM (a::l))
def s9:Nat→PM (List X)
 |0=>out
 |k+1=>do
  if jz (←get) then
   let o←rj
   let b←py k
   let l←s9 k
   pure (o::b::l)
  else pure []
def py:Nat→PM X
 |0=>out
 |k+1=>do
  if←dG u1 then
   let l←pM k
   let _←cA dC
   let e←iM k
   pure (ag 25 [] [listed l,e])
  else if←dG qa then
   let l←gJ (pd k) k
   let _←cA yD
   let e←iM k
   pure (ag 26 [] [listed l,e])
  else if←dG uV then
   let a←iM k
   let _←cA zK
   let b←iM k
   let _←cA BP
   let c←iM k
   pure (ag 27 [] [a,b,c])
  else if←dG ua then
   let a←iM k
   let _←cA AM
   let l←gJ (vq k) k
   pure (ag 28 [] (a::l))
  else if←dG uh then
   let l←gJ (uW k) k
   pure (ag 30 [] l)
  else
   let l←pM k
   pure (fg l)
def vq:Nat→PM X
 |0=>out
 |k+1=>do
  let l←iM k
  let r←qo k dC
  pure (ag 29 [] [l,r])
def pT:Nat→X→PM X
 |0,_=>out
 |k+1,n=>do
  if←dG Di then
   let e←iM k
   pure (ag 40 [] [n,e])
  else pure n
def uW:Nat→PM X
 |0=>out
 |k+1=>do
  if←dG qa then
   let l←gJ (pd k) k
   if←dG yD then
    let e←iM k
    pT k (ag 26 [] [listed l,e])
   else pure (ag 41 [] [listed l])
  else
   let n←iM k
   pT k n
def pM:Nat→PM (List X)
 |0=>out
 |k+1=>do
  let a←rh k
  let l←rz k
  pure (a::l)
def rz:Nat→PM (List X)
 |0=>out
 |k+1=>do
  if ga (←get) then
   let a←rh k
   let l←rz k
   pure (a::l)
  else pure []
def s_:Nat→PM X
 |0=>out
 |k+1=>do
  let t←wa
  let _←cA eQ
  let e←iM k
  pure (ag 37 t [e])
def rh:Nat→PM X
 |0=>out
 |k+1=>do
  let n←oq k
  oS k n
def oS:Nat→X→PM X
 |0,_=>out
 |k+1,n=>do
  if lM (←get) cw then
   let _←cA cw
   let l←(do if n.kind=19∧lM (←get) cd=true then pure [] else lX (s_ k) k:PM (List X))
   tN
   oS k (if n.kind=19 then ag 35 n.name l else ag 36 [] (n::l))
  else pure n
def oq:Nat→PM X
 |0=>out
 |k+1=>do
  if dH (←get) [1] then
   let t←gC
   if←dG tG then
    let a←rh k
    pure (ag 39 t.text [a])
   else pure (ag 18 t.text [])
  else if dH (←get) [2] then
   let t←gC
   pure (ag 19 t.text [])
  else if dH (←get) [5] then
   let t←gC
   pure (.mk 20 [] t.num [])
  else if dH (←get) [6] then
   let t←gC
   pure (ag 21 t.text [])
  else if←dG lU then pure (ag 38 [] [])
  else if←dG eX then
   let l←(do if bk (←get) [iI] then pure [] else lX (iM k) k:PM (List X))
   let _←cA iI
   pure (ag 32 [] l)
  else
   let _←cA bY
   let n←tY k
   let _←cA bB
   pure n
def o0:Nat→Nat→PM (List X)
 |0,_=>out
 |_+1,0=>pure []
 |k+1,m+1=>do
  if←dG bD then
   let a←iM k
   let l←o0 k m
   pure (a::l)
  else pure []
def tY:Nat→PM X
 |0=>out
 |k+1=>do
  if bk (←get) [bB] then pure (ag 19 ji [])
  else if bk (←get) [bD] then
   let n←pB
   pure (ag 19 n [])
  else if jz (←get) then
   let sign:=!bk (←get) [my]
   let o←rj
   if sign=true∧bk (←get) [bB]=true then pure (ag (if o.n=1 then 19 else 18) o.name [])
   else
    let e←iM k
    pure (ag 34 [] [o,e])
  else
   let a←py k
   qX k [a]
def qX:Nat→List X→PM X
 |0,_=>out
 |k+1,l=>do
  if jz (←get) then
   let o←rj
   if bk (←get) [bB] then pure (ag 33 [] [kM l,o])
   else
    let b←py k
    qX k (l++[o,b])
  else
   let m←o0 k 2
   match m with
   | []=>pure (kM l)
   |m=>pure (ag 31 [] (kM l::m))
end
def AN (k:Nat):PM X:=do
 let _←gC
 let context←(do
   if←dG bY then
     let l←(do if bk (←get) [bB] then pure [] else lX vm k:PM (List X))
     let _←cA bB
     let _←cA w5
     pure l
   else if dH (←get) [2]&&decide ((fa (←get) 1).kind=1) then
     let p←vm
     let _←cA w5
     pure [p]
   else pure []:PM (List X))
 let name←jr 2
 let h←xK k
 if←dG gj then
  let l←gJ (pd k) k
  pure (ag 10 name.text [listed context,h,listed l])
 else pure (ag 10 name.text [listed context,h,listed []])
def fixF (k:Nat):PM X:=do
 let t←gC
 if dH (←get) [5]&&decide ((fa (←get) 0).num<0∨(fa (←get) 0).num>9) then bad 30
 else do
  let n←jr 5
  let l←lX rj k
  pure (.mk 12 t.text n.num [listed l])
def yw (k:Nat):PM X:=do
 if bk (←get) [Cg] then Aq k
 else if bk (←get) [DC] then AV k
 else if bk (←get) [DH] then AN k
 else if bk (←get) [yr,xJ,xL] then fixF k
 else pd k
def mV (k:Nat)(b:List X×List X):PM (List X×List X):=do
 if b.2.isEmpty&&bk (←get) [yi] then
  let _←gC
  let m←jr 2
  let i←xo k
  pure (b.1++[ag 3 m.text [i]],b.2)
 else
  let d←yw k
  pure (b.1,b.2++[d])
def qv (k:Nat):PM X:=do
 let _←cA HW
 let name←jr 2
 let exports←xo k
 let _←cA gj
 let b←px (mV k) k ([],[])
 let _←jr 9
 pure (ag 2 name.text [exports,listed b.1,listed b.2])
def FM (α:Type):=Option (α×Bool)
def FM.pure {α:Type}(a:α):FM α:=some (a,false)
def FM.bind {α β:Type}(x:FM α)(f:α→FM β):FM β:=match x with
 |none=>none
 |some (a,b)=>match f a with
  |none=>none
  |some (c,d)=>some (c,b||d)
instance:Monad FM where
 pure:=FM.pure
 bind:=FM.bind
def fw (b:Bool):FM Unit:=some ((),b)
def lj {α:Type}:FM α:=none
def j0:Int→Option Int
 |18=>some 42
 |38=>some 43
 |20=>some 44
 |21=>some 45
 |39=>some 50
 |31=>some 48
 |32=>some 49
 |19=>some 46
 |35=>some 51
 |23=>some 47
 |_=>none
mutual
def gu:Nat→X→FM X
 |0,_=>lj
 |k+1,n=>
  if n.kind=24 then (do fw (decide (n.n=0));pure n)
  else if n.kind=37 then match n.ae with
   |a::_=>(do
     let p←gu k a
     pure (ag 37 n.name [p]))
   |_=>lj
  else if n.kind=22 then (do
    let (args,h)←rD k n []
    fw (decide (h.kind≠19))
    pure (ag 46 h.name args))
  else match j0 n.kind with
   |none=>(do fw true;pure cc)
   |some kk=>(do
     let l←fq k n.ae
     pure (.mk kk n.name n.n l))
def rD:Nat→X→List X→FM (List X×X)
 |0,_,_=>lj
 |k+1,h,args=>
  if h.kind=22 then match h.ae with
   |f::x::_=>(do
     let p←gu k x
     rD k f (p::args))
   |_=>lj
  else pure (args,h)
def fq:Nat→List X→FM (List X)
 |_,[]=>pure []
 |0,_=>lj
 |k+1,a::l=>do
  let p←gu k a
  let r←fq k l
  pure (p::r)
end
def mL:Nat→Nat→List X→Nat×Bool
 |aj,_,[]=>(aj,false)
 |aj,i,o::l=>
  if o.kind≠24∨o.n=1 then mL aj (i+1) l
  else if aj>0 then ((mL aj (i+1) l).1,true)
  else mL i (i+1) l
def mF:Nat→X→List X→Option (X×List X)
 |0,_,_=>none
 |k+1,n,args=>
  if n.kind=22 then match n.ae with
   |f::x::_=>mF k f (x::args)
   |_=>none
  else some (n,args)
def rR (k:Nat)(n:X):FM (Option (List UInt8×List X)):=
 if n.kind=23 then
  let a:=mL 0 0 n.ae
  (do
    fw a.2
    if a.1=0 then pure none
    else do
      let ps←fq k [kM (n.ae.take a.1),kM (n.ae.drop (a.1+1))]
      pure (some ((n.ae.getD a.1 cc).name,ps)))
 else match mF k n [] with
  |none=>lj
  |some (h,args)=>
   if h.kind≠18 then pure none
   else do
    let ps←fq k args
    pure (some (h.name,ps))
def mi (n:X):Bool:=decide (n.kind=40∨n.kind=41)
def sub (n:X)(i:Nat):X:=n.ae.getD i cc
def CG (out:List X)(c:X):List X:=match out.getLast? with
 |none=>out
 |some d=>out.dropLast++[.mk d.kind d.name d.n (d.ae++[c])]
def arity (d:X):Nat:=(sub (sub d 0) 0).ae.length
mutual
def dF:Nat→List X→List X→Bool→FM (List X)
 |_,[],out,_=>pure out
 |0,_,_,_=>lj
 |k+1,d::l,out,on=>
  if d.kind≠15 then dF k l (out++[d]) false
  else match d.ae with
   | [e,r0]=>(do
     let r←oM k r0
     match←rR k e with
     |none=>(do
       let p←gu k e
       dF k l (out++[ag 15 [] [p,r]]) false)
     |some (name,ps)=>
       let c:=ag 14 [] [listed ps,r]
       let d0:=out.getLastD cc
       if on=true∧ps≠[]∧d0.name=name then (do
         fw (decide (arity d0≠ps.length))
         dF k l (CG out c) true)
       else dF k l (out++[ag 13 name [c]]) (decide (ps≠[])))
   |_=>lj
def oM:Nat→X→FM X
 |0,_=>lj
 |k+1,n=>match n.ae with
  | [a,b]=>(do
    let x←dD k a.ae
    let y←dF k b.ae [] false
    pure (.mk n.kind n.name n.n [listed x,listed y]))
  |_=>lj
def dD:Nat→List X→FM (List X)
 |_,[]=>pure []
 |0,_=>lj
 |k+1,a::l=>do
  let x←dP k a
  let r←dD k l
  pure (x::r)
def dP:Nat→X→FM X
 |0,_=>lj
 |k+1,n=>
  if n.kind=38∨n.kind=39 then (do fw true;pure n)
  else if n.kind=30 then (do
    fw (decide (n.ae=[]∨mi (n.ae.getLastD cc)=true))
    let l←dD k n.ae
    pure (.mk n.kind n.name n.n l))
  else if n.kind=25 then match n.ae with
   | [a,e]=>(do
     let ps←fq k a.ae
     let x←dP k e
     pure (.mk n.kind n.name n.n [listed ps,x]))
   |_=>lj
  else if n.kind=26 then match n.ae with
   | [a,e]=>(do
     let l←dF k a.ae [] false
     let x←dP k e
     pure (.mk n.kind n.name n.n [listed l,x]))
   |_=>lj
  else if n.kind=41 then match n.ae with
   | [a]=>(do
     let l←dF k a.ae [] false
     pure (.mk n.kind n.name n.n [listed l]))
   |_=>lj
  else if n.kind=29 then match n.ae with
   | [a,r]=>(do
     let p←gu k a
     let x←oM k r
     pure (.mk n.kind n.name n.n [p,x]))
   |_=>lj
  else if n.kind=40 then match n.ae with
   | [a,e]=>(do
     let p←gu k a
     let x←dP k e
     pure (.mk n.kind n.name n.n [p,x]))
   |_=>lj
  else (do
    let l←dD k n.ae
    pure (.mk n.kind n.name n.n l))
end
def rq:List X→Bool
 | []=>false
 |d::l=>decide (d.kind=15)||rq l
def ja (k:Nat):List X→FM (List X)
 | []=>pure []
 |d::l=>
  if d.kind=10 then (do
    let x←dF k (sub d 2).ae [] false
    fw (rq x)
    let r←ja k l
    pure (.mk d.kind d.name d.n [sub d 0,sub d 1,listed x]::r))
  else (do
    let r←ja k l
    pure (d::r))
def vB (k:Nat)(n:X):FM X:=do
 let ds←ja k (sub n 2).ae
 let l←dF k ds [] false
 pure (.mk n.kind n.name n.n [sub n 0,sub n 1,listed l])
def oE (k j:Nat)(ts:List Tk):Except Int X:=match qv k ⟨ts,0⟩ with
 | .error e=>.error e
 | .ok (n,_)=>match vB j n with
  |none=>.error (-1)
  |some (m,b)=>if b=true then .error 31 else .ok m
section
variable (sp:List UInt8→Int→Bool)
def isVar (s:List UInt8):Bool:=sp s 1||sp s 3
def qj (s:List UInt8):Bool:=sp s 1
def gg (s:List UInt8):Bool:=sp s 2
def se (s:List UInt8):Bool:=sp s 2||sp s 4
def kX (s:List UInt8):Bool:=se sp s||[ji,gY,gM].contains s
def qQ (s:List UInt8):Bool:=gg sp s||[ji,gY,gM,lD,dC].contains s
def eK (o:X):Bool:=decide (o.kind=24)&&o.ae.isEmpty&&(decide (o.n=1)&&se sp o.name||decide (o.n=0)&&isVar sp o.name)
def j6 (o:X):Bool:=decide (o.n=1)&&eK sp o
def ox (n:X):Bool:=decide (n.kind=0)&&decide (n.n=0)&&n.name.isEmpty&&n.ae.isEmpty
def jc (n:X):Bool:=decide (n.kind=52)&&decide (n.n=0)&&qj sp n.name&&n.ae.isEmpty
def ff:X→Bool
 | .mk k s n l=>decide (n=0)&&
  (if k=52 then qj sp s&&l.isEmpty
  else if k=53 then qQ sp s&&l.isEmpty
  else decide (k=54)&&s.isEmpty&&(match l with
    | [a,b]=>ff a&&ff b
    |_=>false))
def kE (s:List UInt8):Option Nat:=
 if s=ji then some 0 else if s=lD then some 1 else if s=gY then some 2 else if s=dC then some 2 else if s=gM then some 3 else none
def gQ:X→Nat→Bool
 | .mk k s n l,j=>
  if k=54 then decide (n=0)&&s.isEmpty&&(match l with
    | [a,b]=>jc sp b&&gQ a (j+1)
    |_=>false)
  else decide (k=53)&&ff sp (.mk k s n l)&&(match kE s with
    |none=>true
    |some f=>decide (j=0∨j=f))
mutual
def cK:X→Bool
 | .mk k s n l=>
  if k=44 then s.isEmpty&&decide (n≥0)&&l.isEmpty
  else decide (n=0)&&(
    if k=42 then isVar sp s&&l.isEmpty
    else if k=43 then s.isEmpty&&l.isEmpty
    else if k=45 then l.isEmpty
    else if k=46 then kX sp s&&nM l
    else if k=47 then s.isEmpty&&decide (l.length>2)&&mA l
    else if k=48 then s.isEmpty&&nM l&&decide (l.length=2∨l.length=3)
    else if k=49 then s.isEmpty&&nM l
    else if k=50 then qj sp s&&t_ l
    else if k=51 then kX sp s&&vE l
    else false)
def nM:List X→Bool
 | []=>true
 |a::l=>cK a&&nM l
def t_:List X→Bool
 | []=>false
 |a::l=>cK a&&l.isEmpty
def mA:List X→Bool
 | []=>false
 |a::l=>cK a&&nO l
def nO:List X→Bool
 | []=>true
 |o::l=>j6 sp o&&mA l
def vE:List X→Bool
 | []=>true
 |f::l=>r6 f&&vE l
def r6:X→Bool
 | .mk k s n l=>decide (k=37)&&decide (n=0)&&isVar sp s&&t_ l
end
def fX:List UInt8→List X→Bool
 |_,[]=>true
 |s,d::l=>
  if d.kind≠13∨arity d=0 then fX [] l
  else decide (d.name≠s)&&fX d.name l
def E0 (j:Nat)(l:List X):Bool:=l.all fun c=>decide ((sub c 0).ae.length=j)
mutual
def bu:X→Bool
 | .mk k s n l=>
  if k=20 then s.isEmpty&&decide (n≥0)&&l.isEmpty
  else decide (n=0)&&(
    if k=18 then isVar sp s&&l.isEmpty
    else if k=19 then kX sp s&&l.isEmpty
    else if k=21 then l.isEmpty
    else if k=22 then s.isEmpty&&decide (l.length=2)&&nQ l
    else if k=23 then s.isEmpty&&decide (l.length>2)&&nB l
    else if k=25 then s.isEmpty&&zF l
    else if k=26 then s.isEmpty&&Bf l
    else if k=27 then s.isEmpty&&decide (l.length=3)&&nQ l
    else if k=28 then s.isEmpty&&zP l
    else if k=30 then s.isEmpty&&ux l&&decide (l≠[])&&!mi (l.getLastD cc)
    else if k=31 then s.isEmpty&&nQ l&&decide (l.length=2∨l.length=3)
    else if k=32 then s.isEmpty&&nQ l
    else if k=33 then s.isEmpty&&sF l
    else if k=34 then s.isEmpty&&AT l
    else if k=35 then kX sp s&&tM l
    else if k=36 then s.isEmpty&&Ak l
    else false)
def nQ:List X→Bool
 | []=>true
 |a::l=>bu a&&nQ l
def oG:List X→Bool
 | []=>false
 |a::l=>bu a&&l.isEmpty
def nB:List X→Bool
 | []=>false
 |a::l=>bu a&&pt l
def pt:List X→Bool
 | []=>true
 |o::l=>eK sp o&&nB l
def sF:List X→Bool
 | []=>false
 |a::l=>bu a&&(match l with
   | [o]=>eK sp o
   |_=>false)
def AT:List X→Bool
 | []=>false
 |o::l=>eK sp o&&oG l
def zF:List X→Bool
 | []=>false
 |a::l=>decide (a.kind=1)&&decide (a.n=0)&&a.name.isEmpty&&decide (a.ae≠[])&&nM sp a.ae&&oG l
def Bf:List X→Bool
 | []=>false
 |a::l=>j7 a&&oG l
def zP:List X→Bool
 | []=>false
 |a::l=>bu a&&uY l
def uY:List X→Bool
 | []=>true
 |a::l=>qu a&&uY l
def qu:X→Bool
 | .mk k s n l=>decide (k=29)&&decide (n=0)&&s.isEmpty&&rX l
def rX:List X→Bool
 | []=>false
 |a::l=>cK sp a&&tV l
def tV:List X→Bool
 | []=>false
 |a::l=>fD a&&l.isEmpty
def ux:List X→Bool
 | []=>true
 |a::l=>oX a&&ux l
def oX:X→Bool
 | .mk k s n l=>
  if k=40 then decide (n=0)&&s.isEmpty&&BF l
  else if k=41 then decide (n=0)&&s.isEmpty&&sZ l
  else bu (.mk k s n l)
def BF:List X→Bool
 | []=>false
 |a::l=>cK sp a&&oG l
def tM:List X→Bool
 | []=>true
 |f::l=>qS f&&tM l
def qS:X→Bool
 | .mk k s n l=>decide (k=37)&&decide (n=0)&&isVar sp s&&oG l
def Ak:List X→Bool
 | []=>false
 |a::l=>decide (a.kind≠19)&&bu a&&decide (l≠[])&&tM l
def fD:X→Bool
 | .mk k s n l=>decide (k=16)&&decide (n=0)&&s.isEmpty&&y6 l
def y6:List X→Bool
 | []=>false
 |g::l=>Cv g&&sZ l
def Cv:X→Bool
 | .mk k s n l=>decide (k=1)&&decide (n=0)&&s.isEmpty&&decide (l≠[])&&(ra l||decide (l.length=1)&&tj l)
def ra:List X→Bool
 | []=>true
 |a::l=>zY a&&ra l
def zY:X→Bool
 | .mk k s n l=>decide (k=17)&&decide (n=0)&&s.isEmpty&&decide (l.length=2)&&nQ l
def tj:List X→Bool
 | []=>true
 |a::l=>B1 a&&tj l
def B1:X→Bool
 | .mk k s n l=>decide (k=17)&&decide (n=0)&&s.isEmpty&&yZ l
def yZ:List X→Bool
 | []=>false
 |a::l=>ox a&&oG l
def sZ:List X→Bool
 | []=>false
 |a::l=>j7 a&&l.isEmpty
def j7:X→Bool
 | .mk k s n l=>decide (k=1)&&decide (n=0)&&s.isEmpty&&uQ l&&fX [] l
def uQ:List X→Bool
 | []=>true
 |a::l=>dT a&&uQ l
def dT:X→Bool
 | .mk k s n l=>
  if k=13 then decide (n=0)&&isVar sp s&&decide (l≠[])&&s6 l&&Cn (.mk k s n l)
  else decide (k=15)&&decide (n=0)&&s.isEmpty&&decide ((l.getD 0 cc).kind≠42)&&rX l
def s6:List X→Bool
 | []=>true
 |a::l=>BH a&&s6 l
def BH:X→Bool
 | .mk k s n l=>decide (k=14)&&decide (n=0)&&s.isEmpty&&zB l
def zB:List X→Bool
 | []=>false
 |a::l=>decide (a.kind=1)&&decide (a.n=0)&&a.name.isEmpty&&nM sp a.ae&&tV l
def Cn:X→Bool
 | .mk k s n l=>decide (arity (.mk k s n l)>0∨l.length=1)&&E0 (arity (.mk k s n l)) l
end
def iY (lo:Nat)(f:X→Bool)(n:X):Bool:=decide (n.kind=1)&&decide (n.n=0)&&n.name.isEmpty&&decide (lo≤n.ae.length)&&n.ae.all f
def yL (n:X):Bool:=decide (n.kind=4)&&decide (n.n=0)&&(isVar sp n.name||gg sp n.name)&&n.ae.isEmpty
def pY (n:X):Bool:=ox n||iY 0 (yL sp) n
def lp (k:Int)(n:X):Bool:=decide (n.kind=k)&&decide (n.n=0)&&isVar sp n.name&&(match n.ae with
  | [a]=>ff sp a
  |_=>false)
def rf (n:X):Bool:=decide (n.kind=6)&&decide (n.n=0)&&se sp n.name&&(match n.ae with
  | [a]=>iY 0 (ff sp) a||iY 1 (lp sp 7) a
  |_=>false)
def q7 (n:X):Bool:=decide (n.kind=11)&&decide (n.n=0)&&gg sp n.name&&(match n.ae with
  | [a]=>jc sp a
  |_=>false)
def uR (n:X):Bool:=decide (n.kind=13)&&dT sp n
def fE (n:X):Bool:=
 if n.kind=5 then gg sp n.name&&decide (n.n=0)&&(match n.ae with
   | [a,b]=>iY 0 (jc sp) a&&iY 0 (rf sp) b
   |_=>false)
 else if n.kind=8 then gg sp n.name&&decide (n.n=0)&&(match n.ae with
   | [a,b]=>jc sp a&&iY 0 (lp sp 9) b
   |_=>false)
 else if n.kind=10 then gg sp n.name&&decide (n.n=0)&&(match n.ae with
   | [a,b,c]=>iY 0 (q7 sp) a&&gQ sp b 0&&iY 0 (uR sp) c&&fX [] c.ae
   |_=>false)
 else if n.kind=12 then [yr,xJ,xL].contains n.name&&decide (n.n≥0∧n.n<10)&&(match n.ae with
   | [a]=>iY 1 (eK sp) a
   |_=>false)
 else dT sp n
def oB (n:X):Bool:=decide (n.kind=3)&&decide (n.n=0)&&gg sp n.name&&(match n.ae with
  | [a]=>pY sp a
  |_=>false)
def qD (n:X):Bool:=decide (n.kind=2)&&decide (n.n=0)&&gg sp n.name&&(match n.ae with
  | [a,b,c]=>pY sp a&&iY 0 (oB sp) b&&iY 0 (fE sp) c&&fX [] c.ae
  |_=>false)
end
def GT (sp:List UInt8→Int→Bool)(t:Tk):Prop:=(1≤t.kind∧t.kind≤4→sp t.text t.kind=true)∧(t.kind=5→0≤t.num)
section
variable {sp:List UInt8→Int→Bool} {α β:Type} {s:PS} {Φ Ψ:α→Prop}
def bind_eq (x:PM α)(f:α→PM β)(s:PS):(x >>= f) s=match x s with
 | .error e=>.error e
 | .ok (a,s')=>f a s':=rfl
end
section
variable (sp:List UInt8→Int→Bool)
mutual
inductive PE:X→Prop
 |var {s}:isVar sp s=true→PE (ag 18 s [])
 |con {s}:kX sp s=true→PE (ag 19 s [])
 |int {n}:0≤n→PE (.mk 20 [] n [])
 |str {s}:PE (ag 21 s [])
 |app {a b}:PE a→PE b→PE (ag 22 [] [a,b])
 |ops {a l}:PE a→PO l→l≠[]→PE (ag 23 [] (a::l))
 |lam {l e}:l≠[]→(∀a∈l,PE a)→PE e→PE (ag 25 [] [listed l,e])
 |elet {l e}:(∀a∈l,PQ a)→PE e→PE (ag 26 [] [listed l,e])
 |eif {a b c}:PE a→PE b→PE c→PE (ag 27 [] [a,b,c])
 |ecase {a l}:PE a→(∀x∈l,PA x)→PE (ag 28 [] (a::l))
 |edo {l}:(∀x∈l,tZ x)→PE (ag 30 [] l)
 |tup {l}:(∀x∈l,PE x)→l.length=2∨l.length=3→PE (ag 31 [] l)
 |lst {l}:(∀x∈l,PE x)→PE (ag 32 [] l)
 |left {a o}:PE a→eK sp o=true→PE (ag 33 [] [a,o])
 |right {o e}:eK sp o=true→PE e→PE (ag 34 [] [o,e])
 |make {s l}:kX sp s=true→(∀x∈l,PF x)→PE (ag 35 s l)
 |put {a l}:a.kind≠19→PE a→l≠[]→(∀x∈l,PF x)→PE (ag 36 [] (a::l))
 |wild:PE (ag 38 [] [])
 |eas {s a}:qj sp s=true→PE a→PE (ag 39 s [a])
inductive PO:List X→Prop
 |nil:PO []
 |cons {o b l}:eK sp o=true→PE b→PO l→PO (o::b::l)
inductive PF:X→Prop
 |mk {s e}:isVar sp s=true→PE e→PF (ag 37 s [e])
inductive PA:X→Prop
 |mk {l r}:PE l→PR r→PA (ag 29 [] [l,r])
inductive tZ:X→Prop
 |exp {e}:PE e→tZ e
 |gen {a e}:PE a→PE e→tZ (ag 40 [] [a,e])
 |slet {l}:(∀a∈l,PQ a)→tZ (ag 41 [] [listed l])
inductive PR:X→Prop
 |plain {e l}:PE e→(∀a∈l,PQ a)→PR (ag 16 [] [listed [ag 17 [] [cc,e]],listed l])
 |guards {g l}:g≠[]→(∀a∈g,PG a)→(∀a∈l,PQ a)→PR (ag 16 [] [listed g,listed l])
inductive PG:X→Prop
 |mk {c e}:PE c→PE e→PG (ag 17 [] [c,e])
inductive PQ:X→Prop
 |mk {l r}:PE l→PR r→PQ (ag 15 [] [l,r])
end
end
section
variable {sp:List UInt8→Int→Bool} {s:PS} {w:List UInt8}
def aqr {lo:Nat}{f:X→Bool}{l:List X}(h:∀a∈l,f a=true)(hl:lo≤l.length):iY lo f (listed l)=true:=by
 simp [iY,listed,X.kind,X.n,X.name,X.ae,hl];exact h
end
section
variable {sp:List UInt8→Int→Bool} {s:PS} {w:List UInt8}
def UD {a:X}{l:List X}(ha:PE sp a)(hl:PO sp l):PE sp (kM (a::l)):=by
 cases l with
 |nil=>exact ha
 |cons o l=>exact .ops ha hl aw
def eF {P:X→Prop}{a:X}{l:List X}(ha:P a)(hl:∀x∈l,P x):∀x∈a::l,P x:=fun x hx=>by
 rcases List.mem_cons.1 hx with rfl|hx
 ·exact ha
 ·exact hl x hx
def fO {P:X→Prop}:∀x∈([]:List X),P x:=fun x hx=>by cases hx
end
section
variable {sp:List UInt8→Int→Bool} {s:PS} {w:List UInt8}
inductive PT (sp:List UInt8→Int→Bool):X→Prop
 |top {d}:fE sp d=true→d.kind≠15→d.kind≠13→d.kind≠10→PT sp d
 |inst {t c h l}:gg sp t=true→iY 0 (q7 sp) c=true→gQ sp h 0=true→(∀a∈l,PQ sp a)→PT sp (ag 10 t [c,h,listed l])
 |eq {d}:PQ sp d→PT sp d
inductive Cf (sp:List UInt8→Int→Bool):X→Prop
 |mk {t e i l}:gg sp t=true→pY sp e=true→(∀a∈i,oB sp a=true)→(∀a∈l,PT sp a)→Cf sp (ag 2 t [e,listed i,listed l])
end
def Ok {α:Type}(x:FM α)(Φ:α→Prop):Prop:=∀a,x=some (a,false)→Φ a
section
variable {α β:Type} {Φ Ψ:α→Prop}
def Ej (x:FM β)(f:β→FM α):(x >>= f)=match x with
 |none=>none
 |some (a,b)=>match f a with
  |none=>none
  |some (c,d)=>some (c,b||d):=rfl
end
section
variable {sp:List UInt8→Int→Bool}
def zH:∀{l:List X},nM sp l=true↔∀a∈l,cK sp a=true
 | []=>by simp [nM]
 |a::l=>by rw[nM,aQ,zH];simp
def T_:∀{l:List X},vE sp l=true↔∀a∈l,r6 sp a=true
 | []=>by simp [vE]
 |a::l=>by rw[vE,aQ,T_];simp
def z8 {o:X}(h:eK sp o=true):o.kind=24∧o.ae=[]∧(o.n=0∨o.n=1):=by
 simp only[eK,aQ,fW,cx,dQ] at h;exact⟨h.1.1,h.1.2,by rcases h.2 with h|h<;>omega⟩
def me (k:Nat):fq k []=pure []:=by cases k<;>rfl
end
section
variable {sp:List UInt8→Int→Bool}
def Be:∀{l:List X},nQ sp l=true↔∀a∈l,bu sp a=true
 | []=>by simp [nQ]
 |a::l=>by rw[nQ,aQ,Be];simp
def L9:∀{l:List X},tM sp l=true↔∀a∈l,qS sp a=true
 | []=>by simp [tM]
 |a::l=>by rw[tM,aQ,L9];simp
def TO:∀{l:List X},uY sp l=true↔∀a∈l,qu sp a=true
 | []=>by simp [uY]
 |a::l=>by rw[uY,aQ,TO];simp
def XX:∀{l:List X},ux sp l=true↔∀a∈l,oX sp a=true
 | []=>by simp [ux]
 |a::l=>by rw[ux,aQ,XX];simp
def R2:∀{l:List X},ra sp l=true↔∀a∈l,zY sp a=true
 | []=>by simp [ra]
 |a::l=>by rw[ra,aQ,R2];simp
def WN:∀{l:List X},uQ sp l=true↔∀a∈l,dT sp a=true
 | []=>by simp [uQ]
 |a::l=>by rw[uQ,aQ,WN];simp
def RY:∀{l:List X},s6 sp l=true↔∀a∈l,BH sp a=true
 | []=>by simp [s6]
 |a::l=>by rw[s6,aQ,RY];simp
def uG:List UInt8→List X→List UInt8
 |s,[]=>s
 |_,d::l=>if d.kind≠13∨arity d=0 then uG [] l else uG d.name l
def kZ (k:Nat):dD k []=pure []:=by cases k<;>rfl
def Gb:∀(l:List X) (i a:Nat),(mL a i l).1≠0→(mL a i l).1=a∨∃j o,l[j]?=some o∧(mL a i l).1=i+j∧o.kind=24∧o.n≠1
 | [],i,a,h=>.inl rfl
 |o::l,i,a,h=>by
  unfold mL at h ⊢
  split
  ·rename_i hc;rw[if_pos hc] at h;rcases Gb l (i+1) a h with h1| ⟨j,o',h1,h2,h3⟩
   ·exact .inl h1
   ·exact .inr ⟨j+1,o',by simpa using h1,V,h3⟩
  ·rename_i hc;rw[if_neg hc] at h
   split
   ·rename_i hp;rw[if_pos hp] at h;rcases Gb l (i+1) a h with h1| ⟨j,o',h1,h2,h3⟩
    ·exact .inl h1
    ·exact .inr ⟨j+1,o',by simpa using h1,by simpa using (by omega:(mL a (i+1) l).1=i+(j+1)),h3⟩
   ·rename_i hp;rw[if_neg hp] at h;rw[not_or,zp] at hc;rcases Gb l (i+1) i h with h1| ⟨j,o',h1,h2,h3⟩
    ·exact .inr ⟨0,o,rfl,V,hc⟩
    ·exact .inr ⟨j+1,o',by simpa using h1,V,h3⟩
end
section
variable {sp:List UInt8→Int→Bool}
def PE.QW {n:X}(h:PE sp n):n.kind≠24∧n.kind≠40∧n.kind≠41∧n.kind≠17:=by
 cases h<;>simp [ag,X.kind]
def Pe:∀{l:List X},PO sp l→∀{a o:X} {j:Nat},PE sp a→(a::l)[j]?=some o→o.kind=24→
  eK sp o=true∧∃l1 b l2,(a::l).take j=a::l1∧PO sp l1∧(a::l).drop (j+1)=b::l2∧PE sp b∧PO sp l2
 |_,.nil,a,o,j,ha,h,h24=>by
  match j,h with
  |0,h=>simp at h;subst h;exact absurd h24 ha.QW.1
  |j+1,h=>simp at h
 |_,.cons (o:=o1) (b:=b1) (l:=l) h1 h2 h3,a,o,j,ha,h,h24=>by
  match j,h with
  |0,h=>simp at h;subst h;exact absurd h24 ha.QW.1
  |1,h=>simp at h;subst h;exact⟨h1,[],b1,l,aw,.nil,aw,h2,h3⟩
  |j+2,h=>
   obtain⟨g1,l1,b,l2,g2,g3,g4,g5,g6⟩:=Pe h3 h2 (o:=o) (j:=j) (by simpa using h) h24;exact⟨g1,o1::b1::l1,b,l2,by simp [g2],.cons h1 h2 g3,by simpa using g4,g5,g6⟩
def Rs:∀(k:Nat) (n:X) (args:List X) (h:X) (as:List X),PE sp n→(∀a∈args,PE sp a)→mF k n args=some (h,as)→PE sp h∧(∀a∈as,PE sp a)∧(n.kind≠22→h=n)
 |0,_,_,_,_,_,_,e=>by unfold mF at e;cases e
 |k+1,n,args,h,as,hn,ha,e=>by
  unfold mF at e
  split at e
  ·rename_i h22
   cases hn with
   |app h1 h2=>
    have:=Rs k _ _ h as h1 (eF h2 ha) e;exact⟨this.1,this.2.1,fun h=>absurd h22 h⟩
   |_=>first| (simp [ag,X.kind] at h22)| (simp [X.kind] at h22)
  ·cases e;exact⟨hn,ha,fun _=>rfl⟩
def amm {d:X}(h:dT sp d=true)(hk:d.kind=13):d.n=0∧isVar sp d.name=true∧d.ae≠[]∧s6 sp d.ae=true∧E0 (arity d) d.ae=true:=by
 obtain⟨k,s,n,l⟩:=d;simp only[X.kind] at hk;subst hk;simp only[dT,if_true,aQ,cx,Cn] at h;exact⟨h.1.1.1.1,h.1.1.1.2,h.1.1.2,h.1.2,h.2.2⟩
def ac2 (s t:List UInt8)(m n:Int){l r:List X}(h:l≠[]):arity (.mk 13 s m (l++r))=arity (.mk 13 t n l):=by
 cases l with
 |nil=>exact absurd rfl h
 |cons a l=>rfl
def ag5 {i:List X}{d c:X}:CG (i++[d]) c=i++[.mk d.kind d.name d.n (d.ae++[c])]:=by
 simp [CG]
end
section
variable {sp:List UInt8→Int→Bool}
end
def Fin {α:Type}(d:Nat)(s:PS)(x:PM α):Prop:=x s≠.error (-1)∧∀a s',x s=.ok (a,s')→s'.r.length+d≤s.r.length
section
variable {α β:Type} {s:PS} {d:Nat} {w:List UInt8}
protected def Fin.pure {a:α}:Fin 0 s (pure a:PM α):=⟨(fun h=>by cases h),fun b s' e=>by cases e;exact bQ _⟩
protected def Fin.bad {e:Int}(h:e≠ -1):Fin d s (bad e:PM α):=⟨fun h'=>by cases h';exact h rfl,fun _ _ e=>by cases e⟩
def Fin.gL {x:PM α}{c:Nat}(h:Fin c s x)(hd:d≤c):Fin d s x:=⟨h.1,fun a s' e=>by have:=h.2 a s' e;omega⟩
protected def Fin.bind {x:PM β}{f:β→PM α}{c:Nat}(hx:Fin c s x)(hf:∀a s',x s=.ok (a,s')→s'.r.length+c≤s.r.length→Fin (d - c) s' (f a)):Fin d s (x >>= f):=by
 refine⟨fun e=>?_,fun a s' e=>?_⟩
 ·rw[bind_eq] at e
  cases h:x s with
  |error e'=>rw[h] at e;cases e;exact hx.1 h
  |ok p=>obtain⟨b,s1⟩:=p;rw[h] at e;exact (hf b s1 h (hx.2 b s1 h)).1 e
 ·rw[bind_eq] at e
  cases h:x s with
  |error e'=>rw[h] at e;cases e
  |ok p=>
   obtain⟨b,s1⟩:=p;rw[h] at e;have h1:=hx.2 b s1 h;have h2:=(hf b s1 h h1).2 a s' e;omega
def Fin.ahz {x:PM β}{f:β→PM α}(hx:x s≠.error (-1))(hf:∀a s',x s=.ok (a,s')→f a s'≠.error (-1)∧∀b s'',f a s'=.ok (b,s'')→s''.r.length+d≤s.r.length):Fin d s (x >>= f):=by
 refine⟨fun e=>?_,fun a s' e=>?_⟩
 ·rw[bind_eq] at e
  cases h:x s with
  |error e'=>rw[h] at e;cases e;exact hx h
  |ok p=>obtain⟨b,s1⟩:=p;rw[h] at e;exact (hf b s1 h).1 e
 ·rw[bind_eq] at e
  cases h:x s with
  |error e'=>rw[h] at e;cases e
  |ok p=>obtain⟨b,s1⟩:=p;rw[h] at e;exact (hf b s1 h).2 a s' e
protected def Fin.get {f:PS→PM α}(h:Fin d s (f s)):Fin d s (get >>= f):=h
protected def Fin.ite {c:Prop}[Decidable c]{x y:PM α}(h1:c→Fin d s x)(h2:¬c→Fin d s y):Fin d s (if c then x else y):=by
 split
 ·exact h1 ‹_›
 ·exact h2 ‹_›
def sG {ks:List Int}(h:dH s ks=true)(h0:ks.contains 0=false):s.r≠[]:=fun e=>by
 simp only[dH,fa,e,List.getD_nil] at h;rw[show t0.kind=0 from rfl,h0] at h;cases h
def ym {ws:List (List UInt8)}(h:bk s ws=true):s.r≠[]:=fun e=>by
 simp only[bk,fa,e,List.getD_nil,aQ,cx] at h;rcases h.1 with h|h<;>cases h
protected def Fin.step (h:s.r≠[]):Fin 1 s gC:=by
 refine⟨fun e=>?_,fun a s' e=>?_⟩
 ·unfold gC at e
  split at e
  ·exact h ‹_›
  ·cases e
 ·unfold gC at e
  split at e
  ·cases e
  ·rename_i t r hr;cases e;rw[hr];simp
protected def Fin.nA {k:Int}:Fin 1 s (jr k):=by
 refine⟨fun e=>?_,fun a s' e=>?_⟩
 ·unfold jr at e
  split at e
  ·cases e
  ·rename_i h;exact (Fin.step fun h'=>h (.inl h')).1 e
 ·unfold jr at e
  split at e
  ·cases e
  ·rename_i h;exact (Fin.step fun h'=>h (.inl h')).2 a s' e
protected def Fin.take:Fin 1 s (cA w):=by
 have key:∀d:Int,¬(s.r=[]∨bk s [w]=false)→gC ⟨s.r,d⟩≠.error (-1)∧∀a s',gC ⟨s.r,d⟩=.ok (a,s')→s'.r.length+1≤s.r.length:=fun d h=>Fin.step (s:=⟨s.r,d⟩) fun h'=>h (.inl h');unfold Fin cA
 split
 ·exact⟨(fun e=>by cases e),fun _ _ e=>by cases e⟩
 ·rename_i h
  split
  ·split
   ·exact⟨(fun e=>by cases e),fun _ _ e=>by cases e⟩
   ·exact key _ h
  ·split
   ·exact key _ h
   ·exact key s.deep h
def anD {b:Bool}{s':PS}(h:dG w s=.ok (b,s')):b=bk s [w]∧(b=true→s'.r.length+1≤s.r.length)∧(b=false→s'=s):=by
 unfold dG at h
 split at h
 ·rename_i ho;rw[bind_eq] at h
  cases h1:cA w s with
  |error e=>rw[h1] at h;cases h
  |ok p=>
   obtain⟨t,s1⟩:=p;rw[h1] at h;cases h;exact⟨ho.symm,fun _=>Fin.take.2 _ _ h1,(fun h=>by cases h)⟩
 ·rename_i ho;cases h;refine⟨?_,(fun h=>by cases h),fun _=>rfl⟩
  cases h':bk s [w] with
  |true=>exact absurd h' ho
  |false=>rfl
def ahu:dG w s≠.error (-1):=fun h=>by
 unfold dG at h
 split at h
 ·rw[bind_eq] at h
  cases h1:cA w s with
  |error e=>rw[h1] at h;cases h;exact Fin.take.1 h1
  |ok p=>rw[h1] at h;cases h
 ·cases h
protected def Fin.may {x y:PM α}(h1:∀s',s'.r.length+1≤s.r.length→Fin (d - 1) s' x)(h2:bk s [w]=false→Fin d s y):Fin d s (dG w >>= fun b=>if b=true then x else y):=by
 refine Fin.ahz ahu fun b s' e=>?_;obtain⟨h3,h4,h5⟩:=anD e
 cases b with
 |true=>
  simp only[if_true];have:=h4 rfl;exact⟨(h1 s' this).1,fun a s'' e=>by have:=(h1 s' this).2 a s'' e;omega⟩
 |false=>simp only[Bool.false_eq_true,if_false];rw[h5 rfl];exact h2 h3.symm
end
section
variable {α β:Type} {s:PS} {d:Nat} {w:List UInt8}
protected def Fin.kI {x:PM α}(h:∀s',s'.r.length+1≤s.r.length→Fin (d - 1) s' x):Fin d s (cA w >>= fun _=>x):=Fin.take.bind fun _ s' _ hl=>h s' hl
protected def Fin.mP {f:Tk→PM α}(hr:s.r≠[])(h:∀t s',s'.r.length+1≤s.r.length→Fin (d - 1) s' (f t)):Fin d s (gC >>= f):=(Fin.step hr).bind fun t s' _ hl=>h t s' hl
protected def Fin.tQ {k:Int}{f:Tk→PM α}(h:∀t s',s'.r.length+1≤s.r.length→Fin (d - 1) s' (f t)):Fin d s (jr k >>= f):=Fin.nA.bind fun t s' _ hl=>h t s' hl
protected def Fin.ea {x:PM β}{f:β→PM α}(hx:Fin 1 s x)(h:∀t s',s'.r.length+1≤s.r.length→Fin (d - 1) s' (f t)):Fin d s (x >>= f):=hx.bind fun t s' _ hl=>h t s' hl
protected def Fin.cJ {x:PM β}{f:β→PM α}(hx:Fin 0 s x)(h:∀t s',s'.r.length≤s.r.length→Fin d s' (f t)):Fin d s (x >>= f):=hx.bind fun t s' _ hl=>h t s' hl
def Co:(30:Int)≠ -1:=ai
protected def Fin.lP {one:PM X}{n:Nat}(h:∀s,s.r.length<n→Fin 0 s one):∀k s,s.r.length≤n→s.r.length+1≤k→Fin 0 s (lP one k)
 |0,_,_,hk=>V
 |k+1,s,hn,hk=>by
  unfold Go.Proofs.YtdfccaonglmgpaaGreatDoor.lP;exact Fin.may (fun s1 h1=>Fin.cJ (h _ V) fun a s2 h2=>Fin.cJ (Fin.lP h k _ V V) fun l s3 h3=>Fin.pure) fun _=>Fin.pure
protected def Fin.uc {one:PM X}{k:Nat}(h:∀s',s'.r.length≤s.r.length→Fin 1 s' one)(hk:s.r.length+1≤k):Fin 1 s (lX one k):=by
 unfold lX;exact Fin.ea (h s (bQ _)) fun a s1 h1=>Fin.cJ (Fin.lP (n:=s.r.length) (fun s' h'=>(h s' V).gL V) k _ V V) fun l _ _=>Fin.pure
protected def Fin.W1:∀k s,s.r.length+1≤k→Fin 0 s (oZ k)
 |0,_,hk=>V
 |k+1,s,hk=>by
  unfold oZ;exact Fin.may (fun s1 h1=>Fin.W1 k _ V) fun _=>Fin.pure
protected def Fin.ml {n:Int}{b:β}:Fin 1 s (ml n b):=by
 unfold Go.Proofs.YtdfccaonglmgpaaGreatDoor.ml;exact Fin.get (Fin.ite (fun _=>Fin.bad Co) fun _=>Fin.kI fun _ _=>Fin.pure)
protected def Fin.kO {one:β→PM β}{n:Nat}(h:∀s b,s.r.length≤n→Fin 1 s (one b))(m:Int):∀k b s,s.r.length≤n→s.r.length+2≤k→Fin 1 s (kO one m k b)
 |0,_,_,_,hk=>V
 |k+1,b,s,hn,hk=>by
  unfold Go.Proofs.YtdfccaonglmgpaaGreatDoor.kO;refine Fin.cJ (Fin.W1 k _ V) fun _ s1 h1=>Fin.get (Fin.ite (fun _=>Fin.ml) fun _=>?_);exact (h s1 b V).bind fun b' s2 _ h2=>Fin.get (Fin.ite (fun _=>(Fin.kO h m k b' s2 V V).gL V) fun _=>Fin.ml.gL V)
protected def Fin.block {one:β→PM β}{k:Nat}{b:β}(h:∀s' b,s'.r.length+1≤s.r.length→Fin 1 s' (one b))(hk:s.r.length+2≤k):Fin 1 s (px one k b):=by
 unfold px;exact (Fin.take.bind fun o s1 _ h1=>(Fin.kO (n:=s.r.length - 1) (fun s' b h'=>h s' b V) _ k b s1 V V).gL V)
protected def Fin.gJ {one:PM X}{k:Nat}(h:∀s',s'.r.length+1≤s.r.length→Fin 1 s' one)(hk:s.r.length+2≤k):Fin 1 s (gJ one k):=by
 unfold Go.Proofs.YtdfccaonglmgpaaGreatDoor.gJ;refine Fin.block (fun s' b h'=>?_) hk;unfold snoc;exact (h s' h').bind fun _ _ _ _=>Fin.pure
protected def Fin.named {a b:Int}:Fin 1 s (uK a b):=by
 unfold uK;refine Fin.get (Fin.ite (fun _=>Fin.kI fun _ _=>?_) fun _=>Fin.tQ fun _ _ _=>Fin.pure);exact Fin.cJ (Fin.nA.gL V) fun _ _ _=>Fin.cJ (Fin.take.gL V) fun _ _ _=>Fin.pure
protected def Fin.yo:Fin 1 s wa:=Fin.named
protected def Fin.item:Fin 1 s vP:=by
 unfold vP;exact Fin.get (Fin.ite (fun h=>Fin.mP (sG h rfl) fun _ _ _=>Fin.pure) fun _=>Fin.ea Fin.yo fun _ _ _=>Fin.pure)
protected def Fin.GM {x:PM (List X)}(hx:Fin 0 s x):Fin 0 s (get >>= fun s=>if bk s [w]=true then (pure []:PM (List X)) else x):=Fin.get (Fin.ite (fun _=>Fin.pure) fun _=>hx)
protected def Fin.items {k:Nat}(hk:s.r.length+1≤k):Fin 0 s (xo k):=by
 unfold xo;refine Fin.get (Fin.ite (fun _=>Fin.kI fun s1 h1=>?_) fun _=>Fin.pure);exact Fin.cJ (Fin.GM ((Fin.uc (fun _ _=>Fin.item) V).gL V)) fun _ _ _=>Fin.cJ (Fin.take.gL V) fun _ _ _=>Fin.pure
protected def Fin.jq:Fin 1 s nk:=by unfold nk;exact Fin.tQ fun _ _ _=>Fin.pure
protected def Fin.yK:∀k s,s.r.length+1≤k→Fin 0 s (qO k)
 |0,_,hk=>V
 |k+1,s,hk=>by
  unfold qO;exact Fin.get (Fin.ite (fun _=>Fin.ea Fin.jq fun _ _ _=>Fin.cJ (Fin.yK k _ V) fun _ _ _=>Fin.pure) fun _=>Fin.pure)
protected def Fin.empty:Fin 0 s pB:=by
 unfold pB;exact Fin.may (fun _ _=>Fin.may (fun _ _=>Fin.pure) fun _=>Fin.pure) fun _=>Fin.pure
protected def Fin.operator:Fin 1 s rj:=by
 unfold rj;refine Fin.may (fun s1 h1=>Fin.get (Fin.ite (fun h=>?_) fun _=>Fin.bad Co)) fun _=>Fin.get (Fin.ite (fun h=>?_) fun _=>Fin.bad Co)
 ·exact Fin.mP (sG h rfl) fun _ _ _=>Fin.cJ (Fin.take.gL V) fun _ _ _=>Fin.pure
 ·exact Fin.mP (sG h rfl) fun _ _ _=>Fin.pure
protected def Fin.WO:Fin 1 s tN:=by
 unfold tN;exact Fin.get (Fin.ite (fun _=>Fin.kI fun _ _=>Fin.pure) fun _=>Fin.bad Co)
def NS:∀k,(∀s,24 * s.r.length+2≤k→Fin 1 s (qg k))∧(∀s n,24 * s.r.length+2≤k→Fin 0 s (qU k n))∧
  (∀s m,24 * s.r.length+1≤k→Fin 0 s (qd k m))∧(∀s,24 * s.r.length+1≤k→Fin 1 s (om k))
 |0=>⟨fun _ _=>V,fun _ _ _=>V,fun _ _ _=>V,fun _ _=>V⟩
 |k+1=>by
  obtain⟨h1,h2,h3,h4⟩:=NS k;refine⟨fun s hk=>?_,fun s n hk=>?_,fun s m hk=>?_,fun s hk=>?_⟩
  ·unfold qg;refine Fin.ea (h4 _ V) fun n s1 l1=>Fin.cJ (h2 _ _ V) fun n s2 l2=>Fin.get (Fin.ite (fun h=>?_) fun _=>Fin.pure);exact Fin.mP (ym h) fun _ s3 l3=>Fin.cJ ((h1 _ V).gL V) fun _ _ _=>Fin.pure
  ·unfold qU;exact Fin.get (Fin.ite (fun _=>Fin.ea (h4 _ V) fun a s1 l1=>h2 _ _ V) fun _=>Fin.pure)
  ·cases m with
   |zero=>unfold qd;exact Fin.pure
   |succ m=>
    unfold qd;exact Fin.may (fun s1 l1=>Fin.ea (h1 _ V) fun a s2 l2=>Fin.cJ (h3 _ m V) fun _ _ _=>Fin.pure) fun _=>Fin.pure
  ·unfold om;refine Fin.get (Fin.ite (fun h=>Fin.mP (sG h rfl) fun _ _ _=>Fin.pure) fun _=>Fin.get (Fin.ite (fun h=>Fin.jq) fun _=>Fin.may (fun s1 l1=>?_) fun _=>Fin.kI fun s1 l1=>?_))
   ·exact Fin.cJ (Fin.GM (Fin.cJ ((h1 _ V).gL V) fun _ _ _=>Fin.pure)) fun _ _ _=>Fin.cJ (Fin.take.gL V) fun _ _ _=>Fin.pure
   ·refine Fin.cJ ?_ fun p s2 l2=>?_
    ·refine Fin.may (fun _ _=>Fin.pure) fun _=>Fin.get (Fin.ite (fun _=>Fin.cJ Fin.empty fun _ _ _=>Fin.pure) fun _=>Fin.get (Fin.ite (fun _=>Fin.pure) fun _=>?_));exact Fin.cJ ((h1 _ V).gL V) fun a s3 l3=>Fin.cJ (h3 _ 2 V) fun _ _ _=>Fin.pure
    ·obtain⟨t,l⟩:=p;refine Fin.cJ (Fin.take.gL V) fun _ s3 l3=>?_;show Fin 0 s3 (match l with
       | [a]=>pure a
       |l=>pure (mw t l))
     split<;>exact Fin.pure
end
section
variable {s:PS}
structure ahR (k:Nat):Prop where
 eq:∀s,24 * s.r.length+6≤k→Fin 1 s (pd k)
 guards:∀s w,24 * s.r.length+1≤k→Fin 0 s (tL k w)
 rhs:∀s w,24 * s.r.length+2≤k→Fin 0 s (qo k w)
 exp:∀s,24 * s.r.length+5≤k→Fin 1 s (iM k)
 ops:∀s,24 * s.r.length+1≤k→Fin 0 s (s9 k)
 operand:∀s,24 * s.r.length+4≤k→Fin 1 s (py k)
 alt:∀s,24 * s.r.length+6≤k→Fin 1 s (vq k)
 gen:∀s n,24 * s.r.length+1≤k→Fin 0 s (pT k n)
 stmt:∀s,24 * s.r.length+6≤k→Fin 1 s (uW k)
 atoms:∀s,24 * s.r.length+3≤k→Fin 1 s (pM k)
 atomsl:∀s,24 * s.r.length+3≤k→Fin 0 s (rz k)
 field:∀s,24 * s.r.length+1≤k→Fin 1 s (s_ k)
 atom:∀s,24 * s.r.length+2≤k→Fin 1 s (rh k)
 recs:∀s n,24 * s.r.length+1≤k→Fin 0 s (oS k n)
 base:∀s,24 * s.r.length+1≤k→Fin 1 s (oq k)
 expc:∀s m,24 * s.r.length+1≤k→Fin 0 s (o0 k m)
 inner:∀s,24 * s.r.length+5≤k→Fin 0 s (tY k)
 innerl:∀s l,24 * s.r.length+2≤k→Fin 0 s (qX k l)
def JK:∀k,ahR k
 |0=>by constructor<;>intros<;>omega
 |k+1=>by
  have K:=JK k;constructor
  ·intro s hk;unfold pd;exact Fin.ea (K.exp _ V) fun _ s1 l1=>Fin.cJ (K.rhs _ _ V) fun _ _ _=>Fin.pure
  ·intro s w hk;unfold tL;refine Fin.get (Fin.ite (fun h=>Fin.mP (ym h) fun _ s1 l1=>?_) fun _=>Fin.pure);exact Fin.ea (K.exp _ V) fun c s2 l2=>Fin.kI fun s3 l3=>Fin.ea (K.exp _ V) fun e s4 l4=>Fin.cJ (K.guards _ _ V) fun _ _ _=>Fin.pure
  ·intro s w hk;unfold qo;refine Fin.cJ ?_ fun gs s1 l1=>Fin.may (fun s2 l2=>?_) fun _=>Fin.pure
   ·exact Fin.get (Fin.ite (fun _=>K.guards _ _ V) fun _=>Fin.kI fun s1 l1=>Fin.ea (K.exp _ V) fun _ _ _=>Fin.pure)
   ·exact Fin.cJ ((Fin.gJ (fun s' h'=>K.eq s' V) V).gL V) fun _ _ _=>Fin.pure
  ·intro s hk;unfold iM;exact Fin.ea (K.operand _ V) fun _ s1 l1=>Fin.cJ (K.ops _ V) fun _ _ _=>Fin.pure
  ·intro s hk;unfold s9;exact Fin.get (Fin.ite (fun _=>Fin.ea Fin.operator fun o s1 l1=>Fin.ea (K.operand _ V) fun b s2 l2=>Fin.cJ (K.ops _ V) fun _ _ _=>Fin.pure) fun _=>Fin.pure)
  ·intro s hk;unfold py;refine Fin.may (fun s1 l1=>?_) fun _=>Fin.may (fun s1 l1=>?_) fun _=>Fin.may (fun s1 l1=>?_) fun _=>Fin.may (fun s1 l1=>?_) fun _=>Fin.may (fun s1 l1=>?_) fun _=>?_
   ·exact Fin.ea (K.atoms _ V) fun l s2 l2=>Fin.kI fun s3 l3=>Fin.ea (K.exp _ V) fun _ _ _=>Fin.pure
   ·exact Fin.ea (Fin.gJ (fun s' h'=>K.eq s' V) V) fun l s2 l2=>Fin.kI fun s3 l3=>Fin.ea (K.exp _ V) fun _ _ _=>Fin.pure
   ·exact Fin.ea (K.exp _ V) fun _ s2 l2=>Fin.kI fun s3 l3=>Fin.ea (K.exp _ V) fun _ s4 l4=>Fin.kI fun s5 l5=>Fin.ea (K.exp _ V) fun _ _ _=>Fin.pure
   ·exact Fin.ea (K.exp _ V) fun _ s2 l2=>Fin.kI fun s3 l3=>Fin.ea (Fin.gJ (fun s' h'=>K.alt s' V) V) fun _ _ _=>Fin.pure
   ·exact Fin.ea (Fin.gJ (fun s' h'=>K.stmt s' V) V) fun _ _ _=>Fin.pure
   ·exact Fin.ea (K.atoms _ V) fun _ _ _=>Fin.pure
  ·intro s hk;unfold vq;exact Fin.ea (K.exp _ V) fun _ s1 l1=>Fin.cJ (K.rhs _ _ V) fun _ _ _=>Fin.pure
  ·intro s n hk;unfold pT;exact Fin.may (fun s1 l1=>Fin.ea (K.exp _ V) fun _ _ _=>Fin.pure) fun _=>Fin.pure
  ·intro s hk;unfold uW;refine Fin.may (fun s1 l1=>?_) fun _=>Fin.ea (K.exp _ V) fun n s1 l1=>K.gen _ _ V;exact Fin.ea (Fin.gJ (fun s' h'=>K.eq s' V) V) fun l s2 l2=>Fin.may (fun s3 l3=>Fin.ea (K.exp _ V) fun e s4 l4=>K.gen _ _ V) fun _=>Fin.pure
  ·intro s hk;unfold pM;exact Fin.ea (K.atom _ V) fun a s1 l1=>Fin.cJ (K.atomsl _ V) fun _ _ _=>Fin.pure
  ·intro s hk;unfold rz;exact Fin.get (Fin.ite (fun _=>Fin.ea (K.atom _ V) fun a s1 l1=>Fin.cJ (K.atomsl _ V) fun _ _ _=>Fin.pure) fun _=>Fin.pure)
  ·intro s hk;unfold s_;exact Fin.ea Fin.yo fun t s1 l1=>Fin.kI fun s2 l2=>Fin.ea (K.exp _ V) fun _ _ _=>Fin.pure
  ·intro s hk;unfold rh;exact Fin.ea (K.base _ V) fun n s1 l1=>K.recs _ _ V
  ·intro s n hk;unfold oS;refine Fin.get (Fin.ite (fun _=>Fin.kI fun s1 l1=>?_) fun _=>Fin.pure);refine Fin.cJ ?_ fun l s2 l2=>Fin.ea Fin.WO fun _ s3 l3=>K.recs _ _ V;exact Fin.get (Fin.ite (fun _=>Fin.pure) fun _=>(Fin.uc (fun s' h'=>K.field s' V) V).gL V)
  ·intro s hk;unfold oq;refine Fin.get (Fin.ite (fun h=>?_) fun _=>Fin.get (Fin.ite (fun h=>?_) fun _=>Fin.get (Fin.ite (fun h=>?_) fun _=>Fin.get (Fin.ite (fun h=>?_) fun _=>Fin.may (fun _ _=>Fin.pure) fun _=>Fin.may (fun s1 l1=>?_) fun _=>Fin.kI fun s1 l1=>?_))))
   ·exact Fin.mP (sG h rfl) fun t s1 l1=>Fin.may (fun s2 l2=>Fin.ea (K.atom _ V) fun _ _ _=>Fin.pure) fun _=>Fin.pure
   ·exact Fin.mP (sG h rfl) fun _ _ _=>Fin.pure
   ·exact Fin.mP (sG h rfl) fun _ _ _=>Fin.pure
   ·exact Fin.mP (sG h rfl) fun _ _ _=>Fin.pure
   ·exact Fin.cJ (Fin.GM ((Fin.uc (fun s' h'=>K.exp s' V) V).gL V)) fun _ _ _=>Fin.cJ (Fin.take.gL V) fun _ _ _=>Fin.pure
   ·exact Fin.cJ (K.inner _ V) fun _ _ _=>Fin.cJ (Fin.take.gL V) fun _ _ _=>Fin.pure
  ·intro s m hk
   cases m with
   |zero=>unfold o0;exact Fin.pure
   |succ m=>
    unfold o0;exact Fin.may (fun s1 l1=>Fin.ea (K.exp _ V) fun a s2 l2=>Fin.cJ (K.expc _ m V) fun _ _ _=>Fin.pure) fun _=>Fin.pure
  ·intro s hk;unfold tY;refine Fin.get (Fin.ite (fun _=>Fin.pure) fun _=>Fin.get (Fin.ite (fun h=>Fin.cJ Fin.empty fun _ _ _=>Fin.pure) fun _=>Fin.get (Fin.ite (fun _=>Fin.get ?_) fun _=>?_)))
   ·exact Fin.ea Fin.operator fun o s1 l1=>Fin.get (Fin.ite (fun _=>Fin.pure) fun _=>Fin.ea (K.exp _ V) fun _ _ _=>Fin.pure)
   ·exact Fin.ea (K.operand _ V) fun a s1 l1=>K.innerl _ _ V
  ·intro s l hk;unfold qX;refine Fin.get (Fin.ite (fun _=>?_) fun _=>?_)
   ·exact Fin.ea Fin.operator fun o s1 l1=>Fin.get (Fin.ite (fun _=>Fin.pure) fun _=>Fin.ea (K.operand _ V) fun b s2 l2=>K.innerl _ _ V)
   ·refine Fin.cJ (K.expc _ 2 V) fun m s1 l1=>?_
    split<;>exact Fin.pure
protected def Fin.signed {k:Nat}{kind:Int}(hk:24 * s.r.length+2≤k):Fin 1 s (qJ k kind):=by
 unfold qJ;exact Fin.ea Fin.yo fun t s1 l1=>Fin.kI fun s2 l2=>Fin.ea ((NS k).1 _ V) fun _ _ _=>Fin.pure
protected def Fin.EU:∀k s,24 * s.r.length+2≤k→Fin 0 s (th k)
 |0,_,hk=>V
 |k+1,s,hk=>by
  unfold th;exact Fin.get (Fin.ite (fun _=>Fin.ea ((NS k).2.2.2 _ V) fun a s1 l1=>Fin.cJ (Fin.EU k _ V) fun _ _ _=>Fin.pure) fun _=>Fin.pure)
protected def Fin.arW {k:Nat}(hk:24 * s.r.length+2≤k):Fin 1 s (y9 k):=by
 unfold y9;refine Fin.ea Fin.named fun t s1 l1=>Fin.get (Fin.ite (fun _=>Fin.kI fun s2 l2=>?_) fun _=>?_)
 ·exact Fin.cJ ((Fin.uc (fun s' h'=>Fin.signed V) V).gL V) fun l s3 l3=>Fin.cJ (Fin.WO.gL V) fun _ _ _=>Fin.pure
 ·exact Fin.cJ (Fin.EU k _ V) fun _ _ _=>Fin.pure
protected def Fin.TH:∀k s w,24 * s.r.length+2≤k→Fin 0 s (sU k w)
 |0,_,_,hk=>V
 |k+1,s,w,hk=>by
  unfold sU;exact Fin.may (fun s1 l1=>Fin.ea (Fin.arW V) fun a s2 l2=>Fin.cJ (Fin.TH k _ _ V) fun _ _ _=>Fin.pure) fun _=>Fin.pure
protected def Fin.data {k:Nat}(hr:s.r≠[])(hk:24 * s.r.length+2≤k):Fin 1 s (Aq k):=by
 unfold Aq;exact Fin.mP hr fun _ s1 l1=>Fin.tQ fun t s2 l2=>Fin.cJ (Fin.yK k _ V) fun v s3 l3=>Fin.cJ (Fin.TH k _ _ V) fun _ _ _=>Fin.pure
protected def Fin.afO {k:Nat}(hr:s.r≠[])(hk:24 * s.r.length+2≤k):Fin 1 s (AV k):=by
 unfold AV;exact Fin.mP hr fun _ s1 l1=>Fin.tQ fun t s2 l2=>Fin.ea Fin.jq fun v s3 l3=>Fin.may (fun s4 l4=>Fin.cJ ((Fin.gJ (fun s' h'=>Fin.signed V) V).gL V) fun _ _ _=>Fin.pure) fun _=>Fin.pure
protected def Fin.pred:Fin 1 s vm:=by
 unfold vm;exact Fin.tQ fun t s1 l1=>Fin.cJ (Fin.jq.gL V) fun _ _ _=>Fin.pure
protected def Fin.head {k:Nat}(hk:s.r.length+1≤k):Fin 1 s (xK k):=by
 have tk:∀{s:PS} {w:List UInt8},Fin (1 - 1) s (cA w):=Fin.take.gL V;have tv:∀{s:PS},Fin (1 - 1) s nk:=Fin.jq.gL V;unfold xK;refine Fin.get (Fin.ite (fun h=>?_) fun _=>Fin.may (fun s1 l1=>?_) fun _=>Fin.kI fun s1 l1=>Fin.get (Fin.ite (fun h=>?_) fun _=>Fin.get (Fin.ite (fun _=>?_) fun _=>Fin.may (fun _ _=>?_) fun _=>Fin.get (Fin.ite (fun h=>?_) fun _=>?_))))
 ·exact Fin.mP (sG h rfl) fun _ _ _=>Fin.pure
 ·exact Fin.cJ (Fin.get (Fin.ite (fun _=>Fin.cJ tv fun _ _ _=>Fin.pure) fun _=>Fin.pure)) fun _ _ _=>Fin.cJ tk fun _ _ _=>Fin.pure
 ·exact Fin.mP (sG h rfl) fun t s2 l2=>Fin.cJ (Fin.yK k _ V) fun _ _ _=>Fin.cJ tk fun _ _ _=>Fin.pure
 ·refine Fin.cJ tv fun a s2 l2=>Fin.may (fun s3 l3=>?_) fun _=>Fin.cJ tk fun _ s3 l3=>Fin.cJ tv fun b s4 l4=>Fin.may (fun s5 l5=>?_) fun _=>?_
  ·exact Fin.cJ tv fun _ _ _=>Fin.cJ tk fun _ _ _=>Fin.pure
  ·exact Fin.cJ tv fun _ _ _=>Fin.cJ tk fun _ _ _=>Fin.pure
  ·exact Fin.cJ tk fun _ _ _=>Fin.pure
 ·exact Fin.cJ tk fun _ _ _=>Fin.pure
 ·exact Fin.cJ Fin.empty fun _ _ _=>Fin.cJ tk fun _ _ _=>Fin.pure
 ·exact Fin.cJ tk fun _ _ _=>Fin.pure
protected def Fin.inst {k:Nat}(hr:s.r≠[])(hk:24 * s.r.length+2≤k):Fin 1 s (AN k):=by
 have tk:∀{s:PS} {w:List UInt8},Fin 0 s (cA w):=Fin.take.gL V;unfold AN;refine Fin.mP hr fun _ s1 l1=>Fin.cJ ?_ fun c s2 l2=>Fin.tQ fun t s3 l3=>Fin.cJ ((Fin.head V).gL V) fun h s4 l4=>Fin.may (fun s5 l5=>?_) fun _=>Fin.pure
 ·refine Fin.may (fun s2 l2=>?_) fun _=>Fin.get (Fin.get (Fin.ite (fun _=>?_) fun _=>Fin.pure))
  ·exact Fin.cJ (Fin.GM ((Fin.uc (fun _ _=>Fin.pred) V).gL V)) fun _ _ _=>Fin.cJ tk fun _ _ _=>Fin.cJ tk fun _ _ _=>Fin.pure
  ·exact Fin.ea Fin.pred fun _ _ _=>Fin.cJ tk fun _ _ _=>Fin.pure
 ·exact Fin.cJ ((Fin.gJ (fun s' h'=>(JK k).eq s' V) V).gL V) fun _ _ _=>Fin.pure
protected def Fin.fix {k:Nat}(hr:s.r≠[])(hk:24 * s.r.length+2≤k):Fin 1 s (fixF k):=by
 unfold fixF;exact Fin.mP hr fun t s1 l1=>Fin.get (Fin.get (Fin.ite (fun _=>Fin.bad Co) fun _=>Fin.tQ fun n s2 l2=>Fin.cJ ((Fin.uc (fun _ _=>Fin.operator) V).gL V) fun _ _ _=>Fin.pure))
protected def Fin.decl {k:Nat}(hk:24 * s.r.length+6≤k):Fin 1 s (yw k):=by
 unfold yw;exact Fin.get (Fin.ite (fun h=>Fin.data (ym h) V) fun _=>Fin.get (Fin.ite (fun h=>Fin.afO (ym h) V) fun _=>Fin.get (Fin.ite (fun h=>Fin.inst (ym h) V) fun _=>Fin.get (Fin.ite (fun h=>Fin.fix (ym h) V) fun _=>(JK k).eq _ V))))
protected def Fin.top {k:Nat}{b:List X×List X}(hk:24 * s.r.length+6≤k):Fin 1 s (mV k b):=by
 unfold mV;refine Fin.get (Fin.ite (fun h=>?_) fun _=>Fin.ea (Fin.decl hk) fun _ _ _=>Fin.pure);rw[aQ] at h;exact Fin.mP (ym h.2) fun _ s1 l1=>Fin.tQ fun t s2 l2=>Fin.cJ (Fin.items V) fun _ _ _=>Fin.pure
protected def Fin.module {k:Nat}(hk:24 * s.r.length+6≤k):Fin 1 s (qv k):=by
 unfold qv;refine Fin.kI fun s1 l1=>Fin.tQ fun t s2 l2=>Fin.cJ (Fin.items V) fun e s3 l3=>Fin.kI fun s4 l4=>Fin.cJ ((Fin.block (fun s' b h'=>Fin.top V) V).gL V) fun b s5 l5=>Fin.tQ fun _ _ _=>Fin.pure
end
mutual
def aL:X→Nat
 | .mk _ _ _ l=>1+aJ l
def aJ:List X→Nat
 | []=>0
 |a::l=>1+aL a+aJ l
end
def lK (n:X):aL n=1+aJ n.ae:=by cases n;rw[aL];rfl
def bU (k:Int)(s:List UInt8)(l:List X):aL (ag k s l)=1+aJ l:=by rw[lK];rfl
def dz (l:List X):aL (listed l)=1+aJ l:=by rw[lK];rfl
def dx (n:X):1≤aL n:=by rw[lK];omega
def z6:∀l r:List X,aJ (l++r)=aJ l+aJ r
 | [],r=>by simp [aJ]
 |a::l,r=>by simp only[ck,aJ,z6 l r];omega
def JI (l:List X):aL (kM l)≤1+aJ l:=by
 match l with
 | []=>simp [kM,cc,aL,aJ]
 | [a]=>simp only[kM,aJ];omega
 |a::b::l=>simp only[kM,bU];omega
def So {α:Type}(x:FM α):Prop:=x≠none
section
variable {α β:Type}
protected def So.pure {a:α}:So (pure a:FM α):=fun h=>by cases h
protected def So.bind {x:FM β}{f:β→FM α}(hx:So x)(hf:∀a b,x=some (a,b)→So (f a)):So (x >>= f):=fun e=>by
 rw[Ej] at e
 cases h:x with
 |none=>exact hx h
 |some p=>
  obtain⟨b,c⟩:=p;rw[h] at e;simp only at e
  cases h2:f b with
  |none=>exact hf b c h h2
  |some q=>rw[h2] at e;cases e
protected def So.fw {b:Bool}{x:FM α}(h:So x):So (fw b >>= fun _=>x):=So.bind (fun h=>by cases h) fun _ _ _=>h
protected def So.seq {x:FM β}{f:β→FM α}(hx:So x)(hf:∀a,So (f a)):So (x >>= f):=So.bind hx fun a _ _=>hf a
end
section
variable {sp:List UInt8→Int→Bool}
structure SoP (sp:List UInt8→Int→Bool)(k:Nat):Prop where
 pat:∀n,PE sp n→2 * aL n≤k→So (gu k n)
 op:∀o,eK sp o=true→1≤k→So (gu k o)
 fld:∀f,PF sp f→2 * aL f≤k→So (gu k f)
 app:∀h args,PE sp h→2 * aL h≤k+1→So (rD k h args)
 pats:∀l,(∀a∈l,PE sp a)→2 * aJ l≤k→So (fq k l)
 flds:∀l,(∀a∈l,PF sp a)→2 * aJ l≤k→So (fq k l)
 mix:∀a l,PE sp a→PO sp l→2 * aJ (a::l)≤k→So (fq k (a::l))
 mixo:∀l,PO sp l→2 * aJ l≤k→So (fq k l)
def zb:∀k,SoP sp k
 |0=>by
  constructor
  ·intro n _ h;have:=dx n;omega
  ·intro o _ h;omega
  ·intro n _ h;have:=dx n;omega
  ·intro h a _ hk;have:=dx h;omega
  ·intro l _ hk;cases l with
   |nil=>rw[me];exact So.pure
   |cons a l=>simp only[aJ] at hk;omega
  ·intro l _ hk;cases l with
   |nil=>rw[me];exact So.pure
   |cons a l=>simp only[aJ] at hk;omega
  ·intro a l _ _ hk;simp only[aJ] at hk;omega
  ·intro l _ hk;cases l with
   |nil=>rw[me];exact So.pure
   |cons a l=>simp only[aJ] at hk;omega
 |k+1=>by
  have K:=zb k;constructor
  ·intro n hn hk;have hs:=lK n;unfold gu
   cases hn with
   |var h=>simp only[ag,X.kind,X.ae,X.name,X.n,j0,me];exact So.seq So.pure fun _=>So.pure
   |con h=>simp only[ag,X.kind,X.ae,X.name,X.n,j0,me];exact So.seq So.pure fun _=>So.pure
   |int h=>simp only[X.kind,X.ae,X.name,X.n,j0,me];exact So.seq So.pure fun _=>So.pure
   |str=>simp only[ag,X.kind,X.ae,X.name,X.n,j0,me];exact So.seq So.pure fun _=>So.pure
   |app ha hb=>exact So.seq (K.app _ [] (.app ha hb) V) fun r=>So.fw So.pure
   |ops ha hl h0=>
    simp only[ag,X.kind,X.ae,X.name,X.n,j0] at hs ⊢;exact So.seq (K.mix _ _ ha hl (by simp only[ag] at hk;omega)) fun _=>So.pure
   |lam _ _ _=>exact So.fw So.pure
   |elet _ _=>exact So.fw So.pure
   |eif _ _ _=>exact So.fw So.pure
   |ecase _ _=>exact So.fw So.pure
   |edo _=>exact So.fw So.pure
   |tup hl h2=>
    simp only[ag,X.kind,X.ae,X.name,X.n,j0] at hs ⊢;exact So.seq (K.pats _ hl (by simp only[ag] at hk;omega)) fun _=>So.pure
   |lst hl=>
    simp only[ag,X.kind,X.ae,X.name,X.n,j0] at hs ⊢;exact So.seq (K.pats _ hl (by simp only[ag] at hk;omega)) fun _=>So.pure
   |left _ _=>exact So.fw So.pure
   |right _ _=>exact So.fw So.pure
   |make h hl=>
    simp only[ag,X.kind,X.ae,X.name,X.n,j0] at hs ⊢;exact So.seq (K.flds _ hl (by simp only[ag] at hk;omega)) fun _=>So.pure
   |put _ _ _ _=>exact So.fw So.pure
   |wild=>simp only[ag,X.kind,X.ae,X.name,X.n,j0,me];exact So.seq So.pure fun _=>So.pure
   |eas h ha=>
    simp only[ag,X.kind,X.ae,X.name,X.n,j0] at hs ⊢;exact So.seq (K.pats [_] (eF ha fO) (by simp only[ag] at hk;omega)) fun _=>So.pure
  ·intro o ho _;unfold gu;rw[if_pos (z8 ho).1];exact So.fw So.pure
  ·intro f hf hk
   cases hf with
   |mk hs he=>
    rw[bU,aJ] at hk;unfold gu;exact So.seq (K.pat _ he V) fun _=>So.pure
  ·intro h args hh hk;unfold rD
   split
   ·rename_i h22
    cases hh with
    |app h1 h2=>
     rw[bU,aJ,aJ,aJ] at hk;exact So.seq (K.pat _ h2 V) fun p=>K.app _ _ h1 V
    |_=>first| (simp [ag,X.kind] at h22)| (simp [X.kind] at h22)
   ·exact So.pure
  ·intro l hl hk
   cases l with
   |nil=>rw[me];exact So.pure
   |cons a l=>
    rw[aJ] at hk;unfold fq;exact So.seq (K.pat a (hl a aw) V) fun _=>So.seq (K.pats l (fun x hx=>hl x (by simp [hx])) V) fun _=>So.pure
  ·intro l hl hk
   cases l with
   |nil=>rw[me];exact So.pure
   |cons a l=>
    rw[aJ] at hk;unfold fq;exact So.seq (K.fld a (hl a aw) V) fun _=>So.seq (K.flds l (fun x hx=>hl x (by simp [hx])) V) fun _=>So.pure
  ·intro a l ha hl hk;rw[aJ] at hk;unfold fq;exact So.seq (K.pat a ha V) fun _=>So.seq (K.mixo l hl V) fun _=>So.pure
  ·intro l hl hk
   cases hl with
   |nil=>rw[me];exact So.pure
   | @cons o b l' ho hb hl=>
    rw[aJ] at hk;have:=dx o;unfold fq;exact So.seq (K.op _ ho V) fun _=>So.seq (K.mix _ _ hb hl V) fun _=>So.pure
def Tt:∀(k:Nat) (n:X) (args:List X),PE sp n→aL n≤k→∃h as,mF k n args=some (h,as)∧aJ as+aL h≤aJ args+aL n
 |0,n,_,_,hk=>by have:=dx n;omega
 |k+1,n,args,hn,hk=>by
  unfold mF
  split
  ·rename_i h22
   cases hn with
   | @app a b h1 h2=>
    rw[bU,aJ,aJ,aJ] at hk ⊢;obtain⟨h,as,e,hs⟩:=Tt k a (b::args) h1 V;rw[aJ] at hs;exact⟨h,as,e,V⟩
   |_=>first| (simp [ag,X.kind] at h22)| (simp [X.kind] at h22)
  ·exact⟨_,_,rfl,bQ _⟩
def agW (k:Nat){n:X}(hn:PE sp n)(hk:2 * aL n+2≤k):So (rR k n):=by
 unfold rR
 split
 ·rename_i h23;refine So.fw ?_
  split
  ·exact So.pure
  ·rename_i h0
   cases hn with
   | @ops a l ha hl _=>
    rcases Gb (a::l) 0 0 h0 with h1| ⟨j,o,h1,h2,h3,h4⟩
    ·exact absurd h1 h0
    ·obtain⟨g1,l1,b,l2,g2,g3,g4,g5,g6⟩:=Pe hl ha h1 h3;rw[Nat.zero_add] at h2;have e:(ag 23 [] (a::l)).ae=a::l:=rfl;simp only[e];rw[h2,g2,g4];refine So.seq ((zb k).pats [_,_] (eF (UD ha g3) (eF (UD g5 g6) fO)) ?_) fun _=>So.pure;rw[bU] at hk;have e1:aJ (a::l)=aJ ((a::l).take j)+(1+aL o+aJ ((a::l).drop (j+1))):=by
      have h5:(a::l)=(a::l).take j++(o::(a::l).drop (j+1)):=by
       obtain⟨hj,rfl⟩:=List.getElem?_eq_some_iff.1 h1;rw[←List.drop_eq_getElem_cons hj,List.take_append_drop]
      conv=>lhs;rw[h5]
      rw[z6,aJ]
     rw[g2,g4] at e1;have e2:=JI (a::l1);have e3:=JI (b::l2);have e4:=dx o;simp only[aJ] at e1 e2 e3 hk ⊢;omega
   |_=>first| (simp [ag,X.kind] at h23)| (simp [X.kind] at h23)
 ·obtain⟨h,as,e,hs⟩:=Tt k n [] hn V;obtain⟨h1,h2,h3⟩:=Rs k n [] h as hn fO e;rw[e];simp only
  split
  ·exact So.pure
  ·rw[aJ] at hs;exact So.seq ((zb k).pats as h2 V) fun _=>So.pure
end
section
variable {sp:List UInt8→Int→Bool}
def pS:List X→Nat
 | []=>0
 |d::l=>1+(if d.kind=15 then 4 * aL d else 0)+pS l
def IA:∀l:List X,pS l≤4 * aJ l
 | []=>by simp [pS,aJ]
 |d::l=>by
  have:=IA l;simp only[pS,aJ]
  split<;>omega
structure SoE (sp:List UInt8→Int→Bool)(k:Nat):Prop where
 eqs:∀l out on,(∀d∈l,d.kind≠15∨PQ sp d)→pS l≤k→So (dF k l out on)
 right:∀n,PR sp n→4 * aL n≤k→So (oM k n)
 exp:∀n,PE sp n→4 * aL n≤k→So (dP k n)
 op:∀o,eK sp o=true→1≤k→So (dP k o)
 fld:∀f,PF sp f→4 * aL f≤k→So (dP k f)
 alt:∀f,PA sp f→4 * aL f≤k→So (dP k f)
 stm:∀f,tZ sp f→4 * aL f≤k→So (dP k f)
 gd:∀f,PG sp f→4 * aL f≤k→So (dP k f)
 non:1≤k→So (dP k cc)
inductive r4 (sp:List UInt8→Int→Bool):X→Prop
 |e {n}:PE sp n→r4 sp n
 |o {n}:eK sp n=true→r4 sp n
 |f {n}:PF sp n→r4 sp n
 |a {n}:PA sp n→r4 sp n
 |s {n}:tZ sp n→r4 sp n
 |g {n}:PG sp n→r4 sp n
 |n:r4 sp cc
 |p {e}:PE sp e→r4 sp (ag 17 [] [cc,e])
def PO.any:∀{l:List X},PO sp l→∀x∈l,r4 sp x
 |_,.nil=>fO
 |_,.cons h1 h2 h3=>eF (.o h1) (eF (.e h2) (PO.any h3))
def P1:∀k,SoE sp k:=by
 intro k
 induction k using Nat.strongRecOn with
 |_ k ih=>
 cases k with
 |zero=>
  constructor
  ·intro l out on _ hk;cases l with
   |nil=>unfold dF;exact So.pure
   |cons d l=>simp only[pS] at hk;omega
  ·intro n _ h;have:=dx n;omega
  ·intro n _ h;have:=dx n;omega
  ·intro n _ h;omega
  ·intro n _ h;have:=dx n;omega
  ·intro n _ h;have:=dx n;omega
  ·intro n _ h;have:=dx n;omega
  ·intro n _ h;have:=dx n;omega
  ·intro h;omega
 |succ k=>
  have K:=ih k V;have lst:∀j l,j≤k→(∀a∈l,r4 sp a)→4 * aJ l≤j→So (dD j l):=by
   intro j
   induction j with
   |zero=>intro l _ _ hk;cases l with
    |nil=>rw[kZ];exact So.pure
    |cons a l=>simp only[aJ] at hk;omega
   |succ j ihj=>
    intro l hj hl hk
    cases l with
    |nil=>rw[kZ];exact So.pure
    |cons a l=>
     rw[aJ] at hk;have avl:=ih j V;unfold dD;refine So.seq ?_ fun _=>So.seq (ihj l V (fun x hx=>hl x (by simp [hx])) V) fun _=>So.pure
     cases hl a aw with
     |e h=>exact avl.exp _ h V
     |o h=>exact avl.op _ h V
     |f h=>exact avl.fld _ h V
     |a h=>exact avl.alt _ h V
     |s h=>exact avl.stm _ h V
     |g h=>exact avl.gd _ h V
     |n=>exact avl.non V
     |p h=>
      rename_i e;simp only[bU,aJ] at hk;have:=dx cc
      cases j with
      |zero=>omega
      |succ i=>
       have avk:=ih i V;unfold dP;simp only[ag,X.kind,X.ae,X.name,X.n];refine So.seq ?_ fun _=>So.pure
       cases i with
       |zero=>omega
       |succ m=>
        unfold dD;refine So.seq ((ih m V).non V) fun _=>So.seq ?_ fun _=>So.pure
        cases m with
        |zero=>omega
        |succ m=>
         unfold dD;exact So.seq ((ih m V).exp _ h V) fun _=>So.seq (by rw[kZ];exact So.pure) fun _=>So.pure
  have lstk:∀l,(∀a∈l,r4 sp a)→4 * aJ l≤k→So (dD k l):=fun l=>lst k l (bQ _);have vL:∀l,(∀a∈l,PQ sp a)→4 * aJ l≤k→So (dF k l [] false):=fun l hl hk=>K.eqs l [] false (fun d hd=>.inr (hl d hd)) (Nat.le_trans (IA l) hk);have hexp:∀n,PE sp n→4 * aL n≤k+1→So (dP (k+1) n):=by
   intro n hn hk;have hs:=lK n;have hk':4 * aJ n.ae≤k:=V
   unfold dP
   cases hn with
   |var h=>simp only[ag,X.kind,X.ae,X.name,X.n];simp only[kZ];exact So.seq So.pure fun _=>So.pure
   |con h=>simp only[ag,X.kind,X.ae,X.name,X.n];simp only[kZ];exact So.seq So.pure fun _=>So.pure
   |int h=>simp only[X.kind,X.ae,X.name,X.n];simp only[kZ];exact So.seq So.pure fun _=>So.pure
   |str=>simp only[ag,X.kind,X.ae,X.name,X.n];simp only[kZ];exact So.seq So.pure fun _=>So.pure
   |app ha hb=>exact So.seq (lstk _ (eF (.e ha) (eF (.e hb) fO)) hk') fun _=>So.pure
   |ops ha hl h0=>exact So.seq (lstk _ (eF (.e ha) hl.any) hk') fun _=>So.pure
   |lam h0 hl he=>
    simp only[bU,dz,aJ] at hk;exact So.seq ((zb k).pats _ hl (by simp only[listed,X.ae];omega)) fun _=>So.seq (K.exp _ he V) fun _=>So.pure
   |elet hl he=>
    simp only[bU,dz,aJ] at hk;exact So.seq (vL _ hl (by simp only[listed,X.ae];omega)) fun _=>So.seq (K.exp _ he V) fun _=>So.pure
   |eif ha hb hc=>exact So.seq (lstk _ (eF (.e ha) (eF (.e hb) (eF (.e hc) fO))) hk') fun _=>So.pure
   |ecase ha hl=>exact So.seq (lstk _ (eF (.e ha) fun x hx=>.a (hl x hx)) hk') fun _=>So.pure
   |edo hl=>exact So.fw (So.seq (lstk _ (fun x hx=>.s (hl x hx)) hk') fun _=>So.pure)
   |tup hl h2=>exact So.seq (lstk _ (fun x hx=>.e (hl x hx)) hk') fun _=>So.pure
   |lst hl=>exact So.seq (lstk _ (fun x hx=>.e (hl x hx)) hk') fun _=>So.pure
   |left ha ho=>exact So.seq (lstk _ (eF (.e ha) (eF (.o ho) fO)) hk') fun _=>So.pure
   |right ho he=>exact So.seq (lstk _ (eF (.o ho) (eF (.e he) fO)) hk') fun _=>So.pure
   |make h hl=>exact So.seq (lstk _ (fun x hx=>.f (hl x hx)) hk') fun _=>So.pure
   |put h19 ha h0 hl=>exact So.seq (lstk _ (eF (.e ha) fun x hx=>.f (hl x hx)) hk') fun _=>So.pure
   |wild=>exact So.fw So.pure
   |eas _ _=>exact So.fw So.pure
  constructor
  ·intro l out on hl hk
   cases l with
   |nil=>unfold dF;exact So.pure
   |cons d l=>
    rw[pS] at hk;have hl':∀d∈l,d.kind≠15∨PQ sp d:=fun x hx=>hl x (by simp [hx]);have nx:∀out on,So (dF k l out on):=fun out on=>K.eqs l out on hl' V;unfold dF
    by_cases h15:d.kind=15
    ·rw[if_neg (by simp [h15])];rw[if_pos h15] at hk
     cases (hl d aw).resolve_left (by simp [h15]) with
     | @mk e r0 he hr=>
      simp only[bU,aJ] at hk;simp only[ag,X.ae];refine So.seq (K.right _ hr V) fun r=>So.seq (agW k he V) fun c=>?_
      cases c with
      |none=>exact So.seq ((zb k).pat _ he V) fun _=>nx _ _
      |some q=>
       obtain⟨name,ps⟩:=q;simp only
       split
       ·exact So.fw (nx _ _)
       ·exact nx _ _
    ·rw[if_pos h15];exact nx _ _
  ·intro n hn hk;unfold oM
   cases hn with
   |plain he hl=>
    simp only[bU,dz,aJ] at hk;simp only[ag,X.ae,listed];exact So.seq (lstk [_] (eF (.p he) fO) (by simp only[aJ,aL];omega)) fun _=>So.seq (vL _ hl V) fun _=>So.pure
   |guards h0 hg hl=>
    simp only[bU,dz,aJ] at hk;simp only[ag,X.ae,listed];exact So.seq (lstk _ (fun x hx=>.g (hg x hx)) V) fun _=>So.seq (vL _ hl V) fun _=>So.pure
  ·exact hexp
  ·intro o ho _;obtain⟨h1,h2,h3⟩:=z8 ho;obtain⟨ko,so,no,lo⟩:=o;simp only[X.kind,X.ae] at h1 h2;subst h1 h2;unfold dP;simp only[X.kind,X.ae,X.name,X.n];simp only[kZ];exact So.seq So.pure fun _=>So.pure
  ·intro f hf hk
   cases hf with
   |mk hs he=>
    simp only[bU,aJ] at hk;unfold dP;exact So.seq (lstk [_] (eF (.e he) fO) (by simp only[aJ];omega)) fun _=>So.pure
  ·intro f hf hk
   cases hf with
   |mk he hr=>
    simp only[bU,aJ] at hk;unfold dP;exact So.seq ((zb k).pat _ he V) fun _=>So.seq (K.right _ hr V) fun _=>So.pure
  ·intro f hf hk
   cases hf with
   |exp he=>exact hexp _ he hk
   |gen ha he=>
    simp only[bU,aJ] at hk;unfold dP;exact So.seq ((zb k).pat _ ha V) fun _=>So.seq (K.exp _ he V) fun _=>So.pure
   |slet hl=>
    simp only[bU,dz,aJ] at hk;unfold dP;exact So.seq (vL _ hl (by simp only[listed,X.ae];omega)) fun _=>So.pure
  ·intro f hf hk
   cases hf with
   |mk hc he=>
    simp only[bU,aJ] at hk;unfold dP;exact So.seq (lstk [_,_] (eF (.e hc) (eF (.e he) fO)) (by simp only[aJ];omega)) fun _=>So.pure
  ·intro _;unfold dP;simp only[cc,X.kind,X.ae,X.name,X.n];simp only[kZ];exact So.seq So.pure fun _=>So.pure
def Se (k:Nat):∀l,(∀d∈l,PT sp d)→4 * aJ l≤k→So (ja k l)∧∀r b,ja k l=some (r,b)→pS r=pS l∧∀d∈r,d.kind≠15∨PQ sp d
 | [],_,_=>by unfold ja;exact⟨So.pure,fun r b e=>by cases e;exact⟨rfl,fO⟩⟩
 |d::l,hl,hk=>by
  rw[aJ] at hk;obtain⟨h1,h2⟩:=Se k l (fun x hx=>hl x (by simp [hx])) V;have skip:d.kind≠10→(d.kind≠15∨PQ sp d)→So (ja k (d::l))∧∀r b,ja k (d::l)=some (r,b)→pS r=pS (d::l)∧∀d∈r,d.kind≠15∨PQ sp d:=fun h10 hd=>by
   unfold ja;rw[if_neg h10];refine⟨So.seq h1 fun _=>So.pure,fun r b e=>?_⟩;rw[Ej] at e
   cases h3:ja k l with
   |none=>rw[h3] at e;cases e
   |some q=>
    obtain⟨r',b'⟩:=q;rw[h3] at e;cases e;obtain⟨h4,h5⟩:=h2 r' b' h3;exact⟨by simp only[pS,h4],eF (P:=fun d=>d.kind≠15∨PQ sp d) hd h5⟩
  cases hl d aw with
  |top g1 g2 g3 g4=>exact skip g4 (.inl g2)
  |eq h=>exact skip (by cases h;simp [ag,X.kind]) (.inr h)
  | @inst t c h l0 g1 g2 g3 g4=>
   simp only[bU,dz,aJ] at hk;unfold ja;rw[if_pos (show (ag 10 t [c,h,listed l0]).kind=10 from rfl)];refine⟨So.seq ((P1 k).eqs l0 [] false (fun d hd=>.inr (g4 d hd)) (Nat.le_trans (IA l0) V)) fun _=>So.fw (So.seq h1 fun _=>So.pure),fun r b e=>?_⟩;rw[Ej] at e
   cases h3:dF k (sub (ag 10 t [c,h,listed l0]) 2).ae [] false with
   |none=>rw[h3] at e;cases e
   |some q=>
    obtain⟨x,b1⟩:=q;rw[h3] at e;simp only[Ej,fw] at e
    cases h4:ja k l with
    |none=>rw[h4] at e;cases e
    |some q=>
     obtain⟨r',b'⟩:=q;rw[h4] at e;cases e;obtain⟨h5,h6⟩:=h2 r' b' h4;exact⟨by simp only[pS,h5];simp [ag,X.kind],eF (P:=fun d=>d.kind≠15∨PQ sp d) (.inl (by simp [ag,X.kind])) h6⟩
def ae3 {n:X}(hn:Cf sp n):∃k,So (vB k n):=by
 cases hn with
 | @mk t e i l h1 h2 h3 h4=>
  refine⟨4 * aJ l,?_⟩;obtain⟨h5,h6⟩:=Se (4 * aJ l) l h4 (bQ _);unfold vB;exact So.bind h5 fun ds b hb=>So.seq ((P1 _).eqs ds [] false (h6 ds b hb).2 (by rw[(h6 ds b hb).1];exact IA l)) fun _=>So.pure
end
end Go.Proofs.YtdfccaonglmgpaaGreatDoor
