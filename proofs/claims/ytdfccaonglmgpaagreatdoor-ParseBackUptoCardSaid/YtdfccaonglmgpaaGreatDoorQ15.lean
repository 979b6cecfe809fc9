/- Q15 -/
import Derived.Test.YtdfccaonglmgpaaGreatDoorQ06
import Derived.Test.YtdfccaonglmgpaaGreatDoorQ05
import Derived.Test.YtdfccaonglmgpaaGreatDoorQ01
import Derived.Test.YtdfccaonglmgpaaGreatDoorQ14
open Go.Proofs.Tryz
set_option linter.all false
namespace Go.Proofs.YtdfccaonglmgpaaGreatDoor
open Go
structure CP where
 bs:List Nat
 ok:World→Prop
 st:∀w w',ok w→(∀b∈bs,w'.heap[b]?=w.heap[b]?)→ok w'
 lt:∀w,ok w→∀b∈bs,b<w.heap.size
def dm (p:CP):an:=.gp p.bs p.ok p.st p.lt
def CP.e:CP where
 bs:=[]
 ok _:=True
 st _ _ _ _:=trivial
 lt _ _ b hb:=by cases hb
structure CP.le (p q:CP):Prop where
 bs:p.bs.Sublist q.bs
 ok:∀w,q.ok w→p.ok w
def CP.le.trans {p q r:CP}(h:p.le q)(h2:q.le r):p.le r:=⟨h.bs.trans h2.bs,fun w h3=>h.ok w (h2.ok w h3)⟩
def CP.add (p:CP)(e:an):CP where
 bs:=e.bs++p.bs
 ok w:=e.ok w∧p.ok w
 st w w' ho hk:=⟨an.Gy ho.1 fun b hb=>hk b (List.mem_append_left _ hb),p.st w w' ho.2 fun b hb=>hk b (List.mem_append_right _ hb)⟩
 lt w ho b hb:=by
  rcases List.mem_append.1 hb with hb|hb
  ·exact an.Az ho.1 hb
  ·exact p.lt w ho.2 b hb
structure FV where
 g:Nat
 fs:List Value
 cs:List Value
def FV.v (t:FV):Value:=.func (.func t.g) t.fs.toArray t.cs.toArray
def mI:fp FV where
 size:=1
 cells t:=[t.v]
 len _:=rfl
 one t u hu:=by
  simp only[iS,jD,or_false] at hu;subst hu;rfl
def St.g_ {Z w:World}{M:List Nat}{L:List an}{b n T:Nat}{xs:List Value}(O:St Z M w (.sl (.slice (some (aa b)) n n) T 1 n xs::L))(l:List FV)(hx:xs=flat mI l:=by rfl)(hn:n=l.length:=by rfl):St Z M w (ax (aC.v (aC.mk (some (aa b)) n n)) T mI l::L):=by
 subst hx hn;exact O
section
variable {Z w w':World} {M:List Nat} {L:List an} {p q:CP} {e:an} {b:Nat} {v:Value}
def CP.now (hp:p.ok Z)(O:St Z [] w L):p.ok w:=p.st Z w hp fun b hb=>O.iN b (p.lt Z hp b hb) aw
def St.lR (O:St Z M w L):St Z M w (dm CP.e::L):=by
 have e:az (dm CP.e::L)=az L:=rfl;refine⟨O.os,O.tape,O.output,O.le,O.iN,fun x hx=>?_,e▸O.nodup,fun b hb=>O.src b (e▸hb)⟩;rcases List.mem_cons.1 hx with rfl|hx
 ·exact trivial
 ·exact O.own x hx
def St.adb (O:St Z M w L)(i:Nat)(hi:L[i]?=some (dm p)):p.ok w:=O.ok hi
def St.Ki (O:St Z M w (e::dm p::L)):St Z M w (dm (p.add e)::L):=by
 have e1:az (dm (p.add e)::L)=az (e::dm p::L):=by
  rw[mh,mh,mh,←cC];rfl
 refine⟨O.os,O.tape,O.output,O.le,O.iN,fun x hx=>?_,e1▸O.nodup,fun b hb=>O.src b (e1▸hb)⟩;rcases List.mem_cons.1 hx with rfl|hx
 ·exact⟨O.own _ aw,O.own (dm p) aw⟩
 ·exact O.own x (by simp [hx])
def CP.Lx:p.le (p.add e):=⟨List.sublist_append_right _ _,fun w h=>h.2⟩
def CP.and (p q:CP):CP where
 bs:=p.bs++q.bs
 ok w:=p.ok w∧q.ok w
 st w w' h hk:=⟨p.st w w' h.1 fun b hb=>hk b (List.mem_append_left _ hb),q.st w w' h.2 fun b hb=>hk b (List.mem_append_right _ hb)⟩
 lt w h b hb:=(List.mem_append.1 hb).elim (p.lt w h.1 b) (q.lt w h.2 b)
def CP.FC:p.le (p.and q):=⟨List.sublist_append_left _ _,fun _ h=>h.1⟩
def CP.aeO:q.le (p.and q):=⟨List.sublist_append_right _ _,fun _ h=>h.2⟩
def CP.ek {r:CP}(h:p.le q):(r.and p).le (r.and q):=⟨(List.Sublist.refl _).append h.bs,fun w hw=>⟨hw.1,h.ok w hw.2⟩⟩
def CP.bZ:CP.e.le p:=⟨List.nil_sublist _,fun _ _=>trivial⟩
def St.BU (O:St Z M w (dm q::L))(hq:p.le q):St Z M w (dm p::L):=by
 have hs:(az (dm p::L)).Sublist (az (dm q::L)):=by rw[mh,mh];exact hq.bs.append (List.Sublist.refl _)
 refine⟨O.os,O.tape,O.output,O.le,O.iN,fun x hx=>?_,hs.nodup O.nodup,fun b hb=>O.src b (hs.subset hb)⟩;rcases List.mem_cons.1 hx with rfl|hx
 ·exact hq.ok w (O.own (dm q) aw)
 ·exact O.own x (by simp [hx])
def fc (p:CP)(b:Nat)(v:Value):Prop:=∀w,p.ok w→w.cell? (aa b)=some v
def fc.le (h:fc p b v)(hq:p.le q):fc q b v:=fun w hw=>h w (hq.ok w hw)
def fc.now (h:fc p b v)(hp:p.ok Z)(O:St Z [] w L):w.cell? (aa b)=some v:=h w (CP.now hp O)
def St.aoZ {t:Nat}(O:St Z M w (.ob b t [v]::dm p::L)):∃q:CP,p.le q∧fc q b v∧St Z M w (dm q::L):=by
 refine⟨p.add (.ob b t [v]),CP.Lx,fun w hw=>?_,O.Ki⟩;have h:w.heap[b]?=some (.cells [v].toArray t (0,0)):=hw.1;have:=DE h 0
 simpa [Addr.add] using this
def St.abp {h:aC}{T:Nat}{l:List FV}(O:St Z M w (ax h.v T mI l::dm p::L)):∃q:CP,p.le q∧(∀w,q.ok w→aG w [] h.v mI l)∧St Z M w (dm q::L):=
 ⟨p.add (ax h.v T mI l),CP.Lx,fun w hw=>an.rd (e:=T) hw.1 (fun _ _ hb=>by cases hb),O.Ki⟩
def St.mM {r:CP}{t:Nat}(O:St Z M w (.ob b t [v]::dm p::L)):∃q:CP,p.le q∧fc (r.and q) b v∧St Z M w (dm q::L):=by
 obtain⟨q,h1,h2,h3⟩:=O.aoZ;exact⟨q,h1,h2.le CP.aeO,h3⟩
def St.QS {r:CP}{h:aC}{T:Nat}{l:List FV}(O:St Z M w (ax h.v T mI l::dm p::L)):∃q:CP,p.le q∧(∀w,(r.and q).ok w→aG w [] h.v mI l)∧St Z M w (dm q::L):=by
 obtain⟨q,h1,h2,h3⟩:=O.abp;exact⟨q,h1,fun w hw=>h2 w hw.2,h3⟩
def St.gw {r:CP}(hp:r.ok Z)(O:St Z [] w L)(i:Nat)(hi:L[i]?=some (dm p)):(r.and p).ok w:=⟨CP.now hp O,O.adb i hi⟩
end
def bS.T6 {x y:W}(hy:y∈x.ae):aL y.er<aL x.er:=by
 obtain⟨i,hi⟩:=List.getElem?_of_mem hy;have:=dO hi;omega
mutual
def qY:X→Prop
 | .mk k _ _ l=>(-9223372036854775808≤k∧k≤9223372036854775807)∧Bw l
def Bw:List X→Prop
 | []=>True
 |a::l=>qY a∧Bw l
end
def Jj:∀{l:List X},Bw l↔∀a∈l,qY a
 | []=>⟨fun _ _ h=>(by cases h),fun _=>by simp only[Bw]⟩
 |a::l=>by
  simp only[Bw,iS,forall_eq_or_imp];rw[Jj]
def Ru {n:X}:qY n↔(-9223372036854775808≤n.kind∧n.kind≤9223372036854775807)∧∀a∈n.ae,qY a:=by
 cases n;simp only[qY,Jj];exact Iff.rfl
def Sz (m:Nat)(n:X):Prop:=aL n<m∧qY n
def Sz.kind {m:Nat}{x:W}(h:Sz m x.er): -9223372036854775808≤x.kind∧x.kind≤9223372036854775807:=by
 have:=(Ru.1 h.2).1
 rwa [W.a8] at this
def Sz.ae {m:Nat}{x:W}(h:Sz (m+1) x.er):∀y∈x.ae,Sz m y.er:=fun y hy=>by
 have h1:=bS.T6 hy;refine⟨by have:=h.1;omega,(Ru.1 h.2).2 _ ?_⟩;rw[W.cq];exact List.mem_map_of_mem hy
def Sz.up {m:Nat}{n:X}(h:Sz m n):Sz (m+1) n:=⟨Nat.lt_succ_of_lt h.1,h.2⟩
def aE (g:Nat):FV:=⟨g,[],[]⟩
def Enters (P:Program)(g:Nat):Prop:=∀args w,(callFunc g args).run P w=.ok (.enter g args) w
def mc (P:Program)(p:CP)(t:FV)(f:List UInt8→Bool):Prop:=Enters P t.g∧∀(s:List UInt8) (Z:World),cL Z []→p.ok Z→aH P t.g (t.fs++[str s]++t.cs).toArray Z (fun v w'=>v=.bool (f s)∧St Z [] w' [])
def w6 (P:Program)(p:CP)(t:FV)(f:Int→Bool):Prop:=Enters P t.g∧∀(n:Int) (Z:World),p.ok Z→aH P t.g (t.fs++[i64 n]++t.cs).toArray Z (fun v w'=>v=.bool (f n)∧St Z [] w' [])
def cj (P:Program)(p:CP)(m:Nat)(t:FV)(f:X→Bool):Prop:=Enters P t.g∧∀(x:W) (Z:World),Sz m x.er→cL Z []→p.ok Z→bS Z [] x→aH P t.g (t.fs++[Value.agg (av.cells x).toArray]++t.cs).toArray Z (fun v w'=>v=.bool (f x.er)∧St Z [] w' [])
def jW (P:Program)(p:CP)(m:Nat)(t:FV)(f:List X→Bool):Prop:=Enters P t.g∧∀(l:List W) (h:aC) (Z:World),(∀y∈l,Sz m y.er)→cL Z []→p.ok Z→aG Z [] h.v av l→(∀y∈l,bS Z [] y)→aH P t.g (t.fs++[h.v]++t.cs).toArray Z (fun v w'=>v=.bool (f (l.map W.er))∧St Z [] w' [])
section
variable {P:Program} {p q:CP} {m m':Nat} {t:FV} {f:X→Bool} {lf:List X→Bool}
def mc.le {nf:List UInt8→Bool}(h:mc P p t nf)(hq:p.le q):mc P q t nf:=⟨h.1,fun s Z h1 h2=>h.2 s Z h1 (hq.ok _ h2)⟩
def w6.le {nf:Int→Bool}(h:w6 P p t nf)(hq:p.le q):w6 P q t nf:=⟨h.1,fun s Z h2=>h.2 s Z (hq.ok _ h2)⟩
def cj.le (h:cj P p m t f)(hq:p.le q):cj P q m t f:=⟨h.1,fun x Z h1 hg h2 h3=>h.2 x Z h1 hg (hq.ok _ h2) h3⟩
def jW.le (h:jW P p m t lf)(hq:p.le q):jW P q m t lf:=⟨h.1,fun l hd Z h1 hg h2 h3 h4=>h.2 l hd Z h1 hg (hq.ok _ h2) h3 h4⟩
def cj.ge (h:cj P p m t f)(hm:m'≤m):cj P p m' t f:=⟨h.1,fun x Z h1 h2 h3=>h.2 x Z ⟨Nat.lt_of_lt_of_le h1.1 hm,h1.2⟩ h2 h3⟩
end
def Gh (P:Program)(p:CP)(t:FV)(f:X→Bool)(l:List W):Prop:=Enters P t.g∧∀y∈l,∀(Z:World),cL Z []→p.ok Z→bS Z [] y→aH P t.g (t.fs++[Value.agg (av.cells y).toArray]++t.cs).toArray Z (fun v w'=>v=.bool (f y.er)∧St Z [] w' [])
def cj.on {P:Program}{p:CP}{m:Nat}{t:FV}{f:X→Bool}{l:List W}(h:cj P p m t f)(hs:∀y∈l,Sz m y.er):Gh P p t f l:=⟨h.1,fun y hy Z=>h.2 y Z (hs y hy)⟩
def bE (P:Program)(p:CP)(m:Nat):List FV→List (X→Bool)→Prop
 | [],[]=>True
 |t::l,f::r=>cj P p m t f∧bE P p m l r
 |_,_=>False
def bE.nil {P:Program}{p:CP}{m:Nat}:bE P p m [] []:=trivial
def bE.cons {P:Program}{p:CP}{m:Nat}{t:FV}{f:X→Bool}{l:List FV}{r:List (X→Bool)}(h:cj P p m t f)(hs:bE P p m l r):bE P p m (t::l) (f::r):=⟨h,hs⟩
def bE.le {P:Program}{p q:CP}{m:Nat}(hq:p.le q):∀{l:List FV} {r:List (X→Bool)},bE P p m l r→bE P q m l r
 | [],[],_=>trivial
 |_::_,_::_,h=>⟨h.1.le hq,bE.le hq h.2⟩
def bE.len {P:Program}{p:CP}{m:Nat}:∀{l:List FV} {r:List (X→Bool)},bE P p m l r→l.length=r.length
 | [],[],_=>rfl
 |_::_,_::_,h=>by rw[bg,bg,bE.len h.2]
def bE.get {P:Program}{p:CP}{m:Nat}:∀{l:List FV} {r:List (X→Bool)} {i:Nat} {t:FV},bE P p m l r→l[i]?=some t→∃f,r[i]?=some f∧cj P p m t f
 |_::_,g::_,0,t,h,ht=>by cases ht;exact⟨g,rfl,h.1⟩
 |_::l,_::r,i+1,t,h,ht=>bE.get (l:=l) (r:=r) (i:=i) h.2 (by simpa using ht)
structure cT where
 nm:FV
 nu:FV
 sb:FV
def cT.v (r:cT):Value:=.agg #[r.nm.v,r.nu.v,r.sb.v]
structure gy where
 nm:List UInt8→Bool
 nu:Int→Bool
 sb:List X→Bool
def gy.ok (r:gy)(n:X):Bool:=r.nm n.name&&r.nu n.n&&r.sb n.ae
structure yt (P:Program)(p:CP)(m:Nat)(r:cT)(b:gy):Prop where
 nm:mc P p r.nm b.nm
 nu:w6 P p r.nu b.nu
 sb:jW P p m r.sb b.sb
def yt.le {P:Program}{p q:CP}{m:Nat}{r:cT}{b:gy}(h:yt P p m r b)(hq:p.le q):yt P q m r b:=⟨h.nm.le hq,h.nu.le hq,h.sb.le hq⟩
def dL (P:Program)(p:CP)(m:Nat)(G:Int→Option cT)(g:Int→Option gy):Prop:=∀k,match G k,g k with
 |none,none=>True
 |some r,some b=>yt P p m r b
 |_,_=>False
def dL.le {P:Program}{p q:CP}{m:Nat}{G:Int→Option cT}{g:Int→Option gy}(h:dL P p m G g)(hq:p.le q):dL P q m G g:=fun k=>by
 have:=h k
 revert this
 cases G k<;>cases g k<;>first|exact id|exact fun h=>h.le hq
def dL.nil {P:Program}{p:CP}{m:Nat}:dL P p m (fun _=>none) (fun _=>none):=fun _=>trivial
def dL.put {P:Program}{p:CP}{m:Nat}{G:Int→Option cT}{g:Int→Option gy}(h:dL P p m G g)(k:Int){r:cT}{b:gy}(hr:yt P p m r b):
  dL P p m (fun j=>if j=k then some r else G j) (fun j=>if j=k then some b else g j):=fun j=>by
 by_cases e:j=k
 ·simp only[if_pos e];exact hr
 ·simp only[if_neg e];exact h j
def dL.none {P:Program}{p:CP}{m:Nat}{G:Int→Option cT}{g:Int→Option gy}(h:dL P p m G g){k:Int}(hk:G k=none):g k=Option.none:=by
 have:=h k;rw[hk] at this
 cases hg:g k with
 |none=>rfl
 |some b=>rw[hg] at this;exact this.elim
def dL.some {P:Program}{p:CP}{m:Nat}{G:Int→Option cT}{g:Int→Option gy}(h:dL P p m G g){k:Int}{r:cT}(hk:G k=Option.some r):∃b,g k=Option.some b∧yt P p m r b:=by
 have:=h k;rw[hk] at this
 cases hg:g k with
 |none=>rw[hg] at this;exact this.elim
 |some b=>rw[hg] at this;exact⟨b,rfl,this⟩
def ve (P:Program)(TI:Nat)(p:CP)(m:Nat)(t:FV)(g:Int→Option gy):Prop:=Enters P t.g∧∀(Z:World),cL Z []→p.ok Z→aH P t.g (t.fs++[]++t.cs).toArray Z (fun v w'=>∃(b n:Nat) (q:CP) (f:Lit→Option Value) (G:Int→Option cT),v=.map (some b)∧kK f (fun k=>(G k).map cT.v)∧dL P (p.and q) m G g∧(∀w,(p.and q).ok w→iZ P w TI b n f)∧St Z [] w' [dm q])
def ve.le {P:Program}{TI:Nat}{p q:CP}{m:Nat}{t:FV}{g:Int→Option gy}(h:ve P TI p m t g)(hq:p.le q):ve P TI q m t g:=⟨h.1,fun Z hg hp=>(h.2 Z hg (hq.ok _ hp)).mono fun v w' ⟨b,n,r,f,G,h1,h2,h3,h4,h5⟩=>
  have hl:(p.and r).le (q.and r):=⟨hq.bs.append (List.Sublist.refl _),fun w hw=>⟨hq.ok w hw.1,hw.2⟩⟩
  ⟨b,n,r,f,G,h1,h2,h3.le hl,fun w hw=>h4 w (hl.ok w hw),h5⟩⟩
def St.ML {P:Program}{Z w:World}{M:List Nat}{L:List an}{p:CP}{k:TypeId}{b n:Nat}{f:Lit→Option Value}(O:St Z M w (an.mQ P k b n f::dm p::L)):∃q:CP,p.le q∧(∀w,q.ok w→iZ P w k b n f)∧St Z M w (dm q::L):=
 ⟨p.add (an.mQ P k b n f),CP.Lx,fun _ hw=>hw.1,O.Ki⟩
open Go.Maps Go.WideAt in
def apd {P:Program}{k e t:TypeId}{w:World}{o:Oper}{a:Act}{x y:Operand}{b n:Nat}{f:Lit→Option Value}{z:Value}{g:Int→Option Value}{m:Int}(h:iZ P w k b n f)(hf:kK f g)(hk:P.underlying k=some (.int .i64))(ht:P.underlying t=some (.map k e))(hz:(zeroValue e).run P w=.ok z w)(ho:o.op=.lookup t x y true)(hx:a.eval x=.map (some b))(hy:a.eval y=i64 m)(hm: -9223372036854775808≤m∧m≤9223372036854775807):
  QV P o a w (.tuple #[(g m).getD z,.bool (g m).isSome]):=by
 have hrun:=iZ.look true h (Go.Maps.int_keyed hk) ht hz (keyOf_int_mk hk (Kq hm));rw[hf m] at hrun;have hrun:(Instr.lookup t (.map (some b)) (i64 m) true).run P w=_:=hrun;simp [QV,execOp,ho,hx,hy,hrun]
def cE (kind:Int)(nf:List UInt8→Bool)(lf:List X→Bool)(n:X):Bool:=decide (n.kind=kind)&&decide (n.n=0)&&nf n.name&&lf n.ae
def cg:List (X→Bool)→List X→Bool
 | [],[]=>true
 |f::r,a::l=>f a&&cg r l
 |_,_=>false
def gk (lo hi:Int)(f:X→Bool)(l:List X):Bool:=decide (lo≤l.length)&&decide (hi<0∨(l.length:Int)≤hi)&&l.all f
def tS (f:X→Bool)(lf:List X→Bool):List X→Bool
 | []=>false
 |a::l=>f a&&lf l
def lh (fs:List (X→Bool))(n:X):Bool:=fs.any fun f=>f n
def gz (l:List X):Bool:=l.isEmpty
def kJ (g:Int→Option gy)(n:X):Bool:=match g n.kind with
 |none=>false
 |some b=>b.ok n
def fe (lo:Int)(f:X→Bool):X→Bool:=cE 1 List.isEmpty (gk lo (-1) f)
def gS (f g:X→Bool):Nat→List X→Bool
 |_,[]=>true
 |i,a::l=>(if i % 2=0 then f a else g a)&&gS f g (i+1) l
def pQ (f g:X→Bool)(l:List X):Bool:=gS f g 0 l&&decide (l.length>2)&&decide (l.length % 2=1)
def rv (o:Option cT):Value×Value×Value:=match o with
 |none=>(.nilFunc,.nilFunc,.nilFunc)
 |some r=>(r.nm.v,r.nu.v,r.sb.v)
section
variable {P:Program} {w Z:World} {o:Oper} {a:Act} {x y:Operand} {M:List Nat} {L:List an}
def IB {k e t:TypeId}{b n:Nat}{f:Lit→Option Value}{G:Int→Option cT}{m:Int}{r:Option cT}(h:iZ P w k b n f)(hf:kK f (fun k=>(G k).map cT.v))(hk:P.underlying k=some (.int .i64))(ht:P.underlying t=some (.map k e))(hz:(zeroValue e).run P w=.ok (.agg #[.nilFunc,.nilFunc,.nilFunc]) w)(ho:o.op=.lookup t x y true)(hx:a.eval x=.map (some b))(hy:a.eval y=i64 m)(hm: -9223372036854775808≤m∧m≤9223372036854775807)(hr:r=G m):
  QV P o a w (.tuple #[.agg #[(rv r).1,(rv r).2.1,(rv r).2.2],.bool r.isSome]):=by
 have hq:=apd h hf hk ht hz ho hx hy hm;subst hr
 cases hg:G m with
 |none=>rw[hg] at hq;exact hq
 |some r=>rw[hg] at hq;exact hq
def QV.eq {v u:Value}(h:QV P o a w v)(e:v=u):QV P o a w u:=e▸h
def uw (ho:o.op=.pick x y (.const (.bool false)))(hx:a.eval x=.bool false):QV P o a w (.bool (decide False)):=by
 have h:=j3 (P:=P) (w:=w) (b:=false) (c:=false) (p:=False) (q:=False) (ip:=inferInstance) (iq:=inferInstance) ho hx aw (fun h=>by simp [dk] at h) aw
 simpa using h
def LC {z:Operand}(ho:o.op=.pick x (.const (.bool true)) z)(hx:a.eval x=.bool true):QV P o a w (.bool true):=by
 have h:=r_ (P:=P) (w:=w) (b:=true) (c:=true) (p:=True) (q:=True) (ip:=inferInstance) (iq:=inferInstance) ho hx aw (fun h=>by simp [dk] at h) aw
 simpa using h
def Kt {z:Operand}{c:Bool}(ho:o.op=.pick x (.const (.bool true)) z)(hx:a.eval x=.bool false)(hz:a.eval z=.bool c):QV P o a w (.bool c):=by
 have h:=r_ (P:=P) (w:=w) (b:=false) (c:=c) (p:=False) (q:=c=true) (ip:=inferInstance) (iq:=inferInstance) ho hx aw (fun _=>hz) aw
 simpa using h
end
def R1 (l:List W):(l.map W.er).getD 0 cc=(l.getD 0 bH).er:=by cases l<;>rfl
def FA (x:W):sub x.er 0=(x.ae.getD 0 bH).er:=by unfold sub;rw[W.cq,R1]
def XP (x:W):arity x.er=((x.ae.getD 0 bH).ae.getD 0 bH).ae.length:=by
 unfold arity;rw[FA,FA,W.cq,dW]
def vu (f:X→Bool):Prop:=∀n,f n=true→n.kind=13→0<n.ae.length∧0< (sub n 0).ae.length
def vu.nn {f:X→Bool}(h:vu f){y:W}(hy:f y.er=true)(hk:y.kind=13):(y.ae.length:Int)>0∧((y.ae.getD 0 bH).ae.length:Int)>0:=by
 have:=h y.er hy (by rw[W.a8];exact hk);rw[W.cq,FA,W.cq,dW,dW] at this;omega
def nK (f:X→Bool)(n:X):Bool:=fe 0 f n&&fX [] n.ae
def anE {lo:Int}{f:X→Bool}{n:X}(h:fe lo f n=true):∀a∈n.ae,f a=true:=by
 simp only[fe,cE,gk,aQ,It] at h;exact h.2.2
def Ji {l:List W}{i:Nat}{y:W}{s:List UInt8}(hy:l[i]?=some y):fX s ((l.drop i).map W.er)=(if y.kind≠13∨((y.ae.getD 0 bH).ae.getD 0 bH).ae.length=0 then fX [] ((l.drop (i+1)).map W.er) else decide (y.name≠s)&&fX y.name ((l.drop (i+1)).map W.er)):=by
 rw[wZ hy,fX,W.a8,W.cf,XP]
def wH {p:Prop}{_:Decidable p}(h:dk (.bool (decide (¬p))) false=true):p:=Decidable.not_not.1 (vX h)
def uO (n:List UInt8):Lit:=.string n
def arl {m n:List UInt8}(h:uO m=uO n):m=n:=by injection h
open Go.Maps Go.WideAt in
def U5 {P:Program}{k:TypeId}(h:P.underlying k=some .string){n:List UInt8}(hn:n.length≤9223372036854775807):keyOf P k (str n)=some (uO n):=by
 have h2:(⟨n.toArray⟩:ByteArray).size≤maxLen:=by show n.toArray.size≤_;unfold maxLen;simp;omega
 simp only[keyOf,mapKey,h,str];rw[if_pos h2];simp [uO]
def zC (f:Lit→Option Value)(g:List UInt8→Option Value):Prop:=∀n,f (uO n)=g n
def ab7:zC (fun _=>none) (fun _=>none):=fun _=>rfl
def zC.put {f:Lit→Option Value}{g:List UInt8→Option Value}(h:zC f g)(n:List UInt8)(v:Value):zC (qN f (uO n) v) (fun m=>if m=n then some v else g m):=fun m=>by
 unfold qN
 by_cases e:m=n
 ·subst e;simp
 ·have e2:¬uO m=uO n:=fun h=>e (arl h);simp only[e,e2,if_false];exact h m
section
variable {P:Program} {o:Oper} {a:Act} {w Z:World} {M:List Nat} {L:List an} {t e k:TypeId} {b c i:Nat} {f:Lit→Option Value} {g:List UInt8→Option Value} {x y u:Operand} {n:List UInt8} {v z:Value}
open Go.Maps Go.WideAt in
def alH (O:St Z M w L)(hi:L[i]?=some (an.mQ P k b c f))(hf:zC f g)(hk:P.underlying k=some .string)(ht:P.underlying t=some (.map k e))(hz:(zeroValue e).run P w=.ok z w)(ho:o.op=.lookup t x y true)(hx:a.eval x=.map (some b))(hy:a.eval y=str n)(hn:n.length≤9223372036854775807):QV P o a w (.tuple #[(g n).getD z,.bool (g n).isSome]):=by
 have h:=Sl O hi (string_keyed hk) ht hz ho hx hy (U5 hk hn)
 rwa [hf n] at h
open Go.Maps Go.WideAt in
def Ce (O:St Z M w L)(hi:L[i]?=some (an.mQ P k b c f))(hk:P.underlying k=some .string)(ht:P.underlying t=some (.map k e))(hc:c<9223372036854775807)
  (ho:o.op=.insert t x y u) (hx:a.eval x=.map (some b)) (hy:a.eval y=str n) (hu:a.eval u=v) (hn:n.length≤9223372036854775807):bG P o a w (fun u w'=>u=undef∧St Z M w' (L.set i (an.mQ P k b (c+1) (qN f (uO n) v)))):=
 VL O hi (string_keyed hk) ht (by unfold maxLen;exact hc) ho hx hy hu (U5 hk hn)
end
section
variable {sp:List UInt8→Int→Bool}
def aq9 (n:X):cE 0 List.isEmpty gz n=ox n:=by simp [cE,ox,gz,fP]
def afT (n:X):cE 52 (qj sp) gz n=jc sp n:=by simp [cE,jc,gz,fP]
def type52 {n:X}(h:n.kind=52):ff sp n=jc sp n:=by
 obtain⟨k,s,i,l⟩:=n;simp only[X.kind] at h;subst h;rw[ff.eq_def];simp only[if_true,jc,X.kind,X.n,X.name,X.ae,decide_true,iV,fP]
 rfl
def type53 {n:X}(h:n.kind=53):ff sp n=cE 53 (qQ sp) gz n:=by
 obtain⟨k,s,i,l⟩:=n;simp only[X.kind] at h;subst h;rw[ff.eq_def];simp only[show ¬(53:Int)=52 by decide,if_true,if_false,cE,gz,X.kind,X.n,X.name,X.ae,decide_true,iV,fP]
 rfl
def I3 (f g:X→Bool)(l:List X):cg [f,g] l=(match l with| [a,b]=>f a&&g b|_=>false):=by
 match l with
 | []=>rfl
 | [a]=>simp [cg]
 | [a,b]=>simp [cg]
 |a::b::c::l=>simp [cg]
def nZ (f:X→Bool)(l:List X):cg [f] l=(match l with| [a]=>f a|_=>false):=by
 match l with
 | []=>rfl
 | [a]=>simp [cg]
 |a::b::l=>simp [cg]
def UW (f g h:X→Bool)(l:List X):cg [f,g,h] l=(match l with| [a,b,c]=>f a&&(g b&&h c)|_=>false):=by
 match l with
 | []=>rfl
 | [a]=>simp [cg]
 | [a,b]=>simp [cg]
 | [a,b,c]=>simp [cg]
 |a::b::c::d::l=>simp [cg]
def type54 {n:X}(h:¬n.kind=52)(h2:¬n.kind=53):ff sp n=cE 54 List.isEmpty (cg [ff sp,ff sp]) n:=by
 obtain⟨k,s,i,l⟩:=n;simp only[X.kind] at h h2;rw[ff.eq_def];simp only[h,h2,if_false,cE,X.kind,X.n,X.name,X.ae,I3];rw[←fP,←fP,Bool.and_comm (decide (i=0))]
 match l with
 | []=>rfl
 | [a]=>rfl
 | [a,b]=>rfl
 |a::b::c::l=>rfl
def uD (sp:List UInt8→Int→Bool)(l:List X):Bool:=match l with| [_,b]=>jc sp b|_=>false
def ahP (l:List W):decide ((l.length:Int)=2∧jc sp (l.getD 1 bH).er=true)=uD sp (l.map W.er):=by
 match l with
 | []=>rfl
 | [a]=>simp [uD]
 | [a,b]=>simp [uD]
 |a::b::c::l=>simp [uD];omega
def WA {l:List W}(h:(l.length:Int)=2):l[1]?=some (l.getD 1 bH):=by
 rw[List.getD_eq_getElem?_getD,List.getElem?_eq_getElem V];rfl
def Q4 {l:List W}(h:(l.length:Int)=2):l.getD 1 bH∈l:=bV (WA h)
def amv {y:W}{j:Nat}(hk:y.kind=54)(h:cE 54 List.isEmpty (uD sp) y.er=true):y.ae.length=2∧gQ sp y.er j=gQ sp (y.ae.getD 0 bH).er (j+1):=by
 obtain⟨k,s,n,a,c,hd,l⟩:=y;simp only[cE,aQ,W.a8,W.cO,W.cf,W.cq] at h;obtain⟨⟨⟨h1,h2⟩,h3⟩,h4⟩:=h;have hk:k=54:=hk;have h2':n=0:=j4 h2;have h3':s=[]:=List.isEmpty_iff.1 h3;simp only[W.ae] at h4 ⊢;clear h1 h2 h3;subst hk h2' h3'
 match l,h4 with
 | [u,v],h4=>
  refine⟨rfl,?_⟩;have h4:jc sp v.er=true:=h4;show gQ sp (W.mk 54 [] 0 a c hd [u,v]).er j=gQ sp u.er (j+1);rw[bM,gQ.eq_def];simp [h4]
def ajJ {y:W}{j:Nat}(hk:y.kind=54)(h:¬cE 54 List.isEmpty (uD sp) y.er=true):gQ sp y.er j=false:=by
 obtain⟨k,s,n,a,c,hd,l⟩:=y;have hk:k=54:=hk;subst hk;rw[bM] at h ⊢;rw[gQ.eq_def];simp only[cE,X.kind,X.n,X.name,X.ae] at h;simp only[if_true]
 match l,h with
 | [],h=>simp
 | [u],h=>simp
 | [u,v],h=>
  simp only[bf,bX,uD,decide_true,iV,aQ,cx] at h;simp only[bf,bX];rw[←Bool.not_eq_true];simp only[aQ,cx];exact fun e=>h ⟨⟨decide_eq_true e.1.1,e.1.2⟩,e.2.1⟩
 |u::v::z::l,h=>simp
def VJ {n:X}{j:Nat}(hk:¬n.kind=54):gQ sp n j=(decide (n.kind=53)&&ff sp n&&(match kE n.name with|none=>true|some f=>decide (j=0∨j=f))):=by
 obtain⟨k,s,i,l⟩:=n;simp only[X.kind] at hk;rw[gQ.eq_def];simp only[hk,if_false,X.kind,X.name];cases kE s<;>rfl
def aoh (x:W):decide ((x.kind=24∧(x.ae.length:Int)=0)∧((x.n=1∧se sp x.name=true)∨(x.n=0∧isVar sp x.name=true)))=eK sp x.er:=by
 rw[eK,W.a8,W.cO,W.cf,W.cq,Bool.eq_iff_iff];simp only[cx,aQ,fW,dQ,List.map_eq_nil_iff];constructor
 ·rintro⟨⟨h1,h2⟩,h3⟩;exact⟨⟨h1,kj V⟩,h3⟩
 ·rintro⟨⟨h1,h2⟩,h3⟩;exact⟨⟨h1,by rw[h2];rfl⟩,h3⟩
def am4 (x:W):decide (x.n=1∧eK sp x.er=true)=j6 sp x.er:=by
 rw[j6,W.cO,Bool.eq_iff_iff];simp
def ap0 (x:W):decide (x.kind=40∨x.kind=41)=mi x.er:=by rw[mi,W.a8]
def ap1 (n:X):cE 4 (fun s=>isVar sp s||gg sp s) gz n=yL sp n:=by simp [cE,yL,gz]
def rG (lo:Nat)(f:X→Bool)(n:X):fe lo f n=iY lo f n:=by
 simp only[fe,cE,gk,iY];rw[Bool.eq_iff_iff];simp [and_assoc]
end
def xM (s:List UInt8):Option Value:=(kE s).map fun k=>i64 k
def apF (s:List UInt8):(if s=gM then some (i64 3) else if s=dC then some (i64 2) else if s=gY then some (i64 2) else if s=lD then some (i64 1) else if s=ji then some (i64 0) else none)=xM s:=by
 unfold xM kE
 by_cases h1:s=ji
 ·subst h1;rfl
 by_cases h2:s=lD
 ·subst h2;rfl
 by_cases h3:s=gY
 ·subst h3;rfl
 by_cases h4:s=dC
 ·subst h4;rfl
 by_cases h5:s=gM
 ·subst h5;rfl
 simp [h1,h2,h3,h4,h5]
def kK.gG {f:Lit→Option Value}{G:Int→Option cT}(h:kK f (fun k=>(G k).map cT.v))(n:Int)(r:cT):kK (qN f (.int .i64 n) r.v) (fun k=>((fun j=>if j=n then some r else G j) k).map cT.v):=fun m=>by
 rw[kK.put h n r.v m];dsimp only
 by_cases e:m=n
 ·rw[if_pos e,if_pos e];rfl
 ·rw[if_neg e,if_neg e]
def Ns:kK (fun _=>none) (fun k=>((fun _=>none:Int→Option cT) k).map cT.v):=fun _=>rfl
def Jy {g:Int→Option gy}{x:W}(h:g x.kind=none):decide False=kJ g x.er:=by
 rw[kJ,W.a8,h];rfl
def KS {g:Int→Option gy}{x:W}{b:gy}(h:g x.kind=some b):b.ok x.er=kJ g x.er:=by
 rw[kJ,W.a8,h]
def oD (f:X→Bool)(l:List X):gk 0 (-1) f l=l.all f:=by
 unfold gk;simp
def wP (f:X→Bool)(l:List X):gk 1 (-1) f l=(decide (l≠[])&&l.all f):=by
 unfold gk;rw[show decide ((-1:Int)<0∨(l.length:Int)≤ -1)=true from decide_eq_true (.inl ai),Bool.and_true]
 congr 1
 rw[Bool.eq_iff_iff];simp only[cx]
 cases l with
 |nil=>simp
 |cons a l=>simp;omega
def sk (f:X→Bool)(l:List X):gk 2 3 f l=(l.all f&&decide (l.length=2∨l.length=3)):=by
 unfold gk;rw[Bool.and_comm]
 congr 1
 rw[Bool.eq_iff_iff];simp only[aQ,cx];omega
def KL (f g:X→Bool):∀(l:List X) (i j:Nat),i % 2=j % 2→gS f g i l=gS f g j l
 | [],_,_,_=>rfl
 |a::l,i,j,h=>by rw[gS,gS,KL f g l (i+1) (j+1) V,h]
section
variable {sp:List UInt8→Int→Bool}
def qn:∀l:List X,nM sp l=l.all (cK sp)
 | []=>by rw[nM.eq_def];rfl
 |a::l=>by rw[nM.eq_def,List.all_cons,←qn l]
def rI (l:List X):t_ sp l=cg [cK sp] l:=by
 match l with
 | []=>rw[t_.eq_def];rfl
 | [a]=>rw[t_.eq_def,nZ];simp
 |a::b::l=>rw[t_.eq_def,nZ];simp
def akw (n:X):r6 sp n=cE 37 (isVar sp) (cg [cK sp]) n:=by
 obtain⟨k,s,i,l⟩:=n;rw[r6.eq_def];simp only[cE,X.kind,X.n,X.name,X.ae,rI];rfl
def rT:∀l:List X,vE sp l=l.all (cE 37 (isVar sp) (cg [cK sp]))
 | []=>by rw[vE.eq_def];rfl
 |a::l=>by rw[vE.eq_def,List.all_cons,←rT l,←akw a]
def QD:∀(l:List X),(mA sp l=(gS (cK sp) (j6 sp) 0 l&&decide (l.length % 2=1)))∧(nO sp l=(gS (cK sp) (j6 sp) 1 l&&decide (l.length % 2=0)))
 | []=>⟨by rw[mA.eq_def];rfl,by rw[nO.eq_def];rfl⟩
 |a::l=>by
  obtain⟨h1,h2⟩:=QD l;constructor
  ·rw[mA.eq_def];simp only;rw[h2,gS,if_pos rfl,bg,fP]
   congr 2
   rw[Bool.eq_iff_iff];simp only[cx];omega
  ·rw[nO.eq_def];simp only;rw[h1,gS,if_neg ai,bg,fP,KL _ _ l (1+1) 0 rfl]
   congr 2
   rw[Bool.eq_iff_iff];simp only[cx];omega
def sV (l:List X):pQ (cK sp) (j6 sp) l=(decide (l.length>2)&&mA sp l):=by
 rw[(QD l).1,pQ];cases gS (cK sp) (j6 sp) 0 l<;>cases decide (l.length>2)<;>simp
def rb (nm:List UInt8→Bool)(nu:Int→Bool)(sb:List X→Bool):gy:=⟨nm,nu,sb⟩
def dL.pq {P:Program}{p:CP}{m:Nat}{G:Int→Option cT}{g:Int→Option gy}{nf:List UInt8→Bool}{uf:Int→Bool}{lf:List X→Bool}{x y z:FV}(h:dL P p m G g)(k:Int)(h1:mc P CP.e x nf)(h2:w6 P CP.e y uf)(h3:jW P p m z lf):
 dL P p m (fun j=>if j=k then Option.some (cT.mk x y z) else G j) (fun j=>if j=k then Option.some (rb nf uf lf) else g j):=h.put k (r:=cT.mk x y z) (b:=rb nf uf lf) (yt.mk (h1.le CP.bZ) (h2.le CP.bZ) h3)
def gX:Int→Bool:=fun n=>decide (n=0)
def IJ:Int→Bool:=fun n=>decide (n≥0)
def pU:List UInt8→Bool:=fun _=>true
def Ii (sp:List UInt8→Int→Bool):Int→Option gy:=fun k=>
 if k=51 then some (rb (kX sp) gX (gk 0 (-1) (cE 37 (isVar sp) (cg [cK sp]))))
 else if k=50 then some (rb (qj sp) gX (cg [cK sp]))
 else if k=49 then some (rb List.isEmpty gX (gk 0 (-1) (cK sp)))
 else if k=48 then some (rb List.isEmpty gX (gk 2 3 (cK sp)))
 else if k=47 then some (rb List.isEmpty gX (pQ (cK sp) (j6 sp)))
 else if k=46 then some (rb (kX sp) gX (gk 0 (-1) (cK sp)))
 else if k=45 then some (rb pU gX gz)
 else if k=44 then some (rb List.isEmpty IJ gz)
 else if k=43 then some (rb List.isEmpty gX gz)
 else if k=42 then some (rb (isVar sp) gX gz)
 else none
def r7 (nm:List UInt8→Bool)(sb:List X→Bool)(k i:Int)(s:List UInt8)(l:List X):(rb nm gX sb).ok (.mk k s i l)=(decide (i=0)&&(nm s&&sb l)):=by
 show (nm s&&decide (i=0)&&sb l)=_;cases nm s<;>cases decide (i=0)<;>simp
def rW (nm:List UInt8→Bool)(sb:List X→Bool)(k i:Int)(s:List UInt8)(l:List X):(rb nm IJ sb).ok (.mk k s i l)=(nm s&&decide (i≥0)&&sb l):=rfl
def aqd (n:X):kJ (Ii sp) n=cK sp n:=by
 obtain⟨k,s,i,l⟩:=n;rw[cK.eq_def];simp only[kJ,X.kind];unfold Ii
 by_cases h42:k=42
 ·subst h42;simp only[↓reduceIte,Int.reduceEq,r7,rW,pU,gz,oD,sk,qn,rI,rT,sV,fP,iV]<;>first|done|rfl
 by_cases h43:k=43
 ·subst h43;simp only[↓reduceIte,Int.reduceEq,r7,rW,pU,gz,oD,sk,qn,rI,rT,sV,fP,iV]<;>first|done|rfl
 by_cases h44:k=44
 ·subst h44;simp only[↓reduceIte,Int.reduceEq,r7,rW,pU,gz,oD,sk,qn,rI,rT,sV,fP,iV]<;>first|done|rfl
 by_cases h45:k=45
 ·subst h45;simp only[↓reduceIte,Int.reduceEq,r7,rW,pU,gz,oD,sk,qn,rI,rT,sV,fP,iV]<;>first|done|rfl
 by_cases h46:k=46
 ·subst h46;simp only[↓reduceIte,Int.reduceEq,r7,rW,pU,gz,oD,sk,qn,rI,rT,sV,fP,iV]<;>first|done|rfl
 by_cases h47:k=47
 ·subst h47;simp only[↓reduceIte,Int.reduceEq,r7,rW,pU,gz,oD,sk,qn,rI,rT,sV,fP,iV]<;>first|done|rfl
 by_cases h48:k=48
 ·subst h48;simp only[↓reduceIte,Int.reduceEq,r7,rW,pU,gz,oD,sk,qn,rI,rT,sV,fP,iV]<;>first|done|rfl
 by_cases h49:k=49
 ·subst h49;simp only[↓reduceIte,Int.reduceEq,r7,rW,pU,gz,oD,sk,qn,rI,rT,sV,fP,iV]<;>first|done|rfl
 by_cases h50:k=50
 ·subst h50;simp only[↓reduceIte,Int.reduceEq,r7,rW,pU,gz,oD,sk,qn,rI,rT,sV,fP,iV]<;>first|done|rfl
 by_cases h51:k=51
 ·subst h51;simp only[↓reduceIte,Int.reduceEq,r7,rW,pU,gz,oD,sk,qn,rI,rT,sV,fP,iV]<;>first|done|rfl
 simp only[h42,h43,h44,h45,h46,h47,h48,h49,h50,h51,if_false,Bool.and_false]
end
section
variable (sp:List UInt8→Int→Bool)
def AD:X→Bool:=cE 37 (isVar sp) (cg [bu sp])
def Dv:X→Bool:=cE 29 List.isEmpty (cg [cK sp,fD sp])
def wk:X→Bool:=cE 40 List.isEmpty (cg [cK sp,bu sp])
def sW:X→Bool:=cE 41 List.isEmpty (cg [j7 sp])
def Et (l:List X):Bool:=gk 1 (-1) (lh [bu sp,wk sp,sW sp]) l&&!mi (l.getLastD cc)
def DS (n:X):Bool:=decide (n.kind≠19)&&bu sp n
def AJ:X→Bool:=fe 1 (cE 17 List.isEmpty (cg [bu sp,bu sp]))
def BN (n:X):Bool:=decide (n.ae.length=1)&&fe 1 (cE 17 List.isEmpty (cg [ox,bu sp])) n
def u4:X→Bool:=cE 14 List.isEmpty (cg [fe 0 (cK sp),fD sp])
def mE (n:X):Bool:=cE 13 (isVar sp) (gk 1 (-1) (u4 sp)) n&&(decide (arity n>0∨n.ae.length=1)&&E0 (arity n) n.ae)
def Dj (n:X):Bool:=decide (n.kind≠42)&&cK sp n
def Ix:Int→Option gy:=fun k=>
 if k=36 then some (rb List.isEmpty gX (tS (DS sp) (gk 1 (-1) (AD sp))))
 else if k=35 then some (rb (kX sp) gX (gk 0 (-1) (AD sp)))
 else if k=34 then some (rb List.isEmpty gX (cg [eK sp,bu sp]))
 else if k=33 then some (rb List.isEmpty gX (cg [bu sp,eK sp]))
 else if k=32 then some (rb List.isEmpty gX (gk 0 (-1) (bu sp)))
 else if k=31 then some (rb List.isEmpty gX (gk 2 3 (bu sp)))
 else if k=30 then some (rb List.isEmpty gX (Et sp))
 else if k=28 then some (rb List.isEmpty gX (tS (bu sp) (gk 0 (-1) (Dv sp))))
 else if k=27 then some (rb List.isEmpty gX (cg [bu sp,bu sp,bu sp]))
 else if k=26 then some (rb List.isEmpty gX (cg [j7 sp,bu sp]))
 else if k=25 then some (rb List.isEmpty gX (cg [fe 1 (cK sp),bu sp]))
 else if k=23 then some (rb List.isEmpty gX (pQ (bu sp) (eK sp)))
 else if k=22 then some (rb List.isEmpty gX (cg [bu sp,bu sp]))
 else if k=21 then some (rb pU gX gz)
 else if k=20 then some (rb List.isEmpty IJ gz)
 else if k=19 then some (rb (kX sp) gX gz)
 else if k=18 then some (rb (isVar sp) gX gz)
 else none
end
section
variable {sp:List UInt8→Int→Bool}
def FW:∀l:List X,nQ sp l=l.all (bu sp)
 | []=>by rw[nQ.eq_def];rfl
 |a::l=>by rw[nQ.eq_def,List.all_cons,←FW l]
def Aw (l:List X):oG sp l=cg [bu sp] l:=by
 match l with
 | []=>rw[oG.eq_def];rfl
 | [a]=>rw[oG.eq_def,nZ];simp
 |a::b::l=>rw[oG.eq_def,nZ];simp
def Yt (l:List X):cg [bu sp,bu sp] l=(decide (l.length=2)&&nQ sp l):=by
 rw[FW]
 match l with
 | []=>rfl
 | [a]=>simp [cg]
 | [a,b]=>simp [cg]
 |a::b::c::l=>simp [cg]
def agG (l:List X):cg [bu sp,bu sp,bu sp] l=(decide (l.length=3)&&nQ sp l):=by
 rw[FW]
 match l with
 | []=>rfl
 | [a]=>simp [cg]
 | [a,b]=>simp [cg]
 | [a,b,c]=>simp [cg]
 |a::b::c::d::l=>simp [cg]
def qK (f:X→Bool)(fs:List (X→Bool))(a:X)(l:List X):cg (f::fs) (a::l)=(f a&&cg fs l):=rfl
def Ya:∀(l:List X),(nB sp l=(gS (bu sp) (eK sp) 0 l&&decide (l.length % 2=1)))∧(pt sp l=(gS (bu sp) (eK sp) 1 l&&decide (l.length % 2=0)))
 | []=>⟨by rw[nB.eq_def];rfl,by rw[pt.eq_def];rfl⟩
 |a::l=>by
  obtain⟨h1,h2⟩:=Ya l;constructor
  ·rw[nB.eq_def];simp only;rw[h2,gS,if_pos rfl,bg,fP]
   congr 2
   rw[Bool.eq_iff_iff];simp only[cx];omega
  ·rw[pt.eq_def];simp only;rw[h1,gS,if_neg ai,bg,fP,KL _ _ l (1+1) 0 rfl]
   congr 2
   rw[Bool.eq_iff_iff];simp only[cx];omega
def ads (l:List X):pQ (bu sp) (eK sp) l=(decide (l.length>2)&&nB sp l):=by
 rw[(Ya l).1,pQ];cases gS (bu sp) (eK sp) 0 l<;>cases decide (l.length>2)<;>simp
def aci (l:List X):cg [bu sp,eK sp] l=sF sp l:=by
 match l with
 | []=>rw[sF.eq_def];rfl
 | [a]=>rw[sF.eq_def,qK];rfl
 | [a,o]=>rw[sF.eq_def,qK,nZ]
 |a::o::c::l=>rw[sF.eq_def,qK,nZ]
def ajm (l:List X):cg [eK sp,bu sp] l=AT sp l:=by
 match l with
 | []=>rw[AT.eq_def];rfl
 |a::l=>rw[AT.eq_def,qK,←Aw]
def anS (a:X):fe 1 (cK sp) a=(decide (a.kind=1)&&decide (a.n=0)&&a.name.isEmpty&&decide (a.ae≠[])&&nM sp a.ae):=by
 simp only[fe,cE,wP,←qn,fP]
def anr (a:X):fe 0 (cK sp) a=(decide (a.kind=1)&&decide (a.n=0)&&a.name.isEmpty&&nM sp a.ae):=by
 simp only[fe,cE,oD,←qn,fP]
def ahi (l:List X):cg [fe 1 (cK sp),bu sp] l=zF sp l:=by
 match l with
 | []=>rw[zF.eq_def];rfl
 |a::l=>rw[zF.eq_def,qK,←Aw,anS]
def an3 (l:List X):cg [j7 sp,bu sp] l=Bf sp l:=by
 match l with
 | []=>rw[Bf.eq_def];rfl
 |a::l=>rw[Bf.eq_def,qK,←Aw]
def Jc (l:List X):tV sp l=cg [fD sp] l:=by
 match l with
 | []=>rw[tV.eq_def];rfl
 | [a]=>rw[tV.eq_def,nZ];simp
 |a::b::l=>rw[tV.eq_def,nZ];simp
def akE (l:List X):cg [cK sp,fD sp] l=rX sp l:=by
 match l with
 | []=>rw[rX.eq_def];rfl
 |a::l=>rw[rX.eq_def,qK,←Jc]
def aj2 (n:X):Dv sp n=qu sp n:=by
 obtain⟨k,s,i,l⟩:=n;rw[qu.eq_def];simp only[Dv,cE,X.kind,X.n,X.name,X.ae,akE];rfl
def UK:∀l:List X,uY sp l=l.all (Dv sp)
 | []=>by rw[uY.eq_def];rfl
 |a::l=>by rw[uY.eq_def,List.all_cons,←UK l,aj2]
def akZ (l:List X):tS (bu sp) (gk 0 (-1) (Dv sp)) l=zP sp l:=by
 match l with
 | []=>rw[zP.eq_def];rfl
 |a::l=>
  rw[zP.eq_def,tS,oD];show _=(bu sp a&&uY sp l);rw[UK]
def aeo (n:X):AD sp n=qS sp n:=by
 obtain⟨k,s,i,l⟩:=n;rw[qS.eq_def];simp only[AD,cE,X.kind,X.n,X.name,X.ae,Aw];rfl
def No:∀l:List X,tM sp l=l.all (AD sp)
 | []=>by rw[tM.eq_def];rfl
 |a::l=>by rw[tM.eq_def,List.all_cons,←No l,aeo]
def ajk (l:List X):tS (DS sp) (gk 1 (-1) (AD sp)) l=Ak sp l:=by
 match l with
 | []=>rw[Ak.eq_def];rfl
 |a::l=>
  rw[Ak.eq_def,tS,wP];show _=(decide (a.kind≠19)&&bu sp a&&decide (l≠[])&&tM sp l);rw[No,DS,fP,fP,fP]
def T7 (l:List X):sZ sp l=cg [j7 sp] l:=by
 match l with
 | []=>rw[sZ.eq_def];rfl
 | [a]=>rw[sZ.eq_def,nZ];simp
 |a::b::l=>rw[sZ.eq_def,nZ];simp
def aii (l:List X):cg [cK sp,bu sp] l=BF sp l:=by
 match l with
 | []=>rw[BF.eq_def];rfl
 |a::l=>rw[BF.eq_def,qK,←Aw]
def Z0 {n:X}(h:bu sp n=true):n.kind≠40∧n.kind≠41:=by
 obtain⟨k,s,i,l⟩:=n;rw[bu.eq_def] at h;constructor<;>(intro e;simp only[X.kind] at e;subst e;simp only[↓reduceIte,Int.reduceEq,Bool.and_false] at h;cases h)
def ar8 (n:X):lh [bu sp,wk sp,sW sp] n=oX sp n:=by
 obtain⟨k,s,i,l⟩:=n;have e:lh [bu sp,wk sp,sW sp] (.mk k s i l)=(bu sp (.mk k s i l)||(wk sp (.mk k s i l)||sW sp (.mk k s i l))):=by simp [lh]
 rw[e,oX.eq_def]
 by_cases h40:k=40
 ·have h1:bu sp (.mk k s i l)=false:=by
   cases hx:bu sp (.mk k s i l) with
   |false=>rfl
   |true=>exact absurd h40 (Z0 hx).1
  have h2:sW sp (.mk k s i l)=false:=by simp [sW,cE,X.kind,h40]
  rw[h1,h2,pP,pj];subst h40;simp only[↓reduceIte,wk,cE,X.kind,X.n,X.name,X.ae,aii,decide_true,iV];rfl
 ·have h2:wk sp (.mk k s i l)=false:=by simp [wk,cE,X.kind,h40]
  rw[h2,pj];simp only[if_neg h40]
  by_cases h41:k=41
  ·have h1:bu sp (.mk k s i l)=false:=by
    cases hx:bu sp (.mk k s i l) with
    |false=>rfl
    |true=>exact absurd h41 (Z0 hx).2
   rw[h1,pj];subst h41;simp only[↓reduceIte,sW,cE,X.kind,X.n,X.name,X.ae,T7,decide_true,iV];rfl
  ·have h3:sW sp (.mk k s i l)=false:=by simp [sW,cE,X.kind,h41]
   simp only[if_neg h41];rw[h3,pP]
def UO:∀l:List X,ux sp l=l.all (lh [bu sp,wk sp,sW sp])
 | []=>by rw[ux.eq_def];rfl
 |a::l=>by rw[ux.eq_def,List.all_cons,←UO l,ar8]
def ao6 (l:List X):Et sp l=(ux sp l&&decide (l≠[])&&!mi (l.getLastD cc)):=by
 rw[Et,wP,UO,Bool.and_comm (decide (l≠[]))]
def acd (n:X):kJ (Ix sp) n=bu sp n:=by
 obtain⟨k,s,i,l⟩:=n;rw[bu.eq_def];simp only[kJ,X.kind];unfold Ix
 by_cases h18:k=18
 rotate_left
 by_cases h19:k=19
 rotate_left
 by_cases h20:k=20
 rotate_left
 by_cases h21:k=21
 rotate_left
 by_cases h22:k=22
 rotate_left
 by_cases h23:k=23
 rotate_left
 by_cases h25:k=25
 rotate_left
 by_cases h26:k=26
 rotate_left
 by_cases h27:k=27
 rotate_left
 by_cases h28:k=28
 rotate_left
 by_cases h30:k=30
 rotate_left
 by_cases h31:k=31
 rotate_left
 by_cases h32:k=32
 rotate_left
 by_cases h33:k=33
 rotate_left
 by_cases h34:k=34
 rotate_left
 by_cases h35:k=35
 rotate_left
 by_cases h36:k=36
 rotate_left
 all_goals first| (subst_vars;simp only[↓reduceIte,Int.reduceEq,r7,rW,pU,gz,oD,sk,FW,Yt,agG,ads,aci,ajm,ahi,an3,akZ,ajk,ao6,No,fP,iV]<;>first|done|rfl)|simp only[h18,h19,h20,h21,h22,h23,h25,h26,h27,h28,h30,h31,h32,h33,h34,h35,h36,if_false,Bool.and_false]
def aex (n:X):cE 17 List.isEmpty (cg [bu sp,bu sp]) n=zY sp n:=by
 obtain⟨k,s,i,l⟩:=n;rw[zY.eq_def];simp only[cE,X.kind,X.n,X.name,X.ae,Yt,fP];rfl
def TG:∀l:List X,ra sp l=l.all (cE 17 List.isEmpty (cg [bu sp,bu sp]))
 | []=>by rw[ra.eq_def];rfl
 |a::l=>by rw[ra.eq_def,List.all_cons,←TG l,aex]
def aiS (l:List X):cg [ox,bu sp] l=yZ sp l:=by
 match l with
 | []=>rw[yZ.eq_def];rfl
 |a::l=>rw[yZ.eq_def,qK,←Aw]
def aac (n:X):cE 17 List.isEmpty (cg [ox,bu sp]) n=B1 sp n:=by
 obtain⟨k,s,i,l⟩:=n;rw[B1.eq_def];simp only[cE,X.kind,X.n,X.name,X.ae,aiS,fP];rfl
def Yd:∀l:List X,tj sp l=l.all (cE 17 List.isEmpty (cg [ox,bu sp]))
 | []=>by rw[tj.eq_def];rfl
 |a::l=>by rw[tj.eq_def,List.all_cons,←Yd l,aac]
def aoM (n:X):lh [AJ sp,BN sp] n=Cv sp n:=by
 have e:lh [AJ sp,BN sp] n=(AJ sp n||BN sp n):=by simp [lh]
 rw[e];obtain⟨k,s,i,l⟩:=n;rw[Cv.eq_def];simp only[AJ,BN,fe,cE,wP,←TG,←Yd,X.kind,X.n,X.name,X.ae];show (decide (k=1)&&decide (i=0)&&s.isEmpty&&(decide (l≠[])&&ra sp l)||decide (l.length=1)&&(decide (k=1)&&decide (i=0)&&s.isEmpty&&(decide (l≠[])&&tj sp l)))=(decide (k=1)&&decide (i=0)&&s.isEmpty&&decide (l≠[])&&(ra sp l||decide (l.length=1)&&tj sp l));cases decide (k=1)<;>cases decide (i=0)<;>cases s.isEmpty<;>cases decide (l≠[])<;>cases ra sp l<;>cases decide (l.length=1)<;>cases tj sp l<;>rfl
def akz (l:List X):cg [lh [AJ sp,BN sp],j7 sp] l=y6 sp l:=by
 match l with
 | []=>rw[y6.eq_def];rfl
 |a::l=>rw[y6.eq_def,qK,←T7,aoM]
def abx (n:X):cE 16 List.isEmpty (cg [lh [AJ sp,BN sp],j7 sp]) n=fD sp n:=by
 obtain⟨k,s,i,l⟩:=n;rw[fD.eq_def];simp only[cE,X.kind,X.n,X.name,X.ae,akz];rfl
def adK (l:List X):cg [fe 0 (cK sp),fD sp] l=zB sp l:=by
 match l with
 | []=>rw[zB.eq_def];rfl
 |a::l=>rw[zB.eq_def,qK,←Jc,anr]
def al9 (n:X):u4 sp n=BH sp n:=by
 obtain⟨k,s,i,l⟩:=n;rw[BH.eq_def];simp only[u4,cE,X.kind,X.n,X.name,X.ae,adK];rfl
def Vx:∀l:List X,s6 sp l=l.all (u4 sp)
 | []=>by rw[s6.eq_def];rfl
 |a::l=>by rw[s6.eq_def,List.all_cons,←Vx l,al9]
def H7 {n:X}(h:n.kind=13):mE sp n=dT sp n:=by
 obtain⟨k,s,i,l⟩:=n;simp only[X.kind] at h;subst h;rw[dT.eq_def];simp only[↓reduceIte,mE,cE,wP,←Vx,X.kind,X.n,X.name,X.ae,decide_true,iV,Cn,fP];rfl
def acr (l:List X):cg [Dj sp,fD sp] l=(decide ((l.getD 0 cc).kind≠42)&&rX sp l):=by
 match l with
 | []=>rw[rX.eq_def];simp [cg]
 |a::l=>rw[rX.eq_def,qK,←Jc,Dj,fP];rfl
def anJ {n:X}(h:n.kind≠13):cE 15 List.isEmpty (cg [Dj sp,fD sp]) n=dT sp n:=by
 obtain⟨k,s,i,l⟩:=n;simp only[X.kind] at h;rw[dT.eq_def];simp only[if_neg h,cE,X.kind,X.n,X.name,X.ae,acr,fP];rfl
def XI:∀l:List X,uQ sp l=l.all (dT sp)
 | []=>by rw[uQ.eq_def];rfl
 |a::l=>by rw[uQ.eq_def,List.all_cons,←XI l]
def abZ (n:X):nK (dT sp) n=j7 sp n:=by
 obtain⟨k,s,i,l⟩:=n;rw[j7.eq_def];simp only[nK,fe,cE,oD,←XI,X.kind,X.n,X.name,X.ae];rfl
def Kx:vu (dT sp):=fun n h hk=>by
 rw[←H7 hk] at h;obtain⟨k,s,i,l⟩:=n;simp only[mE,cE,wP,aQ] at h;obtain⟨⟨_,h1,h2⟩,_⟩:=h;have h1:=j4 h1;simp only[X.ae] at h1 h2 ⊢
 match l,h1,h2 with
 |c::l,_,h2=>
  refine⟨aw,?_⟩;simp only[List.all_cons,aQ] at h2;have hc:=h2.1;obtain⟨k',s',i',l'⟩:=c;simp only[u4,cE,aQ,X.ae] at hc;have hx:=hc.2;show 0<l'.length
  cases l' with
  |nil=>simp [cg] at hx
  |cons _ _=>simp
end
section
variable (sp:List UInt8→Int→Bool)
def xm (k:Int):X→Bool:=cE k (isVar sp) (cg [ff sp])
def EW:X→Bool:=cE 6 (se sp) (cg [lh [fe 0 (ff sp),fe 1 (xm sp 7)]])
def Eh:X→Bool:=cE 11 (gg sp) (cg [jc sp])
def BI (s:List UInt8):Bool:=decide ((s=yr∨s=xJ)∨s=xL)
def Gr (n:Int):Bool:=decide (n≥0∧n<10)
def nw:Int→Option gy:=fun k=>
 if k=12 then some (rb BI Gr (cg [fe 1 (eK sp)]))
 else if k=10 then some (rb (gg sp) gX (cg [fe 0 (Eh sp),fun n=>gQ sp n 0,nK (mE sp)]))
 else if k=8 then some (rb (gg sp) gX (cg [jc sp,fe 0 (xm sp 9)]))
 else if k=5 then some (rb (gg sp) gX (cg [fe 0 (jc sp),fe 0 (EW sp)]))
 else none
def FD:X→Bool:=cE 3 (gg sp) (cg [pY sp])
def VV:X→Bool:=cE 2 (gg sp) (cg [pY sp,fe 0 (FD sp),nK (fE sp)])
end
section
variable {sp:List UInt8→Int→Bool}
def Pt (k:Int)(n:X):xm sp k n=lp sp k n:=by
 simp only[xm,cE,lp,nZ];rfl
def apo (n:X):EW sp n=rf sp n:=by
 have e7:xm sp 7=lp sp 7:=funext (Pt 7);have h0:=rG 0 (ff sp);have h1:=rG 1 (lp sp 7);simp only[EW,cE,rf,nZ,e7]
 congr 1
 match n.ae with
 | []=>rfl
 | [a]=>simp only[lh,List.any_cons,List.any_nil,pP];rw[show fe 0 (ff sp) a=_ from h0 a,show fe 1 (lp sp 7) a=_ from h1 a]
 |a::b::l=>rfl
def aqG (n:X):Eh sp n=q7 sp n:=by
 simp only[Eh,cE,q7,nZ];rfl
def ac7 (n:X):mE sp n=uR sp n:=by
 by_cases h:n.kind=13
 ·rw[H7 h,uR,decide_eq_true h,iV]
 ·rw[uR,decide_eq_false h,Bool.false_and,mE,cE,decide_eq_false h];rfl
def abP:vu (mE sp):=fun n h hk=>Kx (sp:=sp) n (H7 hk▸h) hk
def ahx:vu (fE sp):=fun n h hk=>Kx (sp:=sp) n (by unfold fE at h;simpa [hk] using h) hk
def aaK (s:List UInt8):BI s=[yr,xJ,xL].contains s:=by
 unfold BI;rw[Bool.eq_iff_iff];simp [List.contains_iff_mem,or_assoc]
def aqw {n:X}{b:gy}(h:nw sp n.kind=some b):kJ (nw sp) n=fE sp n:=by
 have ec:EW sp=rf sp:=funext apo;have e9:xm sp 9=lp sp 9:=funext (Pt 9);have ep:Eh sp=q7 sp:=funext aqG;have ef:mE sp=uR sp:=funext ac7;unfold fE
 by_cases h5:n.kind=5
 ·have e:kJ (nw sp) n=(gg sp n.name&&decide (n.n=0)&&cg [fe 0 (jc sp),fe 0 (EW sp)] n.ae):=by
   simp only[kJ,nw,h5,↓reduceIte,Int.reduceEq];rfl
  rw[e,if_pos h5,I3,ec]
  congr 1
  match n.ae with
  | []=>rfl
  | [a]=>rfl
  | [a,b]=>show (_&&_)=(_&&_);rw[show fe 0 (jc sp) a=_ from rG 0 _ a,show fe 0 (rf sp) b=_ from rG 0 _ b]
  |a::b::c::l=>rfl
 by_cases h8:n.kind=8
 ·have e:kJ (nw sp) n=(gg sp n.name&&decide (n.n=0)&&cg [jc sp,fe 0 (xm sp 9)] n.ae):=by
   simp only[kJ,nw,h8,↓reduceIte,Int.reduceEq];rfl
  rw[e,if_neg h5,if_pos h8,I3,e9]
  congr 1
  match n.ae with
  | []=>rfl
  | [a]=>rfl
  | [a,b]=>show (_&&_)=(_&&_);rw[show fe 0 (lp sp 9) b=_ from rG 0 _ b]
  |a::b::c::l=>rfl
 by_cases h10:n.kind=10
 ·have e:kJ (nw sp) n=(gg sp n.name&&decide (n.n=0)&&cg [fe 0 (Eh sp),fun n=>gQ sp n 0,nK (mE sp)] n.ae):=by
   simp only[kJ,nw,h10,↓reduceIte,Int.reduceEq];rfl
  rw[e,if_neg h5,if_neg h8,if_pos h10,UW,ep,ef]
  congr 1
  match n.ae with
  | []=>rfl
  | [a]=>rfl
  | [a,b]=>rfl
  | [a,b,c]=>
   show (_&&(_&&nK (uR sp) c))=_;rw[nK,show fe 0 (q7 sp) a=_ from rG 0 _ a,show fe 0 (uR sp) c=_ from rG 0 _ c];simp only[fP]
  |a::b::c::d::l=>rfl
 by_cases h12:n.kind=12
 ·have e:kJ (nw sp) n=(BI n.name&&Gr n.n&&cg [fe 1 (eK sp)] n.ae):=by
   simp only[kJ,nw,h12,↓reduceIte,Int.reduceEq];rfl
  rw[e,if_neg h5,if_neg h8,if_neg h10,if_pos h12,nZ,aaK]
  congr 1
  match n.ae with
  | []=>rfl
  | [a]=>exact rG 1 _ a
  |a::b::l=>rfl
 exfalso;simp only[nw,h5,h8,h10,h12,if_false] at h;cases h
def acg {n:X}(h:nw sp n.kind=none):dT sp n=fE sp n:=by
 unfold fE
 by_cases h5:n.kind=5
 ·simp [nw,h5] at h
 by_cases h8:n.kind=8
 ·simp [nw,h8] at h
 by_cases h10:n.kind=10
 ·simp [nw,h10] at h
 by_cases h12:n.kind=12
 ·simp [nw,h12] at h
 rw[if_neg h5,if_neg h8,if_neg h10,if_neg h12]
def acj (n:X):FD sp n=oB sp n:=by
 simp only[FD,cE,oB,nZ];rfl
def mod_eq (n:X):VV sp n=qD sp n:=by
 have ei:FD sp=oB sp:=funext acj;simp only[VV,cE,qD,UW,ei]
 congr 1
 match n.ae with
 | []=>rfl
 | [a]=>rfl
 | [a,b]=>rfl
 | [a,b,c]=>
  show (_&&(_&&nK (fE sp) c))=_;rw[nK,show fe 0 (oB sp) b=_ from rG 0 _ b,show fe 0 (fE sp) c=_ from rG 0 _ c];simp only[fP]
 |a::b::c::d::l=>rfl
def UE (n:X):(ox n||fe 0 (cE 4 (fun s=>isVar sp s||gg sp s) gz) n)=pY sp n:=by
 have e:cE 4 (fun s=>isVar sp s||gg sp s) gz=yL sp:=funext ap1;rw[pY,e,show fe 0 (yL sp) n=_ from rG 0 _ n]
end
def afz {P:Program}{p:CP}{m:Nat}{G:Int→Option cT}{g:Int→Option gy}{k:Int}{o:Option cT}(h:dL P p m G g)(ho:o=G k)(hn:¬o.isSome=true):g k=none:=
 h.none (by rw[←ho];cases o<;>simp_all)
def aiL {P:Program}{p:CP}{m:Nat}{G:Int→Option cT}{g:Int→Option gy}{k:Int}{o:Option cT}(h:dL P p m G g)(ho:o=G k)(hn:¬¬o.isSome=true):∃b,g k=some b:=by
 cases o with
 |none=>simp at hn
 |some r=>obtain⟨b,hb,_⟩:=h.some ho.symm;exact⟨b,hb⟩
set_option maxHeartbeats 4000000
set_option maxRecDepth 100000
set_option linter.unusedVariables false
def apv (s:List UInt8)(Z:World)(hG:cL Z []):aH prog 65 #[str s] Z (fun v w'=>v=.bool (List.isEmpty s)∧St Z [] w' []):=by
 have O:=St.bL Z;have hp:CP.e.ok Z:=trivial;refine aS func65 ntmps65 fun a U=>?_;refine Zr 4 ?_;exact⟨congrArg Value.bool (by cases s<;>rfl),O⟩
def gO:mc prog CP.e (aE 65) (fun s=>List.isEmpty s):=⟨call65,fun s Z hG _=>apv s Z hG⟩
def aiG (s:List UInt8)(Z:World)(hG:cL Z []):aH prog 156 #[str s] Z (fun v w'=>v=.bool ((fun _=>true) s)∧St Z [] w' []):=by
 have O:=St.bL Z;have hp:CP.e.ok Z:=trivial;refine aS func156 ntmps156 fun a U=>?_;refine Zr 2 ?_;exact⟨rfl,O⟩
def YK:mc prog CP.e (aE 156) (fun s=>(fun _=>true) s):=⟨call156,fun s Z hG _=>aiG s Z hG⟩
def ap8 (n:Int)(Z:World):aH prog 70 #[i64 n] Z (fun v w'=>v=.bool (decide (n=0))∧St Z [] w' []):=by
 have O:=St.bL Z;have hp:CP.e.ok Z:=trivial;refine aS func70 ntmps70 fun a U=>?_;refine Zr 4 ?_;exact⟨rfl,O⟩
def ij:w6 prog CP.e (aE 70) (fun n=>decide (n=0)):=⟨call70,fun n Z _=>ap8 n Z⟩
def aap (n:Int)(Z:World):aH prog 155 #[i64 n] Z (fun v w'=>v=.bool (decide (n≥0))∧St Z [] w' []):=by
 have O:=St.bL Z;have hp:CP.e.ok Z:=trivial;refine aS func155 ntmps155 fun a U=>?_;refine Zr 4 ?_;exact⟨rfl,O⟩
def XV:w6 prog CP.e (aE 155) (fun n=>decide (n≥0)):=⟨call155,fun n Z _=>aap n Z⟩
def aqO (m:Nat)(l:List W)(hd:aC)(a_:∀y∈l,Sz m y.er)(Z:World)(hG:cL Z [])(hT:aG Z [] hd.v av l)(hS:∀y∈l,bS Z [] y):aH prog 64 #[hd.v] Z (fun v w'=>v=.bool (gz (l.map W.er))∧St Z [] w' []):=by
 have O:=St.bL Z;have hp:CP.e.ok Z:=trivial;refine aS func64 ntmps64 fun a U=>?_;refine Zg 2 (bA hT) fun a U=>?_;refine Zr 2 ?_;refine⟨congrArg Value.bool ?_,O⟩;cases l<;>simp [gz];omega
def qV (m:Nat):jW prog CP.e m (aE 64) (fun l=>gz l):=⟨call64,fun l hd Z a_ hG _ hT hS=>aqO m l hd a_ Z hG hT hS⟩
def acf (r:CP)(m:Nat){k:Int}{nt st:FV}{nf:List UInt8→Bool}{lf:List X→Bool}{b1 b2 b3:Nat}(h1:fc r b1 (i64 k))(h2:fc r b2 nt.v)(h3:fc r b3 st.v)(hn:mc prog r nt nf)(hs:jW prog r m st lf)(x:W)(a_:Sz (m+1) x.er)(Z:World)(hG:cL Z [])(hp:r.ok Z)(hR:bS Z [] x):aH prog 58 #[.agg (av.cells x).toArray,ptr (aa b1),ptr (aa b2),ptr (aa b3)] Z (fun v w'=>v=.bool (cE k nf lf x.er)∧St Z [] w' []):=by
 have O:=St.bL Z;refine aS func58 ntmps58 fun a U=>?_;refine Zb 4 fun v1 a w O U=>?_;refine aZ U (eD isAgg3 rfl (U.af (x:=.tmp 1) rfl) (h1.now hp O)) fun a U=>?_;refine Zw 7 fun a U=>?_;refine cG U rfl rfl rfl rfl rfl rfl (fun hg=>eD isAgg35 rfl (U.af (x:=.tmp 2) rfl) (h2.now hp O)) fun a U=>?_;refine Zw 2 fun a U=>?_;refine fS O U rfl rfl rfl rfl rfl rfl (fun hg=>pw U rfl ((U.af rfl).trans (a6 hg)) rfl (by first| (simp only[a6 hg];done)| (simp only[a6 hg];rfl)) (by rfl) hn.1 (hn.2 _ _ (hG.ba O) (CP.now hp O))) fun a w O U=>?_;refine Wb 0 fun a U=>?_;refine Zv 1 fun a U=>?_;refine cG U rfl rfl rfl rfl rfl rfl (fun hg=>eD isAgg60 rfl (U.af (x:=.tmp 3) rfl) (h3.now hp O)) fun a U=>?_;refine Zw 2 fun a U=>?_;refine fS O U rfl rfl rfl rfl rfl rfl (fun hg=>pw U rfl ((U.af rfl).trans (a6 hg)) rfl (by first| (simp only[a6 hg];done)| (simp only[a6 hg];rfl)) (by rfl) hs.1 (hs.2 x.ae x.h _ a_.ae (hG.ba O) (CP.now hp O) (hR.aK.ba O) (fun y hy=>(hR.bK y hy).ba O))) fun a w O U=>?_;refine Wb 0 fun a U=>?_;refine Zr 1 ?_;have O:=O.d [0];refine⟨congrArg Value.bool ?_,O⟩;rw[cE,W.a8,W.cO,W.cf,W.cq];simp [fP]
def aqi {r:CP}{m:Nat}{k:Int}{nt st:FV}{nf:List UInt8→Bool}{lf:List X→Bool}{b1 b2 b3:Nat}(h1:fc r b1 (i64 k))(h2:fc r b2 nt.v)(h3:fc r b3 st.v)(hn:mc prog r nt nf)(hs:jW prog r m st lf):cj prog r (m+1) ⟨58,[],[ptr (aa b1),ptr (aa b2),ptr (aa b3)]⟩ (cE k nf lf):=⟨call58,fun x Z a_ hG hp hR=>acf r m h1 h2 h3 hn hs x a_ Z hG hp hR⟩
def jZ (r p:CP)(m:Nat)(k:Int)(nt st:FV){nf:List UInt8→Bool}{lf:List X→Bool}(hn:mc prog (r.and p) nt nf)(hs:jW prog (r.and p) m st lf)(Z:World)(hA:bT Z [dm p]):aH prog 17 #[i64 k,nt.v,st.v] Z (fun v w'=>∃(q:CP) (t:FV),v=t.v∧p.le q∧cj prog (r.and q) (m+1) t (cE k nf lf)∧St Z (az [dm p]) w' [dm q]):=by
 have O:=St.init hA;refine aS func17 ntmps17 fun a U=>?_;refine Zb 1 fun c1 a w O U=>?_;refine Zb 1 fun c2 a w O U=>?_;refine Zb 4 fun c3 a w O U=>?_;refine Zr 0 ?_;have O:=O.q [2,2];obtain⟨p1,le2,C3,O⟩:=O.mM (r:=r);have O:=O.q [2];obtain⟨p4,le5,C6,O⟩:=O.mM (r:=r);have O:=O.q [1];obtain⟨p7,le8,C9,O⟩:=O.mM (r:=r);have X10:=C3.le (CP.ek (le5.trans le8):CP.le (r.and p1) (r.and p7));have X11:=C6.le (CP.ek le8:CP.le (r.and p4) (r.and p7));have X12:=hn.le (CP.ek ((le2.trans le5).trans le8):CP.le (r.and p) (r.and p7));have X13:=hs.le (CP.ek ((le2.trans le5).trans le8):CP.le (r.and p) (r.and p7));exact⟨_,⟨58,[],[ptr (aa c1),ptr (aa c2),ptr (aa c3)]⟩,rfl,((le2.trans le5).trans le8),aqi X10 X11 C9 X12 X13,O⟩
def Wx {α:Type}{l:List α}{i:Nat}{y:α}{f:α→Bool}(hno:∀t∈l.take i,f t=false)(hy:l[i]?=some y)(hc:¬f y=true):∀t∈l.take (i+1),f t=false:=by
 intro t ht;rw[List.take_add_one,hy] at ht;rcases List.mem_append.1 ht with h|h
 ·exact hno t h
 ·rw[List.mem_singleton.1 h];simpa using hc
def WX {α:Type}{l:List α}{i:Nat}{f:α→Bool}(hno:∀t∈l.take i,f t=false)(hi:l.length≤i):l.any f=false:=by
 rw[List.take_of_length_le hi] at hno;exact List.any_eq_false.2 fun t ht=>by simp [hno t ht]
def Qr {α:Type}{l:List α}{i:Nat}{y:α}{f:α→Bool}(hy:l[i]?=some y)(hc:f y=true):l.any f=true:=List.any_eq_true.2 ⟨y,bV hy,hc⟩
def St.agz {w Z:World}{M:List Nat}{L:List an}{α:Type}{E:fp α}{x:α}{b t:Nat}(O:St Z M w L)(i:Nat)(hi:L[i]?=some (.ob b t (E.cells x))):aG w [] (mX b) E [x]:=by
 have h:=O.Cw i hi;unfold aG;rw[Nl];rw[E.len] at h;exact h
def abM (r:CP)(m:Nat){fv:FV}{f:X→Bool}{l:List W}(hf:Gh prog r fv f l)(hd:aC)(Z:World)(hG:cL Z [])(hp:r.ok Z)(hT:aG Z [] hd.v av l)(hS:∀y∈l,bS Z [] y):aH prog 152 #[hd.v,fv.v] Z (fun v w'=>∃k:Int,v=i64 k∧decide (0≤k)=l.any (fun y=>f y.er)∧St Z [] w' []):=by
 have O:=St.bL Z;have hln:=aG.gi hT;refine aS func152 ntmps152 fun a U=>?_;refine Zg 2 (bA hT) fun a U=>?_;refine Zv 1 fun a U=>?_;refine cl (fun (i:Nat) a w'=>(i≤l.length∧∀t∈l.take i,(fun y:W=>f y.er) t=false)∧St Z [] w' []∧Fr a 19 [(0,hd.v),(1,fv.v),(7,i64 l.length),(8,i64 i)]) (fun (i:Nat)=>l.length - i) 0 ⟨⟨V,fun t h=>by simp at h⟩,O,U.su⟩ ?_;rintro i a w ⟨⟨hi,hno⟩,O,U⟩;refine Zi 1 (fun a U ao=>?_) fun a U ao=>?_
 ·obtain⟨y,hy⟩:=dM (l:=l) (i:=i) V;refine Zg 5 (bw i hT V) fun a U=>?_;refine Zh 0 hT hy fun a U=>?_;refine eP U (fM U rfl (U.af rfl) rfl rfl hf.1 (hf.2 y (bV hy) _ (hG.ba O) (CP.now hp O) ((hS y (bV hy)).ba O))) ?_;rintro a _ w ⟨rfl,hS⟩ U;have O:=O.k0 hS;refine Zj 0 (fun ay=>?_) fun ay=>?_
  ·refine Zr 2 ?_;exact⟨i,rfl,by rw[Qr (f:=fun y:W=>f y.er) hy ay];exact decide_eq_true V,O⟩
  ·refine Zv 2 fun a U=>?_;exact⟨i+1,⟨⟨V,Wx hno hy ay⟩,O,U.su⟩,V⟩
 ·refine Zr 1 ?_;exact⟨-1,rfl,by rw[WX (f:=fun y:W=>f y.er) hno V];rfl,O⟩
def W3 (r:CP)(m:Nat){fv:FV}{f:X→Bool}{l:List W}(hf:Gh prog r fv f l)(hd:aC)(Z:World)(hG:cL Z [])(hp:r.ok Z)(hT:aG Z [] hd.v av l)(hS:∀y∈l,bS Z [] y):aH prog 115 #[hd.v,fv.v] Z (fun v w'=>v=.bool (l.any (fun y=>f y.er))∧St Z [] w' []):=by
 have O:=St.bL Z;refine aS func115 ntmps115 fun a U=>?_;refine Yc 3 (abM r m hf hd _ (hG.ba O) (CP.now hp O) (hT.ba O) (fun y hy=>(hS y hy).ba O)) fun kx hk a w O U=>?_;refine Zr 2 ?_;exact⟨congrArg Value.bool hk,O⟩
def aeZ (r:CP)(m:Nat){b:Nat}(x:W)(a_:Sz m x.er){fv:FV}{f:X→Bool}(hf:cj prog r m fv f)(Z:World)(hG:cL Z [])(hp:r.ok Z)(hb:aG Z [] (mX b) av [x])(hR:bS Z [] x):aH prog 121 #[fv.v,ptr (aa b)] Z (fun v w'=>v=.bool (f x.er)∧St Z [] w' []):=by
 have O:=St.bL Z;refine aS func121 ntmps121 fun a U=>?_;refine Zv 2 fun a U=>?_;refine aZ U (kq isAgg28 sizeOf28 rfl (U.af rfl) (aja (hb.ba O)) rfl) fun a U=>?_;refine eP U (fM U rfl (U.af rfl) rfl rfl hf.1 (hf.2 x _ a_ (hG.ba O) (CP.now hp O) (hR.ba O))) ?_;rintro a _ w ⟨rfl,hS⟩ U;have O:=O.k0 hS;refine Zr 1 ?_;exact⟨rfl,O⟩
def agX (r:CP)(m:Nat){b:Nat}(x:W)(a_:Sz m x.er)(ts:List FV)(fs:List (X→Bool))(hts:bE prog r m ts fs)(hd:aC)(Z:World)(hG:cL Z [])(hp:r.ok Z)(hT:aG Z [] hd.v mI ts)(hb:aG Z [] (mX b) av [x])(hR:bS Z [] x):aH prog 153 #[hd.v,(FV.v ⟨121,[],[ptr (aa b)]⟩)] Z (fun v w'=>∃k:Int,v=i64 k∧decide (0≤k)=lh fs x.er∧St Z [] w' []):=by
 have O:=St.bL Z;have hln:=aG.gi hT;have hlf:=bE.len hts;refine aS func153 ntmps153 fun a U=>?_;refine Zg 2 (bA hT) fun a U=>?_;refine Zv 1 fun a U=>?_;refine cl (fun (i:Nat) a w'=>(i≤ts.length∧∀t∈fs.take i,(fun f:X→Bool=>f x.er) t=false)∧St Z [] w' []∧Fr a 19 [(0,hd.v),(1,(FV.v ⟨121,[],[ptr (aa b)]⟩)),(7,i64 ts.length),(8,i64 i)]) (fun (i:Nat)=>ts.length - i) 0 ⟨⟨V,fun t h=>by simp at h⟩,O,U.su⟩ ?_;rintro i a w ⟨⟨hi,hno⟩,O,U⟩;refine Zi 1 (fun a U ao=>?_) fun a U ao=>?_
 ·obtain⟨y,hy⟩:=dM (l:=ts) (i:=i) V;refine Zg 5 (bw i hT V) fun a U=>?_;refine Zh 0 hT hy fun a U=>?_;obtain⟨f,hg,hf⟩:=bE.get hts hy;refine eP U (fM U rfl (U.af rfl) rfl rfl call121 (aeZ r m x a_ hf _ (hG.ba O) (CP.now hp O) (hb.ba O) (hR.ba O))) ?_;rintro a _ w ⟨rfl,hS⟩ U;have O:=O.k0 hS;refine Zj 0 (fun ay=>?_) fun ay=>?_
  ·refine Zr 2 ?_;exact⟨i,rfl,by rw[lh,Qr (f:=fun f:X→Bool=>f x.er) hg ay];exact decide_eq_true V,O⟩
  ·refine Zv 2 fun a U=>?_;exact⟨i+1,⟨⟨V,Wx hno hg ay⟩,O,U.su⟩,V⟩
 ·refine Zr 1 ?_;exact⟨-1,rfl,by rw[lh,WX (f:=fun f:X→Bool=>f x.er) hno V];rfl,O⟩
def abN (r:CP)(m:Nat){b:Nat}(x:W)(a_:Sz m x.er)(ts:List FV)(fs:List (X→Bool))(hts:bE prog r m ts fs)(hd:aC)(Z:World)(hG:cL Z [])(hp:r.ok Z)(hT:aG Z [] hd.v mI ts)(hb:aG Z [] (mX b) av [x])(hR:bS Z [] x):aH prog 120 #[hd.v,(FV.v ⟨121,[],[ptr (aa b)]⟩)] Z (fun v w'=>v=.bool (lh fs x.er)∧St Z [] w' []):=by
 have O:=St.bL Z;refine aS func120 ntmps120 fun a U=>?_;refine Yc 3 (agX r m x a_ ts fs hts hd _ (hG.ba O) (CP.now hp O) (hT.ba O) (hb.ba O) (hR.ba O)) fun kx hk a w O U=>?_;refine Zr 2 ?_;exact⟨congrArg Value.bool hk,O⟩
def U4:∀{fs:List (X→Bool)} {l:List X},l.length≠fs.length→cg fs l=false
 | [],[],h=>absurd rfl h
 | [],_::_,_=>rfl
 |_::_,[],_=>rfl
 |f::fs,a::l,h=>by
  rw[cg,U4 (fs:=fs) (l:=l) (fun e=>h (by simp [e])),Bool.and_false]
def Rb {fs:List (X→Bool)}{l:List W}{i:Nat}{f:X→Bool}{a:W}(hf:fs[i]?=some f)(ha:l[i]?=some a):cg (fs.drop i) ((l.drop i).map W.er)=(f a.er&&cg (fs.drop (i+1)) ((l.drop (i+1)).map W.er)):=by
 obtain⟨h1,e1⟩:=List.getElem?_eq_some_iff.1 hf;obtain⟨h2,e2⟩:=List.getElem?_eq_some_iff.1 ha;rw[List.drop_eq_getElem_cons h1,List.drop_eq_getElem_cons h2,e1,e2,bf,cg]
def aqn {fs:List (X→Bool)}{l:List W}{i:Nat}(h1:fs.length≤i)(h2:l.length≤i):cg (fs.drop i) ((l.drop i).map W.er)=true:=by
 rw[List.drop_of_length_le h1,List.drop_of_length_le h2];rfl
def afG (f:X→Bool)(l:List W):(l.map W.er).all f=!(l.any fun y=>!f y.er):=by
 induction l with
 |nil=>rfl
 |cons a l ih=>rw[bf,List.all_cons,List.any_cons,ih,Bool.not_or,Bool.not_not]
def wb {l:List W}(h:(l.length:Int)>0):l[0]?=some (l.getD 0 bH):=by
 cases l with
 |nil=>simp at h
 |cons a l=>rfl
def nN {l:List W}(h:(l.length:Int)>0):l.getD 0 bH∈l:=bV (wb h)
def OF (i:Nat):(i:Int).tmod 2=((i % 2:Nat):Int):=by rw[Int.tmod_eq_emod_of_nonneg V];omega
def T1 {f g:X→Bool}{l:List W}{i:Nat}{y:W}(hy:l[i]?=some y):gS f g i ((l.drop i).map W.er)=((if i % 2=0 then f y.er else g y.er)&&gS f g (i+1) ((l.drop (i+1)).map W.er)):=by
 rw[wZ hy,gS]
def acG {f g:X→Bool}{l:List W}{i:Nat}(h:l.length≤i):gS f g i ((l.drop i).map W.er)=true:=by
 rw[List.drop_of_length_le h];rfl
def ajN {f g:X→Bool}{l:List W}{i:Nat}{y:W}(hy:l[i]?=some y)(hm:gS f g 0 (l.map W.er)=gS f g i ((l.drop i).map W.er))(h:((i:Int).tmod 2=0∧¬f y.er=true)∨((i:Int).tmod 2=1∧¬g y.er=true)):pQ f g (l.map W.er)=false:=by
 rw[pQ,hm,T1 hy];rw[OF] at h;have e:(if i % 2=0 then f y.er else g y.er)=false:=by
  rcases h with ⟨h1,h2⟩| ⟨h1,h2⟩
  ·rw[if_pos V];simpa using h2
  ·rw[if_neg V];simpa using h2
 rw[e];rfl
def abI {f g:X→Bool}{l:List W}{i:Nat}{y:W}(hy:l[i]?=some y)(hm:gS f g 0 (l.map W.er)=gS f g i ((l.drop i).map W.er))(h:¬(((i:Int).tmod 2=0∧¬f y.er=true)∨((i:Int).tmod 2=1∧¬g y.er=true))):gS f g 0 (l.map W.er)=gS f g (i+1) ((l.drop (i+1)).map W.er):=by
 rw[hm,T1 hy];rw[OF,not_or] at h;have e:(if i % 2=0 then f y.er else g y.er)=true:=by
  by_cases h2:i % 2=0
  ·rw[if_pos h2];have h3:=h.1;simp only[not_and,zp] at h3;exact h3 V
  ·rw[if_neg h2];have h3:=h.2;simp only[not_and,zp] at h3;exact h3 V
 rw[e,iV]
def aov {f g:X→Bool}{l:List W}{i:Nat}(hm:gS f g 0 (l.map W.er)=gS f g i ((l.drop i).map W.er))(h:l.length≤i):decide ((l.length:Int)>2∧(l.length:Int).tmod 2=1)=pQ f g (l.map W.er):=by
 rw[pQ,hm,acG h,iV,dW,Bool.eq_iff_iff,OF];simp only[cx,aQ];omega
def aq0 (r:CP)(m:Nat){hv:aC}{ts:List FV}{fs:List (X→Bool)}{b1:Nat}(h1:fc r b1 hv.v)(hr:∀w,r.ok w→aG w [] hv.v mI ts)(hts:bE prog r m ts fs)(l:List W)(hd:aC)(a_:∀y∈l,Sz m y.er)(Z:World)(hG:cL Z [])(hp:r.ok Z)(hT:aG Z [] hd.v av l)(hS:∀y∈l,bS Z [] y):aH prog 60 #[hd.v,ptr (aa b1)] Z (fun v w'=>v=.bool (cg fs (l.map W.er))∧St Z [] w' []):=by
 have O:=St.bL Z;have hln:=aG.gi hT;have hlt:=aG.gi (hr _ hp);have hlf:=bE.len hts;refine aS func60 ntmps60 fun a U=>?_;refine Zg 2 (bA hT) fun a U=>?_;refine aZ U (eD isAgg100 rfl (U.af (x:=.tmp 1) rfl) (h1.now hp O)) fun a U=>?_;refine Zg 0 (bA (hr _ (CP.now hp O))) fun a U=>?_;refine Zi 1 (fun a U ao=>?_) fun a U ao=>?_
 ·refine Zr 1 ?_;exact⟨congrArg Value.bool (U4 (by rw[dW];omega)).symm,O⟩
 ·refine Zv 0 ?_;refine aZ U (eD isAgg100 rfl (U.af (x:=.tmp 1) rfl) (h1.now hp O)) fun a U=>?_;refine Zg 0 (bA (hr _ (CP.now hp O))) fun a U=>?_;refine Zv 1 fun a U=>?_;refine cl (fun (i:Nat) a w'=>(i≤ts.length∧cg fs (l.map W.er)=cg (fs.drop i) ((l.drop i).map W.er))∧St Z [] w' []∧Fr a 26 [(0,hd.v),(1,ptr (aa b1)),(11,hv.v),(12,i64 ts.length),(13,i64 i)]) (fun (i:Nat)=>ts.length - i) 0 ⟨⟨V,rfl⟩,O,U.su⟩ ?_;rintro i a w ⟨⟨hi,he⟩,O,U⟩;refine Zi 1 (fun a U ay=>?_) fun a U ay=>?_
  ·obtain⟨tf,htf⟩:=dM (l:=ts) (i:=i) V;refine Zg 1 (bw i (hr _ (CP.now hp O)) V) fun a U=>?_;refine Zh 0 (hr _ (CP.now hp O)) htf fun a U=>?_;obtain⟨f,hg,hf⟩:=bE.get hts htf;obtain⟨y,hy⟩:=dM (l:=l) (i:=i) V;refine Zg 5 (bw i hT V) fun a U=>?_;refine Zh 0 hT hy fun a U=>?_;refine eP U (fM U rfl (U.af rfl) rfl rfl hf.1 (hf.2 y _ (a_ y (bV hy)) (hG.ba O) (CP.now hp O) ((hS y (bV hy)).ba O))) ?_;rintro a _ w ⟨rfl,hS⟩ U;have O:=O.k0 hS;refine Wn 0 fun a U=>?_;refine Zi 0 (fun aF=>?_) fun aF=>?_
   ·refine Zr 1 ?_;exact⟨congrArg Value.bool (by rw[he,Rb hg hy,Bool.not_eq_true _ |>.mp aF];rfl),O⟩
   ·refine Zv 2 fun a U=>?_;exact⟨i+1,⟨⟨V,by rw[he,Rb hg hy,Decidable.not_not.1 aF,iV]⟩,O,U.su⟩,V⟩
  ·refine Zr 1 ?_;exact⟨congrArg Value.bool (by rw[he,aqn V V]),O⟩
def ag1 {r:CP}{m:Nat}{hv:aC}{ts:List FV}{fs:List (X→Bool)}{b1:Nat}(h1:fc r b1 hv.v)(hr:∀w,r.ok w→aG w [] hv.v mI ts)(hts:bE prog r m ts fs):jW prog r m ⟨60,[],[ptr (aa b1)]⟩ (cg fs):=⟨call60,fun l hd Z a_ hG hp hT hS=>aq0 r m h1 hr hts l hd a_ Z hG hp hT hS⟩
def iL (r p:CP)(m:Nat)(hv:aC)(ts:List FV)(fs:List (X→Bool))(hts:bE prog (r.and p) m ts fs)(Z:World)(hA:bT Z [ax hv.v 58 mI ts,dm p]):aH prog 19 #[hv.v] Z (fun v w'=>∃(q:CP) (t:FV),v=t.v∧p.le q∧jW prog (r.and q) m t (cg fs)∧St Z (az [ax hv.v 58 mI ts,dm p]) w' [dm q]):=by
 have O:=St.init hA;refine aS func19 ntmps19 fun a U=>?_;refine Zv 0 ?_;refine eP U (NG O rfl (U.af rfl) (E8 (O.F5 0 rfl))) ?_;rintro a _ w ⟨c1,rfl,O⟩ U;refine Zr 3 ?_;have O:=O.q [1,1];obtain⟨p1,le2,R3,O⟩:=O.QS (r:=r);have O:=O.q [1];obtain⟨p4,le5,C6,O⟩:=O.mM (r:=r);have X7:=(fun w hw=>R3 w ((CP.ek le5:CP.le (r.and p1) (r.and p4)).ok w hw));have X8:=bE.le (CP.ek (le2.trans le5):CP.le (r.and p) (r.and p4)) hts;exact⟨_,⟨60,[],[ptr (aa c1)]⟩,rfl,(le2.trans le5),ag1 C6 X7 X8,O⟩
def amh (r:CP)(m:Nat){fv:FV}{f:X→Bool}{b3:Nat}(h3:fc r b3 fv.v)(hf:cj prog r m fv f)(x:W)(a_:Sz m x.er)(Z:World)(hG:cL Z [])(hp:r.ok Z)(hR:bS Z [] x):aH prog 116 #[.agg (av.cells x).toArray,ptr (aa b3)] Z (fun v w'=>v=.bool (!f x.er)∧St Z [] w' []):=by
 have O:=St.bL Z;refine aS func116 ntmps116 fun a U=>?_;refine Zb 2 fun v1 a w O U=>?_;refine aZ U (eD isAgg58 rfl (U.af (x:=.tmp 1) rfl) (h3.now hp O)) fun a U=>?_;refine Zv 1 fun a U=>?_;refine eP U (fM U rfl (U.af rfl) rfl rfl hf.1 (hf.2 x _ a_ (hG.ba O) (CP.now hp O) (hR.ba O))) ?_;rintro a _ w ⟨rfl,hS⟩ U;have O:=O.k0 hS;refine Wn 0 fun a U=>?_;refine Zr 1 ?_;exact⟨congrArg Value.bool aw,O.kp⟩
def aaf {r:CP}{m:Nat}{fv:FV}{f:X→Bool}{b3:Nat}(h3:fc r b3 fv.v)(hf:cj prog r m fv f):cj prog r m ⟨116,[],[ptr (aa b3)]⟩ (fun n=>!f n):=⟨call116,fun x Z a_ hG hp hR=>amh r m h3 hf x a_ Z hG hp hR⟩
def aaR (r:CP)(m:Nat){lo hi:Int}{b1 b2:Nat}(h1:fc r b1 (i64 lo))(h2:fc r b2 (i64 hi)){fv:FV}{f:X→Bool}{b3:Nat}(h3:fc r b3 fv.v)(hf:cj prog r m fv f)(l:List W)(hd:aC)(a_:∀y∈l,Sz m y.er)(Z:World)(hG:cL Z [])(hp:r.ok Z)(hT:aG Z [] hd.v av l)(hS:∀y∈l,bS Z [] y):aH prog 114 #[hd.v,ptr (aa b1),ptr (aa b2),ptr (aa b3)] Z (fun v w'=>v=.bool (gk lo hi f (l.map W.er))∧St Z [] w' []):=by
 have O:=St.bL Z;have hln:=aG.gi hT;refine aS func114 ntmps114 fun a U=>?_;refine Zg 2 (bA hT) fun a U=>?_;refine aZ U (eD isAgg3 rfl (U.af (x:=.tmp 1) rfl) (h1.now hp O)) fun a U=>?_;refine Zv 2 fun a U=>?_;refine cG U rfl rfl rfl rfl rfl rfl (fun hg=>eD isAgg3 rfl (U.af (x:=.tmp 2) rfl) (h2.now hp O)) fun a U=>?_;refine Zw 3 fun a U=>?_;refine cG U rfl rfl rfl rfl rfl rfl (fun hg=>rU hT underlying26 rfl ((U.af rfl).trans (a6 hg))) fun a U=>?_;refine cG U rfl rfl rfl rfl rfl rfl (fun hg=>eD isAgg3 rfl (U.af (x:=.tmp 2) rfl) (h2.now hp O)) fun a U=>?_;refine Zw 1 fun a U=>?_;refine cG U rfl rfl rfl rfl rfl rfl (fun hg=>r_ rfl ((U.af rfl).trans (a6 hg)) rfl (fun dV=>((U.af rfl).trans (tE hg dV))) rfl) fun a U=>?_;refine Zw 3 fun a U=>?_;refine cG U rfl rfl rfl rfl rfl rfl (fun hg=>LK U rfl rfl rfl) fun a U=>?_;refine fS O U rfl rfl rfl rfl rfl rfl (fun hg=>jo U rfl rfl (je trivial) call115 (W3 r m (cj.on (aaf h3 hf) a_) hd _ (hG.ba O) (CP.now hp O) (hT.ba O) (fun y hy=>(hS y hy).ba O))) fun a w O U=>?_;refine cG U rfl rfl rfl rfl rfl rfl (fun hg=>kT rfl ((U.af rfl).trans (a6 hg)) (eN _)) fun a U=>?_;refine Zr 2 ?_;refine⟨congrArg Value.bool ?_,O⟩;rw[gk,afG,dW,Bool.eq_iff_iff];simp [and_assoc]
def afN {r:CP}{m:Nat}{lo hi:Int}{b1 b2:Nat}(h1:fc r b1 (i64 lo))(h2:fc r b2 (i64 hi)){fv:FV}{f:X→Bool}{b3:Nat}(h3:fc r b3 fv.v)(hf:cj prog r m fv f):jW prog r m ⟨114,[],[ptr (aa b1),ptr (aa b2),ptr (aa b3)]⟩ (gk lo hi f):=⟨call114,fun l hd Z a_ hG hp hT hS=>aaR r m h1 h2 h3 hf l hd a_ Z hG hp hT hS⟩
def qF (r p:CP)(m:Nat)(lo hi:Int)(fv:FV){f:X→Bool}(hf:cj prog (r.and p) m fv f)(Z:World)(hA:bT Z [dm p]):aH prog 66 #[i64 lo,i64 hi,fv.v] Z (fun v w'=>∃(q:CP) (t:FV),v=t.v∧p.le q∧jW prog (r.and q) m t (gk lo hi f)∧St Z (az [dm p]) w' [dm q]):=by
 have O:=St.init hA;refine aS func66 ntmps66 fun a U=>?_;refine Zb 1 fun c1 a w O U=>?_;refine Zb 1 fun c2 a w O U=>?_;refine Zb 4 fun c3 a w O U=>?_;refine Zr 0 ?_;have O:=O.q [2,2];obtain⟨p1,le2,C3,O⟩:=O.mM (r:=r);have O:=O.q [2];obtain⟨p4,le5,C6,O⟩:=O.mM (r:=r);have O:=O.q [1];obtain⟨p7,le8,C9,O⟩:=O.mM (r:=r);have X10:=C3.le (CP.ek (le5.trans le8):CP.le (r.and p1) (r.and p7));have X11:=C6.le (CP.ek le8:CP.le (r.and p4) (r.and p7));have X12:=hf.le (CP.ek ((le2.trans le5).trans le8):CP.le (r.and p) (r.and p7));exact⟨_,⟨114,[],[ptr (aa c1),ptr (aa c2),ptr (aa c3)]⟩,rfl,((le2.trans le5).trans le8),afN X10 X11 C9 X12,O⟩
def alG (r:CP)(m:Nat){tf tr:FV}{f:X→Bool}{lf:List X→Bool}{b1 b2:Nat}(h1:fc r b1 tf.v)(h2:fc r b2 tr.v)(hf:cj prog r m tf f)(hs:jW prog r m tr lf)(l:List W)(hd:aC)(a_:∀y∈l,Sz m y.er)(Z:World)(hG:cL Z [])(hp:r.ok Z)(hT:aG Z [] hd.v av l)(hS:∀y∈l,bS Z [] y):aH prog 215 #[hd.v,ptr (aa b1),ptr (aa b2)] Z (fun v w'=>v=.bool (tS f lf (l.map W.er))∧St Z [] w' []):=by
 have O:=St.bL Z;have hln:=aG.gi hT;refine aS func215 ntmps215 fun a U=>?_;refine Zd 1 [0,0,0,0,1,0,0,1,2,0,0,1,0,0,3,0,0] fun a w O U=>?_;refine Zg 1 (bA hT) fun a U=>?_;refine Zv 2 fun a U=>?_;refine Cb U rfl rfl rfl rfl rfl rfl (fun hg w O=>eD isAgg58 rfl (U.af (x:=.tmp 1) rfl) (h1.now hp O)) fun a U=>?_;refine Zw 1 fun a U=>?_;refine zq U rfl rfl rfl rfl rfl rfl (fun hg w=>iK (i:=0) hT underlying26 sizeOf28 rfl ((U.af rfl).trans (a6 hg)) (U.af rfl) (by have:=gA hg;omega)) fun a U=>?_;refine Cb U rfl rfl rfl rfl rfl rfl (fun hg w O=>kq isAgg28 sizeOf28 rfl ((U.af rfl).trans (a6 hg)) (aG.cells (hT.now O) (wb (gA hg))) rfl) fun a U=>?_;refine apL O U rfl rfl rfl rfl rfl rfl (fun hg=>pw U rfl ((U.af rfl).trans (a6 hg)) rfl (by first| (simp only[a6 hg];done)| (simp only[a6 hg];rfl)) (by rfl) hf.1 (hf.2 (l.getD 0 bH) _ (a_ _ (nN (gA hg))) (hG.ba O) (CP.now hp O) ((hS _ (nN (gA hg))).ba O))) (fun _ hS=>hS) fun a w O U=>?_;refine jY U (fun w=>j3 rfl (U.af rfl) rfl (fun dV=>((U.af rfl).trans (a6 dV))) (eN _)) fun a U=>?_;refine Zv 1 fun a U=>?_;refine Cb U rfl rfl rfl rfl rfl rfl (fun hg w O=>eD isAgg60 rfl (U.af (x:=.tmp 2) rfl) (h2.now hp O)) fun a U=>?_;refine Zw 1 fun a U=>?_;refine zq U rfl rfl rfl rfl rfl rfl (fun hg w=>Bx (j:=1) hT underlying26 sizeOf28 rfl ((U.af rfl).trans (a6 hg)) (U.af rfl) (by have:=(gA hg).1;omega)) fun a U=>?_;refine WT O U rfl rfl rfl rfl rfl rfl (fun hg=>pw U rfl ((U.af rfl).trans (a6 hg)) rfl (by first| (simp only[a6 hg];done)| (simp only[a6 hg];rfl)) (by rfl) hs.1 (hs.2 (l.drop 1) (hd.ES 1 6) _ (fun z hz=>a_ z (List.mem_of_mem_drop hz)) (hG.ba O) (CP.now hp O) ((show aG Z [] (hd.ES 1 6).v av (l.drop 1) from aG.drop (j:=1) hT (by have:=(gA hg).1;omega)).ba O) (fun z hz=>(hS z (List.mem_of_mem_drop hz)).ba O))) fun a w O U=>?_;refine jY U (fun w=>j3 rfl (U.af rfl) rfl (fun dV=>((U.af rfl).trans (a6 dV))) (eN _)) fun a U=>?_;refine Zr 1 ?_;refine⟨congrArg Value.bool ?_,O⟩;cases l<;>simp [tS,fP]
def al4 {r:CP}{m:Nat}{tf tr:FV}{f:X→Bool}{lf:List X→Bool}{b1 b2:Nat}(h1:fc r b1 tf.v)(h2:fc r b2 tr.v)(hf:cj prog r m tf f)(hs:jW prog r m tr lf):jW prog r m ⟨215,[],[ptr (aa b1),ptr (aa b2)]⟩ (tS f lf):=⟨call215,fun l hd Z a_ hG hp hT hS=>alG r m h1 h2 hf hs l hd a_ Z hG hp hT hS⟩
def Ys (r p:CP)(m:Nat)(tf tr:FV){f:X→Bool}{lf:List X→Bool}(hf:cj prog (r.and p) m tf f)(hs:jW prog (r.and p) m tr lf)(Z:World)(hA:bT Z [dm p]):aH prog 192 #[tf.v,tr.v] Z (fun v w'=>∃(q:CP) (t:FV),v=t.v∧p.le q∧jW prog (r.and q) m t (tS f lf)∧St Z (az [dm p]) w' [dm q]):=by
 have O:=St.init hA;refine aS func192 ntmps192 fun a U=>?_;refine Zb 1 fun c1 a w O U=>?_;refine Zb 4 fun c2 a w O U=>?_;refine Zr 0 ?_;have O:=O.q [1,1];obtain⟨p1,le2,C3,O⟩:=O.mM (r:=r);have O:=O.q [1];obtain⟨p4,le5,C6,O⟩:=O.mM (r:=r);have X7:=C3.le (CP.ek le5:CP.le (r.and p1) (r.and p4));have X8:=hf.le (CP.ek (le2.trans le5):CP.le (r.and p) (r.and p4));have X9:=hs.le (CP.ek (le2.trans le5):CP.le (r.and p) (r.and p4));exact⟨_,⟨215,[],[ptr (aa c1),ptr (aa c2)]⟩,rfl,(le2.trans le5),al4 X7 C6 X8 X9,O⟩
def ab0 (r:CP)(m:Nat){ta tb:FV}{f g:X→Bool}{b1 b2:Nat}(h1:fc r b1 ta.v)(h2:fc r b2 tb.v)(hf:cj prog r m ta f)(w9:cj prog r m tb g)(l:List W)(hd:aC)(a_:∀y∈l,Sz m y.er)(Z:World)(hG:cL Z [])(hp:r.ok Z)(hT:aG Z [] hd.v av l)(hS:∀y∈l,bS Z [] y):aH prog 190 #[hd.v,ptr (aa b1),ptr (aa b2)] Z (fun v w'=>v=.bool (pQ f g (l.map W.er))∧St Z [] w' []):=by
 have O:=St.bL Z;have hln:=aG.gi hT;refine aS func190 ntmps190 fun a U=>?_;refine Zg 2 (bA hT) fun a U=>?_;refine Zv 1 fun a U=>?_;refine cl (fun (i:Nat) a w'=>(i≤l.length∧gS f g 0 (l.map W.er)=gS f g i ((l.drop i).map W.er))∧St Z [] w' []∧Fr a 44 [(0,hd.v),(1,ptr (aa b1)),(2,ptr (aa b2)),(7,hd.v),(8,i64 l.length),(9,i64 i)]) (fun (i:Nat)=>l.length - i) 0 ⟨⟨V,rfl⟩,O,U.su⟩ ?_;rintro i a w ⟨⟨hi,he⟩,O,U⟩;refine Zi 1 (fun a U ao=>?_) fun a U ao=>?_
 ·obtain⟨y,hy⟩:=dM (l:=l) (i:=i) V;refine Zg 1 (bw i hT V) fun a U=>?_;refine Zh 0 hT hy fun a U=>?_;refine Zb 4 fun d a w O U=>?_;refine aZ U (Hv rfl (U.af rfl) (U.af rfl) V) fun a U=>?_;refine Zv 2 fun a U=>?_;refine cG U rfl rfl rfl rfl rfl rfl (fun hg=>eD isAgg58 rfl (U.af (x:=.tmp 1) rfl) (h1.now hp O)) fun a U=>?_;refine Zw 1 fun a U=>?_;refine fS O U rfl rfl rfl rfl rfl rfl (fun hg=>pw U rfl ((U.af rfl).trans (a6 hg)) rfl (by first| (simp only[a6 hg];done)| (simp only[a6 hg];rfl)) (by rfl) hf.1 (hf.2 y _ (a_ y (bV hy)) (hG.ba O) (CP.now hp O) ((hS y (bV hy)).ba O))) fun a w O U=>?_;refine cG U rfl rfl rfl rfl rfl rfl (fun hg=>kT rfl ((U.af rfl).trans (a6 hg)) (eN _)) fun a U=>?_;refine Zw 3 fun a U=>?_;refine cG U rfl rfl rfl rfl rfl rfl (fun hg=>Hv rfl ((U.af rfl).trans (a6 hg)) (U.af rfl) V) fun a U=>?_;refine Zw 2 fun a U=>?_;refine cG U rfl rfl rfl rfl rfl rfl (fun hg=>eD isAgg58 rfl (U.af (x:=.tmp 2) rfl) (h2.now hp O)) fun a U=>?_;refine Zw 1 fun a U=>?_;refine fS O U rfl rfl rfl rfl rfl rfl (fun hg=>pw U rfl ((U.af rfl).trans (a6 hg)) rfl (by first| (simp only[a6 hg];done)| (simp only[a6 hg];rfl)) (by rfl) w9.1 (w9.2 y _ (a_ y (bV hy)) (hG.ba O) (CP.now hp O) ((hS y (bV hy)).ba O))) fun a w O U=>?_;refine cG U rfl rfl rfl rfl rfl rfl (fun hg=>kT rfl ((U.af rfl).trans (a6 hg)) (eN _)) fun a U=>?_;refine cG U rfl rfl rfl rfl rfl rfl (fun hg=>j3 rfl ((U.af rfl).trans (a6 hg)) rfl (fun dV=>((U.af rfl).trans (tE hg dV))) rfl) fun a U=>?_;refine Zi 1 (fun a U ay=>?_) fun a U ay=>?_
  ·refine Zr 1 ?_;exact⟨congrArg Value.bool (ajN hy he ay).symm,O.kp⟩
  ·refine Zv 2 fun a U=>?_;have O:=O.d [0];exact⟨i+1,⟨⟨V,abI hy he ay⟩,O,U.su⟩,V⟩
 ·refine Zg 1 (bA hT) fun a U=>?_;refine Zw 3 fun a U=>?_;refine cG U rfl rfl rfl rfl rfl rfl (fun hg=>rU hT underlying26 rfl ((U.af rfl).trans (a6 hg))) fun a U=>?_;refine cG U rfl rfl rfl rfl rfl rfl (fun hg=>Hv rfl ((U.af rfl).trans (a6 hg)) (U.af rfl) V) fun a U=>?_;refine Zw 3 fun a U=>?_;refine Zr 0 ?_;exact⟨congrArg Value.bool (aov he V),O⟩
def af7 {r:CP}{m:Nat}{ta tb:FV}{f g:X→Bool}{b1 b2:Nat}(h1:fc r b1 ta.v)(h2:fc r b2 tb.v)(hf:cj prog r m ta f)(w9:cj prog r m tb g):jW prog r m ⟨190,[],[ptr (aa b1),ptr (aa b2)]⟩ (pQ f g):=⟨call190,fun l hd Z a_ hG hp hT hS=>ab0 r m h1 h2 hf w9 l hd a_ Z hG hp hT hS⟩
def Ro (r p:CP)(m:Nat)(ta tb:FV){f g:X→Bool}(hf:cj prog (r.and p) m ta f)(w9:cj prog (r.and p) m tb g)(Z:World)(hA:bT Z [dm p]):aH prog 158 #[ta.v,tb.v] Z (fun v w'=>∃(q:CP) (t:FV),v=t.v∧p.le q∧jW prog (r.and q) m t (pQ f g)∧St Z (az [dm p]) w' [dm q]):=by
 have O:=St.init hA;refine aS func158 ntmps158 fun a U=>?_;refine Zb 1 fun c1 a w O U=>?_;refine Zb 4 fun c2 a w O U=>?_;refine Zr 0 ?_;have O:=O.q [1,1];obtain⟨p1,le2,C3,O⟩:=O.mM (r:=r);have O:=O.q [1];obtain⟨p4,le5,C6,O⟩:=O.mM (r:=r);have X7:=C3.le (CP.ek le5:CP.le (r.and p1) (r.and p4));have X8:=hf.le (CP.ek (le2.trans le5):CP.le (r.and p) (r.and p4));have X9:=w9.le (CP.ek (le2.trans le5):CP.le (r.and p) (r.and p4));exact⟨_,⟨190,[],[ptr (aa c1),ptr (aa c2)]⟩,rfl,(le2.trans le5),af7 X7 C6 X8 X9,O⟩
def afy (r:CP)(m:Nat){hv:aC}{ts:List FV}{fs:List (X→Bool)}{b1:Nat}(h1:fc r b1 hv.v)(hr:∀w,r.ok w→aG w [] hv.v mI ts)(hts:bE prog r m ts fs)(x:W)(a_:Sz m x.er)(Z:World)(hG:cL Z [])(hp:r.ok Z)(hR:bS Z [] x):aH prog 119 #[.agg (av.cells x).toArray,ptr (aa b1)] Z (fun v w'=>v=.bool (lh fs x.er)∧St Z [] w' []):=by
 have O:=St.bL Z;refine aS func119 ntmps119 fun a U=>?_;refine Zb 2 fun xb a w O U=>?_;refine aZ U (eD isAgg100 rfl (U.af (x:=.tmp 1) rfl) (h1.now hp O)) fun a U=>?_;refine Yc 1 (abN r m x a_ ts fs hts hv _ (hG.ba O) (CP.now hp O) (hr _ (CP.now hp O)) (O.agz 0 rfl) (hR.ba O)) fun a w O U=>?_;refine Zr 1 ?_;exact⟨rfl,O.kp⟩
def adi {r:CP}{m:Nat}{hv:aC}{ts:List FV}{fs:List (X→Bool)}{b1:Nat}(h1:fc r b1 hv.v)(hr:∀w,r.ok w→aG w [] hv.v mI ts)(hts:bE prog r m ts fs):cj prog r m ⟨119,[],[ptr (aa b1)]⟩ (lh fs):=⟨call119,fun x Z a_ hG hp hR=>afy r m h1 hr hts x a_ Z hG hp hR⟩
def MO (r p:CP)(m:Nat)(hv:aC)(ts:List FV)(fs:List (X→Bool))(hts:bE prog (r.and p) m ts fs)(Z:World)(hA:bT Z [ax hv.v 58 mI ts,dm p]):aH prog 73 #[hv.v] Z (fun v w'=>∃(q:CP) (t:FV),v=t.v∧p.le q∧cj prog (r.and q) m t (lh fs)∧St Z (az [ax hv.v 58 mI ts,dm p]) w' [dm q]):=by
 have O:=St.init hA;refine aS func73 ntmps73 fun a U=>?_;refine Zv 0 ?_;refine eP U (NG O rfl (U.af rfl) (E8 (O.F5 0 rfl))) ?_;rintro a _ w ⟨c1,rfl,O⟩ U;refine Zr 3 ?_;have O:=O.q [1,1];obtain⟨p1,le2,R3,O⟩:=O.QS (r:=r);have O:=O.q [1];obtain⟨p4,le5,C6,O⟩:=O.mM (r:=r);have X7:=(fun w hw=>R3 w ((CP.ek le5:CP.le (r.and p1) (r.and p4)).ok w hw));have X8:=bE.le (CP.ek (le2.trans le5):CP.le (r.and p) (r.and p4)) hts;exact⟨_,⟨119,[],[ptr (aa c1)]⟩,rfl,(le2.trans le5),adi C6 X7 X8,O⟩
def oI (r p:CP)(m:Nat)(lo:Int)(fv:FV){f:X→Bool}(hf:cj prog (r.and p) m fv f)(Z:World)(hA:bT Z [dm p]):aH prog 21 #[i64 lo,fv.v] Z (fun v w'=>∃(q:CP) (t:FV),v=t.v∧p.le q∧cj prog (r.and q) (m+1) t (fe lo f)∧St Z (az [dm p]) w' [dm q]):=by
 have O:=St.init hA;refine aS func21 ntmps21 fun a U=>?_;refine Yc 3 (qF r p m (lo) (-1) fv hf _ (St.aB O)) fun p1 g2 le3 X4 a w O U=>?_;refine Yc 0 (jZ r p1 m (1) (aE 65) g2 (gO.le (CP.bZ (p:=(r.and p1)))) X4 _ (St.aB O)) fun p5 g6 le7 X8 a w O U=>?_;refine Zr 1 ?_;exact⟨_,g6,rfl,(le3.trans le7),X8,O⟩
def aqY (r:CP)(m:Nat){fv:FV}{f:X→Bool}{b1:Nat}(h1:fc r b1 fv.v)(hf:cj prog r m fv f)(hk:vu f)(x:W)(a_:Sz (m+1) x.er)(Z:World)(hG:cL Z [])(hp:r.ok Z)(hR:bS Z [] x):aH prog 67 #[.agg (av.cells x).toArray,ptr (aa b1)] Z (fun v w'=>v=.bool (nK f x.er)∧St Z [] w' []):=by
 have O:=St.bL Z;refine aS func67 ntmps67 fun a U=>?_;refine Zb 2 fun xb a w O U=>?_;refine Zd 0 [1,2,1,3,0] fun w O=>?_;refine uk U (fun w O=>eD isAgg58 rfl (U.af (x:=.tmp 1) rfl) (h1.now hp O)) fun a U=>?_;have O:=O.lR;have X1:=hf.le (CP.FC:CP.le r (r.and CP.e));refine eg U (dY U rfl rfl (oI r CP.e m (0) fv X1 _ (St.aB O))) ((by rintro _ w ⟨p2,g3,rfl,le4,X5,hS⟩;have O:=O.i_ hS;have O:St _ _ _ [_,_]:=O;have O:St _ _ _ [_]:=O.sL [1];exact O)) ?_;rintro a _ w ⟨p2,g3,rfl,le4,X5,hS⟩ U;have O:=O.k1 hS;refine Zv 1 fun a U=>?_;refine jh U (fM U rfl (U.af rfl) rfl rfl X5.1 (X5.2 x _ a_ (hG.ba O) (O.gw hp 0 rfl) (hR.ba O))) ?_;rintro a _ w ⟨rfl,hS⟩ U;have O:=O.k0 hS;refine jY U (fun w=>kT rfl (U.af rfl) (eN _)) fun a U=>?_;refine Zi 0 (fun ao=>?_) fun ao=>?_
 ·refine Zr 1 ?_;exact⟨congrArg Value.bool (by rw[nK,(Bool.not_eq_true _).mp ao];rfl),O.kp⟩
 ·have kR:=Decidable.not_not.1 ao;have hal:∀y∈x.ae,f y.er=true:=fun y hy=>anE kR _ (by rw[W.cq];exact List.mem_map_of_mem hy);have hln:=aG.gi hR.aK;refine Zg 3 (bA (hR.aK)) fun a U=>?_;refine Zv 1 fun a U=>?_;have O:=O.d [0];refine cl (fun (s:Nat×List UInt8) a w'=>match s with| (i,s)=>(i≤x.ae.length∧fX [] (x.ae.map W.er)=fX s ((x.ae.drop i).map W.er))∧St Z [] w' [.ob xb 28 (av.cells x)]∧Fr a 41 [(4,str s),(13,x.h.v),(14,i64 x.ae.length),(15,i64 i)]) (fun (s:Nat×List UInt8)=>match s with| (i,s)=>x.ae.length - i) (0,[]) ⟨⟨V,rfl⟩,O,U.su⟩ ?_;rintro⟨i,s⟩ a w ⟨⟨hi,he⟩,O,U⟩;refine Zi 1 (fun a U ay=>?_) fun a U ay=>?_
  ·obtain⟨y,hy⟩:=dM (l:=x.ae) (i:=i) V;refine Zg 0 (bw i (hR.aK) V) fun a U=>?_;refine Zh 0 (hR.aK.ba O) hy fun a U=>?_;have tO:=fun h=>vu.nn hk (hal y (bV hy)) h;refine Zb 6 fun d a w O U=>?_;refine Zw 2 fun a U=>?_;refine cG U rfl rfl rfl rfl rfl rfl (fun hg=>iK (i:=0) ((hR.bK y (bV hy)).aK) underlying26 sizeOf28 rfl ((U.af rfl).trans (a6 hg)) (U.af rfl) (by have:=(tO (wH hg)).1;omega)) fun a U=>?_;refine Zw 1 fun a U=>?_;refine cG U rfl rfl rfl rfl rfl rfl (fun hg=>eD isAgg26 rfl ((U.af rfl).trans (a6 hg)) (aG.cells ((hR.bK y (bV hy)).aK.ba O) (wb (tO (wH hg)).1) _ _ rfl)) fun a U=>?_;refine cG U rfl rfl rfl rfl rfl rfl (fun hg=>iK (i:=0) (((hR.bK y (bV hy)).bK _ (nN (tO (wH hg)).1)).aK) underlying26 sizeOf28 rfl ((U.af rfl).trans (a6 hg)) (U.af rfl) (by have:=(tO (wH hg)).2;omega)) fun a U=>?_;refine Zw 1 fun a U=>?_;refine cG U rfl rfl rfl rfl rfl rfl (fun hg=>eD isAgg26 rfl ((U.af rfl).trans (a6 hg)) (aG.cells (((hR.bK y (bV hy)).bK _ (nN (tO (wH hg)).1)).aK.ba O) (wb (tO (wH hg)).2) _ _ rfl)) fun a U=>?_;refine cG U rfl rfl rfl rfl rfl rfl (fun hg=>rU ((((hR.bK y (bV hy)).bK _ (nN (tO (wH hg)).1)).bK _ (nN (tO (wH hg)).2)).aK) underlying26 rfl ((U.af rfl).trans (a6 hg))) fun a U=>?_;refine Zw 2 fun a U=>?_;refine Zi 0 (fun aF=>?_) fun aF=>?_
   ·refine Zv 3 fun a U=>?_;have O:=O.d [0];exact⟨(i+1,[]),⟨⟨V,by rw[he,Ji hy,if_pos V]⟩,O,U.su⟩,by dsimp only;omega⟩
   ·refine Zi 4 (fun a U aT=>?_) fun a U aT=>?_
    ·refine Zr 1 ?_;exact⟨congrArg Value.bool (by rw[nK,W.cq,he,Ji hy,if_neg V,decide_eq_false (by simpa using aT)];simp),O.kp⟩
    ·refine Zv 5 fun a U=>?_;have O:=O.d [0];exact⟨(i+1,y.name),⟨⟨V,by rw[he,Ji hy,if_neg V,decide_eq_true aT,Bool.true_and]⟩,O,U.su⟩,by dsimp only;omega⟩
  ·refine Zr 1 ?_;exact⟨congrArg Value.bool (by rw[nK,W.cq,kR,he,List.drop_of_length_le V];rfl),O.kp⟩
def ap4 {r:CP}{m:Nat}{fv:FV}{f:X→Bool}{b1:Nat}(h1:fc r b1 fv.v)(hf:cj prog r m fv f)(hk:vu f):cj prog r (m+1) ⟨67,[],[ptr (aa b1)]⟩ (nK f):=⟨call67,fun x Z a_ hG hp hR=>aqY r m h1 hf hk x a_ Z hG hp hR⟩
def MP (r p:CP)(m:Nat)(fv:FV){f:X→Bool}(hf:cj prog (r.and p) m fv f)(hk:vu f)(Z:World)(hA:bT Z [dm p]):aH prog 22 #[fv.v] Z (fun v w'=>∃(q:CP) (t:FV),v=t.v∧p.le q∧cj prog (r.and q) (m+1) t (nK f)∧St Z (az [dm p]) w' [dm q]):=by
 have O:=St.init hA;refine aS func22 ntmps22 fun a U=>?_;refine Zb 4 fun c1 a w O U=>?_;refine Zr 0 ?_;obtain⟨p1,le2,C3,O⟩:=O.mM (r:=r);have X4:=hf.le (CP.ek le2:CP.le (r.and p) (r.and p1));exact⟨_,⟨67,[],[ptr (aa c1)]⟩,rfl,le2,ap4 C3 X4 hk,O⟩
def aU (s:List UInt8)(k:Int):Bool:=match fR s with
 | (l,d)=>decide ((((d.number=0∧l.length=2)∧(l.getD 0 qE).text=s)∧(l.getD 1 qE).bh=s.length+1)∧(l.getD 0 qE).kind=k)
def XL {s:List UInt8}{l:List Tok}{d:fI}(h:fR s=(l,d))(h0:d.number=0):s.length≤16384:=by
 rcases OO h with ⟨_,_,rfl⟩| ⟨h1,_⟩
 ·exact absurd h0 ai
 ·exact h1
def M0 {l:List Tok}{i:Nat}(h:(l.length:Int)=2)(hi:i<2):l[i]?=some (l.getD i qE):=by
 rw[List.getD_eq_getElem?_getD,List.getElem?_eq_getElem V];rfl
def alf {s:List UInt8}{l:List Tok}{d:fI}(h:fR s=(l,d))(ks:List Int):decide (((((d.number=0∧(l.length:Int)=2)∧(l.getD 0 qE).text=s)∧(l.getD 1 qE).bh=(s.length:Int)+1)∧ks.contains (l.getD 0 qE).kind=true))=ks.any (aU s):=by
 unfold aU;rw[h];rw[Bool.eq_iff_iff];simp only[cx,List.any_eq_true,List.contains_iff_mem];constructor
 ·rintro⟨h1,h2⟩;exact⟨_,h2,⟨⟨⟨h1.1.1.1,V⟩,h1.1.2⟩,h1.2⟩,rfl⟩
 ·rintro⟨k,hk,h1,rfl⟩;exact⟨⟨⟨⟨h1.1.1.1,V⟩,h1.1.2⟩,h1.2⟩,hk⟩
def Vi {f:Int→Bool}(a:Int):[a].any f=f a:=aw
def Xa {f:Int→Bool}(a b:Int):[a,b].any f=(f a||f b):=aw
def FY (s:List UInt8)(vk:Value)(ks:List Int)(Z:World)(hG:cL Z [])(hK:aG Z [] vk wE ks):aH prog 59 #[str s,vk] Z (fun v w'=>v=.bool (ks.any (aU s))∧St Z [] w' []):=by
 have O:=St.bL Z;have hp:CP.e.ok Z:=trivial;refine aS func59 ntmps59 fun a U=>?_;refine Yc 2 (agf _ s (hG.ba O)) fun va tl d hrd a w O U=>?_;have hsh:=XL hrd;refine Zb 10 fun dg a w O U=>?_;refine Zw 1 fun a U=>?_;refine cG U rfl rfl rfl rfl rfl rfl (fun hg=>rU (O.rd 1 rfl) underlying22 rfl ((U.af rfl).trans (a6 hg))) fun a U=>?_;refine Zw 4 fun a U=>?_;refine cG U rfl rfl rfl rfl rfl rfl (fun hg=>iK (i:=0) (O.rd 1 rfl) underlying22 sizeOf44 rfl ((U.af rfl).trans (a6 hg)) (U.af rfl) (by have:=(gA hg).2;omega)) fun a U=>?_;refine Zw 1 fun a U=>?_;refine cG U rfl rfl rfl rfl rfl rfl (fun hg=>eD isAgg9 rfl ((U.af rfl).trans (a6 hg)) (aG.cells (O.bW 1 rfl) (M0 (gA hg).2 ai) _ _ rfl)) fun a U=>?_;refine Zw 5 fun a U=>?_;refine cG U rfl rfl rfl rfl rfl rfl (fun hg=>iK (i:=1) (O.rd 1 rfl) underlying22 sizeOf44 rfl ((U.af rfl).trans (a6 hg)) (U.af rfl) (by have:=(gA hg).1.2;omega)) fun a U=>?_;refine Zw 1 fun a U=>?_;refine cG U rfl rfl rfl rfl rfl rfl (fun hg=>eD isAgg3 rfl ((U.af rfl).trans (a6 hg)) (aG.cells (O.bW 1 rfl) (M0 (gA hg).1.2 ai) _ _ rfl)) fun a U=>?_;refine Zw 2 fun a U=>?_;refine cG U rfl rfl rfl rfl rfl rfl (fun hg=>ud rfl ((U.af rfl).trans (a6 hg)) (U.af rfl) (by have:=hsh (gA hg).1.1;omega)) fun a U=>?_;refine Zw 5 fun a U=>?_;refine cG U rfl rfl rfl rfl rfl rfl (fun hg=>iK (i:=0) (O.rd 1 rfl) underlying22 sizeOf44 rfl ((U.af rfl).trans (a6 hg)) (U.af rfl) (by have:=(gA hg).1.1.2;omega)) fun a U=>?_;refine Zw 1 fun a U=>?_;refine cG U rfl rfl rfl rfl rfl rfl (fun hg=>eD isAgg3 rfl ((U.af rfl).trans (a6 hg)) (aG.cells (O.bW 1 rfl) (M0 (gA hg).1.1.2 ai) _ _ rfl)) fun a U=>?_;refine fS O U rfl rfl rfl rfl rfl rfl (fun hg=>jo U rfl rfl (je trivial) call113 (WB _ _ _ _ (hK.ba O))) fun a w O U=>?_;refine Wb 0 fun a U=>?_;refine Zr 1 ?_;exact⟨congrArg Value.bool (alf hrd ks),O.kp⟩
def Jn (s:List UInt8)(Z:World)(hG:cL Z []):aH prog 63 #[str s] Z (fun v w'=>v=.bool (isVar aU s)∧St Z [] w' []):=by
 have O:=St.bL Z;have hp:CP.e.ok Z:=trivial;refine aS func63 ntmps63 fun a U=>?_;refine Zb 3 fun kk a w O U=>?_;have O:St _ _ _ [ax (aC.v ⟨some (aa kk),2,2⟩) 3 wE [1,3]]:=O;refine Yc 0 (FY s _ [1,3] _ (hG.ba O) (O.bW 0 rfl)) fun a w O U=>?_;refine Zr 1 ?_;exact⟨congrArg Value.bool (Xa 1 3),O.kp⟩
def Cu:mc prog CP.e (aE 63) (fun s=>isVar aU s):=⟨call63,fun s Z hG _=>Jn s Z hG⟩
def ajW (s:List UInt8)(Z:World)(hG:cL Z []):aH prog 118 #[str s] Z (fun v w'=>v=.bool (qj aU s)∧St Z [] w' []):=by
 have O:=St.bL Z;have hp:CP.e.ok Z:=trivial;refine aS func118 ntmps118 fun a U=>?_;refine Zb 3 fun kk a w O U=>?_;have O:St _ _ _ [ax (aC.v ⟨some (aa kk),1,1⟩) 3 wE [1]]:=O;refine Yc 0 (FY s _ [1] _ (hG.ba O) (O.bW 0 rfl)) fun a w O U=>?_;refine Zr 1 ?_;exact⟨congrArg Value.bool (Vi 1),O.kp⟩
def ZP:mc prog CP.e (aE 118) (fun s=>qj aU s):=⟨call118,fun s Z hG _=>ajW s Z hG⟩
def O6 (s:List UInt8)(Z:World)(hG:cL Z []):aH prog 18 #[str s] Z (fun v w'=>v=.bool (gg aU s)∧St Z [] w' []):=by
 have O:=St.bL Z;have hp:CP.e.ok Z:=trivial;refine aS func18 ntmps18 fun a U=>?_;refine Zb 3 fun kk a w O U=>?_;have O:St _ _ _ [ax (aC.v ⟨some (aa kk),1,1⟩) 3 wE [2]]:=O;refine Yc 0 (FY s _ [2] _ (hG.ba O) (O.bW 0 rfl)) fun a w O U=>?_;refine Zr 1 ?_;exact⟨congrArg Value.bool (Vi 2),O.kp⟩
def AF:mc prog CP.e (aE 18) (fun s=>gg aU s):=⟨call18,fun s Z hG _=>O6 s Z hG⟩
def KI (s:List UInt8)(Z:World)(hG:cL Z []):aH prog 72 #[str s] Z (fun v w'=>v=.bool (se aU s)∧St Z [] w' []):=by
 have O:=St.bL Z;have hp:CP.e.ok Z:=trivial;refine aS func72 ntmps72 fun a U=>?_;refine Zb 3 fun kk a w O U=>?_;have O:St _ _ _ [ax (aC.v ⟨some (aa kk),2,2⟩) 3 wE [2,4]]:=O;refine Yc 0 (FY s _ [2,4] _ (hG.ba O) (O.bW 0 rfl)) fun a w O U=>?_;refine Zr 1 ?_;exact⟨congrArg Value.bool (Xa 2 4),O.kp⟩
def aeE:mc prog CP.e (aE 72) (fun s=>se aU s):=⟨call72,fun s Z hG _=>KI s Z hG⟩
def ag6 (s:List UInt8)(Z:World)(hG:cL Z []):aH prog 157 #[str s] Z (fun v w'=>v=.bool (kX aU s)∧St Z [] w' []):=by
 have O:=St.bL Z;have hp:CP.e.ok Z:=trivial;refine aS func157 ntmps157 fun a U=>?_;refine Yc 2 (KI _ _ (hG.ba O)) fun a w O U=>?_;refine Zv 1 fun a U=>?_;have hO0:=O;cases hb:se aU s;have O:=hO0
 ·refine ct U rfl rfl rfl rfl (by rw[hb];rfl) ?_;refine Zb 1 fun kk a w O U=>?_;have O:St _ _ _ [ax (aC.v ⟨some (aa kk),3,3⟩) 9 oC [ji,gY,gM]]:=O;refine ct U rfl rfl rfl rfl (by rw[hb];rfl) ?_;refine Zv 1 fun a U=>?_;refine ct U rfl rfl rfl rfl (by rw[hb];rfl) ?_;refine Yc 0 (Ls _ s _ [ji,gY,gM] (O.bW 0 rfl)) fun a w O U=>?_;refine aZ U (Kt rfl ((U.af rfl).trans (congrArg Value.bool hb)) (U.af rfl)) fun a U=>?_;refine Zr 1 ?_;exact⟨congrArg Value.bool (by simp [kX,hb]),O.kp⟩
 ·refine fJ U rfl rfl rfl rfl (by rw[hb];rfl) rfl rfl fun a U=>?_;refine fJ U rfl rfl rfl rfl (by rw[hb];rfl) rfl rfl fun a U=>?_;refine fJ U rfl rfl rfl rfl (by rw[hb];rfl) rfl rfl fun a U=>?_;refine aZ U (LC rfl ((U.af rfl).trans (congrArg Value.bool hb))) fun a U=>?_;refine Zr 1 ?_;exact⟨congrArg Value.bool (by simp [kX,hb]),O⟩
def Hk:mc prog CP.e (aE 157) (fun s=>kX aU s):=⟨call157,fun s Z hG _=>ag6 s Z hG⟩
def ao_ (s:List UInt8)(Z:World)(hG:cL Z []):aH prog 117 #[str s] Z (fun v w'=>v=.bool (qQ aU s)∧St Z [] w' []):=by
 have O:=St.bL Z;have hp:CP.e.ok Z:=trivial;refine aS func117 ntmps117 fun a U=>?_;refine Yc 2 (O6 _ _ (hG.ba O)) fun a w O U=>?_;refine Zv 1 fun a U=>?_;have hO0:=O;cases hb:gg aU s;have O:=hO0
 ·refine ct U rfl rfl rfl rfl (by rw[hb];rfl) ?_;refine Zb 1 fun kk a w O U=>?_;have O:St _ _ _ [ax (aC.v ⟨some (aa kk),5,5⟩) 9 oC [ji,gY,gM,lD,dC]]:=O;refine ct U rfl rfl rfl rfl (by rw[hb];rfl) ?_;refine Zv 1 fun a U=>?_;refine ct U rfl rfl rfl rfl (by rw[hb];rfl) ?_;refine Yc 0 (Ls _ s _ [ji,gY,gM,lD,dC] (O.bW 0 rfl)) fun a w O U=>?_;refine aZ U (Kt rfl ((U.af rfl).trans (congrArg Value.bool hb)) (U.af rfl)) fun a U=>?_;refine Zr 1 ?_;exact⟨congrArg Value.bool (by simp [qQ,hb]),O.kp⟩
 ·refine fJ U rfl rfl rfl rfl (by rw[hb];rfl) rfl rfl fun a U=>?_;refine fJ U rfl rfl rfl rfl (by rw[hb];rfl) rfl rfl fun a U=>?_;refine fJ U rfl rfl rfl rfl (by rw[hb];rfl) rfl rfl fun a U=>?_;refine aZ U (LC rfl ((U.af rfl).trans (congrArg Value.bool hb))) fun a U=>?_;refine Zr 1 ?_;exact⟨congrArg Value.bool (by simp [qQ,hb]),O⟩
def aar:mc prog CP.e (aE 117) (fun s=>qQ aU s):=⟨call117,fun s Z hG _=>ao_ s Z hG⟩
end Go.Proofs.YtdfccaonglmgpaaGreatDoor
