/- Q04 -/
import Derived.Test.YtdfccaonglmgpaaGreatDoorQ03
import Derived.Test.YtdfccaonglmgpaaGreatDoorQ01
set_option linter.all false
namespace Go.Proofs.YtdfccaonglmgpaaGreatDoor
open Go
section
variable {P:Program} {o:Oper} {a:Act} {w:World} {x y:Operand} {t:TypeId} {v:Value}
theorem jY {e:TypeId}{k:IntKind}{m j:Nat}{cs:List Value}(ht:P.underlying t=some (.array m e))(hs:∀w,(sizeOf e).run P w=.ok 1 w)(ha:∀w,(isAgg e).run P w=.ok false w)(ho:o.op=.index t x y)
  (hx:a.eval x=.agg cs.toArray) (hy:a.eval y=.int k (j:Int)) (hj:j<m) (hv:cs[j]?=some v):QV P o a w v:=by
 simp [QV,execOp,ho,hx,hy,Instr.index,asIntOf,run_underlying ht,hj,hs,part,asAgg,ha,hv]
end
def V2:List Value:=[str h_,str [],str iv,str dI]
theorem rU {j:Nat}(h:j<4):V2[j]?=some (str (rF j)):=by
 match j,h with
 |0,_=>rfl
 |1,_=>rfl
 |2,_=>rfl
 |3,_=>rfl
section
variable {w0 w:World} {M:List Nat} {L:List aq} {T:Nat} {v:Value} {x y:NN} {l m:List NN}
theorem St.rj (hO:St w0 M w (aq.dF ([x].map (nE T))::L)):St w0 M w (nE T x::L):=St.ungroup (A:=[_]) hO
theorem St.Iv {e p q:aq}(hO:St w0 M w (e::p::q::L)):St w0 M w (e::aq.dF [p,q]::L):=by
 have h:=(hO.pull 1 rfl).pull 2 rfl;have h:St w0 M w ([q,p]++e::L):=h;have h:=St.group h;have h:St w0 M w (aq.dF [q,p]::e::L):=h;have h2:St w0 M w ([p,q]++e::L):=hO.perm (by
   show (p::q::e::L).Perm (e::p::q::L)
   exact (List.perm_middle (l₁:=[p,q])))
 exact (St.group h2).pull 1 rfl
theorem St.Wb {e d p q:aq}(hO:St w0 M w (e::d::p::q::L)):St w0 M w (e::d::aq.dF [p,q]::L):=by
 have h2:St w0 M w ([p,q]++e::d::L):=hO.perm (by
   show (p::q::e::d::L).Perm (e::d::p::q::L)
   exact List.perm_append_comm (l₁:=[p,q]) (l₂:=[e,d]) |>.append_right L)
 exact ((St.group h2).pull 1 rfl |>.pull 2 rfl).pull 1 rfl
theorem St.rV {i:Nat}(hx:l[i]?=some y)(hO:St w0 M w (aq.dF ((l.drop i).map (nE T))::L)):St w0 M w (nE T y::aq.dF ((l.drop (i+1)).map (nE T))::L):=by
 obtain⟨hi,rfl⟩:=List.getElem?_eq_some_iff.1 hx;rw[List.drop_eq_getElem_cons hi] at hO;have h1:St w0 M w ((nE T l[i]::(l.drop (i+1)).map (nE T))++L):=St.ungroup (A:=nE T l[i]::(l.drop (i+1)).map (nE T)) hO;have h2:St w0 M w ((l.drop (i+1)).map (nE T)++nE T l[i]::L):=h1.perm List.perm_middle;exact (St.group h2).pull 1 rfl
end
theorem ss {l:List NN}(h:1<l.length):eU (l.map NN.er)=bk 23 [] (l.map NN.er):=by
 match l,h with
 |_::_::_,_=>rfl
theorem O0 {l:List NN}(h0:0<l.length)(h:¬1<l.length):∃x,l=[x]:=by
 match l,h0,h with
 | [x],_,_=>exact⟨x,rfl⟩
 |_::_::_,_,h=>exact absurd (by simp) h
theorem r7 {f:Nd→Nd→Nd}{l:List NN}{i:Nat}{y:NN}(hx:l[i]?=some y)(n:Nd):((l.drop i).map NN.er).foldl f n=((l.drop (i+1)).map NN.er).foldl f (f n y.er):=by
 obtain⟨hi,rfl⟩:=List.getElem?_eq_some_iff.1 hx;rw[List.drop_eq_getElem_cons hi]
 rfl
theorem AB {f:Nd→Nd→Nd}{l:List NN}{i:Nat}(h:l.length≤i)(n:Nd):((l.drop i).map NN.er).foldl f n=n:=by
 rw[List.drop_eq_nil_of_le h];rfl
theorem wo {k:Nat}{s s':PS}{l:List NN}(h:fX k s=.ok (l.map NN.er,s')):0<l.length:=by
 cases k with
 |zero=>simp only[fX] at h;cases h
 |succ k=>
  simp only[fX] at h;rw[bind_eq] at h
  cases h1:jF k s with
  |error e=>rw[h1] at h;cases h
  |ok p=>
   obtain⟨a,s1⟩:=p;rw[h1] at h;simp only at h;rw[bind_eq] at h
   cases h2:ju k s1 with
   |error e=>rw[h2] at h;cases h
   |ok q=>
    obtain⟨m,s2⟩:=q;rw[h2] at h;have h3:(Except.ok (a::m,s2):Except Int (List Nd×PS))=.ok (l.map NN.er,s'):=h;injection h3 with h3;injection h3 with h3 _
    cases l with
    |nil=>cases h3
    |cons x l=>simp
theorem Ca {l:List NN}{x:NN}(hx:l[0]?=some x):((l.drop 1).map NN.er).foldl (fun n x=>bk 22 [] [n,x]) x.er=zO (l.map NN.er):=by
 cases l with
 |nil=>cases hx
 |cons y l=>cases hx;rfl
theorem dA (l:List NN):(l++[ea])[l.length]?=some ea:=by simp
theorem HY (l:List NN)(x:NN):(l++[ea]).set l.length x=l++[x]:=by simp
theorem St.gH {w0 w:World}{M:List Nat}{L:List aq}{T i:Nat}{l:List NN}{h:aO}{x:NN}(hO:St w0 M w L)(hi:L[i]?=some (aT h.v T aM ((l++[ea]).set l.length x))):St w0 M w (L.set i (aT h.v T aM (l++[x]))):=by
 rw[HY] at hi;have e:L.set i (aT h.v T aM (l++[x]))=L:=by
  refine List.ext_getElem? fun j=>?_;rw[List.getElem?_set]
  split
  ·rename_i hj;subst hj
   split
   ·exact hi.symm
   ·rename_i h2;exact absurd (List.getElem?_eq_some_iff.1 hi).1 h2
  ·rfl
 rw[e];exact hO
structure aG where
 bs:List Nat
 S:aO→List NN→Prop
 ok:World→Prop
 st:∀w w',ok w→(∀b∈bs,w'.heap[b]?=w.heap[b]?)→ok w'
 lt:∀w,ok w→∀b∈bs,b<w.heap.size
 rd:∀w,ok w→∀h l,S h l→∀M:List Nat,(∀b∈bs,b∉M)→bF w M h.v aM l
 nil:S aU []
 sub:∀h l,S h l→∀y∈l,S y.h y.ag
def a_ (p:aG):aq:=.gp p.bs p.ok p.st p.lt
def aG.has (p:aG)(x:NN):Prop:=p.S x.h x.ag
structure aG.le (p q:aG):Prop where
 S:∀h l,p.S h l→q.S h l
 bs:p.bs.Sublist q.bs
 ok:∀w,q.ok w→p.ok w
theorem aG.le.rfl {p:aG}:p.le p:=⟨fun _ _ h=>h,List.Sublist.refl _,fun _ h=>h⟩
theorem aG.le.trans {p q r:aG}(h:p.le q)(h2:q.le r):p.le r:=⟨fun a b h3=>h2.S a b (h.S a b h3),h.bs.trans h2.bs,fun w h3=>h.ok w (h2.ok w h3)⟩
theorem aG.le.all {p q:aG}(h:p.le q){l:List NN}(hl:∀y∈l,p.has y):∀y∈l,q.has y:=fun y hy=>h.S _ _ (hl y hy)
theorem f_ {p:aG}{x:NN}(h:p.has x):∀y∈[x],p.has y:=fun y hy=>by cases List.mem_singleton.1 hy;exact h
theorem dt {p:aG}{l m:List NN}(h:∀y∈l,p.has y)(h2:∀y∈m,p.has y):∀y∈l++m,p.has y:=fun y hy=>by
 rcases List.mem_append.1 hy with hy|hy
 ·exact h y hy
 ·exact h2 y hy
theorem all_nil {p:aG}:∀y∈([]:List NN),p.has y:=fun y hy=>by cases hy
theorem all_cons {p:aG}{x:NN}{l:List NN}(h:p.has x)(h2:∀y∈l,p.has y):∀y∈x::l,p.has y:=fun y hy=>by
 rcases List.mem_cons.1 hy with rfl|hy
 ·exact h
 ·exact h2 y hy
theorem aG.elem {p:aG}{h:aO}{l:List NN}(hS:p.S h l){i:Nat}{y:NN}(hy:l[i]?=some y):p.has y:=p.sub h l hS y (List.mem_of_getElem? hy)
theorem aG.bL {p:aG}{x:NN}{k:Int}{s:List UInt8}{n a c:Int}{h:aO}{l:List NN}(hx:x=NN.mk k s n a c h l)(hS:p.S h l):p.has x:=by subst hx;exact hS
def aG.e:aG where
 bs:=[]
 S h l:=h=aU∧l=[]
 ok _:=True
 st _ _ _ _:=trivial
 lt _ _ b hb:=by cases hb
 rd w _ h l hS M _:=by obtain⟨rfl,rfl⟩:=hS;exact Rd.nil w M 6
 nil:=⟨rfl,rfl⟩
 sub h l hS y hy:=by obtain⟨_,rfl⟩:=hS;cases hy
section
variable {w0 w w':World} {M:List Nat} {L:List aq} {p q:aG} {h h':aO} {l l':List NN} {T i:Nat} {x:NN}
theorem St.Ed (hO:St w0 M w L):St w0 M w (a_ aG.e::L):=by
 have e:ak (a_ aG.e::L)=ak L:=rfl;refine⟨hO.os,hO.tape,hO.output,hO.le,hO.kz,fun x hx=>?_,e▸hO.nodup,fun b hb=>hO.src b (e▸hb)⟩;rcases List.mem_cons.1 hx with rfl|hx
 ·exact trivial
 ·exact hO.own x hx
theorem St.js (hO:St w0 M w L)(i:Nat)(hi:L[i]?=some (a_ p))(hS:p.S h l):bF w [] h.v aM l:=p.rd w (hO.ok hi) h l hS [] (fun _ _ h=>by cases h)
def aG.and (p:aG)(e:aq)(S:aO→List NN→Prop)(rd:∀w,e.ok w→p.ok w→∀h l,S h l→∀M:List Nat,(∀b∈e.bs++p.bs,b∉M)→bF w M h.v aM l)(sub:∀h l,S h l→∀y∈l,S y.h y.ag∨p.has y):aG where
 bs:=e.bs++p.bs
 S h l:=p.S h l∨S h l
 ok w:=e.ok w∧p.ok w
 st w w' ho hk:=⟨aq.tP ho.1 fun b hb=>hk b (List.mem_append_left _ hb),p.st w w' ho.2 fun b hb=>hk b (List.mem_append_right _ hb)⟩
 lt w ho b hb:=by
  rcases List.mem_append.1 hb with hb|hb
  ·exact aq.rX ho.1 hb
  ·exact p.lt w ho.2 b hb
 rd w ho h l hS M hM:=by
  rcases hS with hS|hS
  ·exact p.rd w ho.2 h l hS M fun b hb=>hM b (List.mem_append_right _ hb)
  ·exact rd w ho.1 ho.2 h l hS M hM
 nil:=.inl p.nil
 sub h l hS y hy:=by
  rcases hS with hS|hS
  ·exact .inl (p.sub h l hS y hy)
  ·rcases sub h l hS y hy with h1|h1
   ·exact .inr h1
   ·exact .inl h1
theorem St.and {e:aq}{S:aO→List NN→Prop}{rd sub}(hO:St w0 M w (e::a_ p::L)):p.le (p.and e S rd sub)∧St w0 M w (a_ (p.and e S rd sub)::L):=by
 have e1:ak (a_ (p.and e S rd sub)::L)=ak (e::a_ p::L):=by
  rw[db,db,db,←List.append_assoc];rfl
 refine⟨⟨fun _ _ h=>.inl h,List.sublist_append_right _ _,fun w h=>h.2⟩,hO.os,hO.tape,hO.output,hO.le,hO.kz,fun x hx=>?_,e1▸hO.nodup,fun b hb=>hO.src b (e1▸hb)⟩;rcases List.mem_cons.1 hx with rfl|hx
 ·exact⟨hO.own _ (by simp),hO.own (a_ p) (by simp)⟩
 ·exact hO.own x (by simp [hx])
theorem St.freeze (hO:St w0 M w (aT h.v T aM l::a_ p::L))(hl:∀y∈l,p.has y):∃q:aG,p.le q∧q.S h l∧St w0 M w (a_ q::L):=by
 have h1:=St.and (S:=fun h' l'=>h'=h∧l'=l) (rd:=fun w he _ h' l' hS M hM=>by
     obtain⟨rfl,rfl⟩:=hS
     exact aq.rd he fun b hb=>hM b (List.mem_append_left _ (Option.mem_toList.2 hb))) (sub:=fun h' l' hS y hy=>by
     obtain⟨rfl,rfl⟩:=hS
     exact .inr (hl y hy)) hO
 exact⟨_,h1.1,.inr ⟨rfl,rfl⟩,h1.2⟩
theorem St.view (hO:St w0 M w (a_ p::L))(hS:p.S h l)(hv:∀w M,bF w M h.v aM l→bF w M h'.v aM l')(hl:∀y∈l',p.has y):∃q:aG,p.le q∧q.S h' l'∧St w0 M w (a_ q::L):=by
 have hO':St w0 M w (aq.dF []::a_ p::L):=hO.gx;have h1:=St.and (S:=fun h2 l2=>h2=h'∧l2=l') (rd:=fun w _ hp h2 l2 hS2 M hM=>by
     obtain⟨rfl,rfl⟩:=hS2
     exact hv w M (p.rd w hp h l hS M fun b hb=>hM b (List.mem_append_right _ hb))) (sub:=fun h2 l2 hS2 y hy=>by
     obtain⟨rfl,rfl⟩:=hS2
     exact .inr (hl y hy)) hO'
 exact⟨_,h1.1,.inr ⟨rfl,rfl⟩,h1.2⟩
inductive NN.In:NN→NN→Prop
 |here (x:NN):NN.In x x
 |sub {x y z:NN}:y∈x.ag→NN.In y z→NN.In x z
theorem NN.In.trans {x y z:NN}(h:NN.In x y)(h2:NN.In y z):NN.In x z:=by
 induction h with
 |here=>exact h2
 |sub hy _ ih=>exact .sub hy (ih h2)
theorem gP.XC {M:List Nat}{x y:NN}(h:gP w M x)(hi:NN.In x y):gP w M y:=by
 induction hi with
 |here=>exact h
 |sub hy _ ih=>exact ih (h.kI _ hy)
theorem O8 {M:List Nat}:∀t:NN,(nE T t).ok w→(∀b∈(nE T t).bs,b∉M)→gP w M t:=NN.ind fun k s n a c h l ih hok hM=>by
 cases l with
 |nil=>exact .mk (pX hok w M) fun t ht=>by cases ht
 |cons t l=>
  rw[qI] at hok hM;have h1:(aT h.v T aM (t::l)).ok w:=hok _ (by simp);have h2:(aq.dF ((t::l).map (nE T))).ok w:=hok _ (by simp);refine .mk (aq.rd h1 fun b hb=>hM b (me.2 ⟨_,List.mem_cons_self,Option.mem_toList.2 hb⟩)) fun s hs=>ih s hs (h2 _ (List.mem_map.2 ⟨s,hs,rfl⟩)) fun b hb=>hM b ?_;exact me.2 ⟨_,List.mem_cons_of_mem _ List.mem_cons_self,me.2 ⟨_,List.mem_map.2 ⟨s,hs,rfl⟩,hb⟩⟩
theorem St.m_ (hO:St w0 M w (nE T x::a_ p::L)):∃q:aG,p.le q∧q.has x∧St w0 M w (a_ q::L):=by
 have h1:=St.and (S:=fun h' l'=>∃y,NN.In x y∧h'=y.h∧l'=y.ag) (rd:=fun w he _ h' l' hS M hM=>by
     obtain⟨y,hy,rfl,rfl⟩:=hS
     exact ((O8 x he fun b hb=>hM b (List.mem_append_left _ hb)).XC hy).nR) (sub:=fun h' l' hS y hy=>by
     obtain⟨z,hz,rfl,rfl⟩:=hS
     exact .inl ⟨y,hz.trans (.sub hy (.here y)),rfl,rfl⟩) hO
 exact⟨_,h1.1,.inr ⟨x,.here x,rfl,rfl⟩,h1.2⟩
theorem St.bT (hO:St w0 M w (a_ q::L))(hq:p.le q):St w0 M w (a_ p::L):=by
 have hs:(ak (a_ p::L)).Sublist (ak (a_ q::L)):=by rw[db,db];exact hq.bs.append (List.Sublist.refl _)
 refine⟨hO.os,hO.tape,hO.output,hO.le,hO.kz,fun x hx=>?_,hs.nodup hO.nodup,fun b hb=>hO.src b (hs.subset hb)⟩;rcases List.mem_cons.1 hx with rfl|hx
 ·exact hq.ok w (hO.own (a_ q) (by simp))
 ·exact hO.own x (by simp [hx])
theorem St.Uw (hO:St w0 M w L)(i:Nat)(hi:L[i]?=some (a_ p)):∀{x:NN},p.has x→gP w [] x:=fun {x}=>
 NN.ind (P:=fun x=>p.has x→gP w [] x) (fun k s n a c h l ih hx=>.mk (hO.js i hi hx) fun t ht=>ih t ht (p.sub _ _ hx t ht)) x
end
abbrev FE (T b:Nat)(l c:Int)(bd:Bool):aq:=.ob b T [str [],i64 l,i64 c,i64 (if bd then 31 else 0)]
theorem St.pK {w0 w:World}{M:List Nat}{L:List aq}{T b:Nat}{l c:Int}{x y:Bool}(e:x=y)(hO:St w0 M w (FE T b l c x::L)):St w0 M w (FE T b l c y::L):=e▸hO
section
variable {α β:Type}
theorem bw {x:FM α}{f:α→FM β}{c:β}{d:Bool}(h:(x >>= f)=some (c,d)):∃a b d1,x=some (a,b)∧f a=some (c,d1)∧d=(b||d1):=by
 have h:FM.bind x f=some (c,d):=h;unfold FM.bind at h
 cases x with
 |none=>cases h
 |some p=>
  obtain⟨a,b⟩:=p;dsimp only at h
  cases h2:f a with
  |none=>rw[h2] at h;cases h
  |some q=>
   obtain⟨e,d1⟩:=q;rw[h2] at h;cases h;exact⟨a,b,d1,rfl,h2,rfl⟩
theorem bS {a c:α}{d:Bool}(h:(pure a:FM α)=some (c,d)):a=c∧d=false:=by
 have h:(some (a,false):Option (α×Bool))=some (c,d):=h;cases h;exact⟨rfl,rfl⟩
theorem iF {b e:Bool}{u:Unit}(h:dq b=some (u,e)):e=b:=by
 have h:(some ((),b):Option (Unit×Bool))=some (u,e):=h;cases h;rfl
theorem c6 {c:α}{d:Bool}(h:(mC:FM α)=some (c,d)):False:=by cases h
end
theorem af (y:Nd)(l:List Nd):aC (y::l)=1+dw y+aC l:=by rw[aC]
theorem AQ (y:NN)(m:List NN):aC ((y::m).map NN.er)=1+dw y.er+aC (m.map NN.er):=by rw[List.map_cons,af]
theorem uK:∀l:List Nd,l.length≤aC l
 | []=>Nat.zero_le _
 |y::l=>by
  have:=cD y;have:=uK l;rw[af,List.length_cons];omega
theorem yZ (l:List NN):l.length≤aC (l.map NN.er):=by
 have:=uK (l.map NN.er)
 simpa using this
theorem rp {x y:NN}{i:Nat}(hy:x.ag[i]?=some y):dw y.er+1≤dw x.er:=by
 have h:=List.mem_of_getElem? hy;generalize hl:x.ag=l at h;have e:dw x.er=1+aC (l.map NN.er):=by rw[cg x.er,NN.bo,hl]
 rw[e];clear hl e hy
 induction l with
 |nil=>cases h
 |cons z l ih=>
  rw[AQ];rcases List.mem_cons.1 h with rfl|h
  ·omega
  ·have:=ih h;omega
theorem DD {l:List NN}{y:NN}{i:Nat}(hy:l[i]?=some y):dw y.er+1≤aC (l.map NN.er):=by
 have h:=List.mem_of_getElem? hy;clear hy
 induction l with
 |nil=>cases h
 |cons z l ih=>
  rw[AQ];rcases List.mem_cons.1 h with rfl|h
  ·omega
  ·have:=ih h;omega
def PJ (l:List Nd):Prop:=3≤l.length∧l.length % 2=1∧∀(i:Nat) (o:Nd),l[i]?=some o→o.kind=24→i % 2=1
mutual
def uI:Nd→Prop
 | .mk k _ _ l=>(0≤k∧k≤100)∧(k=23→PJ l)∧UN l
def UN:List Nd→Prop
 | []=>True
 |a::l=>uI a∧UN l
end
theorem DC:∀{l:List Nd},UN l↔∀a∈l,uI a
 | []=>⟨fun _ _ h=>(by cases h),fun _=>by simp only[UN]⟩
 |a::l=>by
  simp only[UN,List.mem_cons,forall_eq_or_imp];rw[DC]
theorem l8 {n:Nd}:uI n↔(0≤n.kind∧n.kind≤100)∧(n.kind=23→PJ n.ag)∧∀a∈n.ag,uI a:=by
 cases n;simp only[uI,DC];exact Iff.rfl
def oT (n:Nd):Prop:=dw n≤274877906944∧uI n
def KV (l:List Nd):Prop:=l.length≤274877906944∧∀a∈l,oT a
theorem nq {l:List Nd}{y:Nd}(h:y∈l):dw y+1≤aC l:=by
 induction l with
 |nil=>cases h
 |cons z l ih=>
  rw[af];rcases List.mem_cons.1 h with rfl|h
  ·omega
  ·have:=ih h;omega
theorem IE {n:Nd}(h:oT n):KV n.ag:=by
 have h1:=h.1;rw[cg] at h1;refine⟨?_,fun a ha=>⟨?_,(l8.1 h.2).2.2 a ha⟩⟩
 ·have:=uK n.ag;omega
 ·have:=nq ha;omega
theorem fC {x:NN}(h:oT x.er):KV (x.ag.map NN.er):=NN.bo x▸IE h
theorem En {l:List NN}(h:KV (l.map NN.er)):l.length≤274877906944:=by simpa using h.1
theorem BC {l:List NN}{y:NN}{i:Nat}(h:KV (l.map NN.er))(hy:l[i]?=some y):oT y.er:=h.2 _ (List.mem_map_of_mem (List.mem_of_getElem? hy))
theorem gN {x y:NN}{i:Nat}(h:oT x.er)(hy:x.ag[i]?=some y):oT y.er:=BC (fC h) hy
theorem MY {x:NN}(h:oT x.er):0≤x.kind∧x.kind≤100:=by
 have:=(l8.1 h.2).1
 rwa [NN.al] at this
theorem Cb {x:NN}(h:oT x.er)(hk:x.kind=23):3≤x.ag.length∧x.ag.length % 2=1∧∀(i:Nat) (o:NN),x.ag[i]?=some o→o.kind=24→i % 2=1:=by
 have h1:=(l8.1 h.2).2.1 (by rw[NN.al];exact hk);rw[NN.bo] at h1;exact⟨by simpa using h1.1,by simpa using h1.2.1,fun i o hi ho=>h1.2.2 i o.er (by rw[List.getElem?_map,hi];rfl) (by rw[NN.al];exact ho)⟩
theorem Ib {l:List NN}(h:l.length≤274877906944)(h2:∀y∈l,oT y.er):KV (l.map NN.er):=⟨by simpa using h,fun a ha=>by
  obtain⟨y,hy,rfl⟩:=List.mem_map.1 ha
  exact h2 y hy⟩
theorem eK {l:List NN}{y:NN}{i:Nat}(hy:l[i]?=some y):(l.drop i).map NN.er=y.er::(l.drop (i+1)).map NN.er:=by
 obtain⟨hi,rfl⟩:=List.getElem?_eq_some_iff.1 hy;rw[List.drop_eq_getElem_cons hi];rfl
open Go Go.Maps Go.WideAt
section
variable {P:Program} {w w0 w':World} {k e t:TypeId} {b n:Nat} {f:Lit→Option Value} {M:List Nat} {L:List aq} {o:Oper} {a:Act} {x y:Operand} {key z v:Value} {kl:Lit}
theorem y3 (hO:St w0 M w L)(h:QV P o a w v):eH P o a w (fun u w'=>u=v∧St w0 M w' L):=h.eff.mono fun u w' ⟨h1,h2⟩=>⟨h1,by rw[h2];exact hO⟩
theorem zX {i:Nat}{u:Operand}(hO:St w0 M w L)(hi:L[i]?=some (aq.eX P k b n f))(K:Keyed P k)(ht:P.underlying t=some (.map k e))(hn:n<maxLen)(ho:o.op=.insert t x y u)(hx:a.eval x=.map (some b))(hy:a.eval y=key)(hu:a.eval u=v)(hkey:keyOf P k key=some kl):
  eH P o a w (fun u w'=>u=undef∧St w0 M w' (L.set i (aq.eX P k b (n+1) (fJ f kl v)))):=by
 obtain⟨w',hrun,h2,h3⟩:=(hO.ok hi:gl P w k b n f).put (v:=v) K ht hn hkey;refine eH.skip (w':=w') ?_ ⟨rfl,hO.Vz hi h3 rfl h2 rfl⟩;simp [execOp,ho,hx,hy,hu,hrun]
theorem cv {i:Nat}{u:Operand}{m:Int}(hO:St w0 M w L)(hi:L[i]?=some (aq.eX P k b n f))(hk:P.underlying k=some (.int .i64))(ht:P.underlying t=some (.map k e))(hc:n<9223372036854775807)(ho:o.op=.insert t x y u)(hx:a.eval x=.map (some b))(hy:a.eval y=i64 m)(hu:a.eval u=v)(hm: -9223372036854775808≤m∧m≤9223372036854775807):
  eH P o a w (fun u w'=>u=undef∧St w0 M w' (L.set i (aq.eX P k b (n+1) (fJ f (.int .i64 m) v)))):=
 zX hO hi (int_keyed hk) ht (by unfold maxLen;exact hc) ho hx hy hu (keyOf_int_mk hk (CE hm))
theorem Ls {i:Nat}{g:Int→Option Value}{m:Int}(hO:St w0 M w L)(hi:L[i]?=some (aq.eX P k b n f))(hf:eF f g)(hk:P.underlying k=some (.int .i64))(ht:P.underlying t=some (.map k e))(hz:(zeroValue e).run P w=.ok z w)(ho:o.op=.lookup t x y true)(hx:a.eval x=.map (some b))(hy:a.eval y=i64 m)(hm: -9223372036854775808≤m∧m≤9223372036854775807):
  QV P o a w (.tuple #[(g m).getD z,.bool (g m).isSome]):=by
 have h:=Ap hO hi (int_keyed hk) ht hz ho hx hy (keyOf_int_mk hk (CE hm))
 rwa [hf m] at h
theorem O9:eF (fun _=>none) (fun _=>none):=fun _=>rfl
theorem r_3 {fn:Func}{R:Value→World→Prop}{m:Nat}{F:List (Nat×Value)}{j k l:Nat}{u v1:Value}(hF:Fr a m F)(hr:fn.results=#[.tmp j,.tmp k,.tmp l])(h1:lk F j=some v)(h2:lk F k=some u)(h3:lk F l=some v1)(hR:R (.tuple #[v,u,v1]) w):uy P fn R .ret a w:=by
 refine⟨hF.defs,.tuple #[v,u,v1],?_,_,rfl,hR⟩;rw[show (results fn a.tmps).run P w=.ok (.tuple #[a.tmps.getD j undef,a.tmps.getD k undef,a.tmps.getD l undef]) w by simp [results,hr],hF.get j v h1,hF.get k u h2,hF.get l v1 h3]
end
theorem Kv (n:Int):(jg n).map i64=(if n=23 then some (i64 47) else if n=35 then some (i64 51) else if n=19 then some (i64 46) else if n=32 then some (i64 49) else if n=31 then some (i64 48) else if n=39 then some (i64 50) else if n=21 then some (i64 45) else if n=20 then some (i64 44) else if n=38 then some (i64 43) else if n=18 then some (i64 42) else none):=by
 unfold jg
 split<;>simp_all
theorem E7 {n k:Int}{z:Value}(h:jg n=some k):((jg n).map i64).getD z=i64 k:=by rw[h];rfl
def aO.cut (h:aO)(j:Nat):aO:=⟨h.A,j,h.c⟩
def aO.zx (h:aO)(j s:Nat):aO:=⟨if h.c=j then h.A else h.A.map (·.add (j * s)),h.n - j,h.c - j⟩
theorem Xt (h:aO)(j:Nat):(h.cut j).v=pk h.v j:=rfl
theorem MB (h:aO)(j s:Nat):(h.zx j s).v=qq h.v j s:=rfl
theorem bF.drop {α:Type}{E:oe α}{l:List α}{w:World}{M:List Nat}{v:Value}{j:Nat}(hR:bF w M v E l)(hj:j≤l.length):bF w M (qq v j E.size) E (l.drop j):=by
 have h:=bF.TL hR hj (Nat.le_refl _);rw[List.take_of_length_le (by rw[List.length_drop];omega)] at h;obtain⟨A,c,rfl,_⟩:=Rd.is hR;exact h
theorem AF {x:NN}{l:List NN}{h:aO}(hx:(1<l.length∧∃a c:Int,x=NN.mk 23 [] 0 a c h l)∨(l.length=1∧l[0]?=some x)):x.er=eU (l.map NN.er):=by
 rcases hx with ⟨h1,a,c,rfl⟩| ⟨h1,h2⟩
 ·rw[bJ,ss h1];rfl
 ·match l,h1,h2 with
  | [y],_,h2=>cases h2;rfl
theorem xg {p:aG}{x:NN}{l:List NN}{h:aO}(hx:(1<l.length∧∃a c:Int,x=NN.mk 23 [] 0 a c h l)∨(l.length=1∧l[0]?=some x))(hS:p.S h l):p.has x:=by
 rcases hx with ⟨h1,a,c,rfl⟩| ⟨h1,h2⟩
 ·exact hS
 ·exact aG.elem hS h2
theorem Fz (l:List Nd)(i:Nat):aC (l.take i)≤aC l:=by
 have h:=gb (l.take i) (l.drop i);rw[List.take_append_drop] at h;omega
theorem E8 (l:List Nd)(i:Nat):aC (l.drop i)≤aC l:=by
 have h:=gb (l.take i) (l.drop i);rw[List.take_append_drop] at h;omega
theorem Em {x y:NN}{l:List NN}(hw:oT x.er)(hk:x.kind=23)(hy:y.er=eU (l.map NN.er))(hs:∀z∈l,z∈x.ag)(hn:aC (l.map NN.er)≤aC (x.ag.map NN.er))(ho:l.length=1∨PJ (l.map NN.er)):oT y.er:=by
 have h1:=hw.1;rw[cg,NN.bo] at h1;refine⟨?_,?_⟩
 ·rw[hy];have:=pD (l.map NN.er);omega
 ·rw[hy];have hz:∀z∈l,uI z.er:=fun z hz=>(l8.1 hw.2).2.2 _ (by rw[NN.bo];exact List.mem_map_of_mem (hs z hz));rcases ho with ho|ho
  ·match l,ho,hz with
   | [z],_,hz=>exact hz z (by simp)
  ·have h2:1<l.length:=by have:=ho.1;simp at this;omega
   rw[ss h2];refine l8.2 ⟨⟨by show (0:Int)≤23;decide,by show (23:Int)≤100;decide⟩,fun _=>ho,fun a ha=>?_⟩;obtain⟨z,hz',rfl⟩:=List.mem_map.1 (show a∈l.map NN.er from ha);exact hz z hz'
theorem M7 {x y:NN}{i:Nat}(hw:oT x.er)(hk:x.kind=23)(hy:y.er=eU ((x.ag.take i).map NN.er))(hi:i % 2=1)(hl:i<x.ag.length):oT y.er:=by
 obtain⟨h1,h2,h3⟩:=Cb hw hk;refine Em hw hk hy (fun z hz=>List.mem_of_mem_take hz) (by rw[List.map_take];exact Fz _ _) ?_
 by_cases h4:i=1
 ·left;rw[List.length_take];omega
 ·right;refine⟨by rw[List.length_map,List.length_take];omega,by rw[List.length_map,List.length_take];omega,fun j o hj ho=>?_⟩;rw[List.getElem?_map] at hj
  cases hz:(x.ag.take i)[j]? with
  |none=>rw[hz] at hj;cases hj
  |some z=>
   rw[hz] at hj;cases hj;rw[List.getElem?_take] at hz
   split at hz
   ·exact h3 j z hz (by rw[←NN.al];exact ho)
   ·cases hz
theorem GH {x y:NN}{i:Nat}(hw:oT x.er)(hk:x.kind=23)(hy:y.er=eU ((x.ag.drop (i+1)).map NN.er))(hi:i % 2=1)(hl:i<x.ag.length):oT y.er:=by
 obtain⟨h1,h2,h3⟩:=Cb hw hk;refine Em hw hk hy (fun z hz=>List.mem_of_mem_drop hz) (by rw[List.map_drop];exact E8 _ _) ?_
 by_cases h4:i+2=x.ag.length
 ·left;rw[List.length_drop];omega
 ·right;refine⟨by rw[List.length_map,List.length_drop];omega,by rw[List.length_map,List.length_drop];omega,fun j o hj ho=>?_⟩;rw[List.getElem?_map] at hj
  cases hz:(x.ag.drop (i+1))[j]? with
  |none=>rw[hz] at hj;cases hj
  |some z=>
   rw[hz] at hj;cases hj;rw[List.getElem?_drop] at hz;have:=h3 _ z hz (by rw[←NN.al];exact ho);omega
theorem HE {P:NN→Prop}{x y:NN}(h:P x)(h2:P y):∀z∈[x,y],P z:=fun z hz=>by
 rcases List.mem_cons.1 hz with rfl|hz
 ·exact h
 ·cases List.mem_singleton.1 hz;exact h2
theorem Ml {l:List NN}{i:Nat}{y:NN}(hy:l[i]?=some y):(l.map NN.er).getD i kJ=y.er:=by
 rw[List.getD_eq_getElem?_getD,List.getElem?_map,hy];rfl
def yY (l l':List NN)(i:Nat):Prop:=l'.length=l.length∧∀k,l'[k]?=if k<i∨l.length≤k+i then l.reverse[k]? else l[k]?
theorem yY.start (l:List NN):yY l l 0:=⟨rfl,fun k=>by
  split
  · rename_i h
    have h:l.length≤k:=by omega
    rw[List.getElem?_eq_none (by omega),List.getElem?_eq_none (by rw[List.length_reverse];omega)]
  · rfl⟩
theorem yK (l:List NN){k:Nat}(h:k<l.length):l.reverse[k]?=l[l.length - 1 - k]?:=List.getElem?_reverse h
theorem yY.next {l l':List NN}{i:Nat}{x y:NN}(h:yY l l' i)(hi:i<l.length - 1 - i)(hx:l'[l.length - 1 - i]?=some x)(hy:l'[i]?=some y):yY l ((l'.set i x).set (l.length - 1 - i) y) (i+1):=by
 obtain⟨h1,h2⟩:=h;refine⟨by rw[List.length_set,List.length_set,h1],fun k=>?_⟩;have ex:l[l.length - 1 - i]?=some x:=by rw[←hx,h2,if_neg (by omega)]
 have ey:l[i]?=some y:=by rw[←hy,h2,if_neg (by omega)]
 by_cases e1:k=l.length - 1 - i
 ·rw[e1,List.getElem?_set_self (by rw[List.length_set];omega),if_pos (by omega),yK l (by omega),show l.length - 1 - (l.length - 1 - i)=i by omega,ey]
 ·rw[List.getElem?_set_ne (fun e=>e1 e.symm)]
  by_cases e2:k=i
  ·rw[e2,List.getElem?_set_self (by omega),if_pos (by omega),yK l (by omega),ex]
  ·rw[List.getElem?_set_ne (fun e=>e2 e.symm),h2]
   by_cases e3:k<i∨l.length≤k+i
   ·rw[if_pos e3,if_pos (by omega)]
   ·rw[if_neg e3,if_neg (by omega)]
theorem yY.done {l l':List NN}{i:Nat}(h:yY l l' i)(hi:¬i<l.length - 1 - i):l'=l.reverse:=by
 obtain⟨h1,h2⟩:=h;refine List.ext_getElem? fun k=>?_;rw[h2]
 by_cases e:k<i∨l.length≤k+i
 ·rw[if_pos e]
 ·rw[if_neg e];have:k=i:=by omega
  rw[yK l (by omega)]
  congr 1;omega
def ZM (l:List Nd):Prop:=l.length≤274877906944∧∀a∈l,a.kind=15→oT a
theorem BF {l:List Nd}(h:KV l):ZM l:=⟨h.1,fun a ha _=>h.2 a ha⟩
theorem D_ {l:List NN}{y:NN}(h:l[l.length - 1]?=some y):(l.map NN.er).getLastD kJ=y.er:=by
 rw[List.getLastD_eq_getLast?,List.getLast?_eq_getElem?,List.length_map,List.getElem?_map,h];rfl
def lF (pre:List NN)(on:Bool)(D:NN):List NN:=match on with
 |true=>pre++[D]
 |false=>pre
def clE (T:Nat)(on:Bool)(D:NN):aq:=match on with
 |true=>aT D.h.v T aM D.ag
 |false=>aq.dF []
def Jc (on:Bool)(n:Nat):Value:=match on with
 |true=>i64 n
 |false=>i64 (-1)
def DOk (D:NN):Prop:=∃(c0:NN) (m:List NN) (p r:NN),D.ag=c0::m∧c0.ag=[p,r]
theorem j0 (l:List NN)(y:NN):(l++[y])[l.length]?=some y:=by simp
theorem q7 (l:List NN)(y:NN):((l++[y]).map NN.er).getLastD kJ=y.er:=by simp [List.getLastD_eq_getLast?]
theorem zy {D c0 p r:NN}{m:List NN}(h:D.ag=c0::m)(h2:c0.ag=[p,r]):arity D.er=p.ag.length:=by
 unfold arity sub;rw[NN.bo,h];show ((c0.er.ag.getD 0 kJ).ag).length=_;rw[NN.bo,h2];show p.er.ag.length=_;rw[NN.bo,List.length_map]
theorem tK (pre:List NN)(D x:NN)(h:aO):(pre++[NN.mk D.kind D.name D.n D.line D.cR h (D.ag++[x])]).map NN.er=ja ((pre++[D]).map NN.er) x.er:=by
 unfold ja;rw[List.map_append,List.map_append,List.map_cons,List.map_cons,List.map_nil,List.getLast?_append,List.dropLast_concat];show _=_++[Nd.mk D.er.kind D.er.name D.er.n (D.er.ag++[x.er])];rw[bJ,NN.al,NN.aH,NN.cU,NN.bo,List.map_append];rfl
theorem setLast (l:List NN)(x y:NN):(l++[x]).set l.length y=l++[y]:=by simp
theorem St.Mw {w0 w:World}{M:List Nat}{L:List aq}{T i:Nat}{l:List NN}{h:aO}{x y:NN}(hO:St w0 M w L)(hi:L[i]?=some (aT h.v T aM ((l++[x]).set l.length y))):St w0 M w (L.set i (aT h.v T aM (l++[y]))):=by
 rw[setLast] at hi;have e:L.set i (aT h.v T aM (l++[y]))=L:=by
  refine List.ext_getElem? fun j=>?_;rw[List.getElem?_set]
  split
  ·rename_i hj;subst hj
   split
   ·exact hi.symm
   ·rename_i h2;exact absurd (List.getElem?_eq_some_iff.1 hi).1 h2
  ·rfl
 rw[e];exact hO
theorem St.asD {w0 w:World}{M:List Nat}{L:List aq}{T i:Nat}{l:List NN}{h:aO}{D:NN}(hO:St w0 M w L)(hi:L[i]?=some (aT h.v T aM l))(hs:D.ag=l)(hh:D.h=h):St w0 M w (L.set i (aT D.h.v T aM D.ag)):=by
 subst hs hh;have e:L.set i (aT D.h.v T aM D.ag)=L:=by
  refine List.ext_getElem? fun j=>?_;rw[List.getElem?_set]
  split
  ·rename_i hj;subst hj
   split
   ·exact hi.symm
   ·rename_i h2;exact absurd (List.getElem?_eq_some_iff.1 hi).1 h2
  ·rfl
 rw[e];exact hO
section
variable {P:Program} {id:Nat} {l:List Oper} {Q:Exit→Act→World→Prop} {a:Act} {w w0:World} {M:List Nat} {L Lb:List aq} {is ks ord:List Nat}
theorem aap {E:Value→World→Prop}[hm:YM P](hO:St w0 M w L)(hE:∀v a' w',a'.defers=a.defers→E v w'→Q (.panic (pe v)) a' w')[hb:FB L is Lb](hn:Bz L.length is=true)(hlook:wQ l.toArray ks ord=true)
  (h:∀w,St w0 M w L→kA P l.toArray ks (fun w=>St w0 M w Lb) E (Q .normal) ord a w):eO (is,ks,ord) 0 ((Code.region id l.toArray true).wp P Q a w):=
 ⟨ym ks ord _ E hm.h hlook (hO.drew.s is hn) hE (h _ hO.drew)⟩
theorem W_ {E:Value→World→Prop}(hO:St w0 M w L)(hE:∀v a' w',a'.defers=a.defers→E v w'→Q (.panic (pe v)) a' w')[hb:FB L is Lb](hn:Bz L.length is=true)(hlook:wQ l.toArray ks ord=true)
  (h:kA P l.toArray ks (fun w=>St w0 M w Lb) E (Q .normal) ord a w):eO (is,ks,ord) 0 (OW P l Q a w):=
 ⟨Wc ks ord _ E hlook (hO.s is hn) hE h⟩
theorem zCe {n:Nat}{o:Oper}{f:Nat}{args:List Operand}{vs:List Value}{ts:Array TypeId}{R E:Value→World→Prop}{F:List (Nat×Value)}[hf:YC P f](_:dx P f vs.toArray w R E)(hF:Fr a n F)(ho:o.op=.call {callee:=.value (.func f),args:=args.toArray,argTypes:=ts})(hv:Fl F args=some vs):(execOp a.eval o).run P w=.ok (.enter f vs.toArray) w:=
 dV hF ho hv hf.h
end
theorem nh {P:Program}{f m:Nat}{fn:Func}{c:Code}{w:World}{l:List Value}{F:List (Nat×Value)}{R E:Value→World→Prop}(hf:P.funcs[f]?=some fn)(hm:fn.ntmps=m)[hz:LF l F](h:∀a,Fr a m F→c.wp P (GI P fn R E) a w)
  (hb:fn.body=some c:=by rfl) (hle:Nat.ble l.length m=true:=by rfl):dx P f l.toArray w R E:=by
 refine Nt (m:=m) hf hb hm F (by simpa using hle) ?_ h;rw[←hz.h];refine pE _ _ fun k v hm=>?_;simp only[List.range_eq_range'] at hm ⊢;have:=Cy l 0 k v hm
 simpa using this
class PlE (L:List aq)(p:outParam aG):Prop where
 h:∃i:Nat,L[i]?=some (a_ p)
instance {e:aq}{L:List aq}{p:aG}[h:PlE L p]:PlE (e::L) p:=⟨by obtain⟨i,hi⟩:=h.h;exact⟨i+1,hi⟩⟩
instance {L:List aq}{p:aG}:PlE (a_ p::L) p:=⟨0,rfl⟩
section
variable {P:Program} {o:Oper} {a:Act} {w w0:World} {M:List Nat} {L L':List aq} {p:aG} {h:aO} {l r:List NN} {T b n i j:Nat} {xs:List Value} {v u:Value}
theorem TG [q:PlE L p](hO:St w0 M w L)(hS:p.S h l):bF w [] h.v aM l:=by
 obtain⟨i,hi⟩:=q.h;exact hO.js i hi hS
theorem St.ka (hO:St w0 M w (.sl (.slice (some (aj b)) n n) T 6 n xs::L))(l:List NN)(hx:xs=flat aM l:=by rfl)(hn:n=l.length:=by rfl):St w0 M w (aT (aO.v ⟨some (aj b),n,n⟩) T aM l::L):=by
 subst hx hn;exact hO
structure ApI (r:List NN)(i j:Nat)(p:Prop):Prop where
 h:p
theorem gR {p:Prop}(r:List NN)(i j:Nat)(h:p):ApI r i j p:=⟨h⟩
theorem XW {q:Prop}{t:TypeId}{x y:Operand}{inf:TypeInfo}{zv:Value}{e2:Nat}{v2:Value}{L1:aO→List aq}(c:ApI r i j q)(hO:St w0 M w L)(hi:L[i]?=some (aT v T aM l))(hj:L[j]?=some (.sl v2 e2 6 r.length (flat aM r)))
  (ho:o.op=.call {callee:=.builtin .append,args:=#[x,y],argTypes:=#[t,t]}) (hx:a.eval x=v) (hy:a.eval y=v2) [hu:YU P t (.slice T)] [hin:YI P T inf]
  (hz:inf.zero=some zv) (hs:inf.size=6) (hb:inf.bytes=72) (hzs:zv.cells.size=6)
  [hL:∀h:aO,Zz L i (aT h.v T aM (l++r)) (L1 h)]
  (hm:q→(l.length+r.length) * 72≤140737488355328:=by
    intro hq
    first
    |omega
    | (simp only[List.length_cons,List.length_nil,List.length_append];omega)
    | (simp only[lF,List.length_append,List.length_cons,List.length_nil] at hq;first|omega| (simp only[List.length_cons,List.length_nil,List.length_append];omega))):eH P o a w (fun u w'=>∃h:aO,u=h.v∧St w0 M w' (L1 h)):=by
 have h1:=hm c.h;refine (cO (E:=aM) (bytes:=72) (r:=r) hO hi (hO.rd j hj) hu.h hin.h hz hs hb hzs rfl ho hx hy h1 (by omega)).mono fun u w' hS=>?_;have hi':i<L.length:=(List.getElem?_eq_some_iff.1 hi).1;obtain⟨h,rfl⟩:=Rd.hdr (hS.rd i (by rw[List.getElem?_set_self hi'];rfl));refine⟨h,rfl,?_⟩;rw[(hL h).h] at hS;exact hS
theorem zAp {H:Prop}{R:Value→World→Prop}(c:H)(h:H→eH P o a w R:=by intro c;exact XW c hO rfl rfl rfl (hF.eval rfl) (hF.eval rfl) rfl rfl rfl rfl):eH P o a w R:=h c
end
theorem Zo (n:Nat)(is ks ord:List Nat){G K:Prop}(k:K)(h:K→eO (is,ks,ord) n G:=by
  intro k
  repeat (first
  | ((with_reducible show eO _ (_+1) (wpList _ _ _ (_::_) _ _));first| (refine aB (ao hF rfl rfl rfl (bf hF rfl)) ?_;intro a hF)| (refine aB (ao hF rfl rfl rfl eN) ?_;intro a hF)| (refine aB (cW hF rfl rfl rfl rfl gL rfl rfl) ?_;intro a hF)|refine gJ (bg hF rfl rfl rfl rfl gL) ?_)
  |with_unfolding_none (first|refine aF c8 ?_ |refine aF fV ?_ |refine aF fZ ?_)
  |with_reducible (first|refine aF wp_seq ?_ |refine aF wp_region_lit ?_ |refine aF wp_block ?_ |refine aF wp_skip ?_ |refine aF wp_exit ?_ |refine aF wp_ret ?_)
  | ((with_reducible show eO _ (_+1) (ji _ _ _ _ (_::_) _ _ _));first| (refine aB (dE hF rfl rfl rfl (fun w=>(bf hF rfl))) ?_;intro a hF)| (refine aB (dE hF rfl rfl rfl (fun w=>eN)) ?_;intro a hF)| (refine aB (jC hF rfl rfl rfl (fun w hO=>eN)) ?_;intro a hF)| (refine aB (iu hF rfl rfl rfl rfl gL rfl rfl) ?_;intro a hF)|refine gJ (ij hF rfl rfl rfl rfl gL) ?_)
  | ((with_reducible show eO _ (_+1) (kA _ _ _ _ _ _ (_::_) _ _));first| (refine aB (eC rfl rfl hF rfl rfl rfl (fun w=>(bf hF rfl))) ?_;intro a hF)| (refine aB (eC rfl rfl hF rfl rfl rfl (fun w=>eN)) ?_;intro a hF)| (refine aB (fM rfl rfl hF rfl rfl rfl (fun w hO=>eN)) ?_;intro a hF))
  |refine aF w9 ?_
  |refine aF (ye rfl) ?_
  |with_unfolding_none refine aF v7 ?_)
  (refine aap hO (by intro v a2 w2 hd h;first| ((repeat (with_unfolding_none (first|refine ml ?_ |refine vF ?_)));exact cn (hd.trans hF.defs) h)|exact False.elim h) rfl (by kernel_rfl) ?_;intro w hO;first|with_reducible exact k w hO|exact k a w hO hF)):G:=(h k).go
theorem Zq (is ks ord:List Nat){G K:Prop}(k:K)(h:K→eO (is,ks,ord) 0 G:=by
  intro k
  (refine W_ hO (by intro v a2 w2 hd h;first| ((repeat (with_unfolding_none (first|refine ml ?_ |refine vF ?_)));exact cn (hd.trans hF.defs) h)|exact False.elim h) rfl (by kernel_rfl) ?_;exact k)):G:=(h k).go
theorem Ze (n:Nat){G K H:Prop}(c:H)(k:K)(h:H→K→eO () n G:=by
  intro c k
  repeat (first
  | ((with_reducible show eO _ (_+1) (wpList _ _ _ (_::_) _ _));first| (refine aB (ao hF rfl rfl rfl (bf hF rfl)) ?_;intro a hF)| (refine aB (ao hF rfl rfl rfl eN) ?_;intro a hF)| (refine aB (cW hF rfl rfl rfl rfl gL rfl rfl) ?_;intro a hF)|refine gJ (bg hF rfl rfl rfl rfl gL) ?_)
  |with_unfolding_none (first|refine aF c8 ?_ |refine aF fV ?_ |refine aF fZ ?_)
  |with_reducible (first|refine aF wp_seq ?_ |refine aF wp_region_lit ?_ |refine aF wp_block ?_ |refine aF wp_skip ?_ |refine aF wp_exit ?_ |refine aF wp_ret ?_)
  | ((with_reducible show eO _ (_+1) (ji _ _ _ _ (_::_) _ _ _));first| (refine aB (dE hF rfl rfl rfl (fun w=>(bf hF rfl))) ?_;intro a hF)| (refine aB (dE hF rfl rfl rfl (fun w=>eN)) ?_;intro a hF)| (refine aB (jC hF rfl rfl rfl (fun w hO=>eN)) ?_;intro a hF)| (refine aB (iu hF rfl rfl rfl rfl gL rfl rfl) ?_;intro a hF)|refine gJ (ij hF rfl rfl rfl rfl gL) ?_)
  | ((with_reducible show eO _ (_+1) (kA _ _ _ _ _ _ (_::_) _ _));first| (refine aB (eC rfl rfl hF rfl rfl rfl (fun w=>(bf hF rfl))) ?_;intro a hF)| (refine aB (eC rfl rfl hF rfl rfl rfl (fun w=>eN)) ?_;intro a hF)| (refine aB (fM rfl rfl hF rfl rfl rfl (fun w hO=>eN)) ?_;intro a hF))
  |refine aF w9 ?_
  |refine aF (ye rfl) ?_
  |with_unfolding_none refine aF v7 ?_)
  first
  | (refine rE (k_ hF rfl rfl rfl (zCe c hF rfl rfl) c (by rintro _ w ⟨l,c2,e,n2,d2,he,rfl,hS⟩;(repeat (with_unfolding_none (first|refine ml ?_ |refine vF ?_)));exact cn hF.defs ⟨l,c2,e,n2,d2,by first|exact cT hQ he|exact y0 hQ he,rfl,by first|exact (St.k1 hO hS).kp|exact (St.k2 hO hS).kp|exact (St.k3 hO hS).kp⟩)) ?_;exact k)
  | (refine rE (V1 hF rfl rfl (zCe c hF rfl rfl) c (by rintro _ w ⟨l,c2,e,n2,d2,he,rfl,hS⟩;(repeat (with_unfolding_none (first|refine ml ?_ |refine vF ?_)));exact cn hF.defs ⟨l,c2,e,n2,d2,by first|exact cT hQ he|exact y0 hQ he,rfl,by first|exact (St.k1 hO hS).kp|exact (St.k2 hO hS).kp|exact (St.k3 hO hS).kp⟩)) ?_;exact k)):G:=(h c k).go
theorem Zm (n:Nat){G K H:Prop}(c:H)(k:K)(h:H→K→eO () n G:=by
  intro c k
  repeat (first
  | ((with_reducible show eO _ (_+1) (wpList _ _ _ (_::_) _ _));first| (refine aB (ao hF rfl rfl rfl (bf hF rfl)) ?_;intro a hF)| (refine aB (ao hF rfl rfl rfl eN) ?_;intro a hF)| (refine aB (cW hF rfl rfl rfl rfl gL rfl rfl) ?_;intro a hF)|refine gJ (bg hF rfl rfl rfl rfl gL) ?_)
  |with_unfolding_none (first|refine aF c8 ?_ |refine aF fV ?_ |refine aF fZ ?_)
  |with_reducible (first|refine aF wp_seq ?_ |refine aF wp_region_lit ?_ |refine aF wp_block ?_ |refine aF wp_skip ?_ |refine aF wp_exit ?_ |refine aF wp_ret ?_)
  | ((with_reducible show eO _ (_+1) (ji _ _ _ _ (_::_) _ _ _));first| (refine aB (dE hF rfl rfl rfl (fun w=>(bf hF rfl))) ?_;intro a hF)| (refine aB (dE hF rfl rfl rfl (fun w=>eN)) ?_;intro a hF)| (refine aB (jC hF rfl rfl rfl (fun w hO=>eN)) ?_;intro a hF)| (refine aB (iu hF rfl rfl rfl rfl gL rfl rfl) ?_;intro a hF)|refine gJ (ij hF rfl rfl rfl rfl gL) ?_)
  | ((with_reducible show eO _ (_+1) (kA _ _ _ _ _ _ (_::_) _ _));first| (refine aB (eC rfl rfl hF rfl rfl rfl (fun w=>(bf hF rfl))) ?_;intro a hF)| (refine aB (eC rfl rfl hF rfl rfl rfl (fun w=>eN)) ?_;intro a hF)| (refine aB (fM rfl rfl hF rfl rfl rfl (fun w hO=>eN)) ?_;intro a hF))
  |refine aF w9 ?_
  |refine aF (ye rfl) ?_
  |with_unfolding_none refine aF v7 ?_)
  (refine rE (XH rfl rfl hF rfl rfl rfl (zCe c hF rfl rfl) c kpC (by rintro _ w ⟨l,c2,e,n2,d2,he,rfl,hS⟩;exact⟨l,c2,e,n2,d2,by first|exact cT hQ he|exact y0 hQ he,rfl,by first|exact (St.k1 hO hS).kp|exact (St.k2 hO hS).kp|exact (St.k3 hO hS).kp⟩)) ?_;exact k)):G:=(h c k).go
theorem Za (n:Nat){G K H:Prop}(c:H)(k:K)(h:H→K→eO () n G:=by
  intro c k
  repeat (first
  | ((with_reducible show eO _ (_+1) (wpList _ _ _ (_::_) _ _));first| (refine aB (ao hF rfl rfl rfl (bf hF rfl)) ?_;intro a hF)| (refine aB (ao hF rfl rfl rfl eN) ?_;intro a hF)| (refine aB (cW hF rfl rfl rfl rfl gL rfl rfl) ?_;intro a hF)|refine gJ (bg hF rfl rfl rfl rfl gL) ?_)
  |with_unfolding_none (first|refine aF c8 ?_ |refine aF fV ?_ |refine aF fZ ?_)
  |with_reducible (first|refine aF wp_seq ?_ |refine aF wp_region_lit ?_ |refine aF wp_block ?_ |refine aF wp_skip ?_ |refine aF wp_exit ?_ |refine aF wp_ret ?_)
  | ((with_reducible show eO _ (_+1) (ji _ _ _ _ (_::_) _ _ _));first| (refine aB (dE hF rfl rfl rfl (fun w=>(bf hF rfl))) ?_;intro a hF)| (refine aB (dE hF rfl rfl rfl (fun w=>eN)) ?_;intro a hF)| (refine aB (jC hF rfl rfl rfl (fun w hO=>eN)) ?_;intro a hF)| (refine aB (iu hF rfl rfl rfl rfl gL rfl rfl) ?_;intro a hF)|refine gJ (ij hF rfl rfl rfl rfl gL) ?_)
  | ((with_reducible show eO _ (_+1) (kA _ _ _ _ _ _ (_::_) _ _));first| (refine aB (eC rfl rfl hF rfl rfl rfl (fun w=>(bf hF rfl))) ?_;intro a hF)| (refine aB (eC rfl rfl hF rfl rfl rfl (fun w=>eN)) ?_;intro a hF)| (refine aB (fM rfl rfl hF rfl rfl rfl (fun w hO=>eN)) ?_;intro a hF))
  |refine aF w9 ?_
  |refine aF (ye rfl) ?_
  |with_unfolding_none refine aF v7 ?_)
  refine QD ?_
  first
  | (refine lM (fN hF rfl rfl rfl (zAp c)) ?_;rintro a _ w ⟨h,rfl,hO⟩ hF;refine ny ?_;exact k h a w hO hF)
  | (refine lM (vO rfl rfl hF rfl rfl rfl (zAp c)) ?_;rintro a _ w ⟨h,rfl,hO⟩ hF;refine ny ?_;exact k h a w hO hF)):G:=(h c k).go
set_option maxRecDepth 100000
instance:type_of% (YU.mk Tryz.underlying2):=⟨Tryz.underlying2⟩
instance:type_of% (YU.mk Tryz.underlying3):=⟨Tryz.underlying3⟩
instance:type_of% (YU.mk Tryz.underlying5):=⟨Tryz.underlying5⟩
instance:type_of% (YU.mk Tryz.underlying9):=⟨Tryz.underlying9⟩
instance:type_of% (YU.mk Tryz.underlying21):=⟨Tryz.underlying21⟩
instance:type_of% (YU.mk Tryz.underlying22):=⟨Tryz.underlying22⟩
instance:type_of% (YU.mk Tryz.underlying26):=⟨Tryz.underlying26⟩
instance:type_of% (YU.mk Tryz.underlying28):=⟨Tryz.underlying28⟩
instance:type_of% (YU.mk Tryz.underlying29):=⟨Tryz.underlying29⟩
instance:type_of% (YU.mk Tryz.underlying31):=⟨Tryz.underlying31⟩
instance:type_of% (YU.mk Tryz.underlying37):=⟨Tryz.underlying37⟩
instance:type_of% (YU.mk Tryz.underlying44):=⟨Tryz.underlying44⟩
instance:type_of% (YU.mk Tryz.underlying47):=⟨Tryz.underlying47⟩
instance:type_of% (YU.mk Tryz.underlying51):=⟨Tryz.underlying51⟩
instance:type_of% (YU.mk Tryz.underlying53):=⟨Tryz.underlying53⟩
instance:type_of% (YU.mk Tryz.underlying56):=⟨Tryz.underlying56⟩
instance:type_of% (YU.mk Tryz.underlying70):=⟨Tryz.underlying70⟩
instance:type_of% (YU.mk Tryz.underlying77):=⟨Tryz.underlying77⟩
instance:type_of% (YU.mk Tryz.underlying83):=⟨Tryz.underlying83⟩
instance:type_of% (YU.mk Tryz.underlying85):=⟨Tryz.underlying85⟩
instance:type_of% (YU.mk Tryz.underlying100):=⟨Tryz.underlying100⟩
instance:type_of% (YU.mk Tryz.underlying106):=⟨Tryz.underlying106⟩
instance:type_of% (YU.mk Tryz.underlying113):=⟨Tryz.underlying113⟩
instance:type_of% (YU.mk Tryz.underlying115):=⟨Tryz.underlying115⟩
instance:type_of% (YU.mk Tryz.underlying125):=⟨Tryz.underlying125⟩
instance:type_of% (YU.mk Tryz.underlying143):=⟨Tryz.underlying143⟩
instance:type_of% (YU.mk Tryz.underlying152):=⟨Tryz.underlying152⟩
instance:type_of% (YU.mk Tryz.underlying158):=⟨Tryz.underlying158⟩
instance:type_of% (YU.mk Tryz.underlying167):=⟨Tryz.underlying167⟩
instance:type_of% (YU.mk Tryz.underlying169):=⟨Tryz.underlying169⟩
instance:type_of% (YU.mk Tryz.underlying171):=⟨Tryz.underlying171⟩
instance:type_of% (YU.mk Tryz.underlying176):=⟨Tryz.underlying176⟩
instance:type_of% (YU.mk Tryz.underlying182):=⟨Tryz.underlying182⟩
instance:type_of% (YU.mk Tryz.underlying187):=⟨Tryz.underlying187⟩
instance:type_of% (YU.mk Tryz.underlying191):=⟨Tryz.underlying191⟩
instance:type_of% (YU.mk Tryz.underlying197):=⟨Tryz.underlying197⟩
instance:type_of% (YU.mk Tryz.underlying202):=⟨Tryz.underlying202⟩
instance:type_of% (YU.mk Tryz.underlying205):=⟨Tryz.underlying205⟩
instance:type_of% (YU.mk Tryz.underlying207):=⟨Tryz.underlying207⟩
instance:type_of% (YU.mk Tryz.underlying208):=⟨Tryz.underlying208⟩
instance:type_of% (YU.mk Tryz.underlying211):=⟨Tryz.underlying211⟩
instance:type_of% (YU.mk Tryz.underlying217):=⟨Tryz.underlying217⟩
instance:type_of% (YU.mk Tryz.underlying218):=⟨Tryz.underlying218⟩
instance:type_of% (YU.mk Tryz.underlying219):=⟨Tryz.underlying219⟩
instance:type_of% (YU.mk Tryz.underlying222):=⟨Tryz.underlying222⟩
instance:type_of% (YU.mk Tryz.underlying223):=⟨Tryz.underlying223⟩
instance:YS Tryz.prog 3 1:=⟨Tryz.sizeOf3⟩
instance:YS Tryz.prog 4 1:=⟨Tryz.sizeOf4⟩
instance:YS Tryz.prog 5 1:=⟨Tryz.sizeOf5⟩
instance:YS Tryz.prog 9 1:=⟨Tryz.sizeOf9⟩
instance:YS Tryz.prog 22 1:=⟨Tryz.sizeOf22⟩
instance:YS Tryz.prog 26 1:=⟨Tryz.sizeOf26⟩
instance:YS Tryz.prog 28 6:=⟨Tryz.sizeOf28⟩
instance:YS Tryz.prog 29 1:=⟨Tryz.sizeOf29⟩
instance:YS Tryz.prog 31 4:=⟨Tryz.sizeOf31⟩
instance:YS Tryz.prog 35 1:=⟨Tryz.sizeOf35⟩
instance:YS Tryz.prog 44 5:=⟨Tryz.sizeOf44⟩
instance:YS Tryz.prog 47 4:=⟨Tryz.sizeOf47⟩
instance:YS Tryz.prog 49 1:=⟨Tryz.sizeOf49⟩
instance:YS Tryz.prog 51 3:=⟨Tryz.sizeOf51⟩
instance:YS Tryz.prog 58 1:=⟨Tryz.sizeOf58⟩
instance:YS Tryz.prog 60 1:=⟨Tryz.sizeOf60⟩
instance:YS Tryz.prog 64 1:=⟨Tryz.sizeOf64⟩
instance:YS Tryz.prog 83 1:=⟨Tryz.sizeOf83⟩
instance:YS Tryz.prog 100 1:=⟨Tryz.sizeOf100⟩
instance:YS Tryz.prog 103 1:=⟨Tryz.sizeOf103⟩
instance:YS Tryz.prog 106 3:=⟨Tryz.sizeOf106⟩
instance:YS Tryz.prog 107 1:=⟨Tryz.sizeOf107⟩
instance:YS Tryz.prog 110 1:=⟨Tryz.sizeOf110⟩
instance:YS Tryz.prog 113 1:=⟨Tryz.sizeOf113⟩
instance:YS Tryz.prog 115 2:=⟨Tryz.sizeOf115⟩
instance:YS Tryz.prog 152 4:=⟨Tryz.sizeOf152⟩
instance:YS Tryz.prog 158 1:=⟨Tryz.sizeOf158⟩
instance:YS Tryz.prog 167 1:=⟨Tryz.sizeOf167⟩
instance:YS Tryz.prog 171 1:=⟨Tryz.sizeOf171⟩
instance:YS Tryz.prog 182 256:=⟨Tryz.sizeOf182⟩
instance:YS Tryz.prog 207 2:=⟨Tryz.sizeOf207⟩
instance:YS Tryz.prog 208 32:=⟨Tryz.sizeOf208⟩
instance:YS Tryz.prog 217 20:=⟨Tryz.sizeOf217⟩
instance:YS Tryz.prog 222 32:=⟨Tryz.sizeOf222⟩
instance:YS Tryz.prog 223 64:=⟨Tryz.sizeOf223⟩
instance:YA Tryz.prog 3 false:=⟨Tryz.isAgg3⟩
instance:YA Tryz.prog 4 false:=⟨Tryz.isAgg4⟩
instance:YA Tryz.prog 5 false:=⟨Tryz.isAgg5⟩
instance:YA Tryz.prog 9 false:=⟨Tryz.isAgg9⟩
instance:YA Tryz.prog 22 false:=⟨Tryz.isAgg22⟩
instance:YA Tryz.prog 26 false:=⟨Tryz.isAgg26⟩
instance:YA Tryz.prog 28 true:=⟨Tryz.isAgg28⟩
instance:YA Tryz.prog 29 false:=⟨Tryz.isAgg29⟩
instance:YA Tryz.prog 31 true:=⟨Tryz.isAgg31⟩
instance:YA Tryz.prog 35 false:=⟨Tryz.isAgg35⟩
instance:YA Tryz.prog 44 true:=⟨Tryz.isAgg44⟩
instance:YA Tryz.prog 49 false:=⟨Tryz.isAgg49⟩
instance:YA Tryz.prog 58 false:=⟨Tryz.isAgg58⟩
instance:YA Tryz.prog 60 false:=⟨Tryz.isAgg60⟩
instance:YA Tryz.prog 64 false:=⟨Tryz.isAgg64⟩
instance:YA Tryz.prog 83 false:=⟨Tryz.isAgg83⟩
instance:YA Tryz.prog 100 false:=⟨Tryz.isAgg100⟩
instance:YA Tryz.prog 103 false:=⟨Tryz.isAgg103⟩
instance:YA Tryz.prog 107 false:=⟨Tryz.isAgg107⟩
instance:YA Tryz.prog 110 false:=⟨Tryz.isAgg110⟩
instance:YA Tryz.prog 113 false:=⟨Tryz.isAgg113⟩
instance:YA Tryz.prog 115 true:=⟨Tryz.isAgg115⟩
instance:YA Tryz.prog 152 true:=⟨Tryz.isAgg152⟩
instance:YA Tryz.prog 158 false:=⟨Tryz.isAgg158⟩
instance:YA Tryz.prog 167 false:=⟨Tryz.isAgg167⟩
instance:YA Tryz.prog 171 false:=⟨Tryz.isAgg171⟩
instance:YA Tryz.prog 182 true:=⟨Tryz.isAgg182⟩
instance:YA Tryz.prog 207 true:=⟨Tryz.isAgg207⟩
instance:type_of% (YZ.mk Tryz.zeroValue3):=⟨Tryz.zeroValue3⟩
instance:type_of% (YZ.mk Tryz.zeroValue5):=⟨Tryz.zeroValue5⟩
instance:type_of% (YZ.mk Tryz.zeroValue9):=⟨Tryz.zeroValue9⟩
instance:type_of% (YZ.mk Tryz.zeroValue26):=⟨Tryz.zeroValue26⟩
instance:type_of% (YZ.mk Tryz.zeroValue28):=⟨Tryz.zeroValue28⟩
instance:type_of% (YZ.mk Tryz.zeroValue31):=⟨Tryz.zeroValue31⟩
instance:type_of% (YZ.mk Tryz.zeroValue37):=⟨Tryz.zeroValue37⟩
instance:type_of% (YZ.mk Tryz.zeroValue44):=⟨Tryz.zeroValue44⟩
instance:type_of% (YZ.mk Tryz.zeroValue47):=⟨Tryz.zeroValue47⟩
instance:type_of% (YZ.mk Tryz.zeroValue51):=⟨Tryz.zeroValue51⟩
instance:type_of% (YZ.mk Tryz.zeroValue53):=⟨Tryz.zeroValue53⟩
instance:type_of% (YZ.mk Tryz.zeroValue56):=⟨Tryz.zeroValue56⟩
instance:type_of% (YZ.mk Tryz.zeroValue58):=⟨Tryz.zeroValue58⟩
instance:type_of% (YZ.mk Tryz.zeroValue70):=⟨Tryz.zeroValue70⟩
instance:type_of% (YZ.mk Tryz.zeroValue85):=⟨Tryz.zeroValue85⟩
instance:type_of% (YZ.mk Tryz.zeroValue106):=⟨Tryz.zeroValue106⟩
instance:type_of% (YZ.mk Tryz.zeroValue107):=⟨Tryz.zeroValue107⟩
instance:type_of% (YZ.mk Tryz.zeroValue115):=⟨Tryz.zeroValue115⟩
instance:type_of% (YZ.mk Tryz.zeroValue143):=⟨Tryz.zeroValue143⟩
instance:type_of% (YZ.mk Tryz.zeroValue152):=⟨Tryz.zeroValue152⟩
instance:type_of% (YZ.mk Tryz.zeroValue169):=⟨Tryz.zeroValue169⟩
instance:type_of% (YZ.mk Tryz.zeroValue182):=⟨Tryz.zeroValue182⟩
instance:type_of% (YZ.mk Tryz.zeroValue191):=⟨Tryz.zeroValue191⟩
instance:type_of% (YZ.mk Tryz.zeroValue202):=⟨Tryz.zeroValue202⟩
instance:type_of% (YZ.mk Tryz.zeroValue207):=⟨Tryz.zeroValue207⟩
instance:type_of% (YZ.mk Tryz.zeroValue208):=⟨Tryz.zeroValue208⟩
instance:type_of% (YZ.mk Tryz.zeroValue211):=⟨Tryz.zeroValue211⟩
instance:type_of% (YZ.mk Tryz.zeroValue217):=⟨Tryz.zeroValue217⟩
instance:type_of% (YZ.mk Tryz.zeroValue219):=⟨Tryz.zeroValue219⟩
instance:type_of% (YZ.mk Tryz.zeroValue222):=⟨Tryz.zeroValue222⟩
instance:type_of% (YZ.mk Tryz.zeroValue223):=⟨Tryz.zeroValue223⟩
instance:YI Tryz.prog 5 Tryz.t5:=⟨iX⟩
instance:YI Tryz.prog 28 Tryz.t28:=⟨nT⟩
instance:YI Tryz.prog 44 Tryz.t44:=⟨fq⟩
instance:YI Tryz.prog 115 Tryz.t115:=⟨k8⟩
instance:YL Tryz.prog 28 [0,1,2,3,4,5]:=⟨vT⟩
instance:YL Tryz.prog 31 [0,1,2,3]:=⟨we⟩
instance:YL Tryz.prog 44 [0,1,2,3,4]:=⟨v_⟩
instance:YL Tryz.prog 51 [0,1,2]:=⟨vM⟩
instance:YL Tryz.prog 70 [0,1,2,3]:=⟨vY⟩
instance:YL Tryz.prog 106 [0,1,2]:=⟨vn⟩
instance:YL Tryz.prog 115 [0,1]:=⟨vA⟩
instance:YL Tryz.prog 143 [0,1,2,3]:=⟨uZ⟩
instance:YF Tryz.prog 28 0 0:=⟨_,_,_,Tryz.underlying28,rfl,Tryz.sizeOf3,by decide,rfl⟩
instance:YF Tryz.prog 28 1 1:=⟨_,_,_,Tryz.underlying28,rfl,Tryz.sizeOf9,by decide,rfl⟩
instance:YF Tryz.prog 28 2 2:=⟨_,_,_,Tryz.underlying28,rfl,Tryz.sizeOf3,by decide,rfl⟩
instance:YF Tryz.prog 28 3 3:=⟨_,_,_,Tryz.underlying28,rfl,Tryz.sizeOf3,by decide,rfl⟩
instance:YF Tryz.prog 28 4 4:=⟨_,_,_,Tryz.underlying28,rfl,Tryz.sizeOf3,by decide,rfl⟩
instance:YF Tryz.prog 28 5 5:=⟨_,_,_,Tryz.underlying28,rfl,Tryz.sizeOf26,by decide,rfl⟩
instance:YF Tryz.prog 31 1 1:=⟨_,_,_,Tryz.underlying31,rfl,Tryz.sizeOf3,by decide,rfl⟩
instance:YF Tryz.prog 31 2 2:=⟨_,_,_,Tryz.underlying31,rfl,Tryz.sizeOf3,by decide,rfl⟩
instance:YF Tryz.prog 31 3 3:=⟨_,_,_,Tryz.underlying31,rfl,Tryz.sizeOf29,by decide,rfl⟩
instance:YF Tryz.prog 37 0 0:=⟨_,_,_,Tryz.underlying37,rfl,Tryz.sizeOf22,by decide,rfl⟩
instance:YF Tryz.prog 44 0 0:=⟨_,_,_,Tryz.underlying44,rfl,Tryz.sizeOf3,by decide,rfl⟩
instance:YF Tryz.prog 44 1 1:=⟨_,_,_,Tryz.underlying44,rfl,Tryz.sizeOf9,by decide,rfl⟩
instance:YF Tryz.prog 44 2 2:=⟨_,_,_,Tryz.underlying44,rfl,Tryz.sizeOf3,by decide,rfl⟩
instance:YF Tryz.prog 44 3 3:=⟨_,_,_,Tryz.underlying44,rfl,Tryz.sizeOf3,by decide,rfl⟩
instance:YF Tryz.prog 44 4 4:=⟨_,_,_,Tryz.underlying44,rfl,Tryz.sizeOf3,by decide,rfl⟩
instance:YF Tryz.prog 47 0 0:=⟨_,_,_,Tryz.underlying47,rfl,Tryz.sizeOf31,by decide,rfl⟩
instance:YF Tryz.prog 51 0 0:=⟨_,_,_,Tryz.underlying51,rfl,Tryz.sizeOf22,by decide,rfl⟩
instance:YF Tryz.prog 51 1 1:=⟨_,_,_,Tryz.underlying51,rfl,Tryz.sizeOf3,by decide,rfl⟩
instance:YF Tryz.prog 51 2 2:=⟨_,_,_,Tryz.underlying51,rfl,Tryz.sizeOf3,by decide,rfl⟩
instance:YF Tryz.prog 53 0 0:=⟨_,_,_,Tryz.underlying53,rfl,Tryz.sizeOf51,by decide,rfl⟩
instance:YF Tryz.prog 56 0 0:=⟨_,_,_,Tryz.underlying56,rfl,Tryz.sizeOf31,by decide,rfl⟩
instance:YF Tryz.prog 70 0 0:=⟨_,_,_,Tryz.underlying70,rfl,Tryz.sizeOf9,by decide,rfl⟩
instance:YF Tryz.prog 70 1 1:=⟨_,_,_,Tryz.underlying70,rfl,Tryz.sizeOf3,by decide,rfl⟩
instance:YF Tryz.prog 70 2 2:=⟨_,_,_,Tryz.underlying70,rfl,Tryz.sizeOf3,by decide,rfl⟩
instance:YF Tryz.prog 70 3 3:=⟨_,_,_,Tryz.underlying70,rfl,Tryz.sizeOf3,by decide,rfl⟩
instance:YF Tryz.prog 85 0 0:=⟨_,_,_,Tryz.underlying85,rfl,Tryz.sizeOf22,by decide,rfl⟩
instance:YF Tryz.prog 85 1 1:=⟨_,_,_,Tryz.underlying85,rfl,Tryz.sizeOf83,by decide,rfl⟩
instance:YF Tryz.prog 85 2 2:=⟨_,_,_,Tryz.underlying85,rfl,Tryz.sizeOf31,by decide,rfl⟩
instance:YF Tryz.prog 106 0 0:=⟨_,_,_,Tryz.underlying106,rfl,Tryz.sizeOf35,by decide,rfl⟩
instance:YF Tryz.prog 106 1 1:=⟨_,_,_,Tryz.underlying106,rfl,Tryz.sizeOf103,by decide,rfl⟩
instance:YF Tryz.prog 106 2 2:=⟨_,_,_,Tryz.underlying106,rfl,Tryz.sizeOf60,by decide,rfl⟩
instance:YF Tryz.prog 115 0 0:=⟨_,_,_,Tryz.underlying115,rfl,Tryz.sizeOf9,by decide,rfl⟩
instance:YF Tryz.prog 115 1 1:=⟨_,_,_,Tryz.underlying115,rfl,Tryz.sizeOf3,by decide,rfl⟩
instance:YF Tryz.prog 143 0 0:=⟨_,_,_,Tryz.underlying143,rfl,Tryz.sizeOf9,by decide,rfl⟩
instance:YF Tryz.prog 143 1 1:=⟨_,_,_,Tryz.underlying143,rfl,Tryz.sizeOf3,by decide,rfl⟩
instance:YF Tryz.prog 143 2 2:=⟨_,_,_,Tryz.underlying143,rfl,Tryz.sizeOf3,by decide,rfl⟩
instance:YF Tryz.prog 143 3 3:=⟨_,_,_,Tryz.underlying143,rfl,Tryz.sizeOf22,by decide,rfl⟩
instance:YF Tryz.prog 169 0 0:=⟨_,_,_,Tryz.underlying169,rfl,Tryz.sizeOf167,by decide,rfl⟩
instance:YF Tryz.prog 169 1 1:=⟨_,_,_,Tryz.underlying169,rfl,Tryz.sizeOf113,by decide,rfl⟩
instance:YF Tryz.prog 207 0 0:=⟨_,_,_,Tryz.underlying207,rfl,Tryz.sizeOf5,by decide,rfl⟩
instance:YF Tryz.prog 207 1 1:=⟨_,_,_,Tryz.underlying207,rfl,Tryz.sizeOf5,by decide,rfl⟩
instance:type_of% (YG.mk oG):=⟨oG⟩
instance:type_of% (YG.mk oz):=⟨oz⟩
instance:type_of% (YG.mk oA):=⟨oA⟩
instance:YD Tryz.prog 44 0 0:=⟨_,_,Tryz.underlying44,rfl,Tryz.isAgg3,rfl⟩
instance:YD Tryz.prog 44 1 1:=⟨_,_,Tryz.underlying44,rfl,Tryz.isAgg9,rfl⟩
instance:YD Tryz.prog 44 2 2:=⟨_,_,Tryz.underlying44,rfl,Tryz.isAgg3,rfl⟩
instance:YM Tryz.prog:=⟨bH⟩
instance:YC Tryz.prog 5:=⟨Tryz.call5⟩
instance:YC Tryz.prog 6:=⟨Tryz.call6⟩
instance:YC Tryz.prog 7:=⟨Tryz.call7⟩
instance:YC Tryz.prog 8:=⟨Tryz.call8⟩
instance:YC Tryz.prog 9:=⟨Tryz.call9⟩
instance:YC Tryz.prog 10:=⟨Tryz.call10⟩
instance:YC Tryz.prog 11:=⟨Tryz.call11⟩
instance:YC Tryz.prog 12:=⟨Tryz.call12⟩
instance:YC Tryz.prog 13:=⟨Tryz.call13⟩
instance:YC Tryz.prog 15:=⟨Tryz.call15⟩
instance:YC Tryz.prog 16:=⟨Tryz.call16⟩
instance:YC Tryz.prog 17:=⟨Tryz.call17⟩
instance:YC Tryz.prog 18:=⟨Tryz.call18⟩
instance:YC Tryz.prog 19:=⟨Tryz.call19⟩
instance:YC Tryz.prog 21:=⟨Tryz.call21⟩
instance:YC Tryz.prog 22:=⟨Tryz.call22⟩
instance:YC Tryz.prog 24:=⟨Tryz.call24⟩
instance:YC Tryz.prog 25:=⟨Tryz.call25⟩
instance:YC Tryz.prog 26:=⟨Tryz.call26⟩
instance:YC Tryz.prog 27:=⟨Tryz.call27⟩
instance:YC Tryz.prog 29:=⟨Tryz.call29⟩
instance:YC Tryz.prog 30:=⟨Tryz.call30⟩
instance:YC Tryz.prog 31:=⟨Tryz.call31⟩
instance:YC Tryz.prog 32:=⟨Tryz.call32⟩
instance:YC Tryz.prog 33:=⟨Tryz.call33⟩
instance:YC Tryz.prog 34:=⟨Tryz.call34⟩
instance:YC Tryz.prog 35:=⟨Tryz.call35⟩
instance:YC Tryz.prog 36:=⟨Tryz.call36⟩
instance:YC Tryz.prog 37:=⟨Tryz.call37⟩
instance:YC Tryz.prog 38:=⟨Tryz.call38⟩
instance:YC Tryz.prog 39:=⟨Tryz.call39⟩
instance:YC Tryz.prog 40:=⟨Tryz.call40⟩
instance:YC Tryz.prog 41:=⟨Tryz.call41⟩
instance:YC Tryz.prog 42:=⟨Tryz.call42⟩
instance:YC Tryz.prog 43:=⟨Tryz.call43⟩
instance:YC Tryz.prog 44:=⟨Tryz.call44⟩
instance:YC Tryz.prog 45:=⟨Tryz.call45⟩
instance:YC Tryz.prog 46:=⟨Tryz.call46⟩
instance:YC Tryz.prog 47:=⟨Tryz.call47⟩
instance:YC Tryz.prog 48:=⟨Tryz.call48⟩
instance:YC Tryz.prog 49:=⟨Tryz.call49⟩
instance:YC Tryz.prog 51:=⟨Tryz.call51⟩
instance:YC Tryz.prog 52:=⟨Tryz.call52⟩
instance:YC Tryz.prog 53:=⟨Tryz.call53⟩
instance:YC Tryz.prog 54:=⟨Tryz.call54⟩
instance:YC Tryz.prog 55:=⟨Tryz.call55⟩
instance:YC Tryz.prog 56:=⟨Tryz.call56⟩
instance:YC Tryz.prog 57:=⟨Tryz.call57⟩
instance:YC Tryz.prog 59:=⟨Tryz.call59⟩
instance:YC Tryz.prog 61:=⟨Tryz.call61⟩
instance:YC Tryz.prog 63:=⟨Tryz.call63⟩
instance:YC Tryz.prog 66:=⟨Tryz.call66⟩
instance:YC Tryz.prog 69:=⟨Tryz.call69⟩
instance:YC Tryz.prog 71:=⟨Tryz.call71⟩
instance:YC Tryz.prog 72:=⟨Tryz.call72⟩
instance:YC Tryz.prog 73:=⟨Tryz.call73⟩
instance:YC Tryz.prog 75:=⟨Tryz.call75⟩
instance:YC Tryz.prog 78:=⟨Tryz.call78⟩
instance:YC Tryz.prog 79:=⟨Tryz.call79⟩
instance:YC Tryz.prog 80:=⟨Tryz.call80⟩
instance:YC Tryz.prog 82:=⟨Tryz.call82⟩
instance:YC Tryz.prog 83:=⟨Tryz.call83⟩
instance:YC Tryz.prog 85:=⟨Tryz.call85⟩
instance:YC Tryz.prog 88:=⟨Tryz.call88⟩
instance:YC Tryz.prog 89:=⟨Tryz.call89⟩
instance:YC Tryz.prog 90:=⟨Tryz.call90⟩
instance:YC Tryz.prog 91:=⟨Tryz.call91⟩
instance:YC Tryz.prog 92:=⟨Tryz.call92⟩
instance:YC Tryz.prog 93:=⟨Tryz.call93⟩
instance:YC Tryz.prog 94:=⟨Tryz.call94⟩
instance:YC Tryz.prog 95:=⟨Tryz.call95⟩
instance:YC Tryz.prog 96:=⟨Tryz.call96⟩
instance:YC Tryz.prog 97:=⟨Tryz.call97⟩
instance:YC Tryz.prog 98:=⟨Tryz.call98⟩
instance:YC Tryz.prog 100:=⟨Tryz.call100⟩
instance:YC Tryz.prog 101:=⟨Tryz.call101⟩
instance:YC Tryz.prog 102:=⟨Tryz.call102⟩
instance:YC Tryz.prog 103:=⟨Tryz.call103⟩
instance:YC Tryz.prog 104:=⟨Tryz.call104⟩
instance:YC Tryz.prog 105:=⟨Tryz.call105⟩
instance:YC Tryz.prog 106:=⟨Tryz.call106⟩
instance:YC Tryz.prog 107:=⟨Tryz.call107⟩
instance:YC Tryz.prog 108:=⟨Tryz.call108⟩
instance:YC Tryz.prog 109:=⟨Tryz.call109⟩
instance:YC Tryz.prog 110:=⟨Tryz.call110⟩
instance:YC Tryz.prog 111:=⟨Tryz.call111⟩
instance:YC Tryz.prog 112:=⟨Tryz.call112⟩
instance:YC Tryz.prog 113:=⟨Tryz.call113⟩
instance:YC Tryz.prog 115:=⟨Tryz.call115⟩
instance:YC Tryz.prog 120:=⟨Tryz.call120⟩
instance:YC Tryz.prog 123:=⟨Tryz.call123⟩
instance:YC Tryz.prog 128:=⟨Tryz.call128⟩
instance:YC Tryz.prog 129:=⟨Tryz.call129⟩
instance:YC Tryz.prog 131:=⟨Tryz.call131⟩
instance:YC Tryz.prog 132:=⟨Tryz.call132⟩
instance:YC Tryz.prog 133:=⟨Tryz.call133⟩
instance:YC Tryz.prog 134:=⟨Tryz.call134⟩
instance:YC Tryz.prog 135:=⟨Tryz.call135⟩
instance:YC Tryz.prog 136:=⟨Tryz.call136⟩
instance:YC Tryz.prog 137:=⟨Tryz.call137⟩
instance:YC Tryz.prog 138:=⟨Tryz.call138⟩
instance:YC Tryz.prog 139:=⟨Tryz.call139⟩
instance:YC Tryz.prog 140:=⟨Tryz.call140⟩
instance:YC Tryz.prog 141:=⟨Tryz.call141⟩
instance:YC Tryz.prog 142:=⟨Tryz.call142⟩
instance:YC Tryz.prog 143:=⟨Tryz.call143⟩
instance:YC Tryz.prog 144:=⟨Tryz.call144⟩
instance:YC Tryz.prog 145:=⟨Tryz.call145⟩
instance:YC Tryz.prog 146:=⟨Tryz.call146⟩
instance:YC Tryz.prog 147:=⟨Tryz.call147⟩
instance:YC Tryz.prog 148:=⟨Tryz.call148⟩
instance:YC Tryz.prog 149:=⟨Tryz.call149⟩
instance:YC Tryz.prog 150:=⟨Tryz.call150⟩
instance:YC Tryz.prog 151:=⟨Tryz.call151⟩
instance:YC Tryz.prog 152:=⟨Tryz.call152⟩
instance:YC Tryz.prog 153:=⟨Tryz.call153⟩
instance:YC Tryz.prog 158:=⟨Tryz.call158⟩
instance:YC Tryz.prog 160:=⟨Tryz.call160⟩
instance:YC Tryz.prog 161:=⟨Tryz.call161⟩
instance:YC Tryz.prog 164:=⟨Tryz.call164⟩
instance:YC Tryz.prog 165:=⟨Tryz.call165⟩
instance:YC Tryz.prog 166:=⟨Tryz.call166⟩
instance:YC Tryz.prog 167:=⟨Tryz.call167⟩
instance:YC Tryz.prog 168:=⟨Tryz.call168⟩
instance:YC Tryz.prog 169:=⟨Tryz.call169⟩
instance:YC Tryz.prog 171:=⟨Tryz.call171⟩
instance:YC Tryz.prog 172:=⟨Tryz.call172⟩
instance:YC Tryz.prog 173:=⟨Tryz.call173⟩
instance:YC Tryz.prog 174:=⟨Tryz.call174⟩
instance:YC Tryz.prog 175:=⟨Tryz.call175⟩
instance:YC Tryz.prog 176:=⟨Tryz.call176⟩
instance:YC Tryz.prog 177:=⟨Tryz.call177⟩
instance:YC Tryz.prog 178:=⟨Tryz.call178⟩
instance:YC Tryz.prog 179:=⟨Tryz.call179⟩
instance:YC Tryz.prog 180:=⟨Tryz.call180⟩
instance:YC Tryz.prog 181:=⟨Tryz.call181⟩
instance:YC Tryz.prog 182:=⟨Tryz.call182⟩
instance:YC Tryz.prog 183:=⟨Tryz.call183⟩
instance:YC Tryz.prog 184:=⟨Tryz.call184⟩
instance:YC Tryz.prog 185:=⟨Tryz.call185⟩
instance:YC Tryz.prog 186:=⟨Tryz.call186⟩
instance:YC Tryz.prog 187:=⟨Tryz.call187⟩
instance:YC Tryz.prog 188:=⟨Tryz.call188⟩
instance:YC Tryz.prog 189:=⟨Tryz.call189⟩
instance:YC Tryz.prog 192:=⟨Tryz.call192⟩
instance:YC Tryz.prog 194:=⟨Tryz.call194⟩
instance:YC Tryz.prog 196:=⟨Tryz.call196⟩
instance:YC Tryz.prog 197:=⟨Tryz.call197⟩
instance:YC Tryz.prog 200:=⟨Tryz.call200⟩
instance:YC Tryz.prog 203:=⟨Tryz.call203⟩
instance:YC Tryz.prog 205:=⟨Tryz.call205⟩
instance:YC Tryz.prog 206:=⟨Tryz.call206⟩
instance:YC Tryz.prog 207:=⟨Tryz.call207⟩
instance:YC Tryz.prog 208:=⟨Tryz.call208⟩
instance:YC Tryz.prog 210:=⟨Tryz.call210⟩
instance:YC Tryz.prog 211:=⟨Tryz.call211⟩
instance:YC Tryz.prog 212:=⟨Tryz.call212⟩
instance:YC Tryz.prog 213:=⟨Tryz.call213⟩
instance:YC Tryz.prog 214:=⟨Tryz.call214⟩
instance:YC Tryz.prog 217:=⟨Tryz.call217⟩
instance:YC Tryz.prog 218:=⟨Tryz.call218⟩
instance:YC Tryz.prog 219:=⟨Tryz.call219⟩
instance:YC Tryz.prog 220:=⟨Tryz.call220⟩
instance:YC Tryz.prog 221:=⟨Tryz.call221⟩
instance:YC Tryz.prog 222:=⟨Tryz.call222⟩
instance:YC Tryz.prog 223:=⟨Tryz.call223⟩
instance:YC Tryz.prog 224:=⟨Tryz.call224⟩
instance:YC Tryz.prog 225:=⟨Tryz.call225⟩
instance:YC Tryz.prog 226:=⟨Tryz.call226⟩
instance:YC Tryz.prog 227:=⟨Tryz.call227⟩
instance:YC Tryz.prog 228:=⟨Tryz.call228⟩
instance:YC Tryz.prog 229:=⟨Tryz.call229⟩
instance:YC Tryz.prog 230:=⟨Tryz.call230⟩
instance:YC Tryz.prog 232:=⟨Tryz.call232⟩
instance:YC Tryz.prog 233:=⟨Tryz.call233⟩
instance:YC Tryz.prog 235:=⟨Tryz.call235⟩
instance:YC Tryz.prog 236:=⟨Tryz.call236⟩
instance:YC Tryz.prog 237:=⟨Tryz.call237⟩
instance:YC Tryz.prog 238:=⟨Tryz.call238⟩
instance:YC Tryz.prog 239:=⟨Tryz.call239⟩
instance:YC Tryz.prog 240:=⟨Tryz.call240⟩
instance:YC Tryz.prog 241:=⟨Tryz.call241⟩
instance:YC Tryz.prog 242:=⟨Tryz.call242⟩
instance:YC Tryz.prog 243:=⟨Tryz.call243⟩
instance:YC Tryz.prog 245:=⟨Tryz.call245⟩
instance:YC Tryz.prog 246:=⟨Tryz.call246⟩
instance:YC Tryz.prog 247:=⟨Tryz.call247⟩
instance:YC Tryz.prog 248:=⟨Tryz.call248⟩
instance:YC Tryz.prog 249:=⟨Tryz.call249⟩
instance:YC Tryz.prog 250:=⟨Tryz.call250⟩
instance:YC Tryz.prog 251:=⟨Tryz.call251⟩
instance:YC Tryz.prog 252:=⟨Tryz.call252⟩
instance:YC Tryz.prog 254:=⟨Tryz.call254⟩
instance:YC Tryz.prog 255:=⟨Tryz.call255⟩
instance:YC Tryz.prog 256:=⟨Tryz.call256⟩
instance:YC Tryz.prog 257:=⟨Tryz.call257⟩
instance:YC Tryz.prog 258:=⟨Tryz.call258⟩
instance:YC Tryz.prog 259:=⟨Tryz.call259⟩
instance:YC Tryz.prog 260:=⟨Tryz.call260⟩
instance:YC Tryz.prog 261:=⟨Tryz.call261⟩
instance:YC Tryz.prog 262:=⟨Tryz.call262⟩
instance:YC Tryz.prog 263:=⟨Tryz.call263⟩
instance:YC Tryz.prog 264:=⟨Tryz.call264⟩
set_option maxHeartbeats 4000000
set_option linter.unusedVariables false
theorem Dj {α:Type}[BEq α][LawfulBEq α]{l:List α}{k:Nat}{b c:α}(h:l[k]?=some c)(hn:(l.take k).contains b=false)(h2:¬c=b):(l.take (k+1)).contains b=false:=by
 rw[List.take_add_one,h];simp only[Option.toList_some,List.contains_append,hn,Bool.false_or]
 simpa using fun e:b=c=>h2 e.symm
theorem Ai {α:Type}[BEq α][LawfulBEq α]{l:List α}{k:Nat}{b c:α}(h:l[k]?=some c)(h2:c=b):l.contains b=true:=by
 subst h2;exact List.contains_iff_mem.2 (List.mem_of_getElem? h)
theorem IH (w0:World)(s:List UInt8)(vl:Value)(ls:List (List UInt8))(hR:bF w0 [] vl rA ls):bI Tryz.prog 136 #[vl,str s] w0 (fun v w'=>∃n:Int,v=i64 n∧decide (0≤n)=ls.contains s∧St w0 [] w' []):=by
 have hO:=St.aX w0;have hl:=bF.je hR;refine cw Tryz.func136 Tryz.ntmps136 fun a hF=>?_;refine Zg 2 (ew hR) fun a hF=>?_;refine Zv 1 fun a hF=>?_;refine ax (fun (k:Nat) a w'=>(k≤ls.length∧(ls.take k).contains s=false)∧St w0 [] w' []∧Fr a 19 [(0,vl),(1,str s),(7,i64 ls.length),(8,i64 k)]) (fun (k:Nat)=>ls.length - k) 0 ⟨⟨by omega,by simp⟩,hO,hF.sub ⟨rfl,rfl,rfl,rfl,trivial⟩⟩ ?_;rintro k a w ⟨⟨hk,hn⟩,hO,hF⟩;refine Zi 1 (fun a hF hc1=>?_) fun a hF hc1=>?_
 ·obtain⟨x,hx⟩:=cI (l:=ls) (i:=k) (by omega);refine Zg 5 (eB k hR (by omega)) fun a hF=>?_;refine Zh 0 hR hx fun a hF=>?_;refine Zi 1 (fun a hF hc2=>?_) fun a hF hc2=>?_
  ·refine Zr 2 ?_;exact⟨_,rfl,(decide_eq_true (by omega)).trans (Ai hx hc2.symm).symm,hO⟩
  ·refine Zv 2 fun a hF=>?_;exact⟨k+1,⟨⟨by omega,Dj hx hn (fun e=>hc2 e.symm)⟩,hO,hF.sub ⟨rfl,rfl,rfl,rfl,trivial⟩⟩,by omega⟩
 ·refine Zr 1 ?_;exact⟨_,rfl,(decide_eq_false (by omega)).trans (by rw[←hn,List.take_of_length_le (by omega)]),hO⟩
theorem ot (w0:World)(s:List UInt8)(vl:Value)(ls:List (List UInt8))(hR:bF w0 [] vl rA ls):bI Tryz.prog 102 #[vl,str s] w0 (fun v w'=>v=.bool (ls.contains s)∧St w0 [] w' []):=by
 have hO:=St.aX w0;refine cw Tryz.func102 Tryz.ntmps102 fun a hF=>?_;refine Zc 3 (IH _ _ _ _ (hR.cH hO)) ?_;rintro a _ w ⟨ix,rfl,hix,hS⟩ hF;have hO:=hO.k0 hS;refine Zr 2 ?_;exact⟨congrArg Value.bool hix,hO⟩
theorem GJ (w0:World)(s:Int)(vl:Value)(ls:List (Int))(hR:bF w0 [] vl zF ls):bI Tryz.prog 151 #[vl,i64 s] w0 (fun v w'=>∃n:Int,v=i64 n∧decide (0≤n)=ls.contains s∧St w0 [] w' []):=by
 have hO:=St.aX w0;have hl:=bF.je hR;refine cw Tryz.func151 Tryz.ntmps151 fun a hF=>?_;refine Zg 2 (ew hR) fun a hF=>?_;refine Zv 1 fun a hF=>?_;refine ax (fun (k:Nat) a w'=>(k≤ls.length∧(ls.take k).contains s=false)∧St w0 [] w' []∧Fr a 19 [(0,vl),(1,i64 s),(7,i64 ls.length),(8,i64 k)]) (fun (k:Nat)=>ls.length - k) 0 ⟨⟨by omega,by simp⟩,hO,hF.sub ⟨rfl,rfl,rfl,rfl,trivial⟩⟩ ?_;rintro k a w ⟨⟨hk,hn⟩,hO,hF⟩;refine Zi 1 (fun a hF hc1=>?_) fun a hF hc1=>?_
 ·obtain⟨x,hx⟩:=cI (l:=ls) (i:=k) (by omega);refine Zg 5 (eB k hR (by omega)) fun a hF=>?_;refine Zh 0 hR hx fun a hF=>?_;refine Zi 1 (fun a hF hc2=>?_) fun a hF hc2=>?_
  ·refine Zr 2 ?_;exact⟨_,rfl,(decide_eq_true (by omega)).trans (Ai hx hc2.symm).symm,hO⟩
  ·refine Zv 2 fun a hF=>?_;exact⟨k+1,⟨⟨by omega,Dj hx hn (fun e=>hc2 e.symm)⟩,hO,hF.sub ⟨rfl,rfl,rfl,rfl,trivial⟩⟩,by omega⟩
 ·refine Zr 1 ?_;exact⟨_,rfl,(decide_eq_false (by omega)).trans (by rw[←hn,List.take_of_length_le (by omega)]),hO⟩
theorem sB (w0:World)(s:Int)(vl:Value)(ls:List (Int))(hR:bF w0 [] vl zF ls):bI Tryz.prog 113 #[vl,i64 s] w0 (fun v w'=>v=.bool (ls.contains s)∧St w0 [] w' []):=by
 have hO:=St.aX w0;refine cw Tryz.func113 Tryz.ntmps113 fun a hF=>?_;refine Zc 3 (GJ _ _ _ _ (hR.cH hO)) ?_;rintro a _ w ⟨ix,rfl,hix,hS⟩ hF;have hO:=hO.k0 hS;refine Zr 2 ?_;exact⟨congrArg Value.bool hix,hO⟩
theorem gr (T b:Nat)(vs:Value)(tl:List Tok)(n:Nat)(dp:Int)(w0:World)(hA:bx w0 [.ob b T [vs,i64 (n:Nat),i64 dp]])(hT:bF w0 (ak [.ob b T [vs,i64 (n:Nat),i64 dp]]) vs aK tl)(hn:n≤tl.length)(hL:tl.length≤4611686018427387904)(k:Nat)(hk:k≤1):bI Tryz.prog 101 #[ptr (aj b),i64 k] w0 (fun v w'=>∃t:Tok,v=.agg (aK.cells t).toArray∧gC (aS tl n dp) k=lP t∧St w0 (ak [.ob b T [vs,i64 (n:Nat),i64 dp]]) w' [.ob b T [vs,i64 (n:Nat),i64 dp]]):=by
 have hO:=St.init hA;refine cw Tryz.func101 Tryz.ntmps101 fun a hF=>?_;refine Zb 13 fun tk a w hO hF=>?_;refine Zg 0 (ew hT) fun a hF=>?_;refine Zi 1 (fun a hF hc1=>?_) fun a hF hc1=>?_
 ·obtain⟨x,hx⟩:=cI (l:=tl) (i:=(n+k)) (by omega);refine Zv 5 fun a hF=>?_;refine ao hF rfl rfl rfl (kj (i:=(n+k)) hT Tryz.underlying22 Tryz.sizeOf44 rfl (hF.eval rfl) ((hF.eval rfl).trans (congrArg i64 (rfl))) (by omega)) fun a hF=>?_;refine Zh 0 hT hx fun a hF=>?_;refine Zs 1 fun a w hO hF=>?_;refine Zr 0 ?_;have hO:=hO.d [0];exact⟨x,rfl,jo hx,hO⟩
 ·refine Zs 2 fun a w hO hF=>?_;refine Zr 0 ?_;have hO:=hO.d [0];exact⟨pW,rfl,Lq (by omega),hO⟩
theorem iQ (T b:Nat)(vs:Value)(tl:List Tok)(n:Nat)(dp:Int)(w0:World)(hA:bx w0 [.ob b T [vs,i64 (n:Nat),i64 dp]])(hT:bF w0 (ak [.ob b T [vs,i64 (n:Nat),i64 dp]]) vs aK tl)(hn:n≤tl.length)(hL:tl.length≤4611686018427387904)(e:Int):dx Tryz.prog 96 #[ptr (aj b),i64 e] w0 (fun v w'=>False) (fun ev w'=>∃l c:Int,ev=UL 47 l c e∧St w0 (ak [.ob b T [vs,i64 (n:Nat),i64 dp]]) w' [.ob b T [vs,i64 (n:Nat),i64 dp]]):=by
 have hO:=St.init hA;refine nh Tryz.func96 Tryz.ntmps96 fun a hF=>?_;refine Zb 7 fun tk a w hO hF=>?_;refine Zg 0 (ew hT) fun a hF=>?_;refine Zi 3 (fun a hF hc1=>?_) fun a hF hc1=>?_
 ·refine Zd 0 [0,0,0,1,0,0,0,1,0,0,0,0,1,3] fun w hO=>?_;refine Zv 10 fun a hF=>?_;refine dE hF rfl rfl rfl (fun w=>N6 rfl (hF.eval rfl) (hF.eval rfl)) fun a hF=>?_;obtain⟨x,hx⟩:=cI (l:=tl) (i:=(min n (tl.length - 1))) (by omega);refine dE hF rfl rfl rfl (fun w=>kj (i:=(min n (tl.length - 1))) hT Tryz.underlying22 Tryz.sizeOf44 rfl (hF.eval rfl) ((hF.eval rfl).trans (congrArg i64 (by omega))) (by omega)) fun a hF=>?_;refine Zh 0 hT hx fun a hF=>?_;refine Zs 8 fun a w hO hF=>?_;refine ao hF rfl rfl rfl (tA Tryz.underlying47 (fun _ h=>by cases h) rfl (hF.eval rfl)) fun a hF=>?_;refine qE rfl rfl (tO rfl (hF.eval rfl)) ?_;have hO:=hO.d [0];exact cn hF.defs ⟨_,_,rfl,hO⟩
 ·refine Zv 7 fun a hF=>?_;refine ao hF rfl rfl rfl (tA Tryz.underlying47 (fun _ h=>by cases h) rfl (hF.eval rfl)) fun a hF=>?_;refine qE rfl rfl (tO rfl (hF.eval rfl)) ?_;have hO:=hO.d [0];exact cn hF.defs ⟨_,_,rfl,hO⟩
theorem kD {H p:Prop}(h:H)(g:H→p:=by intro hh;(first|with_reducible rfl| (simp only[an hg];done)| (simp only[an hg];rfl))):p:=g h
theorem ej (T b:Nat)(vs:Value)(tl:List Tok)(n:Nat)(dp:Int)(w0:World)(hA:bx w0 [.ob b T [vs,i64 (n:Nat),i64 dp]])(hT:bF w0 (ak [.ob b T [vs,i64 (n:Nat),i64 dp]]) vs aK tl)(hn:n≤tl.length)(hL:tl.length≤4611686018427387904)(t:Tok)(ht:tl[n]?=some t):bI Tryz.prog 52 #[ptr (aj b)] w0 (fun v w'=>v=.agg (aK.cells t).toArray∧St w0 (ak [.ob b T [vs,i64 (n:Nat),i64 dp]]) w' [.ob b T [vs,i64 ((n+1):Nat),i64 dp]]):=by
 have hO:=St.init hA;have hlt:=(List.getElem?_eq_some_iff.1 ht).1;refine cw Tryz.func52 Tryz.ntmps52 fun a hF=>?_;refine Zb 9 fun tk a w hO hF=>?_;refine Zd 0 [0,0,0,1,0,0,0,1,0,0,1,3] fun w hO=>?_;obtain⟨x,hx⟩:=cI (l:=tl) (i:=n) (by omega);refine Zv 9 fun a hF=>?_;refine dE hF rfl rfl rfl (fun w=>kj (i:=n) hT Tryz.underlying22 Tryz.sizeOf44 rfl (hF.eval rfl) ((hF.eval rfl).trans (congrArg i64 (by omega))) (by omega)) fun a hF=>?_;refine Zh 0 hT hx fun a hF=>?_;refine Zs 1 fun a w hO hF=>?_;refine Zr 0 ?_;have hO:=hO.d [0];have hO0:=hO;cases Option.some.inj (hx.symm.trans ht);have hO:=hO0;exact⟨rfl,hO⟩
theorem fP (T b:Nat)(vs:Value)(tl:List Tok)(n:Nat)(dp:Int)(w0:World)(hA:bx w0 [.ob b T [vs,i64 (n:Nat),i64 dp]])(hT:bF w0 (ak [.ob b T [vs,i64 (n:Nat),i64 dp]]) vs aK tl)(hn:n≤tl.length)(hL:tl.length≤4611686018427387904)(vw:Value)(ws:List (List UInt8))(hW:bF w0 (ak [.ob b T [vs,i64 (n:Nat),i64 dp]]) vw rA ws):bI Tryz.prog 51 #[ptr (aj b),vw] w0 (fun v w'=>v=.bool (eM (aS tl n dp) ws)∧St w0 (ak [.ob b T [vs,i64 (n:Nat),i64 dp]]) w' [.ob b T [vs,i64 (n:Nat),i64 dp]]):=by
 have hO:=St.init hA;refine cw Tryz.func51 Tryz.ntmps51 fun a hF=>?_;refine Zc 2 (gr _ _ _ _ _ _ _ (St.ai hO) (hT.aE hO) hn hL 0 (by omega)) ?_;rintro a _ w ⟨t,rfl,hpk,hS⟩ hF;have hO:=hO.k1 hS;refine Zb 6 fun tk a w hO hF=>?_;refine Zw 8 fun a hF=>?_;refine eg hO hF rfl rfl rfl rfl rfl rfl (fun hg=>du hF rfl rfl (kD trivial) Tryz.call102 (ot _ _ _ _ (hW.cH hO))) fun a w hO hF=>?_;refine ao hF rfl rfl rfl (dk rfl (hF.eval rfl) rfl (fun hg2=>((hF.eval rfl).trans (an hg2))) (bh _)) fun a hF=>?_;refine Zr 1 ?_;have hO:=hO.d [0];refine⟨congrArg Value.bool ?_,hO⟩;simp [eM,hpk,lP]
theorem ky (T b:Nat)(vs:Value)(tl:List Tok)(n:Nat)(dp:Int)(w0:World)(hA:bx w0 [.ob b T [vs,i64 (n:Nat),i64 dp]])(hT:bF w0 (ak [.ob b T [vs,i64 (n:Nat),i64 dp]]) vs aK tl)(hn:n≤tl.length)(hL:tl.length≤4611686018427387904)(vw:Value)(ks:List Int)(hW:bF w0 (ak [.ob b T [vs,i64 (n:Nat),i64 dp]]) vw zF ks):bI Tryz.prog 97 #[ptr (aj b),vw] w0 (fun v w'=>v=.bool (kN (aS tl n dp) ks)∧St w0 (ak [.ob b T [vs,i64 (n:Nat),i64 dp]]) w' [.ob b T [vs,i64 (n:Nat),i64 dp]]):=by
 have hO:=St.init hA;refine cw Tryz.func97 Tryz.ntmps97 fun a hF=>?_;refine Zc 3 (gr _ _ _ _ _ _ _ (St.ai hO) (hT.aE hO) hn hL 0 (by omega)) ?_;rintro a _ w ⟨t,rfl,hpk,hS⟩ hF;have hO:=hO.k1 hS;refine Zc 1 (sB _ _ _ _ (hW.cH hO)) ?_;rintro a _ w ⟨rfl,hS⟩ hF;have hO:=hO.k0 hS;refine Zr 1 ?_;refine⟨congrArg Value.bool ?_,hO⟩;simp [kN,hpk,lP]
abbrev lL (b T:Nat)(vs:Value)(w0:World)(M:List Nat)(X:List aq){α:Type}(R0:Except Int (α×PS))(ev:Value)(w':World):Prop:=∃(l c e:Int) (n':Nat) (dp':Int),R0=.error e∧ev=UL 47 l c e∧St w0 M w' (bc b T vs n' dp'::X)
abbrev sD (b T:Nat)(vs:Value)(tl:List Tok)(w0:World)(M:List Nat)(X:List aq)(R0:Except Int (Nd×PS))(n:Nat)(v:Value)(w':World):Prop:=∃(x:NN) (n':Nat) (dp':Int),R0=.ok (x.er,aS tl n' dp')∧n<n'∧Pos tl n' dp'∧v=.agg (aM.cells x).toArray∧St w0 M w' (bc b T vs n' dp'::nE 28 x::X)
abbrev NRy (b T:Nat)(vs:Value)(tl:List Tok)(w0:World)(M:List Nat)(X:List aq)(R0:Except Int (Nd×PS))(n:Nat)(v:Value)(w':World):Prop:=∃(x:NN) (n':Nat) (dp':Int),R0=.ok (x.er,aS tl n' dp')∧n≤n'∧Pos tl n' dp'∧v=.agg (aM.cells x).toArray∧St w0 M w' (bc b T vs n' dp'::nE 28 x::X)
abbrev LRx (b T:Nat)(vs:Value)(tl:List Tok)(w0:World)(M:List Nat)(X:List aq)(R0:Except Int (List Nd×PS))(n:Nat)(v:Value)(w':World):Prop:=∃(l:List NN) (h:aO) (n':Nat) (dp':Int),R0=.ok (l.map NN.er,aS tl n' dp')∧n+l.length≤n'∧Pos tl n' dp'∧v=h.v∧St w0 M w' (bc b T vs n' dp'::aT h.v 28 aM l::aq.dF (l.map (nE 28))::X)
abbrev TRx (b T:Nat)(vs:Value)(tl:List Tok)(w0:World)(M:List Nat)(X:List aq)(R0:Except Int (Tk×PS))(n:Nat)(v:Value)(w':World):Prop:=∃(t:Tok) (n':Nat) (dp':Int),R0=.ok (lP t,aS tl n' dp')∧n<n'∧Pos tl n' dp'∧v=.agg (aK.cells t).toArray∧St w0 M w' (bc b T vs n' dp'::X)
abbrev SRx (b T:Nat)(vs:Value)(tl:List Tok)(w0:World)(M:List Nat)(X:List aq)(R0:Except Int (List UInt8×PS))(n:Nat)(v:Value)(w':World):Prop:=∃(t:Tok) (n':Nat) (dp':Int),R0=.ok (t.text,aS tl n' dp')∧n<n'∧Pos tl n' dp'∧v=.agg (aK.cells t).toArray∧St w0 M w' (bc b T vs n' dp'::X)
abbrev URx (b T:Nat)(vs:Value)(tl:List Tok)(w0:World)(M:List Nat)(X:List aq)(R0:Except Int (Unit×PS))(n:Nat)(v:Value)(w':World):Prop:=∃(n':Nat) (dp':Int),R0=.ok ((),aS tl n' dp')∧n≤n'∧Pos tl n' dp'∧St w0 M w' (bc b T vs n' dp'::X)
abbrev BRx (b T:Nat)(vs:Value)(tl:List Tok)(w0:World)(M:List Nat)(X:List aq)(R0:Except Int (Bool×PS))(n:Nat)(dp:Int)(v:Value)(w':World):Prop:=∃(bb:Bool) (n':Nat) (dp':Int),R0=.ok (bb,aS tl n' dp')∧n≤n'∧(bb=true→n<n')∧(¬bb=true→n=n'∧dp=dp')∧Pos tl n' dp'∧v=.bool bb∧St w0 M w' (bc b T vs n' dp'::X)
abbrev STx (b T:Nat)(vs:Value)(tl:List Tok)(w0:World)(M:List Nat)(X:List aq)(R0:Except Int (List UInt8×PS))(n:Nat)(v:Value)(w':World):Prop:=∃(s:List UInt8) (n':Nat) (dp':Int),R0=.ok (s,aS tl n' dp')∧n≤n'∧Pos tl n' dp'∧v=str s∧St w0 M w' (bc b T vs n' dp'::X)
theorem jH (k:Int){T b:Nat}{vs:Value}{tl:List Tok}{n:Nat}{dp:Int}{w0:World}(hA:bx w0 [bc b T vs n dp])(hT:bF w0 (ak [bc b T vs n dp]) vs aK tl)(hp:Pos tl n dp)(hne:jj k (aS tl n dp)≠.error (-1)):dx Tryz.prog 47 #[ptr (aj b),i64 k] w0 (fun v w'=>TRx b T vs tl w0 (ak [bc b T vs n dp]) [] (jj k (aS tl n dp)) n v w') (fun ev w'=>lL b T vs w0 (ak [bc b T vs n dp]) [] (jj k (aS tl n dp)) ev w'):=by
 have hO:=St.init hA;have hlo:=hp.lo;have hhi:=hp.hi;have hnn:=hp.hn;have hLL:=hp.hL;refine nh Tryz.func47 Tryz.ntmps47 fun a hF=>?_;refine Zb 1 fun tk a w hO hF=>?_;refine Zd 0 [0,0,0,1,0,0,0,1,0,0,0,0,0,2,3,0,0] fun w hO=>?_;refine Zg 8 (ew hT) fun a hF=>?_;refine Zv 2 fun a hF=>?_;rcases Nat.lt_or_ge n tl.length with hlt|hge
 ·obtain⟨t,ht⟩:=cI (l:=tl) (i:=n) hlt;refine Zv 5 fun a hF=>?_;refine eI hF rfl rfl rfl (bM hF hO Tryz.underlying125 Tryz.sizeOf3 Tryz.zeroValue3 rfl rfl rfl rfl rfl rfl rfl) (fun _ _ ⟨_,_,hO⟩=>hO.tail) ?_;rintro a _ w ⟨ks,rfl,hO⟩ hF;refine Zv 1 fun a hF=>?_;have hO:=hO.q [2];refine Zc 0 (ky _ _ _ _ _ _ _ (St.ai hO) (hT.aE hO) hp.hn hp.dB _ _ (hO.da (l:=[k]) 0 rfl)) ?_;rintro a _ w ⟨rfl,hS⟩ hF;have hO:=hO.k1 hS;refine Zv 1 fun a hF=>?_;refine dE hF rfl rfl rfl (fun w=>cY rfl (hF.eval rfl) (bh _)) fun a hF=>?_;refine Zi 1 (fun a hF hc1=>?_) fun a hF hc1=>?_
  ·refine Zv 1 fun a hF=>?_;refine k_ hF rfl rfl rfl (dV hF rfl rfl Tryz.call96) (iQ _ _ _ _ _ _ _ (St.ai hO) (hT.aE hO) hp.hn hp.dB 30) ?_ ?_
   ·rintro _ w ⟨l,c,rfl,hS⟩;have hO:=hO.k1 hS;have hO:=hO.d [1,1];refine ml ?_;exact cn hF.defs ⟨_,_,30,_,_,Hu (by first|exact .inl hge|exact hc1.imp (fun h=>by omega) id),rfl,hO⟩
   rintro a _ w h hF;exact h.elim
  ·refine Zc 1 (ej _ _ _ _ _ _ _ (St.ai hO) (hT.aE hO) hp.hn hp.dB t ht) ?_;rintro a _ w ⟨rfl,hS⟩ hF;have hO:=hO.k1 hS;refine Zs 1 fun a w hO hF=>?_;refine Zr 0 ?_;have hO:=hO.d [1,1];exact⟨t,_,_,T9 ht (by by_cases h:kN (aS tl n dp) [k]=true;exact h;exact absurd (.inr h) hc1),by omega,hp.succ ht,rfl,hO⟩
 ·refine Zv 5 fun a hF=>?_;refine dE hF rfl rfl rfl (fun w=>dH rfl ((hF.eval rfl).trans (congrArg Value.bool (decide_eq_true (by omega)))) rfl) fun a hF=>?_;refine Zj 0 (fun hc2=>?_) fun hc2=>?_
  ·refine Zv 1 fun a hF=>?_;have hO:=hO.q [1];refine k_ hF rfl rfl rfl (dV hF rfl rfl Tryz.call96) (iQ _ _ _ _ _ _ _ (St.ai hO) (hT.aE hO) hp.hn hp.dB 30) ?_ ?_
   ·rintro _ w ⟨l,c,rfl,hS⟩;have hO:=hO.k1 hS;have hO:=hO.d [1];refine ml ?_;exact cn hF.defs ⟨_,_,30,_,_,Hu (by first|exact .inl hge|exact hc1.imp (fun h=>by omega) id),rfl,hO⟩
   rintro a _ w h hF;exact h.elim
  ·exact absurd rfl hc2
theorem bz (wd:List UInt8){T b:Nat}{vs:Value}{tl:List Tok}{n:Nat}{dp:Int}{w0:World}(hA:bx w0 [bc b T vs n dp])(hT:bF w0 (ak [bc b T vs n dp]) vs aK tl)(hp:Pos tl n dp)(hne:bC wd (aS tl n dp)≠.error (-1)):dx Tryz.prog 46 #[ptr (aj b),str wd] w0 (fun v w'=>TRx b T vs tl w0 (ak [bc b T vs n dp]) [] (bC wd (aS tl n dp)) n v w') (fun ev w'=>lL b T vs w0 (ak [bc b T vs n dp]) [] (bC wd (aS tl n dp)) ev w'):=by
 have hO:=St.init hA;have hlo:=hp.lo;have hhi:=hp.hi;have hnn:=hp.hn;have hLL:=hp.hL;refine nh Tryz.func46 Tryz.ntmps46 fun a hF=>?_;refine Zb 1 fun tk a w hO hF=>?_;refine Zd 0 [0,0,0,1,0,0,0,1,0,0,0,0,0,2,3,0,0] fun w hO=>?_;refine Zg 8 (ew hT) fun a hF=>?_;refine Zv 2 fun a hF=>?_;rcases Nat.lt_or_ge n tl.length with hlt|hge
 ·obtain⟨t,ht⟩:=cI (l:=tl) (i:=n) hlt;refine Zv 5 fun a hF=>?_;refine eI hF rfl rfl rfl (bM hF hO Tryz.underlying77 Tryz.sizeOf9 Tryz.zeroValue9 rfl rfl rfl rfl rfl rfl rfl) (fun _ _ ⟨_,_,hO⟩=>hO.tail) ?_;rintro a _ w ⟨ks,rfl,hO⟩ hF;refine Zv 1 fun a hF=>?_;have hO:=hO.q [2];refine Zc 0 (fP _ _ _ _ _ _ _ (St.ai hO) (hT.aE hO) hp.hn hp.dB _ _ (hO.da (l:=[wd]) 0 rfl)) ?_;rintro a _ w ⟨rfl,hS⟩ hF;have hO:=hO.k1 hS;refine Zv 1 fun a hF=>?_;refine dE hF rfl rfl rfl (fun w=>cY rfl (hF.eval rfl) (bh _)) fun a hF=>?_;refine Zi 1 (fun a hF hc1=>?_) fun a hF hc1=>?_
  ·refine Zv 1 fun a hF=>?_;refine k_ hF rfl rfl rfl (dV hF rfl rfl Tryz.call96) (iQ _ _ _ _ _ _ _ (St.ai hO) (hT.aE hO) hp.hn hp.dB 30) ?_ ?_
   ·rintro _ w ⟨l,c,rfl,hS⟩;have hO:=hO.k1 hS;have hO:=hO.d [1,1];refine ml ?_;exact cn hF.defs ⟨_,_,30,_,_,Dn (by first|exact .inl hge|exact hc1.imp (fun h=>by omega) id),rfl,hO⟩
   rintro a _ w h hF;exact h.elim
  ·refine Zi 3 (fun a hF hc2=>?_) fun a hF hc2=>?_
   ·refine Zi 0 (fun hc3=>?_) fun hc3=>?_
    ·refine Zi 5 (fun a hF hc4=>?_) fun a hF hc4=>?_
     ·refine Zv 1 fun a hF=>?_;refine k_ hF rfl rfl rfl (dV hF rfl rfl Tryz.call96) (iQ _ _ _ _ _ _ _ (St.ai hO) (hT.aE hO) hp.hn hp.dB 32) ?_ ?_
      ·rintro _ w ⟨l,c,rfl,hS⟩;have hO:=hO.k1 hS;have hO:=hO.d [1,1];refine ml ?_;refine vF ?_;refine ml ?_;exact cn hF.defs ⟨_,_,32,_,_,rQ ht (by by_cases h:eM (aS tl n dp) [wd]=true;exact h;exact absurd (.inr h) hc1) (by subst_vars;decide) hc4,rfl,hO⟩
      rintro a _ w h hF;exact h.elim
     ·refine Zs 9 fun a w hO hF=>?_;refine Zc 0 (ej _ _ _ _ _ _ _ (St.ai hO) (hT.aE hO) hp.hn hp.dB t ht) ?_;rintro a _ w ⟨rfl,hS⟩ hF;have hO:=hO.k1 hS;refine Zs 1 fun a w hO hF=>?_;refine Zr 0 ?_;have hO:=hO.d [1,1];exact⟨t,_,_,sr ht (by by_cases h:eM (aS tl n dp) [wd]=true;exact h;exact absurd (.inr h) hc1) (by subst_vars;decide) hc4,by omega,⟨by omega,hLL,by omega,by omega⟩,rfl,hO⟩
    ·exact absurd hc2 hc3
   ·refine Zi 2 (fun a hF hc5=>?_) fun a hF hc5=>?_
    ·refine Zi 0 (fun hc6=>?_) fun hc6=>?_
     ·refine Zi 5 (fun a hF hc7=>?_) fun a hF hc7=>?_
      ·refine Zv 1 fun a hF=>?_;refine k_ hF rfl rfl rfl (dV hF rfl rfl Tryz.call96) (iQ _ _ _ _ _ _ _ (St.ai hO) (hT.aE hO) hp.hn hp.dB 32) ?_ ?_
       ·rintro _ w ⟨l,c,rfl,hS⟩;have hO:=hO.k1 hS;have hO:=hO.d [1,1];refine ml ?_;refine vF ?_;refine ml ?_;exact cn hF.defs ⟨_,_,32,_,_,rQ ht (by by_cases h:eM (aS tl n dp) [wd]=true;exact h;exact absurd (.inr h) hc1) (by subst_vars;decide) hc7,rfl,hO⟩
       rintro a _ w h hF;exact h.elim
      ·refine Zs 9 fun a w hO hF=>?_;refine Zc 0 (ej _ _ _ _ _ _ _ (St.ai hO) (hT.aE hO) hp.hn hp.dB t ht) ?_;rintro a _ w ⟨rfl,hS⟩ hF;have hO:=hO.k1 hS;refine Zs 1 fun a w hO hF=>?_;refine Zr 0 ?_;have hO:=hO.d [1,1];exact⟨t,_,_,sr ht (by by_cases h:eM (aS tl n dp) [wd]=true;exact h;exact absurd (.inr h) hc1) (by subst_vars;decide) hc7,by omega,⟨by omega,hLL,by omega,by omega⟩,rfl,hO⟩
     ·exact absurd hc5 hc6
    ·refine Zi 2 (fun a hF hc8=>?_) fun a hF hc8=>?_
     ·refine Zi 5 (fun a hF hc9=>?_) fun a hF hc9=>?_
      ·refine Zv 1 fun a hF=>?_;refine k_ hF rfl rfl rfl (dV hF rfl rfl Tryz.call96) (iQ _ _ _ _ _ _ _ (St.ai hO) (hT.aE hO) hp.hn hp.dB 32) ?_ ?_
       ·rintro _ w ⟨l,c,rfl,hS⟩;have hO:=hO.k1 hS;have hO:=hO.d [1,1];refine ml ?_;refine vF ?_;refine ml ?_;exact cn hF.defs ⟨_,_,32,_,_,rQ ht (by by_cases h:eM (aS tl n dp) [wd]=true;exact h;exact absurd (.inr h) hc1) (by subst_vars;decide) hc9,rfl,hO⟩
       rintro a _ w h hF;exact h.elim
      ·refine Zs 9 fun a w hO hF=>?_;refine Zc 0 (ej _ _ _ _ _ _ _ (St.ai hO) (hT.aE hO) hp.hn hp.dB t ht) ?_;rintro a _ w ⟨rfl,hS⟩ hF;have hO:=hO.k1 hS;refine Zs 1 fun a w hO hF=>?_;refine Zr 0 ?_;have hO:=hO.d [1,1];exact⟨t,_,_,sr ht (by by_cases h:eM (aS tl n dp) [wd]=true;exact h;exact absurd (.inr h) hc1) (by subst_vars;decide) hc9,by omega,⟨by omega,hLL,by omega,by omega⟩,rfl,hO⟩
     ·refine Zi 2 (fun a hF ft=>?_) fun a hF ft=>?_
      ·refine Zi 0 (fun iR=>?_) fun iR=>?_
       ·refine Zs 9 fun a w hO hF=>?_;refine Zc 0 (ej _ _ _ _ _ _ _ (St.ai hO) (hT.aE hO) hp.hn hp.dB t ht) ?_;rintro a _ w ⟨rfl,hS⟩ hF;have hO:=hO.k1 hS;refine Zs 1 fun a w hO hF=>?_;refine Zr 0 ?_;have hO:=hO.d [1,1];exact⟨t,_,_,ri ht (by by_cases h:eM (aS tl n dp) [wd]=true;exact h;exact absurd (.inr h) hc1) (by subst_vars;decide) (by subst_vars;decide),by omega,⟨by omega,hLL,by omega,by omega⟩,rfl,hO⟩
       ·exact absurd ft iR
      ·refine Zi 2 (fun a hF lR=>?_) fun a hF lR=>?_
       ·refine Zi 0 (fun ni=>?_) fun ni=>?_
        ·refine Zs 9 fun a w hO hF=>?_;refine Zc 0 (ej _ _ _ _ _ _ _ (St.ai hO) (hT.aE hO) hp.hn hp.dB t ht) ?_;rintro a _ w ⟨rfl,hS⟩ hF;have hO:=hO.k1 hS;refine Zs 1 fun a w hO hF=>?_;refine Zr 0 ?_;have hO:=hO.d [1,1];exact⟨t,_,_,ri ht (by by_cases h:eM (aS tl n dp) [wd]=true;exact h;exact absurd (.inr h) hc1) (by subst_vars;decide) (by subst_vars;decide),by omega,⟨by omega,hLL,by omega,by omega⟩,rfl,hO⟩
        ·exact absurd lR ni
       ·refine Zi 2 (fun a hF Bt=>?_) fun a hF Bt=>?_
        ·refine Zs 9 fun a w hO hF=>?_;refine Zc 0 (ej _ _ _ _ _ _ _ (St.ai hO) (hT.aE hO) hp.hn hp.dB t ht) ?_;rintro a _ w ⟨rfl,hS⟩ hF;have hO:=hO.k1 hS;refine Zs 1 fun a w hO hF=>?_;refine Zr 0 ?_;have hO:=hO.d [1,1];exact⟨t,_,_,ri ht (by by_cases h:eM (aS tl n dp) [wd]=true;exact h;exact absurd (.inr h) hc1) (by subst_vars;decide) (by subst_vars;decide),by omega,⟨by omega,hLL,by omega,by omega⟩,rfl,hO⟩
        ·refine Zc 1 (ej _ _ _ _ _ _ _ (St.ai hO) (hT.aE hO) hp.hn hp.dB t ht) ?_;rintro a _ w ⟨rfl,hS⟩ hF;have hO:=hO.k1 hS;refine Zs 1 fun a w hO hF=>?_;refine Zr 0 ?_;have hO:=hO.d [1,1];exact⟨t,_,_,Ft ht (by by_cases h:eM (aS tl n dp) [wd]=true;exact h;exact absurd (.inr h) hc1) (not_or.2 ⟨hc2,not_or.2 ⟨hc5,hc8⟩⟩) (not_or.2 ⟨ft,not_or.2 ⟨lR,Bt⟩⟩),by omega,⟨by omega,hLL,by omega,by omega⟩,rfl,hO⟩
 ·refine Zv 5 fun a hF=>?_;refine dE hF rfl rfl rfl (fun w=>dH rfl ((hF.eval rfl).trans (congrArg Value.bool (decide_eq_true (by omega)))) rfl) fun a hF=>?_;refine Zj 0 (fun xQ=>?_) fun xQ=>?_
  ·refine Zv 1 fun a hF=>?_;have hO:=hO.q [1];refine k_ hF rfl rfl rfl (dV hF rfl rfl Tryz.call96) (iQ _ _ _ _ _ _ _ (St.ai hO) (hT.aE hO) hp.hn hp.dB 30) ?_ ?_
   ·rintro _ w ⟨l,c,rfl,hS⟩;have hO:=hO.k1 hS;have hO:=hO.d [1];refine ml ?_;exact cn hF.defs ⟨_,_,30,_,_,Dn (by first|exact .inl hge|exact hc1.imp (fun h=>by omega) id),rfl,hO⟩
   rintro a _ w h hF;exact h.elim
  ·exact absurd rfl xQ
theorem bZ (wd:List UInt8){T b:Nat}{vs:Value}{tl:List Tok}{n:Nat}{dp:Int}{w0:World}(hA:bx w0 [bc b T vs n dp])(hT:bF w0 (ak [bc b T vs n dp]) vs aK tl)(hp:Pos tl n dp)(hne:bB wd (aS tl n dp)≠.error (-1)):dx Tryz.prog 100 #[ptr (aj b),str wd] w0 (fun v w'=>BRx b T vs tl w0 (ak [bc b T vs n dp]) [] (bB wd (aS tl n dp)) n dp v w') (fun ev w'=>lL b T vs w0 (ak [bc b T vs n dp]) [] (bB wd (aS tl n dp)) ev w'):=by
 have hO:=St.init hA;have hlo:=hp.lo;have hhi:=hp.hi;have hnn:=hp.hn;have hLL:=hp.hL;refine nh Tryz.func100 Tryz.ntmps100 fun a hF=>?_;refine Zb 4 fun ks a w hO hF=>?_;have hO:=hO.q [1];refine Zc 0 (fP _ _ _ _ _ _ _ (St.ai hO) (hT.aE hO) hp.hn hp.dB _ _ (hO.da (l:=[wd]) 0 rfl)) ?_;rintro a _ w ⟨rfl,hS⟩ hF;have hO:=hO.k1 hS;refine Zj 2 (fun a hF hc1=>?_) fun a hF hc1=>?_
 ·refine Zv 2 fun a hF=>?_;refine k_ hF rfl rfl rfl (dV hF rfl rfl Tryz.call46) (bz wd (St.ai hO) (hT.aE hO) hp (fun h=>hne (wE hc1 h))) ?_ ?_
  ·rintro _ w ⟨l,c,e,n1,d1,he,rfl,hS⟩;have hO:=hO.k1 hS;have hO:=hO.d [1];refine ml ?_;exact cn hF.defs ⟨_,_,_,_,_,wE hc1 he,rfl,hO⟩
  rintro a _ w ⟨t,n1,d1,he,hl1,hp1,rfl,hS⟩ hF;have hO:=hO.k1 hS;refine Zr 2 ?_;have hO:=hO.d [1];exact⟨eM (aS tl n dp) [wd],_,_,(I2 hc1 he).trans (by rw[hc1]),by omega,fun _=>hl1,fun h=>absurd hc1 h,hp1,rfl,hO⟩
 ·refine Zr 2 ?_;have hO:=hO.d [1];exact⟨eM (aS tl n dp) [wd],_,_,(Ia hc1).trans (by rw[Bool.not_eq_true _ |>.mp hc1]),Nat.le_refl _,fun h=>absurd h hc1,fun _=>⟨rfl,rfl⟩,hp,rfl,hO⟩
theorem qc {T b:Nat}{vs:Value}{tl:List Tok}{n:Nat}{dp:Int}{wd:List UInt8}{w0:World}(hA:bx w0 [bc b T vs n dp])(hT:bF w0 (ak [bc b T vs n dp]) vs aK tl)(hp:Pos tl n dp):bI Tryz.prog 166 #[ptr (aj b),str wd] w0 (fun v w'=>v=.bool (lI (aS tl n dp) wd)∧St w0 (ak [bc b T vs n dp]) w' [bc b T vs n dp]):=by
 have hO:=St.init hA;refine cw Tryz.func166 Tryz.ntmps166 fun a hF=>?_;refine Zb 6 fun ks a w hO hF=>?_;have hO:=hO.q [1];refine Zc 0 (fP _ _ _ _ _ _ _ (St.ai hO) (hT.aE hO) hp.hn hp.dB _ _ (hO.da (l:=[wd]) 0 rfl)) ?_;rintro a _ w ⟨rfl,hS⟩ hF;have hO:=hO.k1 hS;refine Zv 1 fun a hF=>?_;generalize hb:eM (aS tl n dp) [wd]=bv at hF;rcases bv with _|_
 ·refine Zv 6 fun a hF=>?_;refine ao hF rfl rfl rfl (dU (v:=.bool false) rfl (hF.eval rfl) rfl) fun a hF=>?_;refine Zr 1 ?_;have hO:=hO.d [1];exact⟨by simp [lI,hb],hO⟩
 ·refine Zv 7 fun a hF=>?_;refine Zc 0 (gr _ _ _ _ _ _ _ (St.ai hO) (hT.aE hO) hp.hn hp.dB 0 (by omega)) ?_;rintro a _ w ⟨tp1,rfl,adT,hS⟩ hF;have hO:=hO.k1 hS;refine Zv 4 fun a hF=>?_;refine ao hF rfl rfl rfl (dH rfl (hF.eval rfl) (hF.eval rfl)) fun a hF=>?_;refine Zr 1 ?_;have hO:=hO.d [1];exact⟨by rw[lI,hb,adT];rfl,hO⟩
theorem jJ {T b:Nat}{vs:Value}{tl:List Tok}{n:Nat}{dp:Int}{w0:World}(hA:bx w0 [bc b T vs n dp])(hT:bF w0 (ak [bc b T vs n dp]) vs aK tl)(hp:Pos tl n dp):bI Tryz.prog 176 #[ptr (aj b)] w0 (fun v w'=>v=.bool (ib (aS tl n dp))∧St w0 (ak [bc b T vs n dp]) w' [bc b T vs n dp]):=by
 have hO:=St.init hA;refine cw Tryz.func176 Tryz.ntmps176 fun a hF=>?_;refine Zb 5 fun b1 a w hO hF=>?_;have hO:=hO.q [1];refine Zc 0 (ky _ _ _ _ _ _ _ (St.ai hO) (hT.aE hO) hp.hn hp.dB _ _ (hO.da (l:=[3,4]) 0 rfl)) ?_;rintro a _ w ⟨rfl,hS⟩ hF;have hO:=hO.k1 hS;refine Zv 1 fun a hF=>?_;generalize hb:kN (aS tl n dp) [3,4]=bv at hF;rcases bv with _|_
 ·refine Zb 9 fun b2 a w hO hF=>?_;have hO:=hO.q [1];refine Zc 0 (fP _ _ _ _ _ _ _ (St.ai hO) (hT.aE hO) hp.hn hp.dB _ _ (hO.da (l:=[[96]]) 0 rfl)) ?_;rintro a _ w ⟨rfl,hS⟩ hF;have hO:=hO.k1 hS;refine ao hF rfl rfl rfl (dU rfl (hF.eval rfl) (hF.eval rfl)) fun a hF=>?_;refine Zr 1 ?_;have hO:=hO.d [1,1];exact⟨by rw[ib,hb];rfl,hO⟩
 ·refine Zv 5 fun a hF=>?_;refine ao hF rfl rfl rfl (dH (v:=.bool true) rfl (hF.eval rfl) rfl) fun a hF=>?_;refine Zr 1 ?_;have hO:=hO.d [1];exact⟨by simp [ib,hb],hO⟩
theorem qi {T b:Nat}{vs:Value}{tl:List Tok}{n:Nat}{dp:Int}{w0:World}(hA:bx w0 [bc b T vs n dp])(hT:bF w0 (ak [bc b T vs n dp]) vs aK tl)(hp:Pos tl n dp):bI Tryz.prog 168 #[ptr (aj b)] w0 (fun v w'=>v=.bool (q8 (aS tl n dp))∧St w0 (ak [bc b T vs n dp]) w' [bc b T vs n dp]):=by
 have hO:=St.init hA;refine cw Tryz.func168 Tryz.ntmps168 fun a hF=>?_;refine Zb 5 fun b1 a w hO hF=>?_;have hO:=hO.q [1];refine Zc 0 (ky _ _ _ _ _ _ _ (St.ai hO) (hT.aE hO) hp.hn hp.dB _ _ (hO.da (l:=[2,1]) 0 rfl)) ?_;rintro a _ w ⟨rfl,hS⟩ hF;have hO:=hO.k1 hS;refine Zv 1 fun a hF=>?_;generalize hb:kN (aS tl n dp) [2,1]=bv at hF;rcases bv with _|_
 ·refine Zb 9 fun b2 a w hO hF=>?_;have hO:=hO.q [1];refine Zc 0 (fP _ _ _ _ _ _ _ (St.ai hO) (hT.aE hO) hp.hn hp.dB _ _ (hO.da (l:=[[40],[91]]) 0 rfl)) ?_;rintro a _ w ⟨rfl,hS⟩ hF;have hO:=hO.k1 hS;refine ao hF rfl rfl rfl (dU rfl (hF.eval rfl) (hF.eval rfl)) fun a hF=>?_;refine Zr 1 ?_;have hO:=hO.d [1,1];exact⟨by rw[q8,hb];rfl,hO⟩
 ·refine Zv 5 fun a hF=>?_;refine ao hF rfl rfl rfl (dH (v:=.bool true) rfl (hF.eval rfl) rfl) fun a hF=>?_;refine Zr 1 ?_;have hO:=hO.d [1];exact⟨by simp [q8,hb],hO⟩
theorem aW (l:List NN)(h:aO)(t:Tok)(k:Int)(s:List UInt8)(w0:World):bI Tryz.prog 53 #[.agg (aK.cells t).toArray,i64 k,str s,h.v] w0 (fun v w'=>∃x:NN,x=NN.mk k s 0 t.line t.cR h l∧v=.agg (aM.cells x).toArray∧St w0 [] w' []):=by
 have hO:=St.aX w0;refine cw Tryz.func53 Tryz.ntmps53 fun a hF=>?_;refine Zb 1 fun tk a w hO hF=>?_;refine Zb 10 fun nd a w hO hF=>?_;refine Zr 0 ?_;have hO:=hO.d [0,0];exact⟨_,rfl,rfl,hO⟩
theorem au (l:List NN)(h:aO)(w0:World):bI Tryz.prog 55 #[h.v] w0 (fun v w'=>∃x:NN,x=NN.mk 1 [] 0 0 0 h l∧v=.agg (aM.cells x).toArray∧St w0 [] w' []):=by
 have hO:=St.aX w0;refine cw Tryz.func55 Tryz.ntmps55 fun a hF=>?_;refine Zb 4 fun nd a w hO hF=>?_;refine Zr 0 ?_;have hO:=hO.d [0];exact⟨_,rfl,rfl,hO⟩
theorem bu (x:NN)(w0:World):bI Tryz.prog 110 #[.agg (aM.cells x).toArray] w0 (fun v w'=>v=.agg (aK.cells (WI x.line x.cR)).toArray∧St w0 [] w' []):=by
 have hO:=St.aX w0;refine cw Tryz.func110 Tryz.ntmps110 fun a hF=>?_;refine Zb 1 fun nd a w hO hF=>?_;refine Zb 7 fun tk a w hO hF=>?_;refine Zr 0 ?_;have hO:=hO.d [0,0];exact⟨rfl,hO⟩
theorem lp {H p:Prop}(h:H)(g:H→p:=by intro hh;(first|rfl| (simp only[bJ,b_,NN.aH,NN.al,NN.cU,List.map_cons,List.map_nil,List.map_append,List.append_nil,List.append_assoc,List.cons_append,List.nil_append,List.length_map,List.length_cons,List.length_nil];done)| (simp only[bJ,b_,NN.aH,NN.al,NN.cU,List.map_cons,List.map_nil,List.map_append,List.append_nil,List.append_assoc,List.cons_append,List.nil_append,List.length_map,List.length_cons,List.length_nil];rfl))):p:=g h
theorem di {H p:Prop}(h:H)(g:H→p:=by intro hh;(first|rfl| (simp only[hh,bJ,b_,NN.aH,NN.al,NN.cU,List.map_cons,List.map_nil,List.map_append,List.append_nil,List.append_assoc,List.cons_append,List.nil_append,List.length_map,List.length_cons,List.length_nil];done)| (simp only[hh,bJ,b_,NN.aH,NN.al,NN.cU,List.map_cons,List.map_nil,List.map_append,List.append_nil,List.append_assoc,List.cons_append,List.nil_append,List.length_map,List.length_cons,List.length_nil];rfl))):p:=g h
theorem uR {H p:Prop}(h:H)(g:H→p:=by intro hh;(first|omega| (simp only[List.length_nil,List.length_cons];done)| (simp only[List.length_nil,List.length_cons];omega))):p:=g h
theorem qQ {H p:Prop}(h:H)(g:H→p:=by intro hh;(first|exact hQ| (simp only[List.map_append,List.map_cons,List.map_nil,List.append_assoc,List.cons_append,List.nil_append,bJ,b_,NN.aH,NN.al,NN.cU];exact hQ)| (simp only[List.map_append,List.map_cons,List.map_nil,List.append_assoc,List.cons_append,List.nil_append,bJ,b_,NN.aH,NN.al,NN.cU] at hQ ⊢;exact hQ))):p:=g h
theorem tg {H p:Prop}(h:H)(g:H→p:=by intro hh;(first|omega| (simp only[List.length_append,List.length_cons,List.length_nil];done)| (simp only[List.length_append,List.length_cons,List.length_nil];omega))):p:=g h
theorem CU (wi si:Int){T b:Nat}{vs:Value}{tl:List Tok}{n:Nat}{dp:Int}{w0:World}(hA:bx w0 [bc b T vs n dp])(hT:bF w0 (ak [bc b T vs n dp]) vs aK tl)(hp:Pos tl n dp)(hne:jI wi si (aS tl n dp)≠.error (-1)):dx Tryz.prog 165 #[ptr (aj b),i64 wi,i64 si] w0 (fun v w'=>SRx b T vs tl w0 (ak [bc b T vs n dp]) [] (jI wi si (aS tl n dp)) n v w') (fun ev w'=>lL b T vs w0 (ak [bc b T vs n dp]) [] (jI wi si (aS tl n dp)) ev w'):=by
 have hO:=St.init hA;generalize hR0:jI wi si (aS tl n dp)=R0 at hne ⊢;have hQ:=hR0.symm;simp only[jI,aw,az,a8,bl] at hQ;refine nh Tryz.func165 Tryz.ntmps165 fun a hF=>?_;refine Zb 4 fun v1 a w hO hF=>?_;refine Zb 1 fun b1 a w hO hF=>?_;have hO:=hO.q [2];refine Zc 0 (fP _ _ _ _ _ _ _ (St.ai hO) (hT.aE hO) hp.hn hp.dB _ _ (hO.da (l:=[[40]]) 0 rfl)) ?_;rintro a _ w ⟨rfl,hS⟩ hF;have hO:=hO.k1 hS;refine ao hF rfl rfl rfl (cY rfl (hF.eval rfl) (bh _)) fun a hF=>?_;refine Zi 0 (fun hc1=>?_) fun hc1=>?_
 ·have hQ:=cG hQ hc1;refine Ze 4 (jH _ (St.ai hO) (hT.aE hO) hp (ae hne hQ)) ?_;rintro a _ w ⟨t2,n2,d2,he,hl2,hp2,rfl,hS⟩ hF;have hO:=hO.k1 hS;have hQ:=aa hQ he;refine Zs 1 fun a w hO hF=>?_;refine Zr 0 ?_;have hO:=hO.d [1,1];exact⟨t2,_,_,hQ.trans (lp trivial),by omega,hp2,rfl,hO⟩
 ·have hQ:=cM hQ (Decidable.not_not.1 hc1);refine Ze 3 (bz _ (St.ai hO) (hT.aE hO) hp (ae hne hQ)) ?_;rintro a _ w ⟨t3,n3,d3,he,hl3,hp3,rfl,hS⟩ hF;have hO:=hO.k1 hS;have hQ:=aa hQ he;refine Zb 6 fun v4 a w hO hF=>?_;have hO:=hO.q [1];refine Ze 0 (jH _ (St.ai hO) (hT.aE hO) hp3 (ae hne hQ)) ?_;rintro a _ w ⟨t5,n5,d5,he,hl5,hp5,rfl,hS⟩ hF;have hO:=hO.k1 hS;have hQ:=aa hQ he;refine Zs 6 fun a w hO hF=>?_;refine Ze 0 (bz _ (St.ai hO) (hT.aE hO) hp5 (ae hne hQ)) ?_;rintro a _ w ⟨t6,n6,d6,he,hl6,hp6,rfl,hS⟩ hF;have hO:=hO.k1 hS;have hQ:=aa hQ he;refine Zs 2 fun a w hO hF=>?_;refine Zr 0 ?_;have hO:=hO.d [1,1,1];exact⟨{t3 with text:=t5.text},_,_,hQ.trans (lp trivial),by omega,hp6,rfl,hO⟩
theorem pS {T b:Nat}{vs:Value}{tl:List Tok}{n:Nat}{dp:Int}{w0:World}(hA:bx w0 [bc b T vs n dp])(hT:bF w0 (ak [bc b T vs n dp]) vs aK tl)(hp:Pos tl n dp)(hne:gm (aS tl n dp)≠.error (-1)):dx Tryz.prog 135 #[ptr (aj b)] w0 (fun v w'=>SRx b T vs tl w0 (ak [bc b T vs n dp]) [] (gm (aS tl n dp)) n v w') (fun ev w'=>lL b T vs w0 (ak [bc b T vs n dp]) [] (gm (aS tl n dp)) ev w'):=by
 have hO:=St.init hA;generalize hR0:gm (aS tl n dp)=R0 at hne ⊢;have hQ:=hR0.symm;simp only[gm] at hQ;refine nh Tryz.func135 Tryz.ntmps135 fun a hF=>?_;refine Zb 2 fun v1 a w hO hF=>?_;have hO:=hO.q [1];refine Ze 0 (CU 1 3 (St.ai hO) (hT.aE hO) hp (u_ hne hQ)) ?_;rintro a _ w ⟨t2,n2,d2,he,hl2,hp2,rfl,hS⟩ hF;have hO:=hO.k1 hS;have hQ:=uq hQ he;refine Zs 1 fun a w hO hF=>?_;refine Zr 0 ?_;have hO:=hO.d [1];exact⟨t2,_,_,hQ.trans (lp trivial),by omega,hp2,rfl,hO⟩
theorem jk {T b:Nat}{vs:Value}{tl:List Tok}{n:Nat}{dp:Int}{w0:World}(hA:bx w0 [bc b T vs n dp])(hT:bF w0 (ak [bc b T vs n dp]) vs aK tl)(hp:Pos tl n dp)(hne:il (aS tl n dp)≠.error (-1)):dx Tryz.prog 139 #[ptr (aj b)] w0 (fun v w'=>sD b T vs tl w0 (ak [bc b T vs n dp]) [] (il (aS tl n dp)) n v w') (fun ev w'=>lL b T vs w0 (ak [bc b T vs n dp]) [] (il (aS tl n dp)) ev w'):=by
 have hO:=St.init hA;generalize hR0:il (aS tl n dp)=R0 at hne ⊢;have hQ:=hR0.symm;simp only[il,aw,az,a8,bl] at hQ;refine nh Tryz.func139 Tryz.ntmps139 fun a hF=>?_;refine Zb 4 fun v1 a w hO hF=>?_;have hO:=hO.q [1];refine Ze 0 (jH _ (St.ai hO) (hT.aE hO) hp (ae hne hQ)) ?_;rintro a _ w ⟨t2,n2,d2,he,hl2,hp2,rfl,hS⟩ hF;have hO:=hO.k1 hS;have hQ:=aa hQ he;refine Zb 5 fun v3 a w hO hF=>?_;refine Zc 0 (aW [] aU _ _ _ _) ?_;rintro a _ w ⟨x4,hx4,rfl,hS⟩ hF;have hO:=hO.k0 hS;refine Zs 1 fun a w hO hF=>?_;have hO:=St.ga (T:=28) hx4 hO;refine Zr 0 ?_;have hO:=(hO.d [1,2]).q [1];exact⟨x4,_,_,hQ.trans (di hx4),by omega,hp2,rfl,hO⟩
theorem Ej (k:Nat){T b:Nat}{vs:Value}{tl:List Tok}{n:Nat}{dp:Int}{w0:World}(hA:bx w0 [bc b T vs n dp])(hT:bF w0 (ak [bc b T vs n dp]) vs aK tl)(hp:Pos tl n dp)(hne:iB k (aS tl n dp)≠.error (-1)):dx Tryz.prog 137 #[ptr (aj b)] w0 (fun v w'=>LRx b T vs tl w0 (ak [bc b T vs n dp]) [] (iB k (aS tl n dp)) n v w') (fun ev w'=>lL b T vs w0 (ak [bc b T vs n dp]) [] (iB k (aS tl n dp)) ev w'):=by
 have hO:=St.init hA;generalize hR0:iB k (aS tl n dp)=R0 at hne ⊢;have hQ:=hR0.symm;refine nh Tryz.func137 Tryz.ntmps137 fun a hF=>?_;refine Zv 1 fun a hF=>?_;have hO:=hO.bV 28 6;have hO:=St.fH (T:=28) hO;have hO:St _ _ _ (_::aT (aO.v aU) 28 aM ([]:List NN)::[_]):=hO;refine Zv 1 fun a hF=>?_;have hO:=hO.bV 28 6;have hO:=St.fH (T:=28) hO;have hO:St _ _ _ (_::aT (aO.v aU) 28 aM ([]:List NN)::[_,_,_]):=hO;obtain⟨G3,hG3,hQ⟩:=mF hQ;have hO:=(hO.d [2,2]).q [2];refine ax (fun (s:Nat×Nat×Int×List NN×aO) a w'=>match s with| (k3,n3,d3,gh,lC)=>(R0=(iB k3 >>= (fun m=>G3 (gh.map NN.er++m))) (aS tl n3 d3)∧Pos tl n3 d3∧k3≤k∧n≤n3∧(n+gh.length≤n3))∧St w0 (ak [bc b T vs n dp]) w' [bc b T vs n3 d3,aq.dF ((gh:List NN).map (nE 28)),aT lC.v 28 aM gh]∧Fr a 15 [(0,ptr (aj b)),(3,(aO.v lC))]) (fun (s:Nat×Nat×Int×List NN×aO)=>match s with| (k3,n3,d3,gh,lC)=>k3) (k,n,dp,[],aU) ⟨⟨hQ,hp,Nat.le_refl _,Nat.le_refl _,(uR trivial)⟩,hO,hF.sub ⟨rfl,rfl,trivial⟩⟩ ?_;rintro⟨k3,n3,d3,gh,lC⟩ a w ⟨⟨hQ,hp3,hk3,hn3,S0⟩,hO,hF⟩;rcases k3 with _|k3
 ·exact absurd (cT hQ (by simp only[iB];rfl)) hne
 simp only[iB,aw,az,a8,bl] at hQ;refine Zb 4 fun b1 a w hO hF=>?_;have hO:=hO.q [1];refine Zc 0 (ky _ _ _ _ _ _ _ (St.ai hO) (hT.aE hO) hp3.hn hp3.dB _ _ (hO.da (l:=[1]) 0 rfl)) ?_;rintro a _ w ⟨rfl,hS⟩ hF;have hO:=hO.k1 hS;refine Zj 0 (fun hc1=>?_) fun hc1=>?_
 ·have hQ:=cM hQ hc1;refine Ze 2 (jk (St.ai hO) (hT.aE hO) hp3 (ae hne hQ)) ?_;rintro a _ w ⟨x4,n4,d4,he,hl4,hp4,rfl,hS⟩ hF;have hO:=hO.k1 hS;have hQ:=aa hQ he;refine Zb 1 fun b2 a w hO hF=>?_;refine Za 0 (gR [x4] 5 0 hp4.nL) fun hs6 a w hO hF=>?_;refine Zv 1 fun a hF=>?_;have hO:=hO.q [2];have hO:=St.cf (T:=28) (l:=gh) hO 3 rfl;have hO:=hO.nm;have hO:=hO.d [0];have hO:=hO.d [1];exact⟨(k3,n4,d4,(gh++[x4]),hs6),⟨⟨(qQ trivial),hp4,by omega,by omega,(tg trivial)⟩,hO,hF.sub ⟨rfl,rfl,trivial⟩⟩,by dsimp only;omega⟩
 ·have hQ:=cG hQ hc1;simp only[hG3,List.map_append,List.map_cons,List.map_nil,List.append_assoc,List.cons_append,List.nil_append,bJ,b_,NN.aH,NN.al,NN.cU,List.append_nil,aw,az,a8,bl] at hQ;refine Zr 2 ?_;have hO:=(hO.d [1]).q [0,1];exact⟨gh,lC,_,_,hQ.trans (lp trivial),by first|omega| (simp only[List.length_append,List.length_cons,List.length_nil];omega),hp3,rfl,hO⟩
theorem lX {T b:Nat}{vs:Value}{tl:List Tok}{n:Nat}{dp:Int}{w0:World}(hA:bx w0 [bc b T vs n dp])(hT:bF w0 (ak [bc b T vs n dp]) vs aK tl)(hp:Pos tl n dp)(hne:dR (aS tl n dp)≠.error (-1)):dx Tryz.prog 167 #[ptr (aj b)] w0 (fun v w'=>URx b T vs tl w0 (ak [bc b T vs n dp]) [] (dR (aS tl n dp)) n v w') (fun ev w'=>lL b T vs w0 (ak [bc b T vs n dp]) [] (dR (aS tl n dp)) ev w'):=by
 have hO:=St.init hA;generalize hR0:dR (aS tl n dp)=R0 at hne ⊢;have hQ:=hR0.symm;simp only[dR,aw,az,a8,bl] at hQ;refine nh Tryz.func167 Tryz.ntmps167 fun a hF=>?_;refine Zc 1 (qc (St.ai hO) (hT.aE hO) hp) ?_;rintro a _ w ⟨rfl,hS⟩ hF;have hO:=hO.k1 hS;refine ao hF rfl rfl rfl (cY rfl (hF.eval rfl) (bh _)) fun a hF=>?_;refine Zi 0 (fun hc1=>?_) fun hc1=>?_
 ·have hQ:=cG hQ hc1;refine Zv 3 fun a hF=>?_;refine k_ hF rfl rfl rfl (dV hF rfl rfl Tryz.call96) (iQ _ _ _ _ _ _ _ (St.ai hO) (hT.aE hO) hp.hn hp.dB 30) ?_ ?_
  ·rintro _ w ⟨l,c,rfl,hS⟩;have hO:=hO.k1 hS;refine ml ?_;exact cn hF.defs ⟨_,_,30,_,_,hQ,rfl,hO⟩
  rintro a _ w h hF;exact h.elim
 ·have hQ:=cM hQ (Decidable.not_not.1 hc1);refine Ze 3 (bz _ (St.ai hO) (hT.aE hO) hp (ae hne hQ)) ?_;rintro a _ w ⟨t1,n1,d1,he,hl1,hp1,rfl,hS⟩ hF;have hO:=hO.k1 hS;have hQ:=aa hQ he;refine Zr 0 ?_;exact⟨_,_,hQ.trans (lp trivial),by omega,hp1,hO⟩
theorem Qf {T b:Nat}{vs:Value}{tl:List Tok}{n:Nat}{dp:Int}{w0:World}(hA:bx w0 [bc b T vs n dp])(hT:bF w0 (ak [bc b T vs n dp]) vs aK tl)(hp:Pos tl n dp)(hne:mJ (aS tl n dp)≠.error (-1)):dx Tryz.prog 99 #[ptr (aj b)] w0 (fun v w'=>sD b T vs tl w0 (ak [bc b T vs n dp]) [] (mJ (aS tl n dp)) n v w') (fun ev w'=>lL b T vs w0 (ak [bc b T vs n dp]) [] (mJ (aS tl n dp)) ev w'):=by
 have hO:=St.init hA;generalize hR0:mJ (aS tl n dp)=R0 at hne ⊢;have hQ:=hR0.symm;simp only[mJ,aw,az,a8,bl] at hQ;refine nh Tryz.func99 Tryz.ntmps99 fun a hF=>?_;refine Zb 4 fun v1 a w hO hF=>?_;refine Zb 1 fun b1 a w hO hF=>?_;have hO:=hO.q [2];refine Zc 0 (ky _ _ _ _ _ _ _ (St.ai hO) (hT.aE hO) hp.hn hp.dB _ _ (hO.da (l:=[2]) 0 rfl)) ?_;rintro a _ w ⟨rfl,hS⟩ hF;have hO:=hO.k1 hS;refine Zj 0 (fun hc1=>?_) fun hc1=>?_
 ·have hQ:=cM hQ hc1;obtain⟨t2,ht2,hQ⟩:=fm hne hQ;have hp2:=hp.succ ht2;refine Zc 3 (ej _ _ _ _ _ _ _ (St.ai hO) (hT.aE hO) hp.hn hp.dB t2 ht2) ?_;rintro a _ w ⟨rfl,hS⟩ hF;have hO:=hO.k1 hS;refine Zb 5 fun v3 a w hO hF=>?_;refine Zc 0 (aW [] aU _ _ _ _) ?_;rintro a _ w ⟨x4,hx4,rfl,hS⟩ hF;have hO:=hO.k0 hS;refine Zs 1 fun a w hO hF=>?_;have hO:=St.ga (T:=28) hx4 hO;refine Zr 0 ?_;have hO:=(hO.d [1,2,2]).q [1];exact⟨x4,_,_,hQ.trans (di hx4),by omega,hp2,rfl,hO⟩
 ·have hQ:=cG hQ hc1;refine Ze 1 (pS (St.ai hO) (hT.aE hO) hp (ae hne hQ)) ?_;rintro a _ w ⟨t5,n5,d5,he,hl5,hp5,rfl,hS⟩ hF;have hO:=hO.k1 hS;have hQ:=aa hQ he;refine Zb 5 fun v6 a w hO hF=>?_;refine Zc 0 (aW [] aU _ _ _ _) ?_;rintro a _ w ⟨x7,hx7,rfl,hS⟩ hF;have hO:=hO.k0 hS;refine Zs 1 fun a w hO hF=>?_;have hO:=St.ga (T:=28) hx7 hO;refine Zr 0 ?_;have hO:=(hO.d [1,2,2]).q [1];exact⟨x7,_,_,hQ.trans (di hx7),by omega,hp5,rfl,hO⟩
def CN (f:Nat)(F:PM Nd):Prop:=∀{T b:Nat} {vs:Value} {tl:List Tok} {n:Nat} {dp:Int} {w0:World},bx w0 [bc b T vs n dp]→bF w0 (ak [bc b T vs n dp]) vs aK tl→Pos tl n dp→F (aS tl n dp)≠.error (-1)→
 dx Tryz.prog f #[ptr (aj b)] w0 (fun v w'=>sD b T vs tl w0 (ak [bc b T vs n dp]) [] (F (aS tl n dp)) n v w') (fun ev w'=>lL b T vs w0 (ak [bc b T vs n dp]) [] (F (aS tl n dp)) ev w')
def LX (b g:Nat)(vals:List Value)(Xe:aq)(F:PM Nd):Prop:=∀{T:Nat} {vs:Value} {tl:List Tok} {n:Nat} {dp:Int} {w0:World},bx w0 [bc b T vs n dp,Xe]→bF w0 (ak [bc b T vs n dp,Xe]) vs aK tl→Pos tl n dp→F (aS tl n dp)≠.error (-1)→
 dx Tryz.prog g vals.toArray w0 (fun v w'=>sD b T vs tl w0 (ak [bc b T vs n dp,Xe]) [Xe] (F (aS tl n dp)) n v w') (fun ev w'=>lL b T vs w0 (ak [bc b T vs n dp,Xe]) [Xe] (F (aS tl n dp)) ev w')
theorem CN.one {f:Nat}{F:PM Nd}(h:CN f F)(b:Nat):LX b f [ptr (aj b)] (aq.dF []) F:=by
 intro T vs tl n dp w0 hA hT hp hne;have hO:=St.init hA;refine (h (St.ai hO) (hT.aE hO) hp hne).mono ?_ ?_
 ·rintro v w' ⟨x,n1,d1,he,hl,hp1,rfl,hS⟩;exact⟨x,n1,d1,he,hl,hp1,rfl,hO.gi hS⟩
 ·rintro v w' ⟨l,c,e,n1,d1,he,rfl,hS⟩;exact⟨l,c,e,n1,d1,he,rfl,hO.gi hS⟩
theorem SI:CN 99 (mJ):=fun hA hT hp hne=>Qf hA hT hp hne
theorem lD {T b:Nat}{vs:Value}{tl:List Tok}{n:Nat}{dp:Int}{w0:World}(hA:bx w0 [bc b T vs n dp])(hT:bF w0 (ak [bc b T vs n dp]) vs aK tl)(hp:Pos tl n dp)(hne:dJ (aS tl n dp)≠.error (-1)):dx Tryz.prog 106 #[ptr (aj b)] w0 (fun v w'=>sD b T vs tl w0 (ak [bc b T vs n dp]) [] (dJ (aS tl n dp)) n v w') (fun ev w'=>lL b T vs w0 (ak [bc b T vs n dp]) [] (dJ (aS tl n dp)) ev w'):=by
 have hO:=St.init hA;generalize hR0:dJ (aS tl n dp)=R0 at hne ⊢;have hQ:=hR0.symm;simp only[dJ,aw,az,a8,bl] at hQ;refine nh Tryz.func106 Tryz.ntmps106 fun a hF=>?_;refine Zb 4 fun v1 a w hO hF=>?_;have hO:=hO.q [1];refine Zc 0 (gr _ _ _ _ _ _ _ (St.ai hO) (hT.aE hO) hp.hn hp.dB 0 (by omega)) ?_;rintro a _ w ⟨tp2,rfl,pP,hS⟩ hF;have hO:=hO.k1 hS;refine Zb 3 fun v3 a w hO hF=>?_;refine Zb 5 fun v4 a w hO hF=>?_;have hO:=hO.q [2];refine Ze 0 (bZ _ (St.ai hO) (hT.aE hO) hp (ae hne hQ)) ?_;rintro a _ w ⟨bb5,n5,d5,he,hl5,hb5,hf5,hp5,rfl,hS⟩ hF;have hO:=hO.k1 hS;have hQ:=aa hQ he;refine Zj 0 (fun hc1=>?_) fun hc1=>?_
 ·have hQ:=eh hQ hc1;have hb5:=hb5 hc1;refine Zb 4 fun b1 a w hO hF=>?_;have hO:=hO.q [1];refine Zc 0 (ky _ _ _ _ _ _ _ (St.ai hO) (hT.aE hO) hp5.hn hp5.dB _ _ (hO.da (l:=[1,2]) 0 rfl)) ?_;rintro a _ w ⟨rfl,hS⟩ hF;have hO:=hO.k1 hS;refine ao hF rfl rfl rfl (cY rfl (hF.eval rfl) (bh _)) fun a hF=>?_;refine Zi 0 (fun hc2=>?_) fun hc2=>?_
  ·have hQ:=cG hQ hc2;refine Zv 3 fun a hF=>?_;refine k_ hF rfl rfl rfl (dV hF rfl rfl Tryz.call96) (iQ _ _ _ _ _ _ _ (St.ai hO) (hT.aE hO) hp5.hn hp5.dB 30) ?_ ?_
   ·rintro _ w ⟨l,c,rfl,hS⟩;have hO:=hO.k1 hS;have hO:=hO.d [1,1,1,1];refine ml ?_;refine ml ?_;exact cn hF.defs ⟨_,_,30,_,_,hQ,rfl,hO⟩
   rintro a _ w h hF;exact h.elim
  ·have hQ:=cM hQ (Decidable.not_not.1 hc2);obtain⟨t6,ht6,hQ⟩:=fm hne hQ;have hp6:=hp5.succ ht6;refine Zc 3 (ej _ _ _ _ _ _ _ (St.ai hO) (hT.aE hO) hp5.hn hp5.dB t6 ht6) ?_;rintro a _ w ⟨rfl,hS⟩ hF;have hO:=hO.k1 hS;refine Zs 4 fun a w hO hF=>?_;refine Ze 0 (bz _ (St.ai hO) (hT.aE hO) hp6 (ae hne hQ)) ?_;rintro a _ w ⟨t7,n7,d7,he,hl7,hp7,rfl,hS⟩ hF;have hO:=hO.k1 hS;have hQ:=aa hQ he;refine Zc 3 (aW [] aU _ _ _ _) ?_;rintro a _ w ⟨x8,hx8,rfl,hS⟩ hF;have hO:=hO.k0 hS;refine Zb 2 fun v9 a w hO hF=>?_;have hO:=St.ga (T:=28) hx8 hO;refine Zv 4 fun a hF=>?_;rcases Decidable.em (t6.kind=2) with hk2|hk2
   ·refine cW hF rfl rfl rfl rfl (j7 hk2) rfl rfl fun a hF=>?_;refine cW hF rfl rfl rfl rfl (j7 hk2) rfl rfl fun a hF=>?_;refine cW hF rfl rfl rfl rfl (j7 hk2) rfl rfl fun a hF=>?_;refine ao hF rfl rfl rfl (dH (v:=.bool true) rfl ((hF.eval rfl).trans (congrArg Value.bool (decide_eq_true hk2))) rfl) fun a hF=>?_;refine Zj 0 (fun hc3=>?_) fun hc3=>?_
    ·obtain⟨QI,S4,aev,Sb,QL,VG,VY⟩:=x8;refine Zs 2 fun a w hO hF=>?_;rw[fY 28 QI QI S4 S4 aev 1 Sb Sb QL QL VG VY] at hO;obtain⟨Q7,TJ,S5,agD,ab5,afM,Qd⟩:=(NN.mk.injEq _ _ _ _ _ _ _ _ _ _ _ _ _ _).mp hx8;refine Zs 2 fun a w hO hF=>?_;refine Zr 0 ?_;simp only[lP,hk2,true_or,if_true,if_false] at hQ;have hO:=(hO.d [1,2,2,2,2]).q [1];exact⟨(NN.mk QI S4 1 Sb QL VG VY),_,_,hQ.trans (di (And.intro Q7 (And.intro TJ (And.intro S5 Qd)))),by omega,hp7,rfl,hO⟩
    ·refine Zs 2 fun a w hO hF=>?_;refine Zr 0 ?_;exact absurd rfl hc3
   ·refine bg hF rfl rfl rfl rfl (j_ hk2) ?_;refine Zv 1 fun a hF=>?_;refine bg hF rfl rfl rfl rfl (j_ hk2) ?_;refine Zv 1 fun a hF=>?_;refine bg hF rfl rfl rfl rfl (j_ hk2) ?_;refine Zv 1 fun a hF=>?_;refine ao hF rfl rfl rfl (dU rfl ((hF.eval rfl).trans (congrArg Value.bool (decide_eq_false hk2))) (hF.eval rfl)) fun a hF=>?_;refine Zi 0 (fun hc4=>?_) fun hc4=>?_
    ·obtain⟨Q8,TW,adL,RN,Pl,Yt,UZ⟩:=x8;refine Zs 2 fun a w hO hF=>?_;rw[fY 28 Q8 Q8 TW TW adL 1 RN RN Pl Pl Yt UZ] at hO;obtain⟨Ub,Pd,QQ,afJ,ae_,ag1,Sc⟩:=(NN.mk.injEq _ _ _ _ _ _ _ _ _ _ _ _ _ _).mp hx8;refine Zs 2 fun a w hO hF=>?_;refine Zr 0 ?_;simp only[lP,hk2,false_or,hc4,if_true,if_false] at hQ;have hO:=(hO.d [1,2,2,2,2]).q [1];exact⟨(NN.mk Q8 TW 1 RN Pl Yt UZ),_,_,hQ.trans (di (And.intro Ub (And.intro Pd (And.intro QQ Sc)))),by omega,hp7,rfl,hO⟩
    ·refine Zs 2 fun a w hO hF=>?_;refine Zr 0 ?_;simp only[lP,hk2,false_or,hc4,if_true,if_false] at hQ;have hO:=(hO.d [1,2,2,2,2]).q [1];exact⟨x8,_,_,hQ.trans (di hx8),by omega,hp7,rfl,hO⟩
 ·have hQ:=d_ hQ hc1;obtain⟨rfl,rfl⟩:=hf5 hc1;refine Zb 4 fun b2 a w hO hF=>?_;have hO:=hO.q [1];refine Zc 0 (ky _ _ _ _ _ _ _ (St.ai hO) (hT.aE hO) hp.hn hp.dB _ _ (hO.da (l:=[3,4]) 0 rfl)) ?_;rintro a _ w ⟨rfl,hS⟩ hF;have hO:=hO.k1 hS;refine ao hF rfl rfl rfl (cY rfl (hF.eval rfl) (bh _)) fun a hF=>?_;refine Zi 0 (fun hc5=>?_) fun hc5=>?_
  ·have hQ:=cG hQ hc5;refine Zv 3 fun a hF=>?_;refine k_ hF rfl rfl rfl (dV hF rfl rfl Tryz.call96) (iQ _ _ _ _ _ _ _ (St.ai hO) (hT.aE hO) hp.hn hp.dB 30) ?_ ?_
   ·rintro _ w ⟨l,c,rfl,hS⟩;have hO:=hO.k1 hS;have hO:=hO.d [1,1,1,1];refine ml ?_;exact cn hF.defs ⟨_,_,30,_,_,hQ,rfl,hO⟩
   rintro a _ w h hF;exact h.elim
  ·have hQ:=cM hQ (Decidable.not_not.1 hc5);obtain⟨t12,SZ,hQ⟩:=fm hne hQ;have xj:=pP.symm.trans (jo SZ);have KM:tp2.text=t12.text:=congrArg Tk.text xj;have Kr:tp2.num=t12.num:=congrArg Tk.num xj;have Hs:tp2.kind=t12.kind:=congrArg Tk.kind xj;have nj:=hp.succ SZ;refine Zc 3 (ej _ _ _ _ _ _ _ (St.ai hO) (hT.aE hO) hp.hn hp.dB t12 SZ) ?_;rintro a _ w ⟨rfl,hS⟩ hF;have hO:=hO.k1 hS;refine Zc 3 (aW [] aU _ _ _ _) ?_;rintro a _ w ⟨x13,ng,rfl,hS⟩ hF;have hO:=hO.k0 hS;refine Zb 2 fun v14 a w hO hF=>?_;have hO:=St.ga (T:=28) ng hO;refine Zv 4 fun a hF=>?_;rcases Decidable.em (tp2.kind=2) with hk2|hk2
   ·refine cW hF rfl rfl rfl rfl (j7 hk2) rfl rfl fun a hF=>?_;refine cW hF rfl rfl rfl rfl (j7 hk2) rfl rfl fun a hF=>?_;refine cW hF rfl rfl rfl rfl (j7 hk2) rfl rfl fun a hF=>?_;refine ao hF rfl rfl rfl (dH (v:=.bool true) rfl ((hF.eval rfl).trans (congrArg Value.bool (decide_eq_true hk2))) rfl) fun a hF=>?_;refine Zj 0 (fun hc6=>?_) fun hc6=>?_
    ·obtain⟨RQ,Tj,ac9,Ph,Ql,YP,V0⟩:=x13;refine Zs 2 fun a w hO hF=>?_;rw[fY 28 RQ RQ Tj Tj ac9 1 Ph Ph Ql Ql YP V0] at hO;obtain⟨Qz,OZ,Qm,agB,acG,afq,QW⟩:=(NN.mk.injEq _ _ _ _ _ _ _ _ _ _ _ _ _ _).mp ng;refine Zs 2 fun a w hO hF=>?_;refine Zr 0 ?_;rw[←xj] at hQ;simp only[lP,hk2,true_or,if_true,if_false] at hQ;have hO:=(hO.d [1,2,2,2,2]).q [1];exact⟨(NN.mk RQ Tj 1 Ph Ql YP V0),_,_,hQ.trans (di (And.intro KM (And.intro Kr (And.intro Hs (And.intro Qz (And.intro OZ (And.intro Qm QW))))))),by omega,nj,rfl,hO⟩
    ·refine Zs 2 fun a w hO hF=>?_;refine Zr 0 ?_;exact absurd rfl hc6
   ·refine bg hF rfl rfl rfl rfl (j_ hk2) ?_;refine Zv 1 fun a hF=>?_;refine bg hF rfl rfl rfl rfl (j_ hk2) ?_;refine Zv 1 fun a hF=>?_;refine bg hF rfl rfl rfl rfl (j_ hk2) ?_;refine Zv 1 fun a hF=>?_;refine ao hF rfl rfl rfl (dU rfl ((hF.eval rfl).trans (congrArg Value.bool (decide_eq_false hk2))) (hF.eval rfl)) fun a hF=>?_;refine Zi 0 (fun hc7=>?_) fun hc7=>?_
    ·obtain⟨OL,O4,adb,QR,RZ,We,Vn⟩:=x13;refine Zs 2 fun a w hO hF=>?_;rw[fY 28 OL OL O4 O4 adb 1 QR QR RZ RZ We Vn] at hO;obtain⟨OX,Sy,QZ,adu,aeb,aeT,Uu⟩:=(NN.mk.injEq _ _ _ _ _ _ _ _ _ _ _ _ _ _).mp ng;refine Zs 2 fun a w hO hF=>?_;refine Zr 0 ?_;rw[←xj] at hQ;simp only[lP,hk2,false_or,hc7,if_true,if_false] at hQ;have hO:=(hO.d [1,2,2,2,2]).q [1];exact⟨(NN.mk OL O4 1 QR RZ We Vn),_,_,hQ.trans (di (And.intro KM (And.intro Kr (And.intro Hs (And.intro OX (And.intro Sy (And.intro QZ Uu))))))),by omega,nj,rfl,hO⟩
    ·refine Zs 2 fun a w hO hF=>?_;refine Zr 0 ?_;rw[←xj] at hQ;simp only[lP,hk2,false_or,hc7,if_true,if_false] at hQ;have hO:=(hO.d [1,2,2,2,2]).q [1];exact⟨x13,_,_,hQ.trans (di (And.intro KM (And.intro Kr (And.intro Hs ng)))),by omega,nj,rfl,hO⟩
theorem mP (w0:World):bI Tryz.prog 173 #[] w0 (fun v w'=>v=.agg V2.toArray∧St w0 [] w' []):=by
 have hO:=St.aX w0;refine cw Tryz.func173 Tryz.ntmps173 fun a hF=>?_;refine Zb 1 fun b1 a w hO hF=>?_;refine ao hF rfl rfl rfl (Cl hF Tryz.underlying152 Tryz.zeroValue152 Tryz.sizeOf9 rfl rfl rfl rfl) fun a hF=>?_;refine Zs 1 fun a w hO hF=>?_;refine Zr 0 ?_;have hO:=hO.d [0];exact⟨rfl,hO⟩
theorem yD {T b:Nat}{vs:Value}{tl:List Tok}{n:Nat}{dp:Int}{w0:World}(hA:bx w0 [bc b T vs n dp])(hT:bF w0 (ak [bc b T vs n dp]) vs aK tl)(hp:Pos tl n dp)(hne:iO (aS tl n dp)≠.error (-1)):dx Tryz.prog 174 #[ptr (aj b)] w0 (fun v w'=>STx b T vs tl w0 (ak [bc b T vs n dp]) [] (iO (aS tl n dp)) n v w') (fun ev w'=>lL b T vs w0 (ak [bc b T vs n dp]) [] (iO (aS tl n dp)) ev w'):=by
 have hO:=St.init hA;generalize hR0:iO (aS tl n dp)=R0 at hne ⊢;have hQ:=hR0.symm;rw[FT] at hQ;refine nh Tryz.func174 Tryz.ntmps174 fun a hF=>?_;obtain⟨G1,hG1,hQ⟩:=mF hQ;refine Zv 2 fun a hF=>?_;refine ax (fun (s:Nat×Nat×Int) a w'=>match s with| (k1,n1,d1)=>(R0=(ux k1 >>= G1) (aS tl n1 d1)∧Pos tl n1 d1∧k1≤2∧n≤n1∧(k1≤2))∧St w0 (ak [bc b T vs n dp]) w' [bc b T vs n1 d1]∧Fr a 17 [(0,ptr (aj b)),(3,i64 (3 - (k1:Int)))]) (fun (s:Nat×Nat×Int)=>match s with| (k1,n1,d1)=>k1) (2,n,dp) ⟨⟨hQ,hp,Nat.le_refl _,Nat.le_refl _,(uR trivial)⟩,hO,hF.sub ⟨rfl,rfl,trivial⟩⟩ ?_;rintro⟨k1,n1,d1⟩ a w ⟨⟨hQ,hp1,hk1,hn1,ahX⟩,hO,hF⟩;refine Zv 3 fun a hF=>?_;rcases k1 with _|k1
 ·simp only[ux,az] at hQ;refine Zv 4 fun a hF=>?_;refine ao hF rfl rfl rfl (dU (v:=.bool false) rfl ((hF.eval rfl).trans (congrArg Value.bool (decide_eq_false (by omega)))) rfl) fun a hF=>?_;refine Zj 0 (fun hc1=>?_) fun hc1=>?_
  ·exact absurd hc1 (by decide)
  ·simp only[hG1,List.map_append,List.map_cons,List.map_nil,List.append_assoc,List.cons_append,List.nil_append,bJ,b_,NN.aH,NN.al,NN.cU,List.append_nil,aw,az,a8,bl] at hQ;refine Zc 0 (mP _) ?_;rintro a _ w ⟨rfl,hS⟩ hF;have hO:=hO.k0 hS;refine Zv 1 fun a hF=>?_;refine ao hF rfl rfl rfl (jY (j:=3) Tryz.underlying152 Tryz.sizeOf9 Tryz.isAgg9 rfl (hF.eval rfl) (hF.eval rfl) (by omega) (rU (by omega))) fun a hF=>?_;refine Zv 1 fun a hF=>?_;refine Ty hF rfl rfl ?_;exact⟨_,_,_,hQ.trans (lp trivial),by omega,hp1,rfl,hO⟩
 ·simp only[ux,aw,az,a8] at hQ;refine Zv 7 fun a hF=>?_;refine Ze 0 (bZ _ (St.ai hO) (hT.aE hO) hp1 (ae hne hQ)) ?_;rintro a _ w ⟨bb2,n2,d2,he,hl2,hb2,hf2,hp2,rfl,hS⟩ hF;have hO:=hO.k1 hS;have hQ:=aa hQ he;refine ao hF rfl rfl rfl (dH rfl ((hF.eval rfl).trans (congrArg Value.bool (decide_eq_true (by omega)))) (hF.eval rfl)) fun a hF=>?_;refine Zj 0 (fun hc2=>?_) fun hc2=>?_
  ·have hQ:=eh hQ hc2;have hb2:=hb2 hc2;refine Zv 3 fun a hF=>?_;exact⟨(k1,n2,d2),⟨⟨(qQ trivial),hp2,by omega,by omega,(tg trivial)⟩,hO,hF.sub ⟨rfl,(congrArg (fun z:Int=>some (i64 z)) (by omega:(3 - ((k1+1:Nat):Int)+1:Int)=3 - (k1:Int))),trivial⟩⟩,by dsimp only;omega⟩
  ·have hQ:=d_ hQ hc2;obtain⟨rfl,rfl⟩:=hf2 hc2;simp only[hG1,List.map_append,List.map_cons,List.map_nil,List.append_assoc,List.cons_append,List.nil_append,bJ,b_,NN.aH,NN.al,NN.cU,List.append_nil,aw,az,a8,bl] at hQ;refine Zc 0 (mP _) ?_;rintro a _ w ⟨rfl,hS⟩ hF;have hO:=hO.k0 hS;refine Zv 1 fun a hF=>?_;refine ao hF rfl rfl rfl (jY (j:=2 - k1) Tryz.underlying152 Tryz.sizeOf9 Tryz.isAgg9 rfl (hF.eval rfl) ((hF.eval rfl).trans (congrArg i64 (by omega))) (by omega) (rU (by omega))) fun a hF=>?_;refine Zv 1 fun a hF=>?_;refine Ty hF rfl rfl ?_;exact⟨_,_,_,hQ.trans (lp trivial),by omega,hp1,rfl,hO⟩
theorem uM (l:List NN)(h:aO)(w0:World)(hl:0<l.length)(hA:bx w0 [aT h.v 28 aM l,aq.dF (l.map (nE 28))]):bI Tryz.prog 147 #[h.v] w0 (fun v w'=>∃x:NN,x.er=eU (l.map NN.er)∧v=.agg (aM.cells x).toArray∧St w0 (ak [aT h.v 28 aM l,aq.dF (l.map (nE 28))]) w' [nE 28 x]):=by
 have hO:=St.init hA;have hll:=bF.je (hO.gD 0 rfl);refine cw Tryz.func147 Tryz.ntmps147 fun a hF=>?_;refine Zb 2 fun v1 a w hO hF=>?_;refine Zg 0 (ew (hO.rd 1 rfl)) fun a hF=>?_;refine Zi 1 (fun a hF hc1=>?_) fun a hF hc1=>?_
 ·obtain⟨x,hx⟩:=cI (l:=l) (i:=0) (by omega);refine Zg 1 (eB 0 (hO.rd 1 rfl) (by omega)) fun a hF=>?_;refine Zh 0 (hO.gD 1 rfl) hx fun a hF=>?_;refine Zc 0 (bu _ _) ?_;rintro a _ w ⟨rfl,hS⟩ hF;have hO:=hO.k0 hS;refine Zc 1 (aW l h _ _ _ _) ?_;rintro a _ w ⟨x2,hx2,rfl,hS⟩ hF;have hO:=hO.k0 hS;refine Zs 1 fun a w hO hF=>?_;have hO:=hO.q [1,1];have hO:=St.bL (T:=28) hx2 hO;refine Zr 0 ?_;have hO:=hO.pull 0 rfl;have hO:=hO.front (A:=[_]);exact⟨x2,by rw[hx2,bJ,ss (by omega)];rfl,rfl,hO⟩
 ·obtain⟨x,rfl⟩:=O0 hl (by omega);obtain⟨xz,hx⟩:=cI (l:=[x]) (i:=0) (by omega);refine Zg 1 (eB 0 (hO.rd 1 rfl) (by omega)) fun a hF=>?_;refine Zh 0 (hO.gD 1 rfl) hx fun a hF=>?_;refine Zs 1 fun a w hO hF=>?_;refine Zr 0 ?_;have hO:=hO.pull 2 rfl;have hO0:=hO;cases hx;have hO:=hO0;have hO:=St.rj hO;have hO:=hO.front (A:=[_]);exact⟨x,rfl,rfl,hO⟩
theorem fW (l:List NN)(h:aO)(t:Tok)(nm:List UInt8)(w0:World)(hA:bx w0 [aT h.v 28 aM l,aq.dF (l.map (nE 28))]):bI Tryz.prog 172 #[.agg (aK.cells t).toArray,str nm,h.v] w0 (fun v w'=>∃x:NN,x.er=gw nm (l.map NN.er)∧v=.agg (aM.cells x).toArray∧St w0 (ak [aT h.v 28 aM l,aq.dF (l.map (nE 28))]) w' [nE 28 x]):=by
 have hO:=St.init hA;have hll:=bF.je (hO.gD 0 rfl);refine cw Tryz.func172 Tryz.ntmps172 fun a hF=>?_;refine Zb 1 fun tk a w hO hF=>?_;refine Zb 3 fun res a w hO hF=>?_;refine Zc 0 (aW [] aU _ _ _ _) ?_;rintro a _ w ⟨x1,hx1,rfl,hS⟩ hF;have hO:=hO.k0 hS;refine Zb 2 fun nb a w hO hF=>?_;have hO:=St.ga (T:=28) hx1 hO;refine Zg 1 (ew (hO.rd 4 rfl)) fun a hF=>?_;refine Zv 1 fun a hF=>?_;have hO:=hO.q [1,2,1];refine ax (fun (s:Nat×NN) a w'=>match s with| (i,x)=>(i≤l.length∧((l.drop i).map NN.er).foldl (fun n a=>bk 54 [] [n,a]) x.er=gw nm (l.map NN.er))∧St w0 (ak [aT h.v 28 aM l,aq.dF (l.map (nE 28))]) w' [.ob nb 28 (aM.cells x),.ob tk 44 (aK.cells t),.ob res 28 (aM.cells ea),nE 28 x,aT h.v 28 aM l,aq.dF ((l.drop i).map (nE 28))]∧Fr a 26 [(6,ptr (aj res)),(7,ptr (aj nb)),(3,ptr (aj tk)),(13,h.v),(14,i64 l.length),(15,i64 i)]) (fun (s:Nat×NN)=>match s with| (i,x)=>l.length - i) (0,x1) ⟨⟨by omega,by rw[hx1,bJ];rfl⟩,hO,hF.sub ⟨rfl,rfl,rfl,rfl,rfl,rfl,trivial⟩⟩ ?_;rintro⟨i,x⟩ a w ⟨⟨hi,hx⟩,hO,hF⟩;refine Zi 1 (fun a hF hc1=>?_) fun a hF hc1=>?_
 ·obtain⟨y,hy⟩:=cI (l:=l) (i:=i) (by omega);refine Zg 0 (eB i (hO.rd 4 rfl) (by omega)) fun a hF=>?_;refine Zh 0 (hO.gD 4 rfl) hy fun a hF=>?_;refine Zb 2 fun ab a w hO hF=>?_;have hO:=hO.q [6];have hO:=St.rV hy hO;refine Zb 4 fun b1 a w hO hF=>?_;refine Zc 0 (aW [x,y] ⟨some (aj b1),2,2⟩ _ _ _ _) ?_;rintro a _ w ⟨x2,hx2,rfl,hS⟩ hF;have hO:=hO.k0 hS;refine Zs 1 fun a w hO hF=>?_;have hO:=hO.q [0,6];have hO:=St.bP (T:=28) [x,y] hO;have hO:=St.bL (T:=28) hx2 hO;refine Zv 2 fun a hF=>?_;have hO:=(hO.d [2]).q [2,2,2,0,1];exact⟨(i+1,x2),⟨⟨by omega,by rw[hx2,bJ,←hx,r7 hy];rfl⟩,hO,hF.sub ⟨rfl,rfl,rfl,rfl,rfl,rfl,trivial⟩⟩,by dsimp only;omega⟩
 ·refine Zs 2 fun a w hO hF=>?_;refine Zr 0 ?_;have hO:=hO.pull 3 rfl;have hO:=hO.front (A:=[_]);exact⟨x,(AB (by omega) _).symm.trans hx,rfl,hO⟩
end Go.Proofs.YtdfccaonglmgpaaGreatDoor
