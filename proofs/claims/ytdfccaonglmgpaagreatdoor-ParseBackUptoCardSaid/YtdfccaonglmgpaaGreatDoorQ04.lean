/- Q04 -/
import Derived.Test.YtdfccaonglmgpaaGreatDoorQ01
import Derived.WalkKit
import Derived.Still
import Derived.Laws.OwnMore
import Derived.Maps.AppendAt
import Derived.Laws.AppendOwnNone
import Derived.IntWalk
import Derived.Laws.StructEq
import Derived.Laws.Slices
import Derived.Laws.Strings2
import Derived.LoopN
import Derived.RangeFuncFrom
import Derived.RangeFuncLeaves
import Derived.OwnWalkIn
import Derived.RangeFuncCalls
set_option linter.all false
namespace Go.Proofs.YtdfccaonglmgpaaGreatDoor
open Go
def lk:List (Nat×Value)→Nat→Option Value
 | [],_=>none
 | (k,v)::L,t=>bif Nat.beq k t then some v else lk L t
def Gv (k:Nat)(v:Value)(L:List (Nat×Value)):lk ((k,v)::L) k=some v:=by
 simp [lk]
def CB {k t:Nat}(h:¬k=t)(v:Value)(L:List (Nat×Value)):lk ((k,v)::L) t=lk L t:=by
 have:Nat.beq k t=false:=by cases hb:Nat.beq k t with|false=>rfl|true=>exact absurd (Nat.eq_of_beq_eq_true hb) h
 simp [lk,this]
structure Fr (a:Act)(n:Nat)(L:List (Nat×Value)):Prop where
 size:a.tmps.size=n
 defs:a.defers=[]
 get:∀t v,lk L t=some v→a.tmps.getD t undef=v
def tq (L:List (Nat×Value)):List (Nat×Value)→Prop
 | []=>True
 | (k,v)::r=>lk L k=some v∧tq L r
def I_ {L:List (Nat×Value)}:∀{L':List (Nat×Value)},tq L L'→∀t v,lk L' t=some v→lk L t=some v
 | [],_,t,v,h=>by cases h
 | (k,u)::r,hA,t,v,h=>by
  by_cases hk:k=t
  ·subst hk;rw[Gv] at h;cases h;exact hA.1
  ·rw[CB hk] at h;exact I_ hA.2 t v h
def Fr.sub {a:Act}{n:Nat}{L L':List (Nat×Value)}(h:Fr a n L)(hA:tq L L'):Fr a n L':=
 ⟨h.size,h.defs,fun t v ht=>h.get t v (I_ hA t v ht)⟩
def Fr.put {a:Act}{n:Nat}{L:List (Nat×Value)}(h:Fr a n L){d:Nat}(hd:d<n)(v:Value):Fr (a.put (some d) v) n ((d,v)::L):=by
 refine⟨by simp [Act.put,h.size],h.defs,fun t u ht=>?_⟩
 by_cases hk:d=t
 ·subst hk;rw[Gv] at ht;cases ht;simp [Act.put,h.size,hd]
 ·rw[CB hk] at ht;have:=h.get t u ht
  simpa [Act.put,Array.getElem?_setIfInBounds_ne hk] using this
def Fr.Gn {a:Act}{n:Nat}{L:List (Nat×Value)}(h:Fr a n L)(v:Value):Fr (a.put none v) n L:=h
def Fr.init (args:Array Value)(m:Nat)(L:List (Nat×Value))(hL:tq ((List.range args.size).zip args.toList) L):
  Fr {tmps:=args++Array.replicate m undef,defers:=[]} (args.size+m) L:=by
 refine⟨aw,rfl,fun t v ht=>?_⟩;have h1:=I_ hL t v ht;have h2:∀(l:List Value) (k t:Nat),lk ((List.range' k l.length).zip l) t=some v→k≤t∧l[t - k]?=some v:=by
  intro l
  induction l with
  |nil=>intro k t h;cases h
  |cons x r ih=>
   intro k t h;simp only[bg,List.range'_succ,List.zip_cons_cons] at h
   by_cases hk:k=t
   ·subst hk;rw[Gv] at h;cases h;simp
   ·rw[CB hk] at h;obtain⟨h3,h4⟩:=ih (k+1) t h;refine⟨V,?_⟩;rw[show t - k=(t - (k+1))+1 by omega]
    simpa using h4
 have h3:=h2 args.toList 0 t (by rw[List.range_eq_range'] at h1;simpa using h1);have h4:args[t]?=some v:=by simpa using h3.2
 have hlt:t<args.size:=(Array.getElem?_eq_some_iff.1 h4).1;have h5:args[t]=v:=by rw[Array.getElem?_eq_getElem hlt] at h4;exact Option.some.inj h4
 simp [Array.getElem?_append,hlt,h5]
def ev (L:List (Nat×Value)):Operand→Option Value
 | .tmp t=>lk L t
 | .const v=>some v
 | .global g=>some (.pointer (some ⟨g,0,none⟩))
 | .func f=>some (.func (.func f) #[] #[])
def Fr.eval {a:Act}{n:Nat}{L:List (Nat×Value)}(h:Fr a n L){x:Operand}{v:Value}(hx:ev L x=some v):a.eval x=v:=by
 cases x with
 |tmp t=>exact h.get t v hx
 |const c=>simpa [ev,Act.eval] using hx
 |global g=>simpa [ev,Act.eval] using hx
 |func f=>simpa [ev,Act.eval] using hx
def Fr.af {a:Act}{n:Nat}{L:List (Nat×Value)}(h:Fr a n L){x:Operand}{v:Value}(hx:ev L x=some v):a.eval x=v:=h.eval hx
def bG (P:Program)(o:Oper)(a:Act)(w:World)(R:Value→World→Prop):Prop:=
 match (execOp a.eval o).run P w with
 | .ok (.value v) w'=>R v w'
 | .ok .skip w'=>R undef w'
 | .ok (.enter f args) w'=>Calls P f args w' (fun e w''=>∃v,e=.returned v∧R v w'')
 |_=>False
section
variable {P:Program} {o:Oper} {a:Act} {w w':World} {v:Value} {R:Value→World→Prop}
def bG.value (h:(execOp a.eval o).run P w=.ok (.value v) w')(hR:R v w'):bG P o a w R:=by
 unfold bG;rw[h];exact hR
def bG.skip (h:(execOp a.eval o).run P w=.ok .skip w')(hR:R undef w'):bG P o a w R:=by
 unfold bG;rw[h];exact hR
def bG.call {f:Nat}{args:Array Value}(h:(execOp a.eval o).run P w=.ok (.enter f args) w')(hc:Calls P f args w' (fun e w''=>∃v,e=.returned v∧R v w'')):bG P o a w R:=by
 unfold bG;rw[h];exact hc
def bG.mono {R':Value→World→Prop}(h:bG P o a w R)(hr:∀v w',R v w'→R' v w'):bG P o a w R':=by
 unfold bG at *
 split at h
 ·exact hr _ _ h
 ·exact hr _ _ h
 ·exact h.mono fun e w'' ⟨v,he,hv⟩=>⟨v,he,hr _ _ hv⟩
 ·exact h.elim
def bG.some_ (h:bG P o a w R):∃v w',R v w':=by
 unfold bG at h
 split at h
 ·exact⟨_,_,h⟩
 ·exact⟨_,_,h⟩
 ·obtain⟨e,w',fr,⟨v,_,hv⟩,_⟩:=h [];exact⟨v,w',hv⟩
 ·exact h.elim
def bG.congr {a':Act}(h:bG P o a w R)(he:execOp a'.eval o=execOp a.eval o):bG P o a' w R:=by
 unfold bG at *;rw[he];exact h
def bG.wp {K:Act→World→Prop}{Q:Exit→Act→World→Prop}(h:bG P o a w (fun v w'=>K (a.put o.dst v) w')):o.wp P a w K Q:=by
 unfold bG at h;unfold Oper.wp;generalize (execOp a.eval o).run P w=r at h ⊢
 cases r with
 |halt x w'=>exact h.elim
 |ok x w'=>
  cases x with
  |value v=>exact h
  |skip=>exact h
  |enter f args=>exact Calls.mono (R:=fun e w''=>∃v,e=.returned v∧K (a.put o.dst v) w'') h fun e w'' ⟨v,he,hv⟩=>by subst he;exact hv
  |_=>exact h.elim
end
def gv (g:Value)(b:Bool)(v:Value):Value:=match g with| .bool c=>bif c ==b then v else undef|_=>undef
def dk (g:Value)(b:Bool):Bool:=match g with| .bool c=>c ==b|_=>false
def a6 {g:Value}{b:Bool}{v:Value}(h:dk g b=true):gv g b v=v:=by
 cases g with
 |bool c=>simp only[dk] at h;simp [gv,h]
 |_=>simp [dk] at h
def w8 {g:Value}{b:Bool}{v:Value}(h:dk g b=false):gv g b v=undef:=by
 cases g with
 |bool c=>simp only[dk] at h;simp [gv,h]
 |_=>rfl
def tE {g v u:Value}{b c:Bool}(h1:dk g b=true)(h2:dk v c=true):gv (gv g b v) c u=u:=by rw[a6 h1,a6 h2]
def Gi {g v:Value}{b c:Bool}(h:dk (gv g b v) c=true):dk g b=true∧dk v c=true:=by
 cases hg:dk g b with
 |true=>rw[a6 hg] at h;exact⟨rfl,h⟩
 |false=>rw[w8 hg] at h;simp [dk,undef] at h
def sC {ops:Array Oper}{a:Act}{o:Oper}{n:Nat}{L:List (Nat×Value)}{j:Nat}{b:Bool}{d:Nat}{oj:Oper}{g:Value}(U:Fr a n L)(hg:o.guard=some (j,b))(hj:ops[j]?=some oj)(hd:oj.dst=some d)(hv:lk L d=some g):
  Region.wanted o (yielded ops a.tmps)=dk g b:=by
 have h1:=U.get d _ hv;simp only[Region.wanted,hg,yielded,hj]
 cases h3:a.tmps[d]? with
 |none=>
  rw[Array.getD_eq_getD_getElem?,h3] at h1;have:g=undef:=h1.symm;subst this;simp [hd,h3,dk,undef]
 |some u=>
  rw[Array.getD_eq_getD_getElem?,h3] at h1;have:u=g:=h1;subst this;cases u<;>simp [hd,h3,dk]
section
variable {P:Program} {ops:Array Oper} {Q:Exit→Act→World→Prop} {a:Act} {w:World} {rest:List Oper} {o:Oper} {n d:Nat} {L:List (Nat×Value)} {v:Value} {R:Value→World→Prop}
def QV (P:Program)(o:Oper)(a:Act)(w:World)(v:Value):Prop:=(execOp a.eval o).run P w=.ok (.value v) w
def QV.eff (h:QV P o a w v):bG P o a w (fun u w'=>u=v∧w'=w):=bG.value h ⟨rfl,rfl⟩
def Mi (hg:o.guard=none)(h:bG P o a w (fun v w'=>wpList P ops Q rest (a.put o.dst v) w')):wpList P ops Q (o::rest) a w:=by
 unfold wpList;rw[if_pos (by simp [Region.wanted,hg])];exact .inl h.wp
def qZ (U:Fr a n L)(hg:o.guard=none)(hd:o.dst=some d)(hn:Nat.ble (d+1) n=true)(h:QV P o a w v)
  (next:∀a,Fr a n ((d,v)::L)→wpList P ops Q rest a w):wpList P ops Q (o::rest) a w:=
 Mi hg (bG.value h (by rw[hd];exact next _ (U.put (cX hn) v)))
def yb (U:Fr a n L)(hg:o.guard=none)(hd:o.dst=some d)(hn:Nat.ble (d+1) n=true)(h:bG P o a w R)
  (next:∀a v w,R v w→Fr a n ((d,v)::L)→wpList P ops Q rest a w):wpList P ops Q (o::rest) a w:=
 Mi hg (h.mono fun v w' hR=>by rw[hd];exact next _ _ _ hR (U.put (cX hn) v))
def Ox (U:Fr a n L)(hg:o.guard=none)(hd:o.dst=none)(h:bG P o a w R)
  (next:∀a v w,R v w→Fr a n L→wpList P ops Q rest a w):wpList P ops Q (o::rest) a w:=
 Mi hg (h.mono fun v w' hR=>by rw[hd];exact next _ _ _ hR (U.Gn v))
def cG {j:Nat}{b:Bool}{dj:Nat}{oj:Oper}{g:Value}(U:Fr a n L)(hg:o.guard=some (j,b))(hj:ops[j]?=some oj)(hdj:oj.dst=some dj)(hv:lk L dj=some g)
  (hd:o.dst=some d) (hn:Nat.ble (d+1) n=true) (h:dk g b=true→QV P o a w v)
  (next:∀a,Fr a n ((d,gv g b v)::L)→wpList P ops Q rest a w):wpList P ops Q (o::rest) a w:=by
 have hw:=sC U hg hj hdj hv;unfold wpList;rw[hw]
 cases hb:dk g b with
 |true=>
  simp only[if_true];refine .inl (bG.wp (bG.value (h hb) ?_));have:=next _ (U.put (cX hn) (gv g b v));rw[a6 hb] at this;rw[hd];exact this
 |false=>
  have:=next _ (U.put (cX hn) (gv g b v));rw[w8 hb] at this;rw[hd];exact this
def Ss {j:Nat}{b:Bool}{dj:Nat}{oj:Oper}{g:Value}(U:Fr a n L)(hg:o.guard=some (j,b))(hj:ops[j]?=some oj)(hdj:oj.dst=some dj)(hv:lk L dj=some g)
  (hd:o.dst=some d) (hn:Nat.ble (d+1) n=true) (h:dk g b=true→bG P o a w R)
  (next:∀a v w,R v w→dk g b=true→Fr a n ((d,v)::L)→wpList P ops Q rest a w)
  (other:∀a,dk g b=false→Fr a n ((d,undef)::L)→wpList P ops Q rest a w):wpList P ops Q (o::rest) a w:=by
 have hw:=sC U hg hj hdj hv;unfold wpList;rw[hw]
 cases hb:dk g b with
 |true=>
  simp only[if_true];exact .inl (bG.wp ((h hb).mono fun v w' hR=>by rw[hd];exact next _ _ _ hR hb (U.put (cX hn) v)))
 |false=>
  have:=other _ hb (U.put (cX hn) undef);rw[hd];exact this
def k9 (h:Q .normal a w):wpList P ops Q [] a w:=h
end
def cls (S:World→Prop)(k:Nat)(w:World):Prop:=k=0∨S w
def Im (S:World→Prop)(k:Nat)(w:World):Prop:=k=2→S w
section
variable (P:Program) (ops:Array Oper) (ks:List Nat) (S:World→Prop) (K:Act→World→Prop)
def gn (o:Oper)(k:Nat)(next:Act→World→Prop)(a:Act)(w:World):Prop:=
 if Region.wanted o (yielded ops a.tmps) then
  if k≤1 then ∃v,(∀w',cls S k w'→QV P o a w' v)∧next (a.put o.dst v) w
  else bG P o a w (fun u w2=>Im S k w2∧next (a.put o.dst u) w2)
 else next (a.put o.dst undef) w
def dK:List Oper→List Nat→Act→World→Prop
 | [],_,a,w=>K a w
 |o::rest,ks,a,w=>gn P ops S o (ks.headD 0) (dK rest ks.tail) a w
def pc:List Nat→Act→World→Prop
 | [],a,w=>K a w
 |i::rest,a,w=>match ops[i]? with
  |none=>pc rest a w
  |some o=>gn P ops S o (ks.getD i 0) (pc rest) a w
end
section
variable {P:Program} {ops:Array Oper} {ks:List Nat} {S:World→Prop} {K:Act→World→Prop}
def adA (l:List Oper):∀(k:Nat) (kl:List Nat),(∀j,l[j]?=ops[k+j]?)→(∀j,kl.getD j 0=ks.getD (k+j) 0)→pc P ops ks S K (List.range' k l.length)=dK P ops S K l kl:=by
 induction l with
 |nil=>intro k kl _ _;funext a w;simp [pc,dK]
 |cons o l ih=>
  intro k kl h hk;have h0:ops[k]?=some o:=by simpa using (h 0).symm
  have B6:kl.headD 0=ks.getD k 0:=by
   have:=hk 0;cases kl<;>simpa using this
  have ih':=ih (k+1) kl.tail (fun j=>by have:=h (j+1);simpa [Nat.add_assoc,Nat.add_comm 1 j] using this)
   (fun j=>by
     have h1:=hk (j+1)
     rw[show k+1+j=k+(j+1) by omega,←h1]
     cases kl<;>simp)
  funext a w
  simp only[bg,List.range'_succ,pc,h0,dK,ih',B6]
def kB (o:Oper):Bool:=match o.op with| .select ..=>false|_=>true
def Hb {o:Oper}(h:kB o=true):∀cs b,o.op≠.select cs b:=by
 intro cs b e;simp [kB,e] at h
def sT (k1 k2:Nat):Bool:=k1 ==0||k2 ==0||(k1 ==1&&k2≤2)||(k1 ==2&&k2 ==1)
def QV.congr {o:Oper}{a a':Act}{w:World}{v:Value}(h:QV P o a w v)(he:execOp a'.eval o=execOp a.eval o):QV P o a' w v:=by
 unfold QV at *;rw[he];exact h
def ao2 {p i:Oper}{kp ki:Nat}{next:Act→World→Prop}{a:Act}{w:World}(hap:i.apart ops p=true)(hsi:kB i=true)(hsp:kB p=true)
  (hok:sT kp ki=true) (hS:S w∨(kp≠1∧kp≠2∧ki≠1∧ki≠2))
  (h:gn P ops S p kp (gn P ops S i ki next) a w):gn P ops S i ki (gn P ops S p kp next) a w:=by
 obtain⟨h1,h2,h3⟩:=Oper.apart_spec hap;have hi:=Hb hsi;have hp:=Hb hsp;have e1:∀v,execOp (a.put p.dst v).eval i=execOp a.eval i:=fun v=>execOp_put i hi a p.dst v h3;have e2:∀v,execOp (a.put i.dst v).eval p=execOp a.eval p:=fun v=>execOp_put p hp a i.dst v h1;have g1:∀v,Region.wanted i (yielded ops (a.put p.dst v).tmps)=Region.wanted i (yielded ops a.tmps):=fun v=>wanted_put i a p.dst v h3;have g2:∀v,Region.wanted p (yielded ops (a.put i.dst v).tmps)=Region.wanted p (yielded ops a.tmps):=fun v=>wanted_put p a i.dst v h1;have comm:∀u v,(a.put p.dst u).put i.dst v=(a.put i.dst v).put p.dst u:=fun u v=>(Act.put_comm a v u h2).symm;unfold gn at h ⊢
 by_cases hwp:Region.wanted p (yielded ops a.tmps)=true
 ·rw[if_pos hwp] at h
  by_cases hwi:Region.wanted i (yielded ops a.tmps)=true
  ·rw[if_pos hwi]
   by_cases hkp:kp≤1
   ·rw[if_pos hkp] at h;obtain⟨vp,hvp,h⟩:=h;rw[g1,if_pos hwi] at h
    by_cases hki:ki≤1
    ·rw[if_pos hki] at h ⊢;obtain⟨vi,hvi,h⟩:=h;refine⟨vi,fun w' hw'=>(hvi w' hw').congr (e1 vp).symm,?_⟩;rw[g2,if_pos hwp,if_pos hkp];exact⟨vp,fun w' hw'=>(hvp w' hw').congr (e2 vi),by rw[←comm];exact h⟩
    ·rw[if_neg hki] at h ⊢;refine (h.congr (a':=a) (e1 vp).symm).mono fun u w2 hu=>⟨hu.1,?_⟩;rw[g2,if_pos hwp,if_pos hkp];exact⟨vp,fun w' hw'=>(hvp w' hw').congr (e2 u),by rw[←comm];exact hu.2⟩
   ·rw[if_neg hkp] at h;have hki:ki≤1:=by
     simp only[sT,fW,aQ,beq_iff_eq,cx] at hok;omega
    rw[if_pos hki];have hw:∃w',cls S ki w':=by
     rcases hS with hS|hS
     ·exact⟨w,.inr hS⟩
     ·exact⟨w,.inl V⟩
    obtain⟨u0,Z,xq⟩:=h.some_;obtain⟨_,h0⟩:=xq;rw[g1,if_pos hwi,if_pos hki] at h0;obtain⟨v0,ER,_⟩:=h0;refine⟨v0,fun w' hw'=>(ER w' hw').congr (e1 u0).symm,?_⟩;rw[g2,if_pos hwp,if_neg hkp];refine (h.congr (a':=a.put i.dst v0) (e2 v0)).mono fun u w2 hu=>⟨hu.1,?_⟩;have Fe:=hu.2;rw[g1,if_pos hwi,if_pos hki] at Fe;obtain⟨v,hv,hn⟩:=Fe;obtain⟨w',hw'⟩:=hw;have a1:=(hv w' hw').congr (e1 u).symm;have a2:=(ER w' hw').congr (e1 u0).symm;have:v=v0:=by
     unfold QV at a1 a2;rw[a1] at a2;injection a2 with a2;injection a2
    subst this;rw[←comm];exact hn
  ·rw[if_neg hwi];rw[g2,if_pos hwp]
   by_cases hkp:kp≤1
   ·rw[if_pos hkp] at h ⊢;obtain⟨vp,hvp,h⟩:=h;rw[g1,if_neg hwi] at h;exact⟨vp,fun w' hw'=>(hvp w' hw').congr (e2 _),by rw[←comm];exact h⟩
   ·rw[if_neg hkp] at h ⊢;refine (h.congr (a':=a.put i.dst undef) (e2 _)).mono fun u w2 hu=>⟨hu.1,?_⟩;have:=hu.2;rw[g1,if_neg hwi] at this;rw[←comm];exact this
 ·rw[if_neg hwp] at h;rw[g1] at h
  by_cases hwi:Region.wanted i (yielded ops a.tmps)=true
  ·rw[if_pos hwi] at h ⊢
   by_cases hki:ki≤1
   ·rw[if_pos hki] at h ⊢;obtain⟨vi,hvi,h⟩:=h;refine⟨vi,fun w' hw'=>(hvi w' hw').congr (e1 _).symm,?_⟩;rw[g2,if_neg hwp,←comm];exact h
   ·rw[if_neg hki] at h ⊢;refine (h.congr (a':=a) (e1 _).symm).mono fun u w2 hu=>⟨hu.1,?_⟩;rw[g2,if_neg hwp,←comm];exact hu.2
  ·rw[if_neg hwi] at h ⊢;rw[g2,if_neg hwp,←comm];exact h
def reach (ops:Array Oper):Nat→Nat→Nat→Bool
 |0,_,_=>false
 |n+1,i,j=>match ops[j]? with
  |none=>false
  |some o=>o.after.any fun e=>Region.binds .any e&&(e.on ==i||reach ops n i e.on)
def Fm (ops:Array Oper)(listed:Array Bool):Prop:=
 ∀j o,ops[j]?=some o→listed.getD j false=true→∀e∈o.after,Region.binds .any e=true→listed.getD e.on false=true
def apQ {listed:Array Bool}(hc:Fm ops listed):∀(n i j:Nat),reach ops n i j=true→listed.getD j false=true→listed.getD i false=true:=by
 intro n
 induction n with
 |zero=>intro i j h;simp [reach] at h
 |succ n ih=>
  intro i j h hj;unfold reach at h
  split at h
  ·cases h
  ·rename_i o ho;obtain⟨e,he,hb⟩:=Array.any_eq_true'.1 h;simp only[aQ,fW,beq_iff_eq] at hb;have hl:=hc j o ho hj e he hb.1;rcases hb.2 with h1|h1
   ·rw[←h1];exact hl
   ·exact ih i e.on h1 hl
def YW {listed:Array Bool}(hc:Fm ops listed){n i j:Nat}(hj:j∈Region.ready .any ops listed)(h:reach ops n i j=true):listed.getD i false=true:=by
 obtain⟨_,o,ho,hall⟩:=mem_ready.1 hj
 cases n with
 |zero=>simp [reach] at h
 |succ n=>
  simp only[reach,ho] at h;obtain⟨e,he,hb⟩:=Array.any_eq_true'.1 h;simp only[aQ,fW,beq_iff_eq] at hb;have hl:=hall e he hb.1;rcases hb.2 with h1|h1
  ·rw[←h1];exact hl
  ·exact apQ hc n i e.on h1 hl
def IC (ops:Array Oper)(ks:List Nat)(p i:Nat):Bool:=
 reach ops ops.size p i||(match ops[p]?,ops[i]? with
   |some op,some oi=>oi.apart ops op&&sT (ks.getD p 0) (ks.getD i 0)&&(ks.getD p 0 != 3||ks.getD i 0 ==0||ks.getD i 0 ==3)
   |_,_=>false)
def zG (ops:Array Oper)(ks:List Nat):Bool:=
 (List.range ops.size).all fun i=>
  (match ops[i]? with
    |some o=>kB o&&(o.after.all fun e=>!Region.binds .any e||decide (e.on<i))&&decide (ks.getD i 0≤3)
    |none=>false)&&
  (List.range i).all fun p=>IC ops ks p i&&(ks.getD p 0 != 3||ks.getD i 0 ==0||ks.getD i 0 ==3)
def JE {p i:Nat}(h:zG ops ks=true)(hi:i<ops.size)(hp:p<i):IC ops ks p i=true∧(ks.getD p 0=3→ks.getD i 0=0∨ks.getD i 0=3):=by
 have h1:=List.all_eq_true.1 h i (List.mem_range.2 hi);simp only[aQ] at h1;have h2:=List.all_eq_true.1 h1.2 p (List.mem_range.2 hp);simp only[aQ,fW,bne_iff_ne,beq_iff_eq] at h2;exact⟨h2.1,fun h3=>by rcases h2.2 with (h4|h4)|h4<;>first|exact absurd h3 h4|exact .inl h4|exact .inr h4⟩
def CA {i:Nat}{o:Oper}(h:zG ops ks=true)(ho:ops[i]?=some o):kB o=true∧(∀e∈o.after,Region.binds .any e=true→e.on<i)∧ks.getD i 0≤3:=by
 have hi:i<ops.size:=(Array.getElem?_eq_some_iff.1 ho).1;have h1:=List.all_eq_true.1 h i (List.mem_range.2 hi);simp only[aQ,ho,cx] at h1;refine⟨h1.1.1.1,fun e he hb=>?_,h1.1.2⟩;have h2:=Array.all_eq_true'.1 h1.1.1.2 e he
 simpa [hb] using h2
def rem (ops:Array Oper)(listed:Array Bool):List Nat:=(List.range ops.size).filter fun i=>!listed.getD i true
def xp {listed:Array Bool}{i:Nat}:i∈rem ops listed↔i<ops.size∧listed.getD i true=false:=by
 unfold rem;simp [List.mem_filter]
def K6 (listed:Array Bool):(rem ops listed).Pairwise (· < ·):=(List.pairwise_lt_range).filter _
def front {i:Nat}{oi:Oper}(hoi:ops[i]?=some oi)(hsi:kB oi=true):
  ∀(pre post:List Nat) (a:Act) (w:World),
   (∀p∈pre,∃op,ops[p]?=some op∧kB op=true∧oi.apart ops op=true∧sT (ks.getD p 0) (ks.getD i 0)=true∧ks.getD p 0≤3)→
   pre.Pairwise (fun p q=>ks.getD p 0=3→ks.getD q 0=0∨ks.getD q 0=3)→
   (S w∨∀p∈i::pre,ks.getD p 0≠1∧ks.getD p 0≠2)→
   pc P ops ks S K (pre++i::post) a w→gn P ops S oi (ks.getD i 0) (pc P ops ks S K (pre++post)) a w:=by
 intro pre
 induction pre with
 |nil=>intro post a w _ _ _ h;simpa [pc,hoi] using h
 |cons p pre ih=>
  intro post a w hpre h3 hS h;obtain⟨op,hop,hsp,hap,hok,wu⟩:=hpre p aw;obtain⟨h3p,h3'⟩:=List.pairwise_cons.1 h3;have e:pc P ops ks S K (p::pre++post)=gn P ops S op (ks.getD p 0) (pc P ops ks S K (pre++post)):=by
   funext a w
   simp [pc,hop]
  rw[e];have h':gn P ops S op (ks.getD p 0) (pc P ops ks S K (pre++i::post)) a w:=by simpa [pc,hop] using h
  refine ao2 hap hsi hsp hok (hS.imp id fun hS=>?_) ?_
  ·have h1:=hS p aw;have h2:=hS i aw;exact⟨h1.1,h1.2,h2.1,h2.2⟩
  ·
   unfold gn at h' ⊢;have hpre':∀q∈pre,∃op,ops[q]?=some op∧kB op=true∧oi.apart ops op=true∧sT (ks.getD q 0) (ks.getD i 0)=true∧ks.getD q 0≤3:=fun q hq=>hpre q (by simp [hq]);have hS':∀w,(S w∨∀q∈i::p::pre,ks.getD q 0≠1∧ks.getD q 0≠2)→(S w∨∀q∈i::pre,ks.getD q 0≠1∧ks.getD q 0≠2):=fun w hw=>hw.imp id fun h q hq=>h q (by rcases List.mem_cons.1 hq with rfl|hq<;>simp [*])
   by_cases hwp:Region.wanted op (yielded ops a.tmps)=true
   ·rw[if_pos hwp] at h' ⊢
    by_cases hkp:ks.getD p 0≤1
    ·rw[if_pos hkp] at h' ⊢;obtain⟨v,hv,h'⟩:=h';exact⟨v,hv,ih post _ w hpre' h3' (hS' w hS) h'⟩
    ·rw[if_neg hkp] at h' ⊢;refine h'.mono fun u w2 hu=>⟨hu.1,ih post _ w2 hpre' h3' ?_ hu.2⟩
     by_cases fL:ks.getD p 0=2
     ·exact .inl (hu.1 fL)
     ·right;intro q hq;simp only[sT,fW,aQ,beq_iff_eq,cx] at hok;have aY:ks.getD i 0=0:=V
      rcases List.mem_cons.1 hq with rfl|hq
      ·omega
      ·have:=h3p q hq V;omega
   ·rw[if_neg hwp] at h' ⊢;exact ih post _ w hpre' h3' (hS' w hS) h'
def abA {i:Nat}{o:Oper}(ho:ops[i]?=some o){k:Nat}{next N:Act→World→Prop}{Q:Exit→Act→World→Prop}{a:Act}{w:World}(hS:S w∨(k≠1∧k≠2))
  (hN:∀a' w',(S w'∨(¬S w∧w'=w)∨(k≠0∧k≠1∧k≠2))→next a' w'→N a' w') (h:gn P ops S o k next a w):wpOp P ops Q i N a w:=by
 have hself:S w∨(¬S w∧w=w)∨(k≠0∧k≠1∧k≠2):=by
  by_cases hs:S w
  ·exact .inl hs
  ·exact .inr (.inl ⟨hs,rfl⟩)
 unfold gn at h;unfold wpOp;simp only[ho]
 by_cases hw:Region.wanted o (yielded ops a.tmps)=true
 ·rw[if_pos hw] at h ⊢
  by_cases hk:k≤1
  ·rw[if_pos hk] at h;obtain⟨v,hv,hn⟩:=h;refine .inl (bG.wp ?_);have hc:cls S k w:=by
    rcases hS with hS|hS
    ·exact .inr hS
    ·exact .inl V
   exact bG.value (hv w hc) (hN _ _ hself hn)
  ·rw[if_neg hk] at h;refine .inl (bG.wp (h.mono fun u w2 hu=>hN _ _ ?_ hu.2))
   by_cases fL:k=2
   ·exact .inl (hu.1 fL)
   ·exact .inr (.inr ⟨V,V,fL⟩)
 ·rw[if_neg hw] at h ⊢;exact hN _ _ hself h
def arE {listed:Array Bool}{i:Nat}{pre post:List Nat}(hl:listed.size=ops.size)(h:rem ops listed=pre++i::post):rem ops (listed.setIfInBounds i true)=pre++post:=by
 have hi:i∈rem ops listed:=by rw[h];simp
 have hs:=K6 (ops:=ops) listed;rw[h] at hs;have hlt:=(xp.1 hi).1;have e:rem ops (listed.setIfInBounds i true)=(rem ops listed).filter (fun j=>j != i):=by
  unfold rem;rw[List.filter_filter];refine List.filter_congr fun j hj=>?_
  by_cases hij:i=j
  ·subst hij;simp [hl,hlt]
  ·have:(listed.setIfInBounds i true).getD j true=listed.getD j true:=getD_set_ne true hij;rw[this];have:(j != i)=true:=by simp;exact fun h=>hij h.symm
   simp [this]
 rw[e,h];rw[List.pairwise_append] at hs;obtain⟨_,h2,h3⟩:=hs;rw[List.filter_append,List.filter_cons];simp only[bne_self_eq_false,Bool.false_eq_true,if_false];rw[List.filter_eq_self.2,List.filter_eq_self.2]
 ·intro j hj;have:=(List.pairwise_cons.1 h2).1 j hj;simp;omega
 ·intro j hj;have:=h3 j hj i aw;simp;omega
def ajH {Q:Exit→Act→World→Prop}(hlook:zG ops ks=true)(J:∀a w,K a w→Q .normal a w):
  ∀(fuel:Nat) (listed:Array Bool) (a:Act) (w:World),(rem ops listed).length≤fuel→listed.size=ops.size→Fm ops listed→
   (S w∨∀p∈rem ops listed,ks.getD p 0=0∨ks.getD p 0=3)→pc P ops ks S K (rem ops listed) a w→wpAny P .any ops Q fuel listed a w:=by
 have none_left:∀(listed:Array Bool),listed.size=ops.size→Region.ready .any ops listed=[]→rem ops listed=[]:=by
  intro listed hl hr
  cases hrem:rem ops listed with
  |nil=>rfl
  |cons i r=>
   exfalso;have hi:i∈rem ops listed:=by rw[hrem];simp
   obtain⟨hlt,hun⟩:=xp.1 hi;have ho:ops[i]?=some ops[i]:=Array.getElem?_eq_getElem hlt;have hin:i∈Region.ready .any ops listed:=by
    refine mem_ready.2 ⟨hun,ops[i],ho,fun e he hb=>?_⟩;have hei:=(CA hlook ho).2.1 e he hb;have hsorted:=K6 (ops:=ops) listed;rw[hrem] at hsorted;have hnot:e.on∉rem ops listed:=by
     rw[hrem];intro hm;rcases List.mem_cons.1 hm with h|h
     ·omega
     ·have:=(List.pairwise_cons.1 hsorted).1 _ h;omega
    have hes:e.on<listed.size:=V
    cases hv:listed.getD e.on true with
    |false=>exact absurd (xp.2 ⟨V,hv⟩) hnot
    |true=>simpa [hes] using hv
   rw[hr] at hin;cases hin
 intro fuel
 induction fuel with
 |zero=>
  intro listed a w hf hl hc hS h;have hrem:rem ops listed=[]:=kj V;refine⟨?_,J _ _ (by rw[hrem] at h;exact h)⟩
  cases hr:Region.ready .any ops listed with
  |nil=>rfl
  |cons i r=>
   have hi:i∈Region.ready .any ops listed:=by rw[hr];simp
   obtain⟨hun,o,ho,_⟩:=mem_ready.1 hi;have:i∈rem ops listed:=xp.2 ⟨(Array.getElem?_eq_some_iff.1 ho).1,hun⟩;rw[hrem] at this;cases this
 |succ fuel ih=>
  intro listed a w hf hl hc hS h;refine⟨fun hr=>J _ _ (by rw[none_left listed hl hr] at h;exact h),fun i hi=>?_⟩;obtain⟨hun,oi,hoi,hall⟩:=mem_ready.1 hi;have hlt:i<ops.size:=(Array.getElem?_eq_some_iff.1 hoi).1;have him:i∈rem ops listed:=xp.2 ⟨hlt,hun⟩;obtain⟨pre,post,hsplit⟩:=List.append_of_mem him;have hsorted:=K6 (ops:=ops) listed;rw[hsplit] at hsorted;have hpw:=hsorted;rw[List.pairwise_append] at hsorted;obtain⟨Jm,ke,u9⟩:=hsorted;have hpre:∀p∈pre,∃op,ops[p]?=some op∧kB op=true∧oi.apart ops op=true∧sT (ks.getD p 0) (ks.getD i 0)=true∧ks.getD p 0≤3:=by
   intro p hp;have hpi:p<i:=u9 p hp i aw;have hpm:p∈rem ops listed:=by rw[hsplit];simp [hp]
   have hpu:=(xp.1 hpm).2;have hop:ops[p]?=some ops[p]:=Array.getElem?_eq_getElem V;have hpair:=(JE hlook hlt hpi).1;unfold IC at hpair;simp only[fW] at hpair;rcases hpair with hre|hpair
   ·have:=YW hc hi hre;have hps:p<listed.size:=V
    simp [hps] at this hpu;rw[this] at hpu;cases hpu
   ·simp only[hop,hoi,aQ] at hpair;exact⟨ops[p],hop,(CA hlook hop).1,hpair.1.1,hpair.1.2,(CA hlook hop).2.2⟩
  have h3:pre.Pairwise (fun p q=>ks.getD p 0=3→ks.getD q 0=0∨ks.getD q 0=3):=by
   refine List.Pairwise.imp_of_mem ?_ Jm;intro p q hp hq hpq h3;have hqm:q∈rem ops listed:=by rw[hsplit];simp [hq]
   exact (JE hlook (xp.1 hqm).1 hpq).2 h3
  have hfront:=front (P:=P) (K:=K) (S:=S) (ks:=ks) hoi (CA hlook hoi).1 pre post a w hpre h3
   (hS.imp id fun hS p hp=>by
     have hpm:p∈rem ops listed:=by rw[hsplit];rcases List.mem_cons.1 hp with rfl|hp<;>simp [*]
     have:=hS p hpm
     omega) (by rw[←hsplit];exact h)
  have hset:=arE hl hsplit;refine abA hoi (hS.imp id fun hS=>by have:=hS i him;omega) (fun a' w' hw' hn=>?_) hfront;refine ih _ a' w' ?_ (by simp [hl]) ?_ ?_ (by rw[hset];exact hn)
  ·rw[hset];rw[hsplit] at hf;simp only[bt,bg] at hf ⊢;omega
  ·intro j o hj hlj e he hb
   by_cases hij:i=j
   ·subst hij;have:o=oi:=Option.some.inj (hj.symm.trans hoi);subst this;exact getD_set_true (hall e he hb)
   ·rw[getD_set_ne false hij] at hlj;exact getD_set_true (hc j o hj hlj e he hb)
  ·rw[hset];rcases hw' with hw'| ⟨hns,rfl⟩|hk
   ·exact .inl hw'
   ·rcases hS with hS|hS
    ·exact absurd hS hns
    ·exact .inr fun p hp=>hS p (by rw[hsplit];rcases List.mem_append.1 hp with h|h<;>simp [h])
   ·
    have wu:ks.getD i 0=3:=by have:=(CA hlook hoi).2.2;omega
    refine .inr fun p hp=>?_;rcases List.mem_append.1 hp with hp|hp
    ·obtain⟨op,_,_,_,hok,_⟩:=hpre p hp;simp only[sT,fW,aQ,beq_iff_eq,cx] at hok;omega
    ·have hpi:=(List.pairwise_cons.1 ke).1 p hp;have hpm:p∈rem ops listed:=by rw[hsplit];simp [hp]
     exact (JE hlook (xp.1 hpm).1 hpi).2 wu
def RD {id:Nat}{l:List Oper}{Q:Exit→Act→World→Prop}{a:Act}{w:World}(ks:List Nat)(S:World→Prop)(hm:P.follows .mixedOrders=true)(hlook:zG l.toArray ks=true)
  (hS:S w.drew) (h:dK P l.toArray S (Q .normal) l ks a w.drew):(Code.region id l.toArray true).wp P Q a w:=by
 refine wp_region_any hm ?_;have e0:rem l.toArray (Array.replicate l.toArray.size false)=List.range' 0 l.length:=by
  unfold rem;rw[List.range_eq_range',List.filter_eq_self.2]
  ·simp
  ·intro i hi;have:i<l.length:=by simpa using hi
   simp [this]
 refine ajH (ks:=ks) (S:=S) (K:=Q .normal) hlook (fun _ _ h=>h) _ _ _ _ ?_ aw ?_ (.inl hS) ?_
 ·rw[e0];simp
 ·intro j o hj hl;simp at hl;have:j<l.length:=by simpa using (Array.getElem?_eq_some_iff.1 hj).1
  simp [this] at hl
 ·rw[e0,adA (ks:=ks) l 0 ks (fun j=>aw) (fun j=>aw)];exact h
section
variable {P:Program} {ops:Array Oper} {S:World→Prop} {K:Act→World→Prop} {a:Act} {w:World} {rest:List Oper} {ks:List Nat} {o:Oper} {n d:Nat} {L:List (Nat×Value)} {v:Value} {R:Value→World→Prop}
def CJ {k:Nat}{next:Act→World→Prop}(hg:o.guard=none):
  gn P ops S o k next a w=if k≤1 then ∃v,(∀w',cls S k w'→QV P o a w' v)∧next (a.put o.dst v) w else bG P o a w (fun u w2=>Im S k w2∧next (a.put o.dst u) w2):=by
 unfold gn;rw[if_pos (by simp [Region.wanted,hg])]
def tW (U:Fr a n L)(hg:o.guard=none)(hd:o.dst=some d)(hn:Nat.ble (d+1) n=true)(h:∀w,QV P o a w v)
  (next:∀a,Fr a n ((d,v)::L)→dK P ops S K rest ks a w):dK P ops S K (o::rest) (0::ks) a w:=by
 show gn P ops S o 0 (dK P ops S K rest ks) a w;rw[CJ hg,if_pos V];exact⟨v,fun w' _=>h w',by rw[hd];exact next _ (U.put (cX hn) v)⟩
def BD (U:Fr a n L)(hg:o.guard=none)(hd:o.dst=some d)(hn:Nat.ble (d+1) n=true)(h:∀w,S w→QV P o a w v)
  (next:∀a,Fr a n ((d,v)::L)→dK P ops S K rest ks a w):dK P ops S K (o::rest) (1::ks) a w:=by
 show gn P ops S o 1 (dK P ops S K rest ks) a w;rw[CJ hg,if_pos V];exact⟨v,fun w' hc=>h w' (hc.resolve_left V),by rw[hd];exact next _ (U.put (cX hn) v)⟩
def ae7 (U:Fr a n L)(hg:o.guard=none)(hd:o.dst=some d)(hn:Nat.ble (d+1) n=true)(h:bG P o a w R)(hS:∀v w',R v w'→S w')
  (next:∀a v w,R v w→Fr a n ((d,v)::L)→dK P ops S K rest ks a w):dK P ops S K (o::rest) (2::ks) a w:=by
 show gn P ops S o 2 (dK P ops S K rest ks) a w;rw[CJ hg,if_neg V];exact h.mono fun v w' hR=>⟨fun _=>hS _ _ hR,by rw[hd];exact next _ _ _ hR (U.put (cX hn) v)⟩
def Dh (U:Fr a n L)(hg:o.guard=none)(hd:o.dst=some d)(hn:Nat.ble (d+1) n=true)(h:bG P o a w R)
  (next:∀a v w,R v w→Fr a n ((d,v)::L)→dK P ops S K rest ks a w):dK P ops S K (o::rest) (3::ks) a w:=by
 show gn P ops S o 3 (dK P ops S K rest ks) a w;rw[CJ hg,if_neg V];exact h.mono fun v w' hR=>⟨fun h=>V,by rw[hd];exact next _ _ _ hR (U.put (cX hn) v)⟩
def S0 (U:Fr a n L)(hg:o.guard=none)(hd:o.dst=none)(h:bG P o a w R)
  (next:∀a v w,R v w→Fr a n L→dK P ops S K rest ks a w):dK P ops S K (o::rest) (3::ks) a w:=by
 show gn P ops S o 3 (dK P ops S K rest ks) a w;rw[CJ hg,if_neg V];exact h.mono fun v w' hR=>⟨fun h=>V,by rw[hd];exact next _ _ _ hR (U.Gn v)⟩
def zq {j:Nat}{b:Bool}{dj:Nat}{oj:Oper}{g:Value}(U:Fr a n L)(hg:o.guard=some (j,b))(hj:ops[j]?=some oj)(hdj:oj.dst=some dj)(hv:lk L dj=some g)
  (hd:o.dst=some d) (hn:Nat.ble (d+1) n=true) (h:dk g b=true→∀w,QV P o a w v)
  (next:∀a,Fr a n ((d,gv g b v)::L)→dK P ops S K rest ks a w):dK P ops S K (o::rest) (0::ks) a w:=by
 show gn P ops S o 0 (dK P ops S K rest ks) a w;have hw:=sC U hg hj hdj hv;have hnext:=next _ (U.put (cX hn) (gv g b v));unfold gn;rw[hw]
 cases hb:dk g b with
 |true=>
  rw[a6 hb] at hnext;simp only[if_true];rw[if_pos V];exact⟨v,fun w' _=>h hb w',by rw[hd];exact hnext⟩
 |false=>
  rw[w8 hb] at hnext;rw[hd];exact hnext
def Cb {j:Nat}{b:Bool}{dj:Nat}{oj:Oper}{g:Value}(U:Fr a n L)(hg:o.guard=some (j,b))(hj:ops[j]?=some oj)(hdj:oj.dst=some dj)(hv:lk L dj=some g)
  (hd:o.dst=some d) (hn:Nat.ble (d+1) n=true) (h:dk g b=true→∀w,S w→QV P o a w v)
  (next:∀a,Fr a n ((d,gv g b v)::L)→dK P ops S K rest ks a w):dK P ops S K (o::rest) (1::ks) a w:=by
 show gn P ops S o 1 (dK P ops S K rest ks) a w;have hw:=sC U hg hj hdj hv;have hnext:=next _ (U.put (cX hn) (gv g b v));unfold gn;rw[hw]
 cases hb:dk g b with
 |true=>
  rw[a6 hb] at hnext;simp only[if_true];rw[if_pos V];exact⟨v,fun w' hc=>h hb w' (hc.resolve_left V),by rw[hd];exact hnext⟩
 |false=>
  rw[w8 hb] at hnext;rw[hd];exact hnext
def My (h:K a w):dK P ops S K [] ks a w:=h
end
end
inductive an where
 |ob (b:Nat) (t:TypeId) (cs:List Value)
 |sl (v:Value) (e size n:Nat) (xs:List Value)
 |mp (b:Nat) (o:Obj)
 |gp (bs:List Nat) (ok:World→Prop) (st:∀w w',ok w→(∀b∈bs,w'.heap[b]?=w.heap[b]?)→ok w') (lt:∀w,ok w→∀b∈bs,b<w.heap.size)
def an.kD:an→Option Nat
 | .ob b _ _=>some b
 | .sl v _ _ _ _=>v.ownBlock
 | .mp b _=>some b
 | .gp _ _ _ _=>none
def an.bs:an→List Nat
 | .ob b _ _=>[b]
 | .sl v _ _ _ _=>v.ownBlock.toList
 | .mp b _=>[b]
 | .gp bs _ _ _=>bs
def an.single:an→Bool
 | .gp _ _ _ _=>false
 |_=>true
def an.OD {e:an}(h:e.single=true):e.bs=e.kD.toList:=by cases e<;>first|rfl|cases h
def an.Gs {e:an}{b:Nat}(h:e.kD=some b):b∈e.bs:=by
 cases e with
 |gp bs ok st lt=>cases h
 |ob b' t cs=>cases h;exact List.mem_singleton.2 rfl
 |mp b' o=>cases h;exact List.mem_singleton.2 rfl
 |sl v e size n xs=>exact Option.mem_toList.2 h
def an.ok (w:World):an→Prop
 | .ob b t cs=>w.heap[b]?=some (.cells cs.toArray t (0,0))
 | .sl v e size n xs=>w.ownsRow 0 e size v n xs
 | .mp b o=>w.heap[b]?=some o
 | .gp _ ok _ _=>ok w
def az (L:List an):List Nat:=L.flatMap an.bs
def an.Gy {w w':World}{e:an}(h:e.ok w)(hk:∀b,b∈e.bs→w'.heap[b]?=w.heap[b]?):e.ok w':=by
 cases e with
 |ob b t cs=>exact (hk b (List.mem_singleton.2 rfl)).trans h
 |mp b o=>exact (hk b (List.mem_singleton.2 rfl)).trans h
 |gp bs ok st lt=>exact st w w' h hk
 |sl v e size n xs=>
  refine⟨h.1,?_⟩;rcases h.2 with hn| ⟨g,cap,cur,rfl,hb,hg,rest⟩
  ·exact .inl hn
  ·exact .inr ⟨g,cap,cur,rfl,hb,(hk g (Option.mem_toList.2 rfl)).trans hg,rest⟩
def an.Az {w:World}{e:an}(h:e.ok w){b:Nat}(hb:b∈e.bs):b<w.heap.size:=by
 have lt:∀{b:Nat} {o:Obj},w.heap[b]?=some o→b<w.heap.size:=fun h=>(Array.getElem?_eq_some_iff.1 h).1
 cases e with
 |ob b' t cs=>obtain rfl:=List.mem_singleton.1 hb;exact lt h
 |mp b' o=>obtain rfl:=List.mem_singleton.1 hb;exact lt h
 |gp bs ok st l=>exact l w h b hb
 |sl v e size n xs=>exact (World.ownsRow.lt h b (Option.mem_toList.1 hb)).2
def an.arU {w:World}{e:an}(h:e.ok w){b:Nat}(hb:e.kD=some b):b<w.heap.size:=an.Az h (an.Gs hb)
structure bT (w:World)(L:List an):Prop where
 own:∀e∈L,e.ok w
 nodup:(az L).Nodup
structure St (Z:World)(M:List Nat)(w:World)(L:List an):Prop where
 os:w.os=Z.os
 tape:w.tape=Z.tape
 output:w.output=Z.output
 le:Z.heap.size≤w.heap.size
 iN:∀b,b<Z.heap.size→b∉M→w.heap[b]?=Z.heap[b]?
 own:∀e∈L,e.ok w
 nodup:(az L).Nodup
 src:∀b∈az L,b∈M∨Z.heap.size≤b
def wy {L:List an}{b:Nat}:b∈az L↔∃e∈L,b∈e.bs:=by simp [az]
def anx {L:List an}{b:Nat}(h:∃e∈L,e.kD=some b):b∈az L:=by
 obtain⟨e,he,hb⟩:=h;exact wy.2 ⟨e,he,an.Gs hb⟩
def Tm {L' L:List an}(h:L'.Sublist L):(az L').Sublist (az L):=by
 induction h with
 |slnil=>exact List.Sublist.refl _
 |cons a _ ih=>exact ih.trans (by simp [az])
 |cons_cons a _ ih=>simpa [az] using ih
def mh (e:an)(L:List an):az (e::L)=e.bs++az L:=by simp [az]
section
variable {Z w w':World} {M:List Nat} {L:List an}
def St.init (h:bT w L):St w (az L) w L:=
 ⟨rfl,rfl,rfl,bQ _,fun _ _ _=>rfl,h.own,h.nodup,fun _ hb=>.inl hb⟩
def St.owns (h:St Z M w L):bT w L:=⟨h.own,h.nodup⟩
def St.lt (h:St Z M w L){b:Nat}(hb:b∈az L):b<w.heap.size:=by
 obtain⟨e,he,hb⟩:=wy.1 hb;exact an.Az (h.own e he) hb
def St.step (h:St Z M w L)(hos:w'.os=w.os)(ht:w'.tape=w.tape)(ho:w'.output=w.output)(hle:w.heap.size≤w'.heap.size)
  (hk:∀b,b<w.heap.size→(b∈az L∨(b<Z.heap.size∧b∉M))→w'.heap[b]?=w.heap[b]?):St Z M w' L:=
 ⟨hos.trans h.os,ht.trans h.tape,ho.trans h.output,Nat.le_trans h.le hle,fun b hb hm=>(hk b (Nat.lt_of_lt_of_le hb h.le) (.inr ⟨hb,hm⟩)).trans (h.iN b hb hm),
   fun e he=>an.Gy (h.own e he) fun b hb=>hk b (an.Az (h.own e he) hb) (.inl (wy.2 ⟨e,he,hb⟩)),h.nodup,h.src⟩
def St.eq {L':List an}(h:St Z M w L)(e:L=L'):St Z M w L':=e▸h
def St.drew (h:St Z M w L):St Z M w.drew L:=h.step rfl rfl rfl (bQ _) fun _ _ _=>rfl
def St.perm {L':List an}(h:St Z M w L)(hp:L'.Perm L):St Z M w L':=
 ⟨h.os,h.tape,h.output,h.le,h.iN,fun e he=>h.own e (hp.mem_iff.1 he),(hp.flatMap_right _).nodup_iff.2 h.nodup,fun b hb=>h.src b ((hp.flatMap_right _).mem_iff.1 hb)⟩
def St.less {L':List an}(h:St Z M w L)(hp:L'.Sublist L):St Z M w L':=
 ⟨h.os,h.tape,h.output,h.le,h.iN,fun e he=>h.own e (hp.subset he),(Tm hp).nodup h.nodup,fun b hb=>h.src b ((Tm hp).subset hb)⟩
def KT:∀(L:List an) (i:Nat) (e:an),L[i]?=some e→(e::L.eraseIdx i).Perm L
 | [],_,_,h=>by simp at h
 |x::L,0,e,h=>by
  simp at h;subst h;simp
 |x::L,i+1,e,h=>by
  have:=KT L i e (by simpa using h);simp only[List.eraseIdx_cons_succ];exact (List.Perm.swap x e _).trans (this.cons x)
def St.pull (h:St Z M w L)(i:Nat){e:an}(hi:L[i]?=some e):St Z M w (e::L.eraseIdx i):=by
 exact h.perm (KT L i e hi)
def St.wT (h:St Z M w L)(i:Nat):St Z M w (L.eraseIdx i):=h.less (List.eraseIdx_sublist L i)
def St.tail {e:an}(h:St Z M w (e::L)):St Z M w L:=h.less (List.sublist_cons_self e L)
def St.back {A B:List an}(h:St Z M w (A++B)):St Z M w B:=h.less (List.sublist_append_right A B)
def St.front {A B:List an}(h:St Z M w (A++B)):St Z M w A:=h.less (List.sublist_append_left A B)
def St.only {e:an}{B:List an}(h:St Z M w (e::B)):St Z M w [e]:=St.front (A:=[e]) h
def St.ok (h:St Z M w L){i:Nat}{e:an}(hi:L[i]?=some e):e.ok w:=h.own e (bV hi)
def St.new (h:St Z M w L)(o:Obj){e:an}(hb:e.kD=some w.heap.size)(he:e.ok (w.alloc o))(h1:e.single=true:=by rfl):St Z M (w.alloc o) (e::L):=by
 have hbs:e.bs=[w.heap.size]:=by rw[an.OD h1,hb];rfl
 have hs:St Z M (w.alloc o) L:=h.step rfl rfl rfl aw fun b hb _=>heap_alloc_old w o hb;refine⟨hs.os,hs.tape,hs.output,hs.le,hs.iN,fun x hx=>?_,?_,fun b hx=>?_⟩
 ·rcases List.mem_cons.1 hx with rfl|hx
  ·exact he
  ·exact hs.own x hx
 ·rw[mh,hbs];refine List.nodup_cons.2 ⟨fun hm=>?_,h.nodup⟩;exact absurd (h.lt hm) (Nat.lt_irrefl _)
 ·rw[mh,hbs] at hx;rcases List.mem_cons.1 hx with rfl|hx
  ·exact .inr h.le
  ·exact h.src b hx
def St.Wt (h:St Z M w L)(t:TypeId)(cs:List Value):St Z M (w.alloc (.cells cs.toArray t)) (.ob w.heap.size t cs::L):=h.new _ rfl (heap_alloc_new w _)
def St.aq8 (h:St Z M w L)(o:Obj):St Z M (w.alloc o) (.mp w.heap.size o::L):=h.new o rfl (heap_alloc_new w o)
def St.ak4 (h:St Z M w L)(t:TypeId)(size n:Nat)(cs:List Value)(hn:cs.length=n * size)(hm:n≤maxLen):
  St Z M (w.alloc (.cells cs.toArray t)) (.sl (.slice (some ⟨w.heap.size,0,none⟩) n n) t size n cs::L):=
 h.new _ rfl ⟨hn,.inr ⟨w.heap.size,n,cs.toArray,rfl,dN _,heap_alloc_new w _,bQ _,hm,by simp [hn],by rw[←hn];simp⟩⟩
def St.eI (h:St Z M w L)(t:TypeId)(size:Nat):St Z M w (.sl (.slice none 0 0) t size 0 []::L):=by
 have hb:az (.sl (.slice none 0 0) t size 0 []::L)=az L:=rfl;refine⟨h.os,h.tape,h.output,h.le,h.iN,fun x hx=>?_,hb.symm▸h.nodup,fun b hx=>h.src b (hb▸hx)⟩;rcases List.mem_cons.1 hx with rfl|hx
 ·exact World.ownsRow_nil w 0 t size
 ·exact h.own x hx
def St.turns {e e':an}(h:St Z M w (e::L))(hos:w'.os=w.os)(ht:w'.tape=w.tape)(ho:w'.output=w.output)(hle:w.heap.size≤w'.heap.size)
  (hk:∀b,b<w.heap.size→b∉e.bs→w'.heap[b]?=w.heap[b]?) (he:e'.ok w') (hn:e'.bs.Nodup) (hb:∀b∈e'.bs,b∈e.bs∨w.heap.size≤b):St Z M w' (e'::L):=by
 have hN:=h.nodup;rw[mh,List.nodup_append] at hN;have hdis:∀b,b∈e.bs→b∉az L:=fun b hb hm=>hN.2.2 b hb b hm rfl;have hold:∀b,b∈e.bs→b∈M∨Z.heap.size≤b:=fun b hb=>h.src b (by rw[mh];exact List.mem_append_left _ hb);have ht':=h.tail;have hs:St Z M w' L:=ht'.step hos ht ho hle fun b hlt hb'=>hk b hlt fun hbe=>by
  rcases hb' with hb'| ⟨h1,h2⟩
  ·exact hdis b hbe hb'
  ·rcases hold b hbe with h3|h3
   ·exact h2 h3
   ·omega
 refine⟨hs.os,hs.tape,hs.output,hs.le,hs.iN,fun x hx=>?_,?_,fun b hx=>?_⟩
 ·rcases List.mem_cons.1 hx with rfl|hx
  ·exact he
  ·exact hs.own x hx
 ·rw[mh,List.nodup_append];refine⟨hn,hs.nodup,fun b h1 c h2 hbc=>?_⟩;subst hbc;rcases hb b h1 with h3|h3
  ·exact hdis b h3 h2
  ·exact absurd (ht'.lt h2) V
 ·rw[mh] at hx;rcases List.mem_append.1 hx with hx|hx
  ·rcases hb b hx with h1|h1
   ·exact hold b h1
   ·exact .inr (Nat.le_trans h.le h1)
  ·exact hs.src b hx
def St.amP {e e':an}(h:St Z M w (e::L))(hos:w'.os=w.os)(ht:w'.tape=w.tape)(ho:w'.output=w.output)(hle:w.heap.size≤w'.heap.size)
  (hk:∀b,b<w.heap.size→some b≠e.kD→w'.heap[b]?=w.heap[b]?) (he:e'.ok w') (hb:e'.kD=e.kD∨e'.kD=some w.heap.size) (h1:e.single=true) (h2:e'.single=true):St Z M w' (e'::L):=by
 refine h.turns hos ht ho hle (fun b hlt aW=>hk b hlt fun hx=>aW ?_) he ?_ fun b hx=>?_
 ·exact an.Gs hx.symm
 ·rw[an.OD h2];cases e'.kD<;>simp
 ·rw[an.OD h2] at hx;have hx:=Option.mem_toList.1 hx;rcases hb with h3|h3
  ·exact .inl (an.Gs (h3.symm.trans hx))
  ·rw[h3] at hx;cases hx;exact .inr (bQ _)
def St.call {A A' B:List an}(h:St Z M w (A++B))(hc:St w (az A) w' A'):St Z M w' (A'++B):=by
 have e1:az (A++B)=az A++az B:=by simp [az]
 have hn:=h.nodup;rw[e1,List.nodup_append] at hn;obtain⟨_,_,hd⟩:=hn;have hB:=h.back;have hs:St Z M w' B:=hB.step hc.os hc.tape hc.output hc.le fun b hlt hb=>hc.iN b hlt fun hbA=>by
  rcases hb with hb| ⟨h1,h2⟩
  ·exact hd b hbA b hb rfl
  ·rcases h.src b (by rw[e1];simp [hbA]) with h3|h3
   ·exact h2 h3
   ·omega
 refine⟨hs.os,hs.tape,hs.output,hs.le,hs.iN,fun x hx=>?_,?_,fun b hx=>?_⟩
 ·rcases List.mem_append.1 hx with hx|hx
  ·exact hc.own x hx
  ·exact hs.own x hx
 ·rw[show az (A'++B)=az A'++az B by simp [az],List.nodup_append];refine⟨hc.nodup,hs.nodup,fun b hb c hcB hbc=>?_⟩;subst hbc;rcases hc.src b hb with h1|h1
  ·exact hd b h1 b hcB rfl
  ·exact absurd (hB.lt hcB) V
 ·rw[show az (A'++B)=az A'++az B by simp [az]] at hx;rcases List.mem_append.1 hx with hx|hx
  ·rcases hc.src b hx with h1|h1
   ·exact h.src b (by rw[e1];simp [h1])
   ·exact .inr (Nat.le_trans h.le h1)
  ·exact hs.src b hx
def an.bx (L:List an):an:=.gp (az L) (fun w=>∀e∈L,e.ok w) (fun _ _ h hk e he=>an.Gy (h e he) fun b hb=>hk b (wy.2 ⟨e,he,hb⟩)) (fun _ h b hb=>by
  obtain⟨e,he,hb⟩:=wy.1 hb
  exact an.Az (h e he) hb)
def St.group {A B:List an}(h:St Z M w (A++B)):St Z M w (an.bx A::B):=by
 have e:az (an.bx A::B)=az (A++B):=by rw[mh];simp [az,an.bx,an.bs]
 refine⟨h.os,h.tape,h.output,h.le,h.iN,fun x hx=>?_,by rw[e];exact h.nodup,by rw[e];exact h.src⟩;rcases List.mem_cons.1 hx with rfl|hx
 ·exact fun y hy=>h.own y (List.mem_append_left _ hy)
 ·exact h.own x (List.mem_append_right _ hx)
def St.ungroup {A B:List an}(h:St Z M w (an.bx A::B)):St Z M w (A++B):=by
 have e:az (an.bx A::B)=az (A++B):=by rw[mh];simp [az,an.bx,an.bs]
 refine⟨h.os,h.tape,h.output,h.le,h.iN,fun x hx=>?_,by rw[←e];exact h.nodup,by rw[←e];exact h.src⟩;rcases List.mem_append.1 hx with hx|hx
 ·exact h.own (an.bx A) jL x hx
 ·exact h.own x (lz _ hx)
def St.i_ {e:an}{A' B:List an}(h:St Z M w (e::B))(hc:St w (az [e]) w' A'):St Z M w' (A'++B):=St.call (A:=[e]) h hc
def St.call2 {e f:an}{A' B:List an}(h:St Z M w (e::f::B))(hc:St w (az [e,f]) w' A'):St Z M w' (A'++B):=St.call (A:=[e,f]) h hc
def St.call3 {e f g:an}{A' B:List an}(h:St Z M w (e::f::g::B))(hc:St w (az [e,f,g]) w' A'):St Z M w' (A'++B):=St.call (A:=[e,f,g]) h hc
def St.wc {A':List an}(h:St Z M w L)(hc:St w [] w' A'):St Z M w' (A'++L):=St.call (A:=[]) h hc
end
def Rd (w:World)(M:List Nat)(v:Value)(size n:Nat)(xs:List Value):Prop:=
 xs.length=n * size∧∃A cap,v=.slice A n cap∧n≤cap∧cap≤maxLen∧
  (0<n→∃ad:Addr,A=some ad∧ad.block∉M∧ad.block<w.heap.size∧∀j u,xs[j]?=some u→w.cell? (ad.add j)=some u)
def block_add (a:Addr)(n:Nat):(a.add n).block=a.block:=by unfold Addr.add;split<;>rfl
def rN (a:Addr)(i j:Nat):(a.add i).add j=a.add (i+j):=by
 unfold Addr.add
 by_cases hi:i=0<;>by_cases hj:j=0<;>simp [hi,hj,Nat.add_assoc]
section
variable {Z w w':World} {M M':List Nat} {L:List an} {v:Value} {size n:Nat} {xs:List Value}
def Rd.iN (h:Rd w M v size n xs)(hle:w.heap.size≤w'.heap.size)(hk:∀b,b<w.heap.size→b∉M→w'.heap[b]?=w.heap[b]?∧b∉M'):Rd w' M' v size n xs:=by
 obtain⟨hl,A,cap,rfl,hc,hm,hn⟩:=h;refine⟨hl,A,cap,rfl,hc,hm,fun h0=>?_⟩;obtain⟨ad,rfl,hbm,hlt,hcell⟩:=hn h0;obtain⟨h1,h2⟩:=hk _ hlt hbm;exact⟨ad,rfl,h2,V,fun j u hu=>(World.cell?_of_block (by rw[block_add];exact h1)).trans (hcell j u hu)⟩
def Rd.now (h:Rd Z M v size n xs)(O:St Z M w L):Rd w (az L) v size n xs:=
 h.iN O.le fun b hb hm=>⟨O.iN b hb hm,fun hx=>by rcases O.src b hx with h1|h1;exact hm h1;omega⟩
def Rd.mono (h:Rd w M v size n xs)(hs:∀b∈M',b∈M):Rd w M' v size n xs:=h.iN (bQ _) fun _ _ hm=>⟨rfl,fun hx=>hm (hs _ hx)⟩
def Rd.nil (w:World)(M:List Nat)(size:Nat):Rd w M (.slice none 0 0) size 0 []:=⟨aw,none,0,rfl,bQ _,dN _,fun h=>V⟩
def an.rd {e:Nat}(h:(an.sl v e size n xs).ok w)(hM:∀b,v.ownBlock=some b→b∉M):Rd w M v size n xs:=by
 have hlt:=World.ownsRow.lt h;refine⟨h.1,?_⟩;rcases h.2 with ⟨rfl,rfl⟩| ⟨g,cap,cur,rfl,hb,hg,hnc,hm,rest⟩
 ·exact⟨none,0,rfl,bQ _,dN _,fun h=>V⟩
 ·exact⟨_,cap,rfl,hnc,hm,fun _=>⟨_,rfl,hM g rfl,(hlt g rfl).2,World.ownsRow.cells h (g:=g) rfl⟩⟩
end
def zA:List an→Nat→Option an
 | [],_=>none
 |e::_,0=>some e
 |_::L,n+1=>zA L n
def yG (L:List an):List Nat→List an
 | []=>[]
 |i::r=>match zA L i with
  |some e=>e::yG L r
  |none=>yG L r
def yQ (n:Nat):List Nat→Bool
 | []=>true
 |i::r=>Nat.blt i n&&!(r.contains i)&&yQ n r
def Qv:∀(L:List an) (i:Nat),zA L i=L[i]?
 | [],i=>by simp [zA]
 |e::L,0=>by simp [zA]
 |e::L,i+1=>by simp [zA,Qv L i]
def MV (L:List an):∀is:List Nat,yG L is=is.filterMap (fun i=>L[i]?)
 | []=>rfl
 |i::r=>by
  unfold yG;rw[Qv,List.filterMap_cons]
  cases L[i]? with
  |none=>exact MV L r
  |some e=>rw[MV L r]
def Y2:∀L:List an,(List.range L.length).filterMap (fun i=>L[i]?)=L
 | []=>rfl
 |e::L=>by
  rw[bg,List.range_succ_eq_map,List.filterMap_cons];simp only[List.getElem?_cons_zero,List.filterMap_map];exact congrArg (e::·) (Y2 L)
def VR {n:Nat}:∀{is:List Nat},yQ n is=true→is.Nodup∧∀i∈is,i<n
 | [],_=>⟨List.nodup_nil,fun i h=>by cases h⟩
 |i::r,h=>by
  simp only[yQ,aQ,Bool.not_eq_true',List.contains_eq_mem,decide_eq_false_iff_not] at h;obtain⟨h1,h2⟩:=VR h.2;refine⟨List.nodup_cons.2 ⟨h.1.2,h1⟩,fun j hj=>?_⟩;rcases List.mem_cons.1 hj with rfl|hj
  ·exact cX h.1.1
  ·exact h2 j hj
def St.sL {Z w:World}{M:List Nat}{L:List an}(h:St Z M w L)(is:List Nat)(hn:yQ L.length is=true:=by rfl):St Z M w (yG L is):=by
 obtain⟨h1,h2⟩:=VR hn;have hp:=List.filter_append_perm (fun j=>is.contains j) (List.range L.length);have hq:is.Perm ((List.range L.length).filter fun j=>is.contains j):=(List.perm_ext_iff_of_nodup h1 (List.nodup_range.filter _)).2 fun j=>by
  simp only[List.mem_filter,List.mem_range,List.contains_eq_mem,cx];exact⟨fun h=>⟨h2 j h,h⟩,fun h=>h.2⟩
 have hr:=((List.Perm.append_right _ hq).trans hp).filterMap (fun i=>L[i]?);rw[Y2,List.filterMap_append,←MV] at hr;exact (h.perm hr).front
def str (l:List UInt8):Value:=.string ⟨l.toArray⟩
def wM (l:List UInt8):(⟨l.toArray⟩:ByteArray).size=l.length:=by
 show l.toArray.size=_;simp
def NK (l r:List UInt8):(l ==r)=decide (l=r):=by rw[Bool.eq_iff_iff];simp
def i64 (n:Int):Value:=.int .i64 n
def aa (b:Nat):Addr:=⟨b,0,none⟩
def ptr (a:Addr):Value:=.pointer (some a)
def JL (b k:Nat):(aa b).add k=⟨b,k,none⟩:=by unfold aa Addr.add;split<;>simp_all
section
variable {P:Program} {o:Oper} {a:Act} {w:World} {v u:Value} {x y z:Operand} {t t':TypeId}
def SG (ho:o.op=.move x)(hx:a.eval x=v):QV P o a w v:=by simp [QV,execOp,ho,hx]
def SA (ho:o.op=.assign x)(hx:a.eval x=v):QV P o a w v:=by simp [QV,execOp,ho,hx]
def HJ {b:Bool}(ho:o.op=.pick x y z)(hx:a.eval x=.bool b)(hv:(if b then a.eval y else a.eval z)=v):QV P o a w v:=by
 simp [QV,execOp,ho,hx,asBool,hv]
def eN (b:Bool):b=decide (b=true):=by cases b<;>rfl
def r_ {b c:Bool}{p q:Prop}{ip:Decidable p}{iq:Decidable q}(ho:o.op=.pick x (.const (.bool true)) z)(hx:a.eval x=.bool b)(hb:b=decide p)(hz:dk (.bool b) false=true→a.eval z=.bool c)(hc:c=decide q):QV P o a w (.bool (decide (p∨q))):=by
 refine HJ ho hx ?_;subst hb hc
 by_cases hp:p
 ·simp [hp,Act.eval]
 ·simp [hp,dk] at hz ⊢;simp [hz]
def j3 {b c:Bool}{p q:Prop}{ip:Decidable p}{iq:Decidable q}(ho:o.op=.pick x y (.const (.bool false)))(hx:a.eval x=.bool b)(hb:b=decide p)(hy:dk (.bool b) true=true→a.eval y=.bool c)(hc:c=decide q):QV P o a w (.bool (decide (p∧q))):=by
 refine HJ ho hx ?_;subst hb hc
 by_cases hp:p
 ·simp [hp,dk] at hy ⊢;simp [hy]
 ·simp [hp,Act.eval]
def qf {op:BinOp}{k:IntKind}{m n:Int}(ho:o.op=.binOp op t x y t')(hx:a.eval x=.int k m)(hy:a.eval y=.int k n)(hr:binOp op t (.int k m) (.int k n)=pure v):QV P o a w v:=by
 have hg:eqGuard op t x y (.int k m) (.int k n)=pure ():=by
  unfold eqGuard;cases op<;>rfl
 simp [QV,execOp,ho,hx,hy,hg,hr]
def ud {m n:Int}(ho:o.op=.binOp .add t x y t')(hx:a.eval x=i64 m)(hy:a.eval y=i64 n)(hr: -9223372036854775808≤m+n∧m+n≤9223372036854775807):QV P o a w (i64 (m+n)):=
 qf ho hx hy (by simp [binOp,Op.intArith,i64,IntWalk.i64_in _ hr])
def Hs {m n:Int}(ho:o.op=.binOp .sub t x y t')(hx:a.eval x=i64 m)(hy:a.eval y=i64 n)(hr: -9223372036854775808≤m - n∧m - n≤9223372036854775807):QV P o a w (i64 (m - n)):=
 qf ho hx hy (by simp [binOp,Op.intArith,i64,IntWalk.i64_in _ hr])
def Wz {m n:Int}(ho:o.op=.binOp .mul t x y t')(hx:a.eval x=i64 m)(hy:a.eval y=i64 n)(hr: -9223372036854775808≤m * n∧m * n≤9223372036854775807):QV P o a w (i64 (m * n)):=
 qf ho hx hy (by simp [binOp,Op.intArith,i64,IntWalk.i64_in _ hr])
def ara {m n:Int}(ho:o.op=.binOp .quo t x y t')(hx:a.eval x=i64 m)(hy:a.eval y=i64 n)(hn:n≠0)(hr: -9223372036854775808≤m.tdiv n∧m.tdiv n≤9223372036854775807):QV P o a w (i64 (m.tdiv n)):=
 qf ho hx hy (by simp [binOp,Op.intDiv,hn,i64,IntWalk.i64_in _ hr])
def Hv {m n:Int}(ho:o.op=.binOp .rem t x y t')(hx:a.eval x=i64 m)(hy:a.eval y=i64 n)(hn:n≠0):QV P o a w (i64 (m.tmod n)):=
 qf ho hx hy (by simp [binOp,Op.intDiv,hn,i64])
def ZI {k:IntKind}{m n:Int}(ho:o.op=.binOp .eql t x y t')(hx:a.eval x=.int k m)(hy:a.eval y=.int k n):QV P o a w (.bool (decide (m=n))):=
 qf ho hx hy (by simp [binOp,Op.intCmp];rfl)
def PI {k:IntKind}{m n:Int}(ho:o.op=.binOp .neq t x y t')(hx:a.eval x=.int k m)(hy:a.eval y=.int k n):QV P o a w (.bool (decide (¬m=n))):=
 qf ho hx hy (by simp [binOp,Op.intCmp,bne];rfl)
def QL {k:IntKind}{m n:Int}(ho:o.op=.binOp .lss t x y t')(hx:a.eval x=.int k m)(hy:a.eval y=.int k n):QV P o a w (.bool (decide (m<n))):=
 qf ho hx hy (by simp [binOp,Op.intCmp])
def P7 {k:IntKind}{m n:Int}(ho:o.op=.binOp .leq t x y t')(hx:a.eval x=.int k m)(hy:a.eval y=.int k n):QV P o a w (.bool (decide (m≤n))):=
 qf ho hx hy (by simp [binOp,Op.intCmp])
def S1 {k:IntKind}{m n:Int}(ho:o.op=.binOp .gtr t x y t')(hx:a.eval x=.int k m)(hy:a.eval y=.int k n):QV P o a w (.bool (decide (n<m))):=
 qf ho hx hy (by simp [binOp,Op.intCmp])
def Q8 {k:IntKind}{m n:Int}(ho:o.op=.binOp .geq t x y t')(hx:a.eval x=.int k m)(hy:a.eval y=.int k n):QV P o a w (.bool (decide (n≤m))):=
 qf ho hx hy (by simp [binOp,Op.intCmp])
def UB {op:BinOp}{l r:List UInt8}(ho:o.op=.binOp op t x y t')(hx:a.eval x=str l)(hy:a.eval y=str r)(hr:binOp op t (str l) (str r)=pure v):QV P o a w v:=by
 have hg:eqGuard op t x y (str l) (str r)=pure ():=by
  unfold eqGuard;cases op<;>rfl
 simp [QV,execOp,ho,hx,hy,hg,hr]
def Zf {l r:List UInt8}(ho:o.op=.binOp .eql t x y t')(hx:a.eval x=str l)(hy:a.eval y=str r):QV P o a w (.bool (decide (l=r))):=
 UB ho hx hy (by simp [binOp,str,Op.stringOp,NK])
def Pv {l r:List UInt8}(ho:o.op=.binOp .neq t x y t')(hx:a.eval x=str l)(hy:a.eval y=str r):QV P o a w (.bool (decide (¬l=r))):=
 UB ho hx hy (by simp [binOp,str,Op.stringOp,NK])
def kT {b:Bool}{p:Prop}{ip:Decidable p}(ho:o.op=.unOp .not t x)(hx:a.eval x=.bool b)(hb:b=decide p):QV P o a w (.bool (decide (¬p))):=by simp [QV,execOp,ho,hx,Op.unary,hb]
def Z7 {l:List UInt8}(ht:P.underlying t=some .string)(ho:o.op=.call {callee:=.builtin .len,args:=#[x],argTypes:=#[t]})(hx:a.eval x=str l):QV P o a w (i64 l.length):=by
 simp only[QV,execOp,ho,resolve,invoke,builtin,Builtin.len_,Sem.run_bind,Sem.run_pure,Result.andThen_ok,List.map_toArray,bf,bX,hx,str,List.getElem?_toArray,List.getElem?_cons_zero,run_underlying ht,goInt,i64,wM]
def aaz {k:IntKind}{l:List UInt8}{m:Nat}{b:UInt8}(ht:P.underlying t=some .string)(ho:o.op=.index t x y)(hx:a.eval x=str l)(hy:a.eval y=.int k (m:Int))(hb:l[m]?=some b):QV P o a w (.int .u8 b.toNat):=by
 have h1:(⟨l.toArray⟩:ByteArray)[m]?=some b:=by
  have hlt:=(List.getElem?_eq_some_iff.1 hb).1;have h2:m< (⟨l.toArray⟩:ByteArray).size:=by rw[wM];exact hlt
  rw[getElem?_pos (⟨l.toArray⟩:ByteArray) m h2];have:=(List.getElem?_eq_some_iff.1 hb).2;rw[←this]
  rfl
 simp [QV,execOp,ho,hx,hy,Instr.index,asIntOf,run_underlying ht,str,h1]
def Nx (l:List UInt8)(i j:Nat):(⟨l.toArray⟩:ByteArray).extract i j=⟨((l.take j).drop i).toArray⟩:=by
 apply ByteArray.ext;simp [ByteArray.data_extract,List.drop_take]
def yv {k k':IntKind}{l:List UInt8}{i j:Nat}(ht:P.underlying t=some .string)(ho:o.op=.slice t x (some y) (some z) none)(hx:a.eval x=str l)(hy:a.eval y=.int k (i:Int))(hz:a.eval z=.int k' (j:Int))
  (hij:i≤j) (hj:j≤l.length):QV P o a w (str ((l.take j).drop i)):=by
 simp [QV,execOp,ho,hx,hy,hz,Instr.sliceAt,Instr.slice,run_underlying ht,str,Instr.sliceBounds,Instr.sliceBound,asIntOf,wM,hj,hij,Nx]
def Bp {k':IntKind}{l:List UInt8}{j:Nat}(ht:P.underlying t=some .string)(ho:o.op=.slice t x none (some z) none)(hx:a.eval x=str l)(hz:a.eval z=.int k' (j:Int))(hj:j≤l.length):QV P o a w (str (l.take j)):=by
 simp [QV,execOp,ho,hx,hz,Instr.sliceAt,Instr.slice,run_underlying ht,str,Instr.sliceBounds,Instr.sliceBound,asIntOf,wM,hj,Nx]
def abJ {k:IntKind}{l:List UInt8}{i:Nat}(ht:P.underlying t=some .string)(ho:o.op=.slice t x (some y) none none)(hx:a.eval x=str l)(hy:a.eval y=.int k (i:Int))(hi:i≤l.length):QV P o a w (str (l.drop i)):=by
 have h2:(l.take l.length).drop i=l.drop i:=by rw[List.take_length]
 simp [QV,execOp,ho,hx,hy,Instr.sliceAt,Instr.slice,run_underlying ht,str,Instr.sliceBounds,Instr.sliceBound,asIntOf,wM,hi,Nx]
def Z1 {ad:Addr}(ho:o.op=.nilCheck x)(hx:a.eval x=ptr ad):QV P o a w (ptr ad):=by simp [QV,execOp,ho,hx,ptr]
def O9 {ad:Addr}{fs:Array Field}{i d:Nat}{f:Field}{k:Nat}(ht:P.underlying t=some (.struct fs))(ho:o.op=.fieldAddr t x i)(hx:a.eval x=ptr ad)(hf:fs[i]?=some f)
  (hs:∀w,(sizeOf f.type).run P w=.ok k w) (hk:k≠0) (hd:f.offset=d):QV P o a w (ptr (ad.add d)):=by
 subst hd;simp [QV,execOp,ho,hx,Instr.fieldAt,run_underlying ht,hf,Instr.sureAddr,ptr,fieldPlace,hs,hk]
def aj1 {ad:Addr}{m:Nat}{fs:Array Field}{i d:Nat}{f:Field}{k:Nat}(ht:P.underlying t=some (.struct fs))(ho:o.op=.fieldAddr t x i)(hx:a.eval x=ptr (ad.add m))(hf:fs[i]?=some f)
  (hs:∀w,(sizeOf f.type).run P w=.ok k w) (hk:k≠0) (hd:f.offset=d):QV P o a w (ptr (ad.add (m+d))):=by
 have:=O9 (P:=P) (w:=w) ht ho hx hf hs hk hd
 rwa [rN] at this
def Vp {e:TypeId}{k:IntKind}{ad:Addr}{len cap i size:Nat}(ht:P.underlying t=some (.slice e))(ho:o.op=.indexAddr t x y)(hx:a.eval x=.slice (some ad) len cap)(hy:a.eval y=.int k (i:Int))
  (hi:i<len) (hs:∀w,(sizeOf e).run P w=.ok size w):QV P o a w (ptr (ad.add (i * size))):=by
 simp [QV,execOp,ho,hx,hy,Instr.indexAt,asIntOf,run_underlying ht,hi,hs,ptr]
def eD {ad:Addr}(ha:∀w,(isAgg t).run P w=.ok false w)(ho:o.op=.load t x)(hx:a.eval x=ptr ad)(hc:w.cell? ad=some v):QV P o a w v:=by
 simp [QV,execOp,ho,hx,ptr,Instr.loadAt,Instr.sureAddr,loadVar,ha,hc]
def kq {ad:Addr}{size:Nat}{cs:List Value}(ha:∀w,(isAgg t).run P w=.ok true w)(hs:∀w,(sizeOf t).run P w=.ok size w)(ho:o.op=.load t x)(hx:a.eval x=ptr ad)
  (hc:∀j u,cs[j]?=some u→w.cell? (ad.add j)=some u) (hl:cs.length=size):QV P o a w (.agg cs.toArray):=by
 subst hl;simp [QV,execOp,ho,hx,ptr,Instr.loadAt,Instr.sureAddr,loadVar,ha,hs,run_loadCells_list w ad cs hc]
def aqs {fs:Array Field}{cs:List Value}{i:Nat}{f:Field}(ht:P.underlying t=some (.struct fs))(ho:o.op=.field t x i)(hx:a.eval x=.agg cs.toArray)(hf:fs[i]?=some f)
  (ha:∀w,(isAgg f.type).run P w=.ok false w) (hv:cs[f.offset]?=some v):QV P o a w v:=by
 simp [QV,execOp,ho,hx,Instr.field,run_underlying ht,hf,part,asAgg,ha,hv]
def uz {vs:Array Value}{i:Nat}(ho:o.op=.extract x i)(hx:a.eval x=.tuple vs)(hv:vs[i]?=some v):QV P o a w v:=by
 simp [QV,execOp,ho,hx,Instr.extract,hv]
def PZ {e:TypeId}{A:Option Addr}{n c:Nat}(ht:P.underlying t=some (.slice e))(ho:o.op=.call {callee:=.builtin .len,args:=#[x],argTypes:=#[t]})(hx:a.eval x=.slice A n c):QV P o a w (i64 n):=by
 simp [QV,execOp,ho,resolve,invoke,builtin,Builtin.len_,hx,run_underlying ht,goInt,i64]
def JO {fs:Array Field}{parts:Array (Nat×Operand)}{vs:List (Nat×Value)}{z:Value}{places:Array (Nat×Nat)}{cs:List Value}(ht:P.underlying t=some (.struct fs))(hz:∀w,(zeroValue t).run P w=.ok z w)
  (hp:∀w,(fs.mapM fun f=>do pure (f.offset,←sizeOf f.type):Sem _).run P w=.ok places w) (ho:o.op=.build t parts) (hv:(parts.map fun (i,x)=>(i,a.eval x)).toList=vs)
  (hfill:Instr.fill (places[·]?) z.cells vs=some cs.toArray):QV P o a w (.agg cs.toArray):=by
 have hv':(parts.map fun (i,x)=>(i,a.eval x)).toList=vs:=hv;simp only[QV,execOp,ho,Sem.run_bind,Instr.build,hz,Result.andThen_ok,run_underlying ht,hp,hv',hfill]
 rfl
def abR {fn:Fn}{f c:Array Operand}{f' c':Array Value}(ho:o.op=.makeFunc fn f c)(hf:f.map a.eval=f')(hc:c.map a.eval=c'):QV P o a w (.func fn f' c'):=by
 simp [QV,execOp,ho,Instr.makeFunc,hf,hc]
def akq {e:TypeId}{k:IntKind}{ad:Addr}{len cap j u':Nat}(ht:P.underlying t=some (.slice e))(hs:∀w,(sizeOf e).run P w=.ok u' w)(ho:o.op=.slice t x none (some z) none)(hx:a.eval x=.slice (some ad) len cap)(hz:a.eval z=.int k (j:Int))(hj:j≤cap):
  QV P o a w (.slice (some ad) j cap):=by
 simp [QV,execOp,ho,hx,hz,Instr.sliceAt,Instr.slice,run_underlying ht,Instr.sliceBounds,Instr.sliceBound,asIntOf,hj,hs,Addr.add]
end
section
variable {P:Program} {o:Oper} {a:Act} {w Z:World} {v u:Value} {x y z:Operand} {t t':TypeId} {M:List Nat} {L:List an}
def DE {b:Nat}{cs:List Value}(h:w.heap[b]?=some (.cells cs.toArray t (0,0)))(k:Nat):w.cell? ((aa b).add k)=cs[k]?:=by
 rw[JL,cell_of_row w b k _ t (0,0) h];simp
def St.cell (O:St Z M w L)(i:Nat){b:Nat}{cs:List Value}(hi:L[i]?=some (.ob b t cs)){k:Nat}(hk:cs[k]?=some v):w.cell? ((aa b).add k)=some v:=(DE (O.ok hi) k).trans hk
def St.cells (O:St Z M w L)(i:Nat){b:Nat}{cs:List Value}(hi:L[i]?=some (.ob b t cs)):∀j u,cs[j]?=some u→w.cell? ((aa b).add j)=some u:=fun j _ hj=>(DE (O.ok hi) j).trans hj
def St.AW (O:St Z M w L)(i:Nat){b:Nat}{cs:List Value}(hi:L[i]?=some (.ob b t cs))(k m:Nat){cs':List Value}(hk:(cs.drop k).take m=cs'):∀j u,cs'[j]?=some u→w.cell? (((aa b).add k).add j)=some u:=fun j u hj=>by
 rw[rN,DE (O.ok hi)];subst hk;rw[List.getElem?_take] at hj
 split at hj
 ·simpa using hj
 ·cases hj
def St.cell0 (O:St Z M w L)(i:Nat){b:Nat}{cs:List Value}(hi:L[i]?=some (.ob b t cs))(hk:cs[0]?=some v):w.cell? (aa b)=some v:=(DE (O.ok hi) 0).trans hk
def set_perm:∀(L:List an) (i:Nat) (e e':an),L[i]?=some e→(L.set i e').Perm (e'::L.eraseIdx i)
 | [],_,_,_,h=>by simp at h
 |x::L,0,e,e',h=>aw
 |x::L,i+1,e,e',h=>by
  have:=set_perm L i e e' (by simpa using h);simp only[List.set_cons_succ,List.eraseIdx_cons_succ];exact (this.cons x).trans (List.Perm.swap e' x _)
def St.FR {w':World}{i:Nat}{e e':an}(h:St Z M w L)(hi:L[i]?=some e)(hos:w'.os=w.os)(ht:w'.tape=w.tape)(ho:w'.output=w.output)(hle:w.heap.size≤w'.heap.size)
  (hk:∀b,b<w.heap.size→some b≠e.kD→w'.heap[b]?=w.heap[b]?) (he:e'.ok w') (hb:e'.kD=e.kD∨e'.kD=some w.heap.size) (h1:e.single=true:=by rfl) (h2:e'.single=true:=by rfl):St Z M w' (L.set i e'):=
 ((h.pull i hi).amP hos ht ho hle hk he hb h1 h2).perm (set_perm L i e e' hi)
def EK {i b k:Nat}{cs vs:List Value}{tb:TypeId}(O:St Z M w L)(hi:L[i]?=some (.ob b tb cs))(hs:∀w,(sizeOf t).run P w=.ok vs.length w)(ho:o.op=.store t x y)(hx:a.eval x=ptr ((aa b).add k))
  (hy:a.eval y=v) (hv:v.cells=vs.toArray) (hk:k+vs.length≤cs.length) (h1:∀u∈vs,u.oneCell'=true):
  bG P o a w (fun u w'=>u=undef∧St Z M w' (L.set i (.ob b tb (cs.take k++vs++cs.drop (k+vs.length))))):=by
 have hok:w.heap[b]?=some (.cells cs.toArray tb (0,0)):=O.ok hi;have hst:=run_storeCells_at P b k tb vs 0 cs.toArray w hok (by simpa using hk) h1;simp only[Nat.add_zero] at hst;have hlt:b<w.heap.size:=(Array.getElem?_eq_some_iff.1 hok).1;refine bG.skip (w':=w.setRow b (cs.take k++vs++cs.drop (k+vs.length)).toArray) ?_ ⟨rfl,O.FR hi rfl rfl rfl aw (fun c _ hc=>setRow_other w b c _ (fun e=>hc (by simp [an.kD,e]))) (setRow_heap w b _ _ tb _ hok) (.inl rfl)⟩;have a_:v.cells.size=vs.length:=by rw[hv];simp
 have hl:v.cells.toList=vs:=by rw[hv]
 simp only[execOp,ho,Sem.run_bind,Instr.storeAt,hx,ptr,Instr.sureAddr,Sem.run_pure,Result.andThen_ok,storeVar,hs,hy,a_,ne_eq,not_true_eq_false,if_false,hl];rw[JL,hst]
 rfl
def LB {i b k:Nat}{cs:List Value}{tb:TypeId}(O:St Z M w L)(hi:L[i]?=some (.ob b tb cs))(hs:∀w,(sizeOf t).run P w=.ok 1 w)(ho:o.op=.store t x y)(hx:a.eval x=ptr ((aa b).add k))
  (hy:a.eval y=v) (hv:v.cells=#[v]) (hk:Nat.ble (k+1) cs.length=true) (h1:v.oneCell'=true):bG P o a w (fun u w'=>u=undef∧St Z M w' (L.set i (.ob b tb (cs.set k v)))):=by
 have hk':k<cs.length:=cX hk;have h:=EK (P:=P) (vs:=[v]) O hi hs ho hx hy hv (by simpa using cX hk) (by simpa using h1);have e:cs.take k++[v]++cs.drop (k+1)=cs.set k v:=by rw[List.set_eq_take_append_cons_drop];simp [hk']
 simpa [e] using h
def V1 {i b:Nat}{cs:List Value}{tb:TypeId}(O:St Z M w L)(hi:L[i]?=some (.ob b tb cs))(hs:∀w,(sizeOf t).run P w=.ok 1 w)(ho:o.op=.store t x y)(hx:a.eval x=ptr (aa b))
  (hy:a.eval y=v) (hv:v.cells=#[v]) (hk:Nat.ble 1 cs.length=true) (h1:v.oneCell'=true):bG P o a w (fun u w'=>u=undef∧St Z M w' (L.set i (.ob b tb (cs.set 0 v)))):=
 LB (k:=0) O hi hs ho hx hy hv hk h1
def Ee {i b:Nat}{cs vs:List Value}{tb:TypeId}(O:St Z M w L)(hi:L[i]?=some (.ob b tb cs))(hs:∀w,(sizeOf t).run P w=.ok vs.length w)(ho:o.op=.store t x y)(hx:a.eval x=ptr (aa b))
  (hy:a.eval y=.agg vs.toArray) (hk:vs.length=cs.length) (h1:vs.all (·.oneCell')=true):bG P o a w (fun u w'=>u=undef∧St Z M w' (L.set i (.ob b tb vs))):=by
 have h:=EK (P:=P) (k:=0) O hi hs ho hx hy rfl V (fun u hu=>List.all_eq_true.1 h1 u hu);have e:cs.take 0++vs++cs.drop (0+vs.length)=vs:=by rw[Nat.zero_add,hk,List.drop_length,List.take_zero,cD,cB]
 rw[e] at h;exact h
def DJ {z:Value}{cs:List Value}(O:St Z M w L)(hz:∀w,(zeroValue t).run P w=.ok z w)(ho:o.op=.alloc t)(hc:z.cells=cs.toArray):
  bG P o a w (fun u w'=>∃b,u=ptr (aa b)∧St Z M w' (.ob b t cs::L)):=by
 refine bG.value (w':=w.alloc (.cells cs.toArray t)) (v:=ptr (aa w.heap.size)) ?_ ⟨_,rfl,O.Wt t cs⟩;simp only[execOp,ho,Sem.run_bind,Instr.alloc,hz,Result.andThen_ok,newVar,newRow,hc,run_newObj]
 rfl
def NG {cs:List Value}(O:St Z M w L)(ho:o.op=.box t x)(hx:a.eval x=v)(hc:v.cells=cs.toArray):bG P o a w (fun u w'=>∃b,u=ptr (aa b)∧St Z M w' (.ob b t cs::L)):=by
 refine bG.value (w':=w.alloc (.cells cs.toArray t)) (v:=ptr (aa w.heap.size)) ?_ ⟨_,rfl,O.Wt t cs⟩;simp only[execOp,ho,Sem.run_bind,Instr.box,newVar,newRow,hx,hc,run_newObj,Result.andThen_ok]
 rfl
def Ui (place:Nat→Option (Nat×Nat)):∀(vs:List (Nat×Value)) (cells cs:Array Value),Instr.fill place cells vs=some cs→cs.size=cells.size
 | [],cells,cs,h=>by simp [Instr.fill] at h;rw[h]
 | (i,v)::r,cells,cs,h=>by
  unfold Instr.fill at h
  split at h
  ·cases h
  ·split at h
   ·cases h
   ·rw[Ui place r _ _ h];have key:∀(l:List (Value×Nat)) (k:Nat) (c:Array Value),(l.foldl (fun cs (x:Value×Nat)=>cs.setIfInBounds (k+x.2) x.1) c).size=c.size:=by
     intro l
     induction l with
     |nil=>intro k c;rfl
     |cons x l ih=>intro k c;rw[List.foldl_cons,ih];simp
    rw[←Array.foldl_toList];exact key _ _ _
def E8 {v:Value}(h:v.oneCell'=true):v.cells=#[v]:=by cases v<;>first|rfl|cases h
def tC (vs:List (Nat×Value)):List Value:=vs.flatMap fun p=>p.2.cells.toList
def Bu (size:Nat):Nat→List (Nat×Value)→Bool
 |_,[]=>true
 |k,(i,v)::r=>Nat.beq i k&&Nat.beq v.cells.toList.length size&&Bu size (k+1) r
def I1:∀(v:List Value) (k m:Nat) (pre post:List Value),pre.length=k+m→v.length≤post.length→
  (v.zipIdx m).foldl (fun (cs:Array Value) (x:Value×Nat)=>cs.setIfInBounds (k+x.2) x.1) (pre++post).toArray=(pre++v++post.drop v.length).toArray
 | [],k,m,pre,post,_,_=>aw
 |c::v,k,m,pre,q::post,hp,hl=>by
  simp only[List.zipIdx_cons,List.foldl_cons];have e:(pre++q::post).toArray.setIfInBounds (k+m) c=((pre++[c])++post).toArray:=by
   rw[←hp];simp
  rw[e,I1 v k (m+1) (pre++[c]) post (by simp;omega) (by simpa using hl)];simp
def T4 (size:Nat):∀(vs:List (Nat×Value)) (k:Nat) (done zs:List Value),Bu size k vs=true→done.length=k * size→zs.length=vs.length * size→
  Instr.fill (fun i=>some (i * size,size)) (done++zs).toArray vs=some (done++tC vs).toArray
 | [],k,done,zs,_,_,hz=>by
  have:zs=[]:=kj (by simpa using hz);subst this;simp [Instr.fill,tC]
 | (i,v)::r,k,done,zs,hok,hd,hz=>by
  simp only[Bu,aQ] at hok;obtain⟨⟨hi,hv⟩,hr⟩:=hok;have hi:=Nat.eq_of_beq_eq_true hi;have hv:=Nat.eq_of_beq_eq_true hv;subst hi;have a_:v.cells.size=size:=by simpa using hv
  have hk:i * size+size=(i+1) * size:=by rw[Nat.add_mul,Nat.one_mul]
  have hzl:size≤zs.length:=by rw[hz,bg,Nat.add_mul,Nat.one_mul];omega
  have hf:=I1 v.cells.toList (i * size) 0 done zs (by simpa using hd) (by rw[hv];exact hzl);have hfold:v.cells.zipIdx.foldl (fun cs (c,j)=>cs.setIfInBounds (i * size+j) c) (done++zs).toArray=((done++v.cells.toList)++zs.drop size).toArray:=by
   rw[←Array.foldl_toList,Array.toList_zipIdx];rw[hv] at hf;exact hf
  unfold Instr.fill;have h1:(decide (v.cells.size≠size)||decide (i * size+v.cells.size> (done++zs).toArray.size))=false:=by
   simp [a_,hd];omega
  simp only[h1,Bool.false_eq_true,if_false];rw[hfold,T4 size r (i+1) (done++v.cells.toList) (zs.drop size) hr (by simp [hd,a_,Nat.add_mul]) (by rw[List.length_drop,hz,bg,Nat.add_mul];omega)];simp [tC]
def Cq (offs:List Nat):List Value→List (Nat×Value)→List Value
 |cs,[]=>cs
 |cs,(i,v)::r=>Cq offs (cs.set (offs.getD i 0) v) r
def zM (offs:List Nat)(n:Nat):List (Nat×Value)→Bool
 | []=>true
 | (i,v)::r=>Nat.ble (i+1) offs.length&&Nat.ble (offs.getD i 0+1) n&&v.oneCell'&&zM offs n r
def US (offs:List Nat):∀(vs:List (Nat×Value)) (cs:List Value),zM offs cs.length vs=true→
  Instr.fill ((offs.map fun x=>(x,1)).toArray[·]?) cs.toArray vs=some (Cq offs cs vs).toArray
 | [],cs,_=>rfl
 | (i,v)::r,cs,h=>by
  simp only[zM,aQ] at h;obtain⟨⟨⟨h1,h2⟩,h3⟩,h4⟩:=h;have h1:=cX h1;have h2:=cX h2;have hp:(offs.map fun x=>(x,1)).toArray[i]?=some (offs.getD i 0,1):=by
   simp [List.getElem?_eq_getElem (show i<offs.length by omega)]
  have hc:=E8 h3;unfold Instr.fill;simp only[hp,hc];have hb:(decide ((#[v]:Array Value).size≠1)||decide (offs.getD i 0+(#[v]:Array Value).size>cs.toArray.size))=false:=by
   have e:(#[v]:Array Value).size=1:=rfl;have e2:cs.toArray.size=cs.length:=aw
   rw[e,e2,Bool.or_eq_false_iff];exact⟨ai,decide_eq_false V⟩
  simp only[hb,Bool.false_eq_true,if_false];have hfold:(#[v]:Array Value).zipIdx.foldl (fun cs (c,j)=>cs.setIfInBounds (offs.getD i 0+j) c) cs.toArray=(cs.set (offs.getD i 0) v).toArray:=by
   rw[←Array.foldl_toList,Array.toList_zipIdx];simp
  rw[hfold,US offs r _ (by simpa using h4)]
  rfl
def anz {e:TypeId}{size len:Nat}{parts:Array (Nat×Operand)}{vs:List (Nat×Value)}{z:Value}(O:St Z M w L)(ht:P.underlying t=some (.slice e))(hs:∀w,(sizeOf e).run P w=.ok size w)
  (hz:∀w,(zeroValue e).run P w=.ok z w) (ho:o.op=.buildSlice t len parts) (hv:(parts.map fun (i,x)=>(i,a.eval x)).toList=vs) (hsm:Nat.ble (len * size) 16777216=true) (h0:Nat.ble 1 (len * size)=true)
  (hlen:vs.length=len) (hok:Bu size 0 vs=true) (hm:Nat.ble len 9223372036854775807=true):
  bG P o a w (fun u w'=>∃b,u=.slice (some (aa b)) len len∧St Z M w' (.sl (.slice (some (aa b)) len len) e size len (tC vs)::L)):=by
 have hfill:Instr.fill (fun i=>some (i * size,size)) ((Array.range (len * size)).map (z.cells[· % z.cells.size]!)) vs=some (tC vs).toArray:=by
  have:=T4 size vs 0 [] ((Array.range (len * size)).map (z.cells[· % z.cells.size]!)).toList hok aw (by simp [hlen]);rw[cD,cD,Array.toArray_toList] at this;exact this
 have hl:(tC vs).length=len * size:=by simpa using Ui _ _ _ _ hfill
 refine bG.value (w':=w.alloc (.cells (tC vs).toArray e)) (v:=.slice (some (aa w.heap.size)) len len) ?_ ⟨_,rfl,O.ak4 e size len (tC vs) hl (by unfold maxLen;exact cX hm)⟩;have h1:¬len * size>2 ^ 24:=by have:=cX hsm;omega
 have h2:len * size≠0:=by have:=cX h0;omega
 simp only[execOp,ho,Sem.run_bind,Instr.buildSlice,run_underlying ht,Result.andThen_ok,hs,h1,if_false,h2,hz,Sem.run_pure,hv,hfill,newRow,run_newObj]
 rfl
def sr (P:Program)(t:TypeId)(offs:List Nat):Prop:=∀fs,P.underlying t=some (.struct fs)→∀w,(fs.mapM fun (f:Field)=>do pure (f.offset,←sizeOf f.type):Sem _).run P w=.ok (offs.map fun x=>(x,1)).toArray w
def arb {fs:Array Field}{parts:Array (Nat×Operand)}{vs:List (Nat×Value)}{z:Value}{offs:List Nat}{cs:List Value}(ht:P.underlying t=some (.struct fs))(hz:∀w,(zeroValue t).run P w=.ok z w)
  (hp:sr P t offs) (hzc:z.cells=cs.toArray) (ho:o.op=.build t parts) (hv:(parts.map fun (i,x)=>(i,a.eval x)).toList=vs)
  (hok:zM offs cs.length vs=true):QV P o a w (.agg (Cq offs cs vs).toArray):=
 JO ht hz (hp fs ht) ho hv (by rw[hzc];exact US offs vs cs hok)
end
structure fp (α:Type) where
 size:Nat
 cells:α→List Value
 len:∀x,(cells x).length=size
 one:∀x,∀u∈cells x,u.oneCell'=true
def flat {α:Type}(E:fp α)(l:List α):List Value:=l.flatMap E.cells
def Mr {α:Type}(E:fp α)(l:List α):(flat E l).length=l.length * E.size:=by
 induction l with
 |nil=>simp [flat]
 |cons x l ih=>simp only[flat,List.flatMap_cons,bt,bg,E.len] at *;rw[ih,Nat.add_mul];omega
def Dd {α:Type}(E:fp α)(l r:List α):flat E (l++r)=flat E l++flat E r:=by simp [flat]
def Nl {α:Type}(E:fp α)(x:α):flat E [x]=E.cells x:=by simp [flat]
def aqe {α:Type}(E:fp α)(l:List α):∀u∈flat E l,u.oneCell'=true:=by
 intro u hu;obtain⟨x,_,hx⟩:=List.mem_flatMap.1 hu;exact E.one x u hx
def Iy {α:Type}(E:fp α):∀(l:List α) (k:Nat),(flat E l).take (k * E.size)=flat E (l.take k)
 | [],k=>by simp [flat]
 |x::l,0=>by simp [flat]
 |x::l,k+1=>by
  have ih:=Iy E l k;simp only[flat,List.flatMap_cons,List.take_succ_cons] at *;rw[Nat.add_mul,Nat.one_mul,Nat.add_comm,List.take_append,E.len,←ih];rw[List.take_of_length_le (by rw[E.len];omega)]
  congr 2
  omega
def JN {α:Type}(E:fp α):∀(l:List α) (k:Nat),(flat E l).drop (k * E.size)=flat E (l.drop k)
 | [],k=>by simp [flat]
 |x::l,0=>by simp [flat]
 |x::l,k+1=>by
  have ih:=JN E l k;simp only[flat,List.flatMap_cons,List.drop_succ_cons] at *;rw[Nat.add_mul,Nat.one_mul,Nat.add_comm,List.drop_append,E.len,←ih];rw[List.drop_of_length_le (by rw[E.len];omega),cD]
  congr 1
  omega
def VO {α:Type}(E:fp α){l:List α}{i:Nat}{x:α}(hi:l[i]?=some x){j:Nat}{u:Value}(hj:(E.cells x)[j]?=some u):(flat E l)[i * E.size+j]?=some u:=by
 rw[←List.getElem?_drop,JN];have hlt:=(List.getElem?_eq_some_iff.1 hi).1;have hx:=(List.getElem?_eq_some_iff.1 hi).2;rw[List.drop_eq_getElem_cons hlt,hx];have hjl:=(List.getElem?_eq_some_iff.1 hj).1;simp only[flat,List.flatMap_cons];rw[List.getElem?_append_left hjl];exact hj
def aG {α:Type}(w:World)(M:List Nat)(v:Value)(E:fp α)(l:List α):Prop:=Rd w M v E.size l.length (flat E l)
def ax {α:Type}(v:Value)(e:Nat)(E:fp α)(l:List α):an:=.sl v e E.size l.length (flat E l)
def sa (v:Value):Addr:=match v with| .slice (some a) _ _=>a|_=>⟨0,0,none⟩
def atz (v:Value):Nat:=match v with| .slice _ n _=>n|_=>0
def tH (v:Value)(j:Nat):Value:=match v with| .slice A _ c=>.slice A j c|v=>v
section
variable {w Z:World} {M:List Nat} {L:List an} {v:Value} {size n:Nat} {xs:List Value}
def Rd.cell (h:Rd w M v size n xs){k:Nat}{u:Value}(hk:xs[k]?=some u):w.cell? ((sa v).add k)=some u:=by
 obtain⟨hl,A,cap,rfl,_,_,hn⟩:=h;have hlt:=(List.getElem?_eq_some_iff.1 hk).1;have h0:0<n:=by
  rcases Nat.eq_zero_or_pos n with rfl|h
  ·simp at hl;simp [hl] at hlt
  ·exact h
 obtain⟨ad,rfl,_,_,hc⟩:=hn h0;exact hc k u hk
def Rd.is (h:Rd w M v size n xs):∃A cap,v=.slice A n cap∧(0<n→∃ad,A=some ad):=by
 obtain⟨_,A,cap,rfl,_,_,hn⟩:=h;exact⟨A,cap,rfl,fun h0=>by obtain⟨ad,rfl,_⟩:=hn h0;exact⟨ad,rfl⟩⟩
def aG.cells {α:Type}{E:fp α}{l:List α}(h:aG w M v E l){i:Nat}{x:α}(hi:l[i]?=some x):∀j u,(E.cells x)[j]?=some u→w.cell? (((sa v).add (i * E.size)).add j)=some u:=by
 intro j u hj;rw[rN];exact Rd.cell h (VO E hi hj)
def aG.cell {α:Type}{E:fp α}{l:List α}(h:aG w M v E l){i:Nat}{x:α}(hi:l[i]?=some x){j:Nat}{u:Value}(hj:(E.cells x)[j]?=some u):w.cell? ((sa v).add (i * E.size+j))=some u:=
 Rd.cell h (VO E hi hj)
def aG.cell0 {α:Type}{E:fp α}{l:List α}(h:aG w M v E l){i:Nat}{x:α}(hi:l[i]?=some x){u:Value}(hj:(E.cells x)[0]?=some u):w.cell? ((sa v).add (i * E.size))=some u:=
 aG.cell h hi hj
def aG.now {α:Type}{E:fp α}{l:List α}(h:aG Z M v E l)(O:St Z M w L):aG w (az L) v E l:=Rd.now h O
def St.rd (O:St Z M w L)(i:Nat){e:Nat}(hi:L[i]?=some (.sl v e size n xs)):Rd w [] v size n xs:=an.rd (O.ok hi) (fun _ _ h=>by cases h)
def St.bW {α:Type}{E:fp α}{l:List α}(O:St Z M w L)(i:Nat){e:Nat}(hi:L[i]?=some (ax v e E l)):aG w [] v E l:=O.rd i hi
def St.MI {A B:List an}(O:St Z M w (A++B))(i:Nat){e:Nat}(hi:B[i]?=some (.sl v e size n xs)):Rd w (az A) v size n xs:=by
 have hm:(an.sl v e size n xs)∈A++B:=List.mem_append_right _ (bV hi);refine an.rd (O.own _ hm) fun b hb hA=>?_;have hn:=O.nodup;rw[show az (A++B)=az A++az B by simp [az],List.nodup_append] at hn;exact hn.2.2 b hA b (anx ⟨_,bV hi,hb⟩) rfl
end
section
variable {P:Program} {o:Oper} {a:Act} {w Z:World} {v u:Value} {x y z:Operand} {t t':TypeId} {M:List Nat} {L:List an} {size n:Nat} {xs:List Value}
def rU {e:TypeId}{w1:World}(hR:Rd w1 M v size n xs)(ht:P.underlying t=some (.slice e))(ho:o.op=.call {callee:=.builtin .len,args:=#[x],argTypes:=#[t]})(hx:a.eval x=v):QV P o a w (i64 n):=by
 obtain⟨A,cap,rfl,_⟩:=hR.is;exact PZ ht ho hx
def iK {e:TypeId}{w1:World}{k:IntKind}{i:Nat}(hR:Rd w1 M v size n xs)(ht:P.underlying t=some (.slice e))(hs:∀w,(sizeOf e).run P w=.ok size w)(ho:o.op=.indexAddr t x y)(hx:a.eval x=v)(hy:a.eval y=.int k (i:Int))(hi:i<n):
  QV P o a w (ptr ((sa v).add (i * size))):=by
 obtain⟨A,cap,rfl,h0⟩:=hR.is;obtain⟨ad,rfl⟩:=h0 V;exact Vp ht ho hx hy hi hs
def DP {e:TypeId}{w1:World}{k:IntKind}{j u':Nat}(hR:Rd w1 M v size n xs)(ht:P.underlying t=some (.slice e))(hs:∀w,(sizeOf e).run P w=.ok u' w)(ho:o.op=.slice t x none (some z) none)(hx:a.eval x=v)(hz:a.eval z=.int k (j:Int))(hj:j≤n):
  QV P o a w (tH v j):=by
 obtain⟨_,A,cap,rfl,hc,_,_⟩:=hR;have hj':j≤cap:=V
 cases A with
 |none=>simp [QV,execOp,ho,hx,hz,Instr.sliceAt,Instr.slice,run_underlying ht,Instr.sliceBounds,Instr.sliceBound,asIntOf,hj',hs,tH]
 |some ad=>simpa [tH] using akq (P:=P) (w:=w) ht hs ho hx hz hj'
def Rd.cut {j:Nat}(hR:Rd w M v size n xs)(hj:j≤n):Rd w M (tH v j) size j (xs.take (j * size)):=by
 obtain⟨hl,A,cap,rfl,hc,hm,hn⟩:=hR;refine⟨?_,A,cap,rfl,V,hm,fun h0=>?_⟩
 ·rw[gW,hl];exact Nat.min_eq_left (Nat.mul_le_mul_right _ hj)
 ·obtain⟨ad,rfl,h1,h2,h3⟩:=hn V;refine⟨ad,rfl,h1,h2,fun j u hu=>h3 j u ?_⟩;rw[List.getElem?_take] at hu
  split at hu
  ·exact hu
  ·cases hu
def aG.cut {α:Type}{E:fp α}{l:List α}{j:Nat}(hR:aG w M v E l)(hj:j≤l.length):aG w M (tH v j) E (l.take j):=by
 have:=Rd.cut hR hj;rw[Iy] at this;unfold aG;rw[gW,Nat.min_eq_left hj];exact this
def aqE (v:Value)(j:Nat):(tH v j).ownBlock=v.ownBlock:=by
 cases v with
 |slice A n c=>cases A<;>rfl
 |_=>rfl
def St.aj6 {i e j:Nat}(O:St Z M w L)(hi:L[i]?=some (.sl v e size n xs))(hj:j≤n):St Z M w (L.set i (.sl (tH v j) e size j (xs.take (j * size)))):=by
 have hok:=O.ok hi;refine O.FR hi rfl rfl rfl (bQ _) (fun _ _ _=>rfl) ?_ (.inl (aqE v j));refine⟨by rw[gW,hok.1];exact Nat.min_eq_left (Nat.mul_le_mul_right _ hj),?_⟩;rcases hok.2 with ⟨rfl,rfl⟩| ⟨g,cap,cur,rfl,hb,hg,hnc,hm,a_,htk⟩
 ·exact .inl ⟨by simp [tH];omega,V⟩
 ·refine .inr ⟨g,cap,cur,rfl,hb,hg,V,hm,a_,?_⟩;rw[←htk,List.take_take,Nat.min_eq_left (Nat.mul_le_mul_right _ hj)]
def St.FJ {α:Type}{E:fp α}{l:List α}{i e j:Nat}(O:St Z M w L)(hi:L[i]?=some (ax v e E l))(hj:j≤l.length):St Z M w (L.set i (ax (tH v j) e E (l.take j))):=by
 have:=O.aj6 hi hj;rw[Iy] at this;unfold ax;rw[gW,Nat.min_eq_left hj];exact this
def ajK {e:TypeId}{inf:TypeInfo}{zv:Value}{bytes m:Nat}{v2:Value}{ys:List Value}{i:Nat}{M2:List Nat}(O:St Z M w L)(hi:L[i]?=some (.sl v e size n xs))(hR:Rd w M2 v2 size m ys)
  (ht:P.underlying t=some (.slice e)) (hinf:P.info? e=some inf) (hz:inf.zero=some zv) (hsize:inf.size=size) (hby:inf.bytes=bytes) (hzs:zv.cells.size=size) (a_:Nat.ble 1 size=true)
  (ho:o.op=.call {callee:=.builtin .append,args:=#[x,y],argTypes:=#[t,t]}) (hx:a.eval x=v) (hy:a.eval y=v2) (h1:∀u∈ys,u.oneCell'=true) (hb:(n+m) * bytes≤140737488355328) (hm:n+m≤9223372036854775807):
  bG P o a w (fun u w'=>St Z M w' (L.set i (.sl u e size (n+m) (xs++ys)))):=by
 have hown:w.ownsRow 0 e size v n xs:=O.ok hi;have hlen:=hR.1;obtain⟨A,cap,rfl,h0⟩:=hR.is;have key:∃v' w',(Builtin.append_ #[t,t] o.type #[v,.slice A m cap]).run P w=.ok v' w'∧w'.ownsRow 0 e size v' (n+m) (xs++ys)∧w.grownBy w' v.ownBlock∧(v'.ownBlock=v.ownBlock∨v'.ownBlock=some w.heap.size):=by
  rcases Nat.eq_zero_or_pos m with rfl|hm0
  ·have hys:ys=[]:=kj (by simpa using hlen);subst hys
   cases A with
   |none=>
    refine⟨v,w,?_,by simpa using hown,World.grownBy.refl w _,.inl rfl⟩;rcases hown.2 with ⟨rfl,rfl⟩| ⟨g,cap,cur,rfl,_,_,hnc,_⟩
    ·simp [Builtin.append_,run_underlying ht,sizeOf,typeInfo,hinf,Builtin.lenOf,Builtin.firstCells]
    ·simp [Builtin.append_,run_underlying ht,sizeOf,typeInfo,hinf,Builtin.lenOf,Builtin.firstCells,hnc,storeCells]
   |some ad=>
    obtain⟨v',w',hr,h2,h3,_,h5⟩:=run_append_own_at (P:=P) w 0 t o.type e inf zv size bytes ht hinf hz hsize hby hzs (cX a_) v n xs hown ad 0 cap [] aw aw aw (by unfold maxLen;exact hm) hb (dN _);exact⟨v',w',hr,h2,h3,h5⟩
  ·obtain⟨ad,rfl⟩:=h0 hm0;obtain⟨v',w',hr,h2,h3,_,h5⟩:=run_append_own_at (P:=P) w 0 t o.type e inf zv size bytes ht hinf hz hsize hby hzs (cX a_) v n xs hown _ m cap ys hlen (fun j u hu=>hR.cell hu) h1 (by unfold maxLen;exact hm) hb (dN _);exact⟨v',w',hr,h2,h3,h5⟩
 obtain⟨v',w',hr,h2,h3,h5⟩:=key;refine bG.value (w':=w') (v:=v') ?_ (O.FR hi h3.os h3.tape h3.output h3.size (fun b hb aW=>h3.block b hb aW) h2 h5);simp only[execOp,ho,resolve,invoke,builtin,Sem.run_bind,Sem.run_pure,Result.andThen_ok,List.map_toArray,bf,bX,hx,hy,hr]
def iJ {α:Type}{E:fp α}{l:List α}{r:List α}{e:TypeId}{inf:TypeInfo}{zv:Value}{bytes:Nat}{v2:Value}{i:Nat}{M2:List Nat}(O:St Z M w L)(hi:L[i]?=some (ax v e E l))(hR:Rd w M2 v2 E.size r.length (flat E r))
  (ht:P.underlying t=some (.slice e)) (hinf:P.info? e=some inf) (hz:inf.zero=some zv) (hsize:inf.size=E.size) (hby:inf.bytes=bytes) (hzs:zv.cells.size=E.size) (a_:Nat.ble 1 E.size=true)
  (ho:o.op=.call {callee:=.builtin .append,args:=#[x,y],argTypes:=#[t,t]}) (hx:a.eval x=v) (hy:a.eval y=v2) (hb:(l.length+r.length) * bytes≤140737488355328) (hm:l.length+r.length≤9223372036854775807):
  bG P o a w (fun u w'=>St Z M w' (L.set i (ax u e E (l++r)))):=by
 have h:=ajK (P:=P) O hi hR ht hinf hz hsize hby hzs a_ ho hx hy (aqe E r) hb hm;refine h.mono fun u w' hS=>?_;unfold ax;rw[bt,Dd];exact hS
def aeN {i k e:Nat}{vs:List Value}(O:St Z M w L)(hi:L[i]?=some (.sl v e size n xs))(hs:∀w,(sizeOf t).run P w=.ok vs.length w)(ho:o.op=.store t x y)(hx:a.eval x=ptr ((sa v).add k))
  (hy:a.eval y=u) (hv:u.cells=vs.toArray) (hk:k+vs.length≤xs.length) (h0:Nat.ble 1 vs.length=true) (h1:∀u∈vs,u.oneCell'=true):
  bG P o a w (fun u w'=>u=undef∧St Z M w' (L.set i (.sl v e size n (xs.take k++vs++xs.drop (k+vs.length))))):=by
 have hown:w.ownsRow 0 e size v n xs:=O.ok hi;have hvs:=cX h0;rcases hown.2 with ⟨rfl,rfl⟩| ⟨g,cap,cur,rfl,hb,hg,hnc,hm,a_,htk⟩
 ·have:=hown.1;rw[Nat.zero_mul] at this;omega
 ·have hlen:=hown.1;have hcs:n * size≤cur.size:=by rw[a_];exact Nat.mul_le_mul_right _ hnc
  have hst:=run_storeCells_at P g k e vs 0 cur w hg (by simp;omega) h1;simp only[Nat.add_zero] at hst;refine bG.skip (w':=w.setRow g (cur.toList.take k++vs++cur.toList.drop (k+vs.length)).toArray) ?_ ⟨rfl,O.FR hi rfl rfl rfl aw (fun c _ hc=>setRow_other w g c _ (fun e=>hc (by simp [an.kD,Value.ownBlock,e]))) ?_ (.inl rfl)⟩
  ·have a_:u.cells.size=vs.length:=by rw[hv];simp
   have hl:u.cells.toList=vs:=by rw[hv]
   simp only[execOp,ho,Sem.run_bind,Instr.storeAt,hx,ptr,Instr.sureAddr,Sem.run_pure,Result.andThen_ok,storeVar,hs,hy,a_,ne_eq,not_true_eq_false,if_false,hl,sa];rw[show (⟨g,0,none⟩:Addr).add k=⟨g,k,none⟩ from JL g k,hst]
   rfl
  ·refine⟨by simp;omega,.inr ⟨g,cap,_,rfl,hb,setRow_heap w g _ _ e _ hg,hnc,hm,?_,?_⟩⟩
   ·simp;omega
   ·rw[←htk] at hlen hk ⊢;simp only[gW,Array.length_toList] at hlen hk;have hk':k+vs.length≤n * size:=V
    rw[List.take_append,List.take_append,List.take_take,List.take_take,List.drop_take];simp only[bt,gW,Array.length_toList];rw[show min (n * size) k=k by omega,show min k cur.size=k by omega];rw[show min k (n * size)=k by omega,List.take_of_length_le (l:=vs) V]
def aH (P:Program)(f:Nat)(args:Array Value)(w:World)(R:Value→World→Prop):Prop:=Calls P f args w fun e w'=>∃v,e=.returned v∧R v w'
def aH.mono {f:Nat}{args:Array Value}{R R':Value→World→Prop}(h:aH P f args w R)(hr:∀v w',R v w'→R' v w'):aH P f args w R':=Calls.mono h fun _ _ ⟨v,he,hv⟩=>⟨v,he,hr _ _ hv⟩
def acI {f:Nat}{args:Array Operand}{vs:Array Value}{ts:Array TypeId}{R:Value→World→Prop}(ho:o.op=.call {callee:=.value (.func f),args:=args,argTypes:=ts})(hv:args.map a.eval=vs)
  (hf:∀args w,(callFunc f args).run P w=.ok (.enter f args) w) (hc:aH P f vs w R):bG P o a w R:=by
 refine bG.call (f:=f) (args:=vs) (w':=w) ?_ hc;simp [execOp,ho,resolve,invoke,Act.eval,Deferred.ofValue,hv,hf]
def afD {f:Nat}{g:Operand}{fs cs:Array Value}{args:Array Operand}{vs:Array Value}{ts:Array TypeId}{R:Value→World→Prop}(ho:o.op=.call {callee:=.value g,args:=args,argTypes:=ts})(hg:a.eval g=.func (.func f) fs cs)(hv:fs++args.map a.eval++cs=vs)
  (hf:∀args w,(callFunc f args).run P w=.ok (.enter f args) w) (hc:aH P f vs w R):bG P o a w R:=by
 refine bG.call (f:=f) (args:=vs) (w':=w) ?_ hc;simp [execOp,ho,resolve,invoke,hg,Deferred.ofValue,hv,hf]
def rZ (P:Program)(fn:Func)(R:Value→World→Prop):Exit→Act→World→Prop:=bodyPost P fn fun e w'=>∃v,e=.returned v∧R v w'
def ald {f:Nat}{fn:Func}{c:Code}{args:Array Value}{R:Value→World→Prop}(hf:P.funcs[f]?=some fn)(hb:fn.body=some c){m:Nat}(hm:fn.ntmps=m)(L:List (Nat×Value))(hle:Nat.ble args.size m=true)(hL:tq ((List.range args.size).zip args.toList) L)
  (h:∀a,Fr a m L→c.wp P (rZ P fn R) a w):aH P f args w R:=by
 refine calls_of_wp hf hb ?_;have:=Fr.init args (fn.ntmps - args.size) L hL;rw[show args.size+(fn.ntmps - args.size)=m by rw[hm];have:=cX hle;omega] at this;exact h _ this
def yX {fn:Func}{R:Value→World→Prop}{m:Nat}{L:List (Nat×Value)}{k:Nat}(U:Fr a m L)(hr:fn.results=#[.tmp k])(hv:lk L k=some v)(hR:R v w):rZ P fn R .ret a w:=
 ⟨U.defs,v,by rw[results_tmp hr,U.get k v hv],v,rfl,hR⟩
def qC {fn:Func}{R:Value→World→Prop}{m:Nat}{L:List (Nat×Value)}{k l:Nat}(U:Fr a m L)(hr:fn.results=#[.tmp k,.tmp l])(hv:lk L k=some v)(hu:lk L l=some u)(hR:R (.tuple #[v,u]) w):rZ P fn R .ret a w:=
 ⟨U.defs,.tuple #[v,u],by rw[results_tmp2 hr,U.get k v hv,U.get l u hu],_,rfl,hR⟩
def r_0 {fn:Func}{R:Value→World→Prop}{m:Nat}{L:List (Nat×Value)}(U:Fr a m L)(hr:fn.results=#[])(hR:R (.tuple #[]) w):rZ P fn R .ret a w:=
 ⟨U.defs,.tuple #[],results_none hr _ _ _,_,rfl,hR⟩
def agl {fn:Func}{R:Value→World→Prop}{m:Nat}{L:List (Nat×Value)}(U:Fr a m L)(hr:fn.results=#[])(hR:R (.tuple #[]) w):rZ P fn R .normal a w:=
 ⟨U.defs,.tuple #[],results_none hr _ _ _,_,rfl,hR⟩
def qp {fn:Func}{R:Value→World→Prop}{m:Nat}{L:List (Nat×Value)}{k l size:Nat}{ty:TypeId}{ad:Addr}{cs:List Value}(U:Fr a m L)(hr:fn.results=#[.tmp k,.cell l ty])(hv:lk L k=some v)(hu:lk L l=some (ptr ad))
  (ha:∀w,(isAgg ty).run P w=.ok true w) (hs:∀w,(sizeOf ty).run P w=.ok size w) (hc:∀j u,cs[j]?=some u→w.cell? (ad.add j)=some u) (hl:cs.length=size) (hR:R (.tuple #[v,.agg cs.toArray]) w):rZ P fn R .ret a w:=by
 subst hl;refine⟨U.defs,.tuple #[v,.agg cs.toArray],?_,_,rfl,hR⟩;have e1:=U.get k v hv;have e2:=U.get l _ hu;rw[Array.getD_eq_getD_getElem?] at e1 e2;simp [results,hr,e1,e2,ptr,asAddr,loadVar,ha,hs,run_loadCells_list w ad cs hc]
def Li {c:Operand}{p q:Code}{Q:Exit→Act→World→Prop}{m:Nat}{L:List (Nat×Value)}{b:Bool}{r:Prop}{ir:Decidable r}(U:Fr a m L)(hv:ev L c=some (.bool b))(hb:b=decide r)(ht:r→p.wp P Q a w)(hf:¬r→q.wp P Q a w):(Code.cond c p q).wp P Q a w:=
 wp_cond_split (U.af hv) (fun h=>ht (j4 (hb▸h))) (fun h=>hf (of_decide_eq_false (hb▸h)))
def tw {p q:Code}{Q:Exit→Act→World→Prop}{Js:Type}(avl:Js→Act→World→Prop)(hx:p.wp P (Exit.then (fun a w=>∃s,avl s a w) Q) a w)(hy:∀s a w,avl s a w→q.wp P Q a w):(Code.seq p q).wp P Q a w:=
 wp_seq (wp_mono hx fun e a' w' h=>by
   cases e with
   |normal=>obtain⟨s,hs⟩:=h;exact hy s a' w' hs
   |_=>exact h)
def cl {c:Code}{Q:Exit→Act→World→Prop}{Js:Type}(avk:Js→Act→World→Prop)(μ:Js→Nat)(s0:Js)(h0:avk s0 a w)
  (round:∀s a w,avk s a w→c.wp P (Exit.then (fun a' w'=>∃s',avk s' a' w'∧μ s'<μ s) Q) a w):(Code.loop c).wp P Q a w:=by
 have key:∀n s a w,μ s<n→avk s a w→Code.rounds P c Q n a w:=by
  intro n
  induction n with
  |zero=>intro s a w h;omega
  |succ n ih=>
   intro s a w h hI;rw[rounds_succ];refine wp_mono (round s a w hI) fun e a' w' he=>?_
   cases e with
   |normal=>obtain⟨s',hI',hlt⟩:=he;exact ih s' a' w' V hI'
   |_=>exact he
 exact wp_loop_rounds _ (key (μ s0+1) s0 a w V h0)
end
def pA (L:List (Nat×Value)):List Operand→Option (List Value)
 | []=>some []
 |x::r=>match ev L x,pA L r with
  |some v,some vs=>some (v::vs)
  |_,_=>none
def tD (L:List (Nat×Value)):List (Nat×Operand)→Option (List (Nat×Value))
 | []=>some []
 | (i,x)::r=>match ev L x,tD L r with
  |some v,some vs=>some ((i,v)::vs)
  |_,_=>none
section
variable {P:Program} {o:Oper} {a:Act} {w Z:World} {v u:Value} {x y z:Operand} {t t':TypeId} {M:List Nat} {L:List an} {n:Nat} {F:List (Nat×Value)}
def Fr.xX (h:Fr a n F):∀{args:List Operand} {vs:List Value},pA F args=some vs→args.map a.eval=vs
 | [],vs,hv=>by cases hv;rfl
 |x::r,vs,hv=>by
  unfold pA at hv
  split at hv
  ·rename_i v vs' h1 h2;cases hv;rw[bf,h.eval h1,Fr.xX h h2]
  ·cases hv
def Fr.DW (h:Fr a n F):∀{args:List (Nat×Operand)} {vs:List (Nat×Value)},tD F args=some vs→args.map (fun (i,x)=>(i,a.eval x))=vs
 | [],vs,hv=>by cases hv;rfl
 | (i,x)::r,vs,hv=>by
  unfold tD at hv
  split at hv
  ·rename_i v vs' h1 h2;cases hv;rw[bf,Fr.DW h h2];show (i,a.eval x)::_=_;rw[h.eval h1]
  ·cases hv
def JC {f:Nat}{args:List Operand}{vs:List Value}{ts:Array TypeId}{R:Value→World→Prop}(U:Fr a n F)(ho:o.op=.call {callee:=.value (.func f),args:=args.toArray,argTypes:=ts})(hv:pA F args=some vs)
  (hf:∀args w,(callFunc f args).run P w=.ok (.enter f args) w) (hc:aH P f vs.toArray w R):bG P o a w R:=
 acI ho (by rw[List.map_toArray,U.xX hv]) hf hc
def fM {f:Nat}{g:Operand}{fs cs args:List Value}{argo:List Operand}{vs:List Value}{ts:Array TypeId}{R:Value→World→Prop}(U:Fr a n F)(ho:o.op=.call {callee:=.value g,args:=argo.toArray,argTypes:=ts})
  (hg:a.eval g=.func (.func f) fs.toArray cs.toArray) (hv:pA F argo=some args) (hvs:fs++args++cs=vs) (hf:∀args w,(callFunc f args).run P w=.ok (.enter f args) w) (hc:aH P f vs.toArray w R):bG P o a w R:=
 afD ho hg (by rw[List.map_toArray,U.xX hv,←hvs];simp) hf hc
def LK {fn:Fn}{f c:List Operand}{f' c':List Value}(U:Fr a n F)(ho:o.op=.makeFunc fn f.toArray c.toArray)(hf:pA F f=some f')(hc:pA F c=some c'):QV P o a w (.func fn f'.toArray c'.toArray):=
 abR ho (by rw[List.map_toArray,U.xX hf]) (by rw[List.map_toArray,U.xX hc])
def abm {fs:Array Field}{parts:List (Nat×Operand)}{vs:List (Nat×Value)}{zv:Value}{offs:List Nat}{cs:List Value}(U:Fr a n F)(ht:P.underlying t=some (.struct fs))(hz:∀w,(zeroValue t).run P w=.ok zv w)
  (hp:sr P t offs) (hzc:zv.cells=cs.toArray) (ho:o.op=.build t parts.toArray) (hv:tD F parts=some vs)
  (hok:zM offs cs.length vs=true):QV P o a w (.agg (Cq offs cs vs).toArray):=
 arb ht hz hp hzc ho (by rw[List.map_toArray,U.DW hv]) hok
def kH {e:TypeId}{size len:Nat}{parts:List (Nat×Operand)}{vs:List (Nat×Value)}{zv:Value}(U:Fr a n F)(O:St Z M w L)(ht:P.underlying t=some (.slice e))(hs:∀w,(sizeOf e).run P w=.ok size w)
  (hz:∀w,(zeroValue e).run P w=.ok zv w) (ho:o.op=.buildSlice t len parts.toArray) (hv:tD F parts=some vs) (hsm:Nat.ble (len * size) 16777216=true) (h0:Nat.ble 1 (len * size)=true)
  (hlen:vs.length=len) (hok:Bu size 0 vs=true) (hm:Nat.ble len 9223372036854775807=true):
  bG P o a w (fun u w'=>∃b,u=.slice (some (aa b)) len len∧St Z M w' (.sl (.slice (some (aa b)) len len) e size len (tC vs)::L)):=
 anz O ht hs hz ho (by rw[List.map_toArray,U.DW hv]) hsm h0 hlen hok hm
variable {K:Act→World→Prop} {Q:Exit→Act→World→Prop} {i j:Nat}
def jx (h:K a w):Exit.then K Q .normal a w:=h
def dv (h:Q .ret a w):Exit.then K Q .ret a w:=h
def Dt (h:Q (.exit i) a w):Exit.then K Q (.exit i) a w:=h
def b_n (h:Q .normal a w):Exit.inBlock i Q .normal a w:=h
def dI (h:Q .ret a w):Exit.inBlock i Q .ret a w:=h
def Fo (h:Q .normal a w):Exit.inBlock i Q (.exit i) a w:=by simpa [Exit.inBlock] using h
def MA (aW:Nat.beq i j=false)(h:Q (.exit i) a w):Exit.inBlock j Q (.exit i) a w:=by
 have:¬i=j:=fun e=>by subst e;simp at aW
 simpa [Exit.inBlock,this] using h
def bT.nil (w:World):bT w []:=⟨fun _ h=>(by cases h),List.nodup_nil⟩
def St.bL (w:World):St w [] w []:=St.init (bT.nil w)
def St.aB {e:an}{B:List an}(h:St Z M w (e::B)):bT w [e]:=(St.front (A:=[e]) h).owns
def St.aI {e f:an}{B:List an}(h:St Z M w (e::f::B)):bT w [e,f]:=(St.front (A:=[e,f]) h).owns
def St.gT {e f g:an}{B:List an}(h:St Z M w (e::f::g::B)):bT w [e,f,g]:=(St.front (A:=[e,f,g]) h).owns
section
variable {α:Type} {E:fp α} {l:List α}
def aG.ba (h:aG Z M v E l)(O:St Z M w L):aG w [] v E l:=Rd.mono (aG.now h O) (fun _ h=>by cases h)
def aG.aV {e:an}{B:List an}(h:aG Z M v E l)(O:St Z M w (e::B)):aG w (az [e]) v E l:=aG.now h (St.front (A:=[e]) O)
def aG.df {e f:an}{B:List an}(h:aG Z M v E l)(O:St Z M w (e::f::B)):aG w (az [e,f]) v E l:=aG.now h (St.front (A:=[e,f]) O)
def aG.eU {e f g:an}{B:List an}(h:aG Z M v E l)(O:St Z M w (e::f::g::B)):aG w (az [e,f,g]) v E l:=aG.now h (St.front (A:=[e,f,g]) O)
def St.c6 {x:an}{B:List an}(O:St Z M w (x::B))(i:Nat){e:Nat}(hi:B[i]?=some (ax v e E l)):aG w (az [x]) v E l:=St.MI (A:=[x]) O i hi
def St.mZ {x y:an}{B:List an}(O:St Z M w (x::y::B))(i:Nat){e:Nat}(hi:B[i]?=some (ax v e E l)):aG w (az [x,y]) v E l:=St.MI (A:=[x,y]) O i hi
def St.Gk {x y z:an}{B:List an}(O:St Z M w (x::y::z::B))(i:Nat){e:Nat}(hi:B[i]?=some (ax v e E l)):aG w (az [x,y,z]) v E l:=St.MI (A:=[x,y,z]) O i hi
end
def dM {α:Type}{l:List α}{i:Nat}(h:i<l.length):∃x,l[i]?=some x:=⟨_,List.getElem?_eq_getElem h⟩
end
def ny:fp UInt8 where
 size:=1
 cells b:=[.int .u8 b.toNat]
 len _:=rfl
 one t u hu:=by
  simp only[iS,jD,or_false] at hu;subst hu;rfl
def wE:fp Int where
 size:=1
 cells b:=[i64 b]
 len _:=rfl
 one t u hu:=by
  simp only[iS,jD,or_false] at hu;subst hu;rfl
def gA {p:Prop}{_:Decidable p}(h:dk (.bool (decide p)) true=true):p:=by simpa [dk] using h
def vX {p:Prop}{_:Decidable p}(h:dk (.bool (decide p)) false=true):¬p:=by simpa [dk] using h
section
variable {P:Program} {o:Oper} {a:Act} {w Z:World} {v u:Value} {x y z:Operand} {t t':TypeId} {M:List Nat} {L:List an} {n:Nat} {F:List (Nat×Value)}
def iG {k:IntKind}{l:List UInt8}{m:Nat}(ht:P.underlying t=some .string)(ho:o.op=.index t x y)(hx:a.eval x=str l)(hy:a.eval y=.int k (m:Int))(hm:m<l.length):QV P o a w (.int .u8 ((l.getD m 0).toNat:Int)):=by
 have:l[m]?=some (l.getD m 0):=by simp [List.getElem?_eq_getElem hm]
 exact aaz ht ho hx hy this
def XD {m k:Int}(ho:o.op=.binOp .sub t x y t')(hx:a.eval x=.int .u8 m)(hy:a.eval y=.int .u8 k)(hr:0≤m - k∧m - k≤255):QV P o a w (.int .u8 (m - k)):=
 qf ho hx hy (by simp [binOp,Op.intArith,IntWalk.u8_in _ hr])
def Fw {k k':IntKind}{m r:Int}(h1:P.underlying t=some (.int k))(h2:P.underlying t'=some (.int k'))(ho:o.op=.convert t t' x)(hx:a.eval x=.int k m)(hr:k'.wrap m=r):QV P o a w (.int k' r):=by
 simp [QV,execOp,ho,hx,convert,run_underlying h1,run_underlying h2,Conv.intToInt,hr]
def UN {k:IntKind}{m r:Int}{ts:Array TypeId}(ho:o.op=.call {callee:=.builtin .min,args:=#[x,y],argTypes:=ts})(hx:a.eval x=.int k m)(hy:a.eval y=.int k r):QV P o a w (.int k (min m r)):=by
 have e:(if r<m then r else m)=min m r:=by rw[Int.min_def];split<;>split<;>omega
 simp [QV,execOp,ho,resolve,invoke,builtin,Builtin.min_,Builtin.min2,hx,hy,e]
def amO (f:Value→ByteArray→Sem (ForInStep ByteArray))(hf:∀(b:UInt8) s,f (.int .u8 (b.toNat:Int)) s=pure (ForInStep.yield (s.push b)))(l:List UInt8):∀(s:ByteArray),
  (forIn (l.map fun b:UInt8=>Value.int .u8 (b.toNat:Int)) s f:Sem ByteArray).run P w=.ok ⟨(s.data.toList++l).toArray⟩ w:=by
 induction l with
 |nil=>intro s;simp
 |cons b l ih=>
  intro s;have:=ih (s.push b);simp only[bf,List.forIn_cons,hf,Sem.run_bind,Sem.run_pure,Result.andThen_ok];rw[this];simp [ByteArray.push]
def arR {e:TypeId}{l:List UInt8}(hR:aG w M v ny l)(h1:P.underlying t=some (.slice e))(h2:P.underlying t'=some .string)(h3:P.underlying e=some (.int .u8))(ho:o.op=.convert t t' x)(hx:a.eval x=v):QV P o a w (str l):=by
 have hlen:=hR.1;obtain⟨A,cap,rfl,h0⟩:=Rd.is hR;have hfl:flat ny l=l.map fun b=>Value.int .u8 b.toNat:=by
  unfold flat;clear hlen h0 hR hx
  induction l with
  |nil=>rfl
  |cons b l ih=>rw[List.flatMap_cons,ih];rfl
 cases A with
 |none=>
  have:l=[]:=by
   cases l with
   |nil=>rfl
   |cons b l=>obtain⟨ad,h⟩:=h0 aw;cases h
  subst this;simp [QV,execOp,ho,hx,convert,run_underlying h1,run_underlying h2,run_underlying h3,Conv.bytesToString,str]
  rfl
 |some ad=>
  have hc:(loadCells ad l.length).run P w=.ok (flat ny l).toArray w:=by
   have:=run_loadCells_list (P:=P) w ad (flat ny l) (fun j u hj=>Rd.cell hR hj)
   rwa [show (flat ny l).length=l.length by rw[Mr];simp [ny]] at this
  simp only[QV,execOp,ho,hx,convert,run_underlying h1,run_underlying h2,run_underlying h3,Conv.bytesToString,Sem.run_bind,Result.andThen_ok,hc];rw[hfl,←Array.forIn_toList];rw[amO (P:=P) (w:=w) _ (fun b s=>aw) l];simp [str]
def jo {f:Nat}{args:List Operand}{vs vs':List Value}{ts:Array TypeId}{R:Value→World→Prop}(U:Fr a n F)(ho:o.op=.call {callee:=.value (.func f),args:=args.toArray,argTypes:=ts})(hv:pA F args=some vs)(hvs:vs=vs')
  (hf:∀args w,(callFunc f args).run P w=.ok (.enter f args) w) (hc:aH P f vs'.toArray w R):bG P o a w R:=by
 subst hvs;exact JC U ho hv hf hc
section
variable {ops:Array Oper} {Q:Exit→Act→World→Prop} {rest:List Oper} {d:Nat}
def fS {j:Nat}{b:Bool}{dj:Nat}{oj:Oper}{g:Value}(O:St Z M w L)(U:Fr a n F)(hg:o.guard=some (j,b))(hj:ops[j]?=some oj)(hdj:oj.dst=some dj)(hv:lk F dj=some g)
  (hd:o.dst=some d) (hn:Nat.ble (d+1) n=true) (h:dk g b=true→bG P o a w (fun u w'=>u=v∧St w [] w' []))
  (next:∀a w,St Z M w L→Fr a n ((d,gv g b v)::F)→wpList P ops Q rest a w):wpList P ops Q (o::rest) a w:=by
 refine Ss U hg hj hdj hv hd hn h (fun a u w' ⟨hu,hS⟩ hb U=>?_) (fun a hb U=>?_)
 ·have:=next a w' (O.wc hS);rw[a6 hb] at this;subst hu;exact this U
 ·have:=next a w O;rw[w8 hb] at this;exact this U
def WT {S:World→Prop}{K:Act→World→Prop}{ks:List Nat}{j:Nat}{b:Bool}{dj:Nat}{oj:Oper}{g:Value}(O:St Z M w L)(U:Fr a n F)(hg:o.guard=some (j,b))(hj:ops[j]?=some oj)(hdj:oj.dst=some dj)(hv:lk F dj=some g)
  (hd:o.dst=some d) (hn:Nat.ble (d+1) n=true) (h:dk g b=true→bG P o a w (fun u w'=>u=v∧St w [] w' []))
  (next:∀a w,St Z M w L→Fr a n ((d,gv g b v)::F)→dK P ops S K rest ks a w):dK P ops S K (o::rest) (3::ks) a w:=by
 show gn P ops S o 3 (dK P ops S K rest ks) a w;have hw:=sC U hg hj hdj hv;unfold gn;rw[hw]
 cases hb:dk g b with
 |true=>
  simp only[if_true];rw[if_neg V];refine (h hb).mono fun u w' ⟨hu,hS⟩=>⟨fun h=>V,?_⟩;have:=next _ w' (O.wc hS) (U.put (cX hn) (gv g b v));rw[a6 hb] at this;subst hu;rw[hd];exact this
 |false=>
  have:=next _ w O (U.put (cX hn) (gv g b v));rw[w8 hb] at this;rw[hd];exact this
end
end
section
variable {P:Program} {w:World} {d:Nat} {f:Field} {fs:List Field} {xs ys:List Value} {r:Bool}
def acQ (a b:List UInt8):((⟨a.toArray⟩:ByteArray) ==⟨b.toArray⟩)=decide (a=b):=by
 rw[beq_toListBytes,ByteArray.toList_mk,ByteArray.toList_mk,NK]
def VP:(Op.eqFields d xs.toArray ys.toArray []).run P w=.ok true w:=rfl
def Yf {x y:Value}{b:Bool}(hn:f.name≠ "_")(ha:∀w,(isAgg f.type).run P w=.ok false w)(hx:xs[f.offset]?=some x)(hy:ys[f.offset]?=some y)(he:(Op.equalIn d f.type x y).run P w=.ok b w)
  (rest:(Op.eqFields d xs.toArray ys.toArray fs).run P w=.ok r w):(Op.eqFields d xs.toArray ys.toArray (f::fs)).run P w=.ok (b&&r) w:=by
 simp only[Op.eqFields,hn,ne_eq,not_false_eq_true,if_true,Sem.run_bind,part,ha,Result.andThen_ok,Bool.false_eq_true,if_false,List.getElem?_toArray,hx,hy,Sem.run_pure,he]
 cases b with
 |true=>simpa using rest
 |false=>simp
def Bk {k:IntKind}{a b:Int}(hn:f.name≠ "_")(ha:∀w,(isAgg f.type).run P w=.ok false w)(hu:P.underlying f.type=some (.int k))(hx:xs[f.offset]?=some (.int k a))(hy:ys[f.offset]?=some (.int k b))
  (rest:(Op.eqFields (d+1) xs.toArray ys.toArray fs).run P w=.ok r w):(Op.eqFields (d+1) xs.toArray ys.toArray (f::fs)).run P w=.ok (decide (a=b)&&r) w:=
 Yf hn ha hx hy (by simp [Op.equalIn,run_underlying hu];rfl) rest
def Q7 {a b:List UInt8}(hn:f.name≠ "_")(ha:∀w,(isAgg f.type).run P w=.ok false w)(hu:P.underlying f.type=some .string)(hx:xs[f.offset]?=some (str a))(hy:ys[f.offset]?=some (str b))
  (rest:(Op.eqFields (d+1) xs.toArray ys.toArray fs).run P w=.ok r w):(Op.eqFields (d+1) xs.toArray ys.toArray (f::fs)).run P w=.ok (decide (a=b)&&r) w:=
 Yf hn ha hx hy (by simp only[str,Op.equalIn,Sem.run_bind,run_underlying hu,Result.andThen_ok,Sem.run_pure,acQ]) rest
def Qb {o:Oper}{a:Act}{x y:Operand}{t t':TypeId}{fl:Array Field}{p:Prop}{ip:Decidable p}(ht:P.underlying t=some (.struct fl))(hst:P.stoodInHeld t=false)(hg:P.eqGuardType P.depth t=false)
  (ho:o.op=.binOp .eql t x y t') (hx:a.eval x=.agg xs.toArray) (hy:a.eval y=.agg ys.toArray) (he:(Op.eqFields 9999 xs.toArray ys.toArray fl.toList).run P w=.ok r w) (hr:r=decide p):QV P o a w (.bool (decide p)):=by
 have hf:P.fieldsOf t=fl:=by simp [Program.fieldsOf,ht]
 have h1:=run_equalIn_struct (P:=P) w 9999 t xs.toArray ys.toArray (by rw[hf];exact ht) hst;rw[hf,he,hr] at h1;have h2:(Op.equal t (.agg xs.toArray) (.agg ys.toArray)).run P w=.ok (decide p) w:=h1;have h3:(eqGuard .eql t x y (.agg xs.toArray) (.agg ys.toArray)).run P w=.ok () w:=by simp [eqGuard,hg]
 simp only[QV,execOp,ho,Sem.run_bind,hx,hy,h3,Result.andThen_ok,binOp,h2,Sem.run_pure]
end
section
variable {P:Program} {a:Act} {o:Oper} {n:Nat} {F:List (Nat×Value)} {w Z:World} {M:List Nat} {L:List an} {u v:Value} {x y:Operand} {t:TypeId}
def vZ {α:Type}{l:List α}{i:Nat}{d:α}(h:i<l.length):l[i]?=some (l.getD i d):=by simp [List.getElem?_eq_getElem h]
def St.F5 {e size n:Nat}{xs:List Value}(O:St Z M w L)(i:Nat)(hi:L[i]?=some (.sl v e size n xs)):v.oneCell'=true:=by
 obtain⟨_,A,cap,hv,_⟩:=O.rd i hi;rw[hv];rfl
def fA {vs:List Value}(h:vs.all (·.oneCell')=true):∀u∈vs,u.oneCell'=true:=fun u hu=>List.all_eq_true.1 h u hu
def akv {α:Type}(A B C vs:List α)(off:Nat)(h:off+vs.length≤B.length):
  (A++B++C).take (A.length+off)++vs++(A++B++C).drop (A.length+off+vs.length)=A++(B.take off++vs++B.drop (off+vs.length))++C:=by
 rw[cC A B C,List.take_length_add_append,Nat.add_assoc,List.drop_length_add_append,List.take_append_of_le_length V,List.drop_append_of_le_length V];simp
def BS (P:Program)(t:TypeId)(pl:List (Nat×Nat)):Prop:=∀fs,P.underlying t=some (.struct fs)→∀w,(fs.mapM fun (f:Field)=>do pure (f.offset,←sizeOf f.type):Sem _).run P w=.ok pl.toArray w
def asb {fs:Array Field}{zv:Value}{pl:List (Nat×Nat)}{cs:List Value}(ht:P.underlying t=some (.struct fs))(hz:∀w,(zeroValue t).run P w=.ok zv w)
  (hp:BS P t pl) (hzc:zv.cells=cs.toArray) (ho:o.op=.build t #[]):QV P o a w (.agg cs.toArray):=
 JO (vs:=[]) ht hz (hp fs ht) ho aw (by rw[hzc];rfl)
def gb {α:Type}{E:fp α}{l:List α}{i m off k e:Nat}{p q:α}{vs:List Value}(O:St Z M w L)(hi:L[i]?=some (ax v e E l))(hs:∀w,(sizeOf t).run P w=.ok vs.length w)(ho:o.op=.store t x y)
  (hx:a.eval x=ptr ((sa v).add k)) (hkk:k=m * E.size+off)
  (hy:a.eval y=u) (hv:u.cells=vs.toArray) (hm:l[m]?=some p) (hc:(E.cells p).take off++vs++(E.cells p).drop (off+vs.length)=E.cells q) (hof:off+vs.length≤(E.cells p).length) (h0:Nat.ble 1 vs.length=true) (h1:∀u∈vs,u.oneCell'=true):
  bG P o a w (fun u w'=>u=undef∧St Z M w' (L.set i (ax v e E (l.set m q)))):=by
 have hml:m<l.length:=(List.getElem?_eq_some_iff.1 hm).1;have hsp:l=l.take m++[p]++l.drop (m+1):=by
  have:=List.getElem?_eq_some_iff.1 hm;obtain⟨h,e⟩:=this;subst e;simp
 have hset:l.set m q=l.take m++[q]++l.drop (m+1):=by
  rw[List.set_eq_take_append_cons_drop,if_pos hml];simp
 have hA:(flat E (l.take m)).length=m * E.size:=by rw[Mr,gW];congr 1;omega
 have hfl:flat E l=flat E (l.take m)++E.cells p++flat E (l.drop (m+1)):=by
  conv=>lhs;rw[hsp]
  rw[Dd,Dd,Nl]
 have key:(flat E l).take k++vs++(flat E l).drop (k+vs.length)=flat E (l.set m q):=by
  rw[hset,Dd,Dd,Nl,hfl,hkk,←hA,akv _ _ _ _ _ hof,hc]
 have h:=aeN (P:=P) (k:=k) O hi hs ho hx hy hv (by
   rw[hfl,hkk,bt,bt,hA];omega) h0 h1
 rw[key] at h;refine h.mono fun u w' ⟨hu,hS⟩=>⟨hu,?_⟩;unfold ax;rw[List.length_set];exact hS
end
section
variable {P:Program} {a:Act} {o:Oper} {n:Nat} {F:List (Nat×Value)} {w Z:World} {M:List Nat} {L:List an} {ops:Array Oper} {Q:Exit→Act→World→Prop} {rest:List Oper} {d:Nat}
def arM {Js:Type}(avl:Js→Value→World→Prop){j:Nat}{b:Bool}{dj:Nat}{oj:Oper}{g:Value}(U:Fr a n F)(hg:o.guard=some (j,b))(hj:ops[j]?=some oj)(hdj:oj.dst=some dj)(hv:lk F dj=some g)
  (hd:o.dst=some d) (hn:Nat.ble (d+1) n=true) (h:dk g b=true→bG P o a w (fun u w'=>∃s,avl s u w')) (h0:dk g b=false→∃s u,avl s u w)
  (next:∀s u a w,avl s u w→Fr a n ((d,gv g b u)::F)→wpList P ops Q rest a w):wpList P ops Q (o::rest) a w:=by
 refine Ss U hg hj hdj hv hd hn h (fun a u w' ⟨s,hJ⟩ hb U=>?_) (fun a hb U=>?_)
 ·have:=next s u a w' hJ;rw[a6 hb] at this;exact this U
 ·obtain⟨s,u,hJ⟩:=h0 hb;have:=next s u a w hJ;rw[w8 hb] at this;exact this U
end
section
variable {P:Program} {a:Act} {w:World} {l n:Nat}
variable {Q:Exit→Act→World→Prop}
end
section
variable {P:Program} {a:Act} {w:World} {l n d m:Nat} {Q:Exit→Act→World→Prop} {ops:Array Oper} {o:Oper} {rest:List Oper} {F:List (Nat×Value)} {v:Value} {R:Ending→World→Prop}
end
section
variable {Z w w' avm:World} {M:List Nat} {L A B L':List an} {row:Option Nat}
end
section
variable {P:Program} {a:Act} {w:World} {n:Nat}
def wd (ds:List Deferred)(a:Act):Act:={a with defers:=ds}
end
open Go.RowKit
section
variable {P:Program} {n:Nat}
end
section
variable {P:Program} {Q:Exit→Act→World→Prop} {a:Act} {w Z:World} {l n i:Nat} {x y c:Code} {M:List Nat} {L:List an}
end
section
variable {P:Program} {o:Oper} {a:Act} {w Z:World} {v u:Value} {x y z:Operand} {t t':TypeId} {M:List Nat} {L:List an} {size n:Nat} {xs:List Value}
def aG.gi {α:Type}{E:fp α}{l:List α}(h:aG w M v E l):l.length≤9223372036854775807:=by
 obtain⟨_,_,cap,_,h1,h2,_⟩:=h;have:maxLen=9223372036854775807:=ai
 omega
def pN (v:Value)(j s:Nat):Value:=match v with| .slice A n c=>.slice (if c=j then A else A.map (·.add (j * s))) (n - j) (c - j)|v=>v
def Bx {e:TypeId}{w1:World}{k:IntKind}{j:Nat}(hR:Rd w1 M v size n xs)(ht:P.underlying t=some (.slice e))(hs:∀w,(sizeOf e).run P w=.ok size w)(ho:o.op=.slice t x (some y) none none)(hx:a.eval x=v)(hy:a.eval y=.int k (j:Int))(hj:j≤n):
  QV P o a w (pN v j size):=by
 obtain⟨_,A,cap,rfl,hc,_,_⟩:=hR;have hj':j≤cap:=V
 simp [QV,execOp,ho,hx,hy,Instr.sliceAt,Instr.slice,run_underlying ht,Instr.sliceBounds,Instr.sliceBound,asIntOf,hj,hs,pN]
def Yl {e:TypeId}{w1:World}{j s:Nat}(hR:Rd w1 M v size n xs)(ht:P.underlying t=some (.slice e))(ho:o.op=.call {callee:=.builtin .len,args:=#[x],argTypes:=#[t]})(hx:a.eval x=pN v j s):QV P o a w (i64 ((n - j:Nat):Int)):=by
 obtain⟨A,cap,rfl,_⟩:=hR.is;exact PZ ht ho hx
def Ug {e:TypeId}{w1:World}{k:IntKind}{i j:Nat}(hR:Rd w1 M v size n xs)(ht:P.underlying t=some (.slice e))(hs:∀w,(sizeOf e).run P w=.ok size w)(ho:o.op=.indexAddr t x y)(hx:a.eval x=pN v j size)(hy:a.eval y=.int k (i:Int))(hi:j+i<n):
  QV P o a w (ptr ((sa v).add ((j+i) * size))):=by
 obtain⟨_,A,cap,rfl,hc,_,h0⟩:=hR;obtain⟨ad,rfl,_⟩:=h0 V;have aW:¬cap=j:=V
 have e1:(ad.add (j * size)).add (i * size)=ad.add ((j+i) * size):=by rw[rN,Nat.add_mul]
 have:=Vp (P:=P) (w:=w) (len:=n - j) (cap:=cap - j) (ad:=ad.add (j * size)) ht ho (by rw[hx];simp [pN,aW]) hy V hs;rw[e1] at this;exact this
end
section
variable {P:Program} {a:Act} {o:Oper} {n:Nat} {F:List (Nat×Value)} {w Z:World} {M:List Nat} {L:List an} {ops:Array Oper} {Q:Exit→Act→World→Prop} {rest:List Oper} {d:Nat} {S:World→Prop} {K:Act→World→Prop} {ks:List Nat} {v:Value}
def apL {j:Nat}{b:Bool}{dj:Nat}{oj:Oper}{g:Value}(O:St Z M w L)(U:Fr a n F)(hg:o.guard=some (j,b))(hj:ops[j]?=some oj)(hdj:oj.dst=some dj)(hv:lk F dj=some g)
  (hd:o.dst=some d) (hn:Nat.ble (d+1) n=true) (h:dk g b=true→bG P o a w (fun u w'=>u=v∧St w [] w' [])) (hS:∀w',St Z M w' L→S w')
  (next:∀a w,St Z M w L→Fr a n ((d,gv g b v)::F)→dK P ops S K rest ks a w):dK P ops S K (o::rest) (2::ks) a w:=by
 show gn P ops S o 2 (dK P ops S K rest ks) a w;have hw:=sC U hg hj hdj hv;unfold gn;rw[hw]
 cases hb:dk g b with
 |true=>
  simp only[if_true];rw[if_neg V];refine (h hb).mono fun u w' ⟨hu,hS'⟩=>⟨fun _=>hS w' (O.wc hS'),?_⟩;have:=next _ w' (O.wc hS') (U.put (cX hn) (gv g b v));rw[a6 hb] at this;subst hu;rw[hd];exact this
 |false=>
  have:=next _ w O (U.put (cX hn) (gv g b v));rw[w8 hb] at this;rw[hd];exact this
end
end Go.Proofs.YtdfccaonglmgpaaGreatDoor
