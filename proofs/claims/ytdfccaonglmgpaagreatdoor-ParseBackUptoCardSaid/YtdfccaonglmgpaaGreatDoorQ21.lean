/- Q21 -/
import Derived.Test.YtdfccaonglmgpaaGreatDoorQ01
import Derived.Test.YtdfccaonglmgpaaGreatDoorQ03
import Derived.Test.YtdfccaonglmgpaaGreatDoorQ17
import Derived.Test.YtdfccaonglmgpaaGreatDoorQ20
open Go.Proofs.Tryz
set_option linter.all false
namespace Go.Proofs.YtdfccaonglmgpaaGreatDoor
open Go
set_option maxRecDepth 100000
set_option linter.unusedVariables false
section
variable {I:List UInt8→Bool} {kd:List UInt8→Int} {sp:List UInt8→Int→Bool}
def Is:∀(l:List X) (a:X),PE sp a→(∀x∈l,PE sp x)→PE sp (l.foldl (fun n x=>ag 22 [] [n,x]) a)
 | [],_,ha,_=>ha
 |x::l,a,ha,h=>Is l _ (.app ha (h x jL)) fun y hy=>h y (lz _ hy)
def vV {P:X→Prop}{ps:List TP}(h:∀p∈ps,P p.2):∀a∈aD ps,P a:=fun a ha=>by
 obtain⟨p,hp,rfl⟩:=List.mem_map.1 ha;exact h p hp
def ao8 {ps:List TP}(h:ps≠[]):aD ps≠[]:=fun e=>h (List.map_eq_nil_iff.1 e)
def aoC {l:List X}(h:l≠[]):bI I kd l≠[]:=by
 cases l with
 |nil=>exact absurd rfl h
 |cons a l=>rw[bI];exact List.cons_ne_nil _ _
def Sm (l:List X):(aD (bI I kd l)).length=l.length:=by
 unfold aD;rw[dW]
 induction l with
 |nil=>rw[bI];rfl
 |cons a l ih=>rw[bI,bg,ih,bg]
def Jd {E:X→Prop}{op:X→Bool}{m:Nat}(hE:∀a,aL a≤m→E a→PE sp (au I kd a).2)(hop:∀o,op o=true→eK sp o=true):
  ∀(l:List X),aJ l≤m→(∀i o,l[2 * i]?=some o→op o=true)→(∀i a,l[2 * i+1]?=some a→E a)→PO sp (fU (eY I kd l))
 | [],_,_,_=>by simp only[eY,fU];exact .nil
 | [o],_,_,_=>by simp only[eY,fU];exact .nil
 |o::a::l,hm,h1,h2=>by
  simp only[aJ] at hm;have ih:=Jd (m:=m) hE hop l V (fun i o h=>h1 (i+1) o (by simpa [Nat.mul_add] using h)) (fun i a h=>h2 (i+1) a (by rw[show 2 * (i+1)+1=2 * i+1+2 by omega];simpa using h));simp only[eY,fU];exact .cons (hop o (h1 0 o rfl)) (hE a V (h2 0 a rfl)) ih
def RX {l:List (TP×TP)}(h:l≠[]):fU l≠[]:=by
 cases l with
 |nil=>exact absurd rfl h
 |cons q l=>exact List.cons_ne_nil _ _
def aly {a:X}(h:bu sp a=true)(hk:a.kind≠19):(au I kd a).2.kind≠19:=by
 have hV:=jw h;clear h
 cases hV with
 |con _=>exact absurd rfl hk
 |int _=>rw[au.eq_def];simp [X.kind]
 |app _ _=>rw[ag,au];simp [bI,aD,fg,ag,X.kind]
 |_=>rw[ag.eq_def,au.eq_def]<;>simp [ag,X.kind,listed]
structure MK (I:List UInt8→Bool)(kd:List UInt8→Int)(sp:List UInt8→Int→Bool)(m:Nat):Prop where
 exp:∀n,aL n≤m→bu sp n=true→PE sp (au I kd n).2
 pat:∀n,aL n≤m→cK sp n=true→PE sp (au I kd n).2
 fld:∀f,aL f≤m→qS sp f=true∨r6 sp f=true→PF sp (jn I kd f).2
 alt:∀f,aL f≤m→qu sp f=true→PA sp (jS I kd f).2
 stm:∀f,aL f≤m→oX sp f=true→tZ sp (au I kd f).2
 rhs:∀w r,aL r≤m→fD sp r=true→PR sp (eS I kd w r).2
 eq:∀d,aL d≤m→dT sp d=true→∀p∈e_ I kd d,PQ sp p.2
def mK:∀m,MK I kd sp m
 |0=>by
  constructor
  ·intro n h;have:=dx n;omega
  ·intro n h;have:=dx n;omega
  ·intro n h;have:=dx n;omega
  ·intro n h;have:=dx n;omega
  ·intro n h;have:=dx n;omega
  ·intro w n h;have:=dx n;omega
  ·intro n h;have:=dx n;omega
 |m+1=>by
  have K:=mK m;have exps:∀l,aJ l≤m→(∀a∈l,bu sp a=true)→∀a∈aD (bI I kd l),PE sp a:=fun l h1 h2=>vV (GN (Q:=fun p=>PE sp p.2) K.exp l h1 h2);have pats:∀l,aJ l≤m→(∀a∈l,cK sp a=true)→∀a∈aD (bI I kd l),PE sp a:=fun l h1 h2=>vV (GN (Q:=fun p=>PE sp p.2) K.pat l h1 h2);have eqs:∀l,aJ l≤m→(∀a∈l,dT sp a=true)→∀a∈aD (cU I kd l),PQ sp a:=fun l h1 h2=>vV (Fa (Q:=fun p=>PQ sp p.2) K.eq l h1 h2);have flds:∀l,aJ l≤m→(∀a∈l,qS sp a=true∨r6 sp a=true)→∀a∈aD (fH I kd l),PF sp a:=fun l h1 h2=>vV (Eg (Q:=fun p=>PF sp p.2) (fun a h1 h2=>K.fld a h1 h2) l h1 h2);have expO:=Jd (I:=I) (kd:=kd) (m:=m) (E:=fun a=>bu sp a=true) (op:=eK sp) K.exp (fun o h=>h);have patO:=Jd (I:=I) (kd:=kd) (m:=m) (E:=fun a=>cK sp a=true) (op:=j6 sp) K.pat (fun o h=>Jv h);have hexp:∀n,aL n≤m+1→bu sp n=true→PE sp (au I kd n).2:=by
   intro n hm h;have hV:=jw h;clear h;rw[lK] at hm
   cases hV with
   |var h=>rw[ag,au.eq_def];exact .var h
   |con h=>rw[ag,au.eq_def];exact .con h
   |int h=>rw[au.eq_def];exact .int h
   |str=>rw[ag,au.eq_def];exact .str
   | @app a b ha hb=>
    have h:=exps [a,b] (by simp only[ag,X.ae] at hm;omega) (eF ha (eF hb fO));rw[ag,au.eq_def];show PE sp (fg (aD (bI I kd [a,b])));simp only[bI,aD,bf,bX] at h ⊢;exact Is _ _ (h _ jL) fun x hx=>h x (lz _ hx)
   | @ops a l ha hl h0=>
    simp only[ag,X.ae,aJ] at hm;obtain⟨s1,s2,s3⟩:=Mg (I:=I) (kd:=kd) hl;rw[ag,au.eq_def];exact .ops (K.exp a V ha) (expO l V s1 s2) (RX (s3 h0))
   | @lam l e h0 hl he=>
    simp only[ag,X.ae,dz,aJ] at hm;rw[ag,au.eq_def];exact .lam (ao8 (aoC h0)) (pats l V hl) (K.exp e V he)
   | @elet l e hl ht he=>
    simp only[ag,X.ae,dz,aJ] at hm;rw[ag,au.eq_def];exact .elet (eqs l V hl) (K.exp e V he)
   | @eif a b c ha hb hc=>
    simp only[ag,X.ae,aJ] at hm;rw[ag,au.eq_def];exact .eif (K.exp a V ha) (K.exp b V hb) (K.exp c V hc)
   | @ecase a l ha hl=>
    simp only[ag,X.ae,aJ] at hm;rw[ag,au.eq_def];exact .ecase (K.exp a V ha) (vV (NC (Q:=fun p=>PA sp p.2) K.alt l V hl))
   | @edo l hl h0 hs=>
    simp only[ag,X.ae] at hm;rw[ag,au.eq_def];exact .edo (vV (Mj (Q:=fun p=>tZ sp p.2) (fun a h1 h2=>by split<;>exact K.stm a h1 h2) l V hl))
   | @tup l hl h2=>
    simp only[ag,X.ae] at hm;rw[ag,au.eq_def];exact .tup (exps l V hl) (by rw[Sm];exact h2)
   | @lst l hl=>
    simp only[ag,X.ae] at hm;rw[ag,au.eq_def];exact .lst (exps l V hl)
   | @left a o ha ho=>
    simp only[ag,X.ae,aJ] at hm;rw[ag,au.eq_def];exact .left (K.exp a V ha) ho
   | @right o a ho ha=>
    simp only[ag,X.ae,aJ] at hm;rw[ag,au.eq_def];exact .right ho (K.exp a V ha)
   | @make s l h hl=>
    simp only[ag,X.ae] at hm;rw[ag,au.eq_def];exact .make h (flds l V fun a ha=>.inl (hl a ha))
   | @put a l h19 ha h0 hl=>
    simp only[ag,X.ae,aJ] at hm;rw[ag,au.eq_def];exact .put (aly ha h19) (K.exp a V ha) (by cases l with|nil=>exact absurd rfl h0|cons f l=>rw[fH];exact List.cons_ne_nil _ _) (flds l V fun a ha=>.inl (hl a ha))
  constructor
  ·exact hexp
  ·intro n hm h;have hV:=k8 h;clear h;rw[lK] at hm
   cases hV with
   |var h=>rw[ag,au.eq_def];exact .var h
   |wild=>rw[ag,au.eq_def];exact .wild
   |int h=>rw[au.eq_def];exact .int h
   |str=>rw[ag,au.eq_def];exact .str
   | @con s l h hl=>
    simp only[ag,X.ae] at hm;rw[ag,au.eq_def];exact Is _ _ (.con h) (pats l V hl)
   | @ops a l ha hl h0=>
    simp only[ag,X.ae,aJ] at hm;obtain⟨s1,s2,s3⟩:=M3 (I:=I) (kd:=kd) hl;rw[ag,au.eq_def];exact .ops (K.pat a V ha) (patO l V s1 s2) (RX (s3 h0))
   | @tup l hl h2=>
    simp only[ag,X.ae] at hm;rw[ag,au.eq_def];exact .tup (pats l V hl) (by rw[Sm];exact h2)
   | @lst l hl=>
    simp only[ag,X.ae] at hm;rw[ag,au.eq_def];exact .lst (pats l V hl)
   | @eas s a h ha=>
    simp only[ag,X.ae,aJ] at hm;rw[ag,au.eq_def];simp only[bI];exact .eas h (K.pat a V ha)
   | @make s l h hl=>
    simp only[ag,X.ae] at hm;rw[ag,au.eq_def];exact .make h (flds l V fun a ha=>.inr (hl a ha))
  ·intro f hm h;have:∃s e,f=ag 37 s [e]∧isVar sp s=true∧(bu sp e=true∨cK sp e=true):=by
    rcases h with h|h
    ·obtain⟨s,e,h1,h2,h3⟩:=EB h;exact⟨s,e,h1,h2,.inl h3⟩
    ·obtain⟨s,e,h1,h2,h3⟩:=Fl h;exact⟨s,e,h1,h2,.inr h3⟩
   obtain⟨s,e,rfl,hs,he⟩:=this;simp only[bU,aJ] at hm;rw[ag,jn.eq_def];exact .mk hs (he.elim (K.exp e V) (K.pat e V))
  ·intro f hm h;obtain⟨p,r,rfl,hp,hr⟩:=HA h;simp only[bU,aJ] at hm;rw[ag,jS.eq_def];exact .mk (K.pat p V hp) (K.rhs _ r V hr)
  ·intro f hm h;have hV:=DB h;clear h
   cases hV with
   |exp h h40 h41=>exact .exp (hexp f hm h)
   | @gen a e ha he=>
    simp only[bU,aJ] at hm;rw[ag,au.eq_def];exact .gen (K.pat a V ha) (K.exp e V he)
   | @slet l hl ht=>
    simp only[bU,dz,aJ] at hm;rw[ag,au.eq_def];exact .slet (eqs l V hl)
  ·intro w r hm h;have hV:=Gq h;clear h
   cases hV with
   | @plain e l he hl ht=>
    simp only[bU,dz,aJ] at hm;rw[ag,eS.eq_def];show PR sp (ag 16 [] [listed (aD (f_ I kd w [ag 17 [] [cc,e]])),listed (aD (cU I kd l))]);rw[Uu];exact .plain (K.exp e V he) (eqs l V hl)
   | @guards g l h0 hg hl ht=>
    simp only[bU,dz,aJ] at hm;rw[ag,eS.eq_def];have key:∀g:List X,aJ g≤m→(∀a∈g,∃c e,a=ag 17 [] [c,e]∧bu sp c=true∧bu sp e=true)→∀a∈aD (f_ I kd w g),PG sp a:=by
     intro g
     induction g with
     |nil=>intro _ _ a ha;rw[f_] at ha;cases ha
     |cons x g ih=>
      intro hm hg a ha;rw[aJ] at hm;rw[f_] at ha;rcases List.mem_cons.1 ha with rfl|ha
      ·obtain⟨c,e,rfl,hc,he⟩:=hg x jL;simp only[bU,aJ] at hm;have hk:¬c.kind=0:=by
        have:=jw hc;cases this<;>simp [ag,X.kind]
       have e1:(mj I kd w (ag 17 [] [c,e])).2=ag 17 [] [(au I kd c).2,(au I kd e).2]:=by
        simp only[mj,ag];rw[if_neg hk]
       rw[e1];exact .mk (K.exp c V hc) (K.exp e V he)
      ·exact ih V (fun y hy=>hg y (lz _ hy)) a ha
    exact .guards (by cases g with|nil=>exact absurd rfl h0|cons x g=>rw[f_];exact List.cons_ne_nil _ _) (key g V hg) (eqs l V hl)
  ·intro d hm h;have hV:=wJ h;clear h
   cases hV with
   | @pat p r hp _ hr=>
    simp only[bU,aJ] at hm;rw[ag,e_.eq_def];intro q hq;rw[List.mem_singleton.1 hq];exact .mk (K.pat p V hp) (K.rhs _ r V hr)
   | @fn s l j hs h0 hl hj=>
    simp only[bU] at hm;rw[show e_ I kd (ag 13 s l)=fQ I kd s l by rw[e_.eq_def];rfl];refine Jk (Q:=fun p=>PQ sp p.2) l fun c hc=>?_;have hcs:=sA hc;obtain⟨ps,r,rfl,_,hp,hr⟩:=hl c hc;simp only[bU,dz,aJ] at hcs;rw[ag,jF.eq_def];exact .mk (Is _ _ (.var hs) (pats ps V hp)) (K.rhs _ r V hr)
def amV {d:X}(h:fE sp d=true):∀p∈fh I kd d,PT sp p.2:=by
 have hV:=Nt h
 cases hV with
 |data _ _ _=>intro p hp;rw[List.mem_singleton.1 hp];exact .top h (by simp [ag,X.kind]) (by simp [ag,X.kind]) (by simp [ag,X.kind])
 |cls _ _ _=>intro p hp;rw[List.mem_singleton.1 hp];exact .top h (by simp [ag,X.kind]) (by simp [ag,X.kind]) (by simp [ag,X.kind])
 |fix _ _ _ _ _=>intro p hp;rw[List.mem_singleton.1 hp];exact .top h (by simp [X.kind]) (by simp [X.kind]) (by simp [X.kind])
 | @inst s q b e hs hq hb he ht=>
  intro p hp;rw[List.mem_singleton.1 hp];exact .inst hs (aqr hq (dN _)) hb (vV (Fa (Q:=fun p=>PQ sp p.2) (mK (aJ e)).eq e (bQ _) fun a ha=>(he a ha).1))
 |eq h h5 h8 h10 h12=>
  have e0:fh I kd d=e_ I kd d:=by unfold fh;rw[if_neg h5,if_neg h8,if_neg h10,if_neg h12]
  rw[e0];exact fun p hp=>.eq ((mK (aL d)).eq _ (bQ _) h p hp)
def Qq:∀l:List X,(∀d∈l,fE sp d=true)→∀p∈iE I kd l,PT sp p.2
 | [],_=>by simp [iE]
 |d::l,h=>by
  rw[iE];intro p hp;rcases List.mem_append.1 hp with hp|hp
  ·exact amV (h d aw) p hp
  ·exact Qq l (fun x hx=>h x (by simp [hx])) p hp
def ahw (hK:j9 sp kd){n:X}(h:qD sp n=true):∃P,Cf sp P∧(∃s a i d,n=ag 2 s [a,listed i,listed d]∧P=ag 2 s [a,listed i,listed (aD (iE I kd d))])∧(∀j,Fx (vB j P) n)∧∀k,Y (qv k) ⟨uu I kd n,0⟩ P ⟨[],0⟩:=by
 have eta:=RL n;unfold qD at h;simp only[aQ,cx] at h;obtain⟨⟨⟨hk,hn⟩,hs⟩,h⟩:=h
 match cS:n.ae,h with
 | [a,b,c],h=>
  rw[hk,hn,cS] at eta
  revert hs eta
  generalize n.name=s;intro hs eta;subst eta;have h':(pY sp a&&iY 0 (oB sp) b&&iY 0 (fE sp) c&&fX [] c.ae)=true:=h;simp only[aQ] at h';obtain⟨⟨⟨h1,h2⟩,h3⟩,h4⟩:=h';obtain⟨is,rfl,_,hi⟩:=qz h2;obtain⟨ds,rfl,_,hd⟩:=qz h3;have e1:uu I kd (.mk 2 s 0 [a,listed is,listed ds])=kw I HW::⟨2,s,0⟩::(rl I kd a++(kw I gj::kw I cw::(bq I cn (is.map (ql I kd)++iE I kd ds)++[kw I cd,⟨9,[],0⟩]))):=by
   unfold uu;rw[show (X.mk 2 s 0 [a,listed is,listed ds]).name=s from rfl,vg hK hs]
   rfl
  refine⟨ag 2 s [a,listed is,listed (aD (iE I kd ds))],.mk hs h1 hi (vV (Qq ds hd)),⟨s,a,is,ds,rfl,rfl⟩,fun j=>?_,fun k=>?_⟩
  ·unfold vB;refine Fx.bind (b:=ds.flatMap (bW I kd)) (Rl j ds hd) (Fx.bind (b:=ds) ?_ Fx.pure);have:=Ma (I:=I) (kd:=kd) ds j [] false [] hd h4 ⟨(fun h=>by cases h),fun _=>rfl⟩
   rwa [cD] at this
  ·have hg:=Y.module (I:=I) (k:=k) (s:=s) (t:=[]) (n:=0) (Ql (I:=I) hK h1) (wR (Q:=fun p=>BZ I p.1 p.2) hi fun a ha=>aaM hK ha) (Y0 (I:=I) hK ds hd)
   rwa [←e1,wv (fun _=>rfl)] at hg
end
set_option maxHeartbeats 4000000
def agZ (x:W)(va:Value)(tl:List Tok)(Z:World)(hT:aG Z [] va aM tl)(he:tl.map bP=uu aq aA x.er)(hm:qD aU x.er=true)(hz:aL x.er≤1048576):aH prog 7 #[va] Z (fun v w'=>∃(y:W) (d:fI) (q:aR),v=.tuple #[.agg (av.cells y).toArray,.agg (dZ d).toArray]∧(d.number=0∧y.er=x.er∨d.number=32)∧q.has y∧St Z [] w' [bO q]):=by
 obtain⟨hv,rfl⟩:=Ke hT;obtain⟨P,hP,⟨s,e,i,d,hn,hPe⟩,hf,hg⟩:=ahw (I:=aq) alD hm;rw[←he] at hg;have HZ:aL P≤12 * aL x.er:=by
  have:=V4 d;rw[hPe,hn];simp only[bU,dz,bR,ft];omega
 have hl:=congrArg List.length he;rw[dW] at hl;have hL:=XJ x.er;obtain⟨j,hj⟩:=ae3 hP;have hfin:=(Fin.module (s:=⟨tl.map bP,0⟩) (k:=24 * (tl.map bP).length+6) (bQ _)).1;have hp:oE (24 * (tl.map bP).length+6) j (tl.map bP)=.error 32∨oE (24 * (tl.map bP).length+6) j (tl.map bP)=.ok x.er:=by
  unfold oE;rcases hg (24 * (tl.map bP).length+6) with h|h|h
  ·exact absurd h hfin
  ·rw[h];exact .inl rfl
  ·rw[h];rcases hf j with h|h
   ·exact absurd h hj
   ·simp only;rw[h];exact .inr rfl
 have aW:oE (24 * (tl.map bP).length+6) j (tl.map bP)≠.error (-1):=fun e=>by
  rcases hp with hp|hp<;>rw[hp] at e
  ·injection e with e;exact absurd e ai
  ·cases e
 refine aH.mono (Xr (24 * (tl.map bP).length+6) j hv tl Z hT V aW fun y s h=>?_) ?_
 ·have hy:y.er=P:=by
   rcases hg (24 * (tl.map bP).length+6) with h'|h'|h'<;>rw[h'] at h
   ·cases h
   ·cases h
   ·injection h with h;injection h with h;exact h.symm
  exact P2 (sp:=aU) (by rw[hy];exact hP) (by rw[hy];omega)
 rintro v w ⟨y,l,c,er,q,rfl,hy,hq,hS⟩;refine⟨y,⟨[],l,c,er⟩,q,rfl,?_,hq,hS⟩;rcases hp with hp|hp<;>rw[hp] at hy
 ·rcases hy with ⟨hy,-⟩| ⟨hy,-⟩
  ·cases hy
  ·injection hy with hy;exact .inr hy.symm
 ·rcases hy with ⟨hy,hr,-⟩| ⟨hy,-⟩
  ·injection hy with hy;exact .inl ⟨hr,hy.symm⟩
  ·cases hy
def apJ (Z:World)(x:W)(hG:cL Z [])(hz:aL x.er≤1048576)(hg:qY x.er)(hR:bS Z [] x):aH prog 4 #[.agg (av.cells x).toArray] Z (fun v w'=>v=.bool true∧St Z [] w' []):=by
 have O:=St.bL Z;refine aS func4 ntmps4 fun a U=>?_;refine Zb 1 fun v1 a w O U=>?_;refine Zv 2 fun a U=>?_;refine Yc 0 (Vq 1048576 ai x ⟨V,hg⟩ _ (hG.ba O) (hR.ba O)) fun a w O U=>?_;refine Wn 0 fun a U=>?_;refine Zi 0 (fun ao=>?_) fun ao=>?_
 ·refine Yc 0 (OK _ (hG.ba O)) fun a w O U=>?_;refine Zr 1 ?_;exact⟨rfl,O.kp⟩
 have hm:qD aU x.er=true:=Classical.not_not.1 ao;obtain⟨u0,y0,z0,dX,OQ,Eu⟩:=aid hm;obtain⟨u,y,z,hs,rfl,rfl,rfl⟩:=Kj dX;have hb:=jO OQ;have hc:=jO Eu;have hT:=aa4 hs hb hc;have hlen:=XJ x.er;rw[hT,bt] at hlen;simp only[bg,bp] at hlen;refine Zb 1 fun bs a w O U=>?_;have O:=O.eI 44 5;have O:St _ _ _ (ax (aC.v bj) 44 aM ([]:List Tok)::[.ob bs 37 [aC.v bj],_]):=O;have O:=O.q [1,0];refine Yc 1 (adD x V hs hb hc (St.aI O) (hR.df O) (by rw[bp];omega)) fun v2 o2 e2 n2 a w O U=>?_;rw[bp] at n2;refine Yc 0 (uM 9 [] (St.aI O) trivial (by simp only[bg,bp];omega)) fun v3 o3 e3 n3 a w O U=>?_;have he:o3.map bP=uu aq aA x.er:=by rw[e3,e2,hT];rfl
 refine Yc 2 (agZ x _ _ _ (O.bW 1 rfl) he hm hz) fun m d q hy hq a w O U=>?_;refine Zb 4 fun en a w O U=>?_;refine Zb 6 fun ed a w O U=>?_;refine Zi 0 (fun ay=>?_) fun ay=>?_
 ·refine Yc 0 (OK _ (hG.ba O)) fun a w O U=>?_;refine Zr 1 ?_;exact⟨rfl,O.kp⟩
 obtain⟨hd,hy⟩:=hy.resolve_right ay;refine Zv 4 fun a U=>?_;refine ct U rfl rfl rfl rfl (da hd) ?_;refine Zv 1 fun a U=>?_;refine ct U rfl rfl rfl rfl (da hd) ?_;refine Zv 1 fun a U=>?_;refine ct U rfl rfl rfl rfl (da hd) ?_;refine Yc 0 (Qe _ m x _ (bQ _) hy (O.N8 2 rfl hq) (hR.ba O)) fun a w O U=>?_;refine Wa 0 fun a U=>?_;refine Zv 1 fun a U=>?_;refine ct U rfl rfl rfl rfl (da ⟨hd,rfl⟩) ?_;refine Yc 0 (OK _ (hG.ba O)) fun a w O U=>?_;refine Wa 0 fun a U=>?_;refine Zr 1 ?_;exact⟨congrArg Value.bool (decide_eq_true ⟨⟨hd,rfl⟩,rfl⟩),O.kp⟩
end Go.Proofs.YtdfccaonglmgpaaGreatDoor
