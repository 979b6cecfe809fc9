/- Q03 -/
import Derived.Test.YtdfccaonglmgpaaGreatDoorQ01
import Derived.Test.YtdfccaonglmgpaaGreatDoorQ02
set_option linter.all false
namespace Go.Proofs.YtdfccaonglmgpaaGreatDoor
section
variable (sp:List UInt8→Int→Bool)
inductive EV:X→Prop
 |var {s}:isVar sp s=true→EV (ag 18 s [])
 |con {s}:kX sp s=true→EV (ag 19 s [])
 |int {n}:0≤n→EV (.mk 20 [] n [])
 |str {s}:EV (ag 21 s [])
 |app {a b}:bu sp a=true→bu sp b=true→EV (ag 22 [] [a,b])
 |ops {a l}:bu sp a=true→pt sp l=true→l≠[]→EV (ag 23 [] (a::l))
 |lam {l e}:l≠[]→(∀a∈l,cK sp a=true)→bu sp e=true→EV (ag 25 [] [listed l,e])
 |elet {l e}:(∀a∈l,dT sp a=true)→fX [] l=true→bu sp e=true→EV (ag 26 [] [listed l,e])
 |eif {a b c}:bu sp a=true→bu sp b=true→bu sp c=true→EV (ag 27 [] [a,b,c])
 |ecase {a l}:bu sp a=true→(∀x∈l,qu sp x=true)→EV (ag 28 [] (a::l))
 |edo {l}:(∀x∈l,oX sp x=true)→l≠[]→mi (l.getLastD cc)=false→EV (ag 30 [] l)
 |tup {l}:(∀x∈l,bu sp x=true)→l.length=2∨l.length=3→EV (ag 31 [] l)
 |lst {l}:(∀x∈l,bu sp x=true)→EV (ag 32 [] l)
 |left {a o}:bu sp a=true→eK sp o=true→EV (ag 33 [] [a,o])
 |right {o e}:eK sp o=true→bu sp e=true→EV (ag 34 [] [o,e])
 |make {s l}:kX sp s=true→(∀x∈l,qS sp x=true)→EV (ag 35 s l)
 |put {a l}:a.kind≠19→bu sp a=true→l≠[]→(∀x∈l,qS sp x=true)→EV (ag 36 [] (a::l))
inductive PV:X→Prop
 |var {s}:isVar sp s=true→PV (ag 42 s [])
 |wild:PV (ag 43 [] [])
 |int {n}:0≤n→PV (.mk 44 [] n [])
 |str {s}:PV (ag 45 s [])
 |con {s l}:kX sp s=true→(∀x∈l,cK sp x=true)→PV (ag 46 s l)
 |ops {a l}:cK sp a=true→nO sp l=true→l≠[]→PV (ag 47 [] (a::l))
 |tup {l}:(∀x∈l,cK sp x=true)→l.length=2∨l.length=3→PV (ag 48 [] l)
 |lst {l}:(∀x∈l,cK sp x=true)→PV (ag 49 [] l)
 |eas {s a}:qj sp s=true→cK sp a=true→PV (ag 50 s [a])
 |make {s l}:kX sp s=true→(∀x∈l,r6 sp x=true)→PV (ag 51 s l)
variable {sp}
def Uc {l:List X}(h:l.length=2):∃a b,l=[a,b]:=by
 match l,h with
 | [a,b],_=>exact⟨a,b,rfl⟩
def afo {l:List X}(h:l.length=3):∃a b c,l=[a,b,c]:=by
 match l,h with
 | [a,b,c],_=>exact⟨a,b,c,rfl⟩
def k8 {n:X}(h:cK sp n=true):PV sp n:=by
 obtain⟨k,s,n,l⟩:=n;rw[cK] at h
 by_cases h1:k=44
 ·subst h1;simp only[if_true,aQ,cx,dQ] at h;obtain⟨⟨rfl,hn⟩,rfl⟩:=h;exact .int hn
 rw[if_neg h1,aQ] at h;obtain⟨hn,h⟩:=h;have hn:=j4 hn;subst hn
 by_cases h1:k=42
 ·subst h1;simp only[if_true,aQ,dQ] at h;obtain⟨hs,rfl⟩:=h;exact .var hs
 rw[if_neg h1] at h
 by_cases h1:k=43
 ·subst h1;simp only[if_true,aQ,dQ] at h;obtain⟨rfl,rfl⟩:=h;exact .wild
 rw[if_neg h1] at h
 by_cases h1:k=45
 ·subst h1;simp only[if_true,dQ] at h;subst h;exact .str
 rw[if_neg h1] at h
 by_cases h1:k=46
 ·subst h1;simp only[if_true,aQ] at h;exact .con h.1 (zH.1 h.2)
 rw[if_neg h1] at h
 by_cases h1:k=47
 ·subst h1;simp only[if_true,aQ,cx,dQ] at h;obtain⟨⟨rfl,hl⟩,h⟩:=h
  cases l with
  |nil=>simp at hl
  |cons a l=>
   simp only[mA,aQ] at h;exact .ops h.1 h.2 (by intro e;subst e;simp at hl)
 rw[if_neg h1] at h
 by_cases h1:k=48
 ·subst h1;simp only[if_true,aQ,cx,dQ] at h;obtain⟨⟨rfl,h⟩,hl⟩:=h;exact .tup (zH.1 h) hl
 rw[if_neg h1] at h
 by_cases h1:k=49
 ·subst h1;simp only[if_true,aQ,dQ] at h;obtain⟨rfl,h⟩:=h;exact .lst (zH.1 h)
 rw[if_neg h1] at h
 by_cases h1:k=50
 ·subst h1;simp only[if_true,aQ] at h;obtain⟨e,rfl,he⟩:=WH h.2;exact .eas h.1 he
 rw[if_neg h1] at h
 by_cases h1:k=51
 ·subst h1;simp only[if_true,aQ] at h;exact .make h.1 (T_.1 h.2)
 rw[if_neg h1] at h;cases h
def jw {n:X}(h:bu sp n=true):EV sp n:=by
 obtain⟨k,s,n,l⟩:=n;rw[bu] at h
 by_cases h1:k=20
 ·subst h1;simp only[if_true,aQ,cx,dQ] at h;obtain⟨⟨rfl,hn⟩,rfl⟩:=h;exact .int hn
 rw[if_neg h1,aQ] at h;obtain⟨hn,h⟩:=h;have hn:=j4 hn;subst hn
 by_cases h1:k=18
 ·subst h1;simp only[if_true,aQ,dQ] at h;obtain⟨hs,rfl⟩:=h;exact .var hs
 rw[if_neg h1] at h
 by_cases h1:k=19
 ·subst h1;simp only[if_true,aQ,dQ] at h;obtain⟨hs,rfl⟩:=h;exact .con hs
 rw[if_neg h1] at h
 by_cases h1:k=21
 ·subst h1;simp only[if_true,dQ] at h;subst h;exact .str
 rw[if_neg h1] at h
 by_cases h1:k=22
 ·subst h1;simp only[if_true,aQ,cx,dQ] at h;obtain⟨⟨rfl,hl⟩,h⟩:=h;obtain⟨a,b,rfl⟩:=Uc hl;have h:=Be.1 h;exact .app (h a aw) (h b aw)
 rw[if_neg h1] at h
 by_cases h1:k=23
 ·subst h1;simp only[if_true,aQ,cx,dQ] at h;obtain⟨⟨rfl,hl⟩,h⟩:=h
  cases l with
  |nil=>simp at hl
  |cons a l=>
   simp only[nB,aQ] at h;exact .ops h.1 h.2 (by intro e;subst e;simp at hl)
 rw[if_neg h1] at h
 by_cases h1:k=25
 ·subst h1;simp only[if_true,aQ,dQ] at h;obtain⟨rfl,h⟩:=h
  cases l with
  |nil=>simp [zF] at h
  |cons a l=>
   simp only[zF,aQ,cx,dQ] at h;obtain⟨⟨⟨⟨⟨g1,g2⟩,g3⟩,g4⟩,g5⟩,g6⟩:=h;obtain⟨e,rfl,he⟩:=zJ g6;obtain⟨ka,sa,na,la⟩:=a;simp only[X.kind,X.n,X.name,X.ae] at g1 g2 g3 g4 g5;subst g1 g2 g3;exact .lam g4 (zH.1 g5) he
 rw[if_neg h1] at h
 by_cases h1:k=26
 ·subst h1;simp only[if_true,aQ,dQ] at h;obtain⟨rfl,h⟩:=h
  cases l with
  |nil=>simp [Bf] at h
  |cons a l=>
   simp only[Bf,aQ] at h;obtain⟨e,rfl,he⟩:=zJ h.2;obtain⟨q,rfl,g1,g2⟩:=I9 h.1;exact .elet g1 g2 he
 rw[if_neg h1] at h
 by_cases h1:k=27
 ·subst h1;simp only[if_true,aQ,cx,dQ] at h;obtain⟨⟨rfl,hl⟩,h⟩:=h;obtain⟨a,b,c,rfl⟩:=afo hl;have h:=Be.1 h;exact .eif (h a aw) (h b aw) (h c aw)
 rw[if_neg h1] at h
 by_cases h1:k=28
 ·subst h1;simp only[if_true,aQ,dQ] at h;obtain⟨rfl,h⟩:=h
  cases l with
  |nil=>simp [zP] at h
  |cons a l=>
   simp only[zP,aQ] at h;exact .ecase h.1 (TO.1 h.2)
 rw[if_neg h1] at h
 by_cases h1:k=30
 ·subst h1;simp only[if_true,aQ,cx,dQ] at h;obtain⟨⟨⟨rfl,h⟩,h0⟩,hl⟩:=h;exact .edo (XX.1 h) h0 (by simpa using hl)
 rw[if_neg h1] at h
 by_cases h1:k=31
 ·subst h1;simp only[if_true,aQ,cx,dQ] at h;obtain⟨⟨rfl,h⟩,hl⟩:=h;exact .tup (Be.1 h) hl
 rw[if_neg h1] at h
 by_cases h1:k=32
 ·subst h1;simp only[if_true,aQ,dQ] at h;obtain⟨rfl,h⟩:=h;exact .lst (Be.1 h)
 rw[if_neg h1] at h
 by_cases h1:k=33
 ·subst h1;simp only[if_true,aQ,dQ] at h;obtain⟨rfl,h⟩:=h
  match l,h with
  | [a,o],h=>
   simp only[sF,aQ] at h;exact .left h.1 h.2
  | [],h=>simp [sF] at h
  | [a],h=>simp [sF] at h
  |_::_::_::_,h=>simp [sF] at h
 rw[if_neg h1] at h
 by_cases h1:k=34
 ·subst h1;simp only[if_true,aQ,dQ] at h;obtain⟨rfl,h⟩:=h
  cases l with
  |nil=>simp [AT] at h
  |cons o l=>
   simp only[AT,aQ] at h;obtain⟨e,rfl,he⟩:=zJ h.2;exact .right h.1 he
 rw[if_neg h1] at h
 by_cases h1:k=35
 ·subst h1;simp only[if_true,aQ] at h;exact .make h.1 (L9.1 h.2)
 rw[if_neg h1] at h
 by_cases h1:k=36
 ·subst h1;simp only[if_true,aQ,dQ] at h;obtain⟨rfl,h⟩:=h
  cases l with
  |nil=>simp [Ak] at h
  |cons a l=>
   simp only[Ak,aQ,cx] at h;exact .put h.1.1.1 h.1.1.2 h.1.2 (L9.1 h.2)
 rw[if_neg h1] at h;cases h
def EB {f:X}(h:qS sp f=true):∃s e,f=ag 37 s [e]∧isVar sp s=true∧bu sp e=true:=by
 obtain⟨k,s,n,l⟩:=f;simp only[qS,aQ,cx] at h;obtain⟨⟨⟨rfl,rfl⟩,h1⟩,h2⟩:=h;obtain⟨e,rfl,he⟩:=zJ h2;exact⟨s,e,rfl,h1,he⟩
def Fl {f:X}(h:r6 sp f=true):∃s e,f=ag 37 s [e]∧isVar sp s=true∧cK sp e=true:=by
 obtain⟨k,s,n,l⟩:=f;simp only[r6,aQ,cx] at h;obtain⟨⟨⟨rfl,rfl⟩,h1⟩,h2⟩:=h;obtain⟨e,rfl,he⟩:=WH h2;exact⟨s,e,rfl,h1,he⟩
def HA {f:X}(h:qu sp f=true):∃p r,f=ag 29 [] [p,r]∧cK sp p=true∧fD sp r=true:=by
 obtain⟨k,s,n,l⟩:=f;simp only[qu,aQ,cx,dQ] at h;obtain⟨⟨⟨rfl,rfl⟩,rfl⟩,h2⟩:=h;obtain⟨p,r,rfl,hp,hr⟩:=Tl h2;exact⟨p,r,rfl,hp,hr⟩
inductive SV (sp:List UInt8→Int→Bool):X→Prop
 |exp {e}:bu sp e=true→e.kind≠40→e.kind≠41→SV sp e
 |gen {a e}:cK sp a=true→bu sp e=true→SV sp (ag 40 [] [a,e])
 |slet {l}:(∀a∈l,dT sp a=true)→fX [] l=true→SV sp (ag 41 [] [listed l])
def DB {f:X}(h:oX sp f=true):SV sp f:=by
 obtain⟨k,s,n,l⟩:=f;rw[oX] at h
 by_cases h1:k=40
 ·subst h1;simp only[if_true,aQ,cx,dQ] at h;obtain⟨⟨rfl,rfl⟩,h⟩:=h
  cases l with
  |nil=>simp [BF] at h
  |cons a l=>
   simp only[BF,aQ] at h;obtain⟨e,rfl,he⟩:=zJ h.2;exact .gen h.1 he
 rw[if_neg h1] at h
 by_cases h2:k=41
 ·subst h2;simp only[if_true,aQ,cx,dQ] at h;obtain⟨⟨rfl,rfl⟩,h⟩:=h;obtain⟨q,rfl,hq⟩:=Q3 h;obtain⟨l,rfl,g1,g2⟩:=I9 hq;exact .slet g1 g2
 rw[if_neg h2] at h;exact .exp h h1 h2
inductive RV (sp:List UInt8→Int→Bool):X→Prop
 |plain {e l}:bu sp e=true→(∀a∈l,dT sp a=true)→fX [] l=true→RV sp (ag 16 [] [listed [ag 17 [] [cc,e]],listed l])
 |guards {g l}:g≠[]→(∀a∈g,∃c e,a=ag 17 [] [c,e]∧bu sp c=true∧bu sp e=true)→(∀a∈l,dT sp a=true)→fX [] l=true→RV sp (ag 16 [] [listed g,listed l])
def Gq {r:X}(h:fD sp r=true):RV sp r:=by
 obtain⟨k,s,n,l⟩:=r;simp only[fD,aQ,cx,dQ] at h;obtain⟨⟨⟨rfl,rfl⟩,rfl⟩,h⟩:=h
 cases l with
 |nil=>simp [y6] at h
 |cons g l=>
  simp only[y6,aQ] at h;obtain⟨hg,h⟩:=h;obtain⟨q,rfl,hq⟩:=Q3 h;obtain⟨l,rfl,g1,g2⟩:=I9 hq;obtain⟨kg,sg,ng,lg⟩:=g;simp only[Cv,aQ,fW,cx,dQ] at hg;obtain⟨⟨⟨⟨rfl,rfl⟩,rfl⟩,h0⟩,hg⟩:=hg;rcases hg with hg| ⟨hl,hg⟩
  ·refine .guards h0 (fun a ha=>?_) g1 g2;have:=R2.1 hg a ha;obtain⟨ka,sa,na,la⟩:=a;simp only[zY,aQ,cx,dQ] at this;obtain⟨⟨⟨⟨rfl,rfl⟩,rfl⟩,hl⟩,h⟩:=this;obtain⟨c,e,rfl⟩:=Uc hl;have h:=Be.1 h;exact⟨c,e,rfl,h c aw,h e aw⟩
  ·match lg,hl with
   | [a],_=>
    simp only[tj,Bool.and_true] at hg;obtain⟨ka,sa,na,la⟩:=a;simp only[B1,aQ,cx,dQ] at hg;obtain⟨⟨⟨rfl,rfl⟩,rfl⟩,h⟩:=hg
    cases la with
    |nil=>simp [yZ] at h
    |cons c la=>
     simp only[yZ,aQ] at h;obtain⟨e,rfl,he⟩:=zJ h.2;have hc:=h.1;obtain⟨kc,sc,nc,lc⟩:=c;simp only[ox,aQ,cx,dQ] at hc;obtain⟨⟨⟨c1,c2⟩,c3⟩,c4⟩:=hc;simp only[X.kind,X.n,X.name,X.ae] at c1 c2 c3 c4;subst c1 c2 c3 c4;exact .plain he g1 g2
inductive JD (sp:List UInt8→Int→Bool):X→Prop
 |pat {p r}:cK sp p=true→p.kind≠42→fD sp r=true→JD sp (ag 15 [] [p,r])
 |fn {s l j}:isVar sp s=true→l≠[]→(∀c∈l,∃ps r,c=ag 14 [] [listed ps,r]∧ps.length=j∧(∀p∈ps,cK sp p=true)∧fD sp r=true)→(0<j∨l.length=1)→JD sp (ag 13 s l)
def wJ {d:X}(h:dT sp d=true):JD sp d:=by
 obtain⟨k,s,n,l⟩:=d
 by_cases h1:k=13
 ·subst h1;obtain⟨p1,p2,p3,p4,p5⟩:=amm h rfl;simp only[X.n,X.name,X.ae] at p1 p2 p3 p4;subst p1;have hj:arity (.mk 13 s 0 l)>0∨l.length=1:=by
   simp only[dT,if_true,aQ,cx,Cn] at h;exact h.2.1
  refine .fn (j:=arity (.mk 13 s 0 l)) p2 p3 (fun c hc=>?_) hj;have h4:=RY.1 p4 c hc;have h5:=List.all_eq_true.1 p5 c hc;obtain⟨kc,sc,nc,lc⟩:=c;simp only[BH,aQ,cx,dQ] at h4;obtain⟨⟨⟨rfl,rfl⟩,rfl⟩,h4⟩:=h4
  cases lc with
  |nil=>simp [zB] at h4
  |cons a lc=>
   simp only[zB,aQ,cx,dQ] at h4;obtain⟨⟨⟨⟨q1,q2⟩,q3⟩,q4⟩,q5⟩:=h4;obtain⟨r,rfl,hr⟩:=Pq q5;obtain⟨ka,sa,na,la⟩:=a;simp only[X.kind,X.n,X.name,X.ae] at q1 q2 q3 q4;subst q1 q2 q3;exact⟨la,r,rfl,by simpa [sub,X.ae] using h5,zH.1 q4,hr⟩
 ·rw[dT,if_neg h1] at h;simp only[aQ,cx,dQ] at h;obtain⟨⟨⟨⟨rfl,rfl⟩,rfl⟩,h42⟩,h⟩:=h;obtain⟨p,r,rfl,hp,hr⟩:=Tl h;exact .pat hp h42 hr
end
section
variable {I:List UInt8→Bool} {kd:List UInt8→Int} {sp:List UInt8→Int→Bool}
def Mg {l:List X}(h:pt sp l=true):(∀i o,l[2 * i]?=some o→eK sp o=true)∧(∀i a,l[2 * i+1]?=some a→bu sp a=true)∧(l≠[]→eY I kd l≠[]):=
 OI (f:=eK sp) (g:=nB sp) (h:=pt sp) (E:=fun a=>bu sp a=true) (fun a l h=>by simp only[nB,aQ] at h;exact h.2) (by simp [nB]) (fun a l h=>by simp only[nB,aQ] at h;exact h.1) (fun o l h=>by simp only[pt,aQ] at h;exact h) l h
def M3 {l:List X}(h:nO sp l=true):(∀i o,l[2 * i]?=some o→j6 sp o=true)∧(∀i a,l[2 * i+1]?=some a→cK sp a=true)∧(l≠[]→eY I kd l≠[]):=
 OI (f:=j6 sp) (g:=mA sp) (h:=nO sp) (E:=fun a=>cK sp a=true) (fun a l h=>by simp only[mA,aQ] at h;exact h.2) (by simp [mA]) (fun a l h=>by simp only[mA,aQ] at h;exact h.1) (fun o l h=>by simp only[nO,aQ] at h;exact h) l h
def Jv {o:X}(h:j6 sp o=true):eK sp o=true:=by simp only[j6,aQ] at h;exact h.2
def Uu {w:List UInt8}{e:X}:f_ I kd w [ag 17 [] [cc,e]]=[(kw I w::(au I kd e).1,ag 17 [] [cc,(au I kd e).2])]:=by
 simp [f_,mj,ag,cc,X.kind]
def RU {w:List UInt8}{m:Nat}(hE:∀n,aL n≤m→bu sp n=true→dS I (au I kd n).1 (au I kd n).2):∀(g:List X),aJ g≤m→(∀a∈g,∃c e,a=ag 17 [] [c,e]∧bu sp c=true∧bu sp e=true)→
  ∃qs:List (TP×TP),(∀q∈qs,dS I q.1.1 q.1.2)∧(∀q∈qs,dS I q.2.1 q.2.2)∧fy (f_ I kd w g)=ov I w qs∧aD (f_ I kd w g)=AI qs∧qs.length=g.length
 | [],_,_=>⟨[],aw,aw,by simp [f_,fy,ov],by simp [f_,aD,AI],rfl⟩
 |a::g,hm,h=>by
  rw[aJ] at hm;obtain⟨c,e,rfl,hc,he⟩:=h a aw;rw[bU] at hm;simp only[aJ] at hm;obtain⟨qs,i1,i2,i3,i4,i5⟩:=RU hE g V fun x hx=>h x (by simp [hx]);have hk:¬c.kind=0:=by
   have:=jw hc;cases this<;>simp [ag,X.kind]
  have e1:mj I kd w (ag 17 [] [c,e])=(kw I mW::((au I kd c).1++(kw I w::(au I kd e).1)),ag 17 [] [(au I kd c).2,(au I kd e).2]):=by
   simp only[mj,ag];rw[if_neg hk]
  refine⟨(au I kd c,au I kd e)::qs,?_,?_,?_,?_,by simp [i5]⟩
  ·intro q hq;rcases List.mem_cons.1 hq with rfl|hq
   ·exact hE c V hc
   ·exact i1 q hq
  ·intro q hq;rcases List.mem_cons.1 hq with rfl|hq
   ·exact hE e V he
   ·exact i2 q hq
  ·rw[f_,fy,e1,ov,i3];simp
  ·rw[f_,AI,←i4,e1];rfl
def Jk {Q:TP→Prop}{s:List UInt8}:∀(l:List X),(∀c∈l,Q (jF I kd s c))→∀p∈fQ I kd s l,Q p
 | [],_=>by simp [fQ]
 |a::l,h=>by
  rw[fQ];intro p hp;rcases List.mem_cons.1 hp with rfl|hp
  ·exact h a aw
  ·exact Jk l (fun x hx=>h x (by simp [hx])) p hp
def wK (hK:j9 sp kd):∀m,WK I kd sp m
 |0=>by
  constructor
  ·intro n h;have:=dx n;omega
  ·intro n h;have:=dx n;omega
  ·intro n h;have:=dx n;omega
  ·intro n h;have:=dx n;omega
  ·intro n h;have:=dx n;omega
  ·intro w n h;have:=dx n;omega
  ·intro n h;have:=dx n;omega
 |m+1=>by
  have K:=wK hK m;have exps:∀l,aJ l≤m→(∀a∈l,bu sp a=true)→∀p∈bI I kd l,dS I p.1 p.2:=GN fun a h1 h2=>(K.exp a h1 h2).1;have pats:∀l,aJ l≤m→(∀a∈l,cK sp a=true)→∀p∈bI I kd l,dS I p.1 p.2:=GN fun a h1 h2=>K.pat a h1 h2;have eqs:∀l,aJ l≤m→(∀a∈l,dT sp a=true)→∀p∈cU I kd l,rk I p.1 p.2:=Fa K.eq;have expO:=Nn (I:=I) (kd:=kd) (m:=m) (E:=fun a=>bu sp a=true) (op:=eK sp) (fun a h1 h2=>(K.exp a h1 h2).1) (fun o h=>Ch hK h);have patO:=Nn (I:=I) (kd:=kd) (m:=m) (E:=fun a=>cK sp a=true) (op:=j6 sp) (fun a h1 h2=>K.pat a h1 h2) (fun o h=>Ch hK (Jv h));have br:∀{a:X},dS I (au I kd a).1 (au I kd a).2→iQ I (cY I (au I kd a).1) (au I kd a).2:=fun h=>.paren h;have hexp:∀n,aL n≤m+1→bu sp n=true→dS I (au I kd n).1 (au I kd n).2∧(n.kind≠19→(au I kd n).2.kind≠19):=by
   intro n hm h;have hV:=jw h;clear h
   cases hV with
   |var h=>exact⟨ma (.var (zX hK h)),fun _=>by simp [au,ag,X.kind]⟩
   |con h=>exact⟨ma (.con (Iw hK h)),fun h=>absurd rfl h⟩
   |int h=>exact⟨ma .int,fun _=>by simp [au,X.kind]⟩
   |str=>exact⟨ma .str,fun _=>by simp [au,ag,X.kind]⟩
   | @app a b ha hb=>
    simp only[bU,aJ] at hm;have h2:=(K.exp b V hb).1;have:=Od (ps:=[au I kd b]) (br (K.exp a V ha).1) (by intro p hp;rw[List.mem_singleton.1 hp];exact h2);have e:au I kd (ag 22 [] [a,b])=(cY I (au I kd a).1++(cY I (au I kd b).1++[]),fg ((au I kd a).2::aD [au I kd b])):=by
     simp [au,ag,bI,ie,aD]
    rw[e];exact⟨this,fun _=>by simp only[aD,bf,bX];exact akl⟩
   | @ops a l ha hl h0=>
    simp only[bU,aJ] at hm;obtain⟨s1,s2,s3⟩:=Mg (I:=I) (kd:=kd) hl;obtain⟨o1,o2⟩:=expO l V s1 s2;have e:au I kd (ag 23 [] (a::l))=(cY I (au I kd a).1++kQ (eY I kd l),ag 23 [] ((au I kd a).2::fU (eY I kd l))):=by rw[au.eq_def];rfl
    rw[e];exact⟨.ops (.base (br (K.exp a V ha).1)) o1 o2 (s3 h0),fun _=>by simp [ag,X.kind]⟩
   | @lam l e h0 hl he=>
    simp only[bU,dz,aJ] at hm;have e1:au I kd (ag 25 [] [listed l,e])=(kw I u1::(ie I (bI I kd l)++(kw I dC::(au I kd e).1)),ag 25 [] [listed (aD (bI I kd l)),(au I kd e).2]):=by rw[au.eq_def];rfl
    rw[e1,NO,←PK (I:=I)];refine⟨.opnd (.lam (Vv (pats l V hl)) ?_ (K.exp e V he).1),fun _=>by simp [ag,X.kind]⟩;intro h;have:=congrArg List.length h;rw[dW,Io] at this;exact h0 (kj this)
   | @elet l e hl ht he=>
    simp only[bU,dz,aJ] at hm;have e1:au I kd (ag 26 [] [listed l,e])=(kw I qa::kw I cw::(bq I cn (cU I kd l)++(kw I cd::kw I yD::(au I kd e).1)),ag 26 [] [listed (aD (cU I kd l)),(au I kd e).2]):=by rw[au.eq_def];rfl
    rw[e1];exact⟨.opnd (.elet (eqs l V hl) (K.exp e V he).1),fun _=>by simp [ag,X.kind]⟩
   | @eif a b c ha hb hc=>
    simp only[bU,aJ] at hm;have e1:au I kd (ag 27 [] [a,b,c])=(kw I uV::((au I kd a).1++(kw I zK::((au I kd b).1++(kw I BP::(au I kd c).1)))),ag 27 [] [(au I kd a).2,(au I kd b).2,(au I kd c).2]):=by rw[au.eq_def];rfl
    rw[e1];exact⟨.opnd (.eif (K.exp a V ha).1 (K.exp b V hb).1 (K.exp c V hc).1),fun _=>by simp [ag,X.kind]⟩
   | @ecase a l ha hl=>
    simp only[bU,aJ] at hm;have e1:au I kd (ag 28 [] (a::l))=(kw I ua::((au I kd a).1++(kw I AM::kw I cw::(bq I cn (kY I kd l)++[kw I cd]))),ag 28 [] ((au I kd a).2::aD (kY I kd l))):=by rw[au.eq_def];rfl
    rw[e1];exact⟨.opnd (.ecase (K.exp a V ha).1 (NC K.alt l V hl)),fun _=>by simp [ag,X.kind]⟩
   | @edo l hl h0 hs=>
    simp only[bU] at hm;have e1:au I kd (ag 30 [] l)=(kw I uh::kw I cw::(bq I cn (kU I kd l)++[kw I cd]),ag 30 [] (aD (kU I kd l))):=by rw[au.eq_def];rfl
    rw[e1];exact⟨.opnd (.edo (Mj (Q:=fun p=>vO I p.1 p.2) K.stm l V hl)),fun _=>by simp [ag,X.kind]⟩
   | @tup l hl h2=>
    simp only[bU] at hm;have e1:au I kd (ag 31 [] l)=(kw I bY::(bq I bD (bI I kd l)++[kw I bB]),ag 31 [] (aD (bI I kd l))):=by rw[au.eq_def];rfl
    rw[e1];exact⟨ma (.tup (exps l V hl) (by rw[Io];exact h2)),fun _=>by simp [ag,X.kind]⟩
   | @lst l hl=>
    simp only[bU] at hm;have e1:au I kd (ag 32 [] l)=(kw I eX::(bq I bD (bI I kd l)++[kw I iI]),ag 32 [] (aD (bI I kd l))):=by rw[au.eq_def];rfl
    rw[e1];exact⟨ma (.lst (exps l V hl)),fun _=>by simp [ag,X.kind]⟩
   | @left a o ha ho=>
    simp only[bU,aJ] at hm;have e1:au I kd (ag 33 [] [a,o])=(kw I bY::(cY I (au I kd a).1++(mx I kd o++[kw I bB])),ag 33 [] [(au I kd a).2,o]):=by rw[au.eq_def];rfl
    rw[e1];exact⟨ma (.left (br (K.exp a V ha).1) (Ch hK ho)),fun _=>by simp [ag,X.kind]⟩
   | @right o a ho ha=>
    simp only[bU,aJ] at hm;have e1:au I kd (ag 34 [] [o,a])=(kw I bY::(mx I kd o++(cY I (au I kd a).1++[kw I bB])),ag 34 [] [o,(au I kd a).2]):=by rw[au.eq_def];rfl
    rw[e1];exact⟨ma (.right (Ch hK ho) (ma (br (K.exp a V ha).1))),fun _=>by simp [ag,X.kind]⟩
   | @make s l h hl=>
    simp only[bU] at hm;have e1:au I kd (ag 35 s l)=(bF I kd s++(kw I cw::(bq I bD (fH I kd l)++[kw I cd])),ag 35 s (aD (fH I kd l))):=by rw[au.eq_def];rfl
    rw[e1];exact⟨IF (.make (Iw hK h) (Eg (fun a h1 h2=>K.fld a h1 (.inl h2)) l V hl)),fun _=>by simp [ag,X.kind]⟩
   | @put a l h19 ha h0 hl=>
    simp only[bU,aJ] at hm;have e1:au I kd (ag 36 [] (a::l))=(kw I bY::((au I kd a).1++(kw I bB::kw I cw::(bq I bD (fH I kd l)++[kw I cd]))),ag 36 [] ((au I kd a).2::aD (fH I kd l))):=by rw[au.eq_def];rfl
    rw[e1];have ha:=K.exp a V ha;exact⟨IF (.put ha.1 (ha.2 h19) (Eg (fun a h1 h2=>K.fld a h1 (.inl h2)) l V hl) (by cases l with
      |nil=>exact absurd rfl h0
      |cons f l=>simp [fH])),fun _=>by simp [ag,X.kind]⟩
  constructor
  ·exact hexp
  ·intro n hm h;have hV:=k8 h;clear h
   cases hV with
   |var h=>exact ma (.var (zX hK h))
   |wild=>exact ma .wild
   |int h=>exact ma .int
   |str=>exact ma .str
   | @con s l h hl=>
    simp only[bU] at hm;have e1:au I kd (ag 46 s l)=(bF I kd s++ie I (bI I kd l),fg (ag 19 s []::aD (bI I kd l))):=by rw[au.eq_def];rfl
    rw[e1];exact Od (.con (Iw hK h)) (pats l V hl)
   | @ops a l ha hl h0=>
    simp only[bU,aJ] at hm;obtain⟨s1,s2,s3⟩:=M3 (I:=I) (kd:=kd) hl;obtain⟨o1,o2⟩:=patO l V s1 s2;have e:au I kd (ag 47 [] (a::l))=(cY I (au I kd a).1++kQ (eY I kd l),ag 23 [] ((au I kd a).2::fU (eY I kd l))):=by rw[au.eq_def];rfl
    rw[e];exact .ops (.base (br (K.pat a V ha))) o1 o2 (s3 h0)
   | @tup l hl h2=>
    simp only[bU] at hm;have e1:au I kd (ag 48 [] l)=(kw I bY::(bq I bD (bI I kd l)++[kw I bB]),ag 31 [] (aD (bI I kd l))):=by rw[au.eq_def];rfl
    rw[e1];exact ma (.tup (pats l V hl) (by rw[Io];exact h2))
   | @lst l hl=>
    simp only[bU] at hm;have e1:au I kd (ag 49 [] l)=(kw I eX::(bq I bD (bI I kd l)++[kw I iI]),ag 32 [] (aD (bI I kd l))):=by rw[au.eq_def];rfl
    rw[e1];exact ma (.lst (pats l V hl))
   | @eas s a h ha=>
    simp only[bU,aJ] at hm;have e1:au I kd (ag 50 s [a])=(⟨1,s,0⟩::kw I tG::cY I (au I kd a).1,ag 39 s [(au I kd a).2]):=by
     simp [au,ag,bI,ie,aD,Bj hK h]
    rw[e1];exact ma (.eas (br (K.pat a V ha)))
   | @make s l h hl=>
    simp only[bU] at hm;have e1:au I kd (ag 51 s l)=(bF I kd s++(kw I cw::(bq I bD (fH I kd l)++[kw I cd])),ag 35 s (aD (fH I kd l))):=by rw[au.eq_def];rfl
    rw[e1];exact IF (.make (Iw hK h) (Eg (fun a h1 h2=>K.fld a h1 (.inr h2)) l V hl))
  ·intro f hm h;have:∃s e,f=ag 37 s [e]∧isVar sp s=true∧(bu sp e=true∨cK sp e=true):=by
    rcases h with h|h
    ·obtain⟨s,e,h1,h2,h3⟩:=EB h;exact⟨s,e,h1,h2,.inl h3⟩
    ·obtain⟨s,e,h1,h2,h3⟩:=Fl h;exact⟨s,e,h1,h2,.inr h3⟩
   obtain⟨s,e,rfl,hs,he⟩:=this;simp only[bU,aJ] at hm;have he':dS I (au I kd e).1 (au I kd e).2:=he.elim (fun h=>(K.exp e V h).1) (K.pat e V);have e1:jn I kd (ag 37 s [e])=(bF I kd s++(kw I eQ::(au I kd e).1),ag 37 s [(au I kd e).2]):=by simp [jn,ag]
   rw[e1];exact .mk (zX hK hs) he'
  ·intro f hm h;obtain⟨p,r,rfl,hp,hr⟩:=HA h;simp only[bU,aJ] at hm;have e1:jS I kd (ag 29 [] [p,r])=(cY I (au I kd p).1++(eS I kd dC r).1,ag 29 [] [(au I kd p).2,(eS I kd dC r).2]):=by simp [jS,ag]
   rw[e1];exact .mk (ma (br (K.pat p V hp))) (K.rhs _ r V hr)
  ·intro f hm h;have hV:=DB h;clear h
   cases hV with
   |exp h h40 h41=>
    rw[if_neg (by rw[not_or];exact⟨h40,h41⟩)];exact .exp (.paren (hexp f hm h).1)
   | @gen a e ha he=>
    simp only[bU,aJ] at hm;have e1:au I kd (ag 40 [] [a,e])=(cY I (au I kd a).1++(kw I Di::(au I kd e).1),ag 40 [] [(au I kd a).2,(au I kd e).2]):=by rw[au.eq_def];rfl
    rw[if_pos (.inl rfl),e1];exact .gen (br (K.pat a V ha)) (K.exp e V he).1
   | @slet l hl ht=>
    simp only[bU,dz,aJ] at hm;have e1:au I kd (ag 41 [] [listed l])=(kw I qa::kw I cw::(bq I cn (cU I kd l)++[kw I cd]),ag 41 [] [listed (aD (cU I kd l))]):=by rw[au.eq_def];rfl
    rw[if_pos (.inr rfl),e1];exact .slet (eqs l V hl)
  ·intro w r hm h;have hV:=Gq h;clear h
   cases hV with
   | @plain e l he hl ht=>
    simp only[bU,dz,aJ] at hm;have e1:eS I kd w (ag 16 [] [listed [ag 17 [] [cc,e]],listed l])=(fy (f_ I kd w [ag 17 [] [cc,e]])++(kw I gj::kw I cw::(bq I cn (cU I kd l)++[kw I cd])),ag 16 [] [listed (aD (f_ I kd w [ag 17 [] [cc,e]])),listed (aD (cU I kd l))]):=by
     rw[ag,listed,listed,eS]
    rw[e1,Uu];have:=zo.plain (w:=w) (K.exp e V he).1 (eqs l V hl)
    simpa [fy,aD] using this
   | @guards g l h0 hg hl ht=>
    simp only[bU,dz,aJ] at hm;have e1:eS I kd w (ag 16 [] [listed g,listed l])=(fy (f_ I kd w g)++(kw I gj::kw I cw::(bq I cn (cU I kd l)++[kw I cd])),ag 16 [] [listed (aD (f_ I kd w g)),listed (aD (cU I kd l))]):=by
     rw[ag,listed,listed,eS]
    obtain⟨qs,q1,q2,q3,q4,q5⟩:=RU (I:=I) (kd:=kd) (w:=w) (m:=m) (fun n h1 h2=>(K.exp n h1 h2).1) g V hg;rw[e1,q3,q4];refine .guards q1 q2 (fun h=>h0 ?_) (eqs l V hl);rw[h] at q5;exact kj q5.symm
  ·intro d hm h;have hV:=wJ h;clear h
   cases hV with
   | @pat p r hp _ hr=>
    simp only[bU,aJ] at hm;have e1:e_ I kd (ag 15 [] [p,r])=[(cY I (au I kd p).1++(eS I kd eQ r).1,ag 15 [] [(au I kd p).2,(eS I kd eQ r).2])]:=by simp [e_,ag]
    rw[e1];intro q hq;rw[List.mem_singleton.1 hq];exact .mk (ma (br (K.pat p V hp))) (K.rhs _ r V hr)
   | @fn s l j hs h0 hl hj=>
    simp only[bU] at hm;have e1:e_ I kd (ag 13 s l)=fQ I kd s l:=by simp [e_,ag]
    rw[e1];refine Jk l fun c hc=>?_;have hcs:=sA hc;obtain⟨ps,r,rfl,_,hp,hr⟩:=hl c hc;simp only[bU,dz,aJ] at hcs;have e2:jF I kd s (ag 14 [] [listed ps,r])=((bF I kd s++ie I (bI I kd ps))++(eS I kd eQ r).1,ag 15 [] [fg (ag 18 s []::aD (bI I kd ps)),(eS I kd eQ r).2]):=by simp [jF,ag,listed]
    rw[e2];exact .mk (Od (.var (zX hK hs)) (pats ps V hp)) (K.rhs _ r V hr)
end
def Fx {α:Type}(x:FM α)(a:α):Prop:=x=none∨x=some (a,false)
section
variable {α β:Type}
protected def Fx.pure {a:α}:Fx (pure a:FM α) a:=.inr rfl
protected def Fx.off {a:α}:Fx (lj:FM α) a:=.inl rfl
protected def Fx.bind {x:FM β}{f:β→FM α}{b:β}{a:α}(hx:Fx x b)(hf:Fx (f b) a):Fx (x >>= f) a:=by
 unfold Fx;rw[Ej];rcases hx with h|h
 ·rw[h];exact .inl rfl
 ·rw[h];rcases hf with h2|h2
  ·simp only[h2];exact .inl rfl
  ·simp only[h2];exact .inr rfl
protected def Fx.fw {x:FM α}{c:Bool}{a:α}(hc:c=false)(h:Fx x a):Fx (fw c >>= fun _=>x) a:=by
 subst hc;exact Fx.bind (b:=()) (.inr rfl) h
end
section
variable {I:List UInt8→Bool} {kd:List UInt8→Int} {sp:List UInt8→Int→Bool}
def sO:∀l:List X,aD (bI I kd l)=l.map fun a=>(au I kd a).2
 | []=>by simp [bI,aD]
 |a::l=>by rw[bI];show (au I kd a).2::aD (bI I kd l)=_;rw[sO l];rfl
def FF:∀l:List X,aD (fH I kd l)=l.map fun a=>(jn I kd a).2
 | []=>by simp [fH,aD]
 |a::l=>by rw[fH];show (jn I kd a).2::aD (fH I kd l)=_;rw[FF l];rfl
def VK:∀l:List X,aD (kY I kd l)=l.map fun a=>(jS I kd a).2
 | []=>by simp [kY,aD]
 |a::l=>by rw[kY];show (jS I kd a).2::aD (kY I kd l)=_;rw[VK l];rfl
def Q5:∀l:List X,aD (kU I kd l)=l.map fun a=>(au I kd a).2
 | []=>by simp [kU,aD]
 |a::l=>by
  rw[kU];show (if a.kind=40∨a.kind=41 then au I kd a else (cY I (au I kd a).1,(au I kd a).2)).2::aD (kU I kd l)=_;rw[Q5 l];split<;>rfl
def Rj (w:List UInt8):∀l:List X,aD (f_ I kd w l)=l.map fun a=>(mj I kd w a).2
 | []=>by simp [f_,aD]
 |a::l=>by rw[f_];show (mj I kd w a).2::aD (f_ I kd w l)=_;rw[Rj w l];rfl
def Tx (s:List UInt8):∀l:List X,aD (fQ I kd s l)=l.map fun a=>(jF I kd s a).2
 | []=>by simp [fQ,aD]
 |a::l=>by rw[fQ];show (jF I kd s a).2::aD (fQ I kd s l)=_;rw[Tx s l];rfl
def Ei {g:X→X}:∀k (l:List X),(∀j,j<k→∀a∈l,Fx (gu j (g a)) a)→Fx (fq k (l.map g)) l
 |k,[],_=>by rw[bX,me];exact Fx.pure
 |0,a::l,_=>by unfold fq;exact Fx.off
 |k+1,a::l,h=>by
  rw[bf];unfold fq;exact (h k V a aw).bind ((Ei k l fun j hj x hx=>h j V x (by simp [hx])).bind Fx.pure)
def CO (h:X)(as:List X)(x:X):fg (h::(as++[x]))=ag 22 [] [fg (h::as),x]:=by simp [fg]
def zU {l:List X}(h:l≠[]):∃i x,l=i++[x]:=⟨l.dropLast,l.getLast h,(List.dropLast_concat_getLast h).symm⟩
def Jp (h:X):fg [h]=h:=rfl
def Vw {h:X}(h22:h.kind≠22){g:X→X}:∀k (l acc:List X),(∀j,j<k→∀a∈l,Fx (gu j (g a)) a)→Fx (rD k (fg (h::l.map g)) acc) (l++acc,h)
 |0,l,acc,_=>by unfold rD;exact Fx.off
 |k+1,l,acc,hl=>by
  by_cases h0:l=[]
  ·subst h0;unfold rD;rw[bX,Jp,if_neg h22];exact Fx.pure
  ·obtain⟨i,x,rfl⟩:=zU h0;rw[cZ,bf,bX,CO];unfold rD;rw[if_pos (show (ag 22 [] [fg (h::i.map g),g x]).kind=22 from rfl)];refine (hl k V x aw).bind ?_;have:=Vw h22 (g:=g) k i (x::acc) fun j hj a ha=>hl j V a (by simp [ha]);rw[cC];exact this
def MZ {f:X→Bool}{g h:List X→Bool}{E:X→Prop}(uC:g []=false)(hg:∀a l,g (a::l)=true→E a∧h l=true)(hh:∀o l,h (o::l)=true→f o=true∧g l=true):
  ∀l,h l=true→∃l':List (X×X),l=l'.flatMap (fun q=>[q.1,q.2])∧fU (eY I kd l)=l'.flatMap (fun q=>[q.1,(au I kd q.2).2])∧∀q∈l',f q.1=true∧E q.2
 | [],_=>⟨[],aw,by simp [eY,fU],aw⟩
 | [o],hl=>by have:=(hh o [] hl).2;rw[uC] at this;cases this
 |o::a::l,hl=>by
  obtain⟨h1,h2⟩:=hh o _ hl;obtain⟨h3,h4⟩:=hg a l h2;obtain⟨l',e1,e2,e3⟩:=MZ uC hg hh l h4;refine⟨(o,a)::l',by rw[e1];simp,?_,fun q hq=>?_⟩
  ·simp only[eY,fU,e2];simp
  ·rcases List.mem_cons.1 hq with rfl|hq
   ·exact⟨h1,h3⟩
   ·exact e3 q hq
def UA {l:List X}(h:nO sp l=true):∃l':List (X×X),l=l'.flatMap (fun q=>[q.1,q.2])∧fU (eY I kd l)=l'.flatMap (fun q=>[q.1,(au I kd q.2).2])∧∀q∈l',j6 sp q.1=true∧cK sp q.2=true:=
 MZ (f:=j6 sp) (g:=mA sp) (h:=nO sp) (E:=fun a=>cK sp a=true) (by simp [mA]) (fun a l h=>by simp only[mA,aQ] at h;exact h) (fun o l h=>by simp only[nO,aQ] at h;exact h) l h
def arJ {l:List X}(h:pt sp l=true):∃l':List (X×X),l=l'.flatMap (fun q=>[q.1,q.2])∧fU (eY I kd l)=l'.flatMap (fun q=>[q.1,(au I kd q.2).2])∧∀q∈l',eK sp q.1=true∧bu sp q.2=true:=
 MZ (f:=eK sp) (g:=nB sp) (h:=pt sp) (E:=fun a=>bu sp a=true) (by simp [nB]) (fun a l h=>by simp only[nB,aQ] at h;exact h) (fun o l h=>by simp only[pt,aQ] at h;exact h) l h
def UH:∀k (l':List (X×X)),(∀j,j<k→∀q∈l',Fx (gu j q.1) q.1∧Fx (gu j (au I kd q.2).2) q.2)→Fx (fq k (l'.flatMap fun q=>[q.1,(au I kd q.2).2])) (l'.flatMap fun q=>[q.1,q.2])
 |k,[],_=>by rw[List.flatMap_nil,me];exact Fx.pure
 |0,q::l,_=>by rw[List.flatMap_cons];unfold fq;exact Fx.off
 |1,q::l,h=>by
  rw[List.flatMap_cons];show Fx (fq 1 (q.1::(au I kd q.2).2::_)) _;unfold fq;refine (h 0 V q aw).1.bind (Fx.bind (b:=_) ?_ Fx.pure);unfold fq;exact Fx.off
 |k+2,q::l,h=>by
  rw[List.flatMap_cons,List.flatMap_cons];show Fx (fq (k+2) (q.1::(au I kd q.2).2::_)) (q.1::q.2::_);unfold fq;refine (h (k+1) V q aw).1.bind (Fx.bind ?_ Fx.pure);unfold fq;exact (h k V q aw).2.bind ((UH k l fun j hj x hx=>h j V x (by simp [hx])).bind Fx.pure)
def sM {k:Nat}{n:X}{kk:Int}{l:List X}(h:j0 n.kind=some kk)(hl:Fx (fq k n.ae) l):Fx (gu (k+1) n) (.mk kk n.name n.n l):=by
 have no:∀j:Int,j0 j=none→n.kind≠j:=fun j hj e=>by rw[e,hj] at h;cases h
 unfold gu;rw[if_neg (no 24 rfl),if_neg (no 37 rfl),if_neg (no 22 rfl),h];exact hl.bind Fx.pure
def Ez:∀k,(∀p,cK sp p=true→Fx (gu k (au I kd p).2) p)∧(∀o,j6 sp o=true→Fx (gu k o) o)∧∀f,r6 sp f=true→Fx (gu k (jn I kd f).2) f:=by
 intro k
 induction k using Nat.strongRecOn with
 |_ k ih=>
 cases k with
 |zero=>exact⟨fun p _=>by unfold gu;exact Fx.off,fun o _=>by unfold gu;exact Fx.off,fun f _=>by unfold gu;exact Fx.off⟩
 |succ k=>
  have pats:∀l:List X,(∀a∈l,cK sp a=true)→Fx (fq k (aD (bI I kd l))) l:=fun l hl=>by
   rw[sO];exact Ei k l fun j hj a ha=>(ih j V).1 a (hl a ha)
  refine⟨fun p hp=>?_,fun o ho=>?_,fun f hf=>?_⟩
  ·have hV:=k8 hp;clear hp
   cases hV with
   | @var s h=>rw[show au I kd (ag 42 s [])=(bF I kd s,ag 18 s []) by rw[au.eq_def];rfl];exact sM (n:=ag 18 s []) rfl (by rw[show (ag 18 s []).ae=[] from rfl,me];exact Fx.pure)
   |wild=>rw[show au I kd (ag 43 [] [])=([kw I lU],ag 38 [] []) by rw[au.eq_def];rfl];exact sM (n:=ag 38 [] []) rfl (by rw[show (ag 38 [] []).ae=[] from rfl,me];exact Fx.pure)
   | @int n h=>rw[show au I kd (.mk 44 [] n [])=([⟨5,[],n⟩],.mk 20 [] n []) by rw[au.eq_def];rfl];exact sM (n:=.mk 20 [] n []) rfl (by rw[show (X.mk 20 [] n []).ae=[] from rfl,me];exact Fx.pure)
   | @str s=>rw[show au I kd (ag 45 s [])=([⟨6,s,0⟩],ag 21 s []) by rw[au.eq_def];rfl];exact sM (n:=ag 21 s []) rfl (by rw[show (ag 21 s []).ae=[] from rfl,me];exact Fx.pure)
   | @con s l h hl=>
    have e1:au I kd (ag 46 s l)=(bF I kd s++ie I (bI I kd l),fg (ag 19 s []::aD (bI I kd l))):=by rw[au.eq_def];rfl
    rw[e1]
    by_cases h0:l=[]
    ·subst h0;have e2:aD (bI I kd [])=[]:=by simp [bI,aD]
     rw[e2];exact sM (n:=ag 19 s []) rfl (by rw[show (ag 19 s []).ae=[] from rfl,me];exact Fx.pure)
    ·have hk:(fg (ag 19 s []::aD (bI I kd l))).kind=22:=by
      obtain⟨i,x,rfl⟩:=zU h0;rw[sO,cZ,bf,bX,CO];rfl
     show Fx (gu (k+1) (fg (ag 19 s []::aD (bI I kd l)))) _;unfold gu;rw[if_neg (by rw[hk];decide),if_neg (by rw[hk];decide),if_pos hk,sO];refine (Vw (h:=ag 19 s []) (by simp [ag,X.kind]) k l [] fun j hj a ha=>(ih j V).1 a (hl a ha)).bind ?_;refine Fx.fw (by simp [ag,X.kind]) ?_;rw[cB];exact Fx.pure
   | @ops a l ha hl h0=>
    have e1:au I kd (ag 47 [] (a::l))=(cY I (au I kd a).1++kQ (eY I kd l),ag 23 [] ((au I kd a).2::fU (eY I kd l))):=by rw[au.eq_def];rfl
    rw[e1];obtain⟨l',e2,e3,e4⟩:=UA (I:=I) (kd:=kd) hl;refine sM (n:=ag 23 [] ((au I kd a).2::fU (eY I kd l))) (l:=a::l) rfl ?_;show Fx (fq k ((au I kd a).2::fU (eY I kd l))) _;rw[e3]
    cases k with
    |zero=>unfold fq;exact Fx.off
    |succ k=>
     unfold fq;refine ((ih k V).1 a ha).bind (Fx.bind (b:=l) ?_ Fx.pure)
     conv=>rhs;rw[e2]
     exact UH k l' fun j hj q hq=>⟨(ih j V).2.1 q.1 (e4 q hq).1,(ih j V).1 q.2 (e4 q hq).2⟩
   | @tup l hl h2=>
    have e1:au I kd (ag 48 [] l)=(kw I bY::(bq I bD (bI I kd l)++[kw I bB]),ag 31 [] (aD (bI I kd l))):=by rw[au.eq_def];rfl
    rw[e1];exact sM (n:=ag _ [] (aD (bI I kd l))) rfl (pats l hl)
   | @lst l hl=>
    have e1:au I kd (ag 49 [] l)=(kw I eX::(bq I bD (bI I kd l)++[kw I iI]),ag 32 [] (aD (bI I kd l))):=by rw[au.eq_def];rfl
    rw[e1];exact sM (n:=ag _ [] (aD (bI I kd l))) rfl (pats l hl)
   | @eas s a h ha=>
    have e1:au I kd (ag 50 s [a])=(bF I kd s++kw I tG::ie I (bI I kd [a]),ag 39 s (aD (bI I kd [a]))):=by rw[au.eq_def];rfl
    rw[e1];exact sM (n:=ag 39 s (aD (bI I kd [a]))) rfl (pats [a] (by simpa using ha))
   | @make s l h hl=>
    have e1:au I kd (ag 51 s l)=(bF I kd s++(kw I cw::(bq I bD (fH I kd l)++[kw I cd])),ag 35 s (aD (fH I kd l))):=by rw[au.eq_def];rfl
    rw[e1];refine sM (n:=ag 35 s (aD (fH I kd l))) (l:=l) rfl ?_;show Fx (fq k (aD (fH I kd l))) _;rw[FF];exact Ei k l fun j hj a ha=>(ih j V).2.2 a (hl a ha)
  ·obtain⟨h1,h2,h3⟩:=z8 (Jv ho);have hn:o.n=1:=by simp only[j6,aQ,cx] at ho;exact ho.1
   unfold gu;rw[if_pos h1];exact Fx.fw (by rw[hn];rfl) Fx.pure
  ·obtain⟨s,e,rfl,hs,he⟩:=Fl hf;have e1:jn I kd (ag 37 s [e])=(bF I kd s++(kw I eQ::(au I kd e).1),ag 37 s [(au I kd e).2]):=by rw[jn.eq_def];rfl
   rw[e1];unfold gu;exact ((ih k V).1 e he).bind Fx.pure
end
section
variable {I:List UInt8→Bool} {kd:List UInt8→Int} {sp:List UInt8→Int→Bool}
def tX {g:X→X}:∀k (l:List X),(∀j,j<k→∀a∈l,Fx (dP j (g a)) a)→Fx (dD k (l.map g)) l
 |k,[],_=>by rw[bX,kZ];exact Fx.pure
 |0,a::l,_=>by unfold dD;exact Fx.off
 |k+1,a::l,h=>by
  rw[bf];unfold dD;exact (h k V a aw).bind ((tX k l fun j hj x hx=>h j V x (by simp [hx])).bind Fx.pure)
def Xg:∀k (l':List (X×X)),(∀j,j<k→∀q∈l',Fx (dP j q.1) q.1∧Fx (dP j (au I kd q.2).2) q.2)→Fx (dD k (l'.flatMap fun q=>[q.1,(au I kd q.2).2])) (l'.flatMap fun q=>[q.1,q.2])
 |k,[],_=>by rw[List.flatMap_nil,kZ];exact Fx.pure
 |0,q::l,_=>by rw[List.flatMap_cons];unfold dD;exact Fx.off
 |1,q::l,h=>by
  rw[List.flatMap_cons];show Fx (dD 1 (q.1::(au I kd q.2).2::_)) _;unfold dD;refine (h 0 V q aw).1.bind (Fx.bind (b:=_) ?_ Fx.pure);unfold dD;exact Fx.off
 |k+2,q::l,h=>by
  rw[List.flatMap_cons,List.flatMap_cons];show Fx (dD (k+2) (q.1::(au I kd q.2).2::_)) (q.1::q.2::_);unfold dD;refine (h (k+1) V q aw).1.bind (Fx.bind ?_ Fx.pure);unfold dD;exact (h k V q aw).2.bind ((Xg k l fun j hj x hx=>h j V x (by simp [hx])).bind Fx.pure)
def lT {k:Nat}{n:X}{l:List X}(h:n.kind∉[38,39,30,25,26,41,29,40])(hl:Fx (dD k n.ae) l):Fx (dP (k+1) n) (.mk n.kind n.name n.n l):=by
 simp only[iS,jD,or_false,not_or] at h;obtain⟨h1,h2,h3,h4,h5,h6,h7,h8⟩:=h;unfold dP;rw[if_neg (by rw[not_or];exact⟨h1,h2⟩),if_neg h3,if_neg h4,if_neg h5,if_neg h6,if_neg h7,if_neg h8];exact hl.bind Fx.pure
def I5 {o:X}(h:eK sp o=true)(k:Nat):Fx (dP k o) o:=by
 cases k with
 |zero=>unfold dP;exact Fx.off
 |succ k=>
  obtain⟨h1,h2,h3⟩:=z8 h;have:=lT (k:=k) (n:=o) (l:=[]) (by rw[h1];decide) (by rw[h2,kZ];exact Fx.pure);obtain⟨ko,so,no,lo⟩:=o;simp only[X.ae] at h2;subst h2;exact this
def al2 (k:Nat):Fx (dP k cc) cc:=by
 cases k with
 |zero=>unfold dP;exact Fx.off
 |succ k=>exact lT (k:=k) (n:=cc) (l:=[]) ai (by rw[show cc.ae=[] from rfl,kZ];exact Fx.pure)
def alg {n:X}(h:bu sp n=true):(au I kd n).2.kind≠24∧(au I kd n).2.kind≠40∧(au I kd n).2.kind≠41:=by
 have hV:=jw h;clear h
 cases hV with
 | @app a b _ _=>
  have e:(au I kd (ag 22 [] [a,b])).2=ag 22 [] [(au I kd a).2,(au I kd b).2]:=by
   rw[au.eq_def];show fg (aD (bI I kd [a,b]))=_;rw[sO];rfl
  rw[e];simp [ag,X.kind]
 |_=>rw[au.eq_def];simp [ag,X.kind,listed]
def UF {n:X}(h:cK sp n=true):(au I kd n).2.kind≠24:=by
 have hV:=k8 h;clear h
 cases hV with
 | @con s l h hl=>
  have e:(au I kd (ag 46 s l)).2=fg (ag 19 s []::aD (bI I kd l)):=by rw[au.eq_def];rfl
  rw[e]
  by_cases h0:l=[]
  ·subst h0;have e2:aD (bI I kd [])=[]:=by simp [bI,aD]
   rw[e2,Jp];simp [ag,X.kind]
  ·obtain⟨i,x,rfl⟩:=zU h0;rw[sO,cZ,bf,bX,CO];simp [ag,X.kind]
 |_=>rw[au.eq_def];simp [ag,X.kind]
def Us:∀(l:List X) (i:Nat),(∀o∈l,o.kind≠24∨o.n=1)→mL 0 i l=(0,false)
 | [],i,_=>rfl
 |o::l,i,h=>by
  unfold mL;rw[if_pos (h o aw)];exact Us l (i+1) fun x hx=>h x (by simp [hx])
def Jl {h:X}(h22:h.kind≠22):∀k (l acc:List X),mF k (fg (h::l)) acc=none∨mF k (fg (h::l)) acc=some (h,l++acc)
 |0,l,acc=>by unfold mF;exact .inl rfl
 |k+1,l,acc=>by
  by_cases h0:l=[]
  ·subst h0;unfold mF;rw[Jp,if_neg h22];exact .inr rfl
  ·obtain⟨i,x,rfl⟩:=zU h0;rw[CO];unfold mF;rw[if_pos (show (ag 22 [] [fg (h::i),x]).kind=22 from rfl)];have:=Jl h22 k i (x::acc);rw[cC];exact this
def Ua {h:X}(hk:h.kind≠23)(l:List X):(fg (h::l)).kind≠23:=by
 by_cases h0:l=[]
 ·subst h0;exact hk
 ·obtain⟨i,x,rfl⟩:=zU h0;rw[CO];simp [ag,X.kind]
def Un (k:Nat){s:List UInt8}{ps:List X}(hp:∀p∈ps,cK sp p=true):Fx (rR k (fg (ag 18 s []::aD (bI I kd ps)))) (some (s,ps)):=by
 unfold rR;rw[if_neg (Ua (by simp [ag,X.kind]) _)];rcases Jl (h:=ag 18 s []) (by simp [ag,X.kind]) k (aD (bI I kd ps)) [] with h|h
 ·rw[h];exact Fx.off
 ·rw[h];simp only[cB];rw[if_neg (by simp [ag,X.kind]),sO];exact (Ei k ps fun j hj a ha=>(Ez (I:=I) (kd:=kd) j).1 a (hp a ha)).bind Fx.pure
def apC (k:Nat){p:X}(hp:cK sp p=true)(h42:p.kind≠42):Fx (rR k (au I kd p).2) none:=by
 have hV:=k8 hp;have other:∀{h:X} (l:List X),(au I kd p).2=fg (h::l)→h.kind≠22→h.kind≠23→h.kind≠18→Fx (rR k (au I kd p).2) none:=fun {h} l e h22 h23 h18=>by
  rw[e];unfold rR;rw[if_neg (Ua h23 _)];rcases Jl (h:=h) h22 k l [] with h|h
  ·rw[h];exact Fx.off
  ·rw[h];simp only;rw[if_pos h18];exact Fx.pure
 cases hV with
 |var _=>exact absurd rfl h42
 | @ops a l ha hl h0=>
  have e1:(au I kd (ag 47 [] (a::l))).2=ag 23 [] ((au I kd a).2::fU (eY I kd l)):=by rw[au.eq_def];rfl
  rw[e1];obtain⟨l',e2,e3,e4⟩:=UA (I:=I) (kd:=kd) hl;have:mL 0 0 (ag 23 [] ((au I kd a).2::fU (eY I kd l))).ae=(0,false):=by
   refine Us _ _ fun o ho=>?_;rcases List.mem_cons.1 ho with rfl|ho
   ·exact .inl (UF ha)
   ·rw[e3] at ho;obtain⟨q,hq,ho⟩:=List.mem_flatMap.1 ho;rcases List.mem_cons.1 ho with rfl|ho
    ·have:=(e4 q hq).1;simp only[j6,aQ,cx] at this;exact .inr this.1
    ·rw[List.mem_singleton.1 ho];exact .inl (UF (e4 q hq).2)
  unfold rR;rw[if_pos (show (ag 23 [] ((au I kd a).2::fU (eY I kd l))).kind=23 from rfl)];simp only[this];exact Fx.fw rfl Fx.pure
 | @con s l h hl=>exact other (h:=ag 19 s []) (aD (bI I kd l)) (by rw[au.eq_def];rfl) (by simp [ag,X.kind]) (by simp [ag,X.kind]) (by simp [ag,X.kind])
 |wild=>exact other (h:=ag 38 [] []) [] (by rw[au.eq_def];rfl) (by simp [ag,X.kind]) (by simp [ag,X.kind]) (by simp [ag,X.kind])
 | @int n h=>exact other (h:=.mk 20 [] n []) [] (by rw[au.eq_def];rfl) (by simp [X.kind]) (by simp [X.kind]) (by simp [X.kind])
 | @str s=>exact other (h:=ag 21 s []) [] (by rw[au.eq_def];rfl) (by simp [ag,X.kind]) (by simp [ag,X.kind]) (by simp [ag,X.kind])
 | @tup l hl h2=>exact other (h:=ag 31 [] (aD (bI I kd l))) [] (by rw[au.eq_def];rfl) (by simp [ag,X.kind]) (by simp [ag,X.kind]) (by simp [ag,X.kind])
 | @lst l hl=>exact other (h:=ag 32 [] (aD (bI I kd l))) [] (by rw[au.eq_def];rfl) (by simp [ag,X.kind]) (by simp [ag,X.kind]) (by simp [ag,X.kind])
 | @eas s a h ha=>exact other (h:=ag 39 s (aD (bI I kd [a]))) [] (by rw[au.eq_def];rfl) (by simp [ag,X.kind]) (by simp [ag,X.kind]) (by simp [ag,X.kind])
 | @make s l h hl=>exact other (h:=ag 35 s (aD (fH I kd l))) [] (by rw[au.eq_def];rfl) (by simp [ag,X.kind]) (by simp [ag,X.kind]) (by simp [ag,X.kind])
end
section
variable {I:List UInt8→Bool} {kd:List UInt8→Int} {sp:List UInt8→Int→Bool}
def DX (out:List X)(on:Bool)(nm:List UInt8):Prop:=(on=true→(out.getLastD cc).name=nm)∧(on=false→nm=[])
structure FK (I:List UInt8→Bool)(kd:List UInt8→Int)(sp:List UInt8→Int→Bool)(k:Nat):Prop where
 exp:∀n,bu sp n=true→Fx (dP k (au I kd n).2) n
 fld:∀f,qS sp f=true→Fx (dP k (jn I kd f).2) f
 alt:∀f,qu sp f=true→Fx (dP k (jS I kd f).2) f
 stm:∀f,oX sp f=true→Fx (dP k (au I kd f).2) f
 rhs:∀w r,fD sp r=true→Fx (oM k (eS I kd w r).2) r
 eqs:∀l (r:List X) v out on nm,(∀d∈l,dT sp d=true)→fX nm l=true→DX out on nm→(∀k' out' on',k'≤k→out'=out++l→DX out' on' (uG nm l)→Fx (dF k' r out' on') v)→Fx (dF k (aD (cU I kd l)++r) out on) v
 cls:∀cs s ds n (r:List X) v out j,(∀c∈cs,∃ps r,c=ag 14 [] [listed ps,r]∧ps.length=j∧(∀p∈ps,cK sp p=true)∧fD sp r=true)→0<j→ds≠[]→arity (.mk 13 s n ds)=j→
  (∀k',k'≤k→Fx (dF k' r (out++[.mk 13 s n (ds++cs)]) true) v)→Fx (dF k (aD (fQ I kd s cs)++r) (out++[.mk 13 s n ds]) true) v
def Ge (l:List X)(x:X):(l++[x]).getLastD cc=x:=aw
def fK:∀k,FK I kd sp k:=by
 intro k
 induction k using Nat.strongRecOn with
 |_ k ih=>
 have mono_eqs:∀l (r:List X) v out on nm,k=0→(∀d∈l,dT sp d=true)→fX nm l=true→DX out on nm→(∀k' out' on',k'≤k→out'=out++l→DX out' on' (uG nm l)→Fx (dF k' r out' on') v)→Fx (dF k (aD (cU I kd l)++r) out on) v:=by
  intro l r v out on nm hk hl ht O h;subst hk
  cases l with
  |nil=>
   have e:aD (cU I kd [])=[]:=by simp [cU,aD]
   rw[e,cD];exact h 0 out on (bQ _) aw O
  |cons d l=>
   have:∃x xs,aD (cU I kd (d::l))=x::xs:=by
    have hV:=wJ (hl d aw);rw[cU]
    cases hV with
    | @pat p r _ _ _=>
     have e1:e_ I kd (ag 15 [] [p,r])=[(cY I (au I kd p).1++(eS I kd eQ r).1,ag 15 [] [(au I kd p).2,(eS I kd eQ r).2])]:=by rw[e_.eq_def];rfl
     rw[e1];exact⟨_,_,rfl⟩
    | @fn s cs j _ h0 _ _=>
     have e1:e_ I kd (ag 13 s cs)=fQ I kd s cs:=by rw[e_.eq_def];rfl
     rw[e1]
     cases cs with
     |nil=>exact absurd rfl h0
     |cons c cs=>rw[fQ];exact⟨_,_,rfl⟩
   obtain⟨x,xs,e⟩:=this;rw[e,ck];unfold dF;exact Fx.off
 cases k with
 |zero=>
  constructor
  ·intro n _;unfold dP;exact Fx.off
  ·intro n _;unfold dP;exact Fx.off
  ·intro n _;unfold dP;exact Fx.off
  ·intro n _;unfold dP;exact Fx.off
  ·intro w n _;unfold oM;exact Fx.off
  ·intro l r v out on nm;exact mono_eqs l r v out on nm rfl
  ·intro cs s ds n r v out j hc hj h0 ha h
   cases cs with
   |nil=>
    have e:aD (fQ I kd s [])=[]:=by simp [fQ,aD]
    rw[e,cD];have:=h 0 (bQ _)
    rwa [cB] at this
   |cons c cs=>
    rw[fQ];show Fx (dF 0 ((jF I kd s c).2::_) _ _) _;unfold dF;exact Fx.off
 |succ k=>
  have K:=ih k V;have exps:∀l:List X,(∀a∈l,bu sp a=true)→Fx (dD k (aD (bI I kd l))) l:=fun l hl=>by
   rw[sO];exact tX k l fun j hj a ha=>(ih j V).exp a (hl a ha)
  have exps':∀l:List X,(∀a∈l,bu sp a=true)→Fx (dD k (l.map fun a=>(au I kd a).2)) l:=fun l hl=>tX k l fun j hj a ha=>(ih j V).exp a (hl a ha);have pats:∀l:List X,(∀a∈l,cK sp a=true)→Fx (fq k (aD (bI I kd l))) l:=fun l hl=>by
   rw[sO];exact Ei k l fun j hj a ha=>(Ez (I:=I) (kd:=kd) j).1 a (hl a ha)
  have vL:∀l,(∀a∈l,dT sp a=true)→fX [] l=true→Fx (dF k (aD (cU I kd l)) [] false) l:=fun l hl ht=>by
   have:=K.eqs l [] l [] false [] hl ht ⟨(fun h=>by cases h),fun _=>rfl⟩ fun k' out' on' _ e _=>by
    rw[e,cD];unfold dF;exact Fx.pure
   rwa [cB] at this
  have hexp:∀n,bu sp n=true→Fx (dP (k+1) (au I kd n).2) n:=by
   intro n hn;have hV:=jw hn;clear hn
   cases hV with
   | @var s h=>
    rw[show au I kd (ag 18 s [])=(bF I kd s,ag 18 s []) by rw[au.eq_def];rfl];exact lT (n:=ag 18 s []) (l:=[]) (by simp [ag,X.kind]) (by rw[show (ag 18 s []).ae=[] from rfl,kZ];exact Fx.pure)
   | @con s h=>
    rw[show au I kd (ag 19 s [])=(bF I kd s,ag 19 s []) by rw[au.eq_def];rfl];exact lT (n:=ag 19 s []) (l:=[]) (by simp [ag,X.kind]) (by rw[show (ag 19 s []).ae=[] from rfl,kZ];exact Fx.pure)
   | @int n h=>
    rw[show au I kd (.mk 20 [] n [])=([⟨5,[],n⟩],.mk 20 [] n []) by rw[au.eq_def];rfl];exact lT (n:=.mk 20 [] n []) (l:=[]) (by simp [ag,X.kind]) (by rw[show (X.mk 20 [] n []).ae=[] from rfl,kZ];exact Fx.pure)
   | @str s=>
    rw[show au I kd (ag 21 s [])=([⟨6,s,0⟩],ag 21 s []) by rw[au.eq_def];rfl];exact lT (n:=ag 21 s []) (l:=[]) (by simp [ag,X.kind]) (by rw[show (ag 21 s []).ae=[] from rfl,kZ];exact Fx.pure)
   | @app a b ha hb=>
    have e:(au I kd (ag 22 [] [a,b])).2=ag 22 [] ([a,b].map fun a=>(au I kd a).2):=by
     rw[au.eq_def];show fg (aD (bI I kd [a,b]))=_;rw[sO];rfl
    rw[e];exact lT (n:=ag 22 [] ([a,b].map fun a=>(au I kd a).2)) (by simp [ag,X.kind]) (exps' [a,b] (eF ha (eF hb fO)))
   | @ops a l ha hl h0=>
    have e1:(au I kd (ag 23 [] (a::l))).2=ag 23 [] ((au I kd a).2::fU (eY I kd l)):=by rw[au.eq_def];rfl
    rw[e1];obtain⟨l',e2,e3,e4⟩:=arJ (I:=I) (kd:=kd) hl;refine lT (n:=ag 23 [] ((au I kd a).2::fU (eY I kd l))) (l:=a::l) (by simp [ag,X.kind]) ?_;show Fx (dD k ((au I kd a).2::fU (eY I kd l))) _;rw[e3]
    cases k with
    |zero=>unfold dD;exact Fx.off
    |succ k=>
     unfold dD;refine ((ih k V).exp a ha).bind (Fx.bind (b:=l) ?_ Fx.pure)
     conv=>rhs;rw[e2]
     exact Xg k l' fun j hj q hq=>⟨I5 (e4 q hq).1 j,(ih j V).exp q.2 (e4 q hq).2⟩
   | @lam l e h0 hl he=>
    have e1:(au I kd (ag 25 [] [listed l,e])).2=ag 25 [] [listed (aD (bI I kd l)),(au I kd e).2]:=by rw[au.eq_def];rfl
    rw[e1];unfold dP;exact (pats l hl).bind ((K.exp e he).bind Fx.pure)
   | @elet l e hl ht he=>
    have e1:(au I kd (ag 26 [] [listed l,e])).2=ag 26 [] [listed (aD (cU I kd l)),(au I kd e).2]:=by rw[au.eq_def];rfl
    rw[e1];unfold dP;exact (vL l hl ht).bind ((K.exp e he).bind Fx.pure)
   | @eif a b c ha hb hc=>
    have e1:(au I kd (ag 27 [] [a,b,c])).2=ag 27 [] ([a,b,c].map fun a=>(au I kd a).2):=by rw[au.eq_def];rfl
    rw[e1];exact lT (n:=ag 27 [] ([a,b,c].map fun a=>(au I kd a).2)) (by simp [ag,X.kind]) (exps' [a,b,c] (eF ha (eF hb (eF hc fO))))
   | @ecase a l ha hl=>
    have e1:(au I kd (ag 28 [] (a::l))).2=ag 28 [] ((au I kd a).2::aD (kY I kd l)):=by rw[au.eq_def];rfl
    rw[e1,VK];refine lT (n:=ag 28 [] ((au I kd a).2::l.map fun a=>(jS I kd a).2)) (l:=a::l) (by simp [ag,X.kind]) ?_;show Fx (dD k ((au I kd a).2::l.map fun a=>(jS I kd a).2)) _
    cases k with
    |zero=>unfold dD;exact Fx.off
    |succ k=>
     unfold dD;exact ((ih k V).exp a ha).bind ((tX k l fun j hj x hx=>(ih j V).alt x (hl x hx)).bind Fx.pure)
   | @edo l hl h0 hs=>
    have e1:(au I kd (ag 30 [] l)).2=ag 30 [] (aD (kU I kd l)):=by rw[au.eq_def];rfl
    rw[e1,Q5];have hk:∀a∈l,mi (au I kd a).2=mi a:=fun a ha=>by
     have hV:=DB (hl a ha)
     cases hV with
     |exp h h40 h41=>
      obtain⟨_,g1,g2⟩:=alg (I:=I) (kd:=kd) h;simp [mi,h40,h41,g1,g2]
     | @gen a e _ _=>
      have e1:(au I kd (ag 40 [] [a,e])).2=ag 40 [] [(au I kd a).2,(au I kd e).2]:=by rw[au.eq_def];rfl
      rw[e1];rfl
     | @slet l _ _=>
      have e1:(au I kd (ag 41 [] [listed l])).2=ag 41 [] [listed (aD (cU I kd l))]:=by rw[au.eq_def];rfl
      rw[e1];rfl
    have hb:decide ((l.map fun a=>(au I kd a).2)=[]∨mi ((l.map fun a=>(au I kd a).2).getLastD cc)=true)=false:=by
     refine decide_eq_false ?_;rw[not_or];obtain⟨i,x,rfl⟩:=zU h0;refine⟨aw,?_⟩;rw[cZ,bf,bX,Ge,hk x aw];rw[Ge] at hs;rw[hs];decide
    unfold dP;show Fx (fw (decide ((l.map fun a=>(au I kd a).2)=[]∨mi ((l.map fun a=>(au I kd a).2).getLastD cc)=true)) >>= fun _=>_) _;refine Fx.fw hb ?_;exact (tX k l fun j hj a ha=>(ih j V).stm a (hl a ha)).bind Fx.pure
   | @tup l hl h2=>
    have e1:(au I kd (ag 31 [] l)).2=ag 31 [] (aD (bI I kd l)):=by rw[au.eq_def];rfl
    rw[e1];exact lT (n:=ag 31 [] (aD (bI I kd l))) (by simp [ag,X.kind]) (exps l hl)
   | @lst l hl=>
    have e1:(au I kd (ag 32 [] l)).2=ag 32 [] (aD (bI I kd l)):=by rw[au.eq_def];rfl
    rw[e1];exact lT (n:=ag 32 [] (aD (bI I kd l))) (by simp [ag,X.kind]) (exps l hl)
   | @left a o ha ho=>
    have e1:(au I kd (ag 33 [] [a,o])).2=ag 33 [] [(au I kd a).2,o]:=by rw[au.eq_def];rfl
    rw[e1];refine lT (n:=ag 33 [] [(au I kd a).2,o]) (l:=[a,o]) (by simp [ag,X.kind]) ?_;show Fx (dD k [(au I kd a).2,o]) _;have:Fx (dD k ([(a,(au I kd a).2),(o,o)].map Prod.snd)) ([(a,(au I kd a).2),(o,o)].map Prod.fst):=by
     cases k with
     |zero=>unfold dD;exact Fx.off
     |succ k=>
      show Fx (dD (k+1) [(au I kd a).2,o]) [a,o];unfold dD;refine ((ih k V).exp a ha).bind (Fx.bind (b:=[o]) ?_ Fx.pure)
      cases k with
      |zero=>unfold dD;exact Fx.off
      |succ k=>unfold dD;exact (I5 ho k).bind (Fx.bind (b:=[]) (by rw[kZ];exact Fx.pure) Fx.pure)
    exact this
   | @right o a ho ha=>
    have e1:(au I kd (ag 34 [] [o,a])).2=ag 34 [] [o,(au I kd a).2]:=by rw[au.eq_def];rfl
    rw[e1];refine lT (n:=ag 34 [] [o,(au I kd a).2]) (l:=[o,a]) (by simp [ag,X.kind]) ?_;show Fx (dD k [o,(au I kd a).2]) _
    cases k with
    |zero=>unfold dD;exact Fx.off
    |succ k=>
     unfold dD;refine (I5 ho k).bind (Fx.bind (b:=[a]) ?_ Fx.pure)
     cases k with
     |zero=>unfold dD;exact Fx.off
     |succ k=>unfold dD;exact ((ih k V).exp a ha).bind (Fx.bind (b:=[]) (by rw[kZ];exact Fx.pure) Fx.pure)
   | @make s l h hl=>
    have e1:(au I kd (ag 35 s l)).2=ag 35 s (aD (fH I kd l)):=by rw[au.eq_def];rfl
    rw[e1,FF];exact lT (n:=ag 35 s (l.map fun a=>(jn I kd a).2)) (by simp [ag,X.kind]) (tX k l fun j hj a ha=>(ih j V).fld a (hl a ha))
   | @put a l h19 ha h0 hl=>
    have e1:(au I kd (ag 36 [] (a::l))).2=ag 36 [] ((au I kd a).2::aD (fH I kd l)):=by rw[au.eq_def];rfl
    rw[e1,FF];refine lT (n:=ag 36 [] ((au I kd a).2::l.map fun a=>(jn I kd a).2)) (l:=a::l) (by simp [ag,X.kind]) ?_;show Fx (dD k ((au I kd a).2::l.map fun a=>(jn I kd a).2)) _
    cases k with
    |zero=>unfold dD;exact Fx.off
    |succ k=>
     unfold dD;exact ((ih k V).exp a ha).bind ((tX k l fun j hj x hx=>(ih j V).fld x (hl x hx)).bind Fx.pure)
  have clsS:∀cs s ds n (r:List X) v out j,(∀c∈cs,∃ps r,c=ag 14 [] [listed ps,r]∧ps.length=j∧(∀p∈ps,cK sp p=true)∧fD sp r=true)→0<j→ds≠[]→arity (.mk 13 s n ds)=j→
    (∀k',k'≤k+1→Fx (dF k' r (out++[.mk 13 s n (ds++cs)]) true) v)→Fx (dF (k+1) (aD (fQ I kd s cs)++r) (out++[.mk 13 s n ds]) true) v:=by
   intro cs s ds n r v out j hc hj h0 ha h
   cases cs with
   |nil=>
    have e:aD (fQ I kd s [])=[]:=by simp [fQ,aD]
    rw[e,cD];have:=h (k+1) (bQ _)
    rwa [cB] at this
   |cons c cs=>
    obtain⟨ps,r1,rfl,hps,hp,hr⟩:=hc c aw;rw[fQ];have e2:(jF I kd s (ag 14 [] [listed ps,r1])).2=ag 15 [] [fg (ag 18 s []::aD (bI I kd ps)),(eS I kd eQ r1).2]:=by rw[jF.eq_def];rfl
    show Fx (dF (k+1) ((jF I kd s (ag 14 [] [listed ps,r1])).2::(aD (fQ I kd s cs)++r)) _ _) _;rw[e2];unfold dF;rw[if_neg (by simp [ag,X.kind])];refine Fx.bind (K.rhs eQ r1 hr) (Fx.bind (Un k hp) ?_);simp only[Ge];rw[if_pos ⟨trivial,by intro e;subst e;simp at hps;omega,rfl⟩];refine Fx.fw (by rw[ha,hps];simp) ?_;rw[ag5];simp only[X.kind,X.name,X.n,X.ae];exact K.cls cs s (ds++[ag 14 [] [listed ps,r1]]) n r v out j (fun x hx=>hc x (by simp [hx])) hj aw (by rw[ac2 s s n n h0];exact ha) fun k' hk'=>by
     have:=h k' V
     rwa [cC]
  constructor
  ·exact hexp
  ·intro f hf;obtain⟨s,e,rfl,hs,he⟩:=EB hf;have e1:(jn I kd (ag 37 s [e])).2=ag 37 s ([e].map fun a=>(au I kd a).2):=by rw[jn.eq_def];rfl
   rw[e1];exact lT (n:=ag 37 s ([e].map fun a=>(au I kd a).2)) (by simp [ag,X.kind]) (exps' [e] (eF he fO))
  ·intro f hf;obtain⟨p,r,rfl,hp,hr⟩:=HA hf;have e1:(jS I kd (ag 29 [] [p,r])).2=ag 29 [] [(au I kd p).2,(eS I kd dC r).2]:=by rw[jS.eq_def];rfl
   rw[e1];unfold dP;exact ((Ez k).1 p hp).bind ((K.rhs dC r hr).bind Fx.pure)
  ·intro f hf;have hV:=DB hf;clear hf
   cases hV with
   |exp h _ _=>exact hexp f h
   | @gen a e ha he=>
    have e1:(au I kd (ag 40 [] [a,e])).2=ag 40 [] [(au I kd a).2,(au I kd e).2]:=by rw[au.eq_def];rfl
    rw[e1];unfold dP;exact ((Ez k).1 a ha).bind ((K.exp e he).bind Fx.pure)
   | @slet l hl ht=>
    have e1:(au I kd (ag 41 [] [listed l])).2=ag 41 [] [listed (aD (cU I kd l))]:=by rw[au.eq_def];rfl
    rw[e1];unfold dP;exact (vL l hl ht).bind Fx.pure
  ·intro w r hr;have hV:=Gq hr;clear hr;have key:∀g l,(∀j,j<k→∀a∈g,Fx (dP j (mj I kd w a).2) a)→(∀a∈l,dT sp a=true)→fX [] l=true→Fx (oM (k+1) (eS I kd w (ag 16 [] [listed g,listed l])).2) (ag 16 [] [listed g,listed l]):=fun g l hg hl ht=>by
    have e1:(eS I kd w (ag 16 [] [listed g,listed l])).2=ag 16 [] [listed (aD (f_ I kd w g)),listed (aD (cU I kd l))]:=by rw[eS.eq_def];rfl
    rw[e1,Rj];unfold oM;exact (tX k g hg).bind ((vL l hl ht).bind Fx.pure)
   cases hV with
   | @plain e l he hl ht=>
    refine key _ l (fun j hj a ha=>?_) hl ht;rw[List.mem_singleton.1 ha];have e1:(mj I kd w (ag 17 [] [cc,e])).2=ag 17 [] [cc,(au I kd e).2]:=by rw[mj.eq_def];rfl
    rw[e1]
    cases j with
    |zero=>unfold dP;exact Fx.off
    |succ j=>
     refine lT (n:=ag 17 [] [cc,(au I kd e).2]) (l:=[cc,e]) (by simp [ag,X.kind]) ?_;show Fx (dD j [cc,(au I kd e).2]) _
     cases j with
     |zero=>unfold dD;exact Fx.off
     |succ j=>
      unfold dD;refine (al2 j).bind (Fx.bind (b:=[e]) ?_ Fx.pure)
      cases j with
      |zero=>unfold dD;exact Fx.off
      |succ j=>unfold dD;exact ((ih j V).exp e he).bind (Fx.bind (b:=[]) (by rw[kZ];exact Fx.pure) Fx.pure)
   | @guards g l h0 hg hl ht=>
    refine key g l (fun j hj a ha=>?_) hl ht;obtain⟨c,e,rfl,hc,he⟩:=hg a ha;have hk:¬c.kind=0:=by
     have:=jw hc;cases this<;>simp [ag,X.kind]
    have e1:(mj I kd w (ag 17 [] [c,e])).2=ag 17 [] ([c,e].map fun a=>(au I kd a).2):=by
     rw[mj.eq_def];simp only[ag];rw[if_neg hk];rfl
    rw[e1]
    cases j with
    |zero=>unfold dP;exact Fx.off
    |succ j=>exact lT (n:=ag 17 [] ([c,e].map fun a=>(au I kd a).2)) (by simp [ag,X.kind]) (tX j [c,e] fun i hi a ha=>(ih i V).exp a (by
        rcases List.mem_cons.1 ha with rfl|ha
        · exact hc
        · rw[List.mem_singleton.1 ha];exact he))
  ·intro l r v out on nm hl ht O h
   cases l with
   |nil=>
    have e:aD (cU I kd [])=[]:=by simp [cU,aD]
    rw[e,cD];exact h (k+1) out on (bQ _) aw O
   |cons d l=>
    have hl':∀d∈l,dT sp d=true:=fun x hx=>hl x (by simp [hx]);have hV:=wJ (hl d aw);rw[cU]
    cases hV with
    | @pat p r1 hp h42 hr=>
     have e1:e_ I kd (ag 15 [] [p,r1])=[(cY I (au I kd p).1++(eS I kd eQ r1).1,ag 15 [] [(au I kd p).2,(eS I kd eQ r1).2])]:=by rw[e_.eq_def];rfl
     rw[e1];show Fx (dF (k+1) (ag 15 [] [(au I kd p).2,(eS I kd eQ r1).2]::(aD (cU I kd l)++r)) out on) v;unfold dF;rw[if_neg (by simp [ag,X.kind])];refine Fx.bind (K.rhs eQ r1 hr) (Fx.bind (apC k hp h42) (Fx.bind ((Ez k).1 p hp) ?_));have hd:(ag 15 [] [p,r1]).kind≠13∨arity (ag 15 [] [p,r1])=0:=.inl (by simp [ag,X.kind]);rw[fX,if_pos hd] at ht;refine K.eqs l r v _ false [] hl' ht ⟨(fun h=>by cases h),fun _=>rfl⟩ fun k' out' on' hk' e hO'=>h k' out' on' V (by rw[e,cC];rfl) (by rw[uG,if_pos hd];exact hO')
    | @fn s cs j hs h0 hc hj=>
     have e1:e_ I kd (ag 13 s cs)=fQ I kd s cs:=by rw[e_.eq_def];rfl
     rw[e1]
     cases cs with
     |nil=>exact absurd rfl h0
     |cons c cs=>
      obtain⟨ps,r1,rfl,hps,hp,hr⟩:=hc c aw;have har:arity (ag 13 s (ag 14 [] [listed ps,r1]::cs))=j:=by rw[←hps];rfl
      rw[fQ];have e2:(jF I kd s (ag 14 [] [listed ps,r1])).2=ag 15 [] [fg (ag 18 s []::aD (bI I kd ps)),(eS I kd eQ r1).2]:=by rw[jF.eq_def];rfl
      have e3:aD (jF I kd s (ag 14 [] [listed ps,r1])::fQ I kd s cs++cU I kd l)++r=(jF I kd s (ag 14 [] [listed ps,r1])).2::(aD (fQ I kd s cs)++(aD (cU I kd l)++r)):=by
       simp [aD]
      rw[e3,e2];unfold dF;rw[if_neg (by simp [ag,X.kind])];refine Fx.bind (K.rhs eQ r1 hr) (Fx.bind (Un k hp) ?_);simp only;have hno:¬(on=true∧ps≠[]∧(out.getLastD cc).name=s):=by
       rintro⟨h1,h2,h3⟩;have A3:j≠0:=by rw[←hps];exact fun e=>h2 (kj e)
       rw[fX,if_neg (by rw[not_or,zp];exact⟨rfl,by rw[har];exact A3⟩),aQ,cx] at ht;exact ht.1 (by rw[←O.1 h1,h3];rfl)
      rw[if_neg hno]
      by_cases A3:j=0
      ·have rp:ps=[]:=kj (by rw[hps,A3]);have hcs:cs=[]:=by
        rcases hj with h|h
        ·omega
        ·simpa using h
       subst hcs;have hd:(ag 13 s [ag 14 [] [listed ps,r1]]).kind≠13∨arity (ag 13 s [ag 14 [] [listed ps,r1]])=0:=.inr (by rw[har,A3]);rw[fX,if_pos hd] at ht;have e4:aD (fQ I kd s [])=[]:=by simp [fQ,aD]
       rw[e4,cD,show decide (ps≠[])=false by simp [rp]];exact K.eqs l r v _ false [] hl' ht ⟨(fun h=>by cases h),fun _=>rfl⟩ fun k' out' on' hk' e hO'=>h k' out' on' V (by rw[e,cC];rfl) (by rw[uG,if_pos hd];exact hO')
      ·have hd:¬((ag 13 s (ag 14 [] [listed ps,r1]::cs)).kind≠13∨arity (ag 13 s (ag 14 [] [listed ps,r1]::cs))=0):=by rw[not_or,zp];exact⟨rfl,by rw[har];exact A3⟩
       rw[fX,if_neg hd,aQ] at ht;rw[show decide (ps≠[])=true by
         refine decide_eq_true fun e=>A3 ?_
         rw[←hps,e];rfl]
       refine K.cls cs s [ag 14 [] [listed ps,r1]] 0 (aD (cU I kd l)++r) v out j (fun x hx=>hc x (by simp [hx])) V aw har fun k' hk'=>?_;refine (ih k' V).eqs l r v _ true s hl' ht.2 ⟨fun _=>by rw[Ge];rfl,fun h=>by cases h⟩ fun k'' out' on' hk'' e hO'=>h k'' out' on' V (by rw[e,cC];rfl) (by rw[uG,if_neg hd];exact hO')
  ·exact clsS
end
section
variable (I:List UInt8→Bool) (kd:List UInt8→Int)
def gZ:X→List Tk
 | .mk k s _ l=>if k=54 then (match l with
     |a::b::_=>cY I (gZ a)++cY I (gZ b)
     |_=>[])
  else bF I kd s
def spine:X→List X→X×List X
 | .mk k s n l,vs=>if k=54 then (match l with
     |a::b::_=>spine a (b::vs)
     |_=>(.mk k s n l,vs))
  else (.mk k s n l,vs)
def jM (v:X):TP:=(bF I kd v.name,v)
def rA (n:X):List Tk:=
 let h:=(spine n []).1
 let vs:=(spine n []).2
 if vs=[] then bF I kd h.name
 else if h.name=lD then kw I eX::(bF I kd (vs.getD 0 cc).name++[kw I iI])
 else if h.name=gY∨h.name=gM then kw I bY::(bq I bD (vs.map (jM I kd))++[kw I bB])
 else if h.name=dC then kw I bY::(bq I dC (vs.map (jM I kd))++[kw I bB])
 else kw I bY::(bF I kd h.name++(fy (vs.map (jM I kd))++[kw I bB]))
def uU (n:X):List Tk:=bF I kd n.name++(kw I Oe::gZ I kd (sub n 0))
def nF (n:X):TP:=(uU I kd n,n)
def xQ (n:X):TP:=(gZ I kd n,n)
def rm (n:X):List Tk:=
 let l:=(sub n 0).ae
 if l≠[]∧(l.getD 0 cc).kind=7 then bF I kd n.name++(kw I cw::(bq I bD (l.map (nF I kd))++[kw I cd]))
 else bF I kd n.name++ie I (l.map (xQ I kd))
def oh (n:X):TP:=(rm I kd n,n)
def ns (n:X):TP:=(bF I kd n.name++bF I kd (sub n 0).name,n)
def xf (n:X):TP:=(mx I kd n,n)
def fh (n:X):List TP:=
 if n.kind=5 then [(kw I Cg::(bF I kd n.name++(fy ((sub n 0).ae.map (jM I kd))++mO I eQ ((sub n 1).ae.map (oh I kd)))),n)]
 else if n.kind=8 then [(kw I DC::(bF I kd n.name++(bF I kd (sub n 0).name++(kw I gj::kw I cw::(bq I cn ((sub n 1).ae.map (nF I kd))++[kw I cd])))),n)]
 else if n.kind=10 then [(kw I DH::kw I bY::(bq I bD ((sub n 0).ae.map (ns I kd))++(kw I bB::kw I w5::(bF I kd n.name++(rA I kd (sub n 1)++(kw I gj::kw I cw::(bq I cn (cU I kd (sub n 2).ae)++[kw I cd])))))),
   ag 10 n.name [sub n 0,sub n 1,listed (aD (cU I kd (sub n 2).ae))])]
 else if n.kind=12 then [(kw I n.name::⟨5,[],n.n⟩::bq I bD ((sub n 0).ae.map (xf I kd)),n)]
 else e_ I kd n
def iE:List X→List TP
 | []=>[]
 |d::l=>fh I kd d++iE l
def rl (n:X):List Tk:=if n.kind=0 then [] else kw I bY::(bq I bD (n.ae.map (jM I kd))++[kw I bB])
def ql (n:X):TP:=(kw I yi::(bF I kd n.name++rl I kd (sub n 0)),n)
def uu (n:X):List Tk:=
 kw I HW::(bF I kd n.name++(rl I kd (sub n 0)++(kw I gj::kw I cw::(bq I cn ((sub n 1).ae.map (ql I kd)++iE I kd (sub n 2).ae)++[kw I cd,⟨9,[],0⟩]))))
end
section
variable {I:List UInt8→Bool} {kd:List UInt8→Int} {sp:List UInt8→Int→Bool}
def N0 {a:X}(h:jc sp a=true):∃v,a=ag 52 v []∧qj sp v=true:=by
 obtain⟨k,s,n,l⟩:=a;simp only[jc,aQ,cx,dQ] at h;obtain⟨⟨⟨h1,h2⟩,h3⟩,h4⟩:=h;simp only[X.kind,X.n,X.name,X.ae] at h1 h2 h3 h4;subst h1 h2 h4;exact⟨s,rfl,h3⟩
def HE (hK:j9 sp kd):∀(m:Nat) (a:X),aL a≤m→ff sp a=true→qw I (gZ I kd a) a
 |0,a,hm,_=>by have:=dx a;omega
 |m+1,.mk k s n l,hm,h=>by
  rw[ff.eq_def] at h;simp only[aQ] at h;obtain⟨hn,h⟩:=h;have hn:=j4 hn;subst hn
  by_cases h1:k=52
  ·subst h1;simp only[if_true,aQ,dQ] at h;obtain⟨hs,rfl⟩:=h;have e:gZ I kd (.mk 52 s 0 [])=bF I kd s:=by rw[gZ.eq_def];rfl
   rw[e,Bj hK hs];exact .jq
  rw[if_neg h1] at h
  by_cases h2:k=53
  ·subst h2;simp only[if_true,aQ,dQ] at h;obtain⟨hs,rfl⟩:=h;have e:gZ I kd (.mk 53 s 0 [])=bF I kd s:=by rw[gZ.eq_def];rfl
   rw[e];exact .con (Ul hK hs)
  rw[if_neg h2] at h;simp only[aQ,cx,dQ] at h;obtain⟨⟨rfl,rfl⟩,h⟩:=h
  match l,h with
  | [a,b],h=>
   simp only[aQ] at h;have e:gZ I kd (.mk 54 [] 0 [a,b])=cY I (gZ I kd a)++cY I (gZ I kd b):=by rw[gZ.eq_def];rfl
   rw[e];rw[aL] at hm;simp only[aJ] at hm;exact .app (HE hK m a V h.1) (HE hK m b V h.2)
def LV (hK:j9 sp kd):∀{l:List X},(∀a∈l,jc sp a=true)→∃vs,l=rS vs∧fy (l.map (jM I kd))=wU vs∧∀v∈vs,qj sp v=true
 | [],_=>⟨[],rfl,rfl,aw⟩
 |a::l,h=>by
  obtain⟨v,rfl,hv⟩:=N0 (h a aw);obtain⟨vs,h1,h2,h3⟩:=LV hK (l:=l) fun x hx=>h x (by simp [hx]);refine⟨v::vs,by rw[h1];rfl,?_,fun x hx=>?_⟩
  ·rw[bf,fy,h2];show bF I kd v++wU vs=_;rw[Bj hK hv];rfl
  ·rcases List.mem_cons.1 hx with rfl|hx
   ·exact hv
   ·exact h3 x hx
def VH:∀(m:Nat) (n:X) (j:Nat) (acc:List X),aL n≤m→gQ sp n j=true→acc.length=j→(∀a∈acc,jc sp a=true)→
  ∃s vs,spine n acc=(ag 53 s [],vs)∧(∀a∈vs,jc sp a=true)∧qQ sp s=true∧(match kE s with|none=>True|some f=>vs.length=0∨vs.length=f)∧acc.foldl (fun n a=>ag 54 [] [n,a]) n=vs.foldl (fun n a=>ag 54 [] [n,a]) (ag 53 s [])
 |0,n,_,_,hm,_,_,_=>by have:=dx n;omega
 |m+1,.mk k s n l,j,acc,hm,h,hj,ha=>by
  rw[gQ.eq_def] at h;simp only at h
  by_cases h1:k=54
  ·subst h1;simp only[if_true,aQ,cx,dQ] at h;obtain⟨⟨rfl,rfl⟩,h⟩:=h
   match l,h with
   | [a,b],h=>
    simp only[aQ] at h;rw[aL] at hm;simp only[aJ] at hm;obtain⟨s,vs,g1,g2,g3,g4,g5⟩:=VH m a (j+1) (b::acc) V h.2 (by simp [hj]) (eF h.1 ha);exact⟨s,vs,by rw[spine.eq_def];exact g1,g2,g3,g4,g5⟩
  ·rw[if_neg h1] at h;simp only[aQ,cx] at h;obtain⟨⟨rfl,ht⟩,hf⟩:=h;rw[ff.eq_def] at ht;simp only[aQ] at ht;have hn:=j4 ht.1;subst hn;have ht:=ht.2;simp only[if_true,show ¬(53:Int)=52 by decide,if_false,aQ,dQ] at ht;obtain⟨hs,rfl⟩:=ht;refine⟨s,acc,by rw[spine.eq_def];rfl,ha,hs,?_,rfl⟩
   cases hfn:kE s with
   |none=>trivial
   |some f=>
    rw[hfn] at hf;rw[hj]
    simpa using hf
def aft (hK:j9 sp kd){n:X}(h:gQ sp n 0=true):uP I (rA I kd n) n:=by
 obtain⟨s,vs,g1,g2,g3,g4,g5⟩:=VH (aL n) n 0 [] (bQ _) h rfl fO;obtain⟨us,h1,h2,h3⟩:=LV (I:=I) hK g2;have e0:n=mw s (rS us):=by rw[←h1];exact g5
 unfold rA;simp only[g1];rw[show (ag 53 s []).name=s from rfl]
 by_cases hv:vs=[]
 ·rw[if_pos hv];have:us=[]:=by
   have:=congrArg List.length h1;rw[hv] at this;exact kj (by simpa [rS] using this.symm)
  rw[e0,this];exact .name (Ul hK g3)
 ·rw[if_neg hv];have hlen:vs.length=us.length:=by rw[h1];simp [rS]
  have aW:us.length≠0:=fun e=>hv (kj (by rw[hlen,e]));have nm:∀v,v∈us→bF I kd v=[⟨1,v,0⟩]:=fun v hv=>Bj hK (h3 v hv)
  by_cases hs:s=lD
  ·rw[if_pos hs];rw[show kE s=some 1 by rw[hs];decide] at g4;have:us.length=1:=by simp only at g4;omega
   match us,this with
   | [v],_=>
    rw[h1,e0,hs];have e1:((rS [v]).getD 0 cc).name=v:=rfl;rw[e1,nm v aw];exact .lst
  rw[if_neg hs]
  by_cases ke:s=gY∨s=gM
  ·rw[if_pos ke];rcases ke with ke|ke
   ·rw[show kE s=some 2 by rw[ke];decide] at g4;have:us.length=2:=by simp only at g4;omega
    match us,this with
    | [v,u],_=>
     rw[h1,e0,ke];have e1:bq I bD ((rS [v,u]).map (jM I kd))=bF I kd v++(kw I bD::(bF I kd u++[])):=rfl;rw[e1,nm v aw,nm u aw];exact .pair
   ·rw[show kE s=some 3 by rw[ke];decide] at g4;have:us.length=3:=by simp only at g4;omega
    match us,this with
    | [v,u,x],_=>
     rw[h1,e0,ke];have e1:bq I bD ((rS [v,u,x]).map (jM I kd))=bF I kd v++(kw I bD::(bF I kd u++(kw I bD::(bF I kd x++[])))):=rfl;rw[e1,nm v aw,nm u aw,nm x aw];exact .triple
  rw[if_neg ke]
  by_cases u9:s=dC
  ·rw[if_pos u9];rw[show kE s=some 2 by rw[u9];decide] at g4;have:us.length=2:=by simp only at g4;omega
   match us,this with
   | [v,u],_=>
    rw[h1,e0,u9];have e1:bq I dC ((rS [v,u]).map (jM I kd))=bF I kd v++(kw I dC::(bF I kd u++[])):=rfl;rw[e1,nm v aw,nm u aw];exact .arrow
  rw[if_neg u9];rw[not_or] at ke;have hgr:gg sp s=true:=by
   simp only[qQ,fW] at g3;rcases g3 with h|h
   ·exact h
   ·have:=List.contains_iff_mem.1 h;simp only[iS,jD,or_false] at this;rcases this with e|e|e|e|e
    ·rw[show kE s=some 0 by rw[e];decide] at g4;simp only at g4;omega
    ·exact absurd e ke.1
    ·exact absurd e ke.2
    ·exact absurd e hs
    ·exact absurd e u9
  rw[h2,vg hK hgr,e0];exact .app
end
section
variable {I:List UInt8→Bool} {kd:List UInt8→Int} {sp:List UInt8→Int→Bool}
def qz {lo:Nat}{f:X→Bool}{n:X}(h:iY lo f n=true):∃l,n=listed l∧lo≤l.length∧∀a∈l,f a=true:=by
 obtain⟨k,s,i,l⟩:=n;simp only[iY,aQ,cx,dQ,It] at h;obtain⟨⟨⟨⟨h1,h2⟩,h3⟩,h4⟩,h5⟩:=h;simp only[X.kind,X.n,X.name,X.ae] at h1 h2 h3 h4 h5;subst h1 h2 h3;exact⟨l,rfl,h4,h5⟩
def wR {P:X→Prop}{Q:TP→Prop}{f:X→TP}{l:List X}(h:∀a∈l,P a)(hf:∀a,P a→Q (f a)):∀p∈l.map f,Q p:=fun p hp=>by
 obtain⟨a,ha,rfl⟩:=List.mem_map.1 hp;exact hf a (h a ha)
def wv {f:X→TP}(hf:∀a,(f a).2=a)(l:List X):aD (l.map f)=l:=by
 simp only[aD,List.map_map]
 conv=>rhs;rw[←List.map_id l]
 exact List.map_congr_left fun a _=>hf a
def Yw {k:Int}{n:X}(h:lp sp k n=true):∃s a,n=ag k s [a]∧isVar sp s=true∧ff sp a=true:=by
 obtain⟨kn,s,i,l⟩:=n;simp only[lp,aQ,cx] at h;obtain⟨⟨⟨h1,h2⟩,h3⟩,h4⟩:=h;simp only[X.kind,X.n,X.name,X.ae] at h1 h2 h3 h4;subst h1 h2
 match l,h4 with
 | [a],h4=>exact⟨s,a,rfl,h3,h4⟩
def XO (hK:j9 sp kd){k:Int}{n:X}(h:lp sp k n=true):Bm I k (nF I kd n).1 (nF I kd n).2:=by
 obtain⟨s,a,rfl,hs,ha⟩:=Yw h;exact .mk (zX hK hs) (HE hK (aL a) a (bQ _) ha)
def akh (hK:j9 sp kd){n:X}(h:rf sp n=true):sE I (oh I kd n).1 (oh I kd n).2:=by
 obtain⟨kn,s,i,l⟩:=n;simp only[rf,aQ,cx] at h;obtain⟨⟨⟨h1,h2⟩,h3⟩,h4⟩:=h;simp only[X.kind,X.n,X.name,X.ae] at h1 h2 h3 h4;subst h1 h2
 match l,h4 with
 | [a],h4=>
  simp only[fW] at h4;have hf:∀q,iY 1 (lp sp 7) (listed q)=true→sE I (oh I kd (.mk 6 s 0 [listed q])).1 (.mk 6 s 0 [listed q]):=fun q hq=>by
   obtain⟨q',e,hl,hq⟩:=qz hq;injection e with _ _ _ e;subst e;have h0:q≠[]:=by intro e;subst e;simp at hl
   have hk:(q.getD 0 cc).kind=7:=by
    cases q with
    |nil=>exact absurd rfl h0
    |cons x q=>
     obtain⟨s',a',e',_,_⟩:=Yw (hq x aw);show x.kind=7;rw[e'];rfl
   have e1:(oh I kd (.mk 6 s 0 [listed q])).1=bF I kd s++(kw I cw::(bq I bD (q.map (nF I kd))++[kw I cd])):=by
    show rm I kd (.mk 6 s 0 [listed q])=_;unfold rm;rw[show (sub (.mk 6 s 0 [listed q]) 0).ae=q from rfl,if_pos ⟨h0,hk⟩];rfl
   rw[e1];have:=sE.fields (I:=I) (OH hK h3) (ps:=q.map (nF I kd)) (by simpa using h0) (wR hq fun a ha=>XO hK ha)
   rwa [wv (fun _=>rfl)] at this
  rcases h4 with h4|h4
  ·obtain⟨q,rfl,_,hq⟩:=qz h4;have e1:(oh I kd (.mk 6 s 0 [listed q])).1=bF I kd s++ie I (q.map (xQ I kd)):=by
    show rm I kd (.mk 6 s 0 [listed q])=_;unfold rm;rw[show (sub (.mk 6 s 0 [listed q]) 0).ae=q from rfl,if_neg ?_];rfl;rintro⟨h0,hk⟩
    cases q with
    |nil=>exact h0 rfl
    |cons x q=>
     have hx:=hq x aw;have hk:x.kind=7:=hk;obtain⟨kx,sx,nx,lx⟩:=x;simp only[X.kind] at hk;subst hk;rw[ff.eq_def] at hx;simp at hx
   show sE I (oh I kd (.mk 6 s 0 [listed q])).1 _;rw[e1];have:=sE.types (I:=I) (OH hK h3) (ps:=q.map (xQ I kd)) (wR hq fun a ha=>HE hK (aL a) a (bQ _) ha)
   rwa [wv (fun _=>rfl)] at this
  ·obtain⟨q,rfl,_,hq⟩:=qz h4;exact hf q h4
def afL (hK:j9 sp kd){n:X}(h:q7 sp n=true):SPred (ns I kd n).1 (ns I kd n).2:=by
 obtain⟨kn,s,i,l⟩:=n;simp only[q7,aQ,cx] at h;obtain⟨⟨⟨h1,h2⟩,h3⟩,h4⟩:=h;simp only[X.kind,X.n,X.name,X.ae] at h1 h2 h3 h4;subst h1 h2
 match l,h4 with
 | [a],h4=>
  obtain⟨v,rfl,hv⟩:=N0 h4;have e1:(ns I kd (.mk 11 s 0 [ag 52 v []])).1=bF I kd s++bF I kd v:=rfl;rw[e1,vg hK h3,Bj hK hv];exact .mk
def RL (d:X):d=.mk d.kind d.name d.n d.ae:=by cases d;rfl
inductive TV (sp:List UInt8→Int→Bool):X→Prop
 |data {s q c}:gg sp s=true→(∀a∈q,jc sp a=true)→(∀a∈c,rf sp a=true)→TV sp (ag 5 s [listed q,listed c])
 |cls {s v c}:gg sp s=true→qj sp v=true→(∀a∈c,lp sp 9 a=true)→TV sp (ag 8 s [ag 52 v [],listed c])
 |inst {s q b e}:gg sp s=true→(∀a∈q,q7 sp a=true)→gQ sp b 0=true→(∀a∈e,dT sp a=true∧a.kind=13)→fX [] e=true→TV sp (ag 10 s [listed q,b,listed e])
 |fix {s n q}:s∈[yr,xJ,xL]→0≤n→n≤9→q≠[]→(∀a∈q,eK sp a=true)→TV sp (.mk 12 s n [listed q])
 |eq {d}:dT sp d=true→d.kind≠5→d.kind≠8→d.kind≠10→d.kind≠12→TV sp d
def Nt {d:X}(h:fE sp d=true):TV sp d:=by
 have eta:=RL d;unfold fE at h
 by_cases h5:d.kind=5
 ·rw[if_pos h5] at h;simp only[aQ,cx] at h;obtain⟨⟨hs,hn⟩,h⟩:=h
  match hd:d.ae,h with
  | [a,b],h=>
   simp only[aQ] at h;obtain⟨q,rfl,_,hq⟩:=qz h.1;obtain⟨c,rfl,_,hc⟩:=qz h.2;rw[eta,h5,hn,hd];exact .data hs hq hc
 rw[if_neg h5] at h
 by_cases h8:d.kind=8
 ·rw[if_pos h8] at h;simp only[aQ,cx] at h;obtain⟨⟨hs,hn⟩,h⟩:=h
  match hd:d.ae,h with
  | [a,b],h=>
   simp only[aQ] at h;obtain⟨v,rfl,hv⟩:=N0 h.1;obtain⟨c,rfl,_,hc⟩:=qz h.2;rw[eta,h8,hn,hd];exact .cls hs hv hc
 rw[if_neg h8] at h
 by_cases h10:d.kind=10
 ·rw[if_pos h10] at h;simp only[aQ,cx] at h;obtain⟨⟨hs,hn⟩,h⟩:=h
  match hd:d.ae,h with
  | [a,b,c],h=>
   simp only[aQ] at h;obtain⟨⟨⟨h1,h2⟩,h3⟩,h4⟩:=h;obtain⟨q,rfl,_,hq⟩:=qz h1;obtain⟨e,rfl,_,he⟩:=qz h3;rw[eta,h10,hn,hd];refine .inst hs hq h2 (fun a ha=>?_) h4;have:=he a ha;simp only[uR,aQ,cx] at this;exact⟨this.2,this.1⟩
 rw[if_neg h10] at h
 by_cases h12:d.kind=12
 ·rw[if_pos h12] at h;simp only[aQ,cx] at h;obtain⟨⟨hs,hn⟩,h⟩:=h
  match hd:d.ae,h with
  | [a],h=>
   obtain⟨q,rfl,hl,hq⟩:=qz h;rw[eta,h12,hd];exact .fix (List.contains_iff_mem.1 hs) hn.1 V (by intro e;subst e;simp at hl) hq
 rw[if_neg h12] at h;exact .eq h h5 h8 h10 h12
def ai8 (hK:j9 sp kd){d:X}(h:fE sp d=true):∀p∈fh I kd d,nD I p.1 p.2:=by
 have hV:=Nt h;clear h
 cases hV with
 | @data s q c hs hq hc=>
  obtain⟨vs,e1,e2,_⟩:=LV (I:=I) (kd:=kd) hK hq;have e:fh I kd (ag 5 s [listed q,listed c])=[(kw I Cg::(bF I kd s++(fy (q.map (jM I kd))++mO I eQ (c.map (oh I kd)))),ag 5 s [listed q,listed c])]:=rfl;intro p hp;rw[e] at hp;rw[List.mem_singleton.1 hp,e2,vg hK hs];have:=nD.data (I:=I) (s:=s) (vs:=vs) (ps:=c.map (oh I kd)) (wR hc fun a ha=>akh hK ha);rw[wv (fun _=>rfl),←e1] at this;exact this
 | @cls s v c hs hv hc=>
  have e:fh I kd (ag 8 s [ag 52 v [],listed c])=[(kw I DC::(bF I kd s++(bF I kd v++(kw I gj::kw I cw::(bq I cn (c.map (nF I kd))++[kw I cd])))),ag 8 s [ag 52 v [],listed c])]:=rfl;intro p hp;rw[e] at hp;rw[List.mem_singleton.1 hp,vg hK hs,Bj hK hv];have:=nD.cls (I:=I) (s:=s) (v:=v) (ps:=c.map (nF I kd)) (wR hc fun a ha=>XO hK ha);rw[wv (fun _=>rfl)] at this;exact this
 | @inst s q b e hs hq hb he ht=>
  have e0:fh I kd (ag 10 s [listed q,b,listed e])=[(kw I DH::kw I bY::(bq I bD (q.map (ns I kd))++(kw I bB::kw I w5::(bF I kd s++(rA I kd b++(kw I gj::kw I cw::(bq I cn (cU I kd e)++[kw I cd])))))),ag 10 s [listed q,b,listed (aD (cU I kd e))])]:=rfl;intro p hp;rw[e0] at hp;rw[List.mem_singleton.1 hp,vg hK hs];have:=nD.inst (I:=I) (s:=s) (cs:=q.map (ns I kd)) (ps:=cU I kd e) (wR hq fun a ha=>afL hK ha) (aft hK hb) (Fa (m:=aJ e) (fun a ha hb=>(wK hK (aJ e)).eq a ha hb) e (bQ _) fun a ha=>(he a ha).1);rw[wv (fun _=>rfl)] at this;exact this
 | @fix s n q hs h0 h9 hq0 hq=>
  have e0:fh I kd (.mk 12 s n [listed q])=[(kw I s::⟨5,[],n⟩::bq I bD (q.map (xf I kd)),.mk 12 s n [listed q])]:=rfl;intro p hp;rw[e0] at hp;rw[List.mem_singleton.1 hp];have:=nD.fix (I:=I) (s:=s) (n:=n) (ps:=q.map (xf I kd)) hs h0 h9 (by simpa using hq0) (wR hq fun a ha=>Ch hK ha);rw[wv (fun _=>rfl)] at this;exact this
 |eq h h5 h8 h10 h12=>
  have e0:fh I kd d=e_ I kd d:=by unfold fh;rw[if_neg h5,if_neg h8,if_neg h10,if_neg h12]
  rw[e0];intro p hp;exact .eq ((wK hK (aL d)).eq _ (bQ _) h p hp)
def Y0 (hK:j9 sp kd):∀l:List X,(∀d∈l,fE sp d=true)→∀p∈iE I kd l,nD I p.1 p.2
 | [],_=>by simp [iE]
 |d::l,h=>by
  rw[iE];intro p hp;rcases List.mem_append.1 hp with hp|hp
  ·exact ai8 hK (h d aw) p hp
  ·exact Y0 hK l (fun x hx=>h x (by simp [hx])) p hp
def aga (hK:j9 sp kd){n:X}(h:yL sp n=true):Br I (jM I kd n).1 (jM I kd n).2:=by
 obtain⟨kn,s,i,l⟩:=n;simp only[yL,aQ,cx,dQ] at h;obtain⟨⟨⟨h1,h2⟩,h3⟩,h4⟩:=h;simp only[X.kind,X.n,X.name,X.ae] at h1 h2 h3 h4;subst h1 h2 h4;simp only[fW] at h3;show Br I (bF I kd s) _;rcases h3 with h3|h3
 ·exact .var (zX hK h3)
 ·rw[vg hK h3];exact .con
def Ql (hK:j9 sp kd){n:X}(h:pY sp n=true):yB I (rl I kd n) n:=by
 simp only[pY,fW] at h;rcases h with h|h
 ·obtain⟨kn,s,i,l⟩:=n;simp only[ox,aQ,cx,dQ] at h;obtain⟨⟨⟨h1,h2⟩,h3⟩,h4⟩:=h;simp only[X.kind,X.n,X.name,X.ae] at h1 h2 h3 h4;subst h1 h2 h3 h4;exact .none
 ·obtain⟨q,rfl,_,hq⟩:=qz h;have:=yB.some (I:=I) (ps:=q.map (jM I kd)) (wR hq fun a ha=>aga hK ha);rw[wv (fun _=>rfl)] at this;exact this
def aaM (hK:j9 sp kd){n:X}(h:oB sp n=true):BZ I (ql I kd n).1 (ql I kd n).2:=by
 obtain⟨kn,s,i,l⟩:=n;simp only[oB,aQ,cx] at h;obtain⟨⟨⟨h1,h2⟩,h3⟩,h4⟩:=h;simp only[X.kind,X.n,X.name,X.ae] at h1 h2 h3 h4;subst h1 h2
 match l,h4 with
 | [a],h4=>
  have e1:(ql I kd (.mk 3 s 0 [a])).1=kw I yi::(bF I kd s++rl I kd a):=rfl;rw[e1,vg hK h3];exact .mk (Ql hK h4)
def bW (I:List UInt8→Bool)(kd:List UInt8→Int)(d:X):List X:=if d.kind=5∨d.kind=8∨d.kind=10∨d.kind=12 then [d] else aD (e_ I kd d)
def Sc {d:X}(h:fE sp d=true)(hk:¬(d.kind=5∨d.kind=8∨d.kind=10∨d.kind=12)):dT sp d=true:=by
 rw[not_or,not_or,not_or] at hk;unfold fE at h;rw[if_neg hk.1,if_neg hk.2.1,if_neg hk.2.2.1,if_neg hk.2.2.2] at h;exact h
def aor {d:X}(h:dT sp d=true):∀x∈aD (e_ I kd d),x.kind=15:=by
 have hV:=wJ h
 cases hV with
 | @pat p r _ _ _=>
  have e1:e_ I kd (ag 15 [] [p,r])=[(cY I (au I kd p).1++(eS I kd eQ r).1,ag 15 [] [(au I kd p).2,(eS I kd eQ r).2])]:=by rw[e_.eq_def];rfl
  rw[e1];intro x hx;have hx:x=ag 15 [] [(au I kd p).2,(eS I kd eQ r).2]:=by simpa [aD] using hx
  rw[hx];rfl
 | @fn s cs j _ _ hc _=>
  have e1:e_ I kd (ag 13 s cs)=fQ I kd s cs:=by rw[e_.eq_def];rfl
  rw[e1,Tx];intro x hx;obtain⟨c,hc',rfl⟩:=List.mem_map.1 hx;obtain⟨ps,r1,rfl,_,_,_⟩:=hc c hc';rw[jF.eq_def];rfl
def VB (k:Nat):∀(xs ys:List X) (v:List X),(∀x∈xs,x.kind=15)→Fx (ja k ys) v→Fx (ja k (xs++ys)) (xs++v)
 | [],_,_,_,h=>h
 |x::xs,ys,v,hx,h=>by
  rw[ck,ck];unfold ja;rw[if_neg (by rw[hx x aw];decide)];exact (VB k xs ys v (fun y hy=>hx y (by simp [hy])) h).bind Fx.pure
def Rl (k:Nat):∀l:List X,(∀d∈l,fE sp d=true)→Fx (ja k (aD (iE I kd l))) (l.flatMap (bW I kd))
 | [],_=>by
  have:aD (iE I kd [])=[]:=by simp [iE,aD]
  rw[this];unfold ja;exact Fx.pure
 |d::l,h=>by
  have ih:=Rl k l fun x hx=>h x (by simp [hx]);have hd:=h d aw;have e0:aD (iE I kd (d::l))=aD (fh I kd d)++aD (iE I kd l):=by rw[iE];simp [aD]
  rw[e0,List.flatMap_cons];have one:∀{x:X},aD (fh I kd d)=[x]→x=d→d.kind≠10→bW I kd d=[d]→Fx (ja k (aD (fh I kd d)++aD (iE I kd l))) (bW I kd d++l.flatMap (bW I kd)):=fun {x} h1 h2 h3 h4=>by
   rw[h1,h4,h2];show Fx (ja k (d::_)) (d::_);unfold ja;rw[if_neg h3];exact ih.bind Fx.pure
  by_cases h5:d.kind=5
  ·exact one (x:=d) (by unfold fh;rw[if_pos h5];rfl) rfl (by rw[h5];decide) (by unfold bW;rw[if_pos (.inl h5)])
  by_cases h8:d.kind=8
  ·exact one (x:=d) (by unfold fh;rw[if_neg h5,if_pos h8];rfl) rfl (by rw[h8];decide) (by unfold bW;rw[if_pos (.inr (.inl h8))])
  by_cases h12:d.kind=12
  ·exact one (x:=d) (by unfold fh;rw[if_neg h5,if_neg h8,if_neg (by rw[h12];decide),if_pos h12];rfl) rfl (by rw[h12];decide) (by unfold bW;rw[if_pos (.inr (.inr (.inr h12)))])
  by_cases h10:d.kind=10
  ·have e1:aD (fh I kd d)=[ag 10 d.name [sub d 0,sub d 1,listed (aD (cU I kd (sub d 2).ae))]]:=by unfold fh;rw[if_neg h5,if_neg h8,if_pos h10];rfl
   rw[e1,show bW I kd d=[d] by unfold bW;rw[if_pos (.inr (.inr (.inl h10)))]];have hV:=Nt hd;clear hd
   cases hV with
   |data _ _ _=>exact absurd h10 (by simp [ag,X.kind])
   |cls _ _ _=>exact absurd h10 (by simp [ag,X.kind])
   |fix _ _ _ _ _=>exact absurd h10 (by simp [X.kind])
   |eq _ _ _ h _=>exact absurd h10 h
   | @inst s a b e hs hq hb he h4=>
    have he':∀a∈e,dT sp a=true:=fun a ha=>(he a ha).1;have tO:∀a∈e,a.kind=13:=fun a ha=>(he a ha).2;have hno:rq e=false:=by
     have:∀q:List X,(∀a∈q,a.kind=13)→rq q=false:=by
      intro q
      induction q with
      |nil=>intro _;rfl
      |cons x q ih=>intro hq;rw[rq,hq x aw,ih fun y hy=>hq y (by simp [hy])];rfl
     exact this e tO
    have hE:Fx (dF k (aD (cU I kd e)) [] false) e:=by
     have:=(fK (I:=I) (kd:=kd) (sp:=sp) k).eqs e [] e [] false [] he' h4 ⟨(fun h=>by cases h),fun _=>rfl⟩ fun k' out' on' _ e' _=>by
      rw[e',cD];unfold dF;exact Fx.pure
     rwa [cB] at this
    show Fx (ja k (ag 10 s [listed a,b,listed (aD (cU I kd e))]::aD (iE I kd l))) (.mk 10 s 0 [listed a,b,listed e]::_);unfold ja;rw[if_pos (show (ag 10 s [listed a,b,listed (aD (cU I kd e))]).kind=10 from rfl)];exact Fx.bind hE (Fx.fw hno (ih.bind Fx.pure))
  ·have hk:¬(d.kind=5∨d.kind=8∨d.kind=10∨d.kind=12):=by rw[not_or,not_or,not_or];exact⟨h5,h8,h10,h12⟩
   have e1:fh I kd d=e_ I kd d:=by unfold fh;rw[if_neg h5,if_neg h8,if_neg h10,if_neg h12]
   have e2:bW I kd d=aD (e_ I kd d):=by unfold bW;rw[if_neg hk]
   rw[e1,e2];exact VB k _ _ _ (aor (Sc hd hk)) ih
def Ma:∀(l:List X) (k:Nat) (out:List X) (on:Bool) (nm:List UInt8),(∀d∈l,fE sp d=true)→fX nm l=true→DX out on nm→Fx (dF k (l.flatMap (bW I kd)) out on) (out++l)
 | [],k,out,on,nm,_,_,_=>by
  rw[List.flatMap_nil,cB];unfold dF;exact Fx.pure
 |d::l,k,out,on,nm,h,ht,O=>by
  have hl:∀d∈l,fE sp d=true:=fun x hx=>h x (by simp [hx]);rw[List.flatMap_cons]
  by_cases hk:d.kind=5∨d.kind=8∨d.kind=10∨d.kind=12
  ·rw[show bW I kd d=[d] by unfold bW;rw[if_pos hk]];have h13:d.kind≠13∨arity d=0:=.inl V;rw[fX,if_pos h13] at ht;show Fx (dF k (d::_) out on) _
   cases k with
   |zero=>unfold dF;exact Fx.off
   |succ k=>
    unfold dF;rw[if_pos (show d.kind≠15 by omega)];have:=Ma l k (out++[d]) false [] hl ht ⟨(fun h=>by cases h),fun _=>rfl⟩
    rwa [cC] at this
  ·have hd:=Sc (h d aw) hk;have e2:bW I kd d=aD (cU I kd [d]):=by unfold bW;rw[if_neg hk,cU,cU,cB]
   rw[e2];have Ho:fX nm [d]=true∧fX (uG nm [d]) l=true:=by
    rw[fX] at ht;simp only[fX,uG]
    split at ht
    ·rename_i hc;rw[if_pos hc,if_pos hc];exact⟨rfl,ht⟩
    ·rename_i hc;rw[if_neg hc,if_neg hc];rw[aQ] at ht ⊢;exact⟨⟨ht.1,rfl⟩,ht.2⟩
   refine (fK (I:=I) (kd:=kd) (sp:=sp) k).eqs [d] _ _ out on nm (by simpa using hd) Ho.1 O fun k' out' on' _ e hO'=>?_;rw[show out++d::l=out'++l by rw[e];simp];exact Ma l k' out' on' _ hl Ho.2 hO'
end
section
variable {I:List UInt8→Bool} {kd:List UInt8→Int} {sp:List UInt8→Int→Bool}
end
end Go.Proofs.YtdfccaonglmgpaaGreatDoor
