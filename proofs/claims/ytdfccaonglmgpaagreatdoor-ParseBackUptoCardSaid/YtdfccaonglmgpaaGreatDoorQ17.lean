/- Q17 -/
import Derived.Test.YtdfccaonglmgpaaGreatDoorQ01
import Derived.Test.YtdfccaonglmgpaaGreatDoorQ03
import Derived.Test.YtdfccaonglmgpaaGreatDoorQ06
import Derived.Test.YtdfccaonglmgpaaGreatDoorQ15
import Derived.Test.YtdfccaonglmgpaaGreatDoorQ13
import Derived.Test.YtdfccaonglmgpaaGreatDoorQ16
import Derived.Test.YtdfccaonglmgpaaGreatDoorQ12
import Derived.Test.YtdfccaonglmgpaaGreatDoorQ05
import Derived.OpenShut
open Go.Proofs.Tryz
set_option linter.all false
namespace Go.Proofs.YtdfccaonglmgpaaGreatDoor
def eo (k:Int)(s:List UInt8)(n:Int)(l:List X):aL (.mk k s n l)=1+aJ l:=by rw[lK];rfl
def eZ:aL cc=1:=rfl
section
variable {α β:Type} {s:PS} {Φ Ψ:α→Nat→Prop} {w:List UInt8}
end
section
variable {α β:Type} {s:PS} {w:List UInt8}
end
section
variable {s:PS}
end
open Go
section
variable {sp:List UInt8→Int→Bool}
def gV {k n:Int}{s:List UInt8}{l:List X}(hk:0≤k∧k≤100)(h23:k≠23)(h:∀a∈l,jI a):jI (.mk k s n l):=wY.2 ⟨hk,fun e=>absurd e h23,h⟩
def ye {l:List X}(h:∀a∈l,jI a):jI (listed l):=gV V V h
def LA {o:X}(h:eK sp o=true):jI o:=by
 obtain⟨h1,h2,h3⟩:=z8 h;obtain⟨k,s,n,l⟩:=o;simp only[X.kind,X.ae] at h1 h2;subst h1 h2;exact gV V V fO
structure KR (sp:List UInt8→Int→Bool)(m:Nat):Prop where
 pe:∀n,aL n≤m→PE sp n→jI n∧n.kind≠24
 po:∀l,aJ l≤m→PO sp l→(∀a∈l,jI a)∧l.length % 2=0∧∀(i:Nat) (o:X),l[i]?=some o→o.kind=24→i % 2=0
 pf:∀n,aL n≤m→PF sp n→jI n
 pa:∀n,aL n≤m→PA sp n→jI n
 ps:∀n,aL n≤m→tZ sp n→jI n
 pr:∀n,aL n≤m→PR sp n→jI n
 pg:∀n,aL n≤m→PG sp n→jI n
 pq:∀n,aL n≤m→PQ sp n→jI n
def l8 {k n:Int}{s:List UInt8}{l:List X}(h:k≠24):(X.mk k s n l).kind≠24:=h
def pR {P:X→Prop}{a b:X}(ha:P a)(hb:P b):∀x∈[a,b],P x:=eF ha (eF hb fO)
def SH:∀m,KR sp m
 |0=>⟨fun n h=>by have:=dx n;omega,fun l h hl=>by
     cases hl with
     |nil=>exact⟨fO,rfl,fun i o h=>by simp at h⟩
     |cons _ _ _=>rw[bR] at h;omega,fun n h=>by have:=dx n;omega,fun n h=>by have:=dx n;omega,fun n h=>by have:=dx n;omega,fun n h=>by have:=dx n;omega,fun n h=>by have:=dx n;omega,fun n h=>by have:=dx n;omega⟩
 |m+1=>by
  have K:=SH m;have sub:∀{k:Int} {s:List UInt8} {l:List X},aL (ag k s l)≤m+1→aJ l≤m:=fun h=>by rw[bU] at h;omega
  have sb:∀{k:Int} {s:List UInt8} {l:List X},aL (ag k s l)≤m+1→∀a∈l,aL a≤m:=fun h a ha=>by have:=sub h;have:=Cc ha;omega
  have lst:∀{l:List X},aL (listed l)≤m→∀a∈l,aL a≤m:=fun h a ha=>by rw[dz] at h;have:=Cc ha;omega
  have PE1:∀n,aL n≤m+1→PE sp n→jI n∧n.kind≠24:=by
   intro n h hn
   cases hn with
    |var _=>exact⟨gV V V fO,l8 V⟩
    |con _=>exact⟨gV V V fO,l8 V⟩
    |int _=>exact⟨gV V V fO,l8 (n:=_) V⟩
    |str=>exact⟨gV V V fO,l8 V⟩
    |app ha hb=>exact⟨gV V V (pR (K.pe _ (sb h _ aw) ha).1 (K.pe _ (sb h _ aw) hb).1),l8 V⟩
    | @ops a l ha hl aW=>
     have h0:=sub h;rw[bR] at h0;have ha:=K.pe a V ha;have hl:=K.po l V hl;refine⟨wY.2 ⟨by simp [ag,X.kind],fun _=>⟨?_,?_,fun i o hi hk=>?_⟩,eF ha.1 hl.1⟩,l8 V⟩
     ·show 3≤(a::l).length;have h2:=hl.2.1;have:l.length≠0:=fun e=>aW (kj e);rw[bg];omega
     ·show (a::l).length % 2=1;have h2:=hl.2.1;rw[bg];omega
     ·have hi:(a::l)[i]?=some o:=hi
      cases i with
      |zero=>rw[List.getElem?_cons_zero] at hi;cases hi;exact absurd hk ha.2
      |succ i=>rw[List.getElem?_cons_succ] at hi;have:=hl.2.2 i o hi hk;omega
    |lam _ hl he=>exact⟨gV V V (pR (ye fun a ha=>(K.pe a (lst (sb h _ aw) a ha) (hl a ha)).1) (K.pe _ (sb h _ aw) he).1),l8 V⟩
    |elet hl he=>exact⟨gV V V (pR (ye fun a ha=>K.pq a (lst (sb h _ aw) a ha) (hl a ha)) (K.pe _ (sb h _ aw) he).1),l8 V⟩
    |eif ha hb hc=>exact⟨gV V V (eF (K.pe _ (sb h _ aw) ha).1 (pR (K.pe _ (sb h _ aw) hb).1 (K.pe _ (sb h _ aw) hc).1)),l8 V⟩
    |ecase ha hl=>exact⟨gV V V (eF (K.pe _ (sb h _ aw) ha).1 fun x hx=>K.pa x (sb h _ (lz _ hx)) (hl x hx)),l8 V⟩
    |edo hl=>exact⟨gV V V fun x hx=>K.ps x (sb h _ hx) (hl x hx),l8 V⟩
    |tup hl _=>exact⟨gV V V fun x hx=>(K.pe x (sb h _ hx) (hl x hx)).1,l8 V⟩
    |lst hl=>exact⟨gV V V fun x hx=>(K.pe x (sb h _ hx) (hl x hx)).1,l8 V⟩
    |left ha ho=>exact⟨gV V V (pR (K.pe _ (sb h _ aw) ha).1 (LA ho)),l8 V⟩
    |right ho ha=>exact⟨gV V V (pR (LA ho) (K.pe _ (sb h _ aw) ha).1),l8 V⟩
    |make _ hl=>exact⟨gV V V fun x hx=>K.pf x (sb h _ hx) (hl x hx),l8 V⟩
    |put _ ha _ hl=>exact⟨gV V V (eF (K.pe _ (sb h _ aw) ha).1 fun x hx=>K.pf x (sb h _ (lz _ hx)) (hl x hx)),l8 V⟩
    |wild=>exact⟨gV V V fO,l8 V⟩
    |eas _ ha=>exact⟨gV V V (eF (K.pe _ (sb h _ aw) ha).1 fO),l8 V⟩
  refine⟨PE1,fun l h hl=>?_,fun n h hn=>?_,fun n h hn=>?_,fun n h hn=>?_,fun n h hn=>?_,fun n h hn=>?_,fun n h hn=>?_⟩
  ·cases hl with
   |nil=>exact⟨fO,rfl,fun i o h=>by simp at h⟩
   | @cons o b l ho hb hl=>
    rw[bR,bR] at h;have hb:=K.pe b V hb;have hl:=K.po l V hl;refine⟨eF (LA ho) (eF hb.1 hl.1),?_,fun i x hi hk=>?_⟩
    ·have:=hl.2.1;rw[bg,bg];omega
    ·match i with
     |0=>rfl
     |1=>rw[List.getElem?_cons_succ,List.getElem?_cons_zero] at hi;cases hi;exact absurd hk hb.2
     |i+2=>rw[List.getElem?_cons_succ,List.getElem?_cons_succ] at hi;have:=hl.2.2 i x hi hk;omega
  ·cases hn with
   |mk _ ha=>exact gV V V (eF (K.pe _ (sb h _ aw) ha).1 fO)
  ·cases hn with
   |mk ha hr=>exact gV V V (pR (K.pe _ (sb h _ aw) ha).1 (K.pr _ (sb h _ aw) hr))
  ·cases hn with
   |exp he=>exact (PE1 n h he).1
   |gen ha he=>exact gV V V (pR (K.pe _ (sb h _ aw) ha).1 (K.pe _ (sb h _ aw) he).1)
   |slet hl=>exact gV V V (eF (ye fun a ha=>K.pq a (lst (sb h _ aw) a ha) (hl a ha)) fO)
  ·cases hn with
   |plain he hl=>
    have hg:=sb h _ (jL);have h17:=lst hg _ (jL);rw[bU] at h17;refine gV V V (pR (ye (eF (gV V V (pR (gV V V fO) (K.pe _ (by rw[bR,bR] at h17;omega) he).1)) fO)) (ye fun a ha=>K.pq a (lst (sb h _ aw) a ha) (hl a ha)))
   |guards _ hg hl=>exact gV V V (pR (ye fun a ha=>K.pg a (lst (sb h _ aw) a ha) (hg a ha)) (ye fun a ha=>K.pq a (lst (sb h _ aw) a ha) (hl a ha)))
  ·cases hn with
   |mk hc he=>exact gV V V (pR (K.pe _ (sb h _ aw) hc).1 (K.pe _ (sb h _ aw) he).1)
  ·cases hn with
   |mk hc he=>exact gV V V (pR (K.pe _ (sb h _ aw) hc).1 (K.pr _ (sb h _ aw) he))
def arh {n:X}(h:PQ sp n):jI n:=(SH (aL n)).pq n (bQ _) h
def Tf {n:X}(h:PQ sp n)(hz:aL n≤274877906944):gh n:=⟨hz,arh h⟩
def adY {n:X}(h:PQ sp n):n.kind=15:=by cases h;rfl
def Yn {x:W}{k:Int}{s:List UInt8}{a b c:X}(h:x.er=ag k s [a,b,c]):∃e i D:W,x.ae=[e,i,D]∧e.er=a∧i.er=b∧D.er=c:=by
 have h1:=congrArg X.ae h;rw[W.cq] at h1;have h1:x.ae.map W.er=[a,b,c]:=h1
 match hx:x.ae,h1 with
 | [e,i,D],h1=>
  simp only[bf,bX,List.cons.injEq,and_true] at h1;exact⟨e,i,D,rfl,h1.1,h1.2.1,h1.2.2⟩
def Tv {x:W}{l:List X}(h:x.er=listed l):x.ae.map W.er=l:=by
 have h1:=congrArg X.ae h;rw[W.cq] at h1;exact h1
def Vg (l:List X):l.length≤aJ l:=by
 induction l with
 |nil=>exact dN _
 |cons a l ih=>rw[bR,bg];omega
def P2 {x:W}(h:Cf sp x.er)(hz:aL x.er≤274877906944):LZ x:=by
 generalize hx:x.er=n at h hz
 cases h with
 | @mk t e i l h1 h2 h3 h4=>
  obtain⟨e',i',D,hs,he,hi,hD⟩:=Yn hx;have hl:=Tv hD;rw[bU,bR,bR,bR,dz,dz] at hz;have hlen:D.ae.length=l.length:=by rw[←hl,dW]
  have hll:=Vg l;have hd:∀d∈D.ae,PT sp d.er∧aL d.er≤274877906944:=fun d hd=>by
   have hm:d.er∈l:=hl▸List.mem_map_of_mem hd;have:=Cc hm;exact⟨h4 _ hm,V⟩
  refine⟨e',i',D,hs,V,fun d hdm hk=>?_,fun d hdm hk=>?_⟩
  ·obtain⟨h5,h6⟩:=hd d hdm;rw[←W.a8] at hk;generalize d.er=y at h5 h6 hk
   cases h5 with
   |top _ h15 _ _=>exact absurd hk h15
   |inst _ _ _ _=>exact absurd hk (by simp only[ag,X.kind];decide)
   |eq h=>exact Tf h h6
  ·obtain⟨h5,h6⟩:=hd d hdm;rw[←W.a8] at hk;generalize hy:d.er=y at h5 h6 hk
   cases h5 with
   |top _ _ _ h10=>exact absurd hk h10
   |eq h=>rw[adY h] at hk;cases hk
   | @inst t c h l2 _ _ _ hq=>
    obtain⟨c',h',q,ke,_,_,Ca⟩:=Yn hy;have jf:=Tv Ca;rw[bU,bR,bR,bR,dz] at h6;refine⟨c',h',q,ke,?_,fun a ha fL=>?_⟩
    ·rw[jf];have atH:=Vg l2;omega
    ·rw[jf] at ha;have:=Cc ha;exact Tf (hq a ha) V
end
def WG (s:List UInt8)(k:Int)(x:List UInt8)(v:Int):Prop:=eB x 0=.tok k x 0 x.length∧x≠[]∧(∀c∈x,c≠10)∧x.length≤s.length
def Sh {p:UInt8→Bool}:∀{l:List UInt8},(∀c∈l,p c=true)→l.takeWhile p=l
 | [],_=>rfl
 |a::l,h=>by rw[List.takeWhile_cons_of_pos (h a aw),Sh fun c hc=>h c (by simp [hc])]
def J2 {p:UInt8→Bool}:∀{l:List UInt8},∀c∈l.takeWhile p,p c=true
 | [],c,h=>by simp at h
 |a::l,c,h=>by
  by_cases ha:p a=true
  ·rw[List.takeWhile_cons_of_pos ha] at h;rcases List.mem_cons.1 h with rfl|h
   ·exact ha
   ·exact J2 c h
  ·rw[List.takeWhile_cons_of_neg ha] at h;cases h
def Qg {x:List UInt8}{q:Nat}(h:∀c∈x,fC q c=true):bo x 0 q=x.length:=by
 unfold bo;rw[List.drop_zero,Sh h]
def Tp (x:List UInt8):cQ x 0 x.length=x:=by
 unfold cQ;rw[Nat.zero_add,List.take_length,List.drop_zero]
def Sw (s:List UInt8)(i q:Nat):cQ s i (bo s i q)=(s.drop i).takeWhile (fC q):=by
 rw[←zg,bo];have:∀l:List UInt8,l.take (l.takeWhile (fC q)).length=l.takeWhile (fC q):=by
  intro l
  induction l with
  |nil=>rfl
  |cons a l ih=>
   by_cases ha:fC q a=true
   ·rw[List.takeWhile_cons_of_pos ha,bg,List.take_succ_cons,ih]
   ·rw[List.takeWhile_cons_of_neg ha];rfl
 exact this _
def SL {q:Nat}{c:UInt8}(hq:q=0∨q=2)(h:fC q c=true):c≠10:=fun e=>by
 subst e;rcases hq with rfl|rfl<;>exact absurd h ai
def P3 {s:List UInt8}{i:Nat}{x r:List UInt8}(h:s.drop i=x++r)(hx:x≠[]):gt x 0=gt s i:=by
 have h1:gt (s.drop i) 0=gt s i:=alP s i 0;rw[←h1,h]
 cases x with
 |nil=>exact absurd rfl hx
 |cons a x=>rfl
def Rk (p:UInt8→Bool)(l:List UInt8):∃r,l=l.takeWhile p++r:=⟨l.dropWhile p,(List.takeWhile_append_dropWhile).symm⟩
def aoi {s:List UInt8}{i n:Nat}{k v:Int}{x:List UInt8}(hi:i<s.length)(h:eB s i=.tok k x v n):0≤v∧(1≤k→k≤4→WG s k x v):=by
 unfold eB at h;dsimp only at h
 by_cases b1:gt s i=32∨gt s i=10
 ·rw[if_pos b1] at h;cases h
 rw[if_neg b1] at h
 by_cases b2:gt s i=123∧i+1<s.length∧gt s (i+1)=45
 ·rw[if_pos b2] at h
  cases hk:nq s i with
  |none=>rw[hk] at h;cases h
  |some k=>rw[hk] at h;cases h
 rw[if_neg b2] at h
 by_cases b3:rY (gt s i)=true∨gt s i=95
 ·rw[if_pos b3] at h;have h1:=vS hi (i6.2 b3);rw[Sw] at h;obtain⟨r,hr⟩:=Rk (fC 0) (s.drop i);have hlen:((s.drop i).takeWhile (fC 0)).length=bo s i 0:=rfl;have hg:=J2 (p:=fC 0) (l:=s.drop i);generalize hX:(s.drop i).takeWhile (fC 0)=avn at h hr hlen hg;have aW:avn≠[]:=fun e=>by rw[e] at hlen;simp at hlen;omega
  have h0:=P3 hr aW;have hle:avn.length≤s.length:=by have:=congrArg List.length hr;rw[List.length_drop,bt] at this;omega
  injection h with e1 e2 e3 e4;subst e2;refine⟨V,fun tF Au=>⟨?_,aW,fun c hc=>SL (.inl rfl) (hg c hc),hle⟩⟩;unfold eB;dsimp only;rw[h0,if_neg b1,if_neg (fun hh=>by
    have hb:=hh.1
    rw[hb] at b3
    exact absurd b3 ai),if_pos b3,Qg hg,Tp,e1]
 rw[if_neg b3] at h
 by_cases b4:cF (gt s i)=true
 ·rw[if_pos b4] at h
  cases hn:iU (cQ s i (bo s i 1)) 0 with
  |none=>rw[hn] at h;cases h
  |some w=>
   rw[hn] at h;injection h with e1 e2 e3 e4;exact⟨V,fun tF Au=>V⟩
 rw[if_neg b4] at h
 by_cases b5:j1 (gt s i)=true
 ·rw[if_pos b5] at h;have h1:=yW hi b5;rw[Sw] at h;obtain⟨r,hr⟩:=Rk (fC 2) (s.drop i);have hlen:((s.drop i).takeWhile (fC 2)).length=bo s i 2:=rfl;have hg:=J2 (p:=fC 2) (l:=s.drop i);generalize hX:(s.drop i).takeWhile (fC 2)=avn at h hr hlen hg;have aW:avn≠[]:=fun e=>by rw[e] at hlen;simp at hlen;omega
  have h0:=P3 hr aW;have hle:avn.length≤s.length:=by have:=congrArg List.length hr;rw[List.length_drop,bt] at this;omega
  split at h
  ·cases h
  ·rename_i hnn;injection h with e1 e2 e3 e4;subst e2;refine⟨V,fun tF Au=>⟨?_,aW,fun c hc=>SL (.inr rfl) (hg c hc),hle⟩⟩;unfold eB;dsimp only;rw[h0,if_neg b1,if_neg (fun hh=>by
     have hb:=hh.1
     rw[hb] at b5
     exact absurd b5 ai),if_neg b3,if_neg b4,if_pos b5,Qg hg,Tp,if_neg (by rw[hlen];exact hnn),e1]
 rw[if_neg b5] at h
 split at h
 ·injection h with e1 e2 e3 e4;exact⟨V,fun tF Au=>V⟩
 ·split at h
  ·cases ht:lq s i with
   |none=>rw[ht] at h;cases h
   |some p=>
    rw[ht] at h;injection h with e1 e2 e3 e4;exact⟨V,fun tF Au=>V⟩
  ·cases h
def SZ {x:List UInt8}(h:∀c∈x,c≠10):∀j,j≤x.length→cH x j=(1,1+j)
 |0,_=>rfl
 |j+1,hj=>by
  have hm:gt x j≠10:=h _ (by unfold gt;rw[List.getD_eq_getElem?_getD,List.getElem?_eq_getElem V];exact List.getElem_mem _);rw[cH,if_neg hm,SZ h j V];rfl
def adT {s:List UInt8}{k v:Int}{x:List UInt8}(h:WG s k x v)(hs:s.length≤16384):aU x k=true:=by
 obtain⟨h1,h2,h3,h4⟩:=h;have hl:0<x.length:=by cases x with|nil=>exact absurd rfl h2|cons _ _=>simp
 have hr:ow x 0 [⟨k,x,0,(cH x 0).1,(cH x 0).2⟩,CC x]:=ow.tok hl h1 (by rw[Nat.zero_add];exact ow.fin);have e:=Tw V hr;unfold aU;rw[e];simp only[cx];refine⟨⟨⟨⟨rfl,rfl⟩,rfl⟩,?_⟩,rfl⟩;show ((cH x x.length).2:Int)=_;rw[SZ h3 _ (bQ _)];show ((1+x.length:Nat):Int)=_;omega
def zu (t:Tok):Prop:=GT aU (bP t)
def afA {s:List UInt8}{i:Nat}{l:List Tok}(h:ow s i l)(hs:s.length≤16384):∀t∈l,zu t:=by
 induction h with
 |fin=>intro t ht;rw[List.mem_singleton.1 ht];exact⟨fun h=>by have:=h.2;simp only[CC,bP] at this;omega,fun h=>by simp only[CC,bP] at h;omega⟩
 |skip _ _ _ ih=>exact ih
 |tok hi hx _ ih=>
  intro t ht;rcases List.mem_cons.1 ht with rfl|ht
  ·have:=aoi hi hx;exact⟨fun hk=>adT (this.2 hk.1 hk.2) hs,fun _=>this.1⟩
  ·exact ih t ht
def aeQ {s:List UInt8}{i:Nat}{l:List Tok}(h:ow s i l):l.length+i≤s.length+1:=by
 induction h with
 |fin=>simp;omega
 |skip hi hx _ ih=>
  have:=x_ hi;rw[hx] at this;have:=this.1;omega
 |tok hi hx _ ih=>
  have:=x_ hi;rw[hx] at this;have:=this.1;rw[bg];omega
def Wc {s:List UInt8}{l:List Tok}{d:fI}(h:fR s=(l,d)):(∀t∈l,zu t)∧l.length≤16385:=by
 rcases OO h with ⟨_,rfl,_⟩| ⟨h1,⟨_,h2⟩| ⟨rfl,_⟩⟩
 ·exact⟨fun t ht=>(by cases ht),aw⟩
 ·exact⟨afA h2 h1,by have:=aeQ h2;omega⟩
 ·exact⟨fun t ht=>(by cases ht),aw⟩
def alS (w:List UInt8)(t:Tok):zu (fB w t):=⟨fun h=>by have:=h.2;simp only[fB,bP] at this;omega,fun h=>by simp only[fB,bP] at h;omega⟩
def anZ (l c:Int):zu ⟨9,[],0,l,c⟩:=⟨fun h=>by have:=h.2;simp only[bP] at this;omega,fun h=>by simp only[bP] at h;omega⟩
def PU (st:List cW):∀(k b:Nat),fj st k=(b:Int)→b<k
 |0,b,h=>by unfold fj at h;omega
 |k+1,b,h=>by
  unfold fj at h
  split at h
  ·omega
  ·split at h
   ·omega
   ·have:=PU st k b h;omega
section
variable {Q:Tok→Prop}
def sN {a b:List Tok}(ha:∀t∈a,Q t)(hb:∀t∈b,Q t):∀t∈a++b,Q t:=fun t ht=>(List.mem_append.1 ht).elim (ha t) (hb t)
def u7 {t:Tok}(h:Q t):∀u∈[t],Q u:=fun u hu=>by rw[List.mem_singleton.1 hu];exact h
def J7 (hl:∀w t,Q (fB w t))(t:Tok)(bh:Int):∀(f:Nat) (out:List Tok) (st:List cW) (o2:List Tok) (s2:List cW),(∀t∈out,Q t)→iR t bh f out st=some (o2,s2)→(∀t∈o2,Q t)∧o2.length+s2.length≤out.length+st.length+1
 |0,_,_,_,_,_,h=>by cases h
 |f+1,out,st,o2,s2,ho,h=>by
  unfold iR at h;dsimp only at h
  split at h
  ·cases h;exact⟨ho,V⟩
  ·rename_i hb;have rF:¬fj st st.length<0:=fun e=>hb (.inl e)
   split at h
   ·cases h;exact⟨ho,V⟩
   ·split at h
    ·cases h
    ·split at h
     ·cases h;refine⟨sN ho (u7 (hl _ _)),?_⟩;rw[bt,gW];simp;omega
     ·have hlt:(fj st st.length).toNat<st.length:=PU st st.length (fj st st.length).toNat V;obtain⟨h1,h2⟩:=J7 hl t bh f _ _ o2 s2 (sN ho (u7 (hl _ _))) h;refine⟨h1,?_⟩;rw[bt,gW] at h2;simp only[bg,bp] at h2;omega
def ar3 (hl:∀w t,Q (fB w t)){t:Tok}{out:List Tok}{st:List cW}{o2:List Tok}{s2:List cW}(ho:∀t∈out,Q t)(h:kW t out st=(o2,s2)):(∀t∈o2,Q t)∧o2.length+s2.length≤out.length+st.length:=by
 unfold kW at h;dsimp only at h
 split at h
 ·cases h;exact⟨ho,bQ _⟩
 split at h
 ·cases h;exact⟨ho,bQ _⟩
 have hq:∀t_1∈out++((st.drop (kV st (dw t) st.length)).filter fun x=>decide (x.sort=[])).map (fun _=>fB [125] t),Q t_1:=sN ho fun u hu=>by
  obtain⟨_,_,rfl⟩:=List.mem_map.1 hu;exact hl _ _
 have hlen:((st.drop (kV st (dw t) st.length)).filter fun x=>decide (x.sort=[])).length≤st.length - kV st (dw t) st.length:=by
  have:=List.length_filter_le (fun x:cW=>decide (x.sort=[])) (st.drop (kV st (dw t) st.length));rw[List.length_drop] at this;exact this
 have hp:kV st (dw t) st.length≤st.length:=by
  have:∀k,kV st (dw t) k≤k:=by
   intro k
   induction k with
   |zero=>exact bQ _
   |succ k ih=>unfold kV;split<;>omega
  exact this _
 split at h
 ·cases h;exact⟨hq,by rw[bt,dW,List.length_set,gW];omega⟩
 ·split at h
  ·cases h;exact⟨hq,by rw[bt,dW,gW];omega⟩
  ·cases h;exact⟨hq,by rw[bt,dW,gW];omega⟩
def aq7 (hl:∀w t,Q (fB w t)){t:Tok}{out:List Tok}{st:List cW}{o2:List Tok}{s2:List cW}{g:Bool}(ho:∀t∈out,Q t)(h:sB t out st=(o2,s2,g)):(∀t∈o2,Q t)∧o2.length+s2.length≤out.length+st.length+2:=by
 have h1:=sN ho (u7 (hl [123] t));have h2:=sN h1 (u7 (hl [125] t));unfold sB at h;dsimp only at h;generalize (if 0≤fj st st.length then (st.getD (fj st st.length).toNat eR).bh else 0)=m at h
 by_cases hm:m<t.bh
 ·rw[if_pos hm] at h;cases h;exact⟨h1,by simp;omega⟩
 ·rw[if_neg hm] at h;cases h;exact⟨h2,by simp;omega⟩
def alh (hl:∀w t,Q (fB w t)){t ahead:Tok}{first:Bool}{out:List Tok}{st:List cW}{o2:List Tok}{s2:List cW}(ho:∀t∈out,Q t)(ht:Q t)(h:qb t ahead first out st=some (o2,s2)):(∀t∈o2,Q t)∧o2.length+s2.length≤out.length+st.length+6:=by
 unfold qb at h
 split at h
 ·cases h;exact⟨sN ho (u7 ht),by simp;omega⟩
 ·dsimp only at h;generalize he:(if mY (dw ahead) then sB t out st else (out,st,false))=o at h;obtain⟨oa,ob,oc⟩:=o;have hq:(∀u∈oa,Q u)∧oa.length+ob.length≤out.length+st.length+2:=by
   split at he
   ·exact aq7 hl ho he
   ·cases he;exact⟨ho,V⟩
  dsimp only at h
  cases hm:(if first=true∧oc=false then iR t t.bh (ob.length+1) oa ob else some (oa,ob)) with
  |none=>rw[hm] at h;cases h
  |some p=>
   obtain⟨pa,pb⟩:=p;rw[hm] at h;have hp:(∀u∈pa,Q u)∧pa.length+pb.length≤oa.length+ob.length+1:=by
    split at hm
    ·exact J7 hl t t.bh _ oa ob pa pb hq.1 hm
    ·cases hm;exact⟨hq.1,V⟩
   dsimp only at h;generalize hc:kW t pa pb=c at h;obtain⟨ca,cb⟩:=c;obtain⟨ao,ay⟩:=ar3 hl hp.1 hc;have:=hp.2;have:=hq.2;injection h with h;injection h with e1 e2;subst e1 e2;refine⟨sN ao (u7 ht),?_⟩
   split<;>simp only[bt,bg,bp]<;>omega
def VI (hl:∀w t,Q (fB w t)):∀(l:List Tok) (ahead:Tok) (first:Bool) (out:List Tok) (st:List cW) (o2:List Tok) (s2:List cW),(∀t∈out,Q t)→(∀t∈l,Q t)→m_ l ahead first out st=.inl (some (o2,s2))→(∀t∈o2,Q t)∧o2.length+s2.length≤out.length+st.length+6 * l.length
 | [],_,_,out,st,o2,s2,ho,_,h=>by unfold m_ at h;cases h;exact⟨ho,aw⟩
 |t::r,ahead,first,out,st,o2,s2,ho,hr,h=>by
  unfold m_ at h
  cases hx:qb t ahead (first||decide (ahead.line<t.line)) out st with
  |none=>rw[hx] at h;cases h
  |some p=>
   rw[hx] at h;obtain⟨h1,h2⟩:=alh hl ho (hr t aw) hx;obtain⟨h3,h4⟩:=VI hl r t false p.1 p.2 o2 s2 h1 (fun u hu=>hr u (by simp [hu])) h;exact⟨h3,by rw[bg];omega⟩
def S3 (he:∀l c,Q ⟨9,[],0,l,c⟩):∀(ts:List Tok) (e:Tok),Q e→(∀t∈ts,Q t)→(∀t∈(lW ts e).1,Q t)∧Q (lW ts e).2∧(lW ts e).1.length≤ts.length
 | [],e,h,_=>⟨fun t ht=>(by cases ht),h,bQ _⟩
 |t::r,e,_,h=>by
  unfold lW
  split
  ·exact⟨fun t ht=>(by cases ht),h t aw,aw⟩
  ·obtain⟨h1,h2,h3⟩:=S3 he r ⟨9,[],0,t.line,t.bh⟩ (he _ _) fun u hu=>h u (by simp [hu]);refine⟨fun u hu=>?_,h2,by simp only[bg];omega⟩;rcases List.mem_cons.1 hu with rfl|hu
   ·exact h u aw
   ·exact h1 u hu
def amY (hl:∀w t,Q (fB w t))(he:∀l c,Q ⟨9,[],0,l,c⟩){ts a:List Tok}{d:fI}(h:nj ts=(a,d))(ht:∀t∈ts,Q t):(∀t∈a,Q t)∧a.length≤6 * ts.length+10:=by
 unfold nj at h;dsimp only at h;obtain⟨h1,h2,h3⟩:=S3 he ts ⟨9,[],0,1,1⟩ (he _ _) ht;generalize lW ts ⟨9,[],0,1,1⟩=s at h h1 h2 h3
 cases hr:m_ s.1 oO true [] [] with
 |inr t=>rw[hr] at h;cases h;exact⟨fun t ht=>(by cases ht),aw⟩
 |inl o=>
  rw[hr] at h
  cases o with
  |none=>cases h;exact⟨fun t ht=>(by cases ht),aw⟩
  |some p=>
   obtain⟨out,st⟩:=p;obtain⟨h4,h5⟩:=VI hl s.1 oO true [] [] out st (fun t ht=>by cases ht) h1 hr;simp only[List.length_nil] at h5;dsimp only at h;have ho:∀o:List Tok,o=(if mY (dw (s.1.getLastD oO)) then out++[fB [123] s.2]++[fB [125] s.2] else out)→(∀t∈o,Q t)∧o.length≤out.length+2:=fun o e=>by
    subst e
    split
    ·exact⟨sN (sN h4 (u7 (hl _ _))) (u7 (hl _ _)),aw⟩
    ·exact⟨h4,V⟩
   generalize hoe:(if mY (dw (s.1.getLastD oO)) then out++[fB [123] s.2]++[fB [125] s.2] else out)=o at h;obtain⟨h6,h7⟩:=ho o hoe.symm
   cases hli:iR s.2 0 (st.length+1) o st with
   |none=>rw[hli] at h;cases h;exact⟨fun t ht=>(by cases ht),aw⟩
   |some p=>
    rw[hli] at h;obtain⟨h8,h9⟩:=J7 hl s.2 0 _ o st p.1 p.2 h6 hli;cases h;exact⟨sN h8 (u7 h2),by simp only[bt,bg,bp];omega⟩
end
def ae0 {ts a:List Tok}{d:fI}(h:nj ts=(a,d))(ht:∀t∈ts,zu t):(∀t∈a,zu t)∧a.length≤6 * ts.length+10:=amY alS anZ h ht
section
variable {m:Nat} {f g:X→Bool} {lf:List X→Bool} {nf:List UInt8→Bool} {k:Int}
end
section
variable {sp:List UInt8→Int→Bool} {m:Nat}
end
section
variable {α β:Type} {Φ Ψ:α→Prop}
end
set_option maxRecDepth 100000
set_option linter.unusedVariables false
def sH (l:List Tok):Nat:=(l.filter fun t=>t.text=[100,111]).length
def ahX (l:List Tok):sH l≤l.length:=List.length_filter_le _ _
def abG {l:List Tok}{i:Nat}{x:Tok}(hx:l[i]?=some x)(h:x.text=[100,111]):sH (l.take (i+1))=sH (l.take i)+1:=by
 rw[List.take_add_one,hx];simp [sH,h]
def agi {l:List Tok}{i:Nat}{x:Tok}(hx:l[i]?=some x)(h:¬x.text=[100,111]):sH (l.take (i+1))=sH (l.take i):=by
 rw[List.take_add_one,hx];simp [sH,h]
def pG (s:List UInt8):List Tok×Bool:=if (fR s).2.number=0 then ((nj (fR s).1).1,decide ((nj (fR s).1).2.number=0∧(sH (fR s).1:Int)≤16)) else ([],false)
def ako {s:List UInt8}{l:List Tok}{b:Bool}(h:pG s=(l,b)):(∀t∈l,zu t)∧l.length≤98320:=by
 unfold pG at h
 split at h
 ·obtain⟨h1,h2⟩:=Wc (show fR s=((fR s).1,(fR s).2) from rfl);obtain⟨h3,h4⟩:=ae0 (show nj (fR s).1=((nj (fR s).1).1,(nj (fR s).1).2) from rfl) h1;have:=congrArg Prod.fst h;dsimp only at this;subst this;exact⟨h3,V⟩
 ·cases h;exact⟨fun t ht=>(by cases ht),ai⟩
def Ke {va:Value}{l:List Tok}{w:World}{M:List Nat}(h:aG w M va aM l):∃hv:aC,va=hv.v:=by
 obtain⟨_,A,cap,e,_⟩:=h;exact⟨⟨A,_,cap⟩,e⟩
def FQ:List UInt8:=[109,111,100,117,108,101,32,77,32,119,104,101,114,101,10,102,32,120,32,40,121,58,95,41,32,61,32,103,32,120,32,119,104,101,114,101,32,103,32,61,32,104,10]
def XU:List UInt8:=[109,111,100,117,108,101,32,77,32,119,104,101,114,101,10,103,32,40,102,32,120,41,32,61,32,49,10]
def acN:pG XU=(gq,true):=by kernel_rfl
def JV (r:Except Int X):Bool:=match r with
 | .ok m=>match m with
  | .mk 2 _ _ [_,_,.mk _ _ _ [.mk 13 _ _ (.mk _ _ _ (.mk _ _ _ [_,_]::_)::_)]]=>true
  |_=>false
 | .error _=>false
def Wj:X:=ag 2 [77] [cc,listed [],listed [ag 15 [] [ag 22 [] [ag 22 [] [ag 18 [102] [],ag 18 [120] []],ag 23 [] [ag 18 [121] [],.mk 24 [58] 1 [],ag 38 [] []]],ag 16 [] [listed [ag 17 [] [cc,ag 22 [] [ag 18 [103] [],ag 18 [120] []]]],listed [ag 15 [] [ag 18 [103] [],ag 16 [] [listed [ag 17 [] [cc,ag 18 [104] []]],listed []]]]]]]]
def AQ:X:=ag 2 [77] [cc,listed [],listed [ag 13 [102] [ag 14 [] [listed [ag 42 [120] [],ag 47 [] [ag 42 [121] [],.mk 24 [58] 1 [],ag 43 [] []]],ag 16 [] [listed [ag 17 [] [cc,ag 22 [] [ag 18 [103] [],ag 18 [120] []]]],listed [ag 13 [103] [ag 14 [] [listed [],ag 16 [] [listed [ag 17 [] [cc,ag 18 [104] []]],listed []]]]]]]]]]
def ajx:qv 100 ⟨(pG FQ).1.map bP,0⟩=.ok (Wj,⟨[],0⟩):=by kernel_rfl
def aeX:oE 100 100 ((pG FQ).1.map bP)=.ok AQ:=by kernel_rfl
def ac4:Cf aU Wj:=by
 have v:∀s∈[[102],[120],[121],[103],([104]:List UInt8)],isVar aU s=true:=by
  have e:([[102],[120],[121],[103],([104]:List UInt8)].all fun s=>isVar aU s)=true:=by kernel_rfl
  exact List.all_eq_true.1 e
 exact .mk eE eE fO (eF (.eq (.mk (.app (.app (.var (v _ aw)) (.var (v _ aw))) (.ops (.var (v _ aw)) (.cons eE .wild .nil) (List.cons_ne_nil _ _))) (.plain (.app (.var (v _ aw)) (.var (v _ aw))) (eF (.mk (.var (v _ aw)) (.plain (.var (v _ aw)) fO)) fO)))) fO)
def apB:qD aU AQ=true:=by
 have h1:gg aU [77]=true:=by kernel_rfl
 have h2:isVar aU [102]=true:=by kernel_rfl
 have h3:isVar aU [103]=true:=by kernel_rfl
 have h4:isVar aU [104]=true:=by kernel_rfl
 have h5:isVar aU [120]=true:=by kernel_rfl
 have h6:isVar aU [121]=true:=by kernel_rfl
 have h7:j6 aU (.mk 24 [58] 1 [])=true:=by kernel_rfl
 simp [AQ,qD,listed,ag,cc,X.kind,X.n,X.name,X.ae,pY,ox,iY,fE,dT,s6,BH,zB,nM,cK,mA,nO,tV,fD,y6,Cv,ra,zY,tj,B1,yZ,oG,bu,nQ,sZ,j7,uQ,Cn,fX,E0,arity,sub,h1,h2,h3,h4,h5,h6,h7]
def aof:qY AQ:=by simp [AQ,qY,Bw,ag,listed,cc]
structure R7 (y:W):Prop where
 kind:y.kind=2
 len:(y.ae.length:Int)=3
 x2:∃x2,y.ae[2]?=some x2∧(x2.ae.length:Int)=1∧∃x3,x2.ae[0]?=some x3∧x3.kind=13∧∃x4,x3.ae[0]?=some x4∧∃x5,x4.ae[0]?=some x5∧(x5.ae.length:Int)=2
def F1 {y:W}{i:Nat}{e:X}(h:y.er.ae[i]?=some e):∃x,y.ae[i]?=some x∧x.er=e:=by
 rw[W.cq,List.getElem?_map] at h
 cases hx:y.ae[i]? with
 |none=>rw[hx] at h;cases h
 |some x=>rw[hx] at h;cases h;exact⟨x,rfl,rfl⟩
def Ln {y:W}{n:Nat}(h:y.er.ae.length=n):(y.ae.length:Int)=n:=by
 rw[W.cq,dW] at h;rw[h]
def aqm {y:W}(h:JV (.ok y.er)=true):R7 y:=by
 have key:∀m:X,JV (.ok m)=true→m.kind=2∧m.ae.length=3∧∃e2,m.ae[2]?=some e2∧e2.ae.length=1∧∃e3,e2.ae[0]?=some e3∧e3.kind=13∧∃e4,e3.ae[0]?=some e4∧∃e5,e4.ae[0]?=some e5∧e5.ae.length=2:=by
  intro m hm;unfold JV at hm;dsimp only at hm
  split at hm
  ·exact⟨rfl,rfl,_,rfl,rfl,_,rfl,rfl,_,rfl,_,rfl,rfl⟩
  ·cases hm
 obtain⟨h1,h2,e2,h3,h4,e3,h5,h6,e4,h7,e5,h8,h9⟩:=key _ h;obtain⟨x2,g2,rfl⟩:=F1 h3;obtain⟨x3,g3,rfl⟩:=F1 h5;obtain⟨x4,g4,rfl⟩:=F1 h7;obtain⟨x5,g5,rfl⟩:=F1 h8;exact⟨by rw[←W.a8];exact h1,Ln h2,x2,g2,Ln h4,x3,g3,by rw[←W.a8];exact h6,x4,g4,x5,g5,Ln h9⟩
def aak (va:Value)(tl:List Tok)(Z:World)(hT:aG Z [] va aM tl)(ht:∃b,pG FQ=(tl,b)):aH prog 7 #[va] Z (fun v w'=>∃(y:W) (q:aR),v=.tuple #[.agg (av.cells y).toArray,.agg (dZ fI.ok).toArray]∧R7 y∧(qD aU y.er=true∧Sz (180000000+1) y.er)∧q.has y∧St Z [] w' [bO q]):=by
 obtain⟨hv,rfl⟩:=Ke hT;obtain⟨b,htb⟩:=ht;have hg:=(ako htb).2;have e:(pG FQ).1=tl:=congrArg Prod.fst htb;have hP:=ajx;have J:=aeX;rw[e] at hP J;have aW:oE 100 100 (tl.map bP)≠.error (-1):=fun h=>by rw[h] at J;cases J
 refine aH.mono (Xr 100 100 hv tl Z hT V aW fun x s h=>?_) ?_
 ·rw[hP] at h;injection h with h;injection h with h;exact P2 (sp:=aU) (by rw[←h];exact ac4) (by rw[←h];decide)
 rintro v w ⟨y,l,c,er,q,rfl,hy,hq,hS⟩;rcases hy with ⟨hy,rfl,rfl,rfl⟩| ⟨hy,rfl⟩
 ·rw[hy] at J;injection J with J;exact⟨y,q,rfl,aqm (by rw[J];rfl),⟨by rw[J];exact apB,by rw[J];exact Nat.lt_of_lt_of_le (show aL AQ<1000 by decide) ai,by rw[J];exact aof⟩,hq,hS⟩
 ·rw[hy] at J;cases J
def adz (va:Value)(tl:List Tok)(Z:World)(hT:aG Z [] va aM tl)(ht:∃b,pG XU=(tl,b)):aH prog 7 #[va] Z (fun v w'=>v=.tuple #[.agg (av.cells bH).toArray,.agg (dZ ⟨[],2,4,31⟩).toArray]∧St Z [] w' []):=by
 obtain⟨hv,rfl⟩:=Ke hT;obtain⟨b,ht⟩:=ht;obtain rfl:gq=tl:=congrArg Prod.fst (acN.symm.trans ht);exact alp hv Z hT
set_option maxHeartbeats 4000000
def ari {s:List UInt8}{ts:List Tok}{d:fI}(h:fR s=(ts,d))(hd:¬d.number=0):pG s=([],false):=by
 unfold pG;rw[h,if_neg hd]
def ans {s:List UInt8}{ts l:List Tok}{d e:fI}(h:fR s=(ts,d))(hd:d.number=0)(hl:nj ts=(l,e)):pG s=(l,decide (e.number=0∧(sH ts:Int)≤16)):=by
 unfold pG;rw[h];dsimp only;rw[if_pos hd,hl]
def Y3 (Z:World)(s:List UInt8):aH prog 5 #[str s] Z (fun v w'=>∃va l b,pG s=(l,b)∧v=.tuple #[va,.bool b]∧St Z [] w' [ax va 44 aM l]):=by
 have O:=St.bL Z;refine aS func5 ntmps5 fun a U=>?_;refine Yc 3 (Mn _ _) fun va ts d hrd a w O U=>?_;have lN:=(Wc hrd).2;refine Zb 9 fun e1 a w O U=>?_;refine Zi 0 (fun ao=>?_) fun ao=>?_
 ·refine Zr 2 ?_;have O:=O.wT 0;have O:=(O.eI 44 5).front (A:=[_]);exact⟨_,[],false,ari hrd ao,rfl,O⟩
 ·refine Zv 2 fun a U=>?_;have O:=O.q [1];refine cl (fun (i:Nat) a w'=>(i≤ts.length)∧St Z [] w' [ax va 44 aM ts,.ob e1 31 (dZ d)]∧Fr a 45 [(4,va),(6,i64 (sH (ts.take i))),(7,i64 i)]) (fun (i:Nat)=>ts.length - i) 0 ⟨V,O,U.su⟩ ?_;rintro i a w ⟨hi,O,U⟩;have hln:=aG.gi (O.bW 0 rfl);refine Zg 2 (bA (O.rd 0 rfl)) fun a U=>?_;refine Zi 1 (fun a U ay=>?_) fun a U ay=>?_
  ·obtain⟨x,hx⟩:=dM (l:=ts) (i:=i) V;refine Zg 2 (bw i (O.rd 0 rfl) V) fun a U=>?_;refine Zh 1 (O.bW 0 rfl) hx fun a U=>?_;refine Zi 1 (fun a U aF=>?_) fun a U aF=>?_
   ·refine Zv 1 fun a U=>?_;refine aZ U (ud rfl (U.af rfl) (U.af rfl) (by have:=ahX (ts.take i);rw[gW] at this;omega)) fun a U=>?_;refine Zv 4 fun a U=>?_;exact⟨i+1,⟨V,O,U.sub ⟨rfl,(congrArg some (congrArg i64 (by rw[abG hx aF];omega))),rfl,trivial⟩⟩,V⟩
   ·refine Zv 3 fun a U=>?_;exact⟨i+1,⟨V,O,U.sub ⟨rfl,(congrArg some (congrArg i64 (by rw[agi hx aF]))),rfl,trivial⟩⟩,V⟩
  ·obtain rfl:i=ts.length:=V
   rw[List.take_length] at U;refine Yc 1 (adk _ _ _ V (O.bW 0 rfl)) fun vb l e hla a w O U=>?_;refine Zb 11 fun e2 a w O U=>?_;refine Zw 5 fun a U=>?_;refine Zr 0 ?_;have O:=O.pull 1 rfl;exact⟨_,l,_,ans hrd (Classical.not_not.1 ao) hla,rfl,O.front (A:=[_])⟩
set_option maxHeartbeats 2000000 in
def OK (Z:World)(hG:cL Z []):aH prog 6 #[] Z (fun v w'=>v=.bool true∧St Z [] w' []):=by
 have O:=St.bL Z;refine aS func6 ntmps6 fun a U=>?_;refine Yc 1 (Y3 _ _) fun va l1 b1 hta a w O U=>?_;refine Yc 6 (aak _ _ _ (O.bW 0 rfl) ⟨_,hta⟩) fun y q hex hmz hq a w O U=>?_;refine Zb 4 fun en a w O U=>?_;refine Zb 3 fun ed a w O U=>?_;refine Yc 0 (Y3 _ _) fun vb l2 b2 htb a w O U=>?_;refine Yc 6 (adz _ _ _ (O.bW 0 rfl) ⟨_,htb⟩) fun a w O U=>?_;refine Zb 4 fun eu a w O U=>?_;refine Zb 3 fun ee a w O U=>?_;have hV:=O.N8 5 rfl hq;obtain⟨h2,h3,x2,g2,h4,x3,g3,h5,x4,g4,x5,g5,h6⟩:=hex;have hR1:=hV.aK;have hV2:=hV.bK x2 (bV g2);have hR2:=hV2.aK;have hV3:=hV2.bK x3 (bV g3);have hR3:=hV3.aK;have hV4:=hV3.bK x4 (bV g4);have hR4:=hV4.aK;have hV5:=hV4.bK x5 (bV g5);have hR5:=hV5.aK;refine Zv 2 fun a U=>?_;refine aZ U (Qb underlying31 Tryz.stoodInHeld31 Tryz.eqGuardType31 rfl (U.af rfl) (U.af rfl) (Q7 ai isAgg9 underlying9 rfl rfl (Bk ai isAgg3 underlying3 rfl rfl (Bk ai isAgg3 underlying3 rfl rfl (Bk ai isAgg29 underlying29 rfl rfl VP)))) (S6 _ .ok)) fun a U=>?_;refine Zv 9 fun a U=>?_;refine ct U rfl rfl rfl rfl (da ⟨rfl,h2⟩) ?_;refine Zv 1 fun a U=>?_;refine ct U rfl rfl rfl rfl (da ⟨rfl,h2⟩) ?_;refine Zv 1 fun a U=>?_;refine ct U rfl rfl rfl rfl (da ⟨rfl,h2⟩) ?_;refine Zg 0 (bA hR1) fun a U=>?_;refine ct U rfl rfl rfl rfl (da ⟨rfl,h2⟩) ?_;refine Zv 3 fun a U=>?_;refine ct U rfl rfl rfl rfl (da ⟨⟨rfl,h2⟩,h3⟩) ?_;refine Zv 1 fun a U=>?_;refine ct U rfl rfl rfl rfl (da ⟨⟨rfl,h2⟩,h3⟩) ?_;refine Zv 1 fun a U=>?_;refine ct U rfl rfl rfl rfl (da ⟨⟨rfl,h2⟩,h3⟩) ?_;refine Zg 0 (b_ hR1 g2) fun a U=>?_;refine ct U rfl rfl rfl rfl (da ⟨⟨rfl,h2⟩,h3⟩) ?_;refine Zv 1 fun a U=>?_;refine ct U rfl rfl rfl rfl (da ⟨⟨rfl,h2⟩,h3⟩) ?_;refine Zh 0 hR1 g2 fun a U=>?_;refine ct U rfl rfl rfl rfl (da ⟨⟨rfl,h2⟩,h3⟩) ?_;refine Zg 0 (bA hR2) fun a U=>?_;refine ct U rfl rfl rfl rfl (da ⟨⟨rfl,h2⟩,h3⟩) ?_;refine Zv 3 fun a U=>?_;refine ct U rfl rfl rfl rfl (da ⟨⟨⟨rfl,h2⟩,h3⟩,h4⟩) ?_;refine Zv 1 fun a U=>?_;refine ct U rfl rfl rfl rfl (da ⟨⟨⟨rfl,h2⟩,h3⟩,h4⟩) ?_;refine Zv 1 fun a U=>?_;refine ct U rfl rfl rfl rfl (da ⟨⟨⟨rfl,h2⟩,h3⟩,h4⟩) ?_;refine Zg 0 (b_ hR1 g2) fun a U=>?_;refine ct U rfl rfl rfl rfl (da ⟨⟨⟨rfl,h2⟩,h3⟩,h4⟩) ?_;refine Zv 1 fun a U=>?_;refine ct U rfl rfl rfl rfl (da ⟨⟨⟨rfl,h2⟩,h3⟩,h4⟩) ?_;refine Zh 0 hR1 g2 fun a U=>?_;refine ct U rfl rfl rfl rfl (da ⟨⟨⟨rfl,h2⟩,h3⟩,h4⟩) ?_;refine Zg 0 (b_ hR2 g3) fun a U=>?_;refine ct U rfl rfl rfl rfl (da ⟨⟨⟨rfl,h2⟩,h3⟩,h4⟩) ?_;refine Zv 1 fun a U=>?_;refine ct U rfl rfl rfl rfl (da ⟨⟨⟨rfl,h2⟩,h3⟩,h4⟩) ?_;refine Zh 0 hR2 g3 fun a U=>?_;refine ct U rfl rfl rfl rfl (da ⟨⟨⟨rfl,h2⟩,h3⟩,h4⟩) ?_;refine Zv 3 fun a U=>?_;refine ct U rfl rfl rfl rfl (da ⟨⟨⟨⟨rfl,h2⟩,h3⟩,h4⟩,h5⟩) ?_;refine Zv 1 fun a U=>?_;refine ct U rfl rfl rfl rfl (da ⟨⟨⟨⟨rfl,h2⟩,h3⟩,h4⟩,h5⟩) ?_;refine Zv 1 fun a U=>?_;refine ct U rfl rfl rfl rfl (da ⟨⟨⟨⟨rfl,h2⟩,h3⟩,h4⟩,h5⟩) ?_;refine Zg 0 (b_ hR1 g2) fun a U=>?_;refine ct U rfl rfl rfl rfl (da ⟨⟨⟨⟨rfl,h2⟩,h3⟩,h4⟩,h5⟩) ?_;refine Zv 1 fun a U=>?_;refine ct U rfl rfl rfl rfl (da ⟨⟨⟨⟨rfl,h2⟩,h3⟩,h4⟩,h5⟩) ?_;refine Zh 0 hR1 g2 fun a U=>?_;refine ct U rfl rfl rfl rfl (da ⟨⟨⟨⟨rfl,h2⟩,h3⟩,h4⟩,h5⟩) ?_;refine Zg 0 (b_ hR2 g3) fun a U=>?_;refine ct U rfl rfl rfl rfl (da ⟨⟨⟨⟨rfl,h2⟩,h3⟩,h4⟩,h5⟩) ?_;refine Zv 1 fun a U=>?_;refine ct U rfl rfl rfl rfl (da ⟨⟨⟨⟨rfl,h2⟩,h3⟩,h4⟩,h5⟩) ?_;refine Zh 0 hR2 g3 fun a U=>?_;refine ct U rfl rfl rfl rfl (da ⟨⟨⟨⟨rfl,h2⟩,h3⟩,h4⟩,h5⟩) ?_;refine Zg 0 (b_ hR3 g4) fun a U=>?_;refine ct U rfl rfl rfl rfl (da ⟨⟨⟨⟨rfl,h2⟩,h3⟩,h4⟩,h5⟩) ?_;refine Zv 1 fun a U=>?_;refine ct U rfl rfl rfl rfl (da ⟨⟨⟨⟨rfl,h2⟩,h3⟩,h4⟩,h5⟩) ?_;refine Zh 0 hR3 g4 fun a U=>?_;refine ct U rfl rfl rfl rfl (da ⟨⟨⟨⟨rfl,h2⟩,h3⟩,h4⟩,h5⟩) ?_;refine Zg 0 (b_ hR4 g5) fun a U=>?_;refine ct U rfl rfl rfl rfl (da ⟨⟨⟨⟨rfl,h2⟩,h3⟩,h4⟩,h5⟩) ?_;refine Zv 1 fun a U=>?_;refine ct U rfl rfl rfl rfl (da ⟨⟨⟨⟨rfl,h2⟩,h3⟩,h4⟩,h5⟩) ?_;refine Zh 0 hR4 g5 fun a U=>?_;refine ct U rfl rfl rfl rfl (da ⟨⟨⟨⟨rfl,h2⟩,h3⟩,h4⟩,h5⟩) ?_;refine Zg 0 (bA hR5) fun a U=>?_;refine ct U rfl rfl rfl rfl (da ⟨⟨⟨⟨rfl,h2⟩,h3⟩,h4⟩,h5⟩) ?_;refine Zv 3 fun a U=>?_;refine ct U rfl rfl rfl rfl (da ⟨⟨⟨⟨⟨rfl,h2⟩,h3⟩,h4⟩,h5⟩,h6⟩) ?_;refine Zv 1 fun a U=>?_;refine ct U rfl rfl rfl rfl (da ⟨⟨⟨⟨⟨rfl,h2⟩,h3⟩,h4⟩,h5⟩,h6⟩) ?_;refine eP U (dY U rfl rfl (Vq 180000000 ai y hmz.2 _ (hG.ba O) (O.N8 5 rfl hq))) ?_;rintro a _ w ⟨rfl,hS⟩ U;have O:=O.k0 hS;refine Wa 0 fun a U=>?_;refine Zv 1 fun a U=>?_;refine ct U rfl rfl rfl rfl (da ⟨⟨⟨⟨⟨⟨rfl,h2⟩,h3⟩,h4⟩,h5⟩,h6⟩,hmz.1⟩) ?_;refine Zv 1 fun a U=>?_;refine ct U rfl rfl rfl rfl (da ⟨⟨⟨⟨⟨⟨rfl,h2⟩,h3⟩,h4⟩,h5⟩,h6⟩,hmz.1⟩) ?_;refine Zv 1 fun a U=>?_;refine ct U rfl rfl rfl rfl (da ⟨⟨⟨⟨⟨⟨rfl,h2⟩,h3⟩,h4⟩,h5⟩,h6⟩,hmz.1⟩) ?_;refine aZ U (Qb underlying31 Tryz.stoodInHeld31 Tryz.eqGuardType31 rfl (U.af rfl) (U.af rfl) (Q7 ai isAgg9 underlying9 rfl rfl (Bk ai isAgg3 underlying3 rfl rfl (Bk ai isAgg3 underlying3 rfl rfl (Bk ai isAgg29 underlying29 rfl rfl VP)))) (S6 _ ⟨[],2,4,31⟩)) fun a U=>?_;refine Zr 2 ?_;have O:=O.d [0,0,0,0,0,0,0];refine⟨congrArg Value.bool (decide_eq_true ?_),O⟩;exact⟨⟨⟨⟨⟨⟨⟨rfl,h2⟩,h3⟩,h4⟩,h5⟩,h6⟩,hmz.1⟩,rfl⟩
open Go Go.WideShapes
def afk:FT W:=fun w a d=>bS w [] a∧aL a.er+1≤Rows.uptoBulk d∧qY a.er
def PY {H:Type}:∀{l:List W} {el:List (DataW H)},el.length=l.length→(∀(i:Nat) a e,l[i]?=some a→el[i]?=some e→aL a.er+1≤Rows.uptoBulk e)→aJ (l.map W.er)≤Rows.uptoBulkAll el
 | [],_,_,_=>dN _
 |a::l,[],h,_=>by simp at h
 |a::l,e::el,h,hq=>by
  have h1:=hq 0 a e rfl rfl;have h2:=PY (l:=l) (el:=el) (by simpa using h) fun i a e g1 g2=>hq (i+1) a e (by simpa using g1) (by simpa using g2);rw[bf,bR];simp only[Rows.uptoBulkAll];omega
def aoG (n:Nat):Xl prog 28 av afk n:=by
 induction n using Nat.strongRecOn with
 |_ n ih=>
 intro H enc w sp cs x h;obtain⟨xs,k,rfl,hx,hl,hxl,hf⟩:=DataW.trod_struct underlying28 h;rw[show prog.cellsOf 28=6 by kernel_rfl] at hl
 cases k with
 |zero=>obtain⟨y,_,hy⟩:=xP hxl hf 0 3 0 1 rfl eE;simp [DataW.trod] at hy
 |succ k=>
 obtain⟨y0,g0,h0⟩:=xP hxl hf 0 3 0 1 rfl eE;obtain⟨n0,c0,e0,Z⟩:=DataW.trod_int underlying3 h0;obtain⟨y1,g1,h1⟩:=xP hxl hf 1 9 1 1 rfl eE;obtain⟨n1,c1,e1,w1⟩:=DataW.trod_string underlying9 h1;obtain⟨y2,g2,h2⟩:=xP hxl hf 2 3 2 1 rfl eE;obtain⟨n2,c2,e2,w2⟩:=DataW.trod_int underlying3 h2;obtain⟨y3,g3,h3⟩:=xP hxl hf 3 3 3 1 rfl eE;obtain⟨n3,c3,e3,w3⟩:=DataW.trod_int underlying3 h3;obtain⟨y4,g4,h4⟩:=xP hxl hf 4 3 4 1 rfl eE;obtain⟨n4,c4,e4,w4⟩:=DataW.trod_int underlying3 h4;obtain⟨y5,g5,h5⟩:=xP hxl hf 5 26 5 1 rfl eE;obtain⟨v5,l5,c5,R5,S5⟩:=aiQ underlying26 eE ai (ih k V) h5;obtain⟨q5,rfl⟩:=Rd.Hd R5;obtain⟨z0,z1,z2,z3,z4,z5,rfl⟩:∃z0 z1 z2 z3 z4 z5,cs=[z0,z1,z2,z3,z4,z5]:=by
  match cs,hl with
  | [z0,z1,z2,z3,z4,z5],_=>exact⟨_,_,_,_,_,_,rfl⟩
 simp only[List.drop_succ_cons,List.drop_zero,List.take_succ_cons,List.take_zero,List.cons.injEq,and_true] at c0 c1 c2 c3 c4 c5;subst c0 c1 c2 c3 c4 c5;have hxl':xs.length=6:=hxl;obtain⟨a,b,c,d,e,f,rfl⟩:∃a b c d e f,xs=[a,b,c,d,e,f]:=by
  match xs,hxl' with
  | [a,b,c,d,e,f],_=>exact⟨_,_,_,_,_,_,rfl⟩
 obtain rfl:a=y0:=by simpa using g0
 obtain rfl:b=y1:=by simpa using g1
 obtain rfl:f=y5:=by simpa using g5
 subst hx;refine⟨.mk n0 n1.data.toList n2 n3 n4 q5 l5,by rw[apV];rfl,.mk R5 (S5.all fun a e h=>h.1),?_,?_⟩
 ·rw[bM,lK];show 1+aJ (l5.map W.er)+1≤_;have hb:aJ (l5.map W.er)≤Rows.uptoBulk f.1:=by
   rcases S5 with ⟨_,rfl⟩| ⟨el,spr,h3,h4,h5⟩
   ·exact dN _
   ·have:=PY h4 fun i a e g g'=>(h5 i a e g g').2.1;rw[h3];simp only[Rows.uptoBulk];omega
  simp only[Rows.uptoBulk,Rows.uptoBulkAll,bf,bX];have:=an_ a.1;omega
 ·rw[bM,qY];refine⟨wf_i64 Z,Jj.2 fun y hy=>?_⟩;obtain⟨t,ht,rfl⟩:=List.mem_map.1 hy;exact S5.all (fun a e h=>h.2.2) t ht
def ajC {H:Type}{enc:TypeId×Value→H}{avm:World}{base:Nat}{r:Reach}{v:Value}{d:DataW H}{p:List MemPlace}(hval:Value.okWide prog avm r base 28 v)(h:DataW.Trod enc prog avm 0 (fun _=>true) true 28 v d p)(hb:Rows.uptoBulk d≤1048576):
  ∃t:W,v=.agg (av.cells t).toArray∧bS avm [] t∧aL t.er≤1048576∧qY t.er:=by
 obtain⟨cs,rfl,_⟩:=okWide_struct underlying28 hval;obtain⟨fuel,h⟩:=h;obtain⟨t,hc,hR,hB,hg⟩:=aoG fuel enc avm _ _ _ h;have hc':cs.toList=av.cells t:=hc;have hB:aL t.er+1≤Rows.uptoBulk d:=hB;exact⟨t,by rw[←hc'],hR,V,hg⟩
end Go.Proofs.YtdfccaonglmgpaaGreatDoor
