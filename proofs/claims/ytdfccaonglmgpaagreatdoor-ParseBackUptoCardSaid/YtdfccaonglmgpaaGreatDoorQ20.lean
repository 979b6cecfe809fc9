/- Q20 -/
import Derived.Test.YtdfccaonglmgpaaGreatDoorQ01
import Derived.Test.YtdfccaonglmgpaaGreatDoorQ18
import Derived.Test.YtdfccaonglmgpaaGreatDoorQ19
import Derived.Test.YtdfccaonglmgpaaGreatDoorQ17
import Derived.KernelRfl
open Go.Proofs.Tryz
set_option linter.all false
namespace Go.Proofs.YtdfccaonglmgpaaGreatDoor
open Go
set_option maxRecDepth 100000
set_option linter.unusedVariables false
set_option maxHeartbeats 4000000
def wO {lo:Nat}{f:X→Bool}{n:X}(h:iY lo f n=true):∀a∈n.ae,f a=true:=by
 simp only[iY,aQ] at h;exact List.all_eq_true.1 h.2
def ar0 {n:X}(h:ff aU n=true):¬n.kind=7:=by
 obtain⟨k,s,n,l⟩:=n;intro hk;obtain rfl:k=7:=hk;rw[ff.eq_def] at h;simp only[aQ] at h;have h:=h.2;rw[if_neg ai,if_neg ai] at h;simp at h
def qA (l:List W):List Tk:=ie aq ((l.map W.er).map (xQ aq aA))
def Gj:qA []=[]:=rfl
def Vu (y:W)(l:List W):qA (y::l)=cY aq (gZ aq aA y.er)++qA l:=rfl
def Rx (l:List W):((l.map W.er).map (nF aq aA)).map Prod.fst=l.map fun y=>uU aq aA y.er:=by rw[List.map_map,List.map_map];rfl
def apa {x:W}(h:rf aU x.er=true):∃y,x.ae=[y]∧((∀a∈y.ae,ff aU a.er=true)∨y.ae≠[]∧∀a∈y.ae,lp aU 7 a.er=true):=by
 simp only[rf,aQ] at h;have h:=h.2;rw[W.cq] at h
 match hxs:x.ae,h with
 | [y],h=>
  refine⟨y,rfl,?_⟩;simp only[bf,bX,fW] at h;rcases h with h|h
  ·exact .inl (jO (wO h))
  ·refine .inr ⟨fun e=>?_,jO (wO h)⟩;simp only[iY,aQ,cx] at h;have h:=h.1.2;rw[W.cq,e] at h;simp at h
def alu {x y:W}(hs:x.ae=[y]):rm aq aA x.er=if y.ae≠[]∧(y.ae.getD 0 bH).kind=7 then bF aq aA x.name++(kw aq [123]::(jT [44] (y.ae.map fun u=>uU aq aA u.er)++[kw aq [125]])) else bF aq aA x.name++qA y.ae:=by
 have e0:sub x.er 0=y.er:=by unfold sub;rw[W.cq,hs];rfl
 unfold rm;simp only[e0,W.cq,W.cf];rw[l_,Rx]
 cases y.ae with
 |nil=>rfl
 |cons u l=>
  have e1:((List.map W.er (u::l)).getD 0 cc).kind=((u::l).getD 0 bH).kind:=W.a8 u;simp only[e1]
  by_cases hk:((u::l).getD 0 bH).kind=7
  ·rw[if_pos ⟨aw,hk⟩,if_pos ⟨aw,hk⟩];rfl
  ·rw[if_neg (fun q=>hk q.2),if_neg (fun q=>hk q.2)];rfl
def aj_ (x:W)(h:rf aU x.er=true):SP 85 [.agg (av.cells x).toArray] (rm aq aA x.er) (gx x):=by
 intro bs vo out Z hA hR hN;have O:=St.init hA;obtain⟨y,hs,hl⟩:=apa h;rw[alu hs] at hN ⊢;have aY:x.ae[0]?=some y:=by rw[hs];rfl
 have hR0:=hR.bK y (bV aY);have hll:=aG.gi hR0.aK;refine aS func85 ntmps85 fun a U=>?_;refine Xb 1 [1,1] fun v1 a w O U=>?_;have hN0:out.length+(bF aq aA x.name).length≤1000000000000:=by
  split at hN<;>(simp only[bt] at hN;omega)
 refine Yc 3 (jd x.name (St.aI O) trivial hN0) fun v1r o1 e1 n1 a w O U=>?_;refine Zg 2 (b_ hR.aK aY) fun a U=>?_;refine Zh 1 hR.aK aY fun a U=>?_;refine Zg 2 (bA hR0.aK) fun a U=>?_;refine Zv 2 fun a U=>?_
 by_cases hys:y.ae=[]
 ·have hl:∀a∈y.ae,ff aU a.er=true:=fun a ha=>by rw[hys] at ha;cases ha
  have hz:¬(0:Int)< (y.ae.length:Int):=by rw[hys];decide
  rw[if_neg (fun q=>q.1 hys)] at hN ⊢;simp only[bt] at hN;refine fJ U rfl rfl rfl rfl (nV hz) rfl rfl fun a U=>?_;refine fJ U rfl rfl rfl rfl (nV hz) rfl rfl fun a U=>?_;refine fJ U rfl rfl rfl rfl (nV hz) rfl rfl fun a U=>?_;refine fJ U rfl rfl rfl rfl (nV hz) rfl rfl fun a U=>?_;refine fJ U rfl rfl rfl rfl (nV hz) rfl rfl fun a U=>?_;refine aZ U (jV (v:=.bool false) rfl ((U.af rfl).trans (congrArg Value.bool (decide_eq_false hz))) rfl) fun a U=>?_;refine Zj 0 (fun hc=>?_) fun hc=>?_
  ·exact absurd hc ai
  refine Zv 1 fun a U=>?_;refine cl (fun (s':Nat×Value×List Tok) a w'=>match s' with| (k,v5,o5)=>(k≤y.ae.length∧o5.map bP++qA (y.ae.drop k)=o1.map bP++qA y.ae∧o5.length+(qA (y.ae.drop k)).length=o1.length+(qA y.ae).length)∧St Z (az [.ob bs 37 [vo],ax vo 44 aM out]) w' [.ob bs 37 [v5],ax v5 44 aM o5,.ob v1 28 (av.cells x)]∧Fr a 48 [(0,ptr (aa bs)),(3,ptr (aa v1)),(4,y.h.v),(5,i64 k)]) (fun (s':Nat×Value×List Tok)=>match s' with| (k,v5,o5)=>y.ae.length - k) (0,v1r,o1) ⟨⟨dN _,rfl,rfl⟩,O,U.su⟩ ?_;rintro⟨k,v5,o5⟩ a w ⟨⟨hk,fm,dB⟩,O,U⟩;refine Zg 2 (bA hR0.aK) fun a U=>?_;refine Zi 1 (fun a U aT=>?_) fun a U aT=>?_
  ·obtain⟨t,ht⟩:=dM (l:=y.ae) (i:=k) V;have htm:=List.mem_of_getElem? ht;rw[qH ht,Vu] at fm dB;refine Zg 3 (bw k hR0.aK V) fun a U=>?_;refine Zh 0 hR0.aK ht fun a U=>?_;refine Yc 0 (Hg (F0 _ t (Nat.le_refl _) (hl t htm)) (St.aI O) ((hR0.bK t htm).df O) (aO (And.intro n1 (And.intro dB hN)))) fun v6r o6 e6 n6 a w O U=>?_;refine Zv 3 fun a U=>?_;exact⟨(k+1,v6r,o6),⟨⟨V,by rw[←fm,e6,List.append_assoc],aO (And.intro n6 dB)⟩,O,U.su⟩,by dsimp only;omega⟩
  ·refine Zr 0 ?_;rw[ia V,Gj,cB] at fm;rw[ia V,Gj] at dB;exact⟨v5,o5,by rw[fm,e1,cC],aO (ak dB n1),O.kp⟩
 ·obtain⟨u,ul,hyu⟩:∃u ul,y.ae=u::ul:=by cases hc:y.ae with|nil=>exact absurd hc hys|cons u ul=>exact⟨u,ul,rfl⟩
  have xq:y.ae[0]?=some u:=by rw[hyu];rfl
  have uC:(y.ae.getD 0 bH)=u:=by rw[hyu];rfl
  have hz:(0:Int)< (y.ae.length:Int):=by rw[hyu];simp
  rw[uC] at hN ⊢;refine ct U rfl rfl rfl rfl (da hz) ?_;refine Zv 1 fun a U=>?_;refine ct U rfl rfl rfl rfl (da hz) ?_;refine Zg 0 (b_ hR0.aK xq) fun a U=>?_;refine ct U rfl rfl rfl rfl (da hz) ?_;refine Zv 1 fun a U=>?_;refine ct U rfl rfl rfl rfl (da hz) ?_;refine Zh 0 hR0.aK xq fun a U=>?_;refine ct U rfl rfl rfl rfl (da hz) ?_;refine Zv 1 fun a U=>?_;refine aZ U (jA rfl ((U.af rfl).trans (congrArg Value.bool (decide_eq_true hz))) (U.af rfl)) fun a U=>?_;refine Zi 0 (fun hc=>?_) fun hc=>?_
  ·have hl:=(hl.resolve_left fun q=>ar0 (q u (bV xq)) ((W.a8 u).trans hc)).2;rw[if_pos ⟨hys,hc⟩] at hN ⊢;simp only[bt] at hN;refine Yz 2 (ak n1 hN) fun b v2r o2 e2 n2 a w O U=>?_;refine Zv 4 fun a U=>?_;have O:=O.eb;have O:=O.q [1,1];refine Yc 0 (q9 [44] y.h.v (qq call86 (fun d hd=>Vf 7 d (hl d hd))) (St.gT O) (hR0.aK.eU O) (fun d hd=>(hR0.bK d hd).eU O) (aO (ak n1 (ak n2 hN)))) fun v3r o3 e3 n3 a w O U=>?_;refine Yz 2 (ak n1 (ak n2 (ak n3 hN))) fun b v4r o4 e4 n4 a w O U=>?_;refine Zr 0 ?_;exact⟨v4r,o4,c_ (ak e4 (ak e3 (ak e2 e1))),aO (ak n4 (ak n3 (ak n2 n1))),O.kp⟩
  ·have hl:=hl.resolve_right fun q=>by
    have h7:=q.2 u (bV xq);simp only[lp,aQ,cx,W.a8] at h7;exact hc h7.1.1.1
   rw[if_neg (fun q=>hc q.2)] at hN ⊢;simp only[bt] at hN;refine Zv 1 fun a U=>?_;refine cl (fun (s':Nat×Value×List Tok) a w'=>match s' with| (k,v5,o5)=>(k≤y.ae.length∧o5.map bP++qA (y.ae.drop k)=o1.map bP++qA y.ae∧o5.length+(qA (y.ae.drop k)).length=o1.length+(qA y.ae).length)∧St Z (az [.ob bs 37 [vo],ax vo 44 aM out]) w' [.ob bs 37 [v5],ax v5 44 aM o5,.ob v1 28 (av.cells x)]∧Fr a 48 [(0,ptr (aa bs)),(3,ptr (aa v1)),(4,y.h.v),(5,i64 k)]) (fun (s':Nat×Value×List Tok)=>match s' with| (k,v5,o5)=>y.ae.length - k) (0,v1r,o1) ⟨⟨dN _,rfl,rfl⟩,O,U.su⟩ ?_;rintro⟨k,v5,o5⟩ a w ⟨⟨hk,fm,dB⟩,O,U⟩;refine Zg 2 (bA hR0.aK) fun a U=>?_;refine Zi 1 (fun a U aT=>?_) fun a U aT=>?_
   ·obtain⟨t,ht⟩:=dM (l:=y.ae) (i:=k) V;have htm:=List.mem_of_getElem? ht;rw[qH ht,Vu] at fm dB;refine Zg 3 (bw k hR0.aK V) fun a U=>?_;refine Zh 0 hR0.aK ht fun a U=>?_;refine Yc 0 (Hg (F0 _ t (Nat.le_refl _) (hl t htm)) (St.aI O) ((hR0.bK t htm).df O) (aO (And.intro n1 (And.intro dB hN)))) fun v6r o6 e6 n6 a w O U=>?_;refine Zv 3 fun a U=>?_;exact⟨(k+1,v6r,o6),⟨⟨V,by rw[←fm,e6,List.append_assoc],aO (And.intro n6 dB)⟩,O,U.su⟩,by dsimp only;omega⟩
   ·refine Zr 0 ?_;rw[ia V,Gj,cB] at fm;rw[ia V,Gj] at dB;exact⟨v5,o5,by rw[fm,e1,cC],aO (ak dB n1),O.kp⟩
def ag9 {n:X}{j:Nat}(h:gQ aU n j=true)(hk:n.kind=54):∃a b,n.ae=[a,b]∧gQ aU a (j+1)=true:=by
 obtain⟨k,s,n,l⟩:=n;obtain rfl:k=54:=hk;rw[gQ.eq_def] at h;simp only[if_true,aQ] at h
 match l,h.2 with
 | [a,b],h=>rw[aQ] at h;exact⟨a,b,rfl,h.2⟩
 | [],h=>cases h
 | [_],h=>cases h
 |_::_::_::_,h=>cases h
def apH {x y z:W}(hk:x.kind=54)(hs:x.ae=[y,z])(vs:List X):spine x.er vs=spine y.er (z.er::vs):=by
 obtain⟨xk,xs,xn,xa,xc,xh,xl⟩:=x;obtain rfl:xk=54:=hk;obtain rfl:xl=[y,z]:=hs;rw[bM,spine.eq_def];rfl
def ae_ {x:W}(hk:¬x.kind=54)(vs:List X):spine x.er vs=(x.er,vs):=by
 obtain⟨xk,xs,xn,xa,xc,xh,xl⟩:=x;rw[bM,spine.eq_def];exact if_neg hk
def qc (l:List W):List Tk:=fy ((l.map W.er).map (jM aq aA))
def G2:qc []=[]:=rfl
def XK (y:W)(l:List W):qc (y::l)=bF aq aA y.name++qc l:=by
 show bF aq aA y.er.name++_=_;rw[W.cf];rfl
def amA {x hh:W}{ac:List W}(h:spine x.er []=(hh.er,ac.map W.er)):rA aq aA x.er=if ac=[] then bF aq aA hh.name else if hh.name=[91,93] then kw aq [91]::(bF aq aA (ac.getD 0 bH).name++[kw aq [93]]) else if hh.name=[40,44,41]∨hh.name=[40,44,44,41] then kw aq [40]::(jT [44] (ac.map fun y=>bF aq aA y.name)++[kw aq [41]]) else if hh.name=[45,62] then kw aq [40]::(jT [45,62] (ac.map fun y=>bF aq aA y.name)++[kw aq [41]]) else kw aq [40]::(bF aq aA hh.name++(qc ac++[kw aq [41]])):=by
 unfold rA;simp only[h,W.cf]
 cases ac with
 |nil=>exact if_pos rfl
 |cons y l=>
  have aW:¬List.map W.er (y::l)=[]:=aw
  have agN:¬y::l=[]:=aw
  rw[if_neg aW,if_neg agN];rw[l_,l_,Pp];have e1:((List.map W.er (y::l)).getD 0 cc).name=((y::l).getD 0 bH).name:=W.cf y;simp only[e1]
  rfl
def agM (x:W)(j:Nat)(hI:gQ aU x.er j=true)(hz:aL x.er≤100000000000):SP 88 [.agg (av.cells x).toArray] (rA aq aA x.er) (gx x):=by
 intro bs vo out Z hA hR hN;have O:=St.init hA;refine aS func88 ntmps88 fun a U=>?_;refine Zb 1 fun tb a w O U=>?_;refine Zb 1 fun v1 a w O U=>?_;refine Zv 1 fun a U=>?_;have O:=O.kN 28;have O:=O.q [3,3];refine cl (fun (s:W×List W×aC×Nat) a w'=>match s with| (hh,ac,ha,jj)=>(spine hh.er (ac.map W.er)=spine x.er []∧gQ aU hh.er jj=true∧bS Z (az [.ob bs 37 [vo],ax vo 44 aM out]) hh∧(∀y∈ac,bS Z (az [.ob bs 37 [vo],ax vo 44 aM out]) y)∧ac.length+aL hh.er≤aL x.er)∧St Z (az [.ob bs 37 [vo],ax vo 44 aM out]) w' [.ob bs 37 [vo],ax vo 44 aM out,ax ha.v 28 av ac,.ob v1 28 (av.cells hh),.ob tb 64 [ptr (aa bs)]]∧Fr a 91 [(0,ptr (aa bs)),(2,ptr (aa tb)),(3,ptr (aa v1)),(4,(aC.v ha))]) (fun (s:W×List W×aC×Nat)=>match s with| (hh,ac,ha,jj)=>aL hh.er) (x,[],bj,j) ⟨⟨rfl,hI,hR,fun y hy=>(by cases hy),Nat.le_of_eq (Nat.zero_add _)⟩,O,U.su⟩ ?_;rintro⟨hh,ac,ha,jj⟩ a w ⟨⟨hsp,hI,hRh,hRa,a_⟩,O,U⟩;refine Zi 3 (fun a U ao=>?_) fun a U ao=>?_
 ·obtain⟨g,q,dX,hg⟩:=ag9 hI ((W.a8 hh).trans ao);obtain⟨y,z,hs,rfl,rfl⟩:=og dX;have aY:hh.ae[0]?=some y:=by rw[hs];rfl
  have bC:hh.ae[1]?=some z:=by rw[hs];rfl
  have jQ:=dO aY;have hzz:=aqN hs;have HZ:aL y.er+2≤aL hh.er:=by
   have:=AG ([z].map W.er);rw[dW] at this;simp only[bg,bp] at this;omega
  have hR1:=hRh.bK z (List.mem_of_getElem? bC);refine Zg 2 (b_ hRh.aK bC) fun a U=>?_;refine Zh 0 hRh.aK bC fun a U=>?_;refine Zb 1 fun b2 a w O U=>?_;have O:=O.dJ [z];refine Za 1 (cR ac 0 3 trivial) fun wg a w O U=>?_;have O:=O.d [3];refine Zg 3 (b_ hRh.aK aY) fun a U=>?_;refine Zh 0 hRh.aK aY fun a U=>?_;refine Xs 1 [1,1] fun a w O U=>?_;exact⟨(y,[z]++ac,wg,jj+1),⟨⟨by rw[←hsp,apH ao hs];rfl,hg,hRh.bK y (List.mem_of_getElem? aY),fun u hu=>(List.mem_cons.1 hu).elim (fun e=>e▸hR1) (hRa u),by simp only[List.length_append,List.length_cons,List.length_nil];omega⟩,O,U.su⟩,by dsimp only;omega⟩
 have afW:spine x.er []=(hh.er,ac.map W.er):=hsp.symm.trans (ae_ ao _);rw[amA afW] at hN ⊢;refine Zg 3 (bA (O.rd 2 rfl)) fun a U=>?_;refine Zi 1 (fun a U ay=>?_) fun a U ay=>?_
 ·have h0:ac=[]:=kj V;rw[if_pos h0] at hN ⊢;refine Yc 3 (jd hh.name (St.aI O) trivial (aO hN)) fun v1r o1 e1 n1 a w O U=>?_;refine Zr 0 ?_;exact⟨v1r,o1,c_ e1,aO n1,O.kp⟩
 obtain⟨y,l,rfl⟩:∃y l,ac=y::l:=by cases ac with|nil=>exact absurd rfl ay|cons y l=>exact⟨y,l,rfl⟩
 have hll:=aG.gi (O.bW 2 rfl);have aW:¬y::l=[]:=aw
 rw[if_neg aW] at hN ⊢;refine Zi 4 (fun a U aF=>?_) fun a U aF=>?_
 ·rw[if_pos aF] at hN ⊢;have uC:(y::l).getD 0 bH=y:=rfl;rw[uC] at hN ⊢;refine Yz 2 hN fun b v1r o1 e1 n1 a w O U=>?_;refine Zg 2 (bw 0 (O.rd 2 rfl) aw) fun a U=>?_;refine Zh 0 (O.bW 2 rfl) (show (y::l)[0]?=some y from rfl) fun a U=>?_;have O:=O.q [0,0,2];refine eP U (fM U rfl (U.af rfl) rfl rfl call130 (E1 bs tb y (St.gT O) ((hRa y jL).eU O) (aO (ak n1 hN)))) ?_;rintro a _ w ⟨v2r,o2,e2,n2,hS⟩ U;have O:=O.k3 hS;refine Yz 2 (ak n1 (ak n2 hN)) fun b v3r o3 e3 n3 a w O U=>?_;refine Zr 0 ?_;exact⟨v3r,o3,c_ (ak e3 (ak e2 e1)),aO (ak n3 (ak n2 n1)),O.kp⟩
 rw[if_neg aF] at hN ⊢;refine Zi 2 (fun a U aT=>?_) fun a U aT=>?_
 ·refine Zi 0 (fun _=>?_) fun hd=>absurd aT hd;rw[if_pos (.inl aT)] at hN ⊢;refine Yz 2 hN fun b v1r o1 e1 n1 a w O U=>?_;have O:=O.q [0,0,2];refine Yc 3 (q9 [44] ha.v ⟨call130,fun u hu=>E1 bs tb u⟩ (St.gT O) (O.Gk 0 rfl) (fun u hu=>(hRa u hu).eU O) (aO (ak n1 hN))) fun v2r o2 e2 n2 a w O U=>?_;refine Yz 2 (ak n1 (ak n2 hN)) fun b v3r o3 e3 n3 a w O U=>?_;refine Zr 0 ?_;exact⟨v3r,o3,c_ (ak e3 (ak e2 e1)),aO (ak n3 (ak n2 n1)),O.kp⟩
 refine Zi 2 (fun a U bm=>?_) fun a U bm=>?_
 ·rw[if_pos (.inr bm)] at hN ⊢;refine Yz 2 hN fun b v1r o1 e1 n1 a w O U=>?_;have O:=O.q [0,0,2];refine Yc 3 (q9 [44] ha.v ⟨call130,fun u hu=>E1 bs tb u⟩ (St.gT O) (O.Gk 0 rfl) (fun u hu=>(hRa u hu).eU O) (aO (ak n1 hN))) fun v2r o2 e2 n2 a w O U=>?_;refine Yz 2 (ak n1 (ak n2 hN)) fun b v3r o3 e3 n3 a w O U=>?_;refine Zr 0 ?_;exact⟨v3r,o3,c_ (ak e3 (ak e2 e1)),aO (ak n3 (ak n2 n1)),O.kp⟩
 rw[if_neg (fun q=>q.elim aT bm)] at hN ⊢;refine Zi 2 (fun a U bl=>?_) fun a U bl=>?_
 ·rw[if_pos bl] at hN ⊢;refine Yz 2 hN fun b v1r o1 e1 n1 a w O U=>?_;have O:=O.q [0,0,2];refine Yc 3 (q9 [45,62] ha.v ⟨call130,fun u hu=>E1 bs tb u⟩ (St.gT O) (O.Gk 0 rfl) (fun u hu=>(hRa u hu).eU O) (aO (ak n1 hN))) fun v2r o2 e2 n2 a w O U=>?_;refine Yz 2 (ak n1 (ak n2 hN)) fun b v3r o3 e3 n3 a w O U=>?_;refine Zr 0 ?_;exact⟨v3r,o3,c_ (ak e3 (ak e2 e1)),aO (ak n3 (ak n2 n1)),O.kp⟩
 rw[if_neg bl] at hN ⊢;simp only[bg,bt] at hN;refine Yz 2 hN fun b v1r o1 e1 n1 a w O U=>?_;refine Xc 3 [0,0,2] (jd hh.name (St.aI O) trivial (aO (ak n1 hN))) fun v2r o2 e2 n2 a w O U=>?_;refine Zv 1 fun a U=>?_;refine cl (fun (s':Nat×Value×List Tok) a w'=>match s' with| (k,v5,o5)=>(k≤(y::l).length∧o5.map bP++qc ((y::l).drop k)=o2.map bP++qc (y::l)∧o5.length+(qc ((y::l).drop k)).length=o2.length+(qc (y::l)).length)∧St Z (az [.ob bs 37 [vo],ax vo 44 aM out]) w' [.ob bs 37 [v5],ax v5 44 aM o5,.ob tb 64 [ptr (aa bs)],ax ha.v 28 av (y::l),.ob v1 28 (av.cells hh)]∧Fr a 91 [(0,ptr (aa bs)),(2,ptr (aa tb)),(3,ptr (aa v1)),(4,(aC.v ha)),(5,.func (.func 130) #[] #[ptr (aa tb)]),(6,i64 k)]) (fun (s':Nat×Value×List Tok)=>match s' with| (k,v5,o5)=>(y::l).length - k) (0,v2r,o2) ⟨⟨dN _,rfl,rfl⟩,O,U.su⟩ ?_;rintro⟨k,v5,o5⟩ a w ⟨⟨hk,fm,dB⟩,O,U⟩;refine Zg 2 (bA (O.rd 3 rfl)) fun a U=>?_;refine Zi 1 (fun a U bN=>?_) fun a U bN=>?_
 ·obtain⟨t,ht⟩:=dM (l:=(y::l)) (i:=k) V;have htm:=List.mem_of_getElem? ht;rw[qH ht,XK] at fm dB;refine Zg 3 (bw k (O.rd 3 rfl) V) fun a U=>?_;refine Zh 0 (O.bW 3 rfl) ht fun a U=>?_;refine eP U (fM U rfl (U.af rfl) rfl rfl call130 (E1 bs tb t (St.gT O) ((hRa t htm).eU O) (aO (And.intro n1 (And.intro n2 (And.intro dB hN)))))) ?_;rintro a _ w ⟨v6r,o6,e6,n6,hS⟩ U;have O:=O.k3 hS;refine Zv 3 fun a U=>?_;exact⟨(k+1,v6r,o6),⟨⟨V,by rw[←fm,e6,List.append_assoc],aO (And.intro n6 dB)⟩,O,U.su⟩,by dsimp only;omega⟩
 ·rw[ia V,G2,cB] at fm;rw[ia V,G2] at dB;refine Yz 2 (ak n1 (ak n2 (ak dB hN))) fun b v6r o6 e6 n6 a w O U=>?_;refine Zr 0 ?_;exact⟨v6r,o6,c_ (ak e6 (ak fm (ak e2 e1))),aO (ak n6 (ak dB (ak n2 n1))),O.kp⟩
def nI (x:W):List Tk:=if x.kind=3 then (ql aq aA x.er).1 else bq aq cn (fh aq aA x.er)
def TPs (n:X):Prop:=oB aU n=true∨fE aU n=true∧n.kind≠3
abbrev Ek (a:Act)(bs tb v1:Nat):Prop:=Fr a 178 [(0,ptr (aa bs)),(2,ptr (aa tb)),(3,ptr (aa v1))]
def F8 {x:W}{p:TP}(hk:¬x.kind=3)(h:fh aq aA x.er=[p]):nI x=p.1:=by
 unfold nI;rw[if_neg hk,h];show p.1++[]=_;rw[cB]
def q_ {x y:W}{i:Nat}(h:x.ae[i]?=some y):sub x.er i=y.er:=by
 unfold sub;rw[W.cq,List.getD_eq_getElem?_getD,List.getElem?_map,h];rfl
def acu {x:W}(hk:x.kind=5):fh aq aA x.er=[(kw aq Cg::(bF aq aA x.name++(fy ((sub x.er 0).ae.map (jM aq aA))++mO aq eQ ((sub x.er 1).ae.map (oh aq aA)))),x.er)]:=by
 unfold fh;rw[if_pos ((W.a8 x).trans hk),W.cf]
def abn {x:W}(hk:x.kind=8):fh aq aA x.er=[(kw aq DC::(bF aq aA x.name++(bF aq aA (sub x.er 0).name++(kw aq gj::kw aq cw::(bq aq cn ((sub x.er 1).ae.map (nF aq aA))++[kw aq cd])))),x.er)]:=by
 unfold fh;rw[if_neg (by rw[W.a8,hk];decide),if_pos ((W.a8 x).trans hk),W.cf]
def acC {x:W}(hk:x.kind=10):∃e,fh aq aA x.er=[(kw aq DH::kw aq bY::(bq aq bD ((sub x.er 0).ae.map (ns aq aA))++(kw aq bB::kw aq w5::(bF aq aA x.name++(rA aq aA (sub x.er 1)++(kw aq gj::kw aq cw::(bq aq cn (cU aq aA (sub x.er 2).ae)++[kw aq cd])))))),e)]:=by
 unfold fh;rw[if_neg (by rw[W.a8,hk];decide),if_neg (by rw[W.a8,hk];decide),if_pos ((W.a8 x).trans hk),W.cf];exact⟨_,rfl⟩
def am2 {x:W}(hk:x.kind=12):fh aq aA x.er=[(kw aq x.name::⟨5,[],x.n⟩::bq aq bD ((sub x.er 0).ae.map (xf aq aA)),x.er)]:=by
 unfold fh;rw[if_neg (by rw[W.a8,hk];decide),if_neg (by rw[W.a8,hk];decide),if_neg (by rw[W.a8,hk];decide),if_pos ((W.a8 x).trans hk),W.cf,W.cO]
def qh:Nat→List W→List Tk
 |_,[]=>[]
 |i,y::l=>kw aq (if i=0 then [61] else [124])::(rm aq aA y.er++qh (i+1) l)
def Xy:∀(l:List W) (i:Nat),mO aq mW ((l.map W.er).map (oh aq aA))=qh (i+1) l
 | [],_=>rfl
 |y::l,i=>by
  rw[bf,bf,mO,qh,Xy l (i+1),if_neg (Nat.succ_ne_zero i)];rfl
def ag7 (l:List W):mO aq eQ ((l.map W.er).map (oh aq aA))=qh 0 l:=by
 cases l with
 |nil=>rfl
 |cons y l=>rw[bf,bf,mO,qh,Xy l 0,if_pos rfl];rfl
def ahy (l:List W):((l.map W.er).map (ns aq aA)).map Prod.fst=l.map fun y=>(ns aq aA y.er).1:=by rw[List.map_map,List.map_map];rfl
def ajQ (l:List W):((l.map W.er).map (xf aq aA)).map Prod.fst=l.map fun y=>mx aq aA y.er:=by rw[List.map_map,List.map_map];rfl
def ao9 {n:X}(h:fE aU n=true):(n.kind=5→∃a b,n.ae=[a,b]∧∀c∈b.ae,rf aU c=true)∧(n.kind=8→∃a b,n.ae=[a,b]∧∀c∈b.ae,lp aU 9 c=true)∧(n.kind=10→∃a b c,n.ae=[a,b,c]∧(∀p∈a.ae,q7 aU p=true)∧gQ aU b 0=true∧∀d∈c.ae,dT aU d=true)∧(n.kind=12→∃a,n.ae=[a])∧(n.kind≠5→n.kind≠8→n.kind≠10→n.kind≠12→dT aU n=true):=by
 unfold fE at h
 by_cases h5:n.kind=5
 ·rw[if_pos h5,aQ] at h;refine⟨fun _=>?_,fun q=>absurd (h5.symm.trans q) ai,fun q=>absurd (h5.symm.trans q) ai,fun q=>absurd (h5.symm.trans q) ai,fun q=>absurd h5 q⟩
  match hl:n.ae,h.2 with
  | [a,b],h=>rw[aQ] at h;exact⟨a,b,rfl,wO h.2⟩
 rw[if_neg h5] at h
 by_cases h8:n.kind=8
 ·rw[if_pos h8,aQ] at h;refine⟨fun q=>absurd q h5,fun _=>?_,fun q=>absurd (h8.symm.trans q) ai,fun q=>absurd (h8.symm.trans q) ai,fun _ q=>absurd h8 q⟩
  match hl:n.ae,h.2 with
  | [a,b],h=>rw[aQ] at h;exact⟨a,b,rfl,wO h.2⟩
 rw[if_neg h8] at h
 by_cases h10:n.kind=10
 ·rw[if_pos h10,aQ] at h;refine⟨fun q=>absurd q h5,fun q=>absurd q h8,fun _=>?_,fun q=>absurd (h10.symm.trans q) ai,fun _ _ q=>absurd h10 q⟩
  match hl:n.ae,h.2 with
  | [a,b,c],h=>
   simp only[aQ] at h;refine⟨a,b,c,rfl,wO h.1.1.1,h.1.1.2,fun d hd=>?_⟩;have:=wO h.1.2 d hd;simp only[uR,aQ] at this;exact this.2
 rw[if_neg h10] at h
 by_cases h12:n.kind=12
 ·rw[if_pos h12,aQ] at h;refine⟨fun q=>absurd q h5,fun q=>absurd q h8,fun q=>absurd q h10,fun _=>?_,fun _ _ _ q=>absurd h12 q⟩
  match hl:n.ae,h.2 with
  | [a],h=>exact⟨a,rfl⟩
 rw[if_neg h12] at h;exact⟨fun q=>absurd q h5,fun q=>absurd q h8,fun q=>absurd q h10,fun q=>absurd q h12,fun _ _ _ _=>h⟩
def JY {n:X}(h:oB aU n=true):n.kind=3∧∃a,n.ae=[a]:=by
 unfold oB at h;simp only[aQ,cx] at h;refine⟨h.1.1.1,?_⟩
 match hl:n.ae,h.2 with
 | [a],_=>exact⟨a,rfl⟩
def adn {m:Nat}(ih:SX m)(x:W)(hx:aL x.er≤m)(hz:aL x.er≤100000000000)(hP:TPs x.er):SP 28 [.agg (av.cells x).toArray] (nI x) (gx x):=by
 intro bs vo out Z hA hR hN;have O:=St.init hA;refine aS func28 ntmps28 fun a U=>?_;refine Zb 1 fun tb a w O U=>?_;refine Xb 1 [2,2] fun v1 a w O U=>?_;refine Zi 4 (fun a U aF=>?_) fun a U aF=>?_
 ·obtain⟨_,q,dX⟩:=JY (hP.resolve_right fun q=>q.2 ((W.a8 x).trans aF));have U:Ek _ bs tb v1:=U.su;obtain⟨y,hs,rfl⟩:=B0 dX;have aY:x.ae[0]?=some y:=by rw[hs];rfl
  have jQ:=dO aY;have hR0:=hR.bK y (bV aY);have hX:nI x=kw aq [105,109,112,111,114,116]::(bF aq aA x.name++rl aq aA y.er):=by
   unfold nI;rw[if_pos aF];unfold ql;rw[q_ aY,W.cf];rfl
  rw[hX] at hN ⊢;refine Yz 2 hN fun b v1r o1 e1 n1 a w O U=>?_;refine Yc 3 (jd x.name (St.aI O) trivial (aO (ak n1 hN))) fun v2r o2 e2 n2 a w O U=>?_;refine Zd 0 [1,0,1,1,1,3] fun w O=>?_;refine Zg 3 (b_ hR.aK aY) fun a U=>?_;refine Zh 0 hR.aK aY fun a U=>?_;refine Yc 0 (U6 y (St.aI O) (hR0.df O) (aO (ak n1 (ak n2 hN)))) fun v3r o3 e3 n3 a w O U=>?_;refine Zr 0 ?_;exact⟨v3r,o3,c_ (ak e3 (ak e2 e1)),aO (ak n3 (ak n2 n1)),O.kp⟩
 have hP:=(hP.resolve_left fun q=>aF ((W.a8 x).symm.trans (JY q).1)).1;obtain⟨p5,p8,p10,p12,pe⟩:=ao9 hP;simp only[W.a8] at p5 p8 p10 p12 pe;refine Zi 2 (fun a U bm=>?_) fun a U bm=>?_
 ·obtain⟨g,q,dX,hq⟩:=p5 bm;have U:Ek _ bs tb v1:=U.su;obtain⟨y,z,hs,rfl,rfl⟩:=og dX;have aY:x.ae[0]?=some y:=by rw[hs];rfl
  have bC:x.ae[1]?=some z:=by rw[hs];rfl
  have jQ:=dO aY;have oU:=dO bC;have hR0:=hR.bK y (bV aY);have hR1:=hR.bK z (bV bC);have hq:=jO hq;have hX:nI x=kw aq [100,97,116,97]::(bF aq aA x.name++(qc y.ae++qh 0 z.ae)):=by
   rw[F8 aF (acu bm),q_ aY,q_ bC,W.cq,W.cq,ag7];rfl
  rw[hX] at hN ⊢;simp only[bg,bt] at hN;have hyl:=aG.gi hR0.aK;have hzl:=aG.gi hR1.aK;refine Yz 2 hN fun b v1r o1 e1 n1 a w O U=>?_;refine Yc 3 (jd x.name (St.aI O) trivial (aO (ak n1 hN))) fun v2r o2 e2 n2 a w O U=>?_;refine Zv 1 fun a U=>?_;refine cl (fun (s':Nat×Value×List Tok) a w'=>match s' with| (k,v5,o5)=>(k≤y.ae.length∧o5.map bP++qc (y.ae.drop k)=o2.map bP++qc y.ae∧o5.length+(qc (y.ae.drop k)).length=o2.length+(qc y.ae).length)∧St Z (az [.ob bs 37 [vo],ax vo 44 aM out]) w' [.ob bs 37 [v5],ax v5 44 aM o5,.ob v1 28 (av.cells x),.ob tb 64 [ptr (aa bs)]]∧Fr a 178 [(0,ptr (aa bs)),(2,ptr (aa tb)),(3,ptr (aa v1)),(4,i64 k)]) (fun (s':Nat×Value×List Tok)=>match s' with| (k,v5,o5)=>y.ae.length - k) (0,v2r,o2) ⟨⟨dN _,rfl,rfl⟩,O,U.su⟩ ?_;rintro⟨k,v5,o5⟩ a w ⟨⟨hk,fm,dB⟩,O,U⟩;refine Zg 3 (b_ hR.aK aY) fun a U=>?_;refine Zh 1 hR.aK aY fun a U=>?_;refine Zg 0 (bA hR0.aK) fun a U=>?_;refine Zi 1 (fun a U bN=>?_) fun a U bN=>?_
  ·obtain⟨t,ht⟩:=dM (l:=y.ae) (i:=k) V;rw[qH ht,XK] at fm dB;refine Zd 0 [1,0,1,1,0,1,0,1,0,1,3] fun w O=>?_;refine Zg 3 (b_ hR.aK aY) fun a U=>?_;refine Zh 1 hR.aK aY fun a U=>?_;refine Zg 1 (bw k hR0.aK V) fun a U=>?_;refine Zh 1 hR0.aK ht fun a U=>?_;refine Yc 0 (jd t.name (St.aI O) trivial (aO (And.intro n1 (And.intro n2 (And.intro dB hN))))) fun v6r o6 e6 n6 a w O U=>?_;refine Zv 3 fun a U=>?_;exact⟨(k+1,v6r,o6),⟨⟨V,by rw[←fm,e6,List.append_assoc],aO (And.intro n6 dB)⟩,O,U.su⟩,by dsimp only;omega⟩
  ·rw[ia V,G2,cB] at fm;rw[ia V,G2] at dB;refine Zv 1 fun a U=>?_;refine cl (fun (s':Nat×Value×List Tok) a w'=>match s' with| (k,v7,o7)=>(k≤z.ae.length∧o7.map bP++qh k (z.ae.drop k)=o5.map bP++qh 0 z.ae∧o7.length+(qh k (z.ae.drop k)).length=o5.length+(qh 0 z.ae).length)∧St Z (az [.ob bs 37 [vo],ax vo 44 aM out]) w' [.ob bs 37 [v7],ax v7 44 aM o7,.ob v1 28 (av.cells x),.ob tb 64 [ptr (aa bs)]]∧Fr a 178 [(0,ptr (aa bs)),(2,ptr (aa tb)),(3,ptr (aa v1)),(5,i64 k)]) (fun (s':Nat×Value×List Tok)=>match s' with| (k,v7,o7)=>z.ae.length - k) (0,v5,o5) ⟨⟨dN _,rfl,rfl⟩,O,U.su⟩ ?_;rintro⟨k,v7,o7⟩ a w ⟨⟨hk,vN,tJ⟩,O,U⟩;refine Zg 3 (b_ hR.aK bC) fun a U=>?_;refine Zh 1 hR.aK bC fun a U=>?_;refine Zg 0 (bA hR1.aK) fun a U=>?_;refine Zi 1 (fun a U bN=>?_) fun a U bN=>?_
   ·obtain⟨t,ht⟩:=dM (l:=z.ae) (i:=k) V;have htm:=bV ht;rw[qH ht,qh] at vN tJ;refine Zn 2 fun a U=>?_;refine k9 ?_;refine jx ?_;refine NW (fun (s':Value×List Tok) a w'=>match s' with| (v8,o8)=>(o8.map bP=o7.map bP++[kw aq (if k=0 then [61] else [124])]∧o8.length=o7.length+1)∧St Z (az [.ob bs 37 [vo],ax vo 44 aM out]) w' [.ob bs 37 [v8],ax v8 44 aM o8,.ob v1 28 (av.cells x),.ob tb 64 [ptr (aa bs)]]∧Fr a 178 [(0,ptr (aa bs)),(2,ptr (aa tb)),(3,ptr (aa v1)),(5,i64 k)]) ?_ ?_
    ·refine Zi 0 (fun d_=>?_) fun d_=>?_
     ·rw[if_pos (show k=0 by omega)] at tJ ⊢;refine Yz 2 (ak n1 (ak n2 (ak dB (ak tJ hN)))) fun b v8r o8 e8 n8 a w O U=>?_;refine Zv 0 ?_;exact⟨(v8r,o8),⟨e8,n8⟩,O,U.su⟩
     ·rw[if_neg (show ¬k=0 by omega)] at tJ ⊢;refine Yz 2 (ak n1 (ak n2 (ak dB (ak tJ hN)))) fun b v8r o8 e8 n8 a w O U=>?_;refine Zv 0 ?_;exact⟨(v8r,o8),⟨e8,n8⟩,O,U.su⟩
    ·rintro⟨v8,o8⟩ a w ⟨⟨e8,n8⟩,O,U⟩;refine Zd 0 [1,0,1,1,0,1,0,1,1,3] fun w O=>?_;refine Zg 3 (b_ hR.aK bC) fun a U=>?_;refine Zh 1 hR.aK bC fun a U=>?_;refine Zg 1 (bw k hR1.aK V) fun a U=>?_;refine Zh 0 hR1.aK ht fun a U=>?_;refine Yc 0 (aj_ t (hq t htm) (St.aI O) ((hR1.bK t htm).df O) (aO (And.intro n1 (And.intro n2 (And.intro dB (And.intro tJ (And.intro n8 hN))))))) fun v9r o9 e9 n9 a w O U=>?_;refine Zv 3 fun a U=>?_;exact⟨(k+1,v9r,o9),⟨⟨V,by rw[←vN,e9,e8];simp only[List.append_assoc,List.cons_append,List.nil_append],aO (And.intro n9 (And.intro n8 tJ))⟩,O,U.su⟩,by dsimp only;omega⟩
   ·refine Zr 0 ?_;rw[ia V,qh,cB] at vN;rw[ia V,qh] at tJ;exact⟨v7,o7,c_ (ak vN (ak fm (ak e2 e1))),aO (ak tJ (ak dB (ak n2 n1))),O.kp⟩
 refine Zi 2 (fun a U db=>?_) fun a U db=>?_
 ·obtain⟨g,q,dX,hq⟩:=p8 db;have U:Ek _ bs tb v1:=U.su;obtain⟨y,z,hs,rfl,rfl⟩:=og dX;have aY:x.ae[0]?=some y:=by rw[hs];rfl
  have bC:x.ae[1]?=some z:=by rw[hs];rfl
  have jQ:=dO aY;have oU:=dO bC;have hR0:=hR.bK y (bV aY);have hR1:=hR.bK z (bV bC);have hq:=jO hq;have hX:nI x=kw aq [99,108,97,115,115]::(bF aq aA x.name++(bF aq aA y.name++(kw aq [119,104,101,114,101]::kw aq [123]::(jT [59] (z.ae.map fun u=>uU aq aA u.er)++[kw aq [125]])))):=by
   rw[F8 aF (abn db),q_ aY,q_ bC,W.cq,W.cf,l_,Rx];rfl
  rw[hX] at hN ⊢;refine Yz 2 hN fun b v1r o1 e1 n1 a w O U=>?_;refine Yc 3 (jd x.name (St.aI O) trivial (aO (ak n1 hN))) fun v2r o2 e2 n2 a w O U=>?_;refine Zd 0 [1,0,1,1,0,1,3] fun w O=>?_;refine Zg 3 (b_ hR.aK aY) fun a U=>?_;refine Zh 1 hR.aK aY fun a U=>?_;refine Yc 0 (jd y.name (St.aI O) trivial (aO (ak n1 (ak n2 hN)))) fun v3r o3 e3 n3 a w O U=>?_;refine Yz 2 (ak n1 (ak n2 (ak n3 hN))) fun b v4r o4 e4 n4 a w O U=>?_;refine Zd 0 [1,0,1,1,0,1,1,0,3] fun w O=>?_;refine Zg 3 (b_ hR.aK bC) fun a U=>?_;refine Zh 1 hR.aK bC fun a U=>?_;refine Zv 2 fun a U=>?_;have O:=O.eb;have O:=O.q [1,1];refine Yc 0 (vM z.h.v (qq call86 (fun d hd=>Vf 9 d (hq d hd))) (St.gT O) (hR1.aK.eU O) (fun d hd=>(hR1.bK d hd).eU O) (aO (ak n1 (ak n2 (ak n3 (ak n4 hN)))))) fun v5r o5 e5 n5 a w O U=>?_;refine Zr 0 ?_;exact⟨v5r,o5,c_ (ak e5 (ak e4 (ak e3 (ak e2 e1)))),aO (ak n5 (ak n4 (ak n3 (ak n2 n1)))),O.kp⟩
 refine Zi 2 (fun a U eA=>?_) fun a U eA=>?_
 ·obtain⟨g,q,r,dX,hp,hI,hq⟩:=p10 eA;have U:Ek _ bs tb v1:=U.su;obtain⟨y,z,u,hs,rfl,rfl,rfl⟩:=Kj dX;have aY:x.ae[0]?=some y:=by rw[hs];rfl
  have jQ:=dO aY;have hR0:=hR.bK y (bV aY);have bC:x.ae[1]?=some z:=by rw[hs];rfl
  have oU:=dO bC;have hR1:=hR.bK z (bV bC);have kP:x.ae[2]?=some u:=by rw[hs];rfl
  have HZ:=dO kP;have hR2:=hR.bK u (bV kP);have hp:=jO hp;have hq:=jO hq;have hX:nI x=kw aq [105,110,115,116,97,110,99,101]::kw aq [40]::(jT [44] (y.ae.map fun p=>(ns aq aA p.er).1)++(kw aq [41]::kw aq [61,62]::(bF aq aA x.name++(rA aq aA z.er++(kw aq [119,104,101,114,101]::kw aq [123]::(jT [59] (u.ae.map TQ)++[kw aq [125]])))))):=by
   obtain⟨e,he⟩:=acC eA;have hj:jT [59] (u.ae.map TQ)=bq aq cn (cU aq aA (u.ae.map W.er)):=HP cn u.ae hq;rw[F8 aF he,q_ aY,q_ bC,q_ kP,W.cq,W.cq,hj,l_,ahy];rfl
  rw[hX] at hN ⊢;refine Xb 2 [1,1] fun b a w O U=>?_;refine Yc 0 (vW [[105,110,115,116,97,110,99,101],[40]] _ ai (St.aI O) (O.mZ (l:=[[105,110,115,116,97,110,99,101],[40]]) 0 rfl) (aO hN)) fun v1r o1 e1 n1 a w O U=>?_;have O:=O.d [2];have O:=O.q [0,0,1];refine Zd 0 [1,0,1,1,0,1,0,3] fun w O=>?_;refine Zg 3 (b_ hR.aK aY) fun a U=>?_;refine Zh 1 hR.aK aY fun a U=>?_;refine Zv 1 fun a U=>?_;refine Yc 0 (q9 [44] y.h.v ⟨call87,fun p hpm=>aqA bs tb p (hp p hpm)⟩ (St.gT O) (hR0.aK.eU O) (fun p hpm=>(hR0.bK p hpm).eU O) (aO (ak n1 hN))) fun v2r o2 e2 n2 a w O U=>?_;refine Xb 2 [1,1] fun b a w O U=>?_;refine Yc 0 (vW [[41],[61,62]] _ ai (St.aI O) (O.mZ (l:=[[41],[61,62]]) 0 rfl) (aO (ak n1 (ak n2 hN)))) fun v3r o3 e3 n3 a w O U=>?_;have O:=O.d [2];refine Yc 3 (jd x.name (St.aI O) trivial (aO (ak n1 (ak n2 (ak n3 hN))))) fun v4r o4 e4 n4 a w O U=>?_;refine Zd 0 [1,0,1,1,1,3] fun w O=>?_;refine Zg 3 (b_ hR.aK bC) fun a U=>?_;refine Zh 0 hR.aK bC fun a U=>?_;refine Yc 0 (agM z 0 hI V (St.aI O) (hR1.df O) (aO (ak n1 (ak n2 (ak n3 (ak n4 hN)))))) fun v5r o5 e5 n5 a w O U=>?_;refine Yz 2 (ak n1 (ak n2 (ak n3 (ak n4 (ak n5 hN))))) fun b v6r o6 e6 n6 a w O U=>?_;refine Zd 0 [1,0,1,1,0,1,1,0,3] fun w O=>?_;refine Zg 3 (b_ hR.aK kP) fun a U=>?_;refine Zh 1 hR.aK kP fun a U=>?_;refine Zv 2 fun a U=>?_;have O:=O.eb;have O:=O.q [1,1];refine Yc 0 (vM u.h.v (qq call89 (fun d hd=>ih.eqn d (by have:=kA hd;omega) (hq d hd))) (St.gT O) (hR2.aK.eU O) (fun d hd=>(hR2.bK d hd).eU O) (aO (ak n1 (ak n2 (ak n3 (ak n4 (ak n5 (ak n6 hN)))))))) fun v7r o7 e7 n7 a w O U=>?_;refine Zr 0 ?_;exact⟨v7r,o7,c_ (ak e7 (ak e6 (ak e5 (ak e4 (ak e3 (ak e2 e1)))))),aO (ak n7 (ak n6 (ak n5 (ak n4 (ak n3 (ak n2 n1)))))),O.kp⟩
 refine Zi 2 (fun a U ic=>?_) fun a U ic=>?_
 ·obtain⟨g,dX⟩:=p12 ic;have U:Ek _ bs tb v1:=U.su;obtain⟨y,hs,rfl⟩:=B0 dX;have aY:x.ae[0]?=some y:=by rw[hs];rfl
  have jQ:=dO aY;have hR0:=hR.bK y (bV aY);have hX:nI x=kw aq x.name::⟨5,[],x.n⟩::jT [44] (y.ae.map fun u=>mx aq aA u.er):=by
   rw[F8 aF (am2 ic),q_ aY,W.cq,l_,ajQ];rfl
  rw[hX] at hN ⊢;simp only[bg] at hN;refine Xb 4 [1,1] fun b a w O U=>?_;refine Yc 0 (uJ x.name _ (St.aI O) (O.mZ (l:=[x.name]) 0 rfl) (aO hN)) fun v1r o1 e1 n1 a w O U=>?_;have O:=O.d [2];simp only[bg,bp] at n1;refine Zo 0 [0,2,3] [1,1,0,0,1,0,1,0,2,2,0,0,3] By fun w O=>?_;refine Zb 9 fun b2 a w O U=>?_;refine pn rfl U (iJ (bytes:=48) (r:=[⟨5,[],x.n,0,0⟩]) O (i:=2) rfl (O.rd 0 rfl) underlying22 pV rfl rfl rfl rfl rfl rfl (U.af rfl) (U.af rfl) (by show (List.length _+1) * 48≤_;omega) (by show List.length _+1≤_;omega)) ?_ ?_
  ·rintro va w O;exact O.nm.d [0,1]
  rintro a v18 w O U;have O:=O.nm;refine Zs 3 fun a w O U=>?_;have O:=O.d [0];have O:=O.eb;have O:=O.q [1,1];refine Zd 0 [1,0,1,1,0,1,1,0,3] fun w O=>?_;refine Zg 3 (b_ hR.aK aY) fun a U=>?_;refine Zh 1 hR.aK aY fun a U=>?_;refine Zv 2 fun a U=>?_;refine Yc 0 (q9 [44] y.h.v (qq call90 (fun d hd=>fun hA hR hN=>FU d hA trivial hN)) (St.gT O) (hR0.aK.eU O) (fun d hd=>(hR0.bK d hd).eU O) (by simp only[bt,bg,bp] at n1 ⊢;omega)) fun v3r o3 e3 n3 a w O U=>?_;refine Zr 0 ?_;exact⟨v3r,o3,by rw[e3,cZ,e1];simp only[cC,ck,cD,bf,bX];rfl,by rw[n3];simp only[bt,bg,bp] at n1 ⊢;omega,O.kp⟩
 have hX:nI x=TQ x:=by
  unfold nI TQ fh;rw[if_neg aF,if_neg (by rw[W.a8];exact bm),if_neg (by rw[W.a8];exact db),if_neg (by rw[W.a8];exact eA),if_neg (by rw[W.a8];exact ic)]
 rw[hX] at hN ⊢;refine Yc 2 (ih.eqn x hx (pe bm db eA ic) (St.aI O) (hR.df O) (aO hN)) fun v1r o1 e1 n1 a w O U=>?_;refine Zr 0 ?_;exact⟨v1r,o1,c_ e1,aO n1,O.kp⟩
def Ri (w:List UInt8):∀l:List (List TP),(∀a∈l,a≠[])→nz w (l.map (bq aq w))=nz w (l.flatten.map Prod.fst)
 | [],_=>rfl
 |a::l,h=>by
  have ha:a.map Prod.fst≠[]:=fun e=>h a jL (List.map_eq_nil_iff.1 e);rw[bf,List.flatten_cons,cZ,HM,nz,Ri w l (fun x hx=>h x (lz _ hx)),U_ w ha,l_,ck]
def agr (w:List UInt8)(l:List (List TP))(h:∀a∈l,a≠[]):jT w (l.map (bq aq w))=bq aq w l.flatten:=by
 rw[l_]
 cases l with
 |nil=>rfl
 |cons a l=>
  have ha:=h a jL;rw[bf,List.flatten_cons,cZ,jT,Ri w l (fun x hx=>h x (lz _ hx)),l_]
  cases a with
  |nil=>exact absurd rfl ha
  |cons p q=>rw[bf,ck,jT,jT,HM,cC]
def aau {n:X}(h:fE aU n=true):fh aq aA n≠[]:=by
 unfold fh;unfold fE at h
 by_cases h5:n.kind=5
 ·rw[if_pos h5];exact List.cons_ne_nil _ _
 by_cases h8:n.kind=8
 ·rw[if_neg h5,if_pos h8];exact List.cons_ne_nil _ _
 by_cases h10:n.kind=10
 ·rw[if_neg h5,if_neg h8,if_pos h10];exact List.cons_ne_nil _ _
 by_cases h12:n.kind=12
 ·rw[if_neg h5,if_neg h8,if_neg h10,if_pos h12];exact List.cons_ne_nil _ _
 rw[if_neg h5,if_neg h8,if_neg h10,if_neg h12] at h ⊢;exact OG h
def Qs {n:X}(h:fE aU n=true):n.kind≠3:=fun h3=>by
 unfold fE at h;rw[if_neg (by rw[h3];decide),if_neg (by rw[h3];decide),if_neg (by rw[h3];decide),if_neg (by rw[h3];decide)] at h;have hV:=wJ h;clear h;cases hV<;>simp [ag,X.kind] at h3
def Qn:∀l:List X,iE aq aA l=(l.map (fh aq aA)).flatten
 | []=>rfl
 |d::l=>by rw[iE,Qn l];rfl
def aid {n:X}(h:qD aU n=true):∃a b c,n.ae=[a,b,c]∧(∀d∈b.ae,oB aU d=true)∧∀d∈c.ae,fE aU d=true:=by
 unfold qD at h;rw[aQ] at h
 match hl:n.ae,h.2 with
 | [a,b,c],h=>
  simp only[aQ] at h;exact⟨a,b,c,rfl,wO h.1.1.2,wO h.1.2⟩
def Iz (x u:W)(l:List W):List Tk:=kw aq [109,111,100,117,108,101]::(bF aq aA x.name++(rl aq aA u.er++(kw aq [119,104,101,114,101]::kw aq [123]::(jT [59] (l.map nI)++[kw aq [125]]))))
def aa4 {x u y z:W}(hs:x.ae=[u,y,z])(hb:∀d∈y.ae,oB aU d.er=true)(hc:∀d∈z.ae,fE aU d.er=true):uu aq aA x.er=Iz x u (y.ae++z.ae)++[⟨9,[],0⟩]:=by
 have aY:x.ae[0]?=some u:=by rw[hs];rfl
 have bC:x.ae[1]?=some y:=by rw[hs];rfl
 have kP:x.ae[2]?=some z:=by rw[hs];rfl
 have hj:jT [59] ((y.ae++z.ae).map nI)=bq aq cn (y.er.ae.map (ql aq aA)++iE aq aA z.er.ae):=by
  have e:(y.ae++z.ae).map nI=(y.ae.map (fun d=>[ql aq aA d.er])++z.ae.map fun d=>fh aq aA d.er).map (bq aq cn):=by
   rw[cZ,cZ,List.map_map,List.map_map]
   congr 1
   ·refine List.map_congr_left fun d hd=>?_;have hk:=(JY (hb d hd)).1;rw[W.a8] at hk;unfold nI;rw[if_pos hk];exact (cB _).symm
   ·refine List.map_congr_left fun d hd=>?_;have hk:=Qs (hc d hd);rw[W.a8] at hk;unfold nI;rw[if_neg hk];rfl
  rw[e];refine (agr cn _ fun a ha=>?_).trans ?_
  ·rcases List.mem_append.1 ha with ha|ha
   ·obtain⟨d,hd,rfl⟩:=List.mem_map.1 ha;exact List.cons_ne_nil _ _
   ·obtain⟨d,hd,rfl⟩:=List.mem_map.1 ha;exact aau (hc d hd)
  ·rw[Qn,W.cq,W.cq,List.flatten_append,List.map_map,List.map_map]
   congr 2
   generalize y.ae=l
   induction l with
   |nil=>rfl
   |cons d l ih=>rw[bf,bf,List.flatten_cons,ih];rfl
 unfold uu Iz;rw[hj,q_ aY,q_ bC,q_ kP,W.cf];simp only[cC,ck,cD]
 rfl
def adD (x:W)(hz:aL x.er≤100000000000){u y z:W}(hs:x.ae=[u,y,z])(hb:∀d∈y.ae,oB aU d.er=true)(hc:∀d∈z.ae,fE aU d.er=true):SP 9 [.agg (av.cells x).toArray] (Iz x u (y.ae++z.ae)) (gx x):=by
 intro bs vo out Z hA hR hN;have O:=St.init hA;have aY:x.ae[0]?=some u:=by rw[hs];rfl
 have bC:x.ae[1]?=some y:=by rw[hs];rfl
 have kP:x.ae[2]?=some z:=by rw[hs];rfl
 have oU:=dO bC;have HZ:=dO kP;have hR0:=hR.bK u (bV aY);have hR1:=hR.bK y (bV bC);have hR2:=hR.bK z (bV kP);have lN:=Gf y.ae;have jf:=Gf z.ae;have OT:=lK y.er;have Ca:=lK z.er;rw[W.cq] at OT Ca;have a_:aL y.er+aL z.er≤aL x.er:=by
  rw[lK x.er,W.cq,hs];simp only[bf,bX,bR];omega
 unfold Iz at hN ⊢;refine aS func9 ntmps9 fun a U=>?_;refine Xb 1 [1,1] fun v1 a w O U=>?_;refine Yz 2 hN fun b v1r o1 e1 n1 a w O U=>?_;refine Yc 3 (jd x.name (St.aI O) trivial (aO (ak n1 hN))) fun v2r o2 e2 n2 a w O U=>?_;refine Zg 3 (b_ hR.aK aY) fun a U=>?_;refine Zh 0 hR.aK aY fun a U=>?_;refine Yc 0 (U6 u (St.aI O) (hR0.df O) (aO (ak n1 (ak n2 hN)))) fun v3r o3 e3 n3 a w O U=>?_;refine Yz 2 (ak n1 (ak n2 (ak n3 hN))) fun b v4r o4 e4 n4 a w O U=>?_;refine Zv 1 fun a U=>?_;have O:=O.kN 28;refine Zv 1 fun a U=>?_;refine Zg 2 (b_ hR.aK bC) fun a U=>?_;refine Zh 1 hR.aK bC fun a U=>?_;refine eP U (iJ (bytes:=72) (r:=y.ae) O (i:=0) rfl (aG.now hR1.aK O) underlying26 ET rfl rfl rfl rfl rfl rfl (U.af rfl) (U.af rfl) (by simp only[bt,bp];omega) (by simp only[bt,bp];omega)) ?_;rintro a va1 w O U;have O:=O.nm;refine Zv 1 fun a U=>?_;refine Zv 1 fun a U=>?_;refine Zg 2 (b_ hR.aK kP) fun a U=>?_;refine Zh 1 hR.aK kP fun a U=>?_;refine eP U (iJ (bytes:=72) (r:=z.ae) O (i:=0) rfl (aG.now hR2.aK O) underlying26 ET rfl rfl rfl rfl rfl rfl (U.af rfl) (U.af rfl) (by simp only[bt,bp];omega) (by simp only[bt,bp];omega)) ?_;rintro a va2 w O U;have O:=O.nm;refine Zv 1 fun a U=>?_;refine Zv 4 fun a U=>?_;have O:=O.q [1,1];have O:=O.eb;have O:=O.q [1,1];refine Yc 0 (vM va2 (qq call28 (fun d hd=>adn (Bg (aL d.er)) d (bQ _) (by rcases List.mem_append.1 hd with hd|hd<;>(have:=kA hd;omega)) ((List.mem_append.1 hd).elim (fun hd=>.inl (hb d hd)) fun hd=>.inr ⟨hc d hd,Qs (hc d hd)⟩))) (St.gT O) (O.Gk 0 rfl) (fun d hd=>(List.mem_append.1 hd).elim (fun hd=>(hR1.bK d hd).eU O) fun hd=>(hR2.bK d hd).eU O) (aO (ak n1 (ak n2 (ak n3 (ak n4 hN)))))) fun v5r o5 e5 n5 a w O U=>?_;refine Zr 0 ?_;exact⟨v5r,o5,c_ (ak e5 (ak e4 (ak e3 (ak e2 e1)))),aO (ak n5 (ak n4 (ak n3 (ak n2 n1)))),O.kp⟩
set_option maxHeartbeats 2000000
def Qe:∀(m:Nat) (x y:W) (Z:World),aL x.er≤m→x.er=y.er→bS Z [] x→bS Z [] y→aH prog 11 #[.agg (av.cells x).toArray,.agg (av.cells y).toArray] Z (fun v w'=>v=.bool true∧St Z [] w' [])
 |0,x,_,_,hm,_,_,_=>by have:=dx x.er;omega
 |m+1,x,y,Z,hm,he,hR,hR'=>by
  have hk:x.kind=y.kind:=by rw[←W.a8,←W.a8,he]
  have hs:x.name=y.name:=by rw[←W.cf,←W.cf,he]
  have hn:x.n=y.n:=by rw[←W.cO,←W.cO,he]
  have hb:x.ae.map W.er=y.ae.map W.er:=by rw[←W.cq,←W.cq,he]
  have hl:x.ae.length=y.ae.length:=by have:=congrArg List.length hb;rwa [dW,dW] at this
  have hll:=aG.gi hR.aK;have O:=St.bL Z;refine aS func11 ntmps11 fun a U=>?_;refine Zb 1 fun v1 a w O U=>?_;refine Zb 1 fun v2 a w O U=>?_;refine Zw 23 fun a U=>?_;refine cG U rfl rfl rfl rfl rfl rfl (fun hg=>rU hR.aK underlying26 rfl ((U.af rfl).trans (a6 hg))) fun a U=>?_;refine Zw 2 fun a U=>?_;refine cG U rfl rfl rfl rfl rfl rfl (fun hg=>rU hR'.aK underlying26 rfl ((U.af rfl).trans (a6 hg))) fun a U=>?_;refine Zw 2 fun a U=>?_;refine Zi 0 (fun ao=>?_) fun ao=>?_
  ·exact absurd ao (by simp [hk,hs,hn,hl])
  refine Zv 1 fun a U=>?_;refine cl (fun (i:Nat) a w'=>i≤x.ae.length∧St Z [] w' [.ob v2 28 (av.cells y),.ob v1 28 (av.cells x)]∧Fr a 53 [(2,ptr (aa v1)),(3,ptr (aa v2)),(5,i64 i)]) (fun (i:Nat)=>x.ae.length - i) 0 ⟨dN _,O,U.su⟩ ?_;rintro i a w ⟨hi,O,U⟩;refine Zg 3 (bA hR.aK) fun a U=>?_;refine Zi 1 (fun a U ay=>?_) fun a U ay=>?_
  ·obtain⟨u,hu⟩:=dM (l:=x.ae) (i:=i) V;obtain⟨q,hq⟩:=dM (l:=y.ae) (i:=i) V;have hz:=dO hu;have e:u.er=q.er:=by
    have h:=congrArg (fun l:List X=>l[i]?) hb;simp only[List.getElem?_map,hu,hq,Option.map_some,Option.some.injEq] at h;exact h
   refine Zd 0 [0,1,0,1,1,0,1,0,1,1,3,0] fun w O=>?_;refine Zg 3 (b_ hR.aK hu) fun a U=>?_;refine Zh 0 hR.aK hu fun a U=>?_;refine Zg 3 (b_ hR'.aK hq) fun a U=>?_;refine Zh 0 hR'.aK hq fun a U=>?_;refine Yc 0 (Qe m u q _ V e ((hR.bK u (bV hu)).ba O) ((hR'.bK q (bV hq)).ba O)) fun a w O U=>?_;refine jY U (fun w=>kT rfl (U.af rfl) (eN _)) fun a U=>?_;refine Zi 0 (fun aF=>absurd rfl aF) fun aF=>?_;refine Zv 3 fun a U=>?_;exact⟨i+1,⟨V,O,U.su⟩,V⟩
  ·refine Zr 1 ?_;exact⟨rfl,O.kp⟩
def alD:j9 aU aA:=by
 intro s k h1 h4 h;have e5:([ji,lD,gY,dC,gM].all fun s=>[(1:Int),2,3,4].all fun k=>!aU s k)=true:=by kernel_rfl
 have hk:k∈[(1:Int),2,3,4]:=by
  have:k=1∨k=2∨k=3∨k=4:=V
  rcases this with rfl|rfl|rfl|rfl<;>simp
 have no:∀s'∈[ji,lD,gY,dC,gM],s≠s':=fun s' hs e=>by
  have:=List.all_eq_true.1 (List.all_eq_true.1 e5 s' hs) k hk;rw[←e,h] at this;cases this
 refine⟨?_,?_⟩
 ·have h:(match fR s with| (l,d)=>decide ((((d.number=0∧l.length=2)∧(l.getD 0 qE).text=s)∧(l.getD 1 qE).bh=s.length+1)∧(l.getD 0 qE).kind=k))=true:=h;unfold aA
  cases hr:fR s with
  |mk l d=>
   rw[hr] at h;have h:=j4 h
   cases l with
   |nil=>exact absurd h.1.1.1.2 aw
   |cons t l=>exact h.2
 ·unfold kE;rw[if_neg (no _ aw),if_neg (no _ aw),if_neg (no _ aw),if_neg (no _ aw),if_neg (no _ aw)]
def l2:List TP→Nat
 | []=>0
 |p::l=>p.1.length+2+l2 l
def HU:∀a b:List TP,l2 (a++b)=l2 a+l2 b
 | [],b=>by simp [l2]
 |p::a,b=>by rw[ck,l2,l2,HU a b];omega
def Qy (w:List UInt8):∀l:List TP,(ju aq w l).length≤l2 l
 | []=>bQ _
 |p::l=>by have:=Qy w l;simp only[ju,l2,bg,bt];omega
def mT (w:List UInt8)(l:List TP):(bq aq w l).length≤l2 l:=by
 cases l with
 |nil=>exact bQ _
 |cons p l=>have:=Qy w l;simp only[bq,l2,bt];omega
def F7:∀l:List TP,(fy l).length≤l2 l
 | []=>bQ _
 |p::l=>by have:=F7 l;simp only[fy,l2,bt];omega
def Vo:∀(l:List TP) (w:List UInt8),(mO aq w l).length≤l2 l
 | [],_=>bQ _
 |p::l,_=>by have:=Vo l mW;simp only[mO,l2,bg,bt];omega
def tI (l:List Tk):(cY aq l).length=l.length+2:=by simp [cY]
def EZ:∀l:List TP,(ie aq l).length≤l2 l
 | []=>bQ _
 |p::l=>by have:=EZ l;simp only[ie,l2,bt,tI];omega
def oz (s:List UInt8):(bF aq aA s).length≤4:=by
 unfold bF
 repeat' split
 all_goals simp
def GA (o:X):(mx aq aA o).length≤3:=by
 unfold mx Gl
 repeat' split
 all_goals simp
def ft:aJ []=0:=rfl
def uI {f:X→TP}:∀l:List X,(∀a∈l,(f a).1.length≤20 * aL a+15)→l2 (l.map f)≤20 * aJ l
 | [],_=>dN _
 |a::l,h=>by
  have h1:=h a jL;have:=uI l fun x hx=>h x (lz _ hx);rw[bf,l2,bR];omega
def Vy {f:X→TP}:∀l:List X,(∀a∈l,aL (f a).2≤4 * aL a)→aJ (aD (l.map f))+3 * l.length≤4 * aJ l
 | [],_=>bQ _
 |a::l,h=>by
  have h1:=h a jL;have h2:=Vy l fun x hx=>h x (lz _ hx);rw[bf,aD,bf,bR,bR,bg];unfold aD at h2;omega
def Bz {f:X→TP}(l:List X)(h:∀a∈l,(f a).1.length≤20 * aL a+15∧aL (f a).2≤4 * aL a):l2 (l.map f)≤20 * aJ l∧aJ (aD (l.map f))+3 * l.length≤4 * aJ l:=⟨uI l fun a ha=>(h a ha).1,Vy l fun a ha=>(h a ha).2⟩
def KH:∀(l:List X) (a:X),aL (l.foldl (fun n x=>ag 22 [] [n,x]) a)≤aL a+aJ l+2 * l.length
 | [],a=>Nat.le_add_right _ _
 |x::l,a=>by
  have:=KH l (ag 22 [] [a,x]);rw[bU,bR,bR,show aJ []=0 from rfl] at this;rw[List.foldl_cons,bR,bg];omega
def RR (a:X)(l:List X):aL (fg (a::l))≤aL a+aJ l+2 * l.length:=KH l a
def aps (l:List X):aL (fg l)≤1+aJ l+2 * l.length:=by
 cases l with
 |nil=>exact bQ _
 |cons a l=>have:=KH l a;rw[bR,bg];show aL (l.foldl _ a)≤_;omega
def Zp {f:X→TP}(l:List X):(aD (l.map f)).length=l.length:=by rw[aD,dW,dW]
structure TL (m:Nat):Prop where
 e:∀n,aL n≤m→(au aq aA n).1.length+3≤20 * aL n∧aL (au aq aA n).2≤4 * aL n
 f:∀n,aL n≤m→(jn aq aA n).1.length≤20 * aL n∧aL (jn aq aA n).2≤4 * aL n
 a:∀n,aL n≤m→(jS aq aA n).1.length≤20 * aL n∧aL (jS aq aA n).2≤4 * aL n
 r:∀w n,aL n≤m→(eS aq aA w n).1.length≤20 * aL n∧aL (eS aq aA w n).2≤4 * aL n
 g:∀w n,aL n≤m→(mj aq aA w n).1.length≤20 * aL n∧aL (mj aq aA w n).2≤4 * aL n
 q:∀n,aL n≤m→l2 (e_ aq aA n)≤20 * aL n∧aJ (aD (e_ aq aA n))≤4 * aL n
 c:∀s n,aL n≤m→(jF aq aA s n).1.length≤20 * aL n∧aL (jF aq aA s n).2≤4 * aL n
def afI (w:List UInt8)(l:List X):f_ aq aA w l=l.map (mj aq aA w):=by
 induction l with
 |nil=>rw[f_];rfl
 |cons a l ih=>rw[f_,ih];rfl
section
variable {m:Nat} (ih:TL m)
include ih
def TL.lL (l:List X)(h:aJ l≤m+1):l2 (bI aq aA l)≤20 * aJ l∧aJ (aD (bI aq aA l))+3 * l.length≤4 * aJ l:=by
 rw[FH];exact Bz l fun a ha=>by have:=sA ha;have:=ih.e a V;omega
def TL.lF (l:List X)(h:aJ l≤m+1):l2 (fH aq aA l)≤20 * aJ l∧aJ (aD (fH aq aA l))+3 * l.length≤4 * aJ l:=by
 rw[Rn];exact Bz l fun a ha=>by have:=sA ha;have:=ih.f a V;omega
def TL.lA (l:List X)(h:aJ l≤m+1):l2 (kY aq aA l)≤20 * aJ l∧aJ (aD (kY aq aA l))+3 * l.length≤4 * aJ l:=by
 rw[T2];exact Bz l fun a ha=>by have:=sA ha;have:=ih.a a V;omega
def TL.lS (l:List X)(h:aJ l≤m+1):l2 (kU aq aA l)≤20 * aJ l∧aJ (aD (kU aq aA l))+3 * l.length≤4 * aJ l:=by
 rw[SU];exact Bz l fun a ha=>by have:=sA ha;have:=ih.e a V;split<;>(try simp only[tI])<;>(try dsimp only)<;>omega
def TL.lG (w:List UInt8)(l:List X)(h:aJ l≤m+1):l2 (f_ aq aA w l)≤20 * aJ l∧aJ (aD (f_ aq aA w l))+3 * l.length≤4 * aJ l:=by
 rw[afI];exact Bz l fun a ha=>by have:=sA ha;have:=ih.g w a V;omega
def TL.lC (s:List UInt8)(l:List X)(h:aJ l≤m+1):l2 (fQ aq aA s l)≤20 * aJ l∧aJ (aD (fQ aq aA s l))+3 * l.length≤4 * aJ l:=by
 rw[Yj];exact Bz l fun a ha=>by have:=sA ha;have:=ih.c s a V;omega
def TL.lQ:∀l:List X,aJ l≤m+1→l2 (cU aq aA l)≤20 * aJ l∧aJ (aD (cU aq aA l))≤4 * aJ l
 | [],_=>by rw[cU];exact⟨dN _,dN _⟩
 |a::l,h=>by
  rw[bR] at h ⊢;have:=ih.q a V;have:=TL.lQ l V;rw[cU,HU,aD,cZ,z6];unfold aD at *;omega
def TL.lO:∀(k:Nat) (l:List X),l.length≤k→aJ l≤m+1→(kQ (eY aq aA l)).length≤20 * aJ l∧aJ (fU (eY aq aA l))≤4 * aJ l
 |_,[],_,_=>by rw[eY];exact⟨dN _,dN _⟩
 |_,[o],_,_=>by rw[eY];exact⟨dN _,dN _⟩
 |k+1,o::a::l,hk,h=>by
  rw[bR,bR] at h ⊢;have:=dx o;have:=ih.e a V;have:=GA o;have:=TL.lO k l (by simp only[bg] at hk;omega) V;rw[eY];simp only[kQ,fU,bt,tI,bR];omega
def TL.e1 (n:X)(h:aL n≤m+1):(au aq aA n).1.length+3≤20 * aL n∧aL (au aq aA n).2≤4 * aL n:=by
 obtain⟨k,s,z,l⟩:=n;have hn:=oz s;rw[eo] at h ⊢;rw[au.eq_def];dsimp only;have hl:aJ l≤m+1:=V
 have b1:=EZ (bI aq aA l);have b2:=mT bD (bI aq aA l);have b3:=mT bD (fH aq aA l);have b4:=mT cn (kU aq aA l);have c1:=TL.lL ih l hl;have c2:=TL.lF ih l hl;have c3:=TL.lS ih l hl;have a2:=aps (aD (bI aq aA l));have a1:=RR (ag 19 s []) (aD (bI aq aA l));have al:(aD (bI aq aA l)).length=l.length:=by rw[FH];exact Zp l
 rw[al] at a1 a2;rw[bU,ft] at a1
 repeat' (refine iteInduction (motive:=fun x:TP=>x.1.length+3≤20 * (1+aJ l)∧aL x.2≤4 * (1+aJ l)) (fun _=>?_) fun _=>?_)
 all_goals try (simp only[bg,bt,bp,bU,eo,dz,bR,ft,eZ];omega)
 ·cases l with
  |nil=>simp only[bp,bU,eo,dz,bR,ft,eZ];omega
  |cons a l=>
   rw[bR] at h hl ⊢;have:=ih.e a V;have:=TL.lO ih l.length l (bQ _) V;simp only[bt,tI,bU,eo,dz,bR,ft,eZ];omega
 ·cases l with
  |nil=>simp only[bp,bU,eo,dz,bR,ft,eZ];omega
  |cons a l=>
   rw[bR] at h hl ⊢;have:=ih.e a V;have:=TL.lF ih l V;have:=mT bD (fH aq aA l);simp only[bg,bt,bp,bU,eo,dz,bR,ft,eZ];omega
 ·match l with
  | []=>simp only[bp,bU,eo,dz,bR,ft,eZ];omega
  | [_]=>simp only[bp,bU,eo,dz,bR,ft,eZ];omega
  |a::o::l=>
   rw[bR,bR] at h hl ⊢;have:=ih.e a V;have:=GA o;simp only[bg,bt,bp,tI,bU,eo,dz,bR,ft,eZ];omega
 ·match l with
  | []=>simp only[bp,bU,eo,dz,bR,ft,eZ];omega
  | [_]=>simp only[bp,bU,eo,dz,bR,ft,eZ];omega
  |o::a::l=>
   rw[bR,bR] at h hl ⊢;have:=ih.e a V;have:=GA o;simp only[bg,bt,bp,tI,bU,eo,dz,bR,ft,eZ];omega
 ·match l with
  | []=>simp only[bp,bU,eo,dz,bR,ft,eZ];omega
  | [_]=>simp only[bp,bU,eo,dz,bR,ft,eZ];omega
  | .mk _ _ _ ps::e::l=>
   rw[bR,bR,eo] at h hl ⊢;have:=ih.e e V;have:=TL.lL ih ps V;have:=EZ (bI aq aA ps);simp only[bg,bt,bp,bU,eo,dz,bR,ft,eZ];omega
 ·match l with
  | []=>simp only[bp,bU,eo,dz,bR,ft,eZ];omega
  | [_]=>simp only[bp,bU,eo,dz,bR,ft,eZ];omega
  | .mk _ _ _ ps::e::l=>
   rw[bR,bR,eo] at h hl ⊢;have:=ih.e e V;have:=TL.lQ ih ps V;have:=mT cn (cU aq aA ps);simp only[bg,bt,bp,bU,eo,dz,bR,ft,eZ];omega
 ·match l with
  | []=>simp only[bp,bU,eo,dz,bR,ft,eZ];omega
  | [_]=>simp only[bp,bU,eo,dz,bR,ft,eZ];omega
  | [_,_]=>simp only[bp,bU,eo,dz,bR,ft,eZ];omega
  |a::b::c::l=>
   rw[bR,bR,bR] at h hl ⊢;have:=ih.e a V;have:=ih.e b V;have:=ih.e c V;simp only[bg,bt,bp,bU,eo,dz,bR,ft,eZ];omega
 ·cases l with
  |nil=>simp only[bp,bU,eo,dz,bR,ft,eZ];omega
  |cons a l=>
   rw[bR] at h hl ⊢;have:=ih.e a V;have:=TL.lA ih l V;have:=mT cn (kY aq aA l);simp only[bg,bt,bp,bU,eo,dz,bR,ft,eZ];omega
 ·match l with
  | []=>simp only[bp,bU,eo,dz,bR,ft,eZ];omega
  | [_]=>simp only[bp,bU,eo,dz,bR,ft,eZ];omega
  |a::e::l=>
   rw[bR,bR] at h hl ⊢;have:=ih.e a V;have:=ih.e e V;simp only[bg,bt,bp,tI,bU,eo,dz,bR,ft,eZ];omega
 ·match l with
  | []=>simp only[bp,bU,eo,dz,bR,ft,eZ];omega
  | .mk _ _ _ ps::l=>
   rw[bR,eo] at h hl ⊢;have:=TL.lQ ih ps V;have:=mT cn (cU aq aA ps);simp only[bg,bt,bp,bU,eo,dz,bR,ft,eZ];omega
def TL.r1 (w:List UInt8)(n:X)(h:aL n≤m+1):(eS aq aA w n).1.length≤20 * aL n∧aL (eS aq aA w n).2≤4 * aL n:=by
 obtain⟨k,s,z,l⟩:=n;rw[eo] at h ⊢;rw[eS.eq_def]
 match l with
 | []=>(constructor<;>simp only[eZ,bp]<;>omega)
 | [.mk _ _ _ _]=>(constructor<;>simp only[eZ,bp]<;>omega)
 | .mk _ _ _ gs::.mk _ _ _ qs::l=>
  rw[bR,bR,eo,eo] at h ⊢;have:=TL.lG ih w gs V;have:=TL.lQ ih qs V;have:=F7 (f_ aq aA w gs);have:=mT cn (cU aq aA qs);simp only[bg,bt,bp,bU,eo,dz,bR,ft,eZ];omega
def TL.step:TL (m+1) where
 e:=TL.e1 ih
 r:=TL.r1 ih
 f n h:=by
  obtain⟨k,s,z,l⟩:=n;have hn:=oz s;rw[eo] at h ⊢;rw[jn.eq_def]
  match l with
  | []=>(constructor<;>simp only[eZ,bp]<;>omega)
  |e::l=>
   rw[bR] at h ⊢;have:=ih.e e V;simp only[bg,bt,bU,eo,dz,bR,ft,eZ];omega
 a n h:=by
  obtain⟨k,s,z,l⟩:=n;rw[eo] at h ⊢;rw[jS.eq_def]
  match l with
  | []=>(constructor<;>simp only[eZ,bp]<;>omega)
  | [_]=>(constructor<;>simp only[eZ,bp]<;>omega)
  |p::r::l=>
   rw[bR,bR] at h ⊢;have:=ih.e p V;have:=ih.r dC r V;simp only[bt,tI,bU,eo,dz,bR,ft,eZ];omega
 g w n h:=by
  obtain⟨k,s,z,l⟩:=n;rw[eo] at h ⊢;rw[mj.eq_def]
  match l with
  | []=>(constructor<;>simp only[eZ,bp]<;>omega)
  | [_]=>(constructor<;>simp only[eZ,bp]<;>omega)
  |c::e::l=>
   rw[bR,bR] at h ⊢;have:=ih.e c V;have:=ih.e e V;dsimp only
   split<;>simp only[bg,bt,bU,eo,dz,bR,ft,eZ]<;>omega
 q n h:=by
  obtain⟨k,s,z,l⟩:=n;rw[eo] at h ⊢;rw[e_.eq_def];dsimp only
  split
  ·match l with
   | []=>exact⟨dN _,dN _⟩
   | [_]=>exact⟨dN _,dN _⟩
   |p::r::l=>
    rw[bR,bR] at h ⊢;have:=ih.e p V;have:=ih.r eQ r V;simp only[aD,bf,bX,l2,bt,tI,bU,eo,dz,bR,ft,eZ];omega
  ·have:=TL.lC ih s l V;omega
 c s n h:=by
  obtain⟨k,s',z,l⟩:=n;have hn:=oz s;rw[eo] at h ⊢;rw[jF.eq_def]
  match l with
  | []=>(constructor<;>simp only[eZ,bp]<;>omega)
  | [.mk _ _ _ _]=>(constructor<;>simp only[eZ,bp]<;>omega)
  | .mk _ _ _ ps::r::l=>
   rw[bR,bR,eo] at h ⊢;have:=TL.lL ih ps V;have:=EZ (bI aq aA ps);have:=ih.r eQ r V;have a1:=RR (ag 18 s []) (aD (bI aq aA ps));have al:(aD (bI aq aA ps)).length=ps.length:=by rw[FH];exact Zp ps
   rw[al,bU,ft] at a1;simp only[bt,bU,eo,dz,bR,ft,eZ];omega
end
def Dz:∀m:Nat,TL m
 |0=>⟨fun n h=>by have:=dx n;omega,fun n h=>by have:=dx n;omega,fun n h=>by have:=dx n;omega,fun _ n h=>by have:=dx n;omega,fun _ n h=>by have:=dx n;omega,fun n h=>by have:=dx n;omega,fun _ n h=>by have:=dx n;omega⟩
 |m+1=>TL.step (Dz m)
def qB (n:X)(i:Nat):aL (sub n i)≤aL n∧aJ (sub n i).ae<aL n+1:=by
 have h:aL (sub n i)≤aL n:=by
  unfold sub;rw[List.getD_eq_getElem?_getD]
  cases h:n.ae[i]? with
  |none=>exact dx n
  |some a=>have:=sA (bV h);have:=lK n;show aL a≤_;omega
 have:=lK (sub n i);exact⟨h,V⟩
def GO:∀(m:Nat) (n:X),aL n≤m→(gZ aq aA n).length+4≤8 * aL n
 |0,n,h=>by have:=dx n;omega
 |m+1,.mk k s z l,h=>by
  have hn:=oz s;rw[eo] at h ⊢;rw[gZ.eq_def];dsimp only
  split
  ·match l with
   | []=>simp only[bp];omega
   | [_]=>simp only[bp];omega
   |a::b::l=>
    rw[bR,bR] at h ⊢;have:=GO m a V;have:=GO m b V;simp only[bt,tI];omega
  ·omega
def ZM:∀(m:Nat) (n:X) (vs:List X),aL n≤m→(spine n vs).2.length≤vs.length+aL n
 |0,n,_,h=>by have:=dx n;omega
 |m+1,.mk k s z l,vs,h=>by
  rw[eo] at h ⊢;rw[spine.eq_def];dsimp only
  split
  ·match l with
   | []=>simp only;omega
   | [_]=>simp only;omega
   |a::b::l=>
    rw[bR,bR] at h ⊢;have:=ZM m a (b::vs) V;rw[List.length_cons] at this;dsimp only;omega
  ·simp only;omega
def HT:∀l:List X,l2 (l.map (jM aq aA))≤6 * l.length
 | []=>bQ _
 |a::l=>by
  have:=HT l;have:(jM aq aA a).1.length≤4:=oz a.name;rw[bf,l2,bg];omega
def acU (n:X):(rA aq aA n).length≤10+6 * aL n:=by
 have h:=ZM _ n [] (Nat.le_refl _);have h1:=HT (spine n []).2;have h2:=mT bD ((spine n []).2.map (jM aq aA));have h3:=mT dC ((spine n []).2.map (jM aq aA));have h4:=F7 ((spine n []).2.map (jM aq aA));have h5:=oz (spine n []).1.name;have h6:=oz ((spine n []).2.getD 0 cc).name;rw[List.length_nil] at h;unfold rA;dsimp only
 repeat' split
 all_goals (try simp only[bg,bt,bp])<;>omega
def XW (n:X):(uU aq aA n).length≤5+8 * aL n:=by
 have:=oz n.name;have:=GO _ (sub n 0) (bQ _);have:=(qB n 0).1;unfold uU;simp only[bg,bt];omega
def ahT (n:X):(rm aq aA n).length≤6+20 * aL n:=by
 have:=oz n.name;have h0:=(qB n 0).2;have h1:=uI (f:=nF aq aA) (sub n 0).ae fun a _=>by have:(nF aq aA a).1.length≤_:=XW a;omega
 have h2:=uI (f:=xQ aq aA) (sub n 0).ae fun a _=>by have:(xQ aq aA a).1.length+4≤_:=GO _ a (bQ _);omega
 have h3:=mT bD ((sub n 0).ae.map (nF aq aA));have h4:=EZ ((sub n 0).ae.map (xQ aq aA));unfold rm;dsimp only
 split<;>simp only[bg,bt,bp]<;>omega
def ZC (n:X):(rl aq aA n).length≤2+6 * aL n:=by
 have h0:=lK n;have h1:=AG n.ae;have h2:=HT n.ae;have h3:=mT bD (n.ae.map (jM aq aA));unfold rl
 split<;>simp only[bg,bt,bp]<;>omega
def apP (n:X):(ql aq aA n).1.length≤7+6 * aL n:=by
 have:=oz n.name;have:=ZC (sub n 0);have:=(qB n 0).1;unfold ql;simp only[bg,bt];omega
def afn (n:X):l2 (fh aq aA n)≤80 * aL n:=by
 have hp:=dx n;have hn:=oz n.name;have hv:=oz (sub n 0).name;have h0:=qB n 0;have h1:=qB n 1;have h2:=qB n 2;have l0:=AG (sub n 0).ae;have a1:=HT (sub n 0).ae;have a2:=F7 ((sub n 0).ae.map (jM aq aA));have b1:=uI (f:=oh aq aA) (sub n 1).ae fun a _=>by have:(oh aq aA a).1.length≤_:=ahT a;omega
 have b2:=Vo ((sub n 1).ae.map (oh aq aA)) eQ;have c1:=uI (f:=nF aq aA) (sub n 1).ae fun a _=>by have:(nF aq aA a).1.length≤_:=XW a;omega
 have c2:=mT cn ((sub n 1).ae.map (nF aq aA));have d1:=uI (f:=ns aq aA) (sub n 0).ae fun a _=>by
  have:=oz a.name;have:=oz (sub a 0).name;have:=dx a;unfold ns;simp only[bt];omega
 have d2:=mT bD ((sub n 0).ae.map (ns aq aA));have e1:=uI (f:=xf aq aA) (sub n 0).ae fun a _=>by have:(xf aq aA a).1.length≤_:=GA a;omega
 have e2:=mT bD ((sub n 0).ae.map (xf aq aA));have f1:=TL.lQ (Dz (aJ (sub n 2).ae)) (sub n 2).ae V;have f2:=mT cn (cU aq aA (sub n 2).ae);have g1:=acU (sub n 1);have g2:=(Dz (aL n)).q n (bQ _);unfold fh
 repeat' split
 all_goals first|omega| (simp only[l2,bg,bt,bp];omega)
def Ww:∀l:List X,l2 (iE aq aA l)≤80 * aJ l
 | []=>dN _
 |a::l=>by
  have:=Ww l;have:=afn a;rw[iE,HU,bR];omega
def anY (n:X):aJ (aD (fh aq aA n))≤12 * aL n:=by
 have hp:=dx n;have h0:=(qB n 0).1;have h1:=(qB n 1).1;have h2:=qB n 2;have f1:=TL.lQ (Dz (aJ (sub n 2).ae)) (sub n 2).ae V;have g2:=(Dz (aL n)).q n (bQ _);unfold fh
 repeat' split
 all_goals first|omega| (simp only[aD,bf,bX,bU,dz,bR,ft] at f1 ⊢;omega)
def V4:∀l:List X,aJ (aD (iE aq aA l))≤12 * aJ l
 | []=>dN _
 |a::l=>by
  have h1:=V4 l;have h2:=anY a;unfold aD at h1 h2;rw[iE,aD,cZ,z6,bR];omega
def XJ (n:X):(uu aq aA n).length≤200 * aL n:=by
 have hp:=dx n;have hn:=oz n.name;have h0:=qB n 0;have h1:=qB n 1;have h2:=qB n 2;have a1:=ZC (sub n 0);have b1:=uI (f:=ql aq aA) (sub n 1).ae fun a _=>by have:=apP a;omega
 have c1:=Ww (sub n 2).ae;have d1:=mT cn ((sub n 1).ae.map (ql aq aA)++iE aq aA (sub n 2).ae);rw[HU] at d1;unfold uu;simp only[bg,bt,bp];omega
end Go.Proofs.YtdfccaonglmgpaaGreatDoor
