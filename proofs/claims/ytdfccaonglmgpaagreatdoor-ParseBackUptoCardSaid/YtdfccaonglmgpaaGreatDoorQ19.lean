/- Q19 -/
import Derived.Test.YtdfccaonglmgpaaGreatDoorQ01
import Derived.Test.YtdfccaonglmgpaaGreatDoorQ18
open Go.Proofs.Tryz
set_option linter.all false
namespace Go.Proofs.YtdfccaonglmgpaaGreatDoor
open Go
set_option maxRecDepth 100000
set_option linter.unusedVariables false
set_option maxHeartbeats 40000000
abbrev iF (a:Act)(bs tb v1:Nat):Prop:=Fr a 310 [(0,ptr (aa bs)),(2,ptr (aa tb)),(3,ptr (aa v1))]
def aad {H p:Prop}(h:H)(g:H→p:=by intro hh;(try rw[←ati]);obtain⟨xk,xs,xn,xa,xc,xh,xl⟩:=x;obtain rfl:xk=_:=hh;show (au aq aA (W.er _)).1=_;rw[bM,au.eq_def];rfl):p:=g h
def am9 {m:Nat}(ih:SX m)(x:W)(hx:aL x.er≤m+1)(hE:EP x.er)(hK:x.kind=18∨x.kind=19∨x.kind=42∨x.kind=20∨x.kind=44∨x.kind=21∨x.kind=45∨x.kind=43∨x.kind=50∨x.kind=46∨x.kind=22∨x.kind=23∨x.kind=47):SP 164 [.agg (av.cells x).toArray] (TE x) (gx x):=by
 intro bs vo out Z hA hR hN;have O:=St.init hA;refine aS func164 ntmps164 fun a U=>?_;refine Zb 1 fun tb a w O U=>?_;refine Xb 1 [2,2] fun v1 a w O U=>?_;refine Zi 4 (fun a U Mm=>?_) fun a U Mm=>?_
 ·refine Zi 0 (fun _=>?_) fun hd=>absurd Mm hd;have U:iF _ bs tb v1:=U.su;have hX:TE x=bF aq aA x.name:=aad Mm;rw[hX] at hN ⊢;refine Yc 3 (jd x.name (St.aI O) trivial (aO hN)) fun v1r o1 e1 n1 a w O U=>?_;refine Zr 0 ?_;exact⟨v1r,o1,c_ e1,aO n1,O.kp⟩
 refine Zi 2 (fun a U mg=>?_) fun a U mg=>?_
 ·refine Zi 0 (fun _=>?_) fun hd=>absurd mg hd;have U:iF _ bs tb v1:=U.su;have hX:TE x=bF aq aA x.name:=aad mg;rw[hX] at hN ⊢;refine Yc 3 (jd x.name (St.aI O) trivial (aO hN)) fun v1r o1 e1 n1 a w O U=>?_;refine Zr 0 ?_;exact⟨v1r,o1,c_ e1,aO n1,O.kp⟩
 refine Zi 2 (fun a U Y9=>?_) fun a U Y9=>?_
 ·have U:iF _ bs tb v1:=U.su;have hX:TE x=bF aq aA x.name:=aad Y9;rw[hX] at hN ⊢;refine Yc 3 (jd x.name (St.aI O) trivial (aO hN)) fun v1r o1 e1 n1 a w O U=>?_;refine Zr 0 ?_;exact⟨v1r,o1,c_ e1,aO n1,O.kp⟩
 have U:Fr _ 310 [(0,ptr (aa bs)),(2,ptr (aa tb)),(3,ptr (aa v1)),(7,i64 x.kind)]:=U.su;refine Zi 2 (fun a U Oh=>?_) fun a U Oh=>?_
 ·refine Zi 0 (fun _=>?_) fun hd=>absurd Oh hd;have U:iF _ bs tb v1:=U.su;have hX:TE x=[⟨5,[],x.n⟩]:=aad Oh;rw[hX] at hN ⊢;simp only[bg,bp] at hN;refine Zo 0 [0,2,3] [1,1,0,0,1,0,1,0,2,2,0,0,3] By fun w O=>?_;refine Zb 9 fun b2 a w O U=>?_;refine pn rfl U (iJ (bytes:=48) (r:=[⟨5,[],x.n,0,0⟩]) O (i:=2) rfl (O.rd 0 rfl) underlying22 pV rfl rfl rfl rfl rfl rfl (U.af rfl) (U.af rfl) (by show (List.length _+1) * 48≤_;omega) (by show List.length _+1≤_;omega)) ?_ ?_
  ·rintro va w O;exact O.nm.d [0,1]
  rintro a v18 w O U;have O:=O.nm;refine Zs 3 fun a w O U=>?_;refine Zr 0 ?_;have O:=O.d [0,2,2];exact⟨_,_,by rw[cZ];rfl,by simp only[bt,bg,bp],O⟩
 refine Zi 2 (fun a U ZY=>?_) fun a U ZY=>?_
 ·have U:iF _ bs tb v1:=U.su;have hX:TE x=[⟨5,[],x.n⟩]:=aad ZY;rw[hX] at hN ⊢;simp only[bg,bp] at hN;refine Zo 0 [0,2,3] [1,1,0,0,1,0,1,0,2,2,0,0,3] By fun w O=>?_;refine Zb 9 fun b2 a w O U=>?_;refine pn rfl U (iJ (bytes:=48) (r:=[⟨5,[],x.n,0,0⟩]) O (i:=2) rfl (O.rd 0 rfl) underlying22 pV rfl rfl rfl rfl rfl rfl (U.af rfl) (U.af rfl) (by show (List.length _+1) * 48≤_;omega) (by show List.length _+1≤_;omega)) ?_ ?_
  ·rintro va w O;exact O.nm.d [0,1]
  rintro a v18 w O U;have O:=O.nm;refine Zs 3 fun a w O U=>?_;refine Zr 0 ?_;have O:=O.d [0,2,2];exact⟨_,_,by rw[cZ];rfl,by simp only[bt,bg,bp],O⟩
 have U:Fr _ 310 [(0,ptr (aa bs)),(2,ptr (aa tb)),(3,ptr (aa v1)),(7,i64 x.kind)]:=U.su;refine Zi 2 (fun a U Mu=>?_) fun a U Mu=>?_
 ·refine Zi 0 (fun _=>?_) fun hd=>absurd Mu hd;have U:iF _ bs tb v1:=U.su;have hX:TE x=[⟨6,x.name,0⟩]:=aad Mu;rw[hX] at hN ⊢;refine Yc 3 (uM 6 x.name (St.aI O) trivial (aO hN)) fun v1r o1 e1 n1 a w O U=>?_;refine Zr 0 ?_;exact⟨v1r,o1,c_ e1,aO n1,O.kp⟩
 refine Zi 2 (fun a U WR=>?_) fun a U WR=>?_
 ·have U:iF _ bs tb v1:=U.su;have hX:TE x=[⟨6,x.name,0⟩]:=aad WR;rw[hX] at hN ⊢;refine Yc 3 (uM 6 x.name (St.aI O) trivial (aO hN)) fun v1r o1 e1 n1 a w O U=>?_;refine Zr 0 ?_;exact⟨v1r,o1,c_ e1,aO n1,O.kp⟩
 have U:Fr _ 310 [(0,ptr (aa bs)),(2,ptr (aa tb)),(3,ptr (aa v1)),(7,i64 x.kind)]:=U.su;refine Zi 2 (fun a U VN=>?_) fun a U VN=>?_
 ·have U:iF _ bs tb v1:=U.su;have hX:TE x=[kw aq [95]]:=aad VN;rw[hX] at hN ⊢;refine Yz 2 hN fun b v1r o1 e1 n1 a w O U=>?_;refine Zr 0 ?_;exact⟨v1r,o1,c_ e1,aO n1,O.kp⟩
 have U:Fr _ 310 [(0,ptr (aa bs)),(2,ptr (aa tb)),(3,ptr (aa v1)),(7,i64 x.kind)]:=U.su;refine Zi 2 (fun a U Na=>?_) fun a U Na=>?_
 ·have U:iF _ bs tb v1:=U.su;obtain⟨g,dX,hg⟩:=ar5 hE ((W.a8 x).trans Na);obtain⟨y,hs,rfl⟩:=B0 dX;have aY:x.ae[0]?=some y:=by rw[hs];rfl
  have jQ:=dO aY;have hR0:=hR.bK y (bV aY);have hX:TE x=bF aq aA x.name++(kw aq [64]::(cY aq (TE y)++[])):=by
   obtain⟨xk,xs,xn,xa,xc,xh,xl⟩:=x;obtain rfl:xk=50:=Na;obtain rfl:xl=[y]:=hs;show (au aq aA (W.er _)).1=_;rw[bM,bf,au.eq_def];rfl
  rw[hX] at hN ⊢;refine Yc 3 (jd x.name (St.aI O) trivial (aO hN)) fun v1r o1 e1 n1 a w O U=>?_;refine Yz 2 (ak n1 hN) fun b v2r o2 e2 n2 a w O U=>?_;refine Zd 0 [1,0,1,1,1,3] fun w O=>?_;refine Zg 3 (b_ hR.aK aY) fun a U=>?_;refine Zh 0 hR.aK aY fun a U=>?_;refine Yc 0 (oH (ih.exp y V hg) (St.aI O) (hR0.df O) (aO (ak n1 (ak n2 hN)))) fun v3r o3 e3 n3 a w O U=>?_;refine Zr 0 ?_;exact⟨v3r,o3,c_ (ak e3 (ak e2 e1)),aO (ak n3 (ak n2 n1)),O.kp⟩
 have U:Fr _ 310 [(0,ptr (aa bs)),(2,ptr (aa tb)),(3,ptr (aa v1)),(7,i64 x.kind)]:=U.su;refine Zi 2 (fun a U JH=>?_) fun a U JH=>?_
 ·have U:iF _ bs tb v1:=U.su;have hg:=jO (aos hE ((W.a8 x).trans JH));have hX:TE x=bF aq aA x.name++kG x.ae:=aad JH;rw[hX] at hN ⊢;simp only[bt] at hN;have hll:=aG.gi hR.aK;refine Yc 3 (jd x.name (St.aI O) trivial (aO hN)) fun v1r o1 e1 n1 a w O U=>?_;refine Zv 1 fun a U=>?_;refine cl (fun (s':Nat×Value×List Tok) a w'=>match s' with| (k,v5,o5)=>(k≤x.ae.length∧o5.map bP++kG (x.ae.drop k)=o1.map bP++kG x.ae∧o5.length+(kG (x.ae.drop k)).length=o1.length+(kG x.ae).length)∧St Z (az [.ob bs 37 [vo],ax vo 44 aM out]) w' [.ob bs 37 [v5],ax v5 44 aM o5,.ob v1 28 (av.cells x),.ob tb 64 [ptr (aa bs)]]∧Fr a 310 [(0,ptr (aa bs)),(2,ptr (aa tb)),(3,ptr (aa v1)),(4,i64 k)]) (fun (s':Nat×Value×List Tok)=>match s' with| (k,v5,o5)=>x.ae.length - k) (0,v1r,o1) ⟨⟨dN _,rfl,rfl⟩,O,U.su⟩ ?_;rintro⟨k,v5,o5⟩ a w ⟨⟨hk,fm,dB⟩,O,U⟩;refine Zg 3 (bA hR.aK) fun a U=>?_;refine Zi 1 (fun a U aT=>?_) fun a U aT=>?_
  ·obtain⟨t,ht⟩:=dM (l:=x.ae) (i:=k) V;have htm:=List.mem_of_getElem? ht;have hzt:=kA htm;rw[qH ht,OS] at fm dB;refine Zd 0 [1,0,1,0,1,1,3] fun w O=>?_;refine Zg 4 (bw k hR.aK V) fun a U=>?_;refine Zh 0 hR.aK ht fun a U=>?_;refine Yc 0 (oH (ih.exp t V (hg t htm)) (St.aI O) ((hR.bK t htm).df O) (aO (And.intro n1 (And.intro dB hN)))) fun v6r o6 e6 n6 a w O U=>?_;refine Zv 3 fun a U=>?_;exact⟨(k+1,v6r,o6),⟨⟨V,by rw[←fm,e6,List.append_assoc],aO (And.intro n6 dB)⟩,O,U.su⟩,by dsimp only;omega⟩
  ·refine Zr 0 ?_;rw[ia V,BM,cB] at fm;rw[ia V,BM] at dB;exact⟨v5,o5,by rw[fm,e1,cC],aO (ak dB n1),O.kp⟩
 have U:Fr _ 310 [(0,ptr (aa bs)),(2,ptr (aa tb)),(3,ptr (aa v1)),(7,i64 x.kind)]:=U.su;refine Zi 2 (fun a U IS=>?_) fun a U IS=>?_
 ·have U:iF _ bs tb v1:=U.su;obtain⟨g,q,dX,hg,hq⟩:=ajf hE ((W.a8 x).trans IS);obtain⟨y,z,hs,rfl,rfl⟩:=og dX;have aY:x.ae[0]?=some y:=by rw[hs];rfl
  have bC:x.ae[1]?=some z:=by rw[hs];rfl
  have jQ:=dO aY;have oU:=dO bC;have hR0:=hR.bK y (bV aY);have hR1:=hR.bK z (bV bC);have hX:TE x=cY aq (TE y)++(cY aq (TE z)++[]):=by
   obtain⟨xk,xs,xn,xa,xc,xh,xl⟩:=x;obtain rfl:xk=22:=IS;obtain rfl:xl=[y,z]:=hs;show (au aq aA (W.er _)).1=_;rw[bM,bf,bf,au.eq_def];rfl
  rw[hX] at hN ⊢;refine Zd 0 [1,0,1,1,1,3] fun w O=>?_;refine Zg 3 (b_ hR.aK aY) fun a U=>?_;refine Zh 0 hR.aK aY fun a U=>?_;refine Yc 0 (oH (ih.exp y V hg) (St.aI O) (hR0.df O) (aO hN)) fun v1r o1 e1 n1 a w O U=>?_;refine Zd 0 [1,0,1,1,1,3] fun w O=>?_;refine Zg 3 (b_ hR.aK bC) fun a U=>?_;refine Zh 0 hR.aK bC fun a U=>?_;refine Yc 0 (oH (ih.exp z V hq) (St.aI O) (hR1.df O) (aO (ak n1 hN))) fun v2r o2 e2 n2 a w O U=>?_;refine Zr 0 ?_;exact⟨v2r,o2,c_ (ak e2 e1),aO (ak n2 n1),O.kp⟩
 have U:Fr _ 310 [(0,ptr (aa bs)),(2,ptr (aa tb)),(3,ptr (aa v1)),(7,i64 x.kind)]:=U.su;refine Zi 2 (fun a U KC=>?_) fun a U KC=>?_
 ·refine Zi 0 (fun _=>?_) fun hd=>absurd KC hd;have U:iF _ bs tb v1:=U.su;obtain⟨g,gl,dX,hg,hq,hev⟩:=YC hE (by rw[W.a8];omega);rw[W.cq] at dX;obtain⟨y,l,hs,rfl,rfl⟩:∃y l,x.ae=y::l∧y.er=g∧l.map W.er=gl:=by
   match hxs:x.ae,dX with
   |y::l,h=>cases h;exact⟨y,l,rfl,rfl,rfl⟩
  rw[dW] at hev;have hX:TE x=ll 0 x.ae:=by
   rw[hs,ll,if_neg ai,←NI l hev];obtain⟨xk,xs,xn,xa,xc,xh,xl⟩:=x;obtain rfl:xk=23:=KC;obtain rfl:xl=y::l:=hs;show (au aq aA (W.er _)).1=_;rw[bM,bf,au.eq_def];rfl
  rw[hX] at hN ⊢;have hmx:∀(i:Nat) (u:W),x.ae[i]?=some u→i % 2=0→aL u.er≤m∧EP u.er:=fun i u hu h2=>by
   refine⟨by have:=kA (bV hu);omega,?_⟩;rw[hs] at hu;rcases i with _|i
   ·cases hu;exact hg
   ·exact hq (i / 2) u.er (by rw[List.getElem?_map,show 2 * (i / 2)+1=i by omega];rw[List.getElem?_cons_succ] at hu;rw[hu];rfl)
  refine Yc 3 (Pr ih x.ae x.h.v hmx (St.aI O) ⟨hR.aK.df O,fun d hd=>(hR.bK d hd).df O⟩ (aO hN)) fun v1r o1 e1 n1 a w O U=>?_;refine Zr 0 ?_;exact⟨v1r,o1,c_ e1,aO n1,O.kp⟩
 refine Zi 2 (fun a U XQ=>?_) fun a U XQ=>?_
 ·have U:iF _ bs tb v1:=U.su;obtain⟨g,gl,dX,hg,hq,hev⟩:=YC hE (by rw[W.a8];omega);rw[W.cq] at dX;obtain⟨y,l,hs,rfl,rfl⟩:∃y l,x.ae=y::l∧y.er=g∧l.map W.er=gl:=by
   match hxs:x.ae,dX with
   |y::l,h=>cases h;exact⟨y,l,rfl,rfl,rfl⟩
  rw[dW] at hev;have hX:TE x=ll 0 x.ae:=by
   rw[hs,ll,if_neg ai,←NI l hev];obtain⟨xk,xs,xn,xa,xc,xh,xl⟩:=x;obtain rfl:xk=47:=XQ;obtain rfl:xl=y::l:=hs;show (au aq aA (W.er _)).1=_;rw[bM,bf,au.eq_def];rfl
  rw[hX] at hN ⊢;have hmx:∀(i:Nat) (u:W),x.ae[i]?=some u→i % 2=0→aL u.er≤m∧EP u.er:=fun i u hu h2=>by
   refine⟨by have:=kA (bV hu);omega,?_⟩;rw[hs] at hu;rcases i with _|i
   ·cases hu;exact hg
   ·exact hq (i / 2) u.er (by rw[List.getElem?_map,show 2 * (i / 2)+1=i by omega];rw[List.getElem?_cons_succ] at hu;rw[hu];rfl)
  refine Yc 3 (Pr ih x.ae x.h.v hmx (St.aI O) ⟨hR.aK.df O,fun d hd=>(hR.bK d hd).df O⟩ (aO hN)) fun v1r o1 e1 n1 a w O U=>?_;refine Zr 0 ?_;exact⟨v1r,o1,c_ e1,aO n1,O.kp⟩
 have U:Fr _ 310 [(0,ptr (aa bs)),(2,ptr (aa tb)),(3,ptr (aa v1)),(7,i64 x.kind)]:=U.su;refine Zi 2 (fun a U zS=>?_) fun a U zS=>?_
 ·refine Zi 0 (fun _=>?_) fun hd=>absurd zS hd;exfalso;omega
 refine Zi 2 (fun a U Hw=>?_) fun a U Hw=>?_
 ·exfalso;omega
 have U:Fr _ 310 [(0,ptr (aa bs)),(2,ptr (aa tb)),(3,ptr (aa v1)),(7,i64 x.kind)]:=U.su;refine Zi 2 (fun a U Ao=>?_) fun a U Ao=>?_
 ·refine Zi 0 (fun _=>?_) fun hd=>absurd Ao hd;exfalso;omega
 refine Zi 2 (fun a U Fv=>?_) fun a U Fv=>?_
 ·exfalso;omega
 have U:Fr _ 310 [(0,ptr (aa bs)),(2,ptr (aa tb)),(3,ptr (aa v1)),(7,i64 x.kind)]:=U.su;refine Zi 2 (fun a U zR=>?_) fun a U zR=>?_
 ·refine Zi 0 (fun _=>?_) fun hd=>absurd zR hd;exfalso;omega
 refine Zi 2 (fun a U HF=>?_) fun a U HF=>?_
 ·exfalso;omega
 have U:Fr _ 310 [(0,ptr (aa bs)),(2,ptr (aa tb)),(3,ptr (aa v1)),(7,i64 x.kind)]:=U.su;refine Zi 2 (fun a U D4=>?_) fun a U D4=>?_
 ·exfalso;omega
 have U:Fr _ 310 [(0,ptr (aa bs)),(2,ptr (aa tb)),(3,ptr (aa v1)),(7,i64 x.kind)]:=U.su;refine Zi 2 (fun a U Dq=>?_) fun a U Dq=>?_
 ·exfalso;omega
 have U:Fr _ 310 [(0,ptr (aa bs)),(2,ptr (aa tb)),(3,ptr (aa v1)),(7,i64 x.kind)]:=U.su;refine Zi 2 (fun a U Dn=>?_) fun a U Dn=>?_
 ·exfalso;omega
 have U:Fr _ 310 [(0,ptr (aa bs)),(2,ptr (aa tb)),(3,ptr (aa v1)),(7,i64 x.kind)]:=U.su;refine Zi 2 (fun a U vI=>?_) fun a U vI=>?_
 ·exfalso;omega
 have U:Fr _ 310 [(0,ptr (aa bs)),(2,ptr (aa tb)),(3,ptr (aa v1)),(7,i64 x.kind)]:=U.su;refine Zi 2 (fun a U zr=>?_) fun a U zr=>?_
 ·exfalso;omega
 have U:Fr _ 310 [(0,ptr (aa bs)),(2,ptr (aa tb)),(3,ptr (aa v1)),(7,i64 x.kind)]:=U.su;refine Zi 2 (fun a U sS=>?_) fun a U sS=>?_
 ·exfalso;omega
 have U:Fr _ 310 [(0,ptr (aa bs)),(2,ptr (aa tb)),(3,ptr (aa v1)),(7,i64 x.kind)]:=U.su;refine Zi 2 (fun a U vx=>?_) fun a U vx=>?_
 ·exfalso;omega
 have U:Fr _ 310 [(0,ptr (aa bs)),(2,ptr (aa tb)),(3,ptr (aa v1)),(7,i64 x.kind)]:=U.su;refine Zi 2 (fun a U vf=>?_) fun a U vf=>?_
 ·exfalso;omega
 omega
def alJ {m:Nat}(ih:SX m)(x:W)(hx:aL x.er≤m+1)(hE:EP x.er)(hK:x.kind=31∨x.kind=48∨x.kind=32∨x.kind=49∨x.kind=35∨x.kind=51∨x.kind=36∨x.kind=33∨x.kind=34):SP 164 [.agg (av.cells x).toArray] (TE x) (gx x):=by
 intro bs vo out Z hA hR hN;have O:=St.init hA;refine aS func164 ntmps164 fun a U=>?_;refine Zb 1 fun tb a w O U=>?_;refine Xb 1 [2,2] fun v1 a w O U=>?_;refine Zx fun a U=>?_;refine Zi 0 (fun zS=>?_) fun zS=>?_
 ·refine Zi 0 (fun _=>?_) fun hd=>absurd zS hd;have U:iF _ bs tb v1:=U.su;have hg:=jO (Hl hE (by rw[W.a8];omega));have hX:TE x=kw aq [40]::(jT [44] (x.ae.map TE)++[kw aq [41]]):=aad zS;rw[hX] at hN ⊢;refine Yz 2 hN fun b v1r o1 e1 n1 a w O U=>?_;refine Zv 5 fun a U=>?_;have O:=O.eb;have O:=O.q [1,1];refine Yc 0 (q9 [44] x.h.v (qq call164 (fun d hd=>ih.exp d (by have:=kA hd;omega) (hg d hd))) (St.gT O) (hR.aK.eU O) (fun d hd=>(hR.bK d hd).eU O) (aO (ak n1 hN))) fun v2r o2 e2 n2 a w O U=>?_;refine Yz 2 (ak n1 (ak n2 hN)) fun b v3r o3 e3 n3 a w O U=>?_;refine Zr 0 ?_;exact⟨v3r,o3,c_ (ak e3 (ak e2 e1)),aO (ak n3 (ak n2 n1)),O.kp⟩
 refine Zi 2 (fun a U Hw=>?_) fun a U Hw=>?_
 ·have U:iF _ bs tb v1:=U.su;have hg:=jO (Hl hE (by rw[W.a8];omega));have hX:TE x=kw aq [40]::(jT [44] (x.ae.map TE)++[kw aq [41]]):=aad Hw;rw[hX] at hN ⊢;refine Yz 2 hN fun b v1r o1 e1 n1 a w O U=>?_;refine Zv 5 fun a U=>?_;have O:=O.eb;have O:=O.q [1,1];refine Yc 0 (q9 [44] x.h.v (qq call164 (fun d hd=>ih.exp d (by have:=kA hd;omega) (hg d hd))) (St.gT O) (hR.aK.eU O) (fun d hd=>(hR.bK d hd).eU O) (aO (ak n1 hN))) fun v2r o2 e2 n2 a w O U=>?_;refine Yz 2 (ak n1 (ak n2 hN)) fun b v3r o3 e3 n3 a w O U=>?_;refine Zr 0 ?_;exact⟨v3r,o3,c_ (ak e3 (ak e2 e1)),aO (ak n3 (ak n2 n1)),O.kp⟩
 have U:Fr _ 310 [(0,ptr (aa bs)),(2,ptr (aa tb)),(3,ptr (aa v1)),(7,i64 x.kind)]:=U.su;refine Zi 2 (fun a U Ao=>?_) fun a U Ao=>?_
 ·refine Zi 0 (fun _=>?_) fun hd=>absurd Ao hd;have U:iF _ bs tb v1:=U.su;have hg:=jO (Hl hE (by rw[W.a8];omega));have hX:TE x=kw aq [91]::(jT [44] (x.ae.map TE)++[kw aq [93]]):=aad Ao;rw[hX] at hN ⊢;refine Yz 2 hN fun b v1r o1 e1 n1 a w O U=>?_;refine Zv 5 fun a U=>?_;have O:=O.eb;have O:=O.q [1,1];refine Yc 0 (q9 [44] x.h.v (qq call164 (fun d hd=>ih.exp d (by have:=kA hd;omega) (hg d hd))) (St.gT O) (hR.aK.eU O) (fun d hd=>(hR.bK d hd).eU O) (aO (ak n1 hN))) fun v2r o2 e2 n2 a w O U=>?_;refine Yz 2 (ak n1 (ak n2 hN)) fun b v3r o3 e3 n3 a w O U=>?_;refine Zr 0 ?_;exact⟨v3r,o3,c_ (ak e3 (ak e2 e1)),aO (ak n3 (ak n2 n1)),O.kp⟩
 refine Zi 2 (fun a U Fv=>?_) fun a U Fv=>?_
 ·have U:iF _ bs tb v1:=U.su;have hg:=jO (Hl hE (by rw[W.a8];omega));have hX:TE x=kw aq [91]::(jT [44] (x.ae.map TE)++[kw aq [93]]):=aad Fv;rw[hX] at hN ⊢;refine Yz 2 hN fun b v1r o1 e1 n1 a w O U=>?_;refine Zv 5 fun a U=>?_;have O:=O.eb;have O:=O.q [1,1];refine Yc 0 (q9 [44] x.h.v (qq call164 (fun d hd=>ih.exp d (by have:=kA hd;omega) (hg d hd))) (St.gT O) (hR.aK.eU O) (fun d hd=>(hR.bK d hd).eU O) (aO (ak n1 hN))) fun v2r o2 e2 n2 a w O U=>?_;refine Yz 2 (ak n1 (ak n2 hN)) fun b v3r o3 e3 n3 a w O U=>?_;refine Zr 0 ?_;exact⟨v3r,o3,c_ (ak e3 (ak e2 e1)),aO (ak n3 (ak n2 n1)),O.kp⟩
 have U:Fr _ 310 [(0,ptr (aa bs)),(2,ptr (aa tb)),(3,ptr (aa v1)),(7,i64 x.kind)]:=U.su;refine Zi 2 (fun a U zR=>?_) fun a U zR=>?_
 ·refine Zi 0 (fun _=>?_) fun hd=>absurd zR hd;have U:iF _ bs tb v1:=U.su;have hg:=jO (VT hE (by rw[W.a8];omega));have hX:TE x=bF aq aA x.name++(kw aq [123]::(jT [44] (x.ae.map TF)++[kw aq [125]])):=by
   rw[←Lu];obtain⟨xk,xs,xn,xa,xc,xh,xl⟩:=x;obtain rfl:xk=35:=zR;show (au aq aA (W.er _)).1=_;rw[bM,au.eq_def];rfl
  rw[hX] at hN ⊢;refine Yc 3 (jd x.name (St.aI O) trivial (aO hN)) fun v1r o1 e1 n1 a w O U=>?_;refine Yc 3 (Mh ih x.ae x.h.v (fun d hd=>⟨by have:=kA hd;omega,hg d hd⟩) (St.aI O) ⟨hR.aK.df O,fun d hd=>(hR.bK d hd).df O⟩ (aO (ak n1 hN))) fun v2r o2 e2 n2 a w O U=>?_;refine Zr 0 ?_;exact⟨v2r,o2,c_ (ak e2 e1),aO (ak n2 n1),O.kp⟩
 refine Zi 2 (fun a U HF=>?_) fun a U HF=>?_
 ·have U:iF _ bs tb v1:=U.su;have hg:=jO (VT hE (by rw[W.a8];omega));have hX:TE x=bF aq aA x.name++(kw aq [123]::(jT [44] (x.ae.map TF)++[kw aq [125]])):=by
   rw[←Lu];obtain⟨xk,xs,xn,xa,xc,xh,xl⟩:=x;obtain rfl:xk=51:=HF;show (au aq aA (W.er _)).1=_;rw[bM,au.eq_def];rfl
  rw[hX] at hN ⊢;refine Yc 3 (jd x.name (St.aI O) trivial (aO hN)) fun v1r o1 e1 n1 a w O U=>?_;refine Yc 3 (Mh ih x.ae x.h.v (fun d hd=>⟨by have:=kA hd;omega,hg d hd⟩) (St.aI O) ⟨hR.aK.df O,fun d hd=>(hR.bK d hd).df O⟩ (aO (ak n1 hN))) fun v2r o2 e2 n2 a w O U=>?_;refine Zr 0 ?_;exact⟨v2r,o2,c_ (ak e2 e1),aO (ak n2 n1),O.kp⟩
 have U:Fr _ 310 [(0,ptr (aa bs)),(2,ptr (aa tb)),(3,ptr (aa v1)),(7,i64 x.kind)]:=U.su;refine Zi 2 (fun a U D4=>?_) fun a U D4=>?_
 ·have U:iF _ bs tb v1:=U.su;obtain⟨g,gl,dX,hg,hq⟩:=aaA hE ((W.a8 x).trans D4);rw[W.cq] at dX;obtain⟨y,l,hs,rfl,rfl⟩:∃y l,x.ae=y::l∧y.er=g∧l.map W.er=gl:=by
   match hxs:x.ae,dX with
   |y::l,h=>cases h;exact⟨y,l,rfl,rfl,rfl⟩
  have hq:=J4 hq;have aY:x.ae[0]?=some y:=by rw[hs];rfl
  have jQ:=dO aY;have hR0:=hR.bK y (bV aY);have hml:∀d∈l,d∈x.ae:=fun d hd=>by rw[hs];exact lz _ hd
  have Hy:x.ae.drop 1=l:=by rw[hs];rfl
  have hT1:aG Z (az [.ob bs 37 [vo],ax vo 44 aM out]) (pN x.h.v 1 6) av l:=by rw[←Hy];exact aG.drop hR.aK (by rw[hs];simp)
  have hX:TE x=kw aq [40]::(TE y++(kw aq [41]::kw aq [123]::(jT [44] (l.map TF)++[kw aq [125]]))):=by
   rw[←Lu];obtain⟨xk,xs,xn,xa,xc,xh,xl⟩:=x;obtain rfl:xk=36:=D4;obtain rfl:xl=y::l:=hs;show (au aq aA (W.er _)).1=_;rw[bM,bf,au.eq_def];rfl
  rw[hX] at hN ⊢;refine Zd 0 [1,0,1,1,1,3] fun w O=>?_;refine Zg 3 (b_ hR.aK aY) fun a U=>?_;refine Zh 0 hR.aK aY fun a U=>?_;refine Yc 0 (oH (ih.exp y V hg) (St.aI O) (hR0.df O) (aO hN)) fun v1r o1 e1 n1 a w O U=>?_;refine Zd 0 [1,0,1,1,3] fun w O=>?_;refine Zv 3 fun a U=>?_;refine uk U (fun w O=>Bx (j:=1) hR.aK underlying26 sizeOf28 rfl (U.af rfl) (U.af rfl) (by rw[hs];simp)) fun a U=>?_;refine Yc 0 (Mh ih l (pN x.h.v 1 6) (fun d hd=>⟨by have:=kA (hml d hd);omega,hq d hd⟩) (St.aI O) ⟨hT1.df O,fun d hd=>(hR.bK d (hml d hd)).df O⟩ (aO (ak n1 hN))) fun v2r o2 e2 n2 a w O U=>?_;refine Zr 0 ?_;exact⟨v2r,o2,c_ (ak e2 e1),aO (ak n2 n1),O.kp⟩
 have U:Fr _ 310 [(0,ptr (aa bs)),(2,ptr (aa tb)),(3,ptr (aa v1)),(7,i64 x.kind)]:=U.su;refine Zi 2 (fun a U Dq=>?_) fun a U Dq=>?_
 ·have U:iF _ bs tb v1:=U.su;obtain⟨g,q,dX,hg⟩:=ard hE ((W.a8 x).trans Dq);obtain⟨y,z,hs,rfl,rfl⟩:=og dX;have aY:x.ae[0]?=some y:=by rw[hs];rfl
  have bC:x.ae[1]?=some z:=by rw[hs];rfl
  have jQ:=dO aY;have oU:=dO bC;have hR0:=hR.bK y (bV aY);have hR1:=hR.bK z (bV bC);have hX:TE x=kw aq [40]::(cY aq (TE y)++(mx aq aA z.er++[kw aq [41]])):=by
   obtain⟨xk,xs,xn,xa,xc,xh,xl⟩:=x;obtain rfl:xk=33:=Dq;obtain rfl:xl=[y,z]:=hs;show (au aq aA (W.er _)).1=_;rw[bM,bf,bf,au.eq_def];rfl
  rw[hX] at hN ⊢;refine Yz 2 hN fun b v1r o1 e1 n1 a w O U=>?_;refine Zd 0 [1,0,1,1,1,3] fun w O=>?_;refine Zg 3 (b_ hR.aK aY) fun a U=>?_;refine Zh 0 hR.aK aY fun a U=>?_;refine Yc 0 (oH (ih.exp y V hg) (St.aI O) (hR0.df O) (aO (ak n1 hN))) fun v2r o2 e2 n2 a w O U=>?_;refine Zd 0 [1,0,1,1,1,3] fun w O=>?_;refine Zg 3 (b_ hR.aK bC) fun a U=>?_;refine Zh 0 hR.aK bC fun a U=>?_;refine Yc 0 (FU z (St.aI O) trivial (aO (ak n1 (ak n2 hN)))) fun v3r o3 e3 n3 a w O U=>?_;refine Yz 2 (ak n1 (ak n2 (ak n3 hN))) fun b v4r o4 e4 n4 a w O U=>?_;refine Zr 0 ?_;exact⟨v4r,o4,c_ (ak e4 (ak e3 (ak e2 e1))),aO (ak n4 (ak n3 (ak n2 n1))),O.kp⟩
 have U:Fr _ 310 [(0,ptr (aa bs)),(2,ptr (aa tb)),(3,ptr (aa v1)),(7,i64 x.kind)]:=U.su;refine Zi 2 (fun a U Dn=>?_) fun a U Dn=>?_
 ·have U:iF _ bs tb v1:=U.su;obtain⟨g,q,dX,hg⟩:=ac1 hE ((W.a8 x).trans Dn);obtain⟨y,z,hs,rfl,rfl⟩:=og dX;have aY:x.ae[0]?=some y:=by rw[hs];rfl
  have bC:x.ae[1]?=some z:=by rw[hs];rfl
  have jQ:=dO aY;have oU:=dO bC;have hR0:=hR.bK y (bV aY);have hR1:=hR.bK z (bV bC);have hX:TE x=kw aq [40]::(mx aq aA y.er++(cY aq (TE z)++[kw aq [41]])):=by
   obtain⟨xk,xs,xn,xa,xc,xh,xl⟩:=x;obtain rfl:xk=34:=Dn;obtain rfl:xl=[y,z]:=hs;show (au aq aA (W.er _)).1=_;rw[bM,bf,bf,au.eq_def];rfl
  rw[hX] at hN ⊢;refine Yz 2 hN fun b v1r o1 e1 n1 a w O U=>?_;refine Zd 0 [1,0,1,1,1,3] fun w O=>?_;refine Zg 3 (b_ hR.aK aY) fun a U=>?_;refine Zh 0 hR.aK aY fun a U=>?_;refine Yc 0 (FU y (St.aI O) trivial (aO (ak n1 hN))) fun v2r o2 e2 n2 a w O U=>?_;refine Zd 0 [1,0,1,1,1,3] fun w O=>?_;refine Zg 3 (b_ hR.aK bC) fun a U=>?_;refine Zh 0 hR.aK bC fun a U=>?_;refine Yc 0 (oH (ih.exp z V hg) (St.aI O) (hR1.df O) (aO (ak n1 (ak n2 hN)))) fun v3r o3 e3 n3 a w O U=>?_;refine Yz 2 (ak n1 (ak n2 (ak n3 hN))) fun b v4r o4 e4 n4 a w O U=>?_;refine Zr 0 ?_;exact⟨v4r,o4,c_ (ak e4 (ak e3 (ak e2 e1))),aO (ak n4 (ak n3 (ak n2 n1))),O.kp⟩
 have U:Fr _ 310 [(0,ptr (aa bs)),(2,ptr (aa tb)),(3,ptr (aa v1)),(7,i64 x.kind)]:=U.su;refine Zi 2 (fun a U vI=>?_) fun a U vI=>?_
 ·exfalso;omega
 have U:Fr _ 310 [(0,ptr (aa bs)),(2,ptr (aa tb)),(3,ptr (aa v1)),(7,i64 x.kind)]:=U.su;refine Zi 2 (fun a U zr=>?_) fun a U zr=>?_
 ·exfalso;omega
 have U:Fr _ 310 [(0,ptr (aa bs)),(2,ptr (aa tb)),(3,ptr (aa v1)),(7,i64 x.kind)]:=U.su;refine Zi 2 (fun a U sS=>?_) fun a U sS=>?_
 ·exfalso;omega
 have U:Fr _ 310 [(0,ptr (aa bs)),(2,ptr (aa tb)),(3,ptr (aa v1)),(7,i64 x.kind)]:=U.su;refine Zi 2 (fun a U vx=>?_) fun a U vx=>?_
 ·exfalso;omega
 have U:Fr _ 310 [(0,ptr (aa bs)),(2,ptr (aa tb)),(3,ptr (aa v1)),(7,i64 x.kind)]:=U.su;refine Zi 2 (fun a U vf=>?_) fun a U vf=>?_
 ·exfalso;omega
 omega
def acY {m:Nat}(ih:SX m)(x:W)(hx:aL x.er≤m+1)(hE:EP x.er)(hK:x.kind=25∨x.kind=26):SP 164 [.agg (av.cells x).toArray] (TE x) (gx x):=by
 intro bs vo out Z hA hR hN;have O:=St.init hA;refine aS func164 ntmps164 fun a U=>?_;refine Zb 1 fun tb a w O U=>?_;refine Xb 1 [2,2] fun v1 a w O U=>?_;refine Zx fun a U=>?_;refine Zi 0 (fun vI=>?_) fun vI=>?_
 ·have U:iF _ bs tb v1:=U.su;obtain⟨g,q,dX,hg,hq⟩:=ach hE ((W.a8 x).trans vI);obtain⟨y,z,hs,rfl,rfl⟩:=og dX;have aY:x.ae[0]?=some y:=by rw[hs];rfl
  have bC:x.ae[1]?=some z:=by rw[hs];rfl
  have jQ:=dO aY;have oU:=dO bC;have hR0:=hR.bK y (bV aY);have hR1:=hR.bK z (bV bC);have hg:=jO hg;have hX:TE x=kw aq [92]::(kG y.ae++(kw aq [45,62]::TE z)):=by
   obtain⟨xk,xs,xn,xa,xc,xh,xl⟩:=x;obtain rfl:xk=25:=vI;obtain rfl:xl=[y,z]:=hs;obtain⟨yk,ys,yn,ya,yc,yh,yl⟩:=y;show (au aq aA (W.er _)).1=_;rw[bM,bf,bf,bM,au.eq_def];rfl
  rw[hX] at hN ⊢;simp only[bt,bg] at hN;have hll:=aG.gi hR0.aK;refine Yz 2 hN fun b v1r o1 e1 n1 a w O U=>?_;refine Zv 1 fun a U=>?_;refine cl (fun (s':Nat×Value×List Tok) a w'=>match s' with| (k,v5,o5)=>(k≤y.ae.length∧o5.map bP++kG (y.ae.drop k)=o1.map bP++kG y.ae∧o5.length+(kG (y.ae.drop k)).length=o1.length+(kG y.ae).length)∧St Z (az [.ob bs 37 [vo],ax vo 44 aM out]) w' [.ob bs 37 [v5],ax v5 44 aM o5,.ob v1 28 (av.cells x),.ob tb 64 [ptr (aa bs)]]∧Fr a 310 [(0,ptr (aa bs)),(2,ptr (aa tb)),(3,ptr (aa v1)),(5,i64 k)]) (fun (s':Nat×Value×List Tok)=>match s' with| (k,v5,o5)=>y.ae.length - k) (0,v1r,o1) ⟨⟨dN _,rfl,rfl⟩,O,U.su⟩ ?_;rintro⟨k,v5,o5⟩ a w ⟨⟨hk,fm,dB⟩,O,U⟩;refine Zg 3 (b_ hR.aK aY) fun a U=>?_;refine Zh 1 hR.aK aY fun a U=>?_;refine Zg 0 (bA hR0.aK) fun a U=>?_;refine Zi 1 (fun a U aT=>?_) fun a U aT=>?_
  ·obtain⟨t,ht⟩:=dM (l:=y.ae) (i:=k) V;have htm:=List.mem_of_getElem? ht;have hzt:=kA htm;rw[qH ht,OS] at fm dB;refine Zd 0 [1,0,1,1,0,1,0,1,1,3] fun w O=>?_;refine Zg 3 (b_ hR.aK aY) fun a U=>?_;refine Zh 1 hR.aK aY fun a U=>?_;refine Zg 1 (bw k hR0.aK V) fun a U=>?_;refine Zh 0 hR0.aK ht fun a U=>?_;refine Yc 0 (oH (ih.exp t V (hg t htm)) (St.aI O) ((hR0.bK t htm).df O) (aO (And.intro n1 (And.intro dB hN)))) fun v6r o6 e6 n6 a w O U=>?_;refine Zv 3 fun a U=>?_;exact⟨(k+1,v6r,o6),⟨⟨V,by rw[←fm,e6,List.append_assoc],aO (And.intro n6 dB)⟩,O,U.su⟩,by dsimp only;omega⟩
  ·rw[ia V,BM,cB] at fm;rw[ia V,BM] at dB;refine Yz 2 (ak n1 (ak dB hN)) fun b v6r o6 e6 n6 a w O U=>?_;refine Zd 0 [1,0,1,1,1,3] fun w O=>?_;refine Zg 3 (b_ hR.aK bC) fun a U=>?_;refine Zh 0 hR.aK bC fun a U=>?_;refine Yc 0 (ih.exp z V hq (St.aI O) (hR1.df O) (aO (ak n1 (ak dB (ak n6 hN))))) fun v7r o7 e7 n7 a w O U=>?_;refine Zr 0 ?_;exact⟨v7r,o7,c_ (ak e7 (ak e6 (ak fm e1))),aO (ak n7 (ak n6 (ak dB n1))),O.kp⟩
 have U:Fr _ 310 [(0,ptr (aa bs)),(2,ptr (aa tb)),(3,ptr (aa v1)),(7,i64 x.kind)]:=U.su;refine Zi 2 (fun a U zr=>?_) fun a U zr=>?_
 ·have U:iF _ bs tb v1:=U.su;obtain⟨g,q,dX,hg,hq⟩:=ac8 hE ((W.a8 x).trans zr);obtain⟨y,z,hs,rfl,rfl⟩:=og dX;have aY:x.ae[0]?=some y:=by rw[hs];rfl
  have bC:x.ae[1]?=some z:=by rw[hs];rfl
  have jQ:=dO aY;have oU:=dO bC;have hR0:=hR.bK y (bV aY);have hR1:=hR.bK z (bV bC);have hg:=jO hg;have hj:jT [59] (y.ae.map TQ)=bq aq cn (cU aq aA (y.ae.map W.er)):=HP cn y.ae hg;have hX:TE x=kw aq [108,101,116]::kw aq [123]::(jT [59] (y.ae.map TQ)++(kw aq [125]::kw aq [105,110]::TE z)):=by
   rw[hj];clear hj;obtain⟨xk,xs,xn,xa,xc,xh,xl⟩:=x;obtain rfl:xk=26:=zr;obtain rfl:xl=[y,z]:=hs;obtain⟨yk,ys,yn,ya,yc,yh,yl⟩:=y;show (au aq aA (W.er _)).1=_;rw[bM,bf,bf,bM,au.eq_def];rfl
  rw[hX] at hN ⊢;refine Yz 2 hN fun b v1r o1 e1 n1 a w O U=>?_;refine Zd 0 [1,0,1,1,0,1,1,0,3] fun w O=>?_;refine Zg 3 (b_ hR.aK aY) fun a U=>?_;refine Zh 1 hR.aK aY fun a U=>?_;refine Zv 2 fun a U=>?_;have O:=O.eb;have O:=O.q [1,1];refine Yc 0 (vM y.h.v (qq call89 (fun d hd=>ih.eqn d (by have:=kA hd;omega) (hg d hd))) (St.gT O) (hR0.aK.eU O) (fun d hd=>(hR0.bK d hd).eU O) (aO (ak n1 hN))) fun v2r o2 e2 n2 a w O U=>?_;refine Yz 2 (ak n1 (ak n2 hN)) fun b v3r o3 e3 n3 a w O U=>?_;refine Zd 0 [1,0,1,1,1,3] fun w O=>?_;refine Zg 3 (b_ hR.aK bC) fun a U=>?_;refine Zh 0 hR.aK bC fun a U=>?_;refine Yc 0 (ih.exp z V hq (St.aI O) (hR1.df O) (aO (ak n1 (ak n2 (ak n3 hN))))) fun v4r o4 e4 n4 a w O U=>?_;refine Zr 0 ?_;exact⟨v4r,o4,c_ (ak e4 (ak e3 (ak e2 e1))),aO (ak n4 (ak n3 (ak n2 n1))),O.kp⟩
 have U:Fr _ 310 [(0,ptr (aa bs)),(2,ptr (aa tb)),(3,ptr (aa v1)),(7,i64 x.kind)]:=U.su;refine Zi 2 (fun a U sS=>?_) fun a U sS=>?_
 ·exfalso;omega
 have U:Fr _ 310 [(0,ptr (aa bs)),(2,ptr (aa tb)),(3,ptr (aa v1)),(7,i64 x.kind)]:=U.su;refine Zi 2 (fun a U vx=>?_) fun a U vx=>?_
 ·exfalso;omega
 have U:Fr _ 310 [(0,ptr (aa bs)),(2,ptr (aa tb)),(3,ptr (aa v1)),(7,i64 x.kind)]:=U.su;refine Zi 2 (fun a U vf=>?_) fun a U vf=>?_
 ·exfalso;omega
 omega
def ag2 {m:Nat}(ih:SX m)(x:W)(hx:aL x.er≤m+1)(hE:EP x.er)(hK:x.kind=27∨x.kind=28∨x.kind=30):SP 164 [.agg (av.cells x).toArray] (TE x) (gx x):=by
 intro bs vo out Z hA hR hN;have O:=St.init hA;refine aS func164 ntmps164 fun a U=>?_;refine Zb 1 fun tb a w O U=>?_;refine Xb 1 [2,2] fun v1 a w O U=>?_;refine Zx fun a U=>?_;refine Zi 0 (fun sS=>?_) fun sS=>?_
 ·have U:iF _ bs tb v1:=U.su;obtain⟨g,q,r,dX,hg,hq,hr⟩:=aqq hE ((W.a8 x).trans sS);obtain⟨y,z,u,hs,rfl,rfl,rfl⟩:=Kj dX;have aY:x.ae[0]?=some y:=by rw[hs];rfl
  have jQ:=dO aY;have hR0:=hR.bK y (bV aY);have bC:x.ae[1]?=some z:=by rw[hs];rfl
  have oU:=dO bC;have hR1:=hR.bK z (bV bC);have kP:x.ae[2]?=some u:=by rw[hs];rfl
  have HZ:=dO kP;have hR2:=hR.bK u (bV kP);have hX:TE x=kw aq [105,102]::(TE y++(kw aq [116,104,101,110]::(TE z++(kw aq [101,108,115,101]::TE u)))):=by
   obtain⟨xk,xs,xn,xa,xc,xh,xl⟩:=x;obtain rfl:xk=27:=sS;obtain rfl:xl=[y,z,u]:=hs;show (au aq aA (W.er _)).1=_;rw[bM,bf,bf,bf,au.eq_def];rfl
  rw[hX] at hN ⊢;refine Yz 2 hN fun b v1r o1 e1 n1 a w O U=>?_;refine Zd 0 [1,0,1,1,1,3] fun w O=>?_;refine Zg 3 (b_ hR.aK aY) fun a U=>?_;refine Zh 0 hR.aK aY fun a U=>?_;refine Yc 0 (ih.exp y V hg (St.aI O) (hR0.df O) (aO (ak n1 hN))) fun v2r o2 e2 n2 a w O U=>?_;refine Yz 2 (ak n1 (ak n2 hN)) fun b v3r o3 e3 n3 a w O U=>?_;refine Zd 0 [1,0,1,1,1,3] fun w O=>?_;refine Zg 3 (b_ hR.aK bC) fun a U=>?_;refine Zh 0 hR.aK bC fun a U=>?_;refine Yc 0 (ih.exp z V hq (St.aI O) (hR1.df O) (aO (ak n1 (ak n2 (ak n3 hN))))) fun v4r o4 e4 n4 a w O U=>?_;refine Yz 2 (ak n1 (ak n2 (ak n3 (ak n4 hN)))) fun b v5r o5 e5 n5 a w O U=>?_;refine Zd 0 [1,0,1,1,1,3] fun w O=>?_;refine Zg 3 (b_ hR.aK kP) fun a U=>?_;refine Zh 0 hR.aK kP fun a U=>?_;refine Yc 0 (ih.exp u V hr (St.aI O) (hR2.df O) (aO (ak n1 (ak n2 (ak n3 (ak n4 (ak n5 hN))))))) fun v6r o6 e6 n6 a w O U=>?_;refine Zr 0 ?_;exact⟨v6r,o6,c_ (ak e6 (ak e5 (ak e4 (ak e3 (ak e2 e1))))),aO (ak n6 (ak n5 (ak n4 (ak n3 (ak n2 n1))))),O.kp⟩
 have U:Fr _ 310 [(0,ptr (aa bs)),(2,ptr (aa tb)),(3,ptr (aa v1)),(7,i64 x.kind)]:=U.su;refine Zi 2 (fun a U vx=>?_) fun a U vx=>?_
 ·have U:iF _ bs tb v1:=U.su;obtain⟨g,gl,dX,hg,hq⟩:=akc hE ((W.a8 x).trans vx);rw[W.cq] at dX;obtain⟨y,l,hs,rfl,rfl⟩:∃y l,x.ae=y::l∧y.er=g∧l.map W.er=gl:=by
   match hxs:x.ae,dX with
   |y::l,h=>cases h;exact⟨y,l,rfl,rfl,rfl⟩
  have hq:=J4 hq;have aY:x.ae[0]?=some y:=by rw[hs];rfl
  have jQ:=dO aY;have hR0:=hR.bK y (bV aY);have hml:∀d∈l,d∈x.ae:=fun d hd=>by rw[hs];exact lz _ hd
  have Hy:x.ae.drop 1=l:=by rw[hs];rfl
  have hT1:aG Z (az [.ob bs 37 [vo],ax vo 44 aM out]) (pN x.h.v 1 6) av l:=by rw[←Hy];exact aG.drop hR.aK (by rw[hs];simp)
  have hX:TE x=kw aq [99,97,115,101]::(TE y++(kw aq [111,102]::kw aq [123]::(jT [59] (l.map TA)++[kw aq [125]]))):=by
   rw[←aiZ];obtain⟨xk,xs,xn,xa,xc,xh,xl⟩:=x;obtain rfl:xk=28:=vx;obtain rfl:xl=y::l:=hs;show (au aq aA (W.er _)).1=_;rw[bM,bf,au.eq_def];rfl
  rw[hX] at hN ⊢;refine Yz 2 hN fun b v1r o1 e1 n1 a w O U=>?_;refine Zd 0 [1,0,1,1,1,3] fun w O=>?_;refine Zg 3 (b_ hR.aK aY) fun a U=>?_;refine Zh 0 hR.aK aY fun a U=>?_;refine Yc 0 (ih.exp y V hg (St.aI O) (hR0.df O) (aO (ak n1 hN))) fun v2r o2 e2 n2 a w O U=>?_;refine Yz 2 (ak n1 (ak n2 hN)) fun b v3r o3 e3 n3 a w O U=>?_;have O:=O.q [0,0,1];refine Zd 0 [1,0,1,1,0,3] fun w O=>?_;refine Zv 3 fun a U=>?_;refine uk U (fun w O=>Bx (j:=1) hR.aK underlying26 sizeOf28 rfl (U.af rfl) (U.af rfl) (by rw[hs];simp)) fun a U=>?_;refine Zv 1 fun a U=>?_;refine Yc 0 (vM (pN x.h.v 1 6) ⟨call198,fun d hd=>ajo ih bs tb d (by have:=kA (hml d hd);omega) (hq d hd)⟩ (St.gT O) (hT1.eU O) (fun d hd=>(hR.bK d (hml d hd)).eU O) (aO (ak n1 (ak n2 (ak n3 hN))))) fun v4r o4 e4 n4 a w O U=>?_;refine Zr 0 ?_;exact⟨v4r,o4,c_ (ak e4 (ak e3 (ak e2 e1))),aO (ak n4 (ak n3 (ak n2 n1))),O.kp⟩
 have U:Fr _ 310 [(0,ptr (aa bs)),(2,ptr (aa tb)),(3,ptr (aa v1)),(7,i64 x.kind)]:=U.su;refine Zi 2 (fun a U vf=>?_) fun a U vf=>?_
 ·have U:iF _ bs tb v1:=U.su;have hg:=jO (adL hE ((W.a8 x).trans vf));have hX:TE x=kw aq [100,111]::kw aq [123]::(jT [59] (x.ae.map TS)++[kw aq [125]]):=by
   rw[←ag0];obtain⟨xk,xs,xn,xa,xc,xh,xl⟩:=x;obtain rfl:xk=30:=vf;show (au aq aA (W.er _)).1=_;rw[bM,au.eq_def];rfl
  rw[hX] at hN ⊢;refine Yz 2 hN fun b v1r o1 e1 n1 a w O U=>?_;refine Zv 5 fun a U=>?_;have O:=O.eb;have O:=O.q [1,1];refine Yc 0 (vM x.h.v (qq call199 (fun d hd=>ih.stm d (by have:=kA hd;omega) (hg d hd))) (St.gT O) (hR.aK.eU O) (fun d hd=>(hR.bK d hd).eU O) (aO (ak n1 hN))) fun v2r o2 e2 n2 a w O U=>?_;refine Zr 0 ?_;exact⟨v2r,o2,c_ (ak e2 e1),aO (ak n2 n1),O.kp⟩
 omega
def Vj {m:Nat}(ih:SX m)(x:W)(hx:aL x.er≤m+1)(hE:EP x.er):SP 164 [.agg (av.cells x).toArray] (TE x) (gx x):=by
 intro bs vo out Z hA hR hN;have:=amf hE;rw[W.a8] at this;rcases Classical.em (x.kind=18∨x.kind=19∨x.kind=42∨x.kind=20∨x.kind=44∨x.kind=21∨x.kind=45∨x.kind=43∨x.kind=50∨x.kind=46∨x.kind=22∨x.kind=23∨x.kind=47) with h0|h0
 ·exact am9 ih x hx hE h0 hA hR hN
 rcases Classical.em (x.kind=31∨x.kind=48∨x.kind=32∨x.kind=49∨x.kind=35∨x.kind=51∨x.kind=36∨x.kind=33∨x.kind=34) with h1|h1
 ·exact alJ ih x hx hE h1 hA hR hN
 rcases Classical.em (x.kind=25∨x.kind=26) with h2|h2
 ·exact acY ih x hx hE h2 hA hR hN
 exact ag2 ih x hx hE V hA hR hN
def Bg:∀m:Nat,SX m
 |0=>⟨fun x hx=>by have:=dx x.er;omega,fun x hx=>by have:=dx x.er;omega,fun x hx=>by have:=dx x.er;omega,fun _ x hx=>by have:=dx x.er;omega⟩
 |m+1=>⟨fun x hx hE=>Vj (Bg m) x hx hE,fun x hx h=>agu (Bg m) x hx h,fun x hx h=>aam (Bg m) x hx (Vj (Bg m) x hx) h,fun s x hx h=>aca (Bg m) s x hx h⟩
end Go.Proofs.YtdfccaonglmgpaaGreatDoor
