/- Q12 -/
import Derived.Test.YtdfccaonglmgpaaGreatDoorQ01
import Derived.Test.YtdfccaonglmgpaaGreatDoorQ06
import Derived.Test.YtdfccaonglmgpaaGreatDoorQ11
import Derived.Test.YtdfccaonglmgpaaGreatDoorQ09
import Derived.KernelRfl
open Go.Proofs.Tryz
set_option linter.all false
namespace Go.Proofs.YtdfccaonglmgpaaGreatDoor
open Go
set_option maxHeartbeats 4000000
set_option maxRecDepth 100000
set_option linter.unusedVariables false
def Pl {k j:Nat}{tl:List Tok}{e:Int}(h:qv k (aN tl 0 0)=.error e):oE k j (tl.map bP)=.error e:=by
 unfold oE;rw[show (⟨tl.map bP,0⟩:PS)=aN tl 0 0 from rfl,h]
def aht {k j:Nat}{tl:List Tok}{n:X}{s:PS}(aW:oE k j (tl.map bP)≠.error (-1))(h:qv k (aN tl 0 0)=.ok (n,s)):∃ar dr,vB j n=some (ar,dr)∧oE k j (tl.map bP)=if dr=true then .error 31 else .ok ar:=by
 unfold oE at aW ⊢;rw[show (⟨tl.map bP,0⟩:PS)=aN tl 0 0 from rfl,h] at aW ⊢;dsimp only at aW ⊢
 cases hf:vB j n with
 |none=>rw[hf] at aW;exact absurd rfl aW
 |some p=>exact⟨p.1,p.2,rfl,rfl⟩
set_option maxHeartbeats 2000000 in
def Xr (k j:Nat)(hv:aC)(tl:List Tok)(Z:World)(hT:aG Z [] hv.v aM tl)(hL:tl.length≤1099511627776)(hneP:oE k j (tl.map bP)≠.error (-1))(hmod:∀(x:W) (s:PS),qv k ⟨tl.map bP,0⟩=.ok (x.er,s)→LZ x):aH prog 7 #[hv.v] Z (fun v w'=>∃(y:W) (l c er:Int) (q:aR),v=.tuple #[.agg (av.cells y).toArray,.agg #[str [],i64 l,i64 c,i64 er]]∧(oE k j (tl.map bP)=.ok y.er∧er=0∧l=0∧c=0∨oE k j (tl.map bP)=.error er∧y=bH)∧q.has y∧St Z [] w' [bO q]):=by
 have O:=St.bL Z;have rp:Pos tl 0 0:=⟨dN _,hL,ai,ai⟩;generalize hR0:qv k (aN tl 0 0)=R0;have J:=hR0.symm;have aW:R0≠.error (-1):=fun e=>hneP (Pl (hR0.trans e));refine PJ (m:=25) func7 rfl ntmps7 [(0,hv.v)] rfl ⟨rfl,trivial⟩ fun a U=>?_;refine Zb 1 fun bn a w O U=>?_;refine Zb 2 fun bd a w O U=>?_;refine Pk U rfl rfl (QJ rfl (U.af rfl)) fun a U=>?_;refine jx ?_;refine wp_seq ?_;refine qt ?_;refine Zb 4 fun ps a w O U=>?_;have O:St _ _ _ (aX ps 53 hv.v 0 0::[_,_]):=O;refine Zn 1 fun a U=>?_;refine k9 ?_;refine jx ?_;refine wp_seq ?_;refine qt ?_;refine Zv 1 fun a U=>?_;refine jg U rfl rfl rfl (kF U rfl rfl call15) (aqU k (St.aB O) (hT.aV O) rp (yV aW J)) ?_ ?_
 ·rintro _ w ⟨l,c,e,n1,d1,he,rfl,hS⟩;have O:=O.k1 hS;have O:=O.q [2,1];refine eL ?_;exact O2 (x:=bH) U rfl rfl rfl O fun w O=>⟨bH,_,_,_,aR.e,rfl,.inr ⟨Pl he,rfl⟩,aR.nil _,O.tail.Hu⟩
 rintro a _ w ⟨x1,n1,d1,he,lN,iy,rfl,hS⟩ U;have O:=O.k1 hS;have J:=xS J he;refine Zy 1 fun a w O U=>?_;refine k9 ?_;refine jx ?_;refine wp_seq ?_;refine qt ?_;refine Zu 1 fun F a w O U=>?_;have O:St _ _ _ (FE 56 F 0 0 false::[_,_,_,_]):=O;refine k9 ?_;refine jx ?_;refine wp_seq ?_;refine qt ?_;obtain⟨ar,dr,hfm,hpf⟩:=aht hneP he;have hmw:=hmod _ _ he;refine Zv 1 fun a U=>?_;have O:=O.q [0,1];refine Yc 0 (aeU j (St.aI O) hmw hfm) fun y la lb q e0_ hq a w O U=>?_;subst e0_;refine Zy 1 fun a w O U=>?_;refine k9 ?_;refine jx ?_;refine wp_seq ?_;refine wp_seq ?_;refine qt ?_;refine Zv 4 fun a U=>?_;refine ZQ U rfl rfl (fun ao=>?_) (fun ao=>?_)
 ·obtain rfl:dr=true:=by cases dr with|true=>rfl|false=>exact absurd rfl ao
  refine qt ?_;refine Zv 1 fun a U=>?_;refine aZ U (kq isAgg31 sizeOf31 rfl (U.af rfl) (O.AW 0 rfl 0 4 rfl) rfl) fun a U=>?_;refine Zv 1 fun a U=>?_;refine aZ U (Fk underlying47 (fun _ h=>by cases h) rfl (U.af rfl)) fun a U=>?_;refine HY rfl rfl (GD rfl (U.af rfl)) ?_;have O:=(O.d [0,0]).q [2,1];refine eL ?_;exact O2 (l:=la) (c:=lb) (e:=31) U rfl rfl rfl O fun w O=>⟨bH,_,_,31,aR.e,rfl,.inr ⟨hpf.trans (if_pos rfl),rfl⟩,aR.nil _,O.tail.Hu⟩
 ·obtain rfl:dr=false:=by cases dr with|false=>rfl|true=>exact absurd ai ao
  refine wp_skip ?_;refine jx ?_;refine wp_seq ?_;refine qt ?_;refine Zs 4 fun a w O U=>?_;have O:=(O.d [0,1]).q [2,1];exact akR U rfl rfl rfl O fun w O=>⟨y,0,0,0,q,rfl,.inl ⟨hpf.trans (if_neg aw),rfl,rfl,rfl⟩,hq,O⟩
def HL {T b:Nat}{vs:Value}{tl:List Tok}{n:Nat}{dp:Int}{Z:World}(hA:bT Z [aX b T vs n dp])(hT:aG Z (az [aX b T vs n dp]) vs aM tl)(hp:Pos tl n dp){t:Tok}(ht:tl[n]?=some t):aH prog 101 #[ptr (aa b),i64 0] Z (fun v w'=>v=.agg (aM.cells t).toArray∧St Z (az [aX b T vs n dp]) w' [aX b T vs n dp]):=by
 have O:=St.init hA;have hn:=hp.hn;have hL:=hp.bz;have hl:n<tl.length:=(List.getElem?_eq_some_iff.1 ht).1;refine aS func101 ntmps101 fun a U=>?_;refine Zb 13 fun tk a w O U=>?_;refine Zg 0 (bA hT) fun a U=>?_;refine Zi 1 (fun a U ao=>?_) fun a U ao=>?_
 ·refine Zv 5 fun a U=>?_;refine aZ U (iK (i:=(n+0)) hT underlying22 sizeOf44 rfl (U.af rfl) ((U.af rfl).trans (congrArg i64 (rfl))) V) fun a U=>?_;refine Zh 0 hT ht fun a U=>?_;refine Zs 1 fun a w O U=>?_;refine Zr 0 ?_;have O:=O.d [0];exact⟨rfl,O⟩
 ·exact absurd ao V
def fZ.no {P:Program}{f:Nat}{args:Array Value}{w:World}{R E R':Value→World→Prop}(h:fZ P f args w R E)(he:∀v w',¬E v w')(hr:∀v w',R v w'→R' v w'):aH P f args w R':=
 Calls.mono h fun _ _ h=>h.elim (fun⟨v,e,hv⟩=>⟨v,e,hr _ _ hv⟩) fun⟨v,e,hv⟩=>(he _ _ hv).elim
def ui (wd:List UInt8){T b:Nat}{vs:Value}{tl:List Tok}{n:Nat}{dp:Int}{Z:World}(hA:bT Z [aX b T vs n dp])(hT:aG Z (az [aX b T vs n dp]) vs aM tl)(hp:Pos tl n dp)(hf:bk (aN tl n dp) [wd]=false):aH prog 100 #[ptr (aa b),str wd] Z (fun v w'=>v=.bool false∧St Z (az [aX b T vs n dp]) w' [aX b T vs n dp]):=by
 have e:dG wd (aN tl n dp)=.ok (false,aN tl n dp):=by simp only[dG,hf];rfl
 refine fZ.no (fG wd hA hT hp (by rw[e];exact fun h=>nomatch h)) ?_ ?_
 ·rintro v w' ⟨l,c,x,n',d',h,-⟩;rw[e] at h;exact nomatch h
 ·rintro v w' ⟨bb,n',d',h,-,-,h3,-,h4,h5⟩;rw[e] at h;obtain rfl:false=bb:=congrArg Prod.fst (Except.ok.inj h);obtain⟨rfl,rfl⟩:=h3 ai;exact⟨h4,h5⟩
def KX {tl:List Tok}{n n':Nat}{d d':Int}(h1:n≤tl.length)(h2:n'≤tl.length)(h:aN tl n d=aN tl n' d'):n=n'∧d=d':=by
 have e1:=congrArg (fun s:PS=>s.r.length) h;simp only[aN,dW,List.length_drop] at e1;exact⟨V,congrArg PS.deep h⟩
def RH {f b T:Nat}{args:Array Value}{vs:Value}{tl:List Tok}{Z:World}{M:List Nat}{R0:Except Int (X×PS)}{A:Nat→Prop}{n1:Nat}{d1:Int}{e:X}(hR:R0=.ok (e,aN tl n1 d1))(hn:n1≤tl.length)(h:fZ prog f args Z (fun v w'=>∃(x:W) (n':Nat) (dp':Int),R0=.ok (x.er,aN tl n' dp')∧A n'∧Pos tl n' dp'∧v=.agg (av.cells x).toArray∧St Z M w' (aX b T vs n' dp'::nE 28 x::[])) (fun v w'=>mm b T vs Z M [] R0 v w')):
  aH prog f args Z (fun v w'=>∃x:W,x.er=e∧v=.agg (av.cells x).toArray∧St Z M w' [aX b T vs n1 d1,nE 28 x]):=by
 refine h.no ?_ ?_
 ·rintro v w' ⟨l,c,x,n',d',h,-⟩;rw[hR] at h;exact nomatch h
 ·rintro v w' ⟨x,n',d',h,-,hp',hv,hS⟩;have h:=Except.ok.inj (hR.symm.trans h);obtain⟨rfl,rfl⟩:=KX hn hp'.hn (congrArg Prod.snd h);exact⟨x,(congrArg Prod.fst h).symm,hv,hS⟩
def OX {f b T:Nat}{args:Array Value}{vs:Value}{tl:List Tok}{Z:World}{M:List Nat}{avn:List an}{R0:Except Int (Tk×PS)}{n n1:Nat}{d1:Int}{e:Tk}(hR:R0=.ok (e,aN tl n1 d1))(hn:n1≤tl.length)(h:fZ prog f args Z (fun v w'=>MH b T vs tl Z M avn R0 n v w') (fun v w'=>mm b T vs Z M avn R0 v w')):
  aH prog f args Z (fun v w'=>∃t:Tok,bP t=e∧v=.agg (aM.cells t).toArray∧St Z M w' (aX b T vs n1 d1::avn)):=by
 refine h.no ?_ ?_
 ·rintro v w' ⟨l,c,x,n',d',h,-⟩;rw[hR] at h;exact nomatch h
 ·rintro v w' ⟨t,n',d',h,-,hp',hv,hS⟩;have h:=Except.ok.inj (hR.symm.trans h);obtain⟨rfl,rfl⟩:=KX hn hp'.hn (congrArg Prod.snd h);exact⟨t,(congrArg Prod.fst h).symm,hv,hS⟩
def HS (wd:List UInt8){T b:Nat}{vs:Value}{tl:List Tok}{n n1:Nat}{dp d1:Int}{e:Tk}(hp:Pos tl n dp)(hR:cA wd (aN tl n dp)=.ok (e,aN tl n1 d1))(hn:n1≤tl.length){Z:World}(hA:bT Z [aX b T vs n dp])(hT:aG Z (az [aX b T vs n dp]) vs aM tl):aH prog 46 #[ptr (aa b),str wd] Z (fun v w'=>∃t:Tok,bP t=e∧v=.agg (aM.cells t).toArray∧St Z (az [aX b T vs n dp]) w' [aX b T vs n1 d1]):=
 OX hR hn (dq wd hA hT hp (by rw[hR];exact fun h=>nomatch h))
def apg {T b:Nat}{vs:Value}{tl:List Tok}{n:Nat}{dp:Int}{Z:World}(hA:bT Z [aX b T vs n dp])(hT:aG Z (az [aX b T vs n dp]) vs aM tl)(hp:Pos tl n dp){t:Tok}(ht:tl[n]?=some t)(hk:dH (aN tl n dp) [1]=true)(hf:bk (aN tl (n+1) dp) [[64]]=false):
  aH prog 233 #[ptr (aa b)] Z (fun v w'=>∃x,x=W.mk 18 t.text 0 t.line t.bh bj []∧v=.agg (av.cells x).toArray∧St Z (az [aX b T vs n dp]) w' [aX b T vs (n+1) dp,nE 28 x]):=by
 have O:=St.init hA;refine aS func233 ntmps233 fun a U=>?_;refine Xb 4 [1] fun v1 a w O U=>?_;refine Yc 0 (HL (St.aB O) (hT.aV O) hp ht) fun a w O U=>?_;refine Zb 5 fun v3 a w O U=>?_;refine Xb 1 [2] fun b1 a w O U=>?_;refine Yc 0 (iT _ _ _ _ _ _ _ (St.aB O) (hT.aV O) hp.hn hp.bz _ _ (O.c6 (l:=[1]) 0 rfl)) fun a w O U=>?_;refine Zj 1 (fun a U ao=>?_) fun a U ao=>absurd hk ao;have di:=hp.succ ht;refine Yc 3 (iO _ _ _ _ _ _ _ (St.aB O) (hT.aV O) hp.hn hp.bz t ht) fun a w O U=>?_;refine Yc 3 (ui _ (St.aB O) (hT.aV O) di hf) fun a w O U=>?_;refine Zj 0 (fun ay=>?_) fun ay=>?_
 ·exact absurd ay ai
 refine Yc 3 (bc [] bj _ _ _ _) fun x8 ky a w O U=>?_;refine Zs 1 fun a w O U=>?_;have O:=St.jk (T:=28) ky O;refine Zr 0 ?_;have O:=(O.d [2,2,2]).q [1];exact⟨x8,ky,rfl,O⟩
def CX (b T:Nat)(vs:Value)(tl:List Tok)(f:Nat)(n:Nat)(dp:Int)(n1:Nat)(d1:Int)(Q:W→Prop):Prop:=∀{Z:World},bT Z [aX b T vs n dp]→aG Z (az [aX b T vs n dp]) vs aM tl→
 aH prog f #[ptr (aa b)] Z (fun v w'=>∃x,Q x∧v=.agg (av.cells x).toArray∧St Z (az [aX b T vs n dp]) w' [aX b T vs n1 d1,nE 28 x])
def Pb {T b:Nat}{vs:Value}{tl:List Tok}{n n1:Nat}{dp d1:Int}{Q:W→Prop}(hb:CX b T vs tl 233 n dp n1 d1 Q)(iy:Pos tl n1 d1)(hf:lM (aN tl n1 d1) [123]=false):CX b T vs tl 217 n dp n1 d1 Q:=by
 intro Z hA hT;have O:=St.init hA;refine aS func217 ntmps217 fun a U=>?_;refine Xb 2 [1] fun v1 a w O U=>?_;refine Yc 0 (hb (St.aB O) (hT.aV O)) fun x hx a w O U=>?_;refine Xb 2 [1] fun v3 a w O U=>?_;refine cl (fun (s:Nat) a w'=>St Z (az [aX b T vs n dp]) w' [aX b T vs n1 d1,.ob v3 28 (av.cells x),nE 28 x,.ob v1 28 (av.cells bH)]∧Fr a 45 [(0,ptr (aa b)),(2,ptr (aa v1)),(3,ptr (aa v3))]) (fun s=>s) 0 ⟨O,U.su⟩ ?_;rintro s a w ⟨O,U⟩;refine Yc 1 (EA (St.aB O) (hT.aV O) iy) fun a w O U=>?_;refine Zj 0 (fun ao=>?_) fun ao=>?_
 ·exact absurd (hf.symm.trans ao) ai
 refine Zs 2 fun a w O U=>?_;refine Zr 0 ?_;have O:=O.d [1,2];exact⟨x,hx,rfl,O⟩
def TY (b T:Nat)(vs:Value)(tl:List Tok)(f:Nat)(n:Nat)(dp:Int)(n1:Nat)(d1:Int)(Q:List W→Prop):Prop:=∀{Z:World},bT Z [aX b T vs n dp]→aG Z (az [aX b T vs n dp]) vs aM tl→
 aH prog f #[ptr (aa b)] Z (fun v w'=>∃(l:List W) (h:aC),Q l∧v=h.v∧St Z (az [aX b T vs n dp]) w' [aX b T vs n1 d1,ax h.v 28 av l,an.bx (l.map (nE 28))])
def VF {T b:Nat}{vs:Value}{tl:List Tok}{n n1 n2:Nat}{dp d1 d2:Int}{Q1 Q2:W→Prop}(h1:CX b T vs tl 217 n dp n1 d1 Q1)(h2:CX b T vs tl 217 n1 d1 n2 d2 Q2)(iy:Pos tl n1 d1)(c7:Pos tl n2 d2)(c1:ga (aN tl n1 d1)=true)(c2:ga (aN tl n2 d2)=false):TY b T vs tl 200 n dp n2 d2 (fun l=>∃x y,l=[x,y]∧Q1 x∧Q2 y):=by
 intro Z hA hT;have O:=St.init hA;refine aS func200 ntmps200 fun a U=>?_;refine Zv 1 fun a U=>?_;have O:=O.eI 28 6;have O:=St.iv (T:=28) O;have O:St _ _ _ (_::ax (aC.v bj) 28 av ([]:List W)::[_]):=O;refine Zv 1 fun a U=>?_;have O:=O.q [2];refine Yc 0 (h1 (St.aB O) (hT.aV O)) fun x2 q2 a w O U=>?_;refine Xb 2 [0,1] fun b1 a w O U=>?_;have O:=St.b0 (T:=28) [x2] O;have O:=(O.d [3,3]).q [2];refine cl (fun (s:Nat×Nat×Int×List W×aC) a w'=>match s with| (k3,n3,d3,fo,jJ)=>((k3=1∧n3=n1∧d3=d1∧fo=[])∨(k3=0∧n3=n2∧d3=d2∧∃y,fo=[y]∧Q2 y))∧St Z (az [aX b T vs n dp]) w' [aX b T vs n3 d3,ax jJ.v 28 av ([x2]++fo),an.bx ((([x2]++fo):List W).map (nE 28))]∧Fr a 25 [(0,ptr (aa b)),(3,(aC.v jJ))]) (fun (s:Nat×Nat×Int×List W×aC)=>match s with| (k3,n3,d3,fo,jJ)=>k3) (1,n1,d1,[],⟨some (aa b1),1,1⟩) ⟨.inl ⟨rfl,rfl,rfl,rfl⟩,O,U.su⟩ ?_;rintro⟨k3,n3,d3,fo,jJ⟩ a w ⟨hex,O,U⟩;have il:Pos tl n3 d3:=by rcases hex with ⟨-,rfl,rfl,-⟩| ⟨-,rfl,rfl,-⟩<;>assumption
 refine Xb 4 [1] fun b2 a w O U=>?_;refine Yc 0 (iT _ _ _ _ _ _ _ (St.aB O) (hT.aV O) il.hn il.bz _ _ (O.c6 (l:=[1,2,5,6]) 0 rfl)) fun a w O U=>?_;refine Zv 1 fun a U=>?_;generalize hb:dH (aN tl n3 d3) [1,2,5,6]=bv at U;rcases bv with _|_
 ·refine Xb 9 [1] fun b3 a w O U=>?_;refine Yc 0 (fi _ _ _ _ _ _ _ (St.aB O) (hT.aV O) il.hn il.bz _ _ (O.c6 (l:=[[95],[40],[91]]) 0 rfl)) fun a w O U=>?_;refine aZ U (jV rfl (U.af rfl) (U.af rfl)) fun a U=>?_;refine Zj 0 (fun ao=>?_) fun ao=>?_
  ·have hq:ga (aN tl n3 d3)=true:=by simp only[ga,hb,pj];exact ao
   rcases hex with ⟨rfl,rfl,rfl,rfl⟩| ⟨-,rfl,rfl,-⟩
   ·refine Yc 2 (h2 (St.aB O) (hT.aV O)) fun x4 q4 a w O U=>?_;refine Zb 1 fun b4 a w O U=>?_;refine Za 0 (cR [x4] 5 0 c7.nL) fun xU a w O U=>?_;refine Zv 1 fun a U=>?_;have O:=O.q [2];have O:=St.eV (T:=28) (l:=([x2]++[])) O 5 rfl;have O:=O.nm;have O:=O.d [0];have O:=O.d [1,1];exact⟨(0,n2,d2,[x4],xU),⟨.inr ⟨rfl,rfl,rfl,x4,rfl,q4⟩,O,U.su⟩,by dsimp only;omega⟩
   ·exact absurd (c2.symm.trans hq) ai
  ·have hq:¬ga (aN tl n3 d3)=true:=by simp only[ga,hb,pj];exact ao
   rcases hex with ⟨rfl,rfl,rfl,rfl⟩| ⟨-,rfl,rfl,y,rfl,qy⟩
   ·exact absurd c1 hq
   ·refine Zr 2 ?_;have O:=O.d [1,1];exact⟨[x2,y],jJ,⟨_,_,rfl,q2,qy⟩,rfl,O⟩
 ·refine Zv 5 fun a U=>?_;refine aZ U (jA (v:=.bool true) rfl (U.af rfl) rfl) fun a U=>?_;refine Zj 0 (fun ay=>?_) fun ay=>?_
  ·have hq:ga (aN tl n3 d3)=true:=by simp only[ga,hb,Bool.true_or]
   rcases hex with ⟨rfl,rfl,rfl,rfl⟩| ⟨-,rfl,rfl,-⟩
   ·refine Yc 2 (h2 (St.aB O) (hT.aV O)) fun x4 q4 a w O U=>?_;refine Zb 1 fun b4 a w O U=>?_;refine Za 0 (cR [x4] 4 0 c7.nL) fun xU a w O U=>?_;refine Zv 1 fun a U=>?_;have O:=O.q [2];have O:=St.eV (T:=28) (l:=([x2]++[])) O 4 rfl;have O:=O.nm;have O:=O.d [0];have O:=O.d [1];exact⟨(0,n2,d2,[x4],xU),⟨.inr ⟨rfl,rfl,rfl,x4,rfl,q4⟩,O,U.su⟩,by dsimp only;omega⟩
   ·exact absurd (c2.symm.trans hq) ai
  ·exact absurd rfl ay
def Fq {tl:List Tok}{n:Nat}{dp:Int}{t:Tok}(ht:tl[n]?=some t)(hf:t.kind≠7∧t.kind≠8){ws:List (List UInt8)}:bk (aN tl n dp) ws=false:=by
 unfold bk;rw[rL ht];simp [bP,hf.1,hf.2]
def Ir {tl:List Tok}{n:Nat}{dp:Int}{t:Tok}(ht:tl[n]?=some t){k:Int}(hk:t.kind≠k):dH (aN tl n dp) [k]=false:=by
 unfold dH;rw[rL ht];simp [bP,hk]
def qG (s:List UInt8)(l c:Int)(x:W):Prop:=x=W.mk 18 s 0 l c bj []
def VE (x:W)(h:aC)(Z:World)(hA:bT Z [ax h.v 28 av [x],an.bx ([x].map (nE 28))]):aH prog 147 #[h.v] Z (fun v w'=>v=.agg (av.cells x).toArray∧St Z (az [ax h.v 28 av [x],an.bx ([x].map (nE 28))]) w' [nE 28 x]):=by
 have O:=St.init hA;refine aS func147 ntmps147 fun a U=>?_;refine Zb 2 fun v1 a w O U=>?_;refine Zg 0 (bA (O.rd 1 rfl)) fun a U=>?_;refine Zi 1 (fun a U ao=>?_) fun a U ao=>?_
 ·exact absurd ao aw
 refine Zg 1 (bw 0 (O.rd 1 rfl) aw) fun a U=>?_;refine Zh 0 (O.bW 1 rfl) rfl fun a U=>?_;refine Zs 1 fun a w O U=>?_;refine Zr 0 ?_;have O:=O.pull 2 rfl;have O:=St.qm O;have O:=O.front (A:=[_]);exact⟨rfl,O⟩
def amC {T b:Nat}{vs:Value}{tl:List Tok}{n n1:Nat}{dp d1:Int}{Q:W→Prop}(hb:CX b T vs tl 175 n dp n1 d1 Q)(iy:Pos tl n1 d1)(hf:jz (aN tl n1 d1)=false):CX b T vs tl 143 n dp n1 d1 Q:=by
 intro Z hA hT;have O:=St.init hA;refine aS func143 ntmps143 fun a U=>?_;refine Xb 2 [1] fun v1 a w O U=>?_;refine Yc 0 (hb (St.aB O) (hT.aV O)) fun x hx a w O U=>?_;refine Xb 2 [0,1] fun b1 a w O U=>?_;have O:=St.b0 (T:=28) [x] O;have O:=O.q [2];refine cl (fun (s:Nat) a w'=>St Z (az [aX b T vs n dp]) w' [aX b T vs n1 d1,ax (aC.v ⟨some (aa b1),1,1⟩) 28 av [x],an.bx (([x]:List W).map (nE 28)),.ob v1 28 (av.cells bH)]∧Fr a 18 [(0,ptr (aa b)),(2,ptr (aa v1)),(3,(aC.v ⟨some (aa b1),1,1⟩))]) (fun s=>s) 0 ⟨O,U.su⟩ ?_;rintro s a w ⟨O,U⟩;refine Yc 1 (Ad (St.aB O) (hT.aV O) iy) fun a w O U=>?_;refine Zj 0 (fun ao=>?_) fun ao=>?_
 ·exact absurd (hf.symm.trans ao) ai
 refine Zv 1 fun a U=>?_;have O:=O.q [1,1];refine Yc 0 (VE x ⟨some (aa b1),1,1⟩ _ (St.aI O)) fun a w O U=>?_;refine Zs 1 fun a w O U=>?_;refine Zr 0 ?_;have O:=(O.d [2]).q [1];exact⟨x,hx,rfl,O⟩
def u3 (Q1 Q2:W→Prop)(z:W):Prop:=∃x y l c h,Q1 x∧Q2 y∧z=W.mk 22 [] 0 l c h [x,y]
def S7 {T b:Nat}{vs:Value}{tl:List Tok}{n n2:Nat}{dp d2:Int}{Q1 Q2:W→Prop}(ha:TY b T vs tl 200 n dp n2 d2 (fun l=>∃x y,l=[x,y]∧Q1 x∧Q2 y))(hp:Pos tl n dp){t:Tok}(ht:tl[n]?=some t)(hf:t.kind≠7∧t.kind≠8)(c7:Pos tl n2 d2):CX b T vs tl 175 n dp n2 d2 (u3 Q1 Q2):=by
 intro Z hA hT;have hno:∀wd,bk (aN tl n dp) [wd]=false:=fun wd=>Fq ht hf;have O:=St.init hA;refine aS func175 ntmps175 fun a U=>?_;refine Xb 4 [1] fun v1 a w O U=>?_;refine Yc 0 (HL (St.aB O) (hT.aV O) hp ht) fun a w O U=>?_;refine Xb 5 [1] fun v3 a w O U=>?_;refine Yc 0 (ui _ (St.aB O) (hT.aV O) hp (hno _)) fun a w O U=>?_;refine Zj 1 (fun a U ao=>?_) fun a U ao=>?_
 ·exact absurd ao ai
 refine Yc 3 (ui _ (St.aB O) (hT.aV O) hp (hno _)) fun a w O U=>?_;refine Zj 1 (fun a U ay=>?_) fun a U ay=>?_
 ·exact absurd ay ai
 refine Yc 3 (ui _ (St.aB O) (hT.aV O) hp (hno _)) fun a w O U=>?_;refine Zj 1 (fun a U aF=>?_) fun a U aF=>?_
 ·exact absurd aF ai
 refine Yc 3 (ui _ (St.aB O) (hT.aV O) hp (hno _)) fun a w O U=>?_;refine Zj 1 (fun a U aT=>?_) fun a U aT=>?_
 ·exact absurd aT ai
 refine Yc 3 (ui _ (St.aB O) (hT.aV O) hp (hno _)) fun a w O U=>?_;refine Zj 1 (fun a U bm=>?_) fun a U bm=>?_
 ·exact absurd bm ai
 refine Zc 1 (ha (St.aB O) (hT.aV O)) ?_;rintro a _ w ⟨_,h7,⟨x,y,rfl,hx,hy⟩,rfl,hS⟩ U;have O:=O.k1 hS;refine Zg 2 (bw 0 (O.rd 1 rfl) aw) fun a U=>?_;refine Zh 0 (O.bW 1 rfl) rfl fun a U=>?_;refine Xb 2 [3] fun v38 a w O U=>?_;have O:=St.BC (i:=0) (l:=[x,y]) rfl O;refine Zv 1 fun a U=>?_;refine aZ U (Bx (j:=1) (O.rd 4 rfl) underlying26 sizeOf28 rfl (U.af rfl) (U.af rfl) aw) fun a U=>?_;refine aZ U (Yl (O.rd 4 rfl) underlying26 rfl (U.af rfl)) fun a U=>?_;refine Zv 1 fun a U=>?_;have O:=(O.d [5]).q [3,2,3,0,1];refine cl (fun (s:Nat×W) a w'=>match s with| (i,xx)=>(i=0∧xx=x∨i=1∧u3 Q1 Q2 xx)∧St Z (az [aX b T vs n dp]) w' [aX b T vs n2 d2,.ob v38 28 (av.cells xx),.ob v1 28 (av.cells bH),nE 28 xx,ax (aC.v h7) 28 av [x,y],an.bx ((([x,y]:List W).drop (i+1)).map (nE 28))]∧Fr a 133 [(0,ptr (aa b)),(2,ptr (aa v1)),(9,ptr (aa v38)),(119,pN (aC.v h7) 1 6),(120,i64 (([x,y].length - 1:Nat):Int)),(121,i64 i)]) (fun (s:Nat×W)=>match s with| (i,xx)=>1 - i) (0,x) ⟨.inl ⟨rfl,rfl⟩,O,U.su⟩ ?_;rintro⟨i,xx⟩ a w ⟨hex,O,U⟩;refine Zi 1 (fun a U bl=>?_) fun a U bl=>?_
 ·obtain⟨rfl,rfl⟩:i=0∧xx=x:=hex.resolve_right fun h=>by have:=h.1;simp at bl;omega
  refine Zv 0 ?_;refine aZ U (Ug (i:=0) (j:=1) (O.rd 4 rfl) underlying26 sizeOf28 rfl (U.af rfl) (U.af rfl) aw) fun a U=>?_;refine Zh 0 (O.bW 4 rfl) (show ([xx,y]:List W)[1+0]?=some y from rfl) fun a U=>?_;refine Xb 2 [6] fun v39 a w O U=>?_;have O:=St.BC (i:=0+1) (l:=[xx,y]) rfl O;have O:=O.drew;refine jC iD ?_;refine dy 1 4 rfl ?_ ?_
  ·refine Zq [2,4,5] [1,2,1,1,3,3,3] qi ?_;refine Yk 1 (de _ _) fun a w O U=>?_;refine Zb 3 fun b7 a w O U=>?_;refine Yc 0 (bc [xx,y] ⟨some (aa b7),2,2⟩ _ _ _ _) fun x40 ry a w O U=>?_;refine Xs 1 [0,6] fun a w O U=>?_;have O:=St.b0 (T:=28) [xx,y] O;have O:=St.aP (T:=28) ry O;refine aZ U (ud rfl (U.af rfl) (U.af rfl) aw) fun a U=>?_;refine Zv 1 fun a U=>?_;have O:=(O.d [2]).q [2,2,2,0,1];exact⟨(1,x40),⟨.inr ⟨rfl,xx,y,_,_,_,hx,hy,ry⟩,O,U.su⟩,Nat.zero_lt_one⟩
  ·refine Zq [2,4,5] [1,3,1,1,2,3,3] [0,2,3,4,1,5,6] ?_;refine Zb 4 fun b8 a w O U=>?_;refine Yc 0 (de _ _) fun a w O U=>?_;refine Yc 0 (bc [xx,y] ⟨some (aa b8),2,2⟩ _ _ _ _) fun x41 sd a w O U=>?_;refine Xs 1 [0,6] fun a w O U=>?_;have O:=St.b0 (T:=28) [xx,y] O;have O:=St.aP (T:=28) sd O;refine aZ U (ud rfl (U.af rfl) (U.af rfl) aw) fun a U=>?_;refine Zv 1 fun a U=>?_;have O:=(O.d [2]).q [2,2,2,0,1];exact⟨(1,x41),⟨.inr ⟨rfl,xx,y,_,_,_,hx,hy,sd⟩,O,U.su⟩,Nat.zero_lt_one⟩
 ·obtain⟨rfl,hq⟩:i=1∧u3 Q1 Q2 xx:=hex.resolve_left fun h=>by have:=h.1;simp at bl;omega
  refine Zs 2 fun a w O U=>?_;refine Zr 0 ?_;have O:=O.d [1,1,2,2];exact⟨xx,hq,rfl,O⟩
def amH {T b:Nat}{vs:Value}{tl:List Tok}{n n1 n2 n3:Nat}{dp d1 d2 d3:Int}{Q:W→Prop}(hp:Pos tl n dp){t:Tok}(ht:tl[n]?=some t)(hk:t.kind=8)(h1:bk (aN tl n dp) [[95]]=false)(h2:bk (aN tl n dp) [[91]]=false){e1 e2:Tk}(Ho:cA [40] (aN tl n dp)=.ok (e1,aN tl n1 d1))(EI:n1≤tl.length)
  (hi:∀{Z:World},bT Z [aX b T vs n1 d1]→aG Z (az [aX b T vs n1 d1]) vs aM tl→aH prog 245 #[ptr (aa b),.agg (aM.cells t).toArray] Z (fun v w'=>∃x,Q x∧v=.agg (av.cells x).toArray∧St Z (az [aX b T vs n1 d1]) w' [aX b T vs n2 d2,nE 28 x])) (c7:Pos tl n2 d2) (nC:cA [41] (aN tl n2 d2)=.ok (e2,aN tl n3 d3)) (vF:n3≤tl.length):CX b T vs tl 233 n dp n3 d3 Q:=by
 intro Z hA hT;have O:=St.init hA;refine aS func233 ntmps233 fun a U=>?_;refine Xb 4 [1] fun v1 a w O U=>?_;refine Yc 0 (HL (St.aB O) (hT.aV O) hp ht) fun a w O U=>?_;refine Zb 5 fun v3 a w O U=>?_;refine Xb 1 [2] fun b1 a w O U=>?_;refine Yc 0 (iT _ _ _ _ _ _ _ (St.aB O) (hT.aV O) hp.hn hp.bz _ _ (O.c6 (l:=[1]) 0 rfl)) fun a w O U=>?_;refine Zj 1 (fun a U ao=>?_) fun a U ao=>?_
 ·exact absurd ((Ir ht (k:=1) (by rw[hk];decide)).symm.trans ao) ai
 refine Xb 4 [1] fun b2 a w O U=>?_;refine Yc 0 (iT _ _ _ _ _ _ _ (St.aB O) (hT.aV O) hp.hn hp.bz _ _ (O.c6 (l:=[2]) 0 rfl)) fun a w O U=>?_;refine Zj 1 (fun a U ay=>?_) fun a U ay=>?_
 ·exact absurd ((Ir ht (k:=2) (by rw[hk];decide)).symm.trans ay) ai
 refine Xb 4 [1] fun b3 a w O U=>?_;refine Yc 0 (iT _ _ _ _ _ _ _ (St.aB O) (hT.aV O) hp.hn hp.bz _ _ (O.c6 (l:=[5]) 0 rfl)) fun a w O U=>?_;refine Zj 1 (fun a U aF=>?_) fun a U aF=>?_
 ·exact absurd ((Ir ht (k:=5) (by rw[hk];decide)).symm.trans aF) ai
 refine Xb 4 [1] fun b4 a w O U=>?_;refine Yc 0 (iT _ _ _ _ _ _ _ (St.aB O) (hT.aV O) hp.hn hp.bz _ _ (O.c6 (l:=[6]) 0 rfl)) fun a w O U=>?_;refine Zj 1 (fun a U aT=>?_) fun a U aT=>?_
 ·exact absurd ((Ir ht (k:=6) (by rw[hk];decide)).symm.trans aT) ai
 refine Yc 3 (ui _ (St.aB O) (hT.aV O) hp h1) fun a w O U=>?_;refine Zj 1 (fun a U bl=>?_) fun a U bl=>?_
 ·exact absurd bl ai
 refine Yc 3 (ui _ (St.aB O) (hT.aV O) hp h2) fun a w O U=>?_;refine Zj 1 (fun a U bN=>?_) fun a U bN=>?_
 ·exact absurd bN ai
 refine Yc 3 (HS _ hp Ho EI (St.aB O) (hT.aV O)) fun t26 _ a w O U=>?_;refine Yc 2 (hi (St.aB O) (hT.aV O)) fun x hx a w O U=>?_;refine Xb 5 [1] fun v28 a w O U=>?_;refine Yc 0 (HS _ c7 nC vF (St.aB O) (hT.aV O)) fun t29 _ a w O U=>?_;refine Zs 2 fun a w O U=>?_;refine Zr 0 ?_;have O:=O.d [1,2,2,2,2,2,2];exact⟨x,hx,rfl,O⟩
def af0 {T b:Nat}{vs:Value}{tl:List Tok}{n n1:Nat}{dp d1:Int}{Q:W→Prop}(hb:CX b T vs tl 175 n dp n1 d1 Q)(hp:Pos tl n dp)(iy:Pos tl n1 d1)(c0:∀wd,bk (aN tl n dp) [wd]=false)(c1:jz (aN tl n dp)=false)(c2:jz (aN tl n1 d1)=false)(c3:bk (aN tl n1 d1) [[44]]=false)(t:Tok){Z:World}(hA:bT Z [aX b T vs n dp])(hT:aG Z (az [aX b T vs n dp]) vs aM tl):aH prog 245 #[ptr (aa b),.agg (aM.cells t).toArray] Z (fun v w'=>∃x,Q x∧v=.agg (av.cells x).toArray∧St Z (az [aX b T vs n dp]) w' [aX b T vs n1 d1,nE 28 x]):=by
 have O:=St.init hA;refine aS func245 ntmps245 fun a U=>?_;refine Zb 1 fun tk a w O U=>?_;refine Zb 4 fun v1 a w O U=>?_;refine Xb 1 [3] fun b1 a w O U=>?_;refine Yc 0 (fi _ _ _ _ _ _ _ (St.aB O) (hT.aV O) hp.hn hp.bz _ _ (O.c6 (l:=[[41]]) 0 rfl)) fun a w O U=>?_;refine Zj 1 (fun a U ao=>?_) fun a U ao=>?_
 ·exact absurd ((c0 _).symm.trans ao) ai
 refine Xb 4 [1] fun b2 a w O U=>?_;refine Yc 0 (fi _ _ _ _ _ _ _ (St.aB O) (hT.aV O) hp.hn hp.bz _ _ (O.c6 (l:=[[44]]) 0 rfl)) fun a w O U=>?_;refine Zj 1 (fun a U ay=>?_) fun a U ay=>?_
 ·exact absurd ((c0 _).symm.trans ay) ai
 refine Yc 1 (Ad (St.aB O) (hT.aV O) hp) fun a w O U=>?_;refine Zj 1 (fun a U aF=>?_) fun a U aF=>?_
 ·exact absurd (c1.symm.trans aF) ai
 refine Yc 1 (hb (St.aB O) (hT.aV O)) fun x hx a w O U=>?_;refine Xb 2 [0,1] fun b7 a w O U=>?_;have O:=St.b0 (T:=28) [x] O;have O:=(O.d [3,3]).q [2];refine cl (fun (s:Nat) a w'=>St Z (az [aX b T vs n dp]) w' [aX b T vs n1 d1,ax (aC.v ⟨some (aa b7),1,1⟩) 28 av [x],an.bx (([x]:List W).map (nE 28)),.ob v1 28 (av.cells bH),.ob tk 44 (aM.cells t)]∧Fr a 117 [(0,ptr (aa b)),(3,ptr (aa tk)),(4,ptr (aa v1)),(7,(aC.v ⟨some (aa b7),1,1⟩))]) (fun s=>s) 0 ⟨O,U.su⟩ ?_;rintro s a w ⟨O,U⟩;refine Yc 1 (Ad (St.aB O) (hT.aV O) iy) fun a w O U=>?_;refine Zj 0 (fun bN=>?_) fun bN=>?_
 ·exact absurd (c2.symm.trans bN) ai
 refine Zv 1 fun a U=>?_;have O:=O.q [1,1];refine Yc 0 (VE x ⟨some (aa b7),1,1⟩ _ (St.aI O)) fun a w O U=>?_;refine Zb 2 fun b11 a w O U=>?_;have O:=St.b0 (T:=28) [x] O;have O:=O.q [2];refine cl (fun (s:Nat) a w'=>St Z (az [aX b T vs n dp]) w' [aX b T vs n1 d1,ax (aC.v ⟨some (aa b11),1,1⟩) 28 av [x],an.bx (([x]:List W).map (nE 28)),.ob v1 28 (av.cells bH),.ob tk 44 (aM.cells t)]∧Fr a 117 [(0,ptr (aa b)),(3,ptr (aa tk)),(4,ptr (aa v1)),(7,(aC.v ⟨some (aa b11),1,1⟩))]) (fun s=>s) 0 ⟨O,U.su⟩ ?_;rintro s a w ⟨O,U⟩;refine Zg 1 (bA (O.rd 1 rfl)) fun a U=>?_;refine Zv 2 fun a U=>?_;refine ct U rfl rfl rfl rfl (da aw) ?_;refine Zv 1 fun a U=>?_;refine ct U rfl rfl rfl rfl (da aw) ?_;refine Zv 1 fun a U=>?_;refine ct U rfl rfl rfl rfl (da aw) ?_;refine Zv 1 fun a U=>?_;refine ct U rfl rfl rfl rfl (da aw) ?_;refine Yc 0 (ui _ (St.aB O) (hT.aV O) iy c3) fun a w O U=>?_;refine aZ U (jA rfl ((U.af rfl).trans (congrArg Value.bool (decide_eq_true aw))) (U.af rfl)) fun a U=>?_;refine Zj 0 (fun gE=>?_) fun gE=>?_
 ·exact absurd gE ai
 refine Zg 1 (bA (O.rd 1 rfl)) fun a U=>?_;refine Zi 1 (fun a U ic=>?_) fun a U ic=>?_
 ·exact absurd ic aw
 refine Zg 1 (bw 0 (O.rd 1 rfl) aw) fun a U=>?_;refine Zh 0 (O.bW 1 rfl) rfl fun a U=>?_;refine Zs 1 fun a w O U=>?_;refine Zr 0 ?_;have O:=O.q [2];have O:=St.qm (x:=x) O;have O:=(O.d [2,2,2]).q [1];exact⟨x,hx,rfl,O⟩
def yR (Q:W→Prop)(e:X)(z:W):Prop:=∃x r l c h,Q x∧r.er=e∧z=W.mk 15 [] 0 l c h [x,r]
def agk {T b:Nat}{vs:Value}{tl:List Tok}{n n1 n2:Nat}{dp d1 d2:Int}{Q:W→Prop}{e:X}(hx:CX b T vs tl 143 n dp n1 d1 Q)(iy:Pos tl n1 d1)(k:Nat)(hr:qo k [61] (aN tl n1 d1)=.ok (e,aN tl n2 d2))(XR:n2≤tl.length):CX b T vs tl 107 n dp n2 d2 (yR Q e):=by
 intro Z hA hT;have O:=St.init hA;refine aS func107 ntmps107 fun a U=>?_;refine Xb 2 [1] fun v1 a w O U=>?_;refine Yc 0 (hx (St.aB O) (hT.aV O)) fun x2 tc a w O U=>?_;refine Zb 2 fun v3 a w O U=>?_;refine Zo 0 [0,3] [1,2,1,0,2,3,3,3] gB fun w O=>?_;refine Yk 1 (de _ _) fun a w O U=>?_;refine Zv 2 fun a U=>?_;have O:=O.q [1];refine Yk 0 (RH hr XR ((yH k).rhs _ (St.aB O) (hT.aV O) iy (by rw[hr];exact fun h=>nomatch h))) fun x4 tP a w O U=>?_;refine Zb 1 fun b1 a w O U=>?_;refine Yc 0 (bc [x2,x4] ⟨some (aa b1),2,2⟩ _ _ _ _) fun x5 lI a w O U=>?_;refine Xs 1 [0,3,1] fun a w O U=>?_;have O:=St.b0 (T:=28) [x2,x4] O;have O:=St.aP (T:=28) lI O;refine Zr 0 ?_;have O:=(O.d [2,2]).q [1];exact⟨x5,⟨x2,x4,_,_,_,tc,tP,lI⟩,rfl,O⟩
def alB {T b:Nat}{vs:Value}{tl:List Tok}{n n1:Nat}{dp d1:Int}{Q:W→Prop}(hx:CX b T vs tl 107 n dp n1 d1 Q)(hp:Pos tl n dp){t:Tok}(ht:tl[n]?=some t)(c0:∀ws,bk (aN tl n dp) ws=false):CX b T vs tl 54 n dp n1 d1 Q:=by
 intro Z hA hT;have O:=St.init hA;refine aS func54 ntmps54 fun a U=>?_;refine Xb 4 [1] fun v1 a w O U=>?_;refine Yc 0 (HL (St.aB O) (hT.aV O) hp ht) fun a w O U=>?_;refine Zb 5 fun v3 a w O U=>?_;refine Xb 1 [2] fun b1 a w O U=>?_;refine Yc 0 (fi _ _ _ _ _ _ _ (St.aB O) (hT.aV O) hp.hn hp.bz _ _ (O.c6 (l:=[[100,97,116,97]]) 0 rfl)) fun a w O U=>?_;refine Zj 1 (fun a U ao=>?_) fun a U ao=>?_
 ·exact absurd ((c0 _).symm.trans ao) ai
 refine Xb 4 [1] fun b2 a w O U=>?_;refine Yc 0 (fi _ _ _ _ _ _ _ (St.aB O) (hT.aV O) hp.hn hp.bz _ _ (O.c6 (l:=[[99,108,97,115,115]]) 0 rfl)) fun a w O U=>?_;refine Zj 1 (fun a U ay=>?_) fun a U ay=>?_
 ·exact absurd ((c0 _).symm.trans ay) ai
 refine Xb 4 [1] fun b3 a w O U=>?_;refine Yc 0 (fi _ _ _ _ _ _ _ (St.aB O) (hT.aV O) hp.hn hp.bz _ _ (O.c6 (l:=[[105,110,115,116,97,110,99,101]]) 0 rfl)) fun a w O U=>?_;refine Zj 1 (fun a U aF=>?_) fun a U aF=>?_
 ·exact absurd ((c0 _).symm.trans aF) ai
 refine Xb 4 [1] fun b4 a w O U=>?_;refine Yc 0 (fi _ _ _ _ _ _ _ (St.aB O) (hT.aV O) hp.hn hp.bz _ _ (O.c6 (l:=[[105,110,102,105,120,108],[105,110,102,105,120,114],[105,110,102,105,120]]) 0 rfl)) fun a w O U=>?_;refine Zj 1 (fun a U aT=>?_) fun a U aT=>?_
 ·exact absurd ((c0 _).symm.trans aT) ai
 refine Yc 1 (hx (St.aB O) (hT.aV O)) fun x hx a w O U=>?_;refine Zs 1 fun a w O U=>?_;refine Zr 0 ?_;have O:=O.d [2,2,2,2,2,2];exact⟨x,hx,rfl,O⟩
def aeg {T b:Nat}{vs:Value}{tl:List Tok}{n n1:Nat}{dp d1:Int}{td tp ti:Nat}{x:MS}{Q:W→Prop}(hd:CX b T vs tl 54 n dp n1 d1 Q)(h0:x.ld.length=0)(hp:Pos tl n dp)(iy:Pos tl n1 d1)(c0:∀ws,bk (aN tl n dp) ws=false){Z:World}(hA:bT Z [aX b T vs n dp,lY b 28 td tp ti x])(hT:aG Z (az [aX b T vs n dp,lY b 28 td tp ti x]) vs aM tl):aH prog 50 #[ptr (aa td),ptr (aa tp),ptr (aa ti)] Z (fun v w'=>∃(d:W) (h':aC),Q d∧v=.agg (av.cells bH).toArray∧St Z (az [aX b T vs n dp,lY b 28 td tp ti x]) w' [aX b T vs n1 d1,lY b 28 td tp ti ⟨x.li,x.hi,x.ld++[d],h'⟩]):=by
 have O:=St.init hA;have O:=O.pull 1 rfl;have O:=St.ungroup (A:=[_,_,_,_,_,_,_]) O;have O:=O.nm;refine aS func50 ntmps50 fun a U=>?_;refine Zb 2 fun v1 a w O U=>?_;refine Zg 0 (bA (O.rd 4 rfl)) fun a U=>?_;refine Zv 2 fun a U=>?_;refine Xb 9 [9] fun b1 a w O U=>?_;refine Yc 0 (fi _ _ _ _ _ _ _ (St.aB O) (hT.aV O) hp.hn hp.bz _ _ (O.c6 (l:=[[105,109,112,111,114,116]]) 0 rfl)) fun a w O U=>?_;refine aZ U (jA rfl ((U.af rfl).trans (congrArg Value.bool (decide_eq_true V))) (U.af rfl)) fun a U=>?_;refine Zj 0 (fun ao=>?_) fun ao=>?_
 ·exact absurd ((c0 _).symm.trans ao) ai
 have O:=O.drew;refine jC iD ?_;refine dy 2 4 rfl ?_ ?_
 ·refine dy 7 8 rfl ?_ ?_
  ·refine Zq [2,3,4,5] [1,1,2,0,2,3,0,3,3] [0,1,3,2,4,5,6,7,8] ?_;refine Zg 2 (bA (O.rd 6 rfl)) fun a U=>?_;refine Yk 0 (hd (St.aB O) (hT.aV O)) fun x37 q37 a w O U=>?_;refine Zb 1 fun b18 a w O U=>?_;refine Za 0 (cR [bH] 8 0 iy.nL) fun B9 a w O U=>?_;have O:=O.d [0];refine Zg 0 (bw x.ld.length (O.rd 7 rfl) aw) fun a U=>?_;refine fF rfl U (gb (m:=x.ld.length) (off:=0) (q:=x37) O (i:=7) rfl sizeOf28 rfl (U.af rfl) rfl (U.af rfl) rfl (jE x.ld) rfl (cX rfl) rfl (fA rfl)) ?_;rintro a _ w ⟨-,O⟩ U;have O:=O.nm;have O:=St.jy (T:=28) (i:=7) (l:=x.ld) (h:=B9) (x:=x37) O rfl;have O:=O.nm;refine Xs 1 [1] fun a w O U=>?_;have O:=St.eV (T:=28) (l:=x.ld) O 7 rfl;have O:=O.nm;refine Zs 2 fun a w O U=>?_;refine Zr 0 ?_;have O:=O.d [1,1];exact⟨x37,B9,q37,rfl,j8 O⟩
  ·refine Zq [2,3,4,5] [1,1,2,0,2,3,0,3,3] [0,1,3,2,4,5,6,8,7] ?_;refine Zg 2 (bA (O.rd 6 rfl)) fun a U=>?_;refine Yk 0 (hd (St.aB O) (hT.aV O)) fun x40 q40 a w O U=>?_;refine Zb 1 fun b19 a w O U=>?_;refine Za 0 (cR [bH] 8 0 iy.nL) fun CV a w O U=>?_;have O:=O.d [0];refine Zg 0 (bw x.ld.length (O.rd 7 rfl) aw) fun a U=>?_;refine Zs 1 fun a w O U=>?_;refine fF rfl U (gb (m:=x.ld.length) (off:=0) (q:=x40) O (i:=7) rfl sizeOf28 rfl (U.af rfl) rfl (U.af rfl) rfl (jE x.ld) rfl (cX rfl) rfl (fA rfl)) ?_;rintro a _ w ⟨-,O⟩ U;have O:=O.nm;have O:=St.jy (T:=28) (i:=7) (l:=x.ld) (h:=CV) (x:=x40) O rfl;have O:=O.nm;have O:=O.q [1];have O:=St.eV (T:=28) (l:=x.ld) O 7 rfl;have O:=O.nm;refine Zs 2 fun a w O U=>?_;refine Zr 0 ?_;have O:=O.d [1,1];exact⟨x40,CV,q40,rfl,j8 O⟩
 ·refine dy 7 8 rfl ?_ ?_
  ·refine Zq [2,3,4,5] [1,1,2,0,2,3,0,3,3] [0,1,3,4,2,5,6,7,8] ?_;refine Zg 2 (bA (O.rd 6 rfl)) fun a U=>?_;refine Xb 1 [1] fun b20 a w O U=>?_;refine Yk 0 (hd (St.aB O) (hT.aV O)) fun x43 q43 a w O U=>?_;refine Za 0 (cR [bH] 8 2 iy.nL) fun Cx a w O U=>?_;have O:=O.d [2];refine Zg 0 (bw x.ld.length (O.rd 7 rfl) aw) fun a U=>?_;refine fF rfl U (gb (m:=x.ld.length) (off:=0) (q:=x43) O (i:=7) rfl sizeOf28 rfl (U.af rfl) rfl (U.af rfl) rfl (jE x.ld) rfl (cX rfl) rfl (fA rfl)) ?_;rintro a _ w ⟨-,O⟩ U;have O:=O.nm;have O:=St.jy (T:=28) (i:=7) (l:=x.ld) (h:=Cx) (x:=x43) O rfl;have O:=O.nm;refine Xs 1 [1] fun a w O U=>?_;have O:=St.eV (T:=28) (l:=x.ld) O 7 rfl;have O:=O.nm;refine Zs 2 fun a w O U=>?_;refine Zr 0 ?_;have O:=O.d [1,1];exact⟨x43,Cx,q43,rfl,j8 O⟩
  ·refine Zq [2,3,4,5] [1,1,2,0,2,3,0,3,3] [0,1,3,4,2,5,6,8,7] ?_;refine Zg 2 (bA (O.rd 6 rfl)) fun a U=>?_;refine Xb 1 [1] fun b21 a w O U=>?_;refine Yk 0 (hd (St.aB O) (hT.aV O)) fun x46 q46 a w O U=>?_;refine Za 0 (cR [bH] 8 2 iy.nL) fun wD a w O U=>?_;have O:=O.d [2];refine Zg 0 (bw x.ld.length (O.rd 7 rfl) aw) fun a U=>?_;refine Zs 1 fun a w O U=>?_;refine fF rfl U (gb (m:=x.ld.length) (off:=0) (q:=x46) O (i:=7) rfl sizeOf28 rfl (U.af rfl) rfl (U.af rfl) rfl (jE x.ld) rfl (cX rfl) rfl (fA rfl)) ?_;rintro a _ w ⟨-,O⟩ U;have O:=O.nm;have O:=St.jy (T:=28) (i:=7) (l:=x.ld) (h:=wD) (x:=x46) O rfl;have O:=O.nm;have O:=O.q [1];have O:=St.eV (T:=28) (l:=x.ld) O 7 rfl;have O:=O.nm;refine Zs 2 fun a w O U=>?_;refine Zr 0 ?_;have O:=O.d [1,1];exact⟨x46,wD,q46,rfl,j8 O⟩
def gq:List Tok:=[⟨7,[109,111,100,117,108,101],0,1,1⟩,⟨2,[77],0,1,8⟩,⟨7,[119,104,101,114,101],0,1,10⟩,⟨8,[123],1,2,1⟩,⟨1,[103],0,2,1⟩,⟨8,[40],0,2,3⟩,⟨1,[102],0,2,4⟩,⟨1,[120],0,2,6⟩,⟨8,[41],0,2,7⟩,⟨8,[61],0,2,9⟩,⟨5,[49],1,2,11⟩,⟨8,[125],1,3,1⟩,⟨9,[],0,3,1⟩]
def gR {n:Nat}{d:Int}(hn:n≤13)(lo: -(n:Int)≤d)(hi:d≤64):Pos gq n d:=⟨hn,ai,lo,hi⟩
def oK:X:=match qo 30 [61] (aN gq 9 1) with
 | .ok (e,_)=>e
 | .error _=>cc
def anj:qo 30 [61] (aN gq 9 1)=.ok (oK,aN gq 11 1):=by kernel_rfl
abbrev zm:W→Prop:=u3 (qG [103] 2 1) (u3 (qG [102] 2 4) (qG [120] 2 6))
def MR {b T:Nat}{vs:Value}{n:Nat}{d:Int}(hp:Pos gq n d)(iy:Pos gq (n+1) d){t:Tok}(ht:gq[n]?=some t)(hk:dH (aN gq n d) [1]=true)(hf:bk (aN gq (n+1) d) [[64]]=false)(h2:lM (aN gq (n+1) d) [123]=false):CX b T vs gq 217 n d (n+1) d (qG t.text t.line t.bh):=
 Pb (fun hA hT=>apg hA hT hp ht hk hf) iy h2
def aiM {b T:Nat}{vs:Value}:CX b T vs gq 175 6 2 8 2 (u3 (qG [102] 2 4) (qG [120] 2 6)):=
 S7 (t:=⟨1,[102],0,2,4⟩) (VF (MR (n:=6) (t:=⟨1,[102],0,2,4⟩) (gR ai ai ai) (gR ai ai ai) rfl rfl rfl rfl) (MR (n:=7) (t:=⟨1,[120],0,2,6⟩) (gR ai ai ai) (gR ai ai ai) rfl rfl rfl rfl) (gR ai ai ai) (gR ai ai ai) rfl rfl) (gR ai ai ai) rfl ai (gR ai ai ai)
def afP {b T:Nat}{vs:Value}:CX b T vs gq 217 5 1 9 1 (u3 (qG [102] 2 4) (qG [120] 2 6)):=
 Pb (amH (t:=⟨8,[40],0,2,3⟩) (n1:=6) (d1:=2) (n2:=8) (d2:=2) (gR ai ai ai) rfl rfl rfl rfl rfl ai (fun hA hT=>af0 aiM (gR ai ai ai) (gR ai ai ai) (fun _=>Fq (t:=⟨1,[102],0,2,4⟩) rfl ai) rfl rfl rfl _ hA hT) (gR ai ai ai) rfl ai) (gR ai ai ai) rfl
def alX {b T:Nat}{vs:Value}:CX b T vs gq 54 4 1 11 1 (yR zm oK):=
 alB (t:=⟨1,[103],0,2,1⟩) (agk (amC (S7 (t:=⟨1,[103],0,2,1⟩) (VF (MR (n:=4) (t:=⟨1,[103],0,2,1⟩) (gR ai ai ai) (gR ai ai ai) rfl rfl rfl rfl) afP (gR ai ai ai) (gR ai ai ai) rfl rfl) (gR ai ai ai) rfl ai (gR ai ai ai)) (gR ai ai ai) rfl) (gR ai ai ai) 30 anj ai) (gR ai ai ai) rfl fun _=>Fq (t:=⟨1,[103],0,2,1⟩) rfl ai
def alQ {d:W}(h:yR zm oK d):d.er=ag 15 [] [ag 22 [] [ag 18 [103] [],ag 22 [] [ag 18 [102] [],ag 18 [120] []]],oK]:=by
 obtain⟨_,r,l,c,h,⟨_,_,_,_,_,rfl,⟨_,_,_,_,_,rfl,rfl,rfl⟩,rfl⟩,hr,rfl⟩:=h;simp only[bM,bf,bX,hr]
 rfl
def D9 (b:List X×List X):PM (List X×List X):=fun s=>if b.1.isEmpty&&b.2.isEmpty&&decide (s.r.length=9∧s.deep=1) then mV 30 b s else .error (-1)
def TJ (x:MS)(n:Nat):Prop:=x.Ok n∧x.li=[]∧(x.ld=[]∨∃d,x.ld=[d]∧yR zm oK d)
def afU:mV 30 ([],[]) (aN gq 4 1)=.ok (([],[ag 15 [] [ag 22 [] [ag 18 [103] [],ag 22 [] [ag 18 [102] [],ag 18 [120] []]],oK]]),aN gq 11 1):=by kernel_rfl
def aev {b td tp ti:Nat}:Ky gq b 50 ([]++[]++[ptr (aa td),ptr (aa tp),ptr (aa ti)]) (lY b 28 td tp ti) MS.er TJ D9:=by
 intro T vs n dp Z x hA hT hp aW hok;have hc:(x.er.1.isEmpty&&x.er.2.isEmpty&&decide ((aN gq n dp).r.length=9∧(aN gq n dp).deep=1))=true:=by
  cases hb:(x.er.1.isEmpty&&x.er.2.isEmpty&&decide ((aN gq n dp).r.length=9∧(aN gq n dp).deep=1)) with
  |true=>rfl
  |false=>exact absurd (by unfold D9;rw[hb];rfl) aW
 simp only[aQ,cx,MS.er,dQ,List.map_eq_nil_iff] at hc;obtain⟨⟨h1,h2⟩,h3,h4⟩:=hc;obtain⟨li,hi,ld,hd⟩:=x;obtain rfl:li=[]:=h1;obtain rfl:ld=[]:=h2;obtain rfl:dp=1:=h4;obtain rfl:n=4:=by
  have:=hp.hn;simp only[aN,dW,List.length_drop] at h3;have e:gq.length=13:=rfl;omega
 refine Calls.mono (aeg alX rfl hp (gR (n:=11) ai ai ai) (fun _=>Fq (t:=⟨1,[103],0,2,1⟩) rfl ai) hA hT) ?_;rintro _ w' ⟨v,rfl,d,h',hq,rfl,hS⟩;refine .inl ⟨_,rfl,⟨[],hi,[d],h'⟩,11,1,?_,ai,gR ai ai ai,⟨⟨dN _,aw⟩,rfl,.inr ⟨d,rfl,hq⟩⟩,rfl,hS⟩;show mV 30 ([],[]) (aN gq 4 1)=.ok (([],[d.er]),aN gq 11 1);rw[alQ hq];exact afU
def akt:px D9 30 ([],[]) (aN gq 3 0)=.ok (([],[ag 15 [] [ag 22 [] [ag 18 [103] [],ag 22 [] [ag 18 [102] [],ag 18 [120] []]],oK]]),aN gq 12 0):=by kernel_rfl
def acT {T b td tp ti:Nat}{vs:Value}{Z:World}(hA:bT Z [aX b T vs 3 0,lY b 28 td tp ti ⟨[],bj,[],bj⟩])(hT:aG Z (az [aX b T vs 3 0,lY b 28 td tp ti ⟨[],bj,[],bj⟩]) vs aM gq):aH prog 49 #[ptr (aa b),.func (.func 50) #[] #[ptr (aa td),ptr (aa tp),ptr (aa ti)]] Z (fun v w'=>∃(d:W) (hi hd:aC),yR zm oK d∧St Z (az [aX b T vs 3 0,lY b 28 td tp ti ⟨[],bj,[],bj⟩]) w' [aX b T vs 12 0,lY b 28 td tp ti ⟨[],hi,[d],hd⟩]):=by
 have e:px D9 30 (MS.er ⟨[],bj,[],bj⟩) (aN gq 3 0)=_:=akt;refine fZ.no (Rf (lY b 28 td tp ti) MS.er 50 [] [ptr (aa td),ptr (aa tp),ptr (aa ti)] call50 TJ (fun x m m2 h hx=>⟨MS.VM x m m2 h hx.1,hx.2⟩) D9 30 ⟨⟨dN _,dN _⟩,rfl,.inl rfl⟩ aev hA hT (gR ai ai ai) (by rw[e];exact fun h=>nomatch h)) ?_ ?_
 ·rintro v w' ⟨l,c,x,n',d',h,-⟩;rw[e] at h;exact nomatch h
 ·rintro v w' ⟨⟨li,hi,ld,hd⟩,n',d',h,-,hp',⟨-,hl,hk⟩,hS⟩;have h:=Except.ok.inj (e.symm.trans h);obtain⟨rfl,rfl⟩:=KX ai hp'.hn (congrArg Prod.snd h);obtain rfl:li=[]:=hl;rcases hk with rfl| ⟨d,rfl,hq⟩
  ·exact nomatch congrArg (fun x=>x.1.2) h
  ·exact⟨d,hi,hd,hq,hS⟩
def Vd (x:W):Prop:=∃nm e d l c h hi hd,e.er=cc∧yR zm oK d∧x=W.mk 2 nm 0 l c h [e,W.mk 1 [] 0 0 0 hi [],W.mk 1 [] 0 0 0 hd [d]]
def ajz {b T:Nat}{vs:Value}:CX b T vs gq 15 0 0 13 0 Vd:=by
 intro Z hA hT;have O:=St.init hA;refine aS func15 ntmps15 fun a U=>?_;refine Zb 1 fun tp a w O U=>?_;refine Xb 4 [2] fun v1 a w O U=>?_;refine Yc 0 (HS _ (n1:=1) (d1:=0) (gR ai ai ai) rfl ai (St.aB O) (hT.aV O)) fun t2 _ a w O U=>?_;refine Xb 5 [1] fun v3 a w O U=>?_;refine Yc 0 (OX (n1:=2) (d1:=0) rfl ai (mu 2 (St.aB O) (hT.aV O) (gR ai ai ai) (fun h=>nomatch h))) fun t4 _ a w O U=>?_;refine Yc 3 (RH (n1:=2) (d1:=0) rfl ai (sJ 30 (St.aB O) (hT.aV O) (gR ai ai ai) (fun h=>nomatch h))) fun x5 lI a w O U=>?_;refine Xb 5 [1] fun v6 a w O U=>?_;refine Yc 0 (HS _ (n1:=3) (d1:=0) (gR ai ai ai) rfl ai (St.aB O) (hT.aV O)) fun t7 _ a w O U=>?_;refine Zb 1 fun ti a w O U=>?_;have O:=O.eI 28 6;have O:=St.iv (T:=28) O;have O:St _ _ _ (_::ax (aC.v bj) 28 av ([]:List W)::[_,_,_,_,_,_,_]):=O;refine Zb 1 fun td a w O U=>?_;have O:=O.eI 28 6;have O:=St.iv (T:=28) O;have O:St _ _ _ (_::ax (aC.v bj) 28 av ([]:List W)::[_,_,_,_,_,_,_,_,_,_]):=O;refine Zv 2 fun a U=>?_;have O:=O.q [6,2,9,4,1,0,1];have O:=j8 (b:=b) (x:=⟨[],bj,[],bj⟩) O;refine Zc 0 (acT (St.aI O) (hT.df O)) ?_;rintro a _ w ⟨d,hi,hd,hq,hS⟩ U;have O:=O.call2 hS;have O:=UY O;have O:=O.nm;refine Zv 3 fun a U=>?_;have O:=O.q [7];refine Yc 0 (OX (n1:=13) (d1:=0) rfl ai (mu 9 (St.aB O) (hT.aV O) (gR ai ai ai) (fun h=>nomatch h))) fun t9 _ a w O U=>?_;refine Zo 0 [1,2,3,8,10,11] [1,0,1,1,2,1,2,2,3,3] ly fun w O=>?_;refine Yk 4 (cI [] hi _) fun x10 iA a w O U=>?_;refine Yk 1 (cI [d] hd _) fun x11 oR a w O U=>?_;refine Zb 1 fun b1 a w O U=>?_;refine Yc 0 (bc [x5,x10,x11] ⟨some (aa b1),3,3⟩ _ _ _ _) fun x12 jt a w O U=>?_;refine Xs 1 [7,7] fun a w O U=>?_;have O:=St.aP (T:=28) iA O;have O:=O.q [6,6];have O:=St.aP (T:=28) oR O;have O:=O.q [2,7,1];have O:=St.b0 (T:=28) [x5,x10,x11] O;have O:=St.aP (T:=28) jt O;refine Zr 0 ?_;have O:=(O.d [2,2,2,2,2,2]).q [1];exact⟨x12,⟨_,x5,d,_,_,_,hi,hd,lI,hq,by rw[jt,iA,oR]⟩,rfl,O⟩
def ale {fb:Nat}{la lb:Int}(x:W){Z:World}(hA:bT Z [FE 56 fb la lb false]):aH prog 57 #[ptr (aa fb),.agg (av.cells x).toArray] Z (fun v w'=>St Z (az [FE 56 fb la lb false]) w' [FE 56 fb x.line x.bh true]):=by
 have O:=St.init hA;refine aS func57 ntmps57 fun a U=>?_;refine Zb 1 fun v1 a w O U=>?_;have O:=O.drew;refine Pf [0,0,0,0,1,0,0,0,1,0,0,0,0,1,0,0,0,0,1,0,0,0,0,1,0,0,0,1,0,0,0,0,1,0,0,0] [0,1,3,7,15,31,63,127,255,127,639,1663,3711,7807,16383,32767,65535,131071,262143,131071,655359,1703935,3801087,7995391,16777215,33554431,67108863,134217727,67108863,335544319,872415231,1946157055,4093640703,8589934591,17179869183,34359738367] (fun w=>St _ _ w _) iD eE O ?_;refine Zw 34 fun a U=>?_;refine zq U rfl rfl rfl rfl rfl rfl (fun hg w=>j3 rfl ((U.af rfl).trans (a6 hg)) rfl (fun dV=>((U.af rfl).trans (tE hg dV))) rfl) fun a U=>?_;refine Zi 1 (fun a U ao=>?_) fun a U ao=>?_
 ·refine Zv 8 fun a U=>?_;refine kv U (EK (k:=0) O (i:=1) rfl sizeOf31 rfl (U.af rfl) (U.af rfl) rfl (cX rfl) (fA rfl)) ?_;rintro a _ w ⟨-,O⟩ U;have O:=O.nm;refine Zr 0 ?_;have O:=O.d [0];exact O
 ·exact absurd aw ao
def wfV (s:List UInt8):gh (.mk 18 s 0 []):=⟨by simp [aL,aJ],wY.2 ⟨(show (0:Int)≤18∧(18:Int)≤100 from ai),fun h=>absurd h (show ¬(18:Int)=23 from ai),fun a ha=>by cases ha⟩⟩
def ac9 {fb:Nat}{la lb:Int}{p:aR}{x:W}{Z:World}(hA:bT Z [FE 56 fb la lb false,bO p])(hx:p.has x)(hq:u3 (qG [102] 2 4) (qG [120] 2 6) x):aH prog 111 #[ptr (aa fb),.agg (av.cells x).toArray] Z (fun v w'=>∃y:W,v=.agg (av.cells y).toArray∧St Z (az [FE 56 fb la lb false,bO p]) w' [FE 56 fb 2 4 true]):=by
 have O:=St.init hA;obtain⟨_,_,l,c,h,rfl,rfl,rfl⟩:=hq;refine aS func111 ntmps111 fun a U=>?_;refine Zb 1 fun v1 a w O U=>?_;refine Zb 5 fun v2 a w O U=>?_;refine Zi 0 (fun ao=>?_) fun ao=>?_
 ·exact absurd ao (show ¬(22:Int)=24 from ai)
 refine Zi 2 (fun a U aF=>?_) fun a U aF=>?_
 ·exact absurd aF (show ¬(22:Int)=37 from ai)
 refine Zi 2 (fun a U aT=>?_) fun a U aT=>?_
 ·refine Zb 4 fun v14 a w O U=>?_;have O:=O.kN 28;have O:=O.q [4,4,1,2,1];refine cl (fun (s:Nat×W×List W×aC×aR×Int×Int) a w'=>match s with| (j,hh,ac,ha,q,la2,lb2)=>(j=1∧hh=W.mk 22 [] 0 l c h [W.mk 18 [102] 0 2 4 bj [],W.mk 18 [120] 0 2 6 bj []]∧ac=[]∧q.has hh∨j=0∧hh=W.mk 18 [102] 0 2 4 bj [])∧St Z (az [FE 56 fb la lb false,bO p]) w' [FE 56 fb la2 lb2 false,bO q,.ob v14 28 (av.cells hh),.ob v1 28 (av.cells (W.mk 22 [] 0 l c h [W.mk 18 [102] 0 2 4 bj [],W.mk 18 [120] 0 2 6 bj []])),.ob v2 28 (av.cells bH),ax ha.v 28 av ac]∧Fr a 93 [(0,ptr (aa fb)),(3,ptr (aa v1)),(4,ptr (aa v2)),(5,ptr (aa v14)),(6,(aC.v ha))]) (fun (s:Nat×W×List W×aC×aR×Int×Int)=>match s with| (j,hh,ac,ha,q,la2,lb2)=>j) (1,_,([]:List W),bj,p,la,lb) ⟨.inl ⟨rfl,rfl,rfl,hx⟩,O,U.su⟩ ?_;rintro⟨j,hh,ac,ha,q,la2,lb2⟩ a w ⟨hex,O,U⟩;rcases hex with ⟨rfl,rfl,rfl,hX⟩| ⟨rfl,rfl⟩
  ·refine Zi 3 (fun a U bm=>?_) fun a U bm=>?_
   ·refine Zg 3 (b_ (O.du 1 rfl hX) (i:=1) rfl) fun a U=>?_;refine Zh 0 hX (show [W.mk 18 [102] 0 2 4 bj [],W.mk 18 [120] 0 2 6 bj []][1]?=some (W.mk 18 [120] 0 2 6 bj []) from rfl) fun a U=>?_;have X19:q.has (W.mk 18 [120] 0 2 6 bj []):=aR.elem hX (i:=1) rfl;refine Yc 0 ((vY 5).pat (St.aI O) X19 (wfV [120]) (d:=false) rfl) fun y21 adE al7 p21 _ Dr X21 a w O U=>?_;refine Zb 1 fun b2 a w O U=>?_;have O:=O.dJ [y21];refine Za 1 (cR ([]:List W) 0 6 trivial) fun wg a w O U=>?_;have O:=O.d [6];have X27:=Dr.S _ _ hX;refine Zg 3 (b_ (O.du 2 rfl X27) (i:=0) rfl) fun a U=>?_;refine Zh 0 X27 (show [W.mk 18 [102] 0 2 4 bj [],W.mk 18 [120] 0 2 6 bj []][0]?=some (W.mk 18 [102] 0 2 4 bj []) from rfl) fun a U=>?_;refine Xs 1 [1,1,1,1,1] fun a w O U=>?_;exact⟨(0,_,_,wg,p21,_,_),⟨.inr ⟨rfl,rfl⟩,O,U.su⟩,Nat.zero_lt_one⟩
   ·exact absurd rfl bm
  ·refine Zi 3 (fun a U bm=>?_) fun a U bm=>?_
   ·exact absurd bm ai
   refine Zi 3 (fun a U bl=>?_) fun a U bl=>?_
   ·refine Zc 2 (ale _ (St.aB O)) ?_;rintro a _ w hS U;have O:=O.k1 hS;refine Zo 0 [1,2,3,4] [1,2,0,1,0,3,3] qi fun w O=>?_;refine Yk 1 (de _ _) fun a w O U=>?_;refine Zv 3 fun a U=>?_;refine Yc 0 (bc ac ha _ _ _ _) fun x32 nY a w O U=>?_;refine Zs 1 fun a w O U=>?_;refine Zr 0 ?_;have O:=O.d [1,1,1,1,1];exact⟨x32,rfl,O⟩
   ·exact absurd ai bl
 ·exact absurd rfl aT
def afi {fb:Nat}{la lb:Int}{p:aR}{x:W}{h:aC}{Z:World}(hA:bT Z [FE 56 fb la lb false,bO p])(hx:p.S h [x])(hq:u3 (qG [102] 2 4) (qG [120] 2 6) x):aH prog 146 #[ptr (aa fb),h.v] Z (fun v w'=>∃(h2:aC) (y:W),v=h2.v∧St Z (az [FE 56 fb la lb false,bO p]) w' [FE 56 fb 2 4 true,ax h2.v 28 av [y]]):=by
 have O:=St.init hA;refine aS func146 ntmps146 fun a U=>?_;refine Zv 1 fun a U=>?_;have O:=O.kN 28;refine Zv 1 fun a U=>?_;have O:=O.kN 28;refine Zg 1 (bA (O.du 3 rfl hx)) fun a U=>?_;refine Zv 1 fun a U=>?_;have O:=(O.d [1]).q [1,1];refine cl (fun (s:Nat×aC×List an) a w'=>match s with| (i,ha,L)=>(i=0∧ha=bj∧L=[FE 56 fb la lb false,bO p,ax (aC.v bj) 28 av ([]:List W)]∨i=1∧∃y,L=[FE 56 fb 2 4 true,ax ha.v 28 av [y]])∧St Z (az [FE 56 fb la lb false,bO p]) w' L∧Fr a 22 [(0,ptr (aa fb)),(5,(aC.v ha)),(8,h.v),(9,i64 ([x]:List W).length),(10,i64 i)]) (fun (s:Nat×aC×List an)=>match s with| (i,ha,L)=>1 - i) (0,bj,_) ⟨.inl ⟨rfl,rfl,rfl⟩,O,U.su⟩ ?_;rintro⟨i,ha,L⟩ a w ⟨hex,O,U⟩;rcases hex with ⟨rfl,rfl,rfl⟩| ⟨rfl,y,rfl⟩
 ·refine Zi 1 (fun a U ao=>?_) fun a U ao=>?_
  ·refine Zv 0 ?_;refine Zg 0 (bw 0 (O.du 1 rfl hx) aw) fun a U=>?_;refine Zh 0 hx (show [x][0]?=some x from rfl) fun a U=>?_;refine Xb 5 [1,1] fun v9 a w O U=>?_;refine Yc 0 (ac9 (St.aI O) (aR.elem hx (i:=0) rfl) hq) fun y10 a w O U=>?_;refine Zb 1 fun b1 a w O U=>?_;have O:=O.dJ [y10];refine Za 0 (cR [y10] 3 0 trivial) fun CL a w O U=>?_;have O:=O.d [0];refine Zv 3 fun a U=>?_;have O:=O.d [1];exact⟨(1,CL,_),⟨.inr ⟨rfl,y10,rfl⟩,O,U.su⟩,Nat.zero_lt_one⟩
  ·exact absurd aw ao
 ·refine Zi 1 (fun a U ao=>?_) fun a U ao=>?_
  ·exact absurd ao aw
  ·refine Zr 2 ?_;exact⟨ha,y,rfl,O⟩
def arc {fb:Nat}{la lb:Int}{p:aR}{x:W}{Z:World}(hA:bT Z [FE 56 fb la lb false,bO p])(hx:p.has x)(hq:zm x):aH prog 109 #[ptr (aa fb),.agg (av.cells x).toArray] Z (fun v w'=>∃(h2:aC) (y:W),v=.tuple #[str [103],h2.v,.bool true]∧St Z (az [FE 56 fb la lb false,bO p]) w' [FE 56 fb 2 4 true,ax h2.v 28 av [y]]):=by
 have O:=St.init hA;obtain⟨_,z,l,c,h,rfl,hz,rfl⟩:=hq;refine aS func109 ntmps109 fun a U=>?_;refine Zb 3 fun v1 a w O U=>?_;have O:=O.kN 28;refine Zi 4 (fun a U ao=>?_) fun a U ao=>?_
 ·exact absurd ao (show ¬(22:Int)=23 from ai)
 refine Zv 1 fun a U=>?_;have O:=O.kN 28;have O:=(O.d [1]).q [2,2,1];refine cl (fun (s:Nat×W×List W×aC) a w'=>match s with| (j,hh,ac,ha)=>(j=1∧hh=W.mk 22 [] 0 l c h [W.mk 18 [103] 0 2 1 bj [],z]∧ac=[]∨j=0∧hh=W.mk 18 [103] 0 2 1 bj []∧ac=[z])∧St Z (az [FE 56 fb la lb false,bO p]) w' [FE 56 fb la lb false,bO p,.ob v1 28 (av.cells hh),ax ha.v 28 av ac]∧Fr a 109 [(0,ptr (aa fb)),(3,ptr (aa v1)),(10,(aC.v ha))]) (fun (s:Nat×W×List W×aC)=>match s with| (j,hh,ac,ha)=>j) (1,_,([]:List W),bj) ⟨.inl ⟨rfl,rfl,rfl⟩,O,U.su⟩ ?_;rintro⟨j,hh,ac,ha⟩ a w ⟨hex,O,U⟩;rcases hex with ⟨rfl,rfl,rfl⟩| ⟨rfl,rfl,rfl⟩
 ·refine Zi 3 (fun a U bl=>?_) fun a U bl=>?_
  ·refine Zg 3 (b_ (O.du 1 rfl hx) (i:=1) rfl) fun a U=>?_;refine Zh 0 hx (show [W.mk 18 [103] 0 2 1 bj [],z][1]?=some z from rfl) fun a U=>?_;refine Zb 1 fun b2 a w O U=>?_;have O:=O.dJ [z];refine Za 0 (cR [z] 4 0 trivial) fun CK a w O U=>?_;have O:=O.d [0];refine Zg 3 (b_ (O.du 1 rfl hx) (i:=0) rfl) fun a U=>?_;refine Zh 0 hx (show [W.mk 18 [103] 0 2 1 bj [],z][0]?=some (W.mk 18 [103] 0 2 1 bj []) from rfl) fun a U=>?_;refine Zs 1 fun a w O U=>?_;exact⟨(0,_,_,CK),⟨.inr ⟨rfl,rfl,rfl⟩,O,U.su⟩,Nat.zero_lt_one⟩
  ·exact absurd rfl bl
 ·refine Zi 3 (fun a U bl=>?_) fun a U bl=>?_
  ·exact absurd bl ai
  refine Zi 3 (fun a U bN=>?_) fun a U bN=>?_
  ·exact absurd rfl bN
  refine Zg 1 (bA (O.rd 3 rfl)) fun a U=>?_;have lN:([z]:List W).length=1:=rfl;refine Zv 3 fun a U=>?_;refine cl (fun (s:Nat) a w'=>St Z (az [FE 56 fb la lb false,bO p]) w' [FE 56 fb la lb false,bO p,.ob v1 28 (av.cells (W.mk 18 [103] 0 2 1 bj [])),ax ha.v 28 av [z]]∧Fr a 109 [(0,ptr (aa fb)),(3,ptr (aa v1)),(10,(aC.v ha)),(11,i64 0),(12,i64 0)]) (fun s=>s) 0 ⟨O,U.su⟩ ?_;rintro s a w ⟨O,U⟩;refine Zi 3 (fun a U db=>?_) fun a U db=>?_
  ·exact absurd db ai
  refine Zo 0 [2] [0,1,0,0,2,0,0,0] gB fun w O=>?_;refine Zv 4 fun a U=>?_;have O:=O.q [3,1];obtain⟨p37,yO,X39,O⟩:=St.freeze O (n_ (aR.elem hx (i:=1) rfl));have O:=O.q [1];refine pn rfl U (dY U rfl rfl (afi (St.aI O) X39 hz)) ?_ ?_
  ·rintro _ w ⟨h40,y40,rfl,hS⟩;exact (O.k2 hS).d [0,0]
  rintro a _ w ⟨h40,y40,rfl,hS⟩ U;have O:=O.k2 hS;refine Zr 3 ?_;have O:=O.d [2];exact⟨h40,y40,rfl,O⟩
def Z8:gh oK:=by
 rw[show oK=.mk 16 [] 0 [.mk 1 [] 0 [.mk 17 [] 0 [.mk 0 [] 0 [],.mk 20 [] 1 []]],.mk 1 [] 0 []] from by kernel_rfl];exact⟨by simp [aL,aJ],by simp [jI,AL]⟩
def rgE:X:=match oM 30 oK with
 |some (a,_)=>a
 |none=>cc
def adM:oM 30 oK=some (rgE,false):=by kernel_rfl
def aoB {fb:Nat}{la lb:Int}{p:aR}{d:W}{h:aC}{Z:World}(hA:bT Z [FE 56 fb la lb false,bO p])(hx:p.S h [d])(hq:yR zm oK d):aH prog 56 #[ptr (aa fb),h.v] Z (fun v w'=>∃(h2:aC) (y:W),v=h2.v∧St Z (az [FE 56 fb la lb false,bO p]) w' [FE 56 fb 2 4 true,ax h2.v 28 av [y]]):=by
 have O:=St.init hA;obtain⟨xl,xr,dl,dc,dh,hl,hr,rfl⟩:=hq;refine aS func56 ntmps56 fun a U=>?_;refine Zv 1 fun a U=>?_;have O:=O.kN 28;refine Zv 1 fun a U=>?_;have O:=O.kN 28;refine Zg 2 (bA (O.du 3 rfl hx)) fun a U=>?_;refine Zv 1 fun a U=>?_;have O:=(O.d [1]).q [1,1];refine cl (fun (s:Nat×aC×Value×List an) a w'=>match s with| (i,ho,lv,L)=>(i=0∧ho=bj∧lv=i64 (-1)∧L=[FE 56 fb la lb false,bO p,ax (aC.v bj) 28 av ([]:List W)]∨i=1∧∃y,L=[FE 56 fb 2 4 true,ax ho.v 28 av [y]])∧St Z (az [FE 56 fb la lb false,bO p]) w' L∧Fr a 128 [(0,ptr (aa fb)),(5,(aC.v ho)),(6,lv),(14,h.v),(15,i64 ([W.mk 15 [] 0 dl dc dh [xl,xr]]:List W).length),(16,i64 i)]) (fun (s:Nat×aC×Value×List an)=>match s with| (i,ho,lv,L)=>1 - i) (0,bj,i64 (-1),_) ⟨.inl ⟨rfl,rfl,rfl,rfl⟩,O,U.su⟩ ?_;rintro⟨i,ho,lv,L⟩ a w ⟨hex,O,U⟩;rcases hex with ⟨rfl,rfl,rfl,rfl⟩| ⟨rfl,y,rfl⟩
 ·refine Zi 1 (fun a U ao=>?_) fun a U ao=>?_
  ·refine Zv 0 ?_;refine Zg 0 (bw 0 (O.du 1 rfl hx) aw) fun a U=>?_;refine Zh 0 hx (show [W.mk 15 [] 0 dl dc dh [xl,xr]][0]?=some (W.mk 15 [] 0 dl dc dh [xl,xr]) from rfl) fun a U=>?_;have X7:p.has (W.mk 15 [] 0 dl dc dh [xl,xr]):=aR.elem hx (i:=0) rfl;refine Zb 2 fun v8 a w O U=>?_;refine Zi 3 (fun a U ay=>?_) fun a U ay=>?_
   ·exact absurd rfl ay
   refine Zg 3 (b_ (O.du 2 rfl X7) (i:=1) rfl) fun a U=>?_;refine Zh 0 X7 (show [xl,xr][1]?=some xr from rfl) fun a U=>?_;have O:=O.q [1,1];refine Yc 0 ((N1 30).rgt (St.aI O) (aR.elem X7 (i:=1) rfl) (by rw[hr];exact Z8) (by rw[hr];exact adM)) fun y15 Nw Nr p15 _ iu X15 a w O U=>?_;have X17:=iu.S _ _ X7;refine Zb 5 fun v16 a w O U=>?_;refine Zg 0 (b_ (O.du 2 rfl X17) (i:=0) rfl) fun a U=>?_;refine Zh 0 X17 (show [xl,xr][0]?=some xl from rfl) fun a U=>?_;have O:=O.q [1,1];refine Yc 0 (arc (St.aI O) (aR.elem X17 (i:=0) rfl) hl) fun h20 y20 a w O U=>?_;refine Wn 8 fun a U=>?_;refine Zi 0 (fun aF=>?_) fun aF=>?_
   ·exact absurd rfl aF
   refine wp_skip ?_;refine jx ?_;refine tw (fun (s:Nat×W) a w'=>match s with| (vj,xc)=>St Z (az [FE 56 fb la lb false,bO p]) w' [.ob vj 28 (av.cells xc),FE 56 fb 2 4 true,ax h20.v 28 av [y20],.ob v16 28 (av.cells y15),.ob v8 28 (av.cells (W.mk 15 [] 0 dl dc dh [xl,xr])),ax (aC.v bj) 28 av ([]:List W)]∧Fr a 128 [(0,ptr (aa fb)),(5,(aC.v bj)),(6,i64 (-1)),(8,ptr (aa v8)),(10,str [103]),(11,(aC.v h20)),(13,ptr (aa vj)),(14,h.v),(15,i64 ([W.mk 15 [] 0 dl dc dh [xl,xr]]:List W).length),(16,i64 0)]) ?_ ?_
   ·have O:=O.drew;refine jC iD ?_;refine dy 1 7 rfl ?_ ?_
    ·refine dy 3 7 rfl ?_ ?_
     ·refine dy 5 7 rfl ?_ ?_
      ·refine dy 6 7 rfl ?_ ?_
       ·refine Zq [2,3] [1,2,0,2,1,3,3,3,3] xu ?_;refine Yk 1 (de _ _) fun a w O U=>?_;refine Yk 1 (cI [y20] h20 _) fun x37 np a w O U=>?_;refine Zb 2 fun b4 a w O U=>?_;refine Yc 0 (bc [x37,y15] ⟨some (aa b4),2,2⟩ _ _ _ _) fun x44 pO a w O U=>?_;refine Zb 2 fun v49 a w O U=>?_;exact⟨(v49,x44),O.d [1],U.su⟩
       ·refine Zq [2,3] [1,2,0,2,1,3,3,3,3] [0,1,2,3,4,5,7,6,8] ?_;refine Yk 1 (de _ _) fun a w O U=>?_;refine Yk 1 (cI [y20] h20 _) fun x37 np a w O U=>?_;refine Zb 2 fun b4 a w O U=>?_;refine Zb 1 fun v49 a w O U=>?_;refine Yc 0 (bc [x37,y15] ⟨some (aa b4),2,2⟩ _ _ _ _) fun x44 pO a w O U=>?_;refine Zs 1 fun a w O U=>?_;exact⟨(v49,x44),O.d [1],U.su⟩
      ·refine Zq [2,3] [1,2,0,2,1,3,3,2,3] [0,1,2,3,4,7,5,6,8] ?_;refine Yk 1 (de _ _) fun a w O U=>?_;refine Yk 1 (cI [y20] h20 _) fun x37 np a w O U=>?_;refine Zb 2 fun v49 a w O U=>?_;refine Zb 1 fun b4 a w O U=>?_;refine Yc 0 (bc [x37,y15] ⟨some (aa b4),2,2⟩ _ _ _ _) fun x44 pO a w O U=>?_;refine Zs 1 fun a w O U=>?_;exact⟨(v49,x44),O.d [0],U.su⟩
     ·refine Zq [2,3] [1,2,0,2,1,3,3,2,3] [0,1,2,4,7,3,5,6,8] ?_;refine Yk 1 (de _ _) fun a w O U=>?_;refine Zb 3 fun v49 a w O U=>?_;refine Yk 0 (cI [y20] h20 _) fun x37 np a w O U=>?_;refine Zb 1 fun b4 a w O U=>?_;refine Yc 0 (bc [x37,y15] ⟨some (aa b4),2,2⟩ _ _ _ _) fun x44 pO a w O U=>?_;refine Zs 1 fun a w O U=>?_;exact⟨(v49,x44),O.d [0],U.su⟩
    ·refine Zq [2,3] [1,2,0,2,1,3,3,2,3] [0,2,4,7,1,3,5,6,8] ?_;refine Zb 4 fun v49 a w O U=>?_;refine Yk 0 (de _ _) fun a w O U=>?_;refine Yk 0 (cI [y20] h20 _) fun x37 np a w O U=>?_;refine Zb 1 fun b4 a w O U=>?_;refine Yc 0 (bc [x37,y15] ⟨some (aa b4),2,2⟩ _ _ _ _) fun x44 pO a w O U=>?_;refine Zs 1 fun a w O U=>?_;exact⟨(v49,x44),O.d [0],U.su⟩
   ·rintro⟨vj,xc⟩ a w ⟨O,U⟩;refine Zv 6 fun a U=>?_;refine aZ U (jV (v:=.bool false) rfl (U.af rfl) rfl) fun a U=>?_;refine Zv 8 fun a U=>?_;refine aZ U (jV (v:=.bool false) rfl (U.af rfl) rfl) fun a U=>?_;refine Zj 0 (fun aT=>?_) fun aT=>?_
    ·exact absurd aT ai
    refine Zg 2 (bA (O.rd 2 rfl)) fun a U=>?_;refine Zi 1 (fun a U bm=>?_) fun a U bm=>?_
    ·refine Zg 1 (bA (O.rd 5 rfl)) fun a U=>?_;refine Zv 1 fun a U=>?_;have O:=O.drew;refine jC iD ?_;refine dy 2 5 rfl ?_ ?_
     ·refine Zq [0,3,4] [0,1,2,0,1,3,3,3,3,0] ly ?_;refine Yk 2 (de _ _) fun a w O U=>?_;refine Zb 3 fun b9 a w O U=>?_;refine Yc 0 (bc [xc] ⟨some (aa b9),1,1⟩ _ _ _ _) fun nR Dx a w O U=>?_;refine Zb 1 fun b10 a w O U=>?_;have O:=O.dJ [nR];refine Za 0 (cR [nR] 7 0 trivial) fun hs a w O U=>?_;refine Zv 3 fun a U=>?_;have O:=O.d [0,0,0,1,1,1];exact⟨(1,hs,_,_),⟨.inr ⟨rfl,nR,rfl⟩,O,U.su⟩,Nat.zero_lt_one⟩
     ·refine Zq [0,3,4] [0,1,3,0,1,2,3,3,3,0] [0,1,3,4,5,2,6,7,8,9] ?_;refine Zb 5 fun b9 a w O U=>?_;refine Yc 0 (de _ _) fun a w O U=>?_;refine Yc 0 (bc [xc] ⟨some (aa b9),1,1⟩ _ _ _ _) fun nR Dx a w O U=>?_;refine Zb 1 fun b10 a w O U=>?_;have O:=O.dJ [nR];refine Za 0 (cR [nR] 7 0 trivial) fun hs a w O U=>?_;refine Zv 3 fun a U=>?_;have O:=O.d [0,0,0,1,1,1];exact⟨(1,hs,_,_),⟨.inr ⟨rfl,nR,rfl⟩,O,U.su⟩,Nat.zero_lt_one⟩
    ·exact absurd aw bm
  ·exact absurd aw ao
 ·refine Zi 1 (fun a U ao=>?_) fun a U ao=>?_
  ·exact absurd ao aw
  ·refine Zr 2 ?_;exact⟨ho,y,rfl,O⟩
def ap5 {fb:Nat}{la lb:Int}{x:W}{Z:World}(hA:bT Z [FE 56 fb la lb false,nE 28 x])(hw:Vd x):aH prog 16 #[ptr (aa fb),.agg (av.cells x).toArray] Z (fun v w'=>∃y:W,v=.agg (av.cells y).toArray∧St Z (az [FE 56 fb la lb false,nE 28 x]) w' [FE 56 fb 2 4 true]):=by
 have O:=St.init hA;obtain⟨nm,xe,d,l,c,h,hi,hd,-,hq,rfl⟩:=hw;have O:=O.pull 1 rfl;have O:=O.Ec;have O:St _ _ _ (ax h.v 28 av [xe,W.mk 1 [] 0 0 0 hi [],W.mk 1 [] 0 0 0 hd [d]]::an.bx [nE 28 xe,nE 28 (W.mk 1 [] 0 0 0 hi []),nE 28 (W.mk 1 [] 0 0 0 hd [d])]::[_]):=O;have O:=O.pull 1 rfl;have O:=St.ungroup (A:=[_,_,_]) O;have O:=O.nm;have O:=O.d [0,0];have O:=O.Ec;have O:=O.nm;have O:St _ _ _ [ax hd.v 28 av [d],an.bx [nE 28 d],_,_]:=O;have O:=O.pull 1 rfl;have O:=St.ungroup (A:=[_]) O;have O:=O.nm;have O:=O.Hu;have O:=O.pull 1 rfl;obtain⟨p1,le1,Xd,O⟩:=St.yU O;have O:=O.pull 1 rfl;obtain⟨p,le2,hS0,O⟩:=St.freeze O (n_ Xd);have O:=O.nm;refine aS func16 ntmps16 fun a U=>?_;refine Zb 1 fun v1 a w O U=>?_;refine Zb 3 fun v2 a w O U=>?_;refine Zg 0 (bw 2 (O.rd 3 rfl) aw) fun a U=>?_;refine Zh 1 (O.bW 3 rfl) (rfl:([xe,W.mk 1 [] 0 0 0 hi [],W.mk 1 [] 0 0 0 hd [d]]:List W)[2]?=some (W.mk 1 [] 0 0 0 hd [d])) fun a U=>?_;refine Zg 0 (bA (O.du 2 rfl hS0)) fun a U=>?_;refine Zv 1 fun a U=>?_;have O:=O.q [4,2,2,1];refine cl (fun (s:Nat) a w'=>s≤1∧St Z (az [FE 56 fb la lb false,nE 28 (W.mk 2 nm 0 l c h [xe,W.mk 1 [] 0 0 0 hi [],W.mk 1 [] 0 0 0 hd [d]])]) w' [FE 56 fb la lb false,bO p,ax h.v 28 av [xe,W.mk 1 [] 0 0 0 hi [],W.mk 1 [] 0 0 0 hd [d]],.ob v1 28 (av.cells (W.mk 2 nm 0 l c h [xe,W.mk 1 [] 0 0 0 hi [],W.mk 1 [] 0 0 0 hd [d]])),.ob v2 28 (av.cells bH)]∧Fr a 69 [(0,ptr (aa fb)),(3,ptr (aa v1)),(4,ptr (aa v2)),(14,hd.v),(15,i64 ([d]:List W).length),(16,i64 s)]) (fun s=>1 - s) 0 ⟨dN _,O,U.su⟩ ?_;rintro s a w ⟨hs,O,U⟩;have hld:([d]:List W).length=1:=rfl;refine Zi 1 (fun a U ao=>?_) fun a U ao=>?_
 ·obtain rfl:s=0:=V
  refine Zv 1 fun a U=>?_;refine Zg 0 (bw 0 (O.du 1 rfl hS0) aw) fun a U=>?_;refine Zh 0 hS0 (show [d][0]?=some d from rfl) fun a U=>?_;refine Zb 6 fun v5 a w O U=>?_;have hk:d.kind=15:=by obtain⟨_,_,_,_,_,-,-,rfl⟩:=hq;rfl
  refine Zi 0 (fun ay=>?_) fun ay=>?_
  ·exact absurd (hk.symm.trans ay) ai
  refine Zv 2 fun a U=>?_;have O:=O.d [0];exact⟨1,⟨bQ _,O,U.su⟩,Nat.zero_lt_one⟩
 ·refine Zo 0 [2,3,4] [0,1,0,0,1,0,0,1,2,2,0,3] DY fun w O=>?_;refine Zg 5 (bw 2 (O.rd 2 rfl) aw) fun a U=>?_;refine Zv 1 fun a U=>?_;refine lH rfl U (fun w O=>eD isAgg26 rfl (U.af rfl) (aG.cells (O.bW 0 rfl) (rfl:([xe,W.mk 1 [] 0 0 0 hi [],W.mk 1 [] 0 0 0 hd [d]]:List W)[2]?=some (W.mk 1 [] 0 0 0 hd [d])) _ _ rfl)) fun a U=>?_;refine Yk 0 (aoB (St.aI O) hS0 hq) fun h41 y41 a w O U=>?_;refine Yk 0 (cI [y41] h41 _) fun x42 qx a w O U=>?_;refine Zg 0 (bw 2 (O.rd 2 rfl) aw) fun a U=>?_;refine fF rfl U (gb (m:=2) (off:=0) (q:=x42) O (i:=2) rfl sizeOf28 rfl (U.af rfl) rfl (U.af rfl) rfl (rfl:([xe,W.mk 1 [] 0 0 0 hi [],W.mk 1 [] 0 0 0 hd [d]]:List W)[2]?=some (W.mk 1 [] 0 0 0 hd [d])) rfl (cX rfl) rfl (fA rfl)) ?_;rintro a _ w ⟨-,O⟩ U;have O:=O.nm;refine Zs 2 fun a w O U=>?_;refine Zr 0 ?_;have O:=O.d [1,1,1,1];exact⟨W.mk 2 nm 0 l c h [],rfl,O⟩
def alp (hv:aC)(Z:World)(hT:aG Z [] hv.v aM gq):aH prog 7 #[hv.v] Z (fun v w'=>v=.tuple #[.agg (av.cells bH).toArray,.agg #[str [],i64 2,i64 4,i64 31]]∧St Z [] w' []):=by
 have O:=St.bL Z;refine PJ (m:=25) func7 rfl ntmps7 [(0,hv.v)] rfl ⟨rfl,trivial⟩ fun a U=>?_;refine Zb 1 fun bn a w O U=>?_;refine Zb 2 fun bd a w O U=>?_;refine Pk U rfl rfl (QJ rfl (U.af rfl)) fun a U=>?_;refine jx ?_;refine wp_seq ?_;refine qt ?_;refine Zb 4 fun ps a w O U=>?_;have O:St _ _ _ (aX ps 53 hv.v 0 0::[_,_]):=O;refine Zn 1 fun a U=>?_;refine k9 ?_;refine jx ?_;refine wp_seq ?_;refine qt ?_;refine Zv 1 fun a U=>?_;refine eP U (dY U rfl rfl (ajz (St.aB O) (hT.aV O))) ?_;rintro a _ w ⟨x1,Ip,rfl,hS⟩ U;have O:=O.k1 hS;refine Zy 1 fun a w O U=>?_;refine k9 ?_;refine jx ?_;refine wp_seq ?_;refine qt ?_;refine Zu 1 fun F a w O U=>?_;have O:St _ _ _ (FE 56 F 0 0 false::[_,_,_,_]):=O;refine k9 ?_;refine jx ?_;refine wp_seq ?_;refine qt ?_;refine Zv 1 fun a U=>?_;have O:=O.q [0,1];refine Yc 0 (ap5 (St.aI O) Ip) fun y a w O U=>?_;refine Zy 1 fun a w O U=>?_;refine k9 ?_;refine jx ?_;refine wp_seq ?_;refine wp_seq ?_;refine qt ?_;refine Zv 4 fun a U=>?_;refine ZQ U rfl rfl (fun ao=>?_) (fun ao=>?_)
 ·refine qt ?_;refine Zv 1 fun a U=>?_;refine aZ U (kq isAgg31 sizeOf31 rfl (U.af rfl) (O.AW 0 rfl 0 4 rfl) rfl) fun a U=>?_;refine Zv 1 fun a U=>?_;refine aZ U (Fk underlying47 (fun _ h=>by cases h) rfl (U.af rfl)) fun a U=>?_;refine HY rfl rfl (GD rfl (U.af rfl)) ?_;have O:=(O.d [0]).q [2,1];refine eL ?_;exact O2 (l:=2) (c:=4) (e:=31) U rfl rfl rfl O fun w O=>⟨rfl,O.tail⟩
 ·exact absurd ai ao
end Go.Proofs.YtdfccaonglmgpaaGreatDoor
