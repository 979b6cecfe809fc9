/- Q07 -/
import Derived.Test.YtdfccaonglmgpaaGreatDoorQ04
import Derived.Test.YtdfccaonglmgpaaGreatDoorQ06
import Derived.KernelRfl
import Derived.Recover
set_option linter.all false
namespace Go.Proofs.YtdfccaonglmgpaaGreatDoor
open Go
set_option maxHeartbeats 4000000
set_option maxRecDepth 100000
set_option linter.unusedVariables false
theorem MS.okm (x:MS)(m m2:Nat)(h:m≤m2)(hx:x.Ok m):x.Ok m2:=⟨Nat.le_trans hx.1 h,Nat.le_trans hx.2 h⟩
theorem DG {w0 w:World}{M:List Nat}{L:List aq}{p:aq}{b T td tp ti:Nat}{x:MS}(hO:St w0 M w (p::nB b T td tp ti x::L)):St w0 M w (.ob td 26 [x.hd.v]::.ob tp 49 [ptr (aj b)]::.ob ti 26 [x.hi.v]::aT x.hd.v T aM x.ld::aq.dF (x.ld.map (nE T))::aT x.hi.v T aM x.li::aq.dF (x.li.map (nE T))::p::L):=
 St.ungroup (A:=[_,_,_,_,_,_,_]) (hO.pull 1 rfl)
theorem FA (k b td tp ti:Nat){tl:List Tok}:Hf tl b 50 ([]++[]++[ptr (aj td),ptr (aj tp),ptr (aj ti)]) (nB b 28 td tp ti) MS.er MS.Ok (nU k):=by
 intro T vs n dp w0 x hA hT hp hne hok;exact EH k hok hA hT hp hne
theorem GU (k:Nat){T b:Nat}{vs:Value}{tl:List Tok}{n:Nat}{dp:Int}{w0:World}(hA:bx w0 [bc b T vs n dp])(hT:bF w0 (ak [bc b T vs n dp]) vs aK tl)(hp:Pos tl n dp)(hne:dW k (aS tl n dp)≠.error (-1)):dx Tryz.prog 15 #[ptr (aj b)] w0 (fun v w'=>sD b T vs tl w0 (ak [bc b T vs n dp]) [] (dW k (aS tl n dp)) n v w') (fun ev w'=>lL b T vs w0 (ak [bc b T vs n dp]) [] (dW k (aS tl n dp)) ev w'):=by
 have hO:=St.init hA;generalize hR0:dW k (aS tl n dp)=R0 at hne ⊢;have hQ:=hR0.symm;simp only[dW,aw,az,a8,bl] at hQ;refine nh Tryz.func15 Tryz.ntmps15 fun a hF=>?_;refine Zb 1 fun tp a w hO hF=>?_;refine Zb 4 fun v1 a w hO hF=>?_;have hO:=hO.q [2];refine Ze 0 (bz _ (St.ai hO) (hT.aE hO) hp (ae hne hQ)) ?_;rintro a _ w ⟨t2,n2,d2,he,hl2,hp2,rfl,hS⟩ hF;have hO:=hO.k1 hS;have hQ:=aa hQ he;refine Zb 5 fun v3 a w hO hF=>?_;have hO:=hO.q [1];refine Ze 0 (jH _ (St.ai hO) (hT.aE hO) hp2 (ae hne hQ)) ?_;rintro a _ w ⟨t4,n4,d4,he,hl4,hp4,rfl,hS⟩ hF;have hO:=hO.k1 hS;have hQ:=aa hQ he;refine Ze 3 (j2 k (St.ai hO) (hT.aE hO) hp4 (ae hne hQ)) ?_;rintro a _ w ⟨x5,n5,d5,he,hl5,hp5,rfl,hS⟩ hF;have hO:=hO.k1 hS;have hQ:=aa hQ he;refine Zb 5 fun v6 a w hO hF=>?_;have hO:=hO.q [1];refine Ze 0 (bz _ (St.ai hO) (hT.aE hO) hp5 (ae hne hQ)) ?_;rintro a _ w ⟨t7,n7,d7,he,hl7,hp7,rfl,hS⟩ hF;have hO:=hO.k1 hS;have hQ:=aa hQ he;refine Zb 1 fun ti a w hO hF=>?_;have hO:=hO.bV 28 6;have hO:=St.fH (T:=28) hO;have hO:St _ _ _ (_::aT (aO.v aU) 28 aM ([]:List NN)::[_,_,_,_,_,_,_]):=hO;refine Zb 1 fun td a w hO hF=>?_;have hO:=hO.bV 28 6;have hO:=St.fH (T:=28) hO;have hO:St _ _ _ (_::aT (aO.v aU) 28 aM ([]:List NN)::[_,_,_,_,_,_,_,_,_,_]):=hO;refine Zv 2 fun a hF=>?_;have hO:=hO.q [6,2,9,4,1,0,1];have hO:=cB (b:=b) (x:=⟨[],aU,[],aU⟩) hO;refine Ze 0 (zo (nB b 28 td tp ti) MS.er 50 [] [ptr (aj td),ptr (aj tp),ptr (aj ti)] Tryz.call50 MS.Ok MS.okm (nU k) k ⟨Nat.zero_le _,Nat.zero_le _⟩ (FA k _ _ _ _) (St.ba hO) (hT.nQ hO) hp7 (ae hne hQ)) ?_;rintro a _ w ⟨y8,n8,d8,he,hl8,hp8,OO,hS⟩ hF;have hO:=hO.call2 hS;have hO:=DG hO;have hO:=hO.nm;have hQ:=aa hQ he;refine Zv 3 fun a hF=>?_;have hO:=hO.q [7];refine Ze 0 (jH _ (St.ai hO) (hT.aE hO) hp8 (ae hne hQ)) ?_;rintro a _ w ⟨t9,n9,d9,he,hl9,hp9,rfl,hS⟩ hF;have hO:=hO.k1 hS;have hQ:=aa hQ he;refine Zo 0 [1,2,3,8,10,11] [1,0,1,1,2,1,2,2,3,3] [0,1,2,3,4,5,6,7,8,9] fun w hO=>?_;refine Zk 4 (au y8.li y8.hi _) ?_;rintro a _ w ⟨x10,jM,rfl,hS⟩ hF;have hO:=hO.k0 hS;refine Zk 1 (au y8.ld y8.hd _) ?_;rintro a _ w ⟨x11,q_,rfl,hS⟩ hF;have hO:=hO.k0 hS;refine Zb 1 fun b1 a w hO hF=>?_;refine Zc 0 (aW [x5,x10,x11] ⟨some (aj b1),3,3⟩ _ _ _ _) ?_;rintro a _ w ⟨x12,kY,rfl,hS⟩ hF;have hO:=hO.k0 hS;refine Zs 1 fun a w hO hF=>?_;have hO:=hO.q [7,7];have hO:=St.bL (T:=28) jM hO;have hO:=hO.q [6,6];have hO:=St.bL (T:=28) q_ hO;have hO:=hO.q [2,7,1];have hO:=St.bP (T:=28) [x5,x10,x11] hO;have hO:=St.bL (T:=28) kY hO;refine Zr 0 ?_;have hO:=(hO.d [2,2,2,2,2,2]).q [1];exact⟨x12,_,_,hQ.trans (o5 (And.intro jM (And.intro q_ kY))),by omega,hp9,rfl,hO⟩
def Tn (Q:NN→Prop)(e:Nd)(z:NN):Prop:=∃x r l c h,Q x∧r.er=e∧z=NN.mk 15 [] 0 l c h [x,r]
theorem aba {T b:Nat}{vs:Value}{tl:List Tok}{n n1 n2:Nat}{dp d1 d2:Int}{Q:NN→Prop}{e:Nd}(hx:CX b T vs tl 143 n dp n1 d1 Q)(hp1:Pos tl n1 d1)(k:Nat)(hr:nc k [61] (aS tl n1 d1)=.ok (e,aS tl n2 d2))(hn2:n2≤tl.length):CX b T vs tl 107 n dp n2 d2 (Tn Q e):=by
 intro w0 hA hT;have hO:=St.init hA;refine cw Tryz.func107 Tryz.ntmps107 fun a hF=>?_;refine Zb 2 fun v1 a w hO hF=>?_;have hO:=hO.q [1];refine Zc 0 (hx (St.ai hO) (hT.aE hO)) ?_;rintro a _ w ⟨x2,hx2,rfl,hS⟩ hF;have hO:=hO.k1 hS;refine Zb 2 fun v3 a w hO hF=>?_;refine Zo 0 [0,3] [1,2,1,0,2,3,3,3] [0,1,2,3,4,5,6,7] fun w hO=>?_;refine Zk 1 (bu _ _) ?_;rintro a _ w ⟨rfl,hS⟩ hF;have hO:=hO.k0 hS;refine Zv 2 fun a hF=>?_;have hO:=hO.q [1];refine Zk 0 (NW hr hn2 ((pV k).rhs _ (St.ai hO) (hT.aE hO) hp1 (by rw[hr];exact fun h=>nomatch h))) ?_;rintro a _ w ⟨x4,hx4,rfl,hS⟩ hF;have hO:=hO.k1 hS;refine Zb 1 fun b1 a w hO hF=>?_;refine Zc 0 (aW [x2,x4] ⟨some (aj b1),2,2⟩ _ _ _ _) ?_;rintro a _ w ⟨x5,hx5,rfl,hS⟩ hF;have hO:=hO.k0 hS;refine Zs 1 fun a w hO hF=>?_;have hO:=hO.q [0,3,1];have hO:=St.bP (T:=28) [x2,x4] hO;have hO:=St.bL (T:=28) hx5 hO;refine Zr 0 ?_;have hO:=(hO.d [2,2]).q [1];exact⟨x5,⟨x2,x4,_,_,_,hx2,hx4,hx5⟩,rfl,hO⟩
theorem RB {T b:Nat}{vs:Value}{tl:List Tok}{n n1:Nat}{dp d1:Int}{Q:NN→Prop}(hx:CX b T vs tl 107 n dp n1 d1 Q)(hp:Pos tl n dp){t:Tok}(ht:tl[n]?=some t)(c0:∀ws,eM (aS tl n dp) ws=false):CX b T vs tl 54 n dp n1 d1 Q:=by
 intro w0 hA hT;have hO:=St.init hA;refine cw Tryz.func54 Tryz.ntmps54 fun a hF=>?_;refine Zb 4 fun v1 a w hO hF=>?_;have hO:=hO.q [1];refine Zc 0 (yM (St.ai hO) (hT.aE hO) hp ht) ?_;rintro a _ w ⟨rfl,hS⟩ hF;have hO:=hO.k1 hS;refine Zb 5 fun v3 a w hO hF=>?_;refine Zb 1 fun b1 a w hO hF=>?_;have hO:=hO.q [2];refine Zc 0 (fP _ _ _ _ _ _ _ (St.ai hO) (hT.aE hO) hp.hn hp.dB _ _ (hO.da (l:=[[100,97,116,97]]) 0 rfl)) ?_;rintro a _ w ⟨rfl,hS⟩ hF;have hO:=hO.k1 hS;refine Zj 1 (fun a hF hc1=>?_) fun a hF hc1=>?_
 ·exact absurd ((c0 _).symm.trans hc1) (by decide)
 refine Zb 4 fun b2 a w hO hF=>?_;have hO:=hO.q [1];refine Zc 0 (fP _ _ _ _ _ _ _ (St.ai hO) (hT.aE hO) hp.hn hp.dB _ _ (hO.da (l:=[[99,108,97,115,115]]) 0 rfl)) ?_;rintro a _ w ⟨rfl,hS⟩ hF;have hO:=hO.k1 hS;refine Zj 1 (fun a hF hc2=>?_) fun a hF hc2=>?_
 ·exact absurd ((c0 _).symm.trans hc2) (by decide)
 refine Zb 4 fun b3 a w hO hF=>?_;have hO:=hO.q [1];refine Zc 0 (fP _ _ _ _ _ _ _ (St.ai hO) (hT.aE hO) hp.hn hp.dB _ _ (hO.da (l:=[[105,110,115,116,97,110,99,101]]) 0 rfl)) ?_;rintro a _ w ⟨rfl,hS⟩ hF;have hO:=hO.k1 hS;refine Zj 1 (fun a hF hc3=>?_) fun a hF hc3=>?_
 ·exact absurd ((c0 _).symm.trans hc3) (by decide)
 refine Zb 4 fun b4 a w hO hF=>?_;have hO:=hO.q [1];refine Zc 0 (fP _ _ _ _ _ _ _ (St.ai hO) (hT.aE hO) hp.hn hp.dB _ _ (hO.da (l:=[[105,110,102,105,120,108],[105,110,102,105,120,114],[105,110,102,105,120]]) 0 rfl)) ?_;rintro a _ w ⟨rfl,hS⟩ hF;have hO:=hO.k1 hS;refine Zj 1 (fun a hF hc4=>?_) fun a hF hc4=>?_
 ·exact absurd ((c0 _).symm.trans hc4) (by decide)
 refine Zc 1 (hx (St.ai hO) (hT.aE hO)) ?_;rintro a _ w ⟨x,hx,rfl,hS⟩ hF;have hO:=hO.k1 hS;refine Zs 1 fun a w hO hF=>?_;refine Zr 0 ?_;have hO:=hO.d [2,2,2,2,2,2];exact⟨x,hx,rfl,hO⟩
theorem FZ {T b:Nat}{vs:Value}{tl:List Tok}{n n1:Nat}{dp d1:Int}{td tp ti:Nat}{x:MS}{Q:NN→Prop}(hd:CX b T vs tl 54 n dp n1 d1 Q)(h0:x.ld.length=0)(hp:Pos tl n dp)(hp1:Pos tl n1 d1)(c0:∀ws,eM (aS tl n dp) ws=false){w0:World}(hA:bx w0 [bc b T vs n dp,nB b 28 td tp ti x])(hT:bF w0 (ak [bc b T vs n dp,nB b 28 td tp ti x]) vs aK tl):bI Tryz.prog 50 #[ptr (aj td),ptr (aj tp),ptr (aj ti)] w0 (fun v w'=>∃(d:NN) (h':aO),Q d∧v=.agg (aM.cells ea).toArray∧St w0 (ak [bc b T vs n dp,nB b 28 td tp ti x]) w' [bc b T vs n1 d1,nB b 28 td tp ti ⟨x.li,x.hi,x.ld++[d],h'⟩]):=by
 have hO:=St.init hA;have hO:=hO.pull 1 rfl;have hO:=St.ungroup (A:=[_,_,_,_,_,_,_]) hO;have hO:=hO.nm;refine cw Tryz.func50 Tryz.ntmps50 fun a hF=>?_;refine Zb 2 fun v1 a w hO hF=>?_;refine Zg 0 (ew (hO.rd 4 rfl)) fun a hF=>?_;refine Zv 2 fun a hF=>?_;refine Zb 9 fun b1 a w hO hF=>?_;have hO:=hO.q [9];refine Zc 0 (fP _ _ _ _ _ _ _ (St.ai hO) (hT.aE hO) hp.hn hp.dB _ _ (hO.da (l:=[[105,109,112,111,114,116]]) 0 rfl)) ?_;rintro a _ w ⟨rfl,hS⟩ hF;have hO:=hO.k1 hS;refine ao hF rfl rfl rfl (dH rfl ((hF.eval rfl).trans (congrArg Value.bool (decide_eq_true (by omega)))) (hF.eval rfl)) fun a hF=>?_;refine Zj 0 (fun hc1=>?_) fun hc1=>?_
 ·exact absurd ((c0 _).symm.trans hc1) (by decide)
 have hO:=hO.drew;refine bG bH ?_;refine aL 2 4 rfl ?_ ?_
 ·refine aL 7 8 rfl ?_ ?_
  ·refine Zq [2,3,4,5] [1,1,2,0,2,3,0,3,3] [0,1,3,2,4,5,6,7,8] ?_;refine Zg 2 (ew (hO.rd 6 rfl)) fun a hF=>?_;refine Zk 0 (hd (St.ai hO) (hT.aE hO)) ?_;rintro a _ w ⟨x37,q37,rfl,hS⟩ hF;have hO:=hO.k1 hS;refine Zb 1 fun b18 a w hO hF=>?_;refine Za 0 (gR [ea] 8 0 hp1.nL) fun Gr a w hO hF=>?_;have hO:=hO.d [0];refine Zg 0 (eB x.ld.length (hO.rd 7 rfl) (by simp)) fun a hF=>?_;refine de rfl rfl hF rfl rfl (bm (m:=x.ld.length) (off:=0) (q:=x37) hO (i:=7) rfl Tryz.sizeOf28 rfl (hF.eval rfl) rfl (hF.eval rfl) rfl (dA x.ld) rfl (Nat.le_of_ble_eq_true rfl) rfl (gA rfl)) ?_;rintro a _ w ⟨-,hO⟩ hF;have hO:=hO.nm;have hO:=St.gH (T:=28) (i:=7) (l:=x.ld) (h:=Gr) (x:=x37) hO rfl;have hO:=hO.nm;refine de rfl rfl hF rfl rfl (dm hO (i:=4) rfl Tryz.sizeOf26 rfl (hF.eval rfl) (hF.eval rfl) (aR (hO.bt 7 rfl)) rfl (hO.bt 7 rfl)) ?_;rintro a _ w ⟨-,hO⟩ hF;have hO:=hO.nm;have hO:=hO.q [1];have hO:=St.cf (T:=28) (l:=x.ld) hO 7 rfl;have hO:=hO.nm;refine Zs 2 fun a w hO hF=>?_;refine Zr 0 ?_;have hO:=hO.d [1,1];exact⟨x37,Gr,q37,rfl,cB hO⟩
  ·refine Zq [2,3,4,5] [1,1,2,0,2,3,0,3,3] [0,1,3,2,4,5,6,8,7] ?_;refine Zg 2 (ew (hO.rd 6 rfl)) fun a hF=>?_;refine Zk 0 (hd (St.ai hO) (hT.aE hO)) ?_;rintro a _ w ⟨x40,q40,rfl,hS⟩ hF;have hO:=hO.k1 hS;refine Zb 1 fun b19 a w hO hF=>?_;refine Za 0 (gR [ea] 8 0 hp1.nL) fun JO a w hO hF=>?_;have hO:=hO.d [0];refine Zg 0 (eB x.ld.length (hO.rd 7 rfl) (by simp)) fun a hF=>?_;refine de rfl rfl hF rfl rfl (dm hO (i:=4) rfl Tryz.sizeOf26 rfl (hF.eval rfl) (hF.eval rfl) (aR (hO.bt 7 rfl)) rfl (hO.bt 7 rfl)) ?_;rintro a _ w ⟨-,hO⟩ hF;have hO:=hO.nm;refine de rfl rfl hF rfl rfl (bm (m:=x.ld.length) (off:=0) (q:=x40) hO (i:=7) rfl Tryz.sizeOf28 rfl (hF.eval rfl) rfl (hF.eval rfl) rfl (dA x.ld) rfl (Nat.le_of_ble_eq_true rfl) rfl (gA rfl)) ?_;rintro a _ w ⟨-,hO⟩ hF;have hO:=hO.nm;have hO:=St.gH (T:=28) (i:=7) (l:=x.ld) (h:=JO) (x:=x40) hO rfl;have hO:=hO.nm;have hO:=hO.q [1];have hO:=St.cf (T:=28) (l:=x.ld) hO 7 rfl;have hO:=hO.nm;refine Zs 2 fun a w hO hF=>?_;refine Zr 0 ?_;have hO:=hO.d [1,1];exact⟨x40,JO,q40,rfl,cB hO⟩
 ·refine aL 7 8 rfl ?_ ?_
  ·refine Zq [2,3,4,5] [1,1,2,0,2,3,0,3,3] [0,1,3,4,2,5,6,7,8] ?_;refine Zg 2 (ew (hO.rd 6 rfl)) fun a hF=>?_;refine Zb 1 fun b20 a w hO hF=>?_;have hO:=hO.q [1];refine Zk 0 (hd (St.ai hO) (hT.aE hO)) ?_;rintro a _ w ⟨x43,q43,rfl,hS⟩ hF;have hO:=hO.k1 hS;refine Za 0 (gR [ea] 8 2 hp1.nL) fun IB a w hO hF=>?_;have hO:=hO.d [2];refine Zg 0 (eB x.ld.length (hO.rd 7 rfl) (by simp)) fun a hF=>?_;refine de rfl rfl hF rfl rfl (bm (m:=x.ld.length) (off:=0) (q:=x43) hO (i:=7) rfl Tryz.sizeOf28 rfl (hF.eval rfl) rfl (hF.eval rfl) rfl (dA x.ld) rfl (Nat.le_of_ble_eq_true rfl) rfl (gA rfl)) ?_;rintro a _ w ⟨-,hO⟩ hF;have hO:=hO.nm;have hO:=St.gH (T:=28) (i:=7) (l:=x.ld) (h:=IB) (x:=x43) hO rfl;have hO:=hO.nm;refine de rfl rfl hF rfl rfl (dm hO (i:=4) rfl Tryz.sizeOf26 rfl (hF.eval rfl) (hF.eval rfl) (aR (hO.bt 7 rfl)) rfl (hO.bt 7 rfl)) ?_;rintro a _ w ⟨-,hO⟩ hF;have hO:=hO.nm;have hO:=hO.q [1];have hO:=St.cf (T:=28) (l:=x.ld) hO 7 rfl;have hO:=hO.nm;refine Zs 2 fun a w hO hF=>?_;refine Zr 0 ?_;have hO:=hO.d [1,1];exact⟨x43,IB,q43,rfl,cB hO⟩
  ·refine Zq [2,3,4,5] [1,1,2,0,2,3,0,3,3] [0,1,3,4,2,5,6,8,7] ?_;refine Zg 2 (ew (hO.rd 6 rfl)) fun a hF=>?_;refine Zb 1 fun b21 a w hO hF=>?_;have hO:=hO.q [1];refine Zk 0 (hd (St.ai hO) (hT.aE hO)) ?_;rintro a _ w ⟨x46,q46,rfl,hS⟩ hF;have hO:=hO.k1 hS;refine Za 0 (gR [ea] 8 2 hp1.nL) fun zG a w hO hF=>?_;have hO:=hO.d [2];refine Zg 0 (eB x.ld.length (hO.rd 7 rfl) (by simp)) fun a hF=>?_;refine de rfl rfl hF rfl rfl (dm hO (i:=4) rfl Tryz.sizeOf26 rfl (hF.eval rfl) (hF.eval rfl) (aR (hO.bt 7 rfl)) rfl (hO.bt 7 rfl)) ?_;rintro a _ w ⟨-,hO⟩ hF;have hO:=hO.nm;refine de rfl rfl hF rfl rfl (bm (m:=x.ld.length) (off:=0) (q:=x46) hO (i:=7) rfl Tryz.sizeOf28 rfl (hF.eval rfl) rfl (hF.eval rfl) rfl (dA x.ld) rfl (Nat.le_of_ble_eq_true rfl) rfl (gA rfl)) ?_;rintro a _ w ⟨-,hO⟩ hF;have hO:=hO.nm;have hO:=St.gH (T:=28) (i:=7) (l:=x.ld) (h:=zG) (x:=x46) hO rfl;have hO:=hO.nm;have hO:=hO.q [1];have hO:=St.cf (T:=28) (l:=x.ld) hO 7 rfl;have hO:=hO.nm;refine Zs 2 fun a w hO hF=>?_;refine Zr 0 ?_;have hO:=hO.d [1,1];exact⟨x46,zG,q46,rfl,cB hO⟩
def ph:List Tok:=[⟨7,[109,111,100,117,108,101],0,1,1⟩,⟨2,[77],0,1,8⟩,⟨7,[119,104,101,114,101],0,1,10⟩,⟨8,[123],1,2,1⟩,⟨1,[103],0,2,1⟩,⟨8,[40],0,2,3⟩,⟨1,[102],0,2,4⟩,⟨1,[120],0,2,6⟩,⟨8,[41],0,2,7⟩,⟨8,[61],0,2,9⟩,⟨5,[49],1,2,11⟩,⟨8,[125],1,3,1⟩,⟨9,[],0,3,1⟩]
theorem dD {n:Nat}{d:Int}(hn:n≤13)(lo: -(n:Int)≤d)(hi:d≤64):Pos ph n d:=⟨hn,by decide,lo,hi⟩
def qb:Nd:=match nc 30 [61] (aS ph 9 1) with
 | .ok (e,_)=>e
 | .error _=>kJ
theorem Sf:nc 30 [61] (aS ph 9 1)=.ok (qb,aS ph 11 1):=by kernel_rfl
abbrev Bs:NN→Prop:=xU (Gg [103] 2 1) (xU (Gg [102] 2 4) (Gg [120] 2 6))
theorem Bm {b T:Nat}{vs:Value}{n:Nat}{d:Int}(hp:Pos ph n d)(hp1:Pos ph (n+1) d){t:Tok}(ht:ph[n]?=some t)(hk:kN (aS ph n d) [1]=true)(hf:eM (aS ph (n+1) d) [[64]]=false)(h2:lI (aS ph (n+1) d) [123]=false):CX b T vs ph 217 n d (n+1) d (Gg t.text t.line t.cR):=
 G0 (fun hA hT=>Tx hA hT hp ht hk hf) hp1 h2
theorem abA {b T:Nat}{vs:Value}:CX b T vs ph 175 6 2 8 2 (xU (Gg [102] 2 4) (Gg [120] 2 6)):=
 wu (t:=⟨1,[102],0,2,4⟩) (Ee (Bm (n:=6) (t:=⟨1,[102],0,2,4⟩) (dD (by decide) (by decide) (by decide)) (dD (by decide) (by decide) (by decide)) rfl rfl rfl rfl) (Bm (n:=7) (t:=⟨1,[120],0,2,6⟩) (dD (by decide) (by decide) (by decide)) (dD (by decide) (by decide) (by decide)) rfl rfl rfl rfl) (dD (by decide) (by decide) (by decide)) (dD (by decide) (by decide) (by decide)) rfl rfl) (dD (by decide) (by decide) (by decide)) rfl (by decide) (dD (by decide) (by decide) (by decide))
theorem VE {b T:Nat}{vs:Value}:CX b T vs ph 217 5 1 9 1 (xU (Gg [102] 2 4) (Gg [120] 2 6)):=
 G0 (S9 (t:=⟨8,[40],0,2,3⟩) (n1:=6) (d1:=2) (n2:=8) (d2:=2) (dD (by decide) (by decide) (by decide)) rfl rfl rfl rfl rfl (by decide) (fun hA hT=>K6 abA (dD (by decide) (by decide) (by decide)) (dD (by decide) (by decide) (by decide)) (fun _=>tJ (t:=⟨1,[102],0,2,4⟩) rfl (by decide)) rfl rfl rfl _ hA hT) (dD (by decide) (by decide) (by decide)) rfl (by decide)) (dD (by decide) (by decide) (by decide)) rfl
theorem OP {b T:Nat}{vs:Value}:CX b T vs ph 54 4 1 11 1 (Tn Bs qb):=
 RB (t:=⟨1,[103],0,2,1⟩) (aba (XA (wu (t:=⟨1,[103],0,2,1⟩) (Ee (Bm (n:=4) (t:=⟨1,[103],0,2,1⟩) (dD (by decide) (by decide) (by decide)) (dD (by decide) (by decide) (by decide)) rfl rfl rfl rfl) VE (dD (by decide) (by decide) (by decide)) (dD (by decide) (by decide) (by decide)) rfl rfl) (dD (by decide) (by decide) (by decide)) rfl (by decide) (dD (by decide) (by decide) (by decide))) (dD (by decide) (by decide) (by decide)) rfl) (dD (by decide) (by decide) (by decide)) 30 Sf (by decide)) (dD (by decide) (by decide) (by decide)) rfl fun _=>tJ (t:=⟨1,[103],0,2,1⟩) rfl (by decide)
theorem Ux {d:NN}(h:Tn Bs qb d):d.er=bk 15 [] [bk 22 [] [bk 18 [103] [],bk 22 [] [bk 18 [102] [],bk 18 [120] []]],qb]:=by
 obtain⟨_,r,l,c,h,⟨_,_,_,_,_,rfl,⟨_,_,_,_,_,rfl,rfl,rfl⟩,rfl⟩,hr,rfl⟩:=h;simp only[bJ,List.map_cons,List.map_nil,hr]
 rfl
def zN (b:List Nd×List Nd):PM (List Nd×List Nd):=fun s=>if b.1.isEmpty&&b.2.isEmpty&&decide (s.r.length=9∧s.deep=1) then nU 30 b s else .error (-1)
def OkG (x:MS)(n:Nat):Prop:=x.Ok n∧x.li=[]∧(x.ld=[]∨∃d,x.ld=[d]∧Tn Bs qb d)
theorem T8:nU 30 ([],[]) (aS ph 4 1)=.ok (([],[bk 15 [] [bk 22 [] [bk 18 [103] [],bk 22 [] [bk 18 [102] [],bk 18 [120] []]],qb]]),aS ph 11 1):=by kernel_rfl
theorem FY {b td tp ti:Nat}:Hf ph b 50 ([]++[]++[ptr (aj td),ptr (aj tp),ptr (aj ti)]) (nB b 28 td tp ti) MS.er OkG zN:=by
 intro T vs n dp w0 x hA hT hp hne hok;have hc:(x.er.1.isEmpty&&x.er.2.isEmpty&&decide ((aS ph n dp).r.length=9∧(aS ph n dp).deep=1))=true:=by
  cases hb:(x.er.1.isEmpty&&x.er.2.isEmpty&&decide ((aS ph n dp).r.length=9∧(aS ph n dp).deep=1)) with
  |true=>rfl
  |false=>exact absurd (by unfold zN;rw[hb];rfl) hne
 simp only[Bool.and_eq_true,decide_eq_true_eq,MS.er,List.isEmpty_iff,List.map_eq_nil_iff] at hc;obtain⟨⟨h1,h2⟩,h3,h4⟩:=hc;obtain⟨li,hi,ld,hd⟩:=x;obtain rfl:li=[]:=h1;obtain rfl:ld=[]:=h2;obtain rfl:dp=1:=h4;obtain rfl:n=4:=by
  have:=hp.hn;simp only[aS,List.length_map,List.length_drop] at h3;have e:ph.length=13:=rfl;omega
 refine Calls.mono (FZ OP rfl hp (dD (n:=11) (by decide) (by decide) (by decide)) (fun _=>tJ (t:=⟨1,[103],0,2,1⟩) rfl (by decide)) hA hT) ?_;rintro _ w' ⟨v,rfl,d,h',hq,rfl,hS⟩;refine .inl ⟨_,rfl,⟨[],hi,[d],h'⟩,11,1,?_,by decide,dD (by decide) (by decide) (by decide),⟨⟨Nat.zero_le _,by simp⟩,rfl,.inr ⟨d,rfl,hq⟩⟩,rfl,hS⟩;show nU 30 ([],[]) (aS ph 4 1)=.ok (([],[d.er]),aS ph 11 1);rw[Ux hq];exact T8
theorem Q3:iy zN 30 ([],[]) (aS ph 3 0)=.ok (([],[bk 15 [] [bk 22 [] [bk 18 [103] [],bk 22 [] [bk 18 [102] [],bk 18 [120] []]],qb]]),aS ph 12 0):=by kernel_rfl
theorem Mj {T b td tp ti:Nat}{vs:Value}{w0:World}(hA:bx w0 [bc b T vs 3 0,nB b 28 td tp ti ⟨[],aU,[],aU⟩])(hT:bF w0 (ak [bc b T vs 3 0,nB b 28 td tp ti ⟨[],aU,[],aU⟩]) vs aK ph):bI Tryz.prog 49 #[ptr (aj b),.func (.func 50) #[] #[ptr (aj td),ptr (aj tp),ptr (aj ti)]] w0 (fun v w'=>∃(d:NN) (hi hd:aO),Tn Bs qb d∧St w0 (ak [bc b T vs 3 0,nB b 28 td tp ti ⟨[],aU,[],aU⟩]) w' [bc b T vs 12 0,nB b 28 td tp ti ⟨[],hi,[d],hd⟩]):=by
 have e:iy zN 30 (MS.er ⟨[],aU,[],aU⟩) (aS ph 3 0)=_:=Q3;refine dx.no (zo (nB b 28 td tp ti) MS.er 50 [] [ptr (aj td),ptr (aj tp),ptr (aj ti)] Tryz.call50 OkG (fun x m m2 h hx=>⟨MS.okm x m m2 h hx.1,hx.2⟩) zN 30 ⟨⟨Nat.zero_le _,Nat.zero_le _⟩,rfl,.inl rfl⟩ FY hA hT (dD (by decide) (by decide) (by decide)) (by rw[e];exact fun h=>nomatch h)) ?_ ?_
 ·rintro v w' ⟨l,c,x,n',d',h,-⟩;rw[e] at h;exact nomatch h
 ·rintro v w' ⟨⟨li,hi,ld,hd⟩,n',d',h,-,hp',⟨-,hl,hk⟩,hS⟩;have h:=Except.ok.inj (e.symm.trans h);obtain⟨rfl,rfl⟩:=yg (by decide) hp'.hn (congrArg Prod.snd h);obtain rfl:li=[]:=hl;rcases hk with rfl| ⟨d,rfl,hq⟩
  ·exact nomatch congrArg (fun x=>x.1.2) h
  ·exact⟨d,hi,hd,hq,hS⟩
def V8 (x:NN):Prop:=∃nm e d l c h hi hd,e.er=kJ∧Tn Bs qb d∧x=NN.mk 2 nm 0 l c h [e,NN.mk 1 [] 0 0 0 hi [],NN.mk 1 [] 0 0 0 hd [d]]
theorem Gn {b T:Nat}{vs:Value}:CX b T vs ph 15 0 0 13 0 V8:=by
 intro w0 hA hT;have hO:=St.init hA;refine cw Tryz.func15 Tryz.ntmps15 fun a hF=>?_;refine Zb 1 fun tp a w hO hF=>?_;refine Zb 4 fun v1 a w hO hF=>?_;have hO:=hO.q [2];refine Zc 0 (xJ _ (n1:=1) (d1:=0) (dD (by decide) (by decide) (by decide)) rfl (by decide) (St.ai hO) (hT.aE hO)) ?_;rintro a _ w ⟨t2,-,rfl,hS⟩ hF;have hO:=hO.k1 hS;refine Zb 5 fun v3 a w hO hF=>?_;have hO:=hO.q [1];refine Zc 0 (Jg (n1:=2) (d1:=0) rfl (by decide) (jH 2 (St.ai hO) (hT.aE hO) (dD (by decide) (by decide) (by decide)) (fun h=>nomatch h))) ?_;rintro a _ w ⟨t4,-,rfl,hS⟩ hF;have hO:=hO.k1 hS;refine Zc 3 (NW (n1:=2) (d1:=0) rfl (by decide) (j2 30 (St.ai hO) (hT.aE hO) (dD (by decide) (by decide) (by decide)) (fun h=>nomatch h))) ?_;rintro a _ w ⟨x5,hx5,rfl,hS⟩ hF;have hO:=hO.k1 hS;refine Zb 5 fun v6 a w hO hF=>?_;have hO:=hO.q [1];refine Zc 0 (xJ _ (n1:=3) (d1:=0) (dD (by decide) (by decide) (by decide)) rfl (by decide) (St.ai hO) (hT.aE hO)) ?_;rintro a _ w ⟨t7,-,rfl,hS⟩ hF;have hO:=hO.k1 hS;refine Zb 1 fun ti a w hO hF=>?_;have hO:=hO.bV 28 6;have hO:=St.fH (T:=28) hO;have hO:St _ _ _ (_::aT (aO.v aU) 28 aM ([]:List NN)::[_,_,_,_,_,_,_]):=hO;refine Zb 1 fun td a w hO hF=>?_;have hO:=hO.bV 28 6;have hO:=St.fH (T:=28) hO;have hO:St _ _ _ (_::aT (aO.v aU) 28 aM ([]:List NN)::[_,_,_,_,_,_,_,_,_,_]):=hO;refine Zv 2 fun a hF=>?_;have hO:=hO.q [6,2,9,4,1,0,1];have hO:=cB (b:=b) (x:=⟨[],aU,[],aU⟩) hO;refine Zc 0 (Mj (St.ba hO) (hT.nQ hO)) ?_;rintro a _ w ⟨d,hi,hd,hq,hS⟩ hF;have hO:=hO.call2 hS;have hO:=DG hO;have hO:=hO.nm;refine Zv 3 fun a hF=>?_;have hO:=hO.q [7];refine Zc 0 (Jg (n1:=13) (d1:=0) rfl (by decide) (jH 9 (St.ai hO) (hT.aE hO) (dD (by decide) (by decide) (by decide)) (fun h=>nomatch h))) ?_;rintro a _ w ⟨t9,-,rfl,hS⟩ hF;have hO:=hO.k1 hS;refine Zo 0 [1,2,3,8,10,11] [1,0,1,1,2,1,2,2,3,3] [0,1,2,3,4,5,6,7,8,9] fun w hO=>?_;refine Zk 4 (au [] hi _) ?_;rintro a _ w ⟨x10,jM,rfl,hS⟩ hF;have hO:=hO.k0 hS;refine Zk 1 (au [d] hd _) ?_;rintro a _ w ⟨x11,q_,rfl,hS⟩ hF;have hO:=hO.k0 hS;refine Zb 1 fun b1 a w hO hF=>?_;refine Zc 0 (aW [x5,x10,x11] ⟨some (aj b1),3,3⟩ _ _ _ _) ?_;rintro a _ w ⟨x12,kY,rfl,hS⟩ hF;have hO:=hO.k0 hS;refine Zs 1 fun a w hO hF=>?_;have hO:=hO.q [7,7];have hO:=St.bL (T:=28) jM hO;have hO:=hO.q [6,6];have hO:=St.bL (T:=28) q_ hO;have hO:=hO.q [2,7,1];have hO:=St.bP (T:=28) [x5,x10,x11] hO;have hO:=St.bL (T:=28) kY hO;refine Zr 0 ?_;have hO:=(hO.d [2,2,2,2,2,2]).q [1];exact⟨x12,⟨_,x5,d,_,_,_,hi,hd,hx5,hq,by rw[kY,jM,q_]⟩,rfl,hO⟩
def uk (T:Nat)(h:aO)(l:List NN):aq:=match l with
 | []=>aq.gp [] (fun w=>bF w [] h.v aM []) (fun _ w' h _=>pX h w' []) (fun _ _ b hb=>by cases hb)
 |t::l=>aT h.v T aM (t::l)
section
variable {w0 w:World} {M:List Nat} {L:List aq} {p:aG} {T i:Nat} {h:aO} {l l':List NN} {x y:NN}
theorem St.Xa (hO:St w0 M w (nE T x::L)):St w0 M w (uk T x.h x.ag::aq.dF (x.ag.map (nE T))::L):=by
 obtain⟨k,s,n,a,c,h,l⟩:=x
 cases l with
 |nil=>
  show St w0 M w (nE T (.mk k s n a c h [])::aq.dF []::L);exact (hO.gx).pull 1 rfl
 |cons t l=>exact hO.unN
theorem St.zn (hO:St w0 M w L)(i:Nat)(hi:L[i]?=some (uk T h l)):bF w [] h.v aM l:=by
 cases l with
 |nil=>exact (hO.ok hi:(uk T h []).ok w)
 |cons t l=>exact hO.gD i (show L[i]?=some (aT h.v T aM (t::l)) from hi)
theorem St.LP (hO:St w0 M w (uk T h l::a_ p::L))(hl:∀y∈l,p.has y):∃q:aG,p.le q∧q.S h l∧St w0 M w (a_ q::L):=by
 cases l with
 |cons t l=>exact St.freeze hO hl
 |nil=>
  have h1:=St.and (S:=fun h' l'=>h'=h∧l'=[]) (rd:=fun w he _ h' l' hS M hM=>by
    obtain⟨rfl,rfl⟩:=hS
    exact pX (show bF w [] h'.v aM [] from he) w M) (sub:=fun h' l' hS y hy=>by
    obtain⟨_,rfl⟩:=hS
    cases hy) hO
  exact⟨_,h1.1,.inr ⟨rfl,rfl⟩,h1.2⟩
def BW (l l':List NN):Prop:=flat aM l=flat aM l'∧l.length=l'.length
theorem BW.refl (l:List NN):BW l l:=⟨rfl,rfl⟩
theorem BW.one (a b:List NN)(h:aM.cells x=aM.cells y):BW (a++x::b) (a++y::b):=by
 refine⟨?_,by simp⟩;unfold flat;rw[List.flatMap_append,List.flatMap_append,List.flatMap_cons,List.flatMap_cons,h]
theorem St.YN (hO:St w0 M w L)(hi:L[i]?=some (uk T h l))(hs:BW l l'):St w0 M w (L.set i (uk T h l')):=by
 have e:uk T h l=uk T h l':=by
  obtain⟨h1,h2⟩:=hs
  match l,l',h2 with
  | [],[],_=>rfl
  |a::l,b::l',h2=>
   show aq.sl h.v T 6 _ (flat aM (a::l))=aq.sl h.v T 6 _ (flat aM (b::l'));rw[h1,h2]
 rw[←e];have e2:L.set i (uk T h l)=L:=by
  refine List.ext_getElem? fun j=>?_;rw[List.getElem?_set]
  split
  ·rename_i hj;subst hj
   split
   ·exact hi.symm
   ·rename_i h2;exact absurd (List.getElem?_eq_some_iff.1 hi).1 h2
  ·rfl
 rw[e2];exact hO
theorem St.Sk (hy:l[i]?=some y)(hO:St w0 M w (aq.dF ((l.drop i).map (nE T))::L)):St w0 M w (nE T y::aq.dF ((l.drop (i+1)).map (nE T))::L):=St.rV hy hO
end
def K0 (x:NN):Prop:=∃e i D:NN,x.ag=[e,i,D]∧D.ag.length≤274877906944∧(∀d∈D.ag,d.kind=15→oT d.er)∧∀d∈D.ag,d.kind=10→∃c h q:NN,d.ag=[c,h,q]∧ZM (q.ag.map NN.er)
theorem Ab {l:List NN}{y:NN}{i:Nat}(hy:l[i]?=some y):mz ((l.drop i).map NN.er)=(decide (y.kind=15)||mz ((l.drop (i+1)).map NN.er)):=by
 rw[eK hy,mz,NN.al]
theorem CC {l:List NN}{i:Nat}(h:l.length≤i):mz ((l.drop i).map NN.er)=false:=by
 rw[List.drop_eq_nil_of_le h];rfl
theorem Ro {l dn:List NN}{i:Nat}(h:l.length≤274877906944)(h2:∀y∈dn,y.kind=15→oT y.er)(h3:dn.length=i)(h4:i≤l.length):ZM (dn.map NN.er):=⟨by rw[List.length_map];omega,fun a ha hk=>by
  obtain⟨y,hy,rfl⟩:=List.mem_map.1 ha
  exact h2 y hy ((NN.al y).symm.trans hk)⟩
theorem RO {a b:List NN}{y:NN}{i:Nat}(hi:a.length=i):(a++y::b)[i]?=some y:=by
 subst hi;simp
theorem drop_cons {l:List NN}{y:NN}{i:Nat}(hy:l[i]?=some y):l.drop i=y::l.drop (i+1):=by
 obtain⟨hi,rfl⟩:=List.getElem?_eq_some_iff.1 hy;exact List.drop_eq_getElem_cons hi
def wA (ds:List Deferred)(a:Act):Act:={a with defers:=a.defers++ds}
theorem rz (ds:List Deferred)(a:Act)(d:Option Tmp)(v:Value):(wA ds a).put d v=wA ds (a.put d v):=by cases d<;>rfl
theorem yr (ds:List Deferred)(a:Act):(wA ds a).eval=a.eval:=by funext x;cases x<;>rfl
section
variable {P:Program} {ops:Array Oper} {Q:Exit→Act→World→Prop} {a:Act} {w:World} {ds:List Deferred}
def QA (ds:List Deferred)(Q:Exit→Act→World→Prop):Exit→Act→World→Prop:=fun e a w=>Q e (wA ds a) w
theorem N2 (h:LetsOut (QA ds Q)):LetsOut Q:=by
 obtain⟨a,w,h⟩:=h;exact⟨_,w,h⟩
theorem lu:∀(rest:List Oper) (a:Act) (w:World),wpList P ops (QA ds Q) rest a w→wpList P ops Q rest (wA ds a) w
 | [],a,w,h=>h
 |o::rest,a,w,h=>by
  unfold wpList at h ⊢;have ht:(wA ds a).tmps=a.tmps:=rfl;rw[ht]
  split at h
  ·rename_i hw;rw[if_pos hw];rcases h with h| ⟨h1,h2⟩
   ·refine .inl ?_;unfold Oper.wp at h ⊢;rw[yr];generalize hr:(execOp a.eval o).run P w=r at h ⊢
    match r,h with
    | .ok (.value v) w',h=>
     show wpList P ops Q rest ((wA ds a).put o.dst v) w';rw[rz];exact lu rest _ _ h
    | .ok .skip w',h=>
     show wpList P ops Q rest ((wA ds a).put o.dst undef) w';rw[rz];exact lu rest _ _ h
    | .ok (.defer d) w',h=>
     show wpList P ops Q rest (({wA ds a with defers:=d::(wA ds a).defers}:Act).put o.dst undef) w';have e:({wA ds a with defers:=d::(wA ds a).defers}:Act)=wA ds {a with defers:=d::a.defers}:=rfl;rw[e,rz];exact lu rest _ _ h
    | .ok (.enter f args) w',h=>
     show Calls P f args w' _;refine Calls.mono (show Calls P f args w' _ from h) fun e w2 he=>?_
     cases e with
     |returned v=>
      show wpList P ops Q rest ((wA ds a).put o.dst v) w2;rw[rz];exact lu rest _ _ he
     |panicked ch=>exact he
     |outgrown=>exact N2 he
    | .ok (.row row args) w',h=>
     show Rows P row args w' _;intro b cs;obtain⟨v,w2,h1,h2⟩:=(show Rows P row args w' _ from h) b cs;refine⟨v,w2,?_,h2⟩;show wpList P ops Q rest ((wA ds a).put o.dst v) w2;rw[rz];exact lu rest _ _ h1
    | .halt (.panic v) w',h=>exact h
   ·exact .inr ⟨by unfold Oper.asks at h1 ⊢;rw[yr];exact h1,N2 h2⟩
  ·rename_i hw;rw[if_neg hw,rz];exact lu rest _ _ h
theorem cu {id:Nat}{l:List Oper}(h:wpList P l.toArray (QA ds Q) l a w):(Code.region id l.toArray false).wp P Q (wA ds a) w:=wp_region_lit (lu _ _ _ h)
theorem IM {c:Operand}{p q:Code}{m:Nat}{F:List (Nat×Value)}{b:Bool}{r:Prop}{ir:Decidable r}(hF:Fr a m F)(hv:ev F c=some (.bool b))(hb:b=decide r)(ht:r→p.wp P Q (wA ds a) w)(hf:¬r→q.wp P Q (wA ds a) w):(Code.cond c p q).wp P Q (wA ds a) w:=by
 subst hb;have e:(wA ds a).eval c=.bool (decide r):=by rw[yr];exact hF.eval hv
 refine wp_cond e ?_
 by_cases h:r
 ·simp only[h,decide_true,if_true];exact ht h
 ·simp only[h,decide_false,Bool.false_eq_true,if_false];exact hf h
theorem sM {o:Oper}{d:Deferred}{n:Nat}{F:List (Nat×Value)}(hF:Fr a n F)(hg:o.guard=none)(hd:o.dst=none)(h:(execOp a.eval o).run P w=.ok (.defer d) w)(next:∀a,Fr a n F→Q .normal (wA [d] a) w):wpList P ops Q [o] a w:=by
 unfold wpList;rw[if_pos (by simp [Region.wanted,hg])];refine .inl ?_;unfold Oper.wp;rw[h];show wpList P ops Q [] (({a with defers:=d::a.defers}:Act).put o.dst undef) w;rw[hd];have e:({a with defers:=d::a.defers}:Act).put none undef=wA [d] a:=by
  show ({a with defers:=d::a.defers}:Act)={a with defers:=a.defers++[d]};rw[hF.defs];rfl
 show Q .normal (({a with defers:=d::a.defers}:Act).put none undef) w;rw[e];exact next a hF
theorem uu {o:Oper}{x:Operand}{f:Nat}{fs cs:Array Value}{ts:Array TypeId}(ho:o.op=.defer {callee:=.value x,args:=#[],argTypes:=ts})(hx:a.eval x=.func (.func f) fs cs):(execOp a.eval o).run P w=.ok (.defer {target:=.fn (.func f) cs,args:=fs}) w:=by
 simp [execOp,ho,resolve,hx,Deferred.ofValue]
theorem Dk {f:Nat}{fn:Func}{c:Code}{args:Array Value}{R:Value→World→Prop}(hf:P.funcs[f]?=some fn)(hb:fn.body=some c){m:Nat}(hm:fn.ntmps=m)(L:List (Nat×Value))(hle:Nat.ble args.size m=true)(hL:qC ((List.range args.size).zip args.toList) L)
  (h:∀a,Fr a m L→c.wp P (bodyPostD P fn fun e w'=>∃v,e=.returned v∧R v w') a w):bI P f args w R:=by
 refine calls_of_wp_defers hf hb ?_;have:=Fr.init args (fn.ntmps - args.size) L hL;rw[show args.size+(fn.ntmps - args.size)=m by rw[hm];have:=Nat.le_of_ble_eq_true hle;omega] at this;exact h _ this
end
section
variable {P:Program} {ops:Array Oper} {Q:Exit→Act→List Frame→World→Prop} {a:Act} {w:World} {cs cs':List Frame}
theorem i_ (hno:∀a w,¬Q .outgrown a cs w):∀(is:List Nat) (a:Act) (w:World),wpOps P ops (fun e a w=>Q e a cs w) is a w→wpOpsS P ops Q is a cs w
 | [],a,w,h=>h
 |i::rest,a,w,h=>by
  unfold wpOps at h;unfold wpOpsS
  cases ho:ops[i]? with
  |none=>rw[ho] at h;exact i_ hno rest a w h
  |some o=>
   rw[ho] at h;dsimp only at h ⊢
   split at h
   ·rename_i hw;rw[if_pos hw];rcases h with h| ⟨_,a',w',h2⟩
    ·unfold Oper.wp at h;generalize hr:(execOp a.eval o).run P w=r at h ⊢
     match r,h with
     | .ok (.value v) w',h=>exact i_ hno rest _ _ h
     | .ok .skip w',h=>exact i_ hno rest _ _ h
     | .ok (.defer d) w',h=>exact i_ hno rest _ _ h
     | .ok (.enter f args) w',h=>
      refine Calls.mono (show Calls P f args w' _ from h) fun e w2 he=>?_
      cases e with
      |returned v=>exact i_ hno rest _ _ he
      |panicked ch=>exact he
      |outgrown=>
       obtain⟨a',w',h2⟩:=he;exact absurd h2 (hno _ _)
     | .ok (.row row args) w',h=>
      intro b k;obtain⟨v,w2,h1,h2⟩:=(show Rows P row args w' _ from h) b k;exact⟨v,w2,i_ hno rest _ _ h1,h2⟩
     | .halt (.panic v) w',h=>exact h
    ·exact absurd h2 (hno _ _)
   ·rename_i hw;rw[if_neg hw];exact i_ hno rest _ _ h
theorem Eo {id n d:Nat}{o:Oper}{l:List Oper}{F:List (Nat×Value)}{v:Value}{ts:Array TypeId}(hF:Fr a n F)(hg:o.guard=none)(ho:o.op=.call {callee:=.builtin .recover,args:=#[],argTypes:=ts})(hd:o.dst=some d)(hn:Nat.ble (d+1) n=true)
  (hr:(match recoverD cs with|some p=>p|none=>(Value.nilIface,cs))=(v,cs')) (hno:∀a w,¬Q .outgrown a cs' w) (h:∀a,Fr a n ((d,v)::F)→wpList P (o::l).toArray (fun e a w=>Q e a cs' w) l a w):(Code.region id (o::l).toArray false).wpS P Q a cs w:=by
 refine wpS_region ?_;have hsz:(o::l).toArray.size=l.length+1:=by simp
 rw[hsz,List.range_succ_eq_map];have hrun:(execOp a.eval o).run P w=.ok .recover w:=by
  simp [execOp,ho,resolve,invoke,builtin]
 have hm:(List.range l.length).map Nat.succ=List.range' 1 l.length:=by
  rw[List.range'_eq_map_range];refine List.map_congr_left fun i _=>?_;omega
 rw[hm];unfold wpOpsS;have h0:(o::l).toArray[0]?=some o:=by simp
 rw[h0];dsimp only;rw[if_pos (by simp [Region.wanted,hg]),hrun];have hput:=hF.put (Nat.le_of_ble_eq_true hn) v;have h1:=i_ (P:=P) (ops:=(o::l).toArray) (Q:=Q) hno (List.range' 1 l.length) (a.put (some d) v) w (by
   rw[wpOps_eq_wpList l 1 (fun j=>by simp [Nat.add_comm 1 j])]
   exact h _ hput)
 dsimp only
 cases hc:recoverD cs with
 |none=>
  rw[hc] at hr;cases hr;rw[hd];exact h1
 |some p=>
  rw[hc] at hr;obtain⟨p1,p2⟩:=p;cases hr;rw[hd];exact h1
theorem zT {o:Oper}{x:Operand}{t1 t2:TypeId}{v u:Value}(ho:o.op=.typeAssert x t1 t2 true)(hx:a.eval x=v)(h:∀w,(Instr.typeAssert v t1 t2 true).run P w=.ok u w):QV P o a w u:=by
 simp [QV,execOp,ho,hx,h]
end
theorem Ra {c:Frame}{cs:List Frame}(h:c.mode=.returning):(match recoverD (c::cs) with|some p=>p|none=>(Value.nilIface,c::cs))=(Value.nilIface,c::cs):=by
 simp [recoverD,h]
theorem NC {c:Frame}{cs:List Frame}{v:Value}(h:c.mode=.panicking (pe v)):(match recoverD (c::cs) with|some p=>p|none=>(Value.nilIface,c::cs))=(v,{c with mode:=.panicking [{v,recovered:=true}]}::cs):=by
 simp [recoverD,h,pe]
theorem j4 {fb:Nat}{la lb:Int}{bd:Bool}(x:NN){w0:World}(hA:bx w0 [FE 56 fb la lb bd]):bI Tryz.prog 57 #[ptr (aj fb),.agg (aM.cells x).toArray] w0 (fun v w'=>∃la2 lb2:Int,St w0 (ak [FE 56 fb la lb bd]) w' [FE 56 fb la2 lb2 true]):=by
 have hO:=St.init hA;refine cw Tryz.func57 Tryz.ntmps57 fun a hF=>?_;refine Zb 1 fun v1 a w hO hF=>?_;have hO:=hO.drew;refine sy [0,0,0,0,1,0,0,0,1,0,0,0,0,1,0,0,0,0,1,0,0,0,0,1,0,0,0,1,0,0,0,0,1,0,0,0] [0,1,3,7,15,31,63,127,255,127,639,1663,3711,7807,16383,32767,65535,131071,262143,131071,655359,1703935,3801087,7995391,16777215,33554431,67108863,134217727,67108863,335544319,872415231,1946157055,4093640703,8589934591,17179869183,34359738367] (fun w=>St _ _ w _) bH (by kernel_rfl) hO ?_;refine Zw 34 fun a hF=>?_;refine uo hF rfl rfl rfl rfl rfl rfl (fun hg w=>dk rfl ((hF.eval rfl).trans (an hg)) rfl (fun hg2=>((hF.eval rfl).trans (mr hg hg2))) rfl) fun a hF=>?_;refine Zi 1 (fun a hF hc1=>?_) fun a hF hc1=>?_
 ·refine Zv 8 fun a hF=>?_;refine c_ hF rfl rfl (qx (k:=0) hO (i:=1) rfl Tryz.sizeOf31 rfl (hF.eval rfl) (hF.eval rfl) rfl (Nat.le_of_ble_eq_true rfl) (gA rfl)) ?_;rintro a _ w ⟨-,hO⟩ hF;have hO:=hO.nm;refine Zr 0 ?_;have hO:=hO.d [0];exact⟨_,_,hO⟩
 ·refine Zr 0 ?_;have hO:=hO.d [0]
  cases bd with
  |true=>exact⟨_,_,hO⟩
  |false=>exact absurd (by simp) hc1
theorem vU (x:NN)(w0:World):bI Tryz.prog 194 #[.agg (aM.cells x).toArray] w0 (fun v w'=>v=.bool (iP x.er)∧St w0 [] w' []):=by
 have hO:=St.aX w0;refine cw Tryz.func194 Tryz.ntmps194 fun a hF=>?_;refine Zb 6 fun v1 a w hO hF=>?_;refine Zw 5 fun a hF=>?_;refine Zr 0 ?_;have hO:=hO.d [0];exact⟨congrArg Value.bool (by rw[iP,NN.al]),hO⟩
def SK (F:Nd→FM Nd)(f:Nat):Prop:=∀{fb:Nat} {la lb:Int} {bd:Bool} {p:aG} {x:NN} {a:Nd} {d:Bool} {w0:World},bx w0 [FE 56 fb la lb bd,a_ p]→p.has x→oT x.er→F x.er=some (a,d)→
 bI Tryz.prog f #[ptr (aj fb),.agg (aM.cells x).toArray] w0 (fun v w'=>∃(y:NN) (la2 lb2:Int) (q:aG),y.er=a∧p.le q∧q.has y∧v=.agg (aM.cells y).toArray∧St w0 (ak [FE 56 fb la lb bd,a_ p]) w' [FE 56 fb la2 lb2 (bd||d),a_ q])
def Wo (F:List Nd→FM (List Nd))(f:Nat):Prop:=∀{fb:Nat} {la lb:Int} {bd:Bool} {p:aG} {l:List NN} {h:aO} {a:List Nd} {d:Bool} {w0:World},bx w0 [FE 56 fb la lb bd,a_ p]→p.S h l→KV (l.map NN.er)→F (l.map NN.er)=some (a,d)→
 bI Tryz.prog f #[ptr (aj fb),h.v] w0 (fun v w'=>∃(h2:aO) (l2:List NN) (la2 lb2:Int) (q:aG),l2.map NN.er=a∧p.le q∧(∀y∈l2,q.has y)∧v=h2.v∧St w0 (ak [FE 56 fb la lb bd,a_ p]) w' [FE 56 fb la2 lb2 (bd||d),a_ q,aT h2.v 28 aM l2])
structure PaT (k:Nat):Prop where
 pat:SK (jA k) 111
 pats:Wo (dO k) 146
theorem Rf (w0:World):bI Tryz.prog 148 #[] w0 (fun v w'=>∃(b:Nat) (f:Lit→Option Value),v=.map (some b)∧eF f (fun n=>(jg n).map i64)∧St w0 [] w' [aq.eX Tryz.prog 3 b 10 f]):=by
 have hO:=St.aX w0;refine cw Tryz.func148 Tryz.ntmps148 fun a hF=>?_;refine Zv 1 fun a hF=>?_;refine fN hF rfl rfl rfl (mD hO 3 rfl) ?_;rintro a _ w ⟨mp,rfl,hO⟩ hF;refine c_ hF rfl rfl (cv hO (i:=0) rfl Tryz.underlying3 Tryz.underlying139 (by decide) rfl (hF.eval rfl) (hF.eval rfl) (hF.eval rfl) (by decide)) ?_;rintro a _ w ⟨-,hO⟩ hF;have hO:=hO.nm;refine c_ hF rfl rfl (cv hO (i:=0) rfl Tryz.underlying3 Tryz.underlying139 (by decide) rfl (hF.eval rfl) (hF.eval rfl) (hF.eval rfl) (by decide)) ?_;rintro a _ w ⟨-,hO⟩ hF;have hO:=hO.nm;refine c_ hF rfl rfl (cv hO (i:=0) rfl Tryz.underlying3 Tryz.underlying139 (by decide) rfl (hF.eval rfl) (hF.eval rfl) (hF.eval rfl) (by decide)) ?_;rintro a _ w ⟨-,hO⟩ hF;have hO:=hO.nm;refine c_ hF rfl rfl (cv hO (i:=0) rfl Tryz.underlying3 Tryz.underlying139 (by decide) rfl (hF.eval rfl) (hF.eval rfl) (hF.eval rfl) (by decide)) ?_;rintro a _ w ⟨-,hO⟩ hF;have hO:=hO.nm;refine c_ hF rfl rfl (cv hO (i:=0) rfl Tryz.underlying3 Tryz.underlying139 (by decide) rfl (hF.eval rfl) (hF.eval rfl) (hF.eval rfl) (by decide)) ?_;rintro a _ w ⟨-,hO⟩ hF;have hO:=hO.nm;refine c_ hF rfl rfl (cv hO (i:=0) rfl Tryz.underlying3 Tryz.underlying139 (by decide) rfl (hF.eval rfl) (hF.eval rfl) (hF.eval rfl) (by decide)) ?_;rintro a _ w ⟨-,hO⟩ hF;have hO:=hO.nm;refine c_ hF rfl rfl (cv hO (i:=0) rfl Tryz.underlying3 Tryz.underlying139 (by decide) rfl (hF.eval rfl) (hF.eval rfl) (hF.eval rfl) (by decide)) ?_;rintro a _ w ⟨-,hO⟩ hF;have hO:=hO.nm;refine c_ hF rfl rfl (cv hO (i:=0) rfl Tryz.underlying3 Tryz.underlying139 (by decide) rfl (hF.eval rfl) (hF.eval rfl) (hF.eval rfl) (by decide)) ?_;rintro a _ w ⟨-,hO⟩ hF;have hO:=hO.nm;refine c_ hF rfl rfl (cv hO (i:=0) rfl Tryz.underlying3 Tryz.underlying139 (by decide) rfl (hF.eval rfl) (hF.eval rfl) (hF.eval rfl) (by decide)) ?_;rintro a _ w ⟨-,hO⟩ hF;have hO:=hO.nm;refine c_ hF rfl rfl (cv hO (i:=0) rfl Tryz.underlying3 Tryz.underlying139 (by decide) rfl (hF.eval rfl) (hF.eval rfl) (hF.eval rfl) (by decide)) ?_;rintro a _ w ⟨-,hO⟩ hF;have hO:=hO.nm;refine Zr 2 ?_;exact⟨_,_,rfl,fun n=>(((((((((((O9.put 18 _).put 38 _).put 20 _).put 21 _).put 39 _).put 31 _).put 32 _).put 19 _).put 35 _).put 23 _) n).trans (Kv n).symm,hO⟩
theorem xf (l:List NN)(h:aO)(w0:World)(hR:bF w0 [] h.v aM l)(hl:0<l.length):bI Tryz.prog 147 #[h.v] w0 (fun v w'=>∃x:NN,((1<l.length∧∃a c:Int,x=NN.mk 23 [] 0 a c h l)∨(l.length=1∧l[0]?=some x))∧v=.agg (aM.cells x).toArray∧St w0 [] w' []):=by
 have hO:=St.aX w0;refine cw Tryz.func147 Tryz.ntmps147 fun a hF=>?_;refine Zb 2 fun v1 a w hO hF=>?_;refine Zg 0 (ew hR) fun a hF=>?_;refine Zi 1 (fun a hF hc1=>?_) fun a hF hc1=>?_
 ·obtain⟨x,hx⟩:=cI (l:=l) (i:=0) (by omega);refine Zg 1 (eB 0 hR (by omega)) fun a hF=>?_;refine Zh 0 hR hx fun a hF=>?_;refine Zc 0 (bu _ _) ?_;rintro a _ w ⟨rfl,hS⟩ hF;have hO:=hO.k0 hS;refine Zc 1 (aW l h _ _ _ _) ?_;rintro a _ w ⟨x9,hx9,rfl,hS⟩ hF;have hO:=hO.k0 hS;refine Zs 1 fun a w hO hF=>?_;refine Zr 0 ?_;have hO:=hO.d [0];exact⟨x9,.inl ⟨by omega,_,_,hx9⟩,rfl,hO⟩
 ·obtain⟨x,hx⟩:=cI (l:=l) (i:=0) (by omega);refine Zg 1 (eB 0 hR (by omega)) fun a hF=>?_;refine Zh 0 hR hx fun a hF=>?_;refine Zs 1 fun a w hO hF=>?_;refine Zr 0 ?_;have hO:=hO.d [0];exact⟨x,.inr ⟨by omega,hx⟩,rfl,hO⟩
theorem IY {H p:Prop}(h:H)(g:H→p:=by intro hh;(first|exact ha| (simp only[bJ,sw,b_,NN.aH,NN.al,NN.cU,List.map_cons,List.map_nil,List.map_append,List.append_nil,List.append_assoc,List.cons_append,List.nil_append,listed,bk] at ha ⊢;exact ha)| (rw[←ha];simp only[bJ,sw,b_,NN.aH,NN.al,NN.cU,List.map_cons,List.map_nil,List.map_append,List.append_nil,List.append_assoc,List.cons_append,List.nil_append,listed,bk];done)| (rw[←ha];simp only[bJ,sw,b_,NN.aH,NN.al,NN.cU,List.map_cons,List.map_nil,List.map_append,List.append_nil,List.append_assoc,List.cons_append,List.nil_append,listed,bk];rfl))):p:=g h
theorem ku {H p:Prop}(h:H)(g:H→p:=by intro hh;simp only[hh,Bool.or_assoc,Bool.or_false,Bool.false_or,Bool.or_true,Bool.true_or]):p:=g h
theorem oB {H p:Prop}(h:H)(g:H→p:=by intro hh;(first|exact ha| (simp only[hh,bJ,sw,b_,NN.aH,NN.al,NN.cU,List.map_cons,List.map_nil,List.map_append,List.append_nil,List.append_assoc,List.cons_append,List.nil_append,listed,bk] at ha ⊢;exact ha)| (rw[←ha];simp only[hh,bJ,sw,b_,NN.aH,NN.al,NN.cU,List.map_cons,List.map_nil,List.map_append,List.append_nil,List.append_assoc,List.cons_append,List.nil_append,listed,bk];done)| (rw[←ha];simp only[hh,bJ,sw,b_,NN.aH,NN.al,NN.cU,List.map_cons,List.map_nil,List.map_append,List.append_nil,List.append_assoc,List.cons_append,List.nil_append,listed,bk];rfl))):p:=g h
theorem FC (k:Nat)(ih:∀j,j≤k→PaT j){fb:Nat}{la lb:Int}{bd:Bool}{p:aG}{x:NN}{ar:Nd}{dr:Bool}{w0:World}(hA:bx w0 [FE 56 fb la lb bd,a_ p])(hx:p.has x)(hw:oT x.er)(hQ:jA (k+1) x.er=some (ar,dr)):bI Tryz.prog 111 #[ptr (aj fb),.agg (aM.cells x).toArray] w0 (fun v w'=>∃(y:NN) (la2 lb2:Int) (q:aG),y.er=ar∧p.le q∧q.has y∧v=.agg (aM.cells y).toArray∧St w0 (ak [FE 56 fb la lb bd,a_ p]) w' [FE 56 fb la2 lb2 (bd||dr),a_ q]):=by
 have hO:=St.init hA;have hw1:=hw.1;simp only[jA,NN.al,NN.cU,NN.aH,NN.bo] at hQ;refine cw Tryz.func111 Tryz.ntmps111 fun a hF=>?_;refine Zb 1 fun v1 a w hO hF=>?_;refine Zb 5 fun v2 a w hO hF=>?_;refine Zi 0 (fun hc1=>?_) fun hc1=>?_
 ·rw[if_pos hc1] at hQ;obtain⟨a3,e3,d3,hb3,hQ,hd3⟩:=bw hQ;have he3:=iF hb3;refine Zi 3 (fun a hF hc2=>?_) fun a hF hc2=>?_
  ·have he3:=he3.trans (decide_eq_true hc2);refine Zv 2 fun a hF=>?_;have hO:=hO.q [2];refine Zc 0 (j4 _ (St.ai hO)) ?_;rintro a _ w ⟨la4,lb4,hS⟩ hF;have hO:=hO.k1 hS;refine Zs 2 fun a w hO hF=>?_;refine Zr 0 ?_;obtain⟨ha,hd0⟩:=bS hQ;have hO:=hO.d [1,1];exact⟨x,_,_,_,(IY trivial),aG.le.rfl,hx,rfl,(St.pK (ku (And.intro hd0 (And.intro hd3 he3))) hO)⟩
  ·have he3:=he3.trans (decide_eq_false hc2);refine Zs 2 fun a w hO hF=>?_;refine Zr 0 ?_;obtain⟨ha,hd0⟩:=bS hQ;have hO:=hO.d [0,0];exact⟨x,_,_,_,(IY trivial),aG.le.rfl,hx,rfl,(St.pK (ku (And.intro hd0 (And.intro hd3 he3))) hO)⟩
 ·rw[if_neg hc1] at hQ;refine Zi 2 (fun a hF hc3=>?_) fun a hF hc3=>?_
  ·rw[if_pos hc3] at hQ;obtain⟨ys0,ms,hs⟩:∃ys0 ms,x.ag=ys0::ms:=by
    rcases hs:x.ag with _| ⟨ys0,ms⟩
    ·rw[hs] at hQ;exact (c6 hQ).elim
    exact⟨ys0,ms,rfl⟩
   simp only[hs,List.map_cons] at hQ;have hi0:x.ag[0]?=some ys0:=by rw[hs];rfl
   have hz0:=rp hi0;refine Zo 0 [0,1,3] [1,2,0,1,0,0,1,0,1,2,2,3,3] [0,1,2,3,4,5,6,7,8,9,10,11,12] fun w hO=>?_;refine Zk 1 (bu _ _) ?_;rintro a _ w ⟨rfl,hS⟩ hF;have hO:=hO.k0 hS;refine Zg 5 (nP (hO.js 3 rfl hx) hi0) fun a hF=>?_;refine Zh 0 hx hi0 fun a hF=>?_;have X5:=aG.elem hx hi0;have W6:=gN hw hi0;obtain⟨a7,e7,d7,hb7,hQ,hd7⟩:=bw hQ;have hO:=hO.q [2,2];have abH:=(ih k (by omega)).pat (St.ba hO) X5 W6 hb7;refine eY rfl rfl hF rfl rfl rfl (a6 hF rfl rfl Tryz.call111 (abH)) ?_ ?_
   ·rintro _ w ⟨y7,la7,lb7,p7,rfl,le7,X7,rfl,hS⟩;have hO:=hO.k2 hS;have hO:=hO.q [1];have hO:=St.bT hO le7;have hO:=(hO.d [1]).q [1,1];exact hO
   rintro a _ w ⟨y7,la7,lb7,p7,rfl,le7,X7,rfl,hS⟩ hF;have hO:=hO.k2 hS;refine eY rfl rfl hF rfl rfl rfl (bM hF hO Tryz.underlying26 Tryz.sizeOf28 Tryz.zeroValue28 rfl rfl rfl rfl rfl rfl rfl) ?_ ?_
   ·rintro _ w ⟨b1,rfl,hO⟩;have hO:=hO.nm;have hO:=hO.q [2];have hO:=St.bT hO le7;have hO:=(hO.d [1,1]).q [1,1];exact hO
   rintro a _ w ⟨b1,rfl,hO⟩ hF;have hO:=hO.ka [y7];have X8:∀y∈[y7],p7.has y:=(all_cons X7 all_nil);have hO:=hO.q [0,1];obtain⟨p10,Ck,X12,hO⟩:=St.freeze hO X8;refine Zc 0 (aW [y7] ⟨some (aj b1),1,1⟩ _ _ _ _) ?_;rintro a _ w ⟨x9,hx9,rfl,hS⟩ hF;have hO:=hO.k0 hS;have X13:p10.has x9:=aG.bL hx9 X12;refine Zs 1 fun a w hO hF=>?_;refine Zr 0 ?_;obtain⟨ha,hd0⟩:=bS hQ;have hO:=(hO.d [2,2]).q [1];exact⟨x9,_,_,_,(oB hx9),(le7.trans Ck),X13,rfl,(St.pK (ku (And.intro hd0 hd7)) hO)⟩
  ·rw[if_neg hc3] at hQ;refine Zi 2 (fun a hF hc4=>?_) fun a hF hc4=>?_
   ·rw[if_pos hc4] at hQ;refine Zb 4 fun v14 a w hO hF=>?_;have hO:=hO.bV 28 6;have hO:St _ _ _ (aT (aO.v aU) 28 aM ([]:List NN)::[_,_,_,_,_]):=hO;have X16:=all_nil (p:=p);obtain⟨a18,e18,d18,Mn,hQ,Zp⟩:=bw hQ;have hQm:=hQ;have hO:=hO.q [4,4,1,2,1];refine ax (fun (s:Nat×NN×List NN×aO×Bool×aG×Int×Int×Bool) a w'=>match s with| (j17,t_,wg,F8,d17,q17,T_,Pc,I0)=>(ic j17 t_.er (wg.map NN.er)=some (a18,d17)∧(I0||d17)=(bd||e18)∧p.le q17∧q17.has t_∧(∀y∈wg,q17.has y)∧oT t_.er∧wg.length+dw t_.er≤dw x.er∧j17≤k)∧St w0 (ak [FE 56 fb la lb bd,a_ p]) w' [FE 56 fb T_ Pc I0,a_ q17,.ob v14 28 (aM.cells t_),.ob v1 28 (aM.cells x),.ob v2 28 (aM.cells ea),aT F8.v 28 aM wg]∧Fr a 93 [(0,ptr (aj fb)),(3,ptr (aj v1)),(4,ptr (aj v2)),(5,ptr (aj v14)),(6,(aO.v F8))]) (fun (s:Nat×NN×List NN×aO×Bool×aG×Int×Int×Bool)=>match s with| (j17,t_,wg,F8,d17,q17,T_,Pc,I0)=>j17) (k,x,([]:List NN),aU,e18,p,_,_,bd) ⟨⟨Mn,rfl,aG.le.rfl,hx,X16,hw,Nat.le_of_eq (Nat.zero_add _),Nat.le_refl _⟩,hO,hF.sub ⟨rfl,rfl,rfl,rfl,rfl,trivial⟩⟩ ?_;rintro⟨j17,t_,wg,F8,d17,q17,T_,Pc,I0⟩ a w ⟨⟨hQ,DM,Kw,Mg,TS,Wl,ag3,ah5⟩,hO,hF⟩;rcases j17 with _|j17
    ·simp only[ic] at hQ;exact (c6 hQ).elim
    simp only[ic,NN.al,NN.bo] at hQ;refine Zi 3 (fun a hF hc5=>?_) fun a hF hc5=>?_
    ·rw[if_pos hc5] at hQ;obtain⟨Fo,JE,msa,hsa⟩:∃Fo JE msa,t_.ag=Fo::JE::msa:=by
      rcases hs:t_.ag with _| ⟨Fo,msa⟩
      ·rw[hs] at hQ;exact (c6 hQ).elim
      rcases msa with _| ⟨JE,msa⟩
      ·rw[hs] at hQ;exact (c6 hQ).elim
      exact⟨Fo,JE,msa,rfl⟩
     simp only[hsa,List.map_cons] at hQ;have Ks:t_.ag[0]?=some Fo:=by rw[hsa];rfl
     have ac2:=rp Ks;have Kq:t_.ag[1]?=some JE:=by rw[hsa];rfl
     have abv:=rp Kq;refine Zg 3 (nP (hO.js 1 rfl Mg) Kq) fun a hF=>?_;refine Zh 0 Mg Kq fun a hF=>?_;have X19:=aG.elem Mg Kq;have W20:=gN Wl Kq;obtain⟨a21,e21,d21,aft,hQ,abi⟩:=bw hQ;have Wz:=(ih j17 (by omega)).pat (St.ba hO) X19 W20 aft;refine Zc 0 (Wz) ?_;rintro a _ w ⟨y21,adU,ad4,p21,rfl,Ig,X21,rfl,hS⟩ hF;have hO:=hO.k2 hS;refine Zb 1 fun b2 a w hO hF=>?_;have hO:=hO.ka [y21];have X22:∀y∈[y21],p21.has y:=(all_cons X21 all_nil);refine Za 1 (gR wg 0 6 trivial) fun E9 a w hO hF=>?_;have hO:=hO.d [6];have X25:=Ig.all TS;have X26:=dt X22 X25;have X27:=Ig.S _ _ Mg;refine Zg 3 (nP (hO.js 2 rfl X27) Ks) fun a hF=>?_;refine Zh 0 X27 Ks fun a hF=>?_;have X28:=aG.elem X27 Ks;have W29:=gN Wl Ks;refine Zs 1 fun a w hO hF=>?_;have hO:=hO.q [1,1,1,1,1];exact⟨(j17,Fo,([y21]++wg),E9,d21,p21,_,_,(I0||e21)),⟨⟨hQ,by rw[←DM,abi,Bool.or_assoc],(Kw.trans Ig),X28,X26,W29,by have:=ac2;have:=abv;simp only[List.length_append,List.length_cons,List.length_nil];omega,by omega⟩,hO,hF.sub ⟨rfl,rfl,rfl,rfl,rfl,trivial⟩⟩,by dsimp only;omega⟩
    ·rw[if_neg hc5] at hQ;obtain⟨hap,hdp⟩:=bS hQ;rw[hdp,Bool.or_false] at DM;have hQ:=hQm;rw[←hap] at hQ;simp only[NN.al,NN.aH] at hQ;obtain⟨a30,e30,d30,B1,hQ,XM⟩:=bw hQ;have EG:=iF B1;refine Zi 3 (fun a hF hc6=>?_) fun a hF hc6=>?_
     ·have EG:=EG.trans (decide_eq_true hc6);refine Zc 2 (j4 _ (St.ai hO)) ?_;rintro a _ w ⟨ajb,ahJ,hS⟩ hF;have hO:=hO.k1 hS;refine Zo 0 [1,2,3,4] [1,2,0,1,0,3,3] [0,1,2,3,4,5,6] fun w hO=>?_;refine Zk 1 (bu _ _) ?_;rintro a _ w ⟨rfl,hS⟩ hF;have hO:=hO.k0 hS;refine Zv 3 fun a hF=>?_;have hO:=hO.q [5,1];obtain⟨p33,Nf,X35,hO⟩:=St.freeze hO TS;refine Zc 0 (aW wg F8 _ _ _ _) ?_;rintro a _ w ⟨x32,py,rfl,hS⟩ hF;have hO:=hO.k0 hS;have X36:p33.has x32:=aG.bL py X35;refine Zs 1 fun a w hO hF=>?_;refine Zr 0 ?_;obtain⟨ha,hd0⟩:=bS hQ;have hO:=(hO.d [2,2,2]).q [1];exact⟨x32,_,_,_,(oB py),(Kw.trans Nf),X36,rfl,(St.pK (ku (And.intro hd0 (And.intro Zp (And.intro DM (And.intro XM EG))))) hO)⟩
     ·have EG:=EG.trans (decide_eq_false hc6);refine Zo 0 [1,2,3,4] [1,2,0,1,0,3,3] [0,1,2,3,4,5,6] fun w hO=>?_;refine Zk 1 (bu _ _) ?_;rintro a _ w ⟨rfl,hS⟩ hF;have hO:=hO.k0 hS;refine Zv 3 fun a hF=>?_;have hO:=hO.q [5,1];obtain⟨p38,zb,X40,hO⟩:=St.freeze hO TS;refine Zc 0 (aW wg F8 _ _ _ _) ?_;rintro a _ w ⟨x37,oC,rfl,hS⟩ hF;have hO:=hO.k0 hS;have X41:p38.has x37:=aG.bL oC X40;refine Zs 1 fun a w hO hF=>?_;refine Zr 0 ?_;obtain⟨ha,hd0⟩:=bS hQ;have hO:=(hO.d [2,2,2]).q [1];exact⟨x37,_,_,_,(oB oC),(Kw.trans zb),X41,rfl,(St.pK (ku (And.intro hd0 (And.intro Zp (And.intro DM (And.intro XM EG))))) hO)⟩
   ·rw[if_neg hc4] at hQ;refine Zo 0 [0,1,3] [2,0,1,3,0,0,0,0,0] [0,1,2,3,4,5,6,7,8] fun w hO=>?_;refine Zk 0 (Rf _) ?_;rintro a _ w ⟨mb,mf,rfl,hmf,hS⟩ hF;have hO:=hO.k0 hS;refine Zv 2 fun a hF=>?_;refine vO rfl rfl hF rfl rfl rfl (y3 hO (Ls hO (i:=0) rfl hmf Tryz.underlying3 Tryz.underlying139 (Tryz.zeroValue3 _) rfl (hF.eval rfl) (hF.eval rfl) (by have:=MY hw;omega))) ?_;rintro a _ w ⟨rfl,hO⟩ hF;refine Zv 6 fun a hF=>?_;refine ao hF rfl rfl rfl (cY rfl (hF.eval rfl) (bh _)) fun a hF=>?_;refine Zi 0 (fun hc7=>?_) fun hc7=>?_
    ·have hpk:jg x.kind=none:=by cases hp:jg x.kind with|none=>rfl|some z=>exact absurd (by rw[hp];rfl) hc7
     simp only[hpk] at hQ;obtain⟨a42,e42,d42,afT,hQ,acM⟩:=bw hQ;have acj:=iF afT;refine Zv 2 fun a hF=>?_;have hO:=hO.q [3];refine Zc 0 (j4 _ (St.ai hO)) ?_;rintro a _ w ⟨acg,aeE,hS⟩ hF;have hO:=hO.k1 hS;refine Zs 2 fun a w hO hF=>?_;refine Zr 0 ?_;obtain⟨ha,hd0⟩:=bS hQ;have X_nn0:p.has ea:=aG.nil _;have hO:=hO.d [1,1,1];exact⟨ea,_,_,_,(IY trivial),aG.le.rfl,X_nn0,rfl,(St.pK (ku (And.intro hd0 (And.intro acM acj))) hO)⟩
    ·obtain⟨kk,hpk⟩:∃kk,jg x.kind=some kk:=by cases hp:jg x.kind with|none=>exact absurd (fun q=>by rw[hp] at q;cases q) hc7|some z=>exact⟨z,rfl⟩
     simp only[hpk] at hQ;rw[E7 hpk] at hF;have hO:=hO.drew;refine Zv 0 ?_;refine bG bH ?_;refine aL 1 10 rfl ?_ ?_
     ·refine aL 8 10 rfl ?_ ?_
      ·refine aL 9 10 rfl ?_ ?_
       ·refine Zq [1,2,4] [1,2,0,0,1,0,0,1,2,3,3,3] [0,1,2,3,4,5,6,7,8,9,10,11] ?_;refine Zk 1 (bu _ _) ?_;rintro a _ w ⟨rfl,hS⟩ hF;have hO:=hO.k0 hS;obtain⟨a44,e44,d44,abB,hQ,agx⟩:=bw hQ;refine Zv 6 fun a hF=>?_;have hO:=hO.q [3,3];have Wq:=(ih k (by omega)).pats (St.ba hO) hx (fC hw) abB;refine eY rfl rfl hF rfl rfl rfl (a6 hF rfl rfl Tryz.call146 (Wq)) ?_ ?_
        ·rintro _ w ⟨h44,l44,abN,aea,p44,rfl,xL,A44,rfl,hS⟩;have hO:=hO.k2 hS;have hO:=hO.q [1];have hO:=St.bT hO xL;have hO:=(hO.d [1,1,1]).q [1,1];exact hO
        rintro a _ w ⟨h44,l44,abN,aea,p44,rfl,xL,A44,rfl,hS⟩ hF;have hO:=hO.k2 hS;have hO:=hO.q [2,1];obtain⟨p46,acY,X48,hO⟩:=St.freeze hO A44;have hO:=hO.nm;refine Zc 0 (aW l44 h44 _ _ _ _) ?_;rintro a _ w ⟨x45,Xk,rfl,hS⟩ hF;have hO:=hO.k0 hS;have X49:p46.has x45:=aG.bL Xk X48;obtain⟨x51,Th⟩:∃y:NN,y=NN.mk x45.kind x45.name x.n x45.line x45.cR x45.h x45.ag:=⟨_,rfl⟩;refine Zb 6 fun v50 a w hO hF=>?_;have hO:St _ _ _ [.ob _ _ (aM.cells (NN.mk x45.kind x45.name x.n x45.line x45.cR x45.h x45.ag)),_,_,_,_,_]:=hO;rw[←Th] at hO;have X52:p46.has x51:=aG.bL Th X49;refine Zs 2 fun a w hO hF=>?_;refine Zr 0 ?_;obtain⟨ha,hd0⟩:=bS hQ;have hO:=(hO.d [0,2,2,2]).q [1];exact⟨x51,_,_,_,(oB (And.intro Xk Th)),(xL.trans acY),X52,rfl,(St.pK (ku (And.intro hd0 agx)) hO)⟩
       ·refine Zq [1,2,4] [1,2,0,0,1,0,0,1,2,3,2,3] [0,1,2,3,4,5,6,7,8,10,9,11] ?_;refine Zk 1 (bu _ _) ?_;rintro a _ w ⟨rfl,hS⟩ hF;have hO:=hO.k0 hS;obtain⟨a53,e53,d53,FJ,hQ,Su⟩:=bw hQ;refine Zv 6 fun a hF=>?_;have hO:=hO.q [3,3];have Hr:=(ih k (by omega)).pats (St.ba hO) hx (fC hw) FJ;refine eY rfl rfl hF rfl rfl rfl (a6 hF rfl rfl Tryz.call146 (Hr)) ?_ ?_
        ·rintro _ w ⟨h53,l53,Te,QH,p53,rfl,vQ,A53,rfl,hS⟩;have hO:=hO.k2 hS;have hO:=hO.q [1];have hO:=St.bT hO vQ;have hO:=(hO.d [1,1,1]).q [1,1];exact hO
        rintro a _ w ⟨h53,l53,Te,QH,p53,rfl,vQ,A53,rfl,hS⟩ hF;have hO:=hO.k2 hS;refine eY rfl rfl hF rfl rfl rfl (qU hO Tryz.zeroValue28 rfl rfl) ?_ ?_
        ·rintro _ w ⟨v54,rfl,hO⟩;have hO:=hO.nm;have hO:=hO.q [2];have hO:=St.bT hO vQ;have hO:=(hO.d [1,1,1,1]).q [1,1];exact hO
        rintro a _ w ⟨v54,rfl,hO⟩ hF;have hO:=hO.q [3,2];obtain⟨p56,aex,X58,hO⟩:=St.freeze hO A53;have hO:=hO.nm;refine Zc 0 (aW l53 h53 _ _ _ _) ?_;rintro a _ w ⟨x55,HP,rfl,hS⟩ hF;have hO:=hO.k0 hS;have X59:p56.has x55:=aG.bL HP X58;obtain⟨x60,yH⟩:∃y:NN,y=NN.mk x55.kind x55.name x.n x55.line x55.cR x55.h x55.ag:=⟨_,rfl⟩;refine Zs 5 fun a w hO hF=>?_;have hO:St _ _ _ [_,.ob _ _ (aM.cells (NN.mk x55.kind x55.name x.n x55.line x55.cR x55.h x55.ag)),_,_,_,_]:=hO;rw[←yH] at hO;have X61:p56.has x60:=aG.bL yH X59;refine Zs 2 fun a w hO hF=>?_;refine Zr 0 ?_;obtain⟨ha,hd0⟩:=bS hQ;have hO:=(hO.d [1,2,2,2]).q [1];exact⟨x60,_,_,_,(oB (And.intro HP yH)),(vQ.trans aex),X61,rfl,(St.pK (ku (And.intro hd0 Su)) hO)⟩
      ·refine Zq [1,2,4] [1,2,0,0,1,0,0,1,2,3,2,3] [0,1,2,3,4,5,6,7,10,8,9,11] ?_;refine Zk 1 (bu _ _) ?_;rintro a _ w ⟨rfl,hS⟩ hF;have hO:=hO.k0 hS;obtain⟨a63,e63,d63,Qu,hQ,Qx⟩:=bw hQ;refine Zb 7 fun v62 a w hO hF=>?_;have hO:=hO.q [4,4];have IQ:=(ih k (by omega)).pats (St.ba hO) hx (fC hw) Qu;refine eY rfl rfl hF rfl rfl rfl (a6 hF rfl rfl Tryz.call146 (IQ)) ?_ ?_
       ·rintro _ w ⟨h63,l63,UU,VF,p63,rfl,EV,A63,rfl,hS⟩;have hO:=hO.k2 hS;have hO:=hO.q [1];have hO:=St.bT hO EV;have hO:=(hO.d [1,1,1,1]).q [1,1];exact hO
       rintro a _ w ⟨h63,l63,UU,VF,p63,rfl,EV,A63,rfl,hS⟩ hF;have hO:=hO.k2 hS;have hO:=hO.q [2,1];obtain⟨p65,Nk,X67,hO⟩:=St.freeze hO A63;have hO:=hO.nm;refine Zc 0 (aW l63 h63 _ _ _ _) ?_;rintro a _ w ⟨x64,HB,rfl,hS⟩ hF;have hO:=hO.k0 hS;have X68:p65.has x64:=aG.bL HB X67;obtain⟨x69,F0⟩:∃y:NN,y=NN.mk x64.kind x64.name x.n x64.line x64.cR x64.h x64.ag:=⟨_,rfl⟩;refine Zs 5 fun a w hO hF=>?_;have hO:St _ _ _ [_,_,.ob _ _ (aM.cells (NN.mk x64.kind x64.name x.n x64.line x64.cR x64.h x64.ag)),_,_,_]:=hO;rw[←F0] at hO;have X70:p65.has x69:=aG.bL F0 X68;refine Zs 2 fun a w hO hF=>?_;refine Zr 0 ?_;obtain⟨ha,hd0⟩:=bS hQ;have hO:=(hO.d [2,2,2,2]).q [1];exact⟨x69,_,_,_,(oB (And.intro HB F0)),(EV.trans Nk),X70,rfl,(St.pK (ku (And.intro hd0 Qx)) hO)⟩
     ·refine Zq [1,2,4] [1,2,0,0,1,0,0,1,2,3,2,3] [0,2,3,4,5,6,7,10,1,8,9,11] ?_;refine Zb 8 fun v71 a w hO hF=>?_;refine Zk 0 (bu _ _) ?_;rintro a _ w ⟨rfl,hS⟩ hF;have hO:=hO.k0 hS;obtain⟨a72,e72,d72,acp,hQ,acR⟩:=bw hQ;have hO:=hO.q [4,4];have Yz:=(ih k (by omega)).pats (St.ba hO) hx (fC hw) acp;refine eY rfl rfl hF rfl rfl rfl (a6 hF rfl rfl Tryz.call146 (Yz)) ?_ ?_
      ·rintro _ w ⟨h72,l72,afK,agv,p72,rfl,Qr,A72,rfl,hS⟩;have hO:=hO.k2 hS;have hO:=hO.q [1];have hO:=St.bT hO Qr;have hO:=(hO.d [1,1,1,1]).q [1,1];exact hO
      rintro a _ w ⟨h72,l72,afK,agv,p72,rfl,Qr,A72,rfl,hS⟩ hF;have hO:=hO.k2 hS;have hO:=hO.q [2,1];obtain⟨p74,acE,X76,hO⟩:=St.freeze hO A72;have hO:=hO.nm;refine Zc 0 (aW l72 h72 _ _ _ _) ?_;rintro a _ w ⟨x73,JD,rfl,hS⟩ hF;have hO:=hO.k0 hS;have X77:p74.has x73:=aG.bL JD X76;obtain⟨x78,TM⟩:∃y:NN,y=NN.mk x73.kind x73.name x.n x73.line x73.cR x73.h x73.ag:=⟨_,rfl⟩;refine Zs 5 fun a w hO hF=>?_;have hO:St _ _ _ [_,_,.ob _ _ (aM.cells (NN.mk x73.kind x73.name x.n x73.line x73.cR x73.h x73.ag)),_,_,_]:=hO;rw[←TM] at hO;have X79:p74.has x78:=aG.bL TM X77;refine Zs 2 fun a w hO hF=>?_;refine Zr 0 ?_;obtain⟨ha,hd0⟩:=bS hQ;have hO:=(hO.d [2,2,2,2]).q [1];exact⟨x78,_,_,_,(oB (And.intro JD TM)),(Qr.trans acE),X79,rfl,(St.pK (ku (And.intro hd0 acR)) hO)⟩
theorem Cp (k:Nat)(ih:∀j,j<k→PaT j){fb:Nat}{la lb:Int}{bd:Bool}{p:aG}{l:List NN}{h:aO}{ar:List Nd}{dr:Bool}{w0:World}(hA:bx w0 [FE 56 fb la lb bd,a_ p])(hx:p.S h l)(hw:KV (l.map NN.er))(hQ:dO k (l.map NN.er)=some (ar,dr)):bI Tryz.prog 146 #[ptr (aj fb),h.v] w0 (fun v w'=>∃(h2:aO) (l2:List NN) (la2 lb2:Int) (q:aG),l2.map NN.er=ar∧p.le q∧(∀y∈l2,q.has y)∧v=h2.v∧St w0 (ak [FE 56 fb la lb bd,a_ p]) w' [FE 56 fb la2 lb2 (bd||dr),a_ q,aT h2.v 28 aM l2]):=by
 have hO:=St.init hA;have hw1:l.length≤274877906944:=by simpa using hw.1
 refine cw Tryz.func146 Tryz.ntmps146 fun a hF=>?_;refine Zv 1 fun a hF=>?_;have hO:=hO.bV 28 6;have hO:St _ _ _ (aT (aO.v aU) 28 aM ([]:List NN)::[_,_]):=hO;have X2:=all_nil (p:=p);refine Zv 1 fun a hF=>?_;have hO:=hO.bV 28 6;have hO:St _ _ _ (aT (aO.v aU) 28 aM ([]:List NN)::[_,_,_]):=hO;have X4:=all_nil (p:=p);refine Zg 1 (ew (hO.js 3 rfl hx)) fun a hF=>?_;have hlz:=yZ l;refine Zv 1 fun a hF=>?_;have hO:=(hO.d [1]).q [1,1];refine ax (fun (s:Nat×Nat×List Nd×Bool×List NN×aO×aG×Int×Int×Bool) a w'=>match s with| (i5,j5,r5,d5,ac5,ha5,q5,la5,lb5,fl5)=>(i5≤l.length∧dO j5 ((l.drop i5).map NN.er)=some (r5,d5)∧ac5.map NN.er++r5=ar∧(fl5||d5)=(bd||dr)∧p.le q5∧(∀y∈ac5,q5.has y)∧ac5.length=i5∧j5≤k)∧St w0 (ak [FE 56 fb la lb bd,a_ p]) w' [FE 56 fb la5 lb5 fl5,a_ q5,aT ha5.v 28 aM ac5]∧Fr a 22 [(0,ptr (aj fb)),(5,(aO.v ha5)),(8,h.v),(9,i64 l.length),(10,i64 i5)]) (fun (s:Nat×Nat×List Nd×Bool×List NN×aO×aG×Int×Int×Bool)=>match s with| (i5,j5,r5,d5,ac5,ha5,q5,la5,lb5,fl5)=>l.length - i5) (0,k,ar,dr,([]:List NN),aU,p,_,_,bd) ⟨⟨Nat.zero_le _,hQ,rfl,rfl,aG.le.rfl,X4,rfl,Nat.le_refl _⟩,hO,hF.sub ⟨rfl,rfl,rfl,rfl,rfl,trivial⟩⟩ ?_;rintro⟨i5,j5,r5,d5,ac5,ha5,q5,la5,lb5,fl5⟩ a w ⟨⟨hi5,hQ,CF,fi,jQ,hA5,hn5,hj5⟩,hO,hF⟩;refine Zi 1 (fun a hF hc1=>?_) fun a hF hc1=>?_
 ·obtain⟨y,hy⟩:=cI (l:=l) (i:=i5) (by omega);have hyz:=DD hy;rw[eK hy] at hQ;refine Zv 0 ?_;rcases j5 with _|j5
  ·simp only[dO] at hQ;exact (c6 hQ).elim
  simp only[dO] at hQ;have X6:=jQ.S _ _ hx;refine Zg 0 (eB i5 (hO.js 1 rfl X6) (by omega)) fun a hF=>?_;refine Zh 0 X6 hy fun a hF=>?_;have X7:=aG.elem X6 hy;have W8:=BC hw hy;obtain⟨a10,e10,d10,EF,hQ,IW⟩:=bw hQ;refine Zb 5 fun v9 a w hO hF=>?_;have hO:=hO.q [1,1];have Gp:=(ih j5 (by omega)).pat (St.ba hO) X7 W8 EF;refine Zc 0 (Gp) ?_;rintro a _ w ⟨y10,agV,aee,p10,rfl,xq,X10,rfl,hS⟩ hF;have hO:=hO.k2 hS;refine Zb 1 fun b1 a w hO hF=>?_;have hO:=hO.ka [y10];have X11:∀y∈[y10],p10.has y:=(all_cons X10 all_nil);refine Za 0 (gR [y10] 4 0 trivial) fun Ij a w hO hF=>?_;have hO:=hO.d [0];have X14:=xq.all hA5;have X15:=dt X14 X11;refine Zv 3 fun a hF=>?_;have hO:=hO.d [2];obtain⟨r2,f2,g2,hb2,hQ,hd2⟩:=bw hQ;obtain⟨hr2,hd0⟩:=bS hQ;exact⟨(i5+1,j5,r2,f2,(ac5++[y10]),Ij,p10,_,_,(fl5||e10)),⟨⟨by omega,hb2,by rw[←CF,←hr2,List.map_append,List.append_assoc];rfl,by rw[←fi,IW,hd2,hd0,Bool.or_false,Bool.or_assoc],(jQ.trans xq),X15,by simp only[List.length_append,List.length_cons,List.length_nil];omega,by omega⟩,hO,hF.sub ⟨rfl,rfl,rfl,rfl,rfl,trivial⟩⟩,by dsimp only;omega⟩
 ·refine Zr 2 ?_;rw[List.drop_eq_nil_of_le (by omega)] at hQ;simp only[List.map_nil,dO] at hQ;obtain⟨hr0,hd0⟩:=bS hQ;rw[←hr0,List.append_nil] at CF;rw[hd0,Bool.or_false] at fi;exact⟨ha5,ac5,_,_,_,CF,jQ,hA5,rfl,St.pK fi hO⟩
theorem ma (k:Nat):PaT k:=by
 induction k using Nat.strongRecOn with
 |_ k ih=>
  refine⟨?_,fun hA hx hw hQ=>Cp k ih hA hx hw hQ⟩
  cases k with
  |zero=>exact fun _ _ _ hQ=>(c6 (by simpa only[jA] using hQ)).elim
  |succ k=>exact fun hA hx hw hQ=>FC k (fun j hj=>ih j (by omega)) hA hx hw hQ
theorem UG {x y:NN}(h:oT x.er)(h2:oT y.er):KV (([x,y]:List NN).map NN.er):=Ib (by show 2≤274877906944;decide) (HE h h2)
theorem zt (k:Nat){fb:Nat}{la lb:Int}{bd:Bool}{p:aG}{x:NN}{ar:Option (List UInt8×List Nd)}{dr:Bool}{w0:World}(hA:bx w0 [FE 56 fb la lb bd,a_ p])(hx:p.has x)(hw:oT x.er)(hQ:kW k x.er=some (ar,dr)):bI Tryz.prog 109 #[ptr (aj fb),.agg (aM.cells x).toArray] w0 (fun v w'=>∃(is:Bool) (nm:List UInt8) (h2:aO) (l2:List NN) (la2 lb2:Int) (q:aG),ar=(if is=true then some (nm,l2.map NN.er) else none)∧p.le q∧(∀y∈l2,q.has y)∧v=.tuple #[str nm,h2.v,.bool is]∧St w0 (ak [FE 56 fb la lb bd,a_ p]) w' [FE 56 fb la2 lb2 (bd||dr),a_ q,aT h2.v 28 aM l2]):=by
 have hO:=St.init hA;have hw1:=hw.1;have hw2:=En (fC hw);simp only[kW,NN.al,NN.bo] at hQ;refine cw Tryz.func109 Tryz.ntmps109 fun a hF=>?_;refine Zb 3 fun v1 a w hO hF=>?_;have hO:=hO.bV 28 6;have hO:St _ _ _ (aT (aO.v aU) 28 aM ([]:List NN)::[_,_,_]):=hO;have X3:=all_nil (p:=p);refine Zi 4 (fun a hF hc1=>?_) fun a hF hc1=>?_
 ·rw[if_pos hc1] at hQ;refine Zg 3 (ew (hO.js 3 rfl hx)) fun a hF=>?_;generalize hoa:oJ 0 0 (x.ag.map NN.er)=oa at hQ;obtain⟨a5,e5,d5,hb5,hQ,hd5⟩:=bw hQ;have he5:=iF hb5;obtain⟨ahh,ahs,Xm⟩:=Cb hw hc1;refine Zv 1 fun a hF=>?_;have hO:=(hO.d [0]).q [1,1];refine ax (fun (s:Nat×Nat×Int×Int×Bool) a w'=>match s with| (i4,at4,la4,lb4,fl4)=>(i4≤x.ag.length∧(oJ at4 i4 ((x.ag.drop i4).map NN.er)).1=oa.1∧(fl4||(oJ at4 i4 ((x.ag.drop i4).map NN.er)).2)=(bd||oa.2)∧(at4=0∨∃o:NN,x.ag[at4]?=some o∧o.kind=24)∧at4≤x.ag.length)∧St w0 (ak [FE 56 fb la lb bd,a_ p]) w' [FE 56 fb la4 lb4 fl4,a_ p,.ob v1 28 (aM.cells x)]∧Fr a 109 [(0,ptr (aj fb)),(3,ptr (aj v1)),(7,i64 at4),(17,x.h.v),(18,i64 x.ag.length),(19,i64 i4)]) (fun (s:Nat×Nat×Int×Int×Bool)=>match s with| (i4,at4,la4,lb4,fl4)=>x.ag.length - i4) (0,0,_,_,bd) ⟨⟨Nat.zero_le _,congrArg Prod.fst hoa,congrArg (fun z=>(bd||z.2)) hoa,.inl rfl,Nat.zero_le _⟩,hO,hF.sub ⟨rfl,rfl,rfl,rfl,rfl,rfl,trivial⟩⟩ ?_;rintro⟨i4,at4,la4,lb4,fl4⟩ a w ⟨⟨hi,ho1,ho2,hat,hatl⟩,hO,hF⟩;refine Zi 1 (fun a hF hc2=>?_) fun a hF hc2=>?_
  ·obtain⟨oy,hoy⟩:=cI (l:=x.ag) (i:=i4) (by omega);rw[eK hoy] at ho1 ho2;simp only[oJ,NN.al,NN.cU] at ho1 ho2;refine Zg 1 (eB i4 (hO.js 1 rfl hx) (by omega)) fun a hF=>?_;refine Zh 0 hx hoy fun a hF=>?_;have X6:=aG.elem hx hoy;have W7:=gN hw hoy;refine Zb 7 fun v8 a w hO hF=>?_;refine Zw 5 fun a hF=>?_;refine Zi 0 (fun hc3=>?_) fun hc3=>?_
   ·rw[if_pos hc3] at ho1 ho2
    try dsimp only at ho1 ho2
    refine Zv 2 fun a hF=>?_;have hO:=hO.d [0];exact⟨(i4+1,at4,_,_,fl4),⟨⟨by omega,ho1,ho2,hat,hatl⟩,hO,hF.sub ⟨rfl,rfl,rfl,rfl,rfl,rfl,trivial⟩⟩,by dsimp only;omega⟩
   ·rw[if_neg hc3] at ho1 ho2
    try dsimp only at ho1 ho2
    refine Zi 3 (fun a hF hc4=>?_) fun a hF hc4=>?_
    ·rw[if_pos (by omega)] at ho1 ho2
     try dsimp only at ho1 ho2
     refine Zv 2 fun a hF=>?_;have hO:=hO.q [1];refine Zc 0 (j4 _ (St.ai hO)) ?_;rintro a _ w ⟨la9,lb9,hS⟩ hF;have hO:=hO.k1 hS;refine Zv 2 fun a hF=>?_;have hO:=hO.d [1];exact⟨(i4+1,at4,_,_,true),⟨⟨by omega,ho1,by rw[←ho2,Bool.or_true,Bool.true_or],hat,hatl⟩,hO,hF.sub ⟨rfl,rfl,rfl,rfl,rfl,rfl,trivial⟩⟩,by dsimp only;omega⟩
    ·rw[if_neg (by omega)] at ho1 ho2
     try dsimp only at ho1 ho2
     refine Zv 4 fun a hF=>?_;have hO:=hO.d [0];exact⟨(i4+1,i4,_,_,fl4),⟨⟨by omega,ho1,ho2,.inr ⟨oy,hoy,Classical.not_not.1 (fun q=>hc3 (.inl q))⟩,by omega⟩,hO,hF.sub ⟨rfl,rfl,rfl,rfl,rfl,rfl,trivial⟩⟩,by dsimp only;omega⟩
  ·rw[List.drop_eq_nil_of_le (by omega)] at ho1 ho2;simp only[List.map_nil,oJ,Bool.or_false] at ho1 ho2;refine Zi 2 (fun a hF hc5=>?_) fun a hF hc5=>?_
   ·rw[←ho1,if_pos (by omega)] at hQ;refine Zv 2 fun a hF=>?_;have hO:=hO.bV 28 6;have hO:St _ _ _ (aT (aO.v aU) 28 aM ([]:List NN)::[_,_,_]):=hO;have X11:=all_nil (p:=p);refine Zr 1 ?_;have hO:=(hO.d [3]).q [1,1];obtain⟨ha,hd0⟩:=bS hQ;exact⟨false,[],aU,([]:List NN),_,_,_,by rw[←ha];rfl,aG.le.rfl,X11,rfl,(St.pK (ku (And.intro hd0 (And.intro hd5 (And.intro he5 ho2)))) hO)⟩
   ·rw[←ho1,if_neg (by omega)] at hQ;obtain⟨oo,hoo,hok⟩:=hat.resolve_left (by omega);have hod:=Xm _ _ hoo hok;have hol:=(List.getElem?_eq_some_iff.1 hoo).1;refine Zo 0 [1,2] [0,1,0,0,0,1,0,0,1,0,0,2,0,1,0,0,0,2,2,2,0,0,0] [0,1,2,3,4,5,6,7,8,9,10,11,12,13,14,15,16,17,18,19,20,21,22] fun w hO=>?_;refine Zg 3 (eB at4 (hO.js 1 rfl hx) (hol)) fun a hF=>?_;refine Zh 1 hx hoo fun a hF=>?_;have X12:=aG.elem hx hoo;have W13:=gN hw hoo;refine Zv 4 fun a hF=>?_;refine eC rfl rfl hF rfl rfl rfl (fun w=>uX (hO.js 1 rfl hx) Tryz.underlying26 Tryz.sizeOf28 rfl (hF.eval rfl) (hF.eval rfl) (by omega)) fun a hF=>?_;have hO:=hO.q [1];obtain⟨p14,EN,V14,hO⟩:=St.view (h':=(x.h.cut at4)) (l':=(x.ag.take at4)) hO hx (fun w M hR=>by rw[Xt];exact bF.cut hR (by omega)) (fun y hy=>aG.sub _ _ _ hx y (List.mem_of_mem_take hy));refine eY rfl rfl hF rfl rfl rfl (a6 hF rfl rfl Tryz.call147 (xf (x.ag.take at4) (x.h.cut at4) _ (hO.js 0 rfl V14) (by rw[List.length_take];omega))) ?_ ?_
    ·rintro _ w ⟨x14,RH,rfl,hS⟩;have hO:=hO.k0 hS;have hO:=St.bT hO EN;have hO:=hO.d [1];exact hO
    rintro a _ w ⟨x14,RH,rfl,hS⟩ hF;have hO:=hO.k0 hS;have aeq:=xg RH V14;have VR:=AF RH;have W14:=M7 hw hc1 VR hod hol;have X15:=EN.S _ _ hx;refine Zv 4 fun a hF=>?_;refine eC rfl rfl hF rfl rfl rfl (fun w=>yW (j:=at4+1) (hO.js 0 rfl X15) Tryz.underlying26 Tryz.sizeOf28 rfl (hF.eval rfl) ((hF.eval rfl).trans (congrArg i64 ((by omega:((at4:Int)+1)=((at4+1:Nat):Int))))) (by omega)) fun a hF=>?_;obtain⟨p16,vW,V16,hO⟩:=St.view (h':=(x.h.zx (at4+1) 6)) (l':=(x.ag.drop (at4+1))) hO X15 (fun w M hR=>by rw[MB];exact bF.drop hR (by omega)) (fun y hy=>aG.sub _ _ _ X15 y (List.mem_of_mem_drop hy));refine eY rfl rfl hF rfl rfl rfl (a6 hF rfl rfl Tryz.call147 (xf (x.ag.drop (at4+1)) (x.h.zx (at4+1) 6) _ (hO.js 0 rfl V16) (by rw[List.length_drop];omega))) ?_ ?_
    ·rintro _ w ⟨x16,Rm,rfl,hS⟩;have hO:=hO.k0 hS;have hO:=St.bT hO (EN.trans vW);have hO:=hO.d [1];exact hO
    rintro a _ w ⟨x16,Rm,rfl,hS⟩ hF;have hO:=hO.k0 hS;have adv:=xg Rm V16;have ZH:=AF Rm;have W16:=GH hw hc1 ZH hod hol;refine eY rfl rfl hF rfl rfl rfl (bM hF hO Tryz.underlying26 Tryz.sizeOf28 Tryz.zeroValue28 rfl rfl rfl rfl rfl rfl rfl) ?_ ?_
    ·rintro _ w ⟨b1,rfl,hO⟩;have hO:=hO.nm;have hO:=hO.q [1];have hO:=St.bT hO (EN.trans vW);have hO:=hO.d [1,1];exact hO
    rintro a _ w ⟨b1,rfl,hO⟩ hF;have hO:=hO.ka [x14,x16];have X17:=vW.S _ _ aeq;have X18:∀y∈[x14,x16],p16.has y:=(all_cons X17 (all_cons adv all_nil));rw[←List.map_take,←List.map_drop,←VR,←ZH,Ml hoo,NN.aH] at hQ;obtain⟨p19,kB,X21,hO⟩:=St.freeze hO X18;obtain⟨a22,e22,d22,abz,hQ,agE⟩:=bw hQ;have hO:=hO.q [1];have aaz:=(ma k).pats (St.ba hO) X21 (UG W14 W16) abz;refine eY rfl rfl hF rfl rfl rfl (a6 hF rfl rfl Tryz.call146 (aaz)) ?_ ?_
    ·rintro _ w ⟨h22,l22,adI,abW,p22,rfl,pA,A22,rfl,hS⟩;have hO:=hO.k2 hS;have hO:=hO.q [1];have hO:=St.bT hO (((EN.trans vW).trans kB).trans pA);have hO:=hO.d [1,1];exact hO
    rintro a _ w ⟨h22,l22,adI,abW,p22,rfl,pA,A22,rfl,hS⟩ hF;have hO:=hO.k2 hS;refine Zr 3 ?_;have hO:=hO.d [3];obtain⟨ha,hd0⟩:=bS hQ;exact⟨true,oo.name,h22,l22,_,_,_,by rw[←ha];rfl,(((EN.trans vW).trans kB).trans pA),A22,rfl,(St.pK (ku (And.intro hd0 (And.intro hd5 (And.intro he5 (And.intro ho2 agE))))) hO)⟩
 ·rw[if_neg hc1] at hQ;refine Zv 1 fun a hF=>?_;have hO:=hO.bV 28 6;have hO:St _ _ _ (aT (aO.v aU) 28 aM ([]:List NN)::[_,_,_,_]):=hO;have X24:=all_nil (p:=p);obtain⟨h0,as0,hha⟩:∃h l,eT k x.er []=some (h,l):=by
   cases hh:eT k x.er [] with
   |none=>rw[hh] at hQ;exact (c6 hQ).elim
   |some z=>exact⟨z.1,z.2,rfl⟩
  rw[hha] at hQ;dsimp only at hQ;have hO:=(hO.d [1]).q [2,2,1];refine ax (fun (s:Nat×NN×List NN×aO) a w'=>match s with| (j25,r6,kf,EK)=>(eT j25 r6.er (kf.reverse.map NN.er)=some (h0,as0)∧p.has r6∧(∀y∈kf,p.has y)∧(∀y∈kf,oT y.er)∧oT r6.er∧kf.length+dw r6.er≤dw x.er)∧St w0 (ak [FE 56 fb la lb bd,a_ p]) w' [FE 56 fb la lb bd,a_ p,.ob v1 28 (aM.cells r6),aT EK.v 28 aM kf]∧Fr a 109 [(0,ptr (aj fb)),(3,ptr (aj v1)),(10,(aO.v EK))]) (fun (s:Nat×NN×List NN×aO)=>match s with| (j25,r6,kf,EK)=>j25) (k,x,([]:List NN),aU) ⟨⟨hha,hx,X24,fun y hy=>(by cases hy),hw,Nat.le_of_eq (Nat.zero_add _)⟩,hO,hF.sub ⟨rfl,rfl,rfl,trivial⟩⟩ ?_;rintro⟨j25,r6,kf,EK⟩ a w ⟨⟨hQh,Gf,ZG,NS,Y1,ahg⟩,hO,hF⟩;rcases j25 with _|j25
  ·simp only[eT] at hQh;cases hQh
  simp only[eT,NN.al,NN.bo] at hQh;refine Zi 3 (fun a hF hc6=>?_) fun a hF hc6=>?_
  ·rw[if_pos hc6] at hQh;obtain⟨Fv,xw,msb,hsb⟩:∃Fv xw msb,r6.ag=Fv::xw::msb:=by
    rcases hs:r6.ag with _| ⟨Fv,msb⟩
    ·rw[hs] at hQh;cases hQh
    rcases msb with _| ⟨xw,msb⟩
    ·rw[hs] at hQh;cases hQh
    exact⟨Fv,xw,msb,rfl⟩
   simp only[hsb,List.map_cons] at hQh;have Kc:r6.ag[0]?=some Fv:=by rw[hsb];rfl
   have agL:=rp Kc;have HV:r6.ag[1]?=some xw:=by rw[hsb];rfl
   have ab9:=rp HV;refine Zg 3 (nP (hO.js 1 rfl Gf) HV) fun a hF=>?_;refine Zh 0 Gf HV fun a hF=>?_;have X26:=aG.elem Gf HV;have W27:=gN Y1 HV;refine Zb 1 fun b2 a w hO hF=>?_;have hO:=hO.ka [xw];have X28:∀y∈[xw],p.has y:=(all_cons X26 all_nil);refine Za 0 (gR [xw] 4 0 trivial) fun Kt a w hO hF=>?_;have hO:=hO.d [0];have X31:=dt ZG X28;refine Zg 3 (nP (hO.js 1 rfl Gf) Kc) fun a hF=>?_;refine Zh 0 Gf Kc fun a hF=>?_;have X32:=aG.elem Gf Kc;have W33:=gN Y1 Kc;refine Zs 1 fun a w hO hF=>?_;exact⟨(j25,Fv,(kf++[xw]),Kt),⟨⟨by rw[List.reverse_append];exact hQh,X32,X31,fun y hy=>(List.mem_append.1 hy).elim (NS y) (fun h=>by cases List.mem_singleton.1 h;exact W27),W33,by have:=agL;have:=ab9;simp only[List.length_append,List.length_cons,List.length_nil];omega⟩,hO,hF.sub ⟨rfl,rfl,rfl,trivial⟩⟩,by dsimp only;omega⟩
  ·rw[if_neg hc6] at hQh;obtain⟨rfl,rfl⟩:=Prod.mk.inj (Option.some.inj hQh);simp only[NN.al,NN.aH] at hQ;refine Zi 3 (fun a hF hc7=>?_) fun a hF hc7=>?_
   ·rw[if_pos hc7] at hQ;refine Zv 2 fun a hF=>?_;have hO:=hO.bV 28 6;have hO:St _ _ _ (aT (aO.v aU) 28 aM ([]:List NN)::[_,_,_,_]):=hO;have X35:=all_nil (p:=p);refine Zr 1 ?_;have hO:=(hO.d [3,3]).q [1,1];obtain⟨ha,hd0⟩:=bS hQ;exact⟨false,[],aU,([]:List NN),_,_,_,by rw[←ha];rfl,aG.le.rfl,X35,rfl,(St.pK (ku hd0) hO)⟩
   ·rw[if_neg hc7] at hQ;refine Zg 1 (ew (hO.rd 3 rfl)) fun a hF=>?_;refine Zv 3 fun a hF=>?_;refine ax (fun (s:Nat×Int×List NN) a w'=>match s with| (i36,j36,Bu)=>(2 * i36≤kf.length+1∧j36=(kf.length:Int) - 1 - (i36:Int)∧yY kf Bu i36)∧St w0 (ak [FE 56 fb la lb bd,a_ p]) w' [FE 56 fb la lb bd,a_ p,.ob v1 28 (aM.cells r6),aT EK.v 28 aM Bu]∧Fr a 109 [(0,ptr (aj fb)),(3,ptr (aj v1)),(10,(aO.v EK)),(11,i64 i36),(12,i64 j36)]) (fun (s:Nat×Int×List NN)=>match s with| (i36,j36,Bu)=>kf.length - i36) (0,(kf.length:Int) - 1,kf) ⟨⟨by omega,by show (kf.length:Int) - 1=(kf.length:Int) - 1 - ((0:Nat):Int);omega,.start kf⟩,hO,hF.sub ⟨rfl,rfl,rfl,rfl,rfl,trivial⟩⟩ ?_;rintro⟨i36,j36,Bu⟩ a w ⟨⟨hi2,hj,hI⟩,hO,hF⟩;have hl1:=hI.1;refine Zi 3 (fun a hF hc8=>?_) fun a hF hc8=>?_
    ·refine Zo 0 [1,2,3] [0,0,0,0,0,0,0,1,0,0,0,1,0,3,0,3] [0,1,2,3,4,5,6,7,8,9,10,11,12,13,14,15] fun w hO=>?_;obtain⟨xx,hxx⟩:=cI (l:=Bu) (i:=(kf.length - 1 - i36)) (by have:=hI.1;omega);refine Zv 6 fun a hF=>?_;refine eC rfl rfl hF rfl rfl rfl (fun w=>kj (i:=(kf.length - 1 - i36)) (hO.rd 3 rfl) Tryz.underlying26 Tryz.sizeOf28 rfl (hF.eval rfl) ((hF.eval rfl).trans (congrArg i64 ((by omega:j36=((kf.length - 1 - i36:Nat):Int))))) (by have:=hI.1;omega)) fun a hF=>?_;refine fM rfl rfl hF rfl rfl rfl (fun w hO=>cE Tryz.isAgg28 Tryz.sizeOf28 rfl (hF.eval rfl) (bF.cells (hO.gD 2 rfl) hxx) rfl) fun a hF=>?_;obtain⟨yy,hyy⟩:=cI (l:=Bu) (i:=i36) (by have:=hI.1;omega);refine Zg 2 (eB i36 (hO.rd 3 rfl) (by have:=hI.1;omega)) fun a hF=>?_;refine fM rfl rfl hF rfl rfl rfl (fun w hO=>cE Tryz.isAgg28 Tryz.sizeOf28 rfl (hF.eval rfl) (bF.cells (hO.gD 2 rfl) hyy) rfl) fun a hF=>?_;refine Zg 0 (eB i36 (hO.rd 3 rfl) (by have:=hI.1;omega)) fun a hF=>?_;refine de rfl rfl hF rfl rfl (bm (m:=i36) (off:=0) (q:=xx) hO (i:=3) rfl Tryz.sizeOf28 rfl (hF.eval rfl) rfl (hF.eval rfl) rfl hyy rfl (Nat.le_of_ble_eq_true rfl) rfl (gA rfl)) ?_;rintro a _ w ⟨-,hO⟩ hF;have hO:=hO.nm;refine eC rfl rfl hF rfl rfl rfl (fun w=>kj (i:=(kf.length - 1 - i36)) (hO.rd 3 rfl) Tryz.underlying26 Tryz.sizeOf28 rfl (hF.eval rfl) ((hF.eval rfl).trans (congrArg i64 ((by omega:j36=((kf.length - 1 - i36:Nat):Int))))) (by have:=hI.1;rw[List.length_set];omega)) fun a hF=>?_;refine de rfl rfl hF rfl rfl (bm (m:=(kf.length - 1 - i36)) (off:=0) (q:=yy) hO (i:=3) rfl Tryz.sizeOf28 rfl (hF.eval rfl) rfl (hF.eval rfl) rfl (by rw[List.getElem?_set_ne (by omega)];exact hxx) rfl (Nat.le_of_ble_eq_true rfl) rfl (gA rfl)) ?_;rintro a _ w ⟨-,hO⟩ hF;have hO:=hO.nm;refine Zv 6 fun a hF=>?_;exact⟨(i36+1,j36 - 1,(Bu.set i36 xx).set (kf.length - 1 - i36) yy),⟨⟨by omega,by omega,hI.next (by omega) hxx hyy⟩,hO,hF.sub ⟨rfl,rfl,rfl,rfl,rfl,trivial⟩⟩,by dsimp only;omega⟩
    ·have hnd:¬i36<kf.length - 1 - i36:=by omega
     rw[hI.done hnd] at hO;have hAr:∀y∈kf.reverse,p.has y:=fun y hy=>ZG y (List.mem_reverse.1 hy);refine Zo 0 [1,2] [0,1,0,0,2,0,0,0] [0,1,2,3,4,5,6,7] fun w hO=>?_;refine Zv 4 fun a hF=>?_;have hO:=hO.q [3,1];obtain⟨p37,BO,X39,hO⟩:=St.freeze hO hAr;obtain⟨a40,e40,d40,aec,hQ,abQ⟩:=bw hQ;have hO:=hO.q [1];have aaJ:=(ma k).pats (St.ba hO) X39 (Ib (by rw[List.length_reverse];omega) (fun y hy=>NS y (List.mem_reverse.1 hy))) aec;refine eY rfl rfl hF rfl rfl rfl (a6 hF rfl rfl Tryz.call146 (aaJ)) ?_ ?_
     ·rintro _ w ⟨h40,l40,afP,adH,p40,rfl,Hm,A40,rfl,hS⟩;have hO:=hO.k2 hS;have hO:=hO.q [1];have hO:=St.bT hO (BO.trans Hm);have hO:=hO.d [1,1];exact hO
     rintro a _ w ⟨h40,l40,afP,adH,p40,rfl,Hm,A40,rfl,hS⟩ hF;have hO:=hO.k2 hS;refine Zr 3 ?_;have hO:=hO.d [3];obtain⟨ha,hd0⟩:=bS hQ;exact⟨true,r6.name,h40,l40,_,_,_,by rw[←ha];rfl,(BO.trans Hm),A40,rfl,(St.pK (ku (And.intro hd0 abQ)) hO)⟩
def EqC (F:List Nd→FM (List Nd))(f:Nat):Prop:=∀{fb:Nat} {la lb:Int} {bd:Bool} {p:aG} {l:List NN} {h:aO} {ar:List Nd} {dr:Bool} {w0:World},bx w0 [FE 56 fb la lb bd,a_ p]→p.S h l→ZM (l.map NN.er)→F (l.map NN.er)=some (ar,dr)→
 bI Tryz.prog f #[ptr (aj fb),h.v] w0 (fun v w'=>∃(h2:aO) (l2:List NN) (la2 lb2:Int) (q:aG),l2.map NN.er=ar∧p.le q∧(∀y∈l2,q.has y)∧v=h2.v∧St w0 (ak [FE 56 fb la lb bd,a_ p]) w' [FE 56 fb la2 lb2 (bd||dr),a_ q,aT h2.v 28 aM l2])
structure U4 (k:Nat):Prop where
 exp:SK (cl k) 177
 exps:Wo (bW k) 145
 rgt:SK (iA k) 108
 eqs:EqC (fun l=>fz k l [] false) 56
theorem TO (k:Nat)(ih:∀j,j<k→U4 j){fb:Nat}{la lb:Int}{bd:Bool}{p:aG}{l:List NN}{h:aO}{ar:List Nd}{dr:Bool}{w0:World}(hA:bx w0 [FE 56 fb la lb bd,a_ p])(hx:p.S h l)(hw:KV (l.map NN.er))(hQ:bW k (l.map NN.er)=some (ar,dr)):bI Tryz.prog 145 #[ptr (aj fb),h.v] w0 (fun v w'=>∃(h2:aO) (l2:List NN) (la2 lb2:Int) (q:aG),l2.map NN.er=ar∧p.le q∧(∀y∈l2,q.has y)∧v=h2.v∧St w0 (ak [FE 56 fb la lb bd,a_ p]) w' [FE 56 fb la2 lb2 (bd||dr),a_ q,aT h2.v 28 aM l2]):=by
 have hO:=St.init hA;have hw1:l.length≤274877906944:=by simpa using hw.1
 refine cw Tryz.func145 Tryz.ntmps145 fun a hF=>?_;refine Zv 1 fun a hF=>?_;have hO:=hO.bV 28 6;have hO:St _ _ _ (aT (aO.v aU) 28 aM ([]:List NN)::[_,_]):=hO;have X2:=all_nil (p:=p);refine Zv 1 fun a hF=>?_;have hO:=hO.bV 28 6;have hO:St _ _ _ (aT (aO.v aU) 28 aM ([]:List NN)::[_,_,_]):=hO;have X4:=all_nil (p:=p);refine Zg 1 (ew (hO.js 3 rfl hx)) fun a hF=>?_;have hlz:=yZ l;refine Zv 1 fun a hF=>?_;have hO:=(hO.d [1]).q [1,1];refine ax (fun (s:Nat×Nat×List Nd×Bool×List NN×aO×aG×Int×Int×Bool) a w'=>match s with| (i5,j5,r5,d5,ac5,ha5,q5,la5,lb5,fl5)=>(i5≤l.length∧bW j5 ((l.drop i5).map NN.er)=some (r5,d5)∧ac5.map NN.er++r5=ar∧(fl5||d5)=(bd||dr)∧p.le q5∧(∀y∈ac5,q5.has y)∧ac5.length=i5∧j5≤k)∧St w0 (ak [FE 56 fb la lb bd,a_ p]) w' [FE 56 fb la5 lb5 fl5,a_ q5,aT ha5.v 28 aM ac5]∧Fr a 22 [(0,ptr (aj fb)),(5,(aO.v ha5)),(8,h.v),(9,i64 l.length),(10,i64 i5)]) (fun (s:Nat×Nat×List Nd×Bool×List NN×aO×aG×Int×Int×Bool)=>match s with| (i5,j5,r5,d5,ac5,ha5,q5,la5,lb5,fl5)=>l.length - i5) (0,k,ar,dr,([]:List NN),aU,p,_,_,bd) ⟨⟨Nat.zero_le _,hQ,rfl,rfl,aG.le.rfl,X4,rfl,Nat.le_refl _⟩,hO,hF.sub ⟨rfl,rfl,rfl,rfl,rfl,trivial⟩⟩ ?_;rintro⟨i5,j5,r5,d5,ac5,ha5,q5,la5,lb5,fl5⟩ a w ⟨⟨hi5,hQ,CF,fi,jQ,hA5,hn5,hj5⟩,hO,hF⟩;refine Zi 1 (fun a hF hc1=>?_) fun a hF hc1=>?_
 ·obtain⟨y,hy⟩:=cI (l:=l) (i:=i5) (by omega);have hyz:=DD hy;rw[eK hy] at hQ;refine Zv 0 ?_;rcases j5 with _|j5
  ·simp only[bW] at hQ;exact (c6 hQ).elim
  simp only[bW] at hQ;have X6:=jQ.S _ _ hx;refine Zg 0 (eB i5 (hO.js 1 rfl X6) (by omega)) fun a hF=>?_;refine Zh 0 X6 hy fun a hF=>?_;have X7:=aG.elem X6 hy;have W8:=BC hw hy;obtain⟨a10,e10,d10,EF,hQ,IW⟩:=bw hQ;refine Zb 5 fun v9 a w hO hF=>?_;have hO:=hO.q [1,1];have Gp:=(ih j5 (by omega)).exp (St.ba hO) X7 W8 EF;refine Zc 0 (Gp) ?_;rintro a _ w ⟨y10,agV,aee,p10,rfl,xq,X10,rfl,hS⟩ hF;have hO:=hO.k2 hS;refine Zb 1 fun b1 a w hO hF=>?_;have hO:=hO.ka [y10];have X11:∀y∈[y10],p10.has y:=(all_cons X10 all_nil);refine Za 0 (gR [y10] 4 0 trivial) fun Ij a w hO hF=>?_;have hO:=hO.d [0];have X14:=xq.all hA5;have X15:=dt X14 X11;refine Zv 3 fun a hF=>?_;have hO:=hO.d [2];obtain⟨r2,f2,g2,hb2,hQ,hd2⟩:=bw hQ;obtain⟨hr2,hd0⟩:=bS hQ;exact⟨(i5+1,j5,r2,f2,(ac5++[y10]),Ij,p10,_,_,(fl5||e10)),⟨⟨by omega,hb2,by rw[←CF,←hr2,List.map_append,List.append_assoc];rfl,by rw[←fi,IW,hd2,hd0,Bool.or_false,Bool.or_assoc],(jQ.trans xq),X15,by simp only[List.length_append,List.length_cons,List.length_nil];omega,by omega⟩,hO,hF.sub ⟨rfl,rfl,rfl,rfl,rfl,trivial⟩⟩,by dsimp only;omega⟩
 ·refine Zr 2 ?_;rw[List.drop_eq_nil_of_le (by omega)] at hQ;simp only[List.map_nil,bW] at hQ;obtain⟨hr0,hd0⟩:=bS hQ;rw[←hr0,List.append_nil] at CF;rw[hd0,Bool.or_false] at fi;exact⟨ha5,ac5,_,_,_,CF,jQ,hA5,rfl,St.pK fi hO⟩
theorem L_ (k:Nat)(ih:∀j,j≤k→U4 j){fb:Nat}{la lb:Int}{bd:Bool}{p:aG}{x:NN}{ar:Nd}{dr:Bool}{w0:World}(hA:bx w0 [FE 56 fb la lb bd,a_ p])(hx:p.has x)(hw:oT x.er)(hQ:iA (k+1) x.er=some (ar,dr)):bI Tryz.prog 108 #[ptr (aj fb),.agg (aM.cells x).toArray] w0 (fun v w'=>∃(y:NN) (la2 lb2:Int) (q:aG),y.er=ar∧p.le q∧q.has y∧v=.agg (aM.cells y).toArray∧St w0 (ak [FE 56 fb la lb bd,a_ p]) w' [FE 56 fb la2 lb2 (bd||dr),a_ q]):=by
 have hO:=St.init hA;have hw1:=hw.1;simp only[iA,NN.al,NN.cU,NN.aH,NN.bo] at hQ;obtain⟨ys0,ys1,hs⟩:∃ys0 ys1,x.ag=[ys0,ys1]:=by
  rcases hs:x.ag with _| ⟨ys0,_| ⟨ys1,_| ⟨yz,_⟩⟩⟩
  ·rw[hs] at hQ;exact (c6 hQ).elim
  ·rw[hs] at hQ;exact (c6 hQ).elim
  ·exact⟨ys0,ys1,rfl⟩
  ·rw[hs] at hQ;exact (c6 hQ).elim
 simp only[hs,List.map_cons,List.map_nil,NN.bo] at hQ;have hi0:x.ag[0]?=some ys0:=by rw[hs];rfl
 have hi1:x.ag[1]?=some ys1:=by rw[hs];rfl
 refine cw Tryz.func108 Tryz.ntmps108 fun a hF=>?_;refine Zb 1 fun v1 a w hO hF=>?_;refine Zb 1 fun v2 a w hO hF=>?_;refine Zo 0 [0,1,3] [0,0,1,0,0,1,2,2,0,0,1,0,0,1,3,3,3,0,3] [0,1,2,3,4,5,6,7,8,9,10,11,12,13,14,15,16,17,18] fun w hO=>?_;refine Zg 3 (nP (hO.js 3 rfl hx) hi0) fun a hF=>?_;refine Zh 1 hx hi0 fun a hF=>?_;have X3:=aG.elem hx hi0;have W4:=gN hw hi0;obtain⟨a5,e5,d5,hb5,hQ,hd5⟩:=bw hQ;have hO:=hO.q [2,2];have afe:=(ih k (by omega)).exps (St.ba hO) X3 (fC W4) hb5;refine eY rfl rfl hF rfl rfl rfl (a6 hF rfl rfl Tryz.call145 (afe)) ?_ ?_
 ·rintro _ w ⟨h5,l5,la5,lb5,p5,rfl,le5,A5,rfl,hS⟩;have hO:=hO.k2 hS;have hO:=hO.q [1];have hO:=St.bT hO le5;have hO:=(hO.d [1,1]).q [1,1];exact hO
 rintro a _ w ⟨h5,l5,la5,lb5,p5,rfl,le5,A5,rfl,hS⟩ hF;have hO:=hO.k2 hS;have hO:=hO.q [2,1];obtain⟨p7,le8,X9,hO⟩:=St.freeze hO A5;refine eY rfl rfl hF rfl rfl rfl (a6 hF rfl rfl Tryz.call55 (au l5 h5 _)) ?_ ?_
 ·rintro _ w ⟨x6,hx6,rfl,hS⟩;have hO:=hO.k0 hS;have hO:=St.bT hO (le5.trans le8);have hO:=(hO.d [1]).q [1,1];exact hO
 rintro a _ w ⟨x6,hx6,rfl,hS⟩ hF;have hO:=hO.k0 hS;have X10:p7.has x6:=aG.bL hx6 X9;have X11:=(le5.trans le8).S _ _ hx;refine Zg 3 (nP (hO.js 0 rfl X11) hi1) fun a hF=>?_;refine Zh 1 hx hi1 fun a hF=>?_;have X12:=aG.elem hx hi1;have X13:=aG.elem X11 hi1;have W14:=gN hw hi1;obtain⟨a15,e15,d15,KJ,hQ,uf⟩:=bw hQ;have hO:=hO.q [1];have A2:=(ih k (by omega)).eqs (St.ba hO) X13 (BF (fC W14)) KJ;refine Zc 0 (A2) ?_;rintro a _ w ⟨h15,l15,Rl,Ry,p15,rfl,jD,A15,rfl,hS⟩ hF;have hO:=hO.k2 hS;have hO:=hO.q [2,1];obtain⟨p17,MK,X19,hO⟩:=St.freeze hO A15;refine Zc 0 (au l15 h15 _) ?_;rintro a _ w ⟨x16,mK,rfl,hS⟩ hF;have hO:=hO.k0 hS;have X20:p17.has x16:=aG.bL mK X19;refine Zb 1 fun b1 a w hO hF=>?_;have hO:=hO.ka [x6,x16];have X21:=(jD.trans MK).S _ _ X10;have X22:∀y∈[x6,x16],p17.has y:=(all_cons X21 (all_cons X20 all_nil));refine Zv 1 fun a hF=>?_;refine de rfl rfl hF rfl rfl (cK hO (i:=4) rfl Tryz.sizeOf26 rfl (hF.eval rfl) (hF.eval rfl) (aR (hO.bt 0 rfl)) rfl (hO.bt 0 rfl)) ?_;rintro a _ w ⟨-,hO⟩ hF;have hO:=hO.nm;obtain⟨x23,tm⟩:∃y:NN,y=NN.mk x.kind x.name x.n x.line x.cR ⟨some (aj b1),2,2⟩ [x6,x16]:=⟨_,rfl⟩;have hO:St _ _ _ [_,_,_,_,.ob _ _ (aM.cells (NN.mk x.kind x.name x.n x.line x.cR ⟨some (aj b1),2,2⟩ [x6,x16]))]:=hO;rw[←tm] at hO;obtain⟨p24,Ug,X26,hO⟩:=St.freeze hO X22;have X27:=aG.bL tm X26;refine Zs 2 fun a w hO hF=>?_;refine Zr 0 ?_;obtain⟨ha,hd0⟩:=bS hQ;have hO:=(hO.d [2,2]).q [1];exact⟨x23,_,_,_,(oB (And.intro hx6 (And.intro mK tm))),((((le5.trans le8).trans jD).trans MK).trans Ug),X27,rfl,(St.pK (ku (And.intro hd0 (And.intro hd5 uf))) hO)⟩
theorem TK (k:Nat)(ih:∀j,j≤k→U4 j){fb:Nat}{la lb:Int}{bd:Bool}{p:aG}{x:NN}{ar:Nd}{dr:Bool}{w0:World}(hA:bx w0 [FE 56 fb la lb bd,a_ p])(hx:p.has x)(hw:oT x.er)(hQ:cl (k+1) x.er=some (ar,dr)):bI Tryz.prog 177 #[ptr (aj fb),.agg (aM.cells x).toArray] w0 (fun v w'=>∃(y:NN) (la2 lb2:Int) (q:aG),y.er=ar∧p.le q∧q.has y∧v=.agg (aM.cells y).toArray∧St w0 (ak [FE 56 fb la lb bd,a_ p]) w' [FE 56 fb la2 lb2 (bd||dr),a_ q]):=by
 have hO:=St.init hA;have hw1:=hw.1;simp only[cl,NN.al,NN.cU,NN.aH,NN.bo] at hQ;refine cw Tryz.func177 Tryz.ntmps177 fun a hF=>?_;refine Zb 1 fun v1 a w hO hF=>?_;refine Zb 5 fun v2 a w hO hF=>?_;refine Zi 0 (fun hc1=>?_) fun hc1=>?_
 ·refine Zi 0 (fun hc2=>?_) fun hc2=>?_
  ·rw[if_pos (by omega)] at hQ;obtain⟨a3,e3,d3,hb3,hQ,hd3⟩:=bw hQ;have he3:=iF hb3;refine Zv 2 fun a hF=>?_;have hO:=hO.q [2];refine Zc 0 (j4 _ (St.ai hO)) ?_;rintro a _ w ⟨la4,lb4,hS⟩ hF;have hO:=hO.k1 hS;refine Zs 2 fun a w hO hF=>?_;refine Zr 0 ?_;obtain⟨ha,hd0⟩:=bS hQ;have hO:=hO.d [1,1];exact⟨x,_,_,_,(IY trivial),aG.le.rfl,hx,rfl,(St.pK (ku (And.intro hd0 (And.intro hd3 he3))) hO)⟩
  ·exact absurd hc1 hc2
 ·refine Zi 2 (fun a hF hc3=>?_) fun a hF hc3=>?_
  ·rw[if_pos (by omega)] at hQ;obtain⟨a5,e5,d5,hb5,hQ,hd5⟩:=bw hQ;have he5:=iF hb5;refine Zv 2 fun a hF=>?_;have hO:=hO.q [2];refine Zc 0 (j4 _ (St.ai hO)) ?_;rintro a _ w ⟨la6,lb6,hS⟩ hF;have hO:=hO.k1 hS;refine Zs 2 fun a w hO hF=>?_;refine Zr 0 ?_;obtain⟨ha,hd0⟩:=bS hQ;have hO:=hO.d [1,1];exact⟨x,_,_,_,(IY trivial),aG.le.rfl,hx,rfl,(St.pK (ku (And.intro hd0 (And.intro hd5 he5))) hO)⟩
  ·rw[if_neg (by omega)] at hQ;refine Zi 2 (fun a hF hc4=>?_) fun a hF hc4=>?_
   ·rw[if_pos hc4] at hQ;refine Zg 2 (ew (hO.js 3 rfl hx)) fun a hF=>?_;refine Zv 1 fun a hF=>?_;rcases Nat.eq_zero_or_pos x.ag.length with h0|h0
    ·have hl0:x.ag=[]:=List.eq_nil_of_length_eq_zero h0;refine Zv 10 fun a hF=>?_;refine ao hF rfl rfl rfl (dH (v:=.bool true) rfl ((hF.eval rfl).trans (congrArg Value.bool (decide_eq_true (by omega)))) rfl) fun a hF=>?_;obtain⟨a7,e7,d7,hb7,hQ,hd7⟩:=bw hQ;have he7:=iF hb7;refine Zj 0 (fun hc5=>?_) fun hc5=>?_
     ·have he7:=he7.trans (decide_eq_true (.inl (by rw[hl0];rfl)));refine Zv 2 fun a hF=>?_;have hO:=hO.q [2];refine Zc 0 (j4 _ (St.ai hO)) ?_;rintro a _ w ⟨la8,lb8,hS⟩ hF;have hO:=hO.k1 hS;obtain⟨a9,e9,d9,hb9,hQ,hd9⟩:=bw hQ;refine Zv 3 fun a hF=>?_;have hO:=hO.q [0,2];have abg:=(ih k (by omega)).exps (St.ba hO) hx (fC hw) hb9;refine Zc 0 (abg) ?_;rintro a _ w ⟨h9,l9,la9,lb9,p9,rfl,le9,A9,rfl,hS⟩ hF;have hO:=hO.k2 hS;refine Zv 1 fun a hF=>?_;refine c_ hF rfl rfl (cK hO (i:=4) rfl Tryz.sizeOf26 rfl (hF.eval rfl) (hF.eval rfl) (aR (hO.bt 2 rfl)) rfl (hO.bt 2 rfl)) ?_;rintro a _ w ⟨-,hO⟩ hF;have hO:=hO.nm;obtain⟨x10,jM⟩:∃y:NN,y=NN.mk x.kind x.name x.n x.line x.cR h9 l9:=⟨_,rfl⟩;have hO:St _ _ _ [_,_,_,_,.ob _ _ (aM.cells (NN.mk x.kind x.name x.n x.line x.cR h9 l9))]:=hO;rw[←jM] at hO;have hO:=hO.q [2,1];obtain⟨p11,GN,X13,hO⟩:=St.freeze hO A9;have X14:=aG.bL jM X13;refine Zs 2 fun a w hO hF=>?_;refine Zr 0 ?_;obtain⟨ha,hd0⟩:=bS hQ;have hO:=(hO.d [2,2]).q [1];exact⟨x10,_,_,_,(oB jM),(le9.trans GN),X14,rfl,(St.pK (ku (And.intro hd0 (And.intro hd7 (And.intro he7 hd9)))) hO)⟩
     ·exact absurd rfl hc5
    ·obtain⟨yl,hyl⟩:=cI (l:=x.ag) (i:=x.ag.length - 1) (by omega);refine Zv 10 fun a hF=>?_;refine Zg 0 (ew (hO.js 3 rfl hx)) fun a hF=>?_;refine Zv 1 fun a hF=>?_;refine ao hF rfl rfl rfl (Da rfl (hF.eval rfl) (hF.eval rfl) (by have:=En (fC hw);omega)) fun a hF=>?_;refine Zv 1 fun a hF=>?_;refine ao hF rfl rfl rfl (kj (i:=(x.ag.length - 1)) (hO.js 3 rfl hx) Tryz.underlying26 Tryz.sizeOf28 rfl (hF.eval rfl) ((hF.eval rfl).trans (congrArg i64 ((by omega:((x.ag.length:Int) - 1)=((x.ag.length - 1:Nat):Int))))) (by omega)) fun a hF=>?_;refine Zv 1 fun a hF=>?_;refine Zh 0 hx hyl fun a hF=>?_;have X15:=aG.elem hx hyl;have W16:=gN hw hyl;refine Zv 1 fun a hF=>?_;refine Zc 0 (vU _ _) ?_;rintro a _ w ⟨rfl,hS⟩ hF;have hO:=hO.k0 hS;refine ao hF rfl rfl rfl (dU rfl ((hF.eval rfl).trans (congrArg Value.bool (decide_eq_false (by omega)))) (hF.eval rfl)) fun a hF=>?_;obtain⟨a17,e17,d17,yE,hQ,MG⟩:=bw hQ;have Am:=iF yE;refine Zj 0 (fun hc6=>?_) fun hc6=>?_
     ·have Am:=Am.trans (decide_eq_true (.inr (by rw[D_ hyl];exact hc6)));refine Zv 2 fun a hF=>?_;have hO:=hO.q [2];refine Zc 0 (j4 _ (St.ai hO)) ?_;rintro a _ w ⟨ai5,aiA,hS⟩ hF;have hO:=hO.k1 hS;obtain⟨a19,e19,d19,MT,hQ,abw⟩:=bw hQ;refine Zv 3 fun a hF=>?_;have hO:=hO.q [0,2];have aan:=(ih k (by omega)).exps (St.ba hO) hx (fC hw) MT;refine Zc 0 (aan) ?_;rintro a _ w ⟨h19,l19,agO,aeJ,p19,rfl,Pe,A19,rfl,hS⟩ hF;have hO:=hO.k2 hS;refine Zv 1 fun a hF=>?_;refine c_ hF rfl rfl (cK hO (i:=4) rfl Tryz.sizeOf26 rfl (hF.eval rfl) (hF.eval rfl) (aR (hO.bt 2 rfl)) rfl (hO.bt 2 rfl)) ?_;rintro a _ w ⟨-,hO⟩ hF;have hO:=hO.nm;obtain⟨x20,o6⟩:∃y:NN,y=NN.mk x.kind x.name x.n x.line x.cR h19 l19:=⟨_,rfl⟩;have hO:St _ _ _ [_,_,_,_,.ob _ _ (aM.cells (NN.mk x.kind x.name x.n x.line x.cR h19 l19))]:=hO;rw[←o6] at hO;have hO:=hO.q [2,1];obtain⟨p21,pA,X23,hO⟩:=St.freeze hO A19;have X24:=aG.bL o6 X23;refine Zs 2 fun a w hO hF=>?_;refine Zr 0 ?_;obtain⟨ha,hd0⟩:=bS hQ;have hO:=(hO.d [2,2]).q [1];exact⟨x20,_,_,_,(oB o6),(Pe.trans pA),X24,rfl,(St.pK (ku (And.intro hd0 (And.intro MG (And.intro Am abw)))) hO)⟩
     ·have Am:=Am.trans (decide_eq_false (fun q=>q.elim (fun q=>by rw[List.map_eq_nil_iff] at q;rw[q] at h0;exact absurd h0 (by decide)) (fun q=>hc6 (by rw[D_ hyl] at q;exact q))));obtain⟨a25,e25,d25,acm,hQ,ada⟩:=bw hQ;refine Zv 3 fun a hF=>?_;have hO:=hO.q [2,2];have U6:=(ih k (by omega)).exps (St.ba hO) hx (fC hw) acm;refine Zc 0 (U6) ?_;rintro a _ w ⟨h25,l25,aiV,aji,p25,rfl,Ug,A25,rfl,hS⟩ hF;have hO:=hO.k2 hS;refine Zv 1 fun a hF=>?_;refine c_ hF rfl rfl (cK hO (i:=4) rfl Tryz.sizeOf26 rfl (hF.eval rfl) (hF.eval rfl) (aR (hO.bt 2 rfl)) rfl (hO.bt 2 rfl)) ?_;rintro a _ w ⟨-,hO⟩ hF;have hO:=hO.nm;obtain⟨x26,pB⟩:∃y:NN,y=NN.mk x.kind x.name x.n x.line x.cR h25 l25:=⟨_,rfl⟩;have hO:St _ _ _ [_,_,_,_,.ob _ _ (aM.cells (NN.mk x.kind x.name x.n x.line x.cR h25 l25))]:=hO;rw[←pB] at hO;have hO:=hO.q [2,1];obtain⟨p27,Az,X29,hO⟩:=St.freeze hO A25;have X30:=aG.bL pB X29;refine Zs 2 fun a w hO hF=>?_;refine Zr 0 ?_;obtain⟨ha,hd0⟩:=bS hQ;have hO:=(hO.d [2,2]).q [1];exact⟨x26,_,_,_,(oB pB),(Ug.trans Az),X30,rfl,(St.pK (ku (And.intro hd0 (And.intro MG (And.intro Am ada)))) hO)⟩
   ·rw[if_neg hc4] at hQ;refine Zi 2 (fun a hF hc7=>?_) fun a hF hc7=>?_
    ·rw[if_pos hc7] at hQ;obtain⟨ys0,ys1,hs⟩:∃ys0 ys1,x.ag=[ys0,ys1]:=by
      rcases hs:x.ag with _| ⟨ys0,_| ⟨ys1,_| ⟨yz,_⟩⟩⟩
      ·rw[hs] at hQ;exact (c6 hQ).elim
      ·rw[hs] at hQ;exact (c6 hQ).elim
      ·exact⟨ys0,ys1,rfl⟩
      ·rw[hs] at hQ;exact (c6 hQ).elim
     simp only[hs,List.map_cons,List.map_nil,NN.bo] at hQ;have hi0:x.ag[0]?=some ys0:=by rw[hs];rfl
     have hi1:x.ag[1]?=some ys1:=by rw[hs];rfl
     refine Zo 0 [0,1,3] [0,0,1,0,0,1,2,2,0,0,1,0,1,3,3,0,3] [0,1,2,3,4,5,6,7,8,9,10,11,12,13,14,15,16] fun w hO=>?_;refine Zg 3 (nP (hO.js 3 rfl hx) hi0) fun a hF=>?_;refine Zh 1 hx hi0 fun a hF=>?_;have X31:=aG.elem hx hi0;have W32:=gN hw hi0;obtain⟨a33,e33,d33,abr,hQ,aa7⟩:=bw hQ;have hO:=hO.q [2,2];have XI:=(ma k).pats (St.ba hO) X31 (fC W32) abr;refine eY rfl rfl hF rfl rfl rfl (a6 hF rfl rfl Tryz.call146 (XI)) ?_ ?_
     ·rintro _ w ⟨h33,l33,abo,adP,p33,rfl,uY,A33,rfl,hS⟩;have hO:=hO.k2 hS;have hO:=hO.q [1];have hO:=St.bT hO uY;have hO:=(hO.d [1,1]).q [1,1];exact hO
     rintro a _ w ⟨h33,l33,abo,adP,p33,rfl,uY,A33,rfl,hS⟩ hF;have hO:=hO.k2 hS;have hO:=hO.q [2,1];obtain⟨p35,Cj,X37,hO⟩:=St.freeze hO A33;refine eY rfl rfl hF rfl rfl rfl (a6 hF rfl rfl Tryz.call55 (au l33 h33 _)) ?_ ?_
     ·rintro _ w ⟨x34,tz,rfl,hS⟩;have hO:=hO.k0 hS;have hO:=St.bT hO (uY.trans Cj);have hO:=(hO.d [1]).q [1,1];exact hO
     rintro a _ w ⟨x34,tz,rfl,hS⟩ hF;have hO:=hO.k0 hS;have X38:p35.has x34:=aG.bL tz X37;have X39:=(uY.trans Cj).S _ _ hx;refine Zg 3 (nP (hO.js 0 rfl X39) hi1) fun a hF=>?_;refine Zh 0 hx hi1 fun a hF=>?_;have X40:=aG.elem hx hi1;have X41:=aG.elem X39 hi1;have W42:=gN hw hi1;obtain⟨a43,e43,d43,abS,hQ,adk⟩:=bw hQ;have hO:=hO.q [1];have aae:=(ih k (by omega)).exp (St.ba hO) X41 W42 abS;refine Zc 0 (aae) ?_;rintro a _ w ⟨y43,acg,aeE,p43,rfl,ZN,X43,rfl,hS⟩ hF;have hO:=hO.k2 hS;refine Zb 1 fun b1 a w hO hF=>?_;have hO:=hO.ka [x34,y43];have X44:=ZN.S _ _ X38;have X45:∀y∈[x34,y43],p43.has y:=(all_cons X44 (all_cons X43 all_nil));refine Zv 1 fun a hF=>?_;refine de rfl rfl hF rfl rfl (cK hO (i:=4) rfl Tryz.sizeOf26 rfl (hF.eval rfl) (hF.eval rfl) (aR (hO.bt 0 rfl)) rfl (hO.bt 0 rfl)) ?_;rintro a _ w ⟨-,hO⟩ hF;have hO:=hO.nm;obtain⟨x46,OM⟩:∃y:NN,y=NN.mk x.kind x.name x.n x.line x.cR ⟨some (aj b1),2,2⟩ [x34,y43]:=⟨_,rfl⟩;have hO:St _ _ _ [_,_,_,_,.ob _ _ (aM.cells (NN.mk x.kind x.name x.n x.line x.cR ⟨some (aj b1),2,2⟩ [x34,y43]))]:=hO;rw[←OM] at hO;have hO:=hO.q [0,1];obtain⟨p47,adq,X49,hO⟩:=St.freeze hO X45;have X50:=aG.bL OM X49;refine Zs 2 fun a w hO hF=>?_;refine Zr 0 ?_;obtain⟨ha,hd0⟩:=bS hQ;have hO:=(hO.d [2,2]).q [1];exact⟨x46,_,_,_,(oB (And.intro tz OM)),(((uY.trans Cj).trans ZN).trans adq),X50,rfl,(St.pK (ku (And.intro hd0 (And.intro aa7 adk))) hO)⟩
    ·rw[if_neg hc7] at hQ;refine Zi 2 (fun a hF hc8=>?_) fun a hF hc8=>?_
     ·rw[if_pos hc8] at hQ;obtain⟨ys0,ys1,hs⟩:∃ys0 ys1,x.ag=[ys0,ys1]:=by
       rcases hs:x.ag with _| ⟨ys0,_| ⟨ys1,_| ⟨yz,_⟩⟩⟩
       ·rw[hs] at hQ;exact (c6 hQ).elim
       ·rw[hs] at hQ;exact (c6 hQ).elim
       ·exact⟨ys0,ys1,rfl⟩
       ·rw[hs] at hQ;exact (c6 hQ).elim
      simp only[hs,List.map_cons,List.map_nil,NN.bo] at hQ;have hi0:x.ag[0]?=some ys0:=by rw[hs];rfl
      have hi1:x.ag[1]?=some ys1:=by rw[hs];rfl
      refine Zo 0 [0,1,3] [0,0,1,0,0,1,2,2,0,0,1,0,1,3,3,0,3] [0,1,2,3,4,5,6,7,8,9,10,11,12,13,14,15,16] fun w hO=>?_;refine Zg 3 (nP (hO.js 3 rfl hx) hi0) fun a hF=>?_;refine Zh 1 hx hi0 fun a hF=>?_;have X51:=aG.elem hx hi0;have W52:=gN hw hi0;obtain⟨a53,e53,d53,FJ,hQ,Su⟩:=bw hQ;have hO:=hO.q [2,2];have Hr:=(ih k (by omega)).eqs (St.ba hO) X51 (BF (fC W52)) FJ;refine eY rfl rfl hF rfl rfl rfl (a6 hF rfl rfl Tryz.call56 (Hr)) ?_ ?_
      ·rintro _ w ⟨h53,l53,Te,QH,p53,rfl,vQ,A53,rfl,hS⟩;have hO:=hO.k2 hS;have hO:=hO.q [1];have hO:=St.bT hO vQ;have hO:=(hO.d [1,1]).q [1,1];exact hO
      rintro a _ w ⟨h53,l53,Te,QH,p53,rfl,vQ,A53,rfl,hS⟩ hF;have hO:=hO.k2 hS;have hO:=hO.q [2,1];obtain⟨p55,QS,X57,hO⟩:=St.freeze hO A53;refine eY rfl rfl hF rfl rfl rfl (a6 hF rfl rfl Tryz.call55 (au l53 h53 _)) ?_ ?_
      ·rintro _ w ⟨x54,EA,rfl,hS⟩;have hO:=hO.k0 hS;have hO:=St.bT hO (vQ.trans QS);have hO:=(hO.d [1]).q [1,1];exact hO
      rintro a _ w ⟨x54,EA,rfl,hS⟩ hF;have hO:=hO.k0 hS;have X58:p55.has x54:=aG.bL EA X57;have X59:=(vQ.trans QS).S _ _ hx;refine Zg 3 (nP (hO.js 0 rfl X59) hi1) fun a hF=>?_;refine Zh 0 hx hi1 fun a hF=>?_;have X60:=aG.elem hx hi1;have X61:=aG.elem X59 hi1;have W62:=gN hw hi1;obtain⟨a63,e63,d63,Qu,hQ,Qx⟩:=bw hQ;have hO:=hO.q [1];have IQ:=(ih k (by omega)).exp (St.ba hO) X61 W62 Qu;refine Zc 0 (IQ) ?_;rintro a _ w ⟨y63,UU,VF,p63,rfl,EV,X63,rfl,hS⟩ hF;have hO:=hO.k2 hS;refine Zb 1 fun b2 a w hO hF=>?_;have hO:=hO.ka [x54,y63];have X64:=EV.S _ _ X58;have X65:∀y∈[x54,y63],p63.has y:=(all_cons X64 (all_cons X63 all_nil));refine Zv 1 fun a hF=>?_;refine de rfl rfl hF rfl rfl (cK hO (i:=4) rfl Tryz.sizeOf26 rfl (hF.eval rfl) (hF.eval rfl) (aR (hO.bt 0 rfl)) rfl (hO.bt 0 rfl)) ?_;rintro a _ w ⟨-,hO⟩ hF;have hO:=hO.nm;obtain⟨x66,yX⟩:∃y:NN,y=NN.mk x.kind x.name x.n x.line x.cR ⟨some (aj b2),2,2⟩ [x54,y63]:=⟨_,rfl⟩;have hO:St _ _ _ [_,_,_,_,.ob _ _ (aM.cells (NN.mk x.kind x.name x.n x.line x.cR ⟨some (aj b2),2,2⟩ [x54,y63]))]:=hO;rw[←yX] at hO;have hO:=hO.q [0,1];obtain⟨p67,aff,X69,hO⟩:=St.freeze hO X65;have X70:=aG.bL yX X69;refine Zs 2 fun a w hO hF=>?_;refine Zr 0 ?_;obtain⟨ha,hd0⟩:=bS hQ;have hO:=(hO.d [2,2]).q [1];exact⟨x66,_,_,_,(oB (And.intro EA yX)),(((vQ.trans QS).trans EV).trans aff),X70,rfl,(St.pK (ku (And.intro hd0 (And.intro Su Qx))) hO)⟩
     ·rw[if_neg hc8] at hQ;refine Zi 2 (fun a hF hc9=>?_) fun a hF hc9=>?_
      ·rw[if_pos hc9] at hQ;obtain⟨ys0,hs⟩:∃ys0,x.ag=[ys0]:=by
        rcases hs:x.ag with _| ⟨ys0,_| ⟨yz,_⟩⟩
        ·rw[hs] at hQ;exact (c6 hQ).elim
        ·exact⟨ys0,rfl⟩
        ·rw[hs] at hQ;exact (c6 hQ).elim
       simp only[hs,List.map_cons,List.map_nil,NN.bo] at hQ;have hi0:x.ag[0]?=some ys0:=by rw[hs];rfl
       refine Zg 3 (nP (hO.js 3 rfl hx) hi0) fun a hF=>?_;refine Zh 1 hx hi0 fun a hF=>?_;have X71:=aG.elem hx hi0;have W72:=gN hw hi0;obtain⟨a73,e73,d73,agK,hQ,aeZ⟩:=bw hQ;have hO:=hO.q [2,2];have Xb:=(ih k (by omega)).eqs (St.ba hO) X71 (BF (fC W72)) agK;refine Zc 0 (Xb) ?_;rintro a _ w ⟨h73,l73,aiy,ah1,p73,rfl,Tc,A73,rfl,hS⟩ hF;have hO:=hO.k2 hS;have hO:=hO.q [2,1];obtain⟨p75,PI,X77,hO⟩:=St.freeze hO A73;refine Zc 0 (au l73 h73 _) ?_;rintro a _ w ⟨x74,JC,rfl,hS⟩ hF;have hO:=hO.k0 hS;have X78:p75.has x74:=aG.bL JC X77;refine Zb 1 fun b3 a w hO hF=>?_;have hO:=hO.ka [x74];have X79:∀y∈[x74],p75.has y:=(all_cons X78 all_nil);refine Zv 1 fun a hF=>?_;refine c_ hF rfl rfl (cK hO (i:=4) rfl Tryz.sizeOf26 rfl (hF.eval rfl) (hF.eval rfl) (aR (hO.bt 0 rfl)) rfl (hO.bt 0 rfl)) ?_;rintro a _ w ⟨-,hO⟩ hF;have hO:=hO.nm;obtain⟨x80,R6⟩:∃y:NN,y=NN.mk x.kind x.name x.n x.line x.cR ⟨some (aj b3),1,1⟩ [x74]:=⟨_,rfl⟩;have hO:St _ _ _ [_,_,_,_,.ob _ _ (aM.cells (NN.mk x.kind x.name x.n x.line x.cR ⟨some (aj b3),1,1⟩ [x74]))]:=hO;rw[←R6] at hO;obtain⟨p81,UF,X83,hO⟩:=St.freeze hO X79;have X84:=aG.bL R6 X83;refine Zs 2 fun a w hO hF=>?_;refine Zr 0 ?_;obtain⟨ha,hd0⟩:=bS hQ;have hO:=(hO.d [2,2]).q [1];exact⟨x80,_,_,_,(oB (And.intro JC R6)),((Tc.trans PI).trans UF),X84,rfl,(St.pK (ku (And.intro hd0 aeZ)) hO)⟩
      ·rw[if_neg hc9] at hQ;refine Zi 2 (fun a hF ft=>?_) fun a hF ft=>?_
       ·rw[if_pos ft] at hQ;obtain⟨ys0,ys1,hs⟩:∃ys0 ys1,x.ag=[ys0,ys1]:=by
         rcases hs:x.ag with _| ⟨ys0,_| ⟨ys1,_| ⟨yz,_⟩⟩⟩
         ·rw[hs] at hQ;exact (c6 hQ).elim
         ·rw[hs] at hQ;exact (c6 hQ).elim
         ·exact⟨ys0,ys1,rfl⟩
         ·rw[hs] at hQ;exact (c6 hQ).elim
        simp only[hs,List.map_cons,List.map_nil,NN.bo] at hQ;have hi0:x.ag[0]?=some ys0:=by rw[hs];rfl
        have hi1:x.ag[1]?=some ys1:=by rw[hs];rfl
        refine Zo 0 [0,1,3] [0,0,1,0,1,2,0,0,1,0,1,3,3,0,3] [0,1,2,3,4,5,6,7,8,9,10,11,12,13,14] fun w hO=>?_;refine Zg 3 (nP (hO.js 3 rfl hx) hi0) fun a hF=>?_;refine Zh 0 hx hi0 fun a hF=>?_;have X85:=aG.elem hx hi0;have W86:=gN hw hi0;obtain⟨a87,e87,d87,NG,hQ,abV⟩:=bw hQ;have hO:=hO.q [2,2];have ZZ:=(ma k).pat (St.ba hO) X85 W86 NG;refine eY rfl rfl hF rfl rfl rfl (a6 hF rfl rfl Tryz.call111 (ZZ)) ?_ ?_
        ·rintro _ w ⟨y87,adS,acZ,p87,rfl,LL,X87,rfl,hS⟩;have hO:=hO.k2 hS;have hO:=hO.q [1];have hO:=St.bT hO LL;have hO:=(hO.d [1]).q [1,1];exact hO
        rintro a _ w ⟨y87,adS,acZ,p87,rfl,LL,X87,rfl,hS⟩ hF;have hO:=hO.k2 hS;have X88:=LL.S _ _ hx;refine Zg 3 (nP (hO.js 1 rfl X88) hi1) fun a hF=>?_;refine Zh 0 hx hi1 fun a hF=>?_;have X89:=aG.elem hx hi1;have X90:=aG.elem X88 hi1;have W91:=gN hw hi1;obtain⟨a92,e92,d92,ac3,hQ,ag0⟩:=bw hQ;have aaH:=(ih k (by omega)).rgt (St.ba hO) X90 W91 ac3;refine Zc 0 (aaH) ?_;rintro a _ w ⟨y92,aia,aiD,p92,rfl,Fj,X92,rfl,hS⟩ hF;have hO:=hO.k2 hS;refine Zb 1 fun b4 a w hO hF=>?_;have hO:=hO.ka [y87,y92];have X93:=Fj.S _ _ X87;have X94:∀y∈[y87,y92],p92.has y:=(all_cons X93 (all_cons X92 all_nil));refine Zv 1 fun a hF=>?_;refine de rfl rfl hF rfl rfl (cK hO (i:=4) rfl Tryz.sizeOf26 rfl (hF.eval rfl) (hF.eval rfl) (aR (hO.bt 0 rfl)) rfl (hO.bt 0 rfl)) ?_;rintro a _ w ⟨-,hO⟩ hF;have hO:=hO.nm;obtain⟨x95,Ue⟩:∃y:NN,y=NN.mk x.kind x.name x.n x.line x.cR ⟨some (aj b4),2,2⟩ [y87,y92]:=⟨_,rfl⟩;have hO:St _ _ _ [_,_,_,_,.ob _ _ (aM.cells (NN.mk x.kind x.name x.n x.line x.cR ⟨some (aj b4),2,2⟩ [y87,y92]))]:=hO;rw[←Ue] at hO;have hO:=hO.q [0,1];obtain⟨p96,ago,X98,hO⟩:=St.freeze hO X94;have X99:=aG.bL Ue X98;refine Zs 2 fun a w hO hF=>?_;refine Zr 0 ?_;obtain⟨ha,hd0⟩:=bS hQ;have hO:=(hO.d [2,2]).q [1];exact⟨x95,_,_,_,(oB Ue),((LL.trans Fj).trans ago),X99,rfl,(St.pK (ku (And.intro hd0 (And.intro abV ag0))) hO)⟩
       ·rw[if_neg ft] at hQ;refine Zi 2 (fun a hF iR=>?_) fun a hF iR=>?_
        ·rw[if_pos iR] at hQ;obtain⟨ys0,ys1,hs⟩:∃ys0 ys1,x.ag=[ys0,ys1]:=by
          rcases hs:x.ag with _| ⟨ys0,_| ⟨ys1,_| ⟨yz,_⟩⟩⟩
          ·rw[hs] at hQ;exact (c6 hQ).elim
          ·rw[hs] at hQ;exact (c6 hQ).elim
          ·exact⟨ys0,ys1,rfl⟩
          ·rw[hs] at hQ;exact (c6 hQ).elim
         simp only[hs,List.map_cons,List.map_nil,NN.bo] at hQ;have hi0:x.ag[0]?=some ys0:=by rw[hs];rfl
         have hi1:x.ag[1]?=some ys1:=by rw[hs];rfl
         refine Zo 0 [0,1,3] [0,0,1,0,1,2,0,0,1,0,1,3,3,0,3] [0,1,2,3,4,5,6,7,8,9,10,11,12,13,14] fun w hO=>?_;refine Zg 3 (nP (hO.js 3 rfl hx) hi0) fun a hF=>?_;refine Zh 0 hx hi0 fun a hF=>?_;have adw:=aG.elem hx hi0;have ae4:=gN hw hi0;obtain⟨ajk,ahU,d102,Yc,hQ,Z7⟩:=bw hQ;have hO:=hO.q [2,2];have PZ:=(ma k).pat (St.ba hO) adw ae4 Yc;refine eY rfl rfl hF rfl rfl rfl (a6 hF rfl rfl Tryz.call111 (PZ)) ?_ ?_
         ·rintro _ w ⟨KO,XV,YB,ae0,rfl,D8,J8,rfl,hS⟩;have hO:=hO.k2 hS;have hO:=hO.q [1];have hO:=St.bT hO D8;have hO:=(hO.d [1]).q [1,1];exact hO
         rintro a _ w ⟨KO,XV,YB,ae0,rfl,D8,J8,rfl,hS⟩ hF;have hO:=hO.k2 hS;have NH:=D8.S _ _ hx;refine Zg 3 (nP (hO.js 1 rfl NH) hi1) fun a hF=>?_;refine Zh 0 hx hi1 fun a hF=>?_;have Wj:=aG.elem hx hi1;have acV:=aG.elem NH hi1;have abp:=gN hw hi1;obtain⟨a107,aiC,d107,Ym,hQ,UT⟩:=bw hQ;have Up:=(ih k (by omega)).exp (St.ba hO) acV abp Ym;refine Zc 0 (Up) ?_;rintro a _ w ⟨Ns,ag6,ag7,agi,rfl,wT,afD,rfl,hS⟩ hF;have hO:=hO.k2 hS;refine Zb 1 fun b5 a w hO hF=>?_;have hO:=hO.ka [KO,Ns];have R_:=wT.S _ _ J8;have TV:∀y∈[KO,Ns],agi.has y:=(all_cons R_ (all_cons afD all_nil));refine Zv 1 fun a hF=>?_;refine de rfl rfl hF rfl rfl (cK hO (i:=4) rfl Tryz.sizeOf26 rfl (hF.eval rfl) (hF.eval rfl) (aR (hO.bt 0 rfl)) rfl (hO.bt 0 rfl)) ?_;rintro a _ w ⟨-,hO⟩ hF;have hO:=hO.nm;obtain⟨acf,GM⟩:∃y:NN,y=NN.mk x.kind x.name x.n x.line x.cR ⟨some (aj b5),2,2⟩ [KO,Ns]:=⟨_,rfl⟩;have hO:St _ _ _ [_,_,_,_,.ob _ _ (aM.cells (NN.mk x.kind x.name x.n x.line x.cR ⟨some (aj b5),2,2⟩ [KO,Ns]))]:=hO;rw[←GM] at hO;have hO:=hO.q [0,1];obtain⟨ajg,V7,ael,hO⟩:=St.freeze hO TV;have aeA:=aG.bL GM ael;refine Zs 2 fun a w hO hF=>?_;refine Zr 0 ?_;obtain⟨ha,hd0⟩:=bS hQ;have hO:=(hO.d [2,2]).q [1];exact⟨acf,_,_,_,(oB GM),((D8.trans wT).trans V7),aeA,rfl,(St.pK (ku (And.intro hd0 (And.intro Z7 UT))) hO)⟩
        ·rw[if_neg iR] at hQ;obtain⟨ai9,aif,d115,WA,hQ,VU⟩:=bw hQ;refine Zv 3 fun a hF=>?_;have hO:=hO.q [2,2];have Pt:=(ih k (by omega)).exps (St.ba hO) hx (fC hw) WA;refine Zc 0 (Pt) ?_;rintro a _ w ⟨VA,Z1,ag9,ahu,air,rfl,YH,ags,rfl,hS⟩ hF;have hO:=hO.k2 hS;refine Zv 1 fun a hF=>?_;refine c_ hF rfl rfl (cK hO (i:=4) rfl Tryz.sizeOf26 rfl (hF.eval rfl) (hF.eval rfl) (aR (hO.bt 2 rfl)) rfl (hO.bt 2 rfl)) ?_;rintro a _ w ⟨-,hO⟩ hF;have hO:=hO.nm;obtain⟨abX,Kz⟩:∃y:NN,y=NN.mk x.kind x.name x.n x.line x.cR VA Z1:=⟨_,rfl⟩;have hO:St _ _ _ [_,_,_,_,.ob _ _ (aM.cells (NN.mk x.kind x.name x.n x.line x.cR VA Z1))]:=hO;rw[←Kz] at hO;have hO:=hO.q [2,1];obtain⟨aiq,ZI,aeF,hO⟩:=St.freeze hO ags;have ad1:=aG.bL Kz aeF;refine Zs 2 fun a w hO hF=>?_;refine Zr 0 ?_;obtain⟨ha,hd0⟩:=bS hQ;have hO:=(hO.d [2,2]).q [1];exact⟨abX,_,_,_,(oB Kz),(YH.trans ZI),ad1,rfl,(St.pK (ku (And.intro hd0 VU)) hO)⟩
end Go.Proofs.YtdfccaonglmgpaaGreatDoor
