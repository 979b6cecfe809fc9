/- Q13 -/
import Derived.Test.YtdfccaonglmgpaaGreatDoorQ01
import Derived.Test.YtdfccaonglmgpaaGreatDoorQ06
import Derived.Test.YtdfccaonglmgpaaGreatDoorQ04
open Go.Proofs.Tryz
set_option linter.all false
namespace Go.Proofs.YtdfccaonglmgpaaGreatDoor
open Go
set_option maxHeartbeats 4000000
set_option maxRecDepth 100000
def Xh {b c:UInt8}:(c.toNat:Int)=(b.toNat:Int)↔c=b:=by
 rw[Int.natCast_inj];exact⟨fun h=>UInt8.toNat_inj.1 h,fun h=>by rw[h]⟩
def getD_some {l:List UInt8}{k:Nat}(h:k<l.length):l[k]?=some (l.getD k 0):=by simp [List.getElem?_eq_getElem h]
def aou {l:List UInt8}{k:Nat}{b:UInt8}(h:k<l.length)(hn:(l.take k).contains b=false)(h2:¬((l.getD k 0).toNat:Int)=b.toNat):(l.take (k+1)).contains b=false:=by
 rw[List.take_add_one,getD_some h];simp only[Option.toList_some,List.contains_append,hn,pj];have:¬b=l.getD k 0:=fun e=>h2 (by rw[e])
 simpa using this
def aku {l:List UInt8}{k:Nat}{b:UInt8}(h:k<l.length)(h2:((l.getD k 0).toNat:Int)=b.toNat):l.contains b=true:=by
 rw[Xh] at h2;subst h2;exact List.contains_iff_mem.2 (bV (getD_some h))
def Yr {l:List (List UInt8)}{k:Nat}{b c:List UInt8}(h:l[k]?=some c)(hn:(l.take k).contains b=false)(h2:¬c=b):(l.take (k+1)).contains b=false:=by
 rw[List.take_add_one,h];simp only[Option.toList_some,List.contains_append,hn,pj]
 simpa using fun e:b=c=>h2 e.symm
def RS {l:List (List UInt8)}{k:Nat}{b c:List UInt8}(h:l[k]?=some c)(h2:c=b):l.contains b=true:=by
 subst h2;exact List.contains_iff_mem.2 (bV h)
def M5 {k:Nat}{b:UInt8}(h:(k:Int)=0):fC k b=decide (((rY b=true∨cF b=true)∨(b.toNat:Int)=95)∨(b.toNat:Int)=39):=by
 have:k=0:=V
 simp [fC,this]
def D2 {k:Nat}{b:UInt8}(h:(k:Int)=1):fC k b=cF b:=by
 have:k=1:=V
 simp [fC,this]
def Ot {k:Nat}{b:UInt8}(h:(k:Int)=2):fC k b=j1 b:=by
 have:k=2:=V
 simp [fC,this]
def Ob {k:Nat}{b:UInt8}(h0:¬(k:Int)=0)(h1:¬(k:Int)=1)(h2:¬(k:Int)=2):fC k b=decide (¬(b.toNat:Int)=10):=by
 have a0:¬k=0:=V
 have a1:¬k=1:=V
 have a2:¬k=2:=V
 simp [fC,a0,a1,a2]
def ig (s:List UInt8)(aj:Nat):List Value:=[str s,i64 aj,i64 (cH s aj).1,i64 (cH s aj).2]
def vv (s:List UInt8):∀k,(cH s k).1≤k+1∧(cH s k).2≤k+1
 |0=>by simp [cH]
 |k+1=>by
  have:=vv s k;unfold cH
  split<;>simp<;>omega
def aew {s:List UInt8}{k:Nat}{i:Nat}(h:((s.getD (i+k) 0).toNat:Int)=10):ig s (i+(k+1))=[str s,i64 ((i+k:Nat)+1),i64 ((cH s (i+k)).1+1),i64 (0+1)]:=by
 have h':gt s (i+k)=10:=UInt8.toNat_inj.1 (by have:(s.getD (i+k) 0).toNat=10:=V;exact this);simp [ig,←Nat.add_assoc,cH,h']
def abl {s:List UInt8}{k:Nat}{i:Nat}(h:¬((s.getD (i+k) 0).toNat:Int)=10):ig s (i+(k+1))=[str s,i64 ((i+k:Nat)+1),i64 (cH s (i+k)).1,i64 ((cH s (i+k)).2+1)]:=by
 have h':¬gt s (i+k)=10:=fun e=>h (by have:(s.getD (i+k) 0)=10:=e;rw[this];rfl);simp [ig,←Nat.add_assoc,cH,h']
def O0 (Z:World)(l:List UInt8)(b:UInt8)(hl:l.length≤9223372036854775000):aH prog 39 #[str l,.int .u8 b.toNat] Z (fun v w'=>v=.bool (l.contains b)∧St Z [] w' []):=by
 have O:=St.bL Z;refine aS func39 ntmps39 fun a U=>?_;refine Zv 2 fun a U=>?_;refine cl (fun (k:Nat) a w'=>(k≤l.length∧(l.take k).contains b=false)∧St Z [] w' []∧Fr a 17 [(0,str l),(1,.int .u8 b.toNat),(5,i64 k)]) (fun (k:Nat)=>l.length - k) 0 ⟨⟨V,aw⟩,O,U.su⟩ ?_;rintro k a w ⟨⟨hk,hn⟩,O,U⟩;refine Zi 4 (fun a U ao=>?_) fun a U ao=>?_
 ·refine Zv 2 fun a U=>?_;refine aZ U (iG underlying9 rfl (U.af rfl) (U.af rfl) V) fun a U=>?_;refine Zi 2 (fun a U ay=>?_) fun a U ay=>?_
  ·refine Zr 1 ?_;refine⟨?_,O⟩;rw[aku V ay]
  ·refine Zv 3 fun a U=>?_;exact⟨k+1,⟨⟨V,aou V hn ay⟩,O,U.su⟩,V⟩
 ·refine Zr 1 ?_;refine⟨?_,O⟩;rw[←hn,List.take_of_length_le V]
def Y_ (Z:World)(b:UInt8):aH prog 32 #[.int .u8 b.toNat] Z (fun v w'=>v=.bool (rY b)∧St Z [] w' []):=by
 have O:=St.bL Z;refine aS func32 ntmps32 fun a U=>?_;refine Zw 13 fun a U=>?_;refine cG U rfl rfl rfl rfl rfl rfl (fun hg=>j3 rfl ((U.af rfl).trans (a6 hg)) rfl (fun dV=>((U.af rfl).trans (tE hg dV))) rfl) fun a U=>?_;refine Zr 2 ?_;exact⟨rfl,O⟩
def Cj (Z:World)(b:UInt8):aH prog 36 #[.int .u8 b.toNat] Z (fun v w'=>v=.bool (cF b)∧St Z [] w' []):=by
 have O:=St.bL Z;refine aS func36 ntmps36 fun a U=>?_;refine Zw 8 fun a U=>?_;refine Zr 0 ?_;exact⟨rfl,O⟩
def RZ (Z:World)(b:UInt8):aH prog 37 #[.int .u8 b.toNat] Z (fun v w'=>v=.bool (j1 b)∧St Z [] w' []):=by
 have O:=St.bL Z;refine aS func37 ntmps37 fun a U=>?_;refine Zv 2 fun a U=>?_;refine eP U (dY U rfl rfl (O0 _ _ _ ai)) ?_;rintro a _ w ⟨rfl,hS⟩ U;have O:=O.k0 hS;refine Zw 3 fun a U=>?_;refine aZ U (j3 rfl (U.af rfl) (eN _) (fun dV=>((U.af rfl).trans (a6 dV))) rfl) fun a U=>?_;refine Zr 1 ?_;exact⟨rfl,O⟩
def an0 (Z:World)(k:Nat)(b:UInt8):aH prog 91 #[i64 k,.int .u8 b.toNat] Z (fun v w'=>v=.bool (fC k b)∧St Z [] w' []):=by
 have O:=St.bL Z;refine aS func91 ntmps91 fun a U=>?_;refine Zi 4 (fun a U ao=>?_) fun a U ao=>?_
 ·refine Yc 1 (Y_ _ _) fun a w O U=>?_;refine Zw 2 fun a U=>?_;refine fS O U rfl rfl rfl rfl rfl rfl (fun hg=>jo U rfl rfl (je trivial) call36 (Cj _ _)) fun a w O U=>?_;refine aZ U (r_ rfl (U.af rfl) (eN _) (fun dV=>((U.af rfl).trans (a6 dV))) (eN _)) fun a U=>?_;refine Zw 9 fun a U=>?_;refine Zr 0 ?_;refine⟨?_,O⟩;rw[M5 ao]
 ·refine Zi 2 (fun a U ay=>?_) fun a U ay=>?_
  ·refine Yc 1 (Cj _ _) fun a w O U=>?_;refine Zr 1 ?_;refine⟨?_,O⟩;rw[D2 ay]
  ·refine Zi 2 (fun a U aF=>?_) fun a U aF=>?_
   ·refine Yc 1 (RZ _ _) fun a w O U=>?_;refine Zr 1 ?_;refine⟨?_,O⟩;rw[Ot aF]
   ·refine Zr 3 ?_;refine⟨?_,O⟩;rw[Ob ao ay aF]
def Kh (Z:World)(s:List UInt8)(vl:Value)(ls:List (List UInt8))(hl:ls.length≤9223372036854775000)(hR:aG Z [] vl oC ls):aH prog 34 #[str s,vl] Z (fun v w'=>v=.bool (ls.contains s)∧St Z [] w' []):=by
 have O:=St.bL Z;refine aS func34 ntmps34 fun a U=>?_;refine Zv 2 fun a U=>?_;refine cl (fun (k:Nat) a w'=>(k≤ls.length∧(ls.take k).contains s=false)∧St Z [] w' []∧Fr a 18 [(0,str s),(1,vl),(5,i64 k)]) (fun (k:Nat)=>ls.length - k) 0 ⟨⟨V,aw⟩,O,U.su⟩ ?_;rintro k a w ⟨⟨hk,hn⟩,O,U⟩;refine Zg 2 (bA hR) fun a U=>?_;refine Zi 1 (fun a U ao=>?_) fun a U ao=>?_
 ·obtain⟨x,hx⟩:=dM (l:=ls) (i:=k) V;refine Zg 2 (bw k hR V) fun a U=>?_;refine Zh 0 hR hx fun a U=>?_;refine Zi 2 (fun a U ay=>?_) fun a U ay=>?_
  ·refine Zr 1 ?_;refine⟨?_,O⟩;rw[RS hx ay]
  ·refine Zv 3 fun a U=>?_;exact⟨k+1,⟨⟨V,Yr hx hn ay⟩,O,U.su⟩,V⟩
 ·refine Zr 1 ?_;refine⟨?_,O⟩;rw[←hn,List.take_of_length_le V]
def Yv (Z:World):aH prog 35 #[] Z (fun v w'=>∃u,v=u∧St Z [] w' [ax u 9 oC u_]):=by
 have O:=St.bL Z;refine aS func35 ntmps35 fun a U=>?_;refine Zb 3 fun b1 a w O U=>?_;refine Zr 0 ?_;exact⟨_,rfl,O⟩
def agh (Z:World):aH prog 38 #[] Z (fun v w'=>∃u,v=u∧St Z [] w' [ax u 9 oC xB]):=by
 have O:=St.bL Z;refine aS func38 ntmps38 fun a U=>?_;refine Zb 3 fun b1 a w O U=>?_;refine Zr 0 ?_;exact⟨_,rfl,O⟩
def H_ (Z:World)(br:Nat)(s:List UInt8)(aj n:Nat)(hA:bT Z [.ob br 70 (ig s aj)])(hn:aj+n≤s.length)(hs:s.length≤16384):aH prog 29 #[ptr (aa br),i64 n] Z (fun v w'=>v=.tuple #[]∧St Z [br] w' [.ob br 70 (ig s (aj+n))]):=by
 have O:=St.init hA;have hb:=vv s aj;refine aS func29 ntmps29 fun a U=>?_;refine Zv 1 fun a U=>?_;refine cl (fun (k:Nat) a w'=>(k≤n)∧St Z [br] w' [.ob br 70 (ig s (aj+k))]∧Fr a 47 [(0,ptr (aa br)),(1,i64 n),(4,i64 k)]) (fun (k:Nat)=>n - k) 0 ⟨V,O,U.su⟩ ?_;rintro k a w ⟨hk,O,U⟩;have hb:=vv s (aj+k);refine Zi 3 (fun a U ao=>?_) fun a U ao=>?_
 ·refine Zd 0 [0,0,0,1,0,0,0,1,0,0] fun w O=>?_;refine Zv 8 fun a U=>?_;refine jY U (fun w=>iG (m:=aj+k) underlying9 rfl (U.af rfl) (U.af rfl) V) fun a U=>?_;refine Zi 1 (fun a U ay=>?_) fun a U ay=>?_
  ·refine Zs 34 fun a w O U=>?_;have O:=O.eq (congrArg (fun x=>[an.ob br 70 x]) (aew ay).symm);exact⟨k+1,⟨V,O,U.su⟩,V⟩
  ·refine Zs 21 fun a w O U=>?_;have O:=O.eq (congrArg (fun x=>[an.ob br 70 x]) (abl ay).symm);exact⟨k+1,⟨V,O,U.su⟩,V⟩
 ·refine Zr 0 ?_;obtain rfl:k=n:=V
  exact⟨rfl,O⟩
def nh (s:List UInt8)(i k:Nat):bo s i k≤s.length - i:=by
 unfold bo;have:=(List.takeWhile_sublist (fC k) (l:=s.drop i)).length_le
 simpa using this
def Ct (p:UInt8→Bool):∀(l:List UInt8) (k:Nat),k≤(l.takeWhile p).length→k<l.length→p (l.getD k 0)=true→k+1≤(l.takeWhile p).length
 | [],k,_,h,_=>by simp at h
 |c::l,0,_,_,h=>by
  have:p c=true:=by simpa using h
  simp [this]
 |c::l,k+1,hk,hl,h=>by
  by_cases hc:p c=true
  ·simp only[List.takeWhile_cons,hc,if_true,bg] at hk ⊢;have:=Ct p l k V (by simpa using hl) (by simpa using h);omega
  ·simp [hc] at hk
def Kp (p:UInt8→Bool):∀(l:List UInt8) (k:Nat),k≤(l.takeWhile p).length→(l.length≤k∨p (l.getD k 0)=false)→(l.takeWhile p).length=k
 | [],k,hk,_=>by simp at hk ⊢;omega
 |c::l,0,_,h=>by
  rcases h with h|h
  ·simp at h
  ·have:p c=false:=by simpa using h
   simp [this]
 |c::l,k+1,hk,h=>by
  by_cases hc:p c=true
  ·simp only[List.takeWhile_cons,hc,if_true,bg] at hk ⊢;have:=Kp p l k V (by
     rcases h with h|h
     · simp at h;exact .inl h
     · exact .inr (by simpa using h))
   omega
  ·simp [hc] at hk
def pF (s:List UInt8)(i k:Nat):(s.drop i).getD k 0=s.getD (i+k) 0:=by simp [List.getD_eq_getElem?_getD]
def K_ {s:List UInt8}{i kd k:Nat}(hk:k≤bo s i kd)(hl:i+k<s.length)(h:fC kd (s.getD (i+k) 0)=true):k+1≤bo s i kd:=
 Ct _ _ _ hk (by simp;omega) (by rw[pF];exact h)
def adC {s:List UInt8}{i kd k:Nat}(_ha:i≤s.length)(hk:k≤bo s i kd)(h:¬((i:Int)+k<s.length∧fC kd (s.getD (i+k) 0)=true)):bo s i kd=k:=
 Kp _ _ _ hk (by
   by_cases hl:i+k<s.length
   · right
     rw[pF]
     cases hg:fC kd (s.getD (i+k) 0) with
     |false=>rfl
     |true=>exact absurd ⟨V,hg⟩ h
   · left;simp;omega)
def Bs {s:List UInt8}{i:Nat}(h:i+1<s.length)(a b:UInt8):((s.take (i+2)).drop i=[a,b])↔(gt s i=a∧gt s (i+1)=b):=by
 have e:(s.take (i+2)).drop i=[gt s i,gt s (i+1)]:=by
  apply List.ext_getElem?;intro j;rw[List.getElem?_drop,List.getElem?_take]
  match j with
  |0=>simp [gt,List.getElem?_eq_getElem (show i<s.length by omega)]
  |1=>simp [gt,List.getElem?_eq_getElem h]
  |j+2=>simp;omega
 rw[e];simp
section
variable {s:List UInt8} {aj g i:Nat} {d:Int}
def Ur (h:¬((i:Int)+1<s.length)){f:Nat}:gm s aj f d i=none:=by
 cases f with
 |zero=>rfl
 |succ f=>unfold gm;rw[if_neg V]
def QB (h:i+1<s.length)(h2:(s.take (i+2)).drop i=[123,45]):gm s aj (g+1) d i=gm s aj g (d+1) (i+2):=by
 rw[Bs h] at h2;rw[gm,if_pos h,if_pos h2]
def UI (h:i+1<s.length)(h2:¬(s.take (i+2)).drop i=[123,45])(h3:¬(s.take (i+2)).drop i=[45,125]):gm s aj (g+1) d i=gm s aj g d (i+1):=by
 rw[Bs h] at h2 h3;rw[gm,if_pos h,if_neg h2,if_neg h3]
def V_ (h:i+1<s.length)(h2:¬(s.take (i+2)).drop i=[123,45])(h3:(s.take (i+2)).drop i=[45,125])(h4:¬d - 1=0):gm s aj (g+1) d i=gm s aj g (d - 1) (i+2):=by
 rw[Bs h] at h2 h3;rw[gm,if_pos h,if_neg h2,if_pos h3,if_neg h4]
def Yh (h:i+1<s.length)(h2:¬(s.take (i+2)).drop i=[123,45])(h3:(s.take (i+2)).drop i=[45,125])(h4:d - 1=0):gm s aj (g+1) d i=some (i+2 - aj):=by
 rw[Bs h] at h2 h3;rw[gm,if_pos h,if_neg h2,if_pos h3,if_pos h4]
end
def Ib (Z:World)(br:Nat)(s:List UInt8)(aj:Nat)(hA:bT Z [.ob br 70 (ig s aj)])(e:Int):aH prog 31 #[ptr (aa br),i64 e] Z (fun v w'=>v=.tuple #[.slice none 0 0,.agg (dZ ⟨[],(cH s aj).1,(cH s aj).2,e⟩).toArray]∧St Z [br] w' [.ob br 70 (ig s aj)]):=by
 have O:=St.init hA;refine aS func31 ntmps31 fun a U=>?_;refine Zb 2 fun b1 a w O U=>?_;refine Zd 0 [0,0,0,1,0,0,0,1,0,0,0,3] fun w O=>?_;refine Zs 12 fun a w O U=>?_;refine qp U rfl rfl rfl isAgg31 sizeOf31 (O.cells 0 rfl) rfl ?_;exact⟨rfl,O.tail⟩
def GC (Z:World)(br:Nat)(s:List UInt8)(aj kind:Nat)(hA:bT Z [.ob br 70 (ig s aj)])(hs:s.length≤16384)(ha:aj≤s.length):aH prog 33 #[ptr (aa br),i64 kind] Z (fun v w'=>v=i64 (bo s aj kind)∧St Z [br] w' [.ob br 70 (ig s aj)]):=by
 have O:=St.init hA;refine aS func33 ntmps33 fun a U=>?_;refine Zv 2 fun a U=>?_;refine cl (fun (k:Nat) a w'=>(k≤bo s aj kind)∧St Z [br] w' [.ob br 70 (ig s aj)]∧Fr a 36 [(0,ptr (aa br)),(1,i64 kind),(5,i64 k)]) (fun (k:Nat)=>bo s aj kind - k) 0 ⟨V,O,U.su⟩ ?_;rintro k a w ⟨hk,O,U⟩;have hrl:=nh s aj kind;refine Zd 0 [0,0,0,1,0,0,0,0,0,1,0,0,0,0,0,0,0,1,0,0,0,1,0,0,0,3,0] fun w O=>?_;refine Zw 24 fun a U=>?_;refine zq U rfl rfl rfl rfl rfl rfl (fun hg w=>iG (m:=aj+k) underlying9 rfl ((U.af rfl).trans (a6 hg)) ((U.af rfl).trans (a6 hg)) (by have:=gA hg;omega)) fun a U=>?_;refine WT O U rfl rfl rfl rfl rfl rfl (fun hg=>jo U rfl rfl (je trivial) call91 (an0 _ _ _)) fun a w O U=>?_;refine jY U (fun w=>j3 rfl (U.af rfl) rfl (fun dV=>((U.af rfl).trans (a6 dV))) (eN _)) fun a U=>?_;refine Zi 0 (fun ao=>?_) fun ao=>?_
 ·refine Zv 3 fun a U=>?_;exact⟨k+1,⟨K_ hk (by have:=ao.1;omega) ao.2,O,U.su⟩,by have:=K_ hk (by have:=ao.1;omega) ao.2;omega⟩
 ·refine Zr 2 ?_;rw[adC V hk ao];exact⟨rfl,O⟩
def amM (Z:World)(br:Nat)(s:List UInt8)(aj:Nat)(hA:bT Z [.ob br 70 (ig s aj)])(hs:s.length≤16384)(ha:aj<s.length):aH prog 30 #[ptr (aa br)] Z (fun v w'=>v=i64 (match nq s aj with|none=> -1|some k=>(k:Int))∧St Z [br] w' [.ob br 70 (ig s aj)]):=by
 have O:=St.init hA;refine aS func30 ntmps30 fun a U=>?_;refine Zv 7 fun a U=>?_;refine cl (fun (x:Nat×Int×Nat) a w'=>match x with| (f,d,i)=>(gm s aj f d i=nq s aj∧s.length<i+f∧aj≤i∧i≤s.length∧ -16384≤d∧d≤i∧ -(i:Int)≤d)∧St Z [br] w' [.ob br 70 (ig s aj)]∧Fr a 48 [(0,ptr (aa br)),(3,i64 d),(4,i64 i)]) (fun (x:Nat×Int×Nat)=>match x with| (f,d,i)=>f) (s.length+1,0,aj) ⟨⟨rfl,V,V,V,V,V,V⟩,O,U.su⟩ ?_;rintro⟨f,d,i⟩ a w ⟨⟨hr,hf,hai,hil,Hy,uF,AE⟩,O,U⟩;skip;refine Zi 8 (fun a U ao=>?_) fun a U ao=>?_
 ·refine Zv 7 fun a U=>?_;refine aZ U (yv (i:=i) (j:=i+2) underlying9 rfl (U.af rfl) (U.af rfl) (U.af rfl) V V) fun a U=>?_;refine Zi 3 (fun a U ay=>?_) fun a U ay=>?_
  ·obtain⟨g,rfl⟩:∃g,f=g+1:=⟨f - 1,V⟩;refine Zv 6 fun a U=>?_;exact⟨(g,d+1,i+2),⟨⟨(QB V ay).symm.trans hr,V,V,V,V,V,V⟩,O,U.su⟩,by dsimp only;omega⟩
  ·refine Zi 2 (fun a U aF=>?_) fun a U aF=>?_
   ·refine Zi 8 (fun a U aT=>?_) fun a U aT=>?_
    ·refine Zv 7 fun a U=>?_;refine dI ?_;refine dv ?_;refine dI ?_;refine dv ?_;refine yX U rfl rfl ?_;obtain⟨g,rfl⟩:∃g,f=g+1:=⟨f - 1,V⟩;refine⟨?_,O⟩;rw[←hr,Yh V ay aF aT];exact congrArg i64 (show (i:Int)+2 - aj=((i+2 - aj:Nat):Int) by omega)
    ·obtain⟨g,rfl⟩:∃g,f=g+1:=⟨f - 1,V⟩;refine Zv 0 ?_;exact⟨(g,d - 1,i+2),⟨⟨(V_ V ay aF aT).symm.trans hr,V,V,V,V,V,V⟩,O,U.su⟩,by dsimp only;omega⟩
   ·obtain⟨g,rfl⟩:∃g,f=g+1:=⟨f - 1,V⟩;refine Zv 3 fun a U=>?_;exact⟨(g,d,i+1),⟨⟨(UI V ay aF).symm.trans hr,V,V,V,V,V,V⟩,O,U.su⟩,by dsimp only;omega⟩
 ·refine Zv 1 fun a U=>?_;refine yX U rfl rfl ?_;refine⟨?_,O⟩;rw[←hr,Ur V]
  rfl
def AR {b:UInt8}(h:cF b=true):(48:Int)≤b.toNat∧(b.toNat:Int)≤57:=j4 h
def oY {s:List UInt8}{i:Nat}{n:Int}(c:UInt8)(hc:(c.toNat:Int)=n)(h:((s.getD i 0).toNat:Int)=n):gt s i=c:=by
 apply UInt8.toNat_inj.1;show (s.getD i 0).toNat=_;omega
def q6 {s:List UInt8}{i:Nat}{n:Int}(c:UInt8)(hc:(c.toNat:Int)=n)(h:¬((s.getD i 0).toNat:Int)=n):¬gt s i=c:=fun e=>h (by
  have:(s.getD i 0)=c:=e
  rw[this];exact hc)
def WE {n:Nat}(h:n≤255):IntKind.u8.wrap (n:Int)=((UInt8.ofNat n).toNat:Int):=by
 rw[IntWalk.u8_in _ V,UInt8.toNat_ofNat',Nat.mod_eq_of_lt V]
section
variable {s out:List UInt8} {g i:Nat}
def ZX (h:¬(i:Int)<s.length){f:Nat}:fu s f out i=none:=by
 cases f with
 |zero=>rfl
 |succ f=>rw[fu,if_neg V]
def XZ (h:i<s.length)(h2:((s.getD i 0).toNat:Int)=34):fu s (g+1) out i=some (out,i+1):=by
 rw[fu,if_pos h,if_pos (oY 34 rfl h2)]
def WY (h:i<s.length)(h2:¬((s.getD i 0).toNat:Int)=34)(h3:¬((s.getD i 0).toNat:Int)=92)(h4:¬(((s.getD i 0).toNat:Int)<32∨126< ((s.getD i 0).toNat:Int))):
  fu s (g+1) out i=fu s g (out++[gt s i]) (i+1):=by
 rw[fu,if_pos h,if_neg (q6 34 rfl h2),if_pos (q6 92 rfl h3),if_neg];rintro (h5|h5)
 ·exact h4 (.inl (by have:=UInt8.lt_iff_toNat_lt.1 h5;have e:(32:UInt8).toNat=32:=rfl;unfold gt at this;omega))
 ·exact h4 (.inr (by have:=UInt8.lt_iff_toNat_lt.1 h5;have e:(126:UInt8).toNat=126:=rfl;unfold gt at this;omega))
def P4 (h:i<s.length)(h2:¬((s.getD i 0).toNat:Int)=34)(h3:¬((s.getD i 0).toNat:Int)=92)(h4:(((s.getD i 0).toNat:Int)<32∨126< ((s.getD i 0).toNat:Int))):
  fu s (g+1) out i=none:=by
 rw[fu,if_pos h,if_neg (q6 34 rfl h2),if_pos (q6 92 rfl h3),if_pos];rcases h4 with h5|h5
 ·exact .inl (UInt8.lt_iff_toNat_lt.2 (by have e:(32:UInt8).toNat=32:=rfl;unfold gt;omega))
 ·exact .inr (UInt8.lt_iff_toNat_lt.2 (by have e:(126:UInt8).toNat=126:=rfl;unfold gt;omega))
def Ti {h n j:Nat}{r:Nat×Nat}(hD:iz s h n j=r)(hc:¬((j:Int)<s.length∧cF (s.getD j 0)=true)):r=(n,j):=by
 rw[←hD]
 cases h with
 |zero=>rfl
 |succ h=>rw[iz,if_neg];exact fun⟨h1,h2⟩=>hc ⟨V,h2⟩
def al0 {h n j:Nat}(hc:(j:Int)<s.length∧cF (s.getD j 0)=true):iz s (h+1) n j=iz s h (min (10 * n+((gt s j).toNat - 48)) 1000) (j+1):=by
 rw[iz,if_pos ⟨by have:=hc.1;omega,hc.2⟩]
def aeW {b:UInt8}{n:Nat}(h:(48:Int)≤b.toNat∧(b.toNat:Int)≤57):min (10 * (n:Int)+((b.toNat:Int) - 48)) 1000=((min (10 * n+(b.toNat - 48)) 1000:Nat):Int):=V
def O_ {n j:Nat}(h:i<s.length)(h2:¬((s.getD i 0).toNat:Int)=34)(h3:¬¬((s.getD i 0).toNat:Int)=92)(h5:(i:Int)+1<s.length∧cF (s.getD (i+1) 0)=true)
  (hD:iz s s.length 0 (i+1)=(n,j)) (hn:n≤255):fu s (g+1) out i=fu s g (out++[UInt8.ofNat n]) j:=by
 rw[fu,if_pos h,if_neg (q6 34 rfl h2),if_neg (fun e=>h3 fun e2=>e (oY 92 rfl e2)),if_pos ⟨by have:=h5.1;omega,h5.2⟩];simp only[hD];rw[if_neg V]
def Xj {n j:Nat}(h:i<s.length)(h2:¬((s.getD i 0).toNat:Int)=34)(h3:¬¬((s.getD i 0).toNat:Int)=92)(h5:(i:Int)+1<s.length∧cF (s.getD (i+1) 0)=true)
  (hD:iz s s.length 0 (i+1)=(n,j)) (hn:255< (n:Int)):fu s (g+1) out i=none:=by
 rw[fu,if_pos h,if_neg (q6 34 rfl h2),if_neg (fun e=>h3 fun e2=>e (oY 92 rfl e2)),if_pos ⟨by have:=h5.1;omega,h5.2⟩];simp only[hD];rw[if_pos V]
def Oo (h:i<s.length)(h2:¬((s.getD i 0).toNat:Int)=34)(h3:¬¬((s.getD i 0).toNat:Int)=92)(h5:¬((i:Int)+1<s.length∧cF (s.getD (i+1) 0)=true))
  (h8:((s.length:Int)≤i+1∨¬vJ.contains (s.getD (i+1) 0)=true)):fu s (g+1) out i=none:=by
 rw[fu,if_pos h,if_neg (q6 34 rfl h2),if_neg (fun e=>h3 fun e2=>e (oY 92 rfl e2)),if_neg (fun⟨a,b⟩=>h5 ⟨V,b⟩),if_pos];rcases h8 with h|h
 ·exact .inl V
 ·exact .inr (by simpa [gt] using h)
def Al {c:UInt8}(h:i<s.length)(h2:¬((s.getD i 0).toNat:Int)=34)(h3:¬¬((s.getD i 0).toNat:Int)=92)(h5:¬((i:Int)+1<s.length∧cF (s.getD (i+1) 0)=true))
  (h8:¬((s.length:Int)≤i+1∨¬vJ.contains (s.getD (i+1) 0)=true)) (hc:Bo (gt s (i+1))=c):fu s (g+1) out i=fu s g (out++[c]) (i+2):=by
 rw[fu,if_pos h,if_neg (q6 34 rfl h2),if_neg (fun e=>h3 fun e2=>e (oY 92 rfl e2)),if_neg (fun⟨a,b⟩=>h5 ⟨V,b⟩),if_neg,hc];rintro (h|h)
 ·exact h8 (.inl V)
 ·exact h8 (.inr (by simpa [gt] using h))
def Td (h:((s.getD (i+1) 0).toNat:Int)=110):Bo (gt s (i+1))=10:=by
 have:=oY 110 rfl h;rw[this];rfl
def Vr (h:¬((s.getD (i+1) 0).toNat:Int)=110)(h2:((s.getD (i+1) 0).toNat:Int)=116):Bo (gt s (i+1))=9:=by
 have:=oY 116 rfl h2;rw[this];rfl
def V2 (h:¬((s.getD (i+1) 0).toNat:Int)=110)(h2:¬((s.getD (i+1) 0).toNat:Int)=116):Bo (gt s (i+1))=gt s (i+1):=by
 have a:=q6 110 rfl h;have b:=q6 116 rfl h2;unfold Bo;rw[if_neg a,if_neg b]
end
def aeD (Z:World)(br:Nat)(s:List UInt8)(aj:Nat)(hA:bT Z [.ob br 70 (ig s aj)])(hs:s.length≤16384)(ha:aj<s.length):aH prog 40 #[ptr (aa br)] Z (fun v w'=>v=(match lq s aj with|none=>.tuple #[str [],i64 (-1)]|some (t,n)=>.tuple #[str t,i64 (n:Int)])∧St Z [br] w' [.ob br 70 (ig s aj)]):=by
 have O:=St.init hA;refine aS func40 ntmps40 fun a U=>?_;refine Zv 3 fun a U=>?_;have O:=O.eI 5 1;refine Zv 6 fun a U=>?_;have O:=O.q [1];refine cl (fun (x:Nat×List UInt8×Nat×Value) a w'=>match x with| (f,out,i,v)=>(fu s f out i=fu s (s.length+1) [] (aj+1)∧s.length<i+f∧aj<i∧i≤s.length∧out.length≤i)∧St Z [br] w' [.ob br 70 (ig s aj),ax v 5 ny out]∧Fr a 148 [(0,ptr (aa br)),(4,v),(5,i64 i)]) (fun (x:Nat×List UInt8×Nat×Value)=>match x with| (f,out,i,v)=>f) (s.length+1,[],aj+1,_) ⟨⟨rfl,V,V,V,aw⟩,O,U.su⟩ ?_;rintro⟨f,out,i,v⟩ a w ⟨⟨hr,hf,hai,hil,hol⟩,O,U⟩;refine Zi 7 (fun a U ao=>?_) fun a U ao=>?_
 ·refine Zv 5 fun a U=>?_;refine aZ U (iG (m:=i) underlying9 rfl (U.af rfl) (U.af rfl) V) fun a U=>?_;refine Zi 4 (fun a U ay=>?_) fun a U ay=>?_
  ·refine Zd 0 [0,1,0,0,0,0,0,1,0,0,0] fun w O=>?_;refine Zv 1 fun a U=>?_;refine uk U (fun w O=>arR (O.bW 1 rfl) underlying113 underlying9 underlying5 rfl (U.af rfl)) fun a U=>?_;refine Zv 9 fun a U=>?_;refine dI ?_;refine dI ?_;refine dv ?_;refine dI ?_;refine dv ?_;refine qC U rfl rfl rfl ?_;obtain⟨g,rfl⟩:∃g,f=g+1:=⟨f - 1,V⟩;refine⟨?_,O.wT 1⟩;rw[lq,←hr,XZ V ay];exact congrArg (fun x=>Value.tuple #[str out,i64 x]) (show (i:Int)+1 - aj=((i+1 - aj:Nat):Int) by omega)
  ·refine Zi 3 (fun a U aF=>?_) fun a U aF=>?_
   ·refine Zw 6 fun a U=>?_;refine Zi 0 (fun aT=>?_) fun aT=>?_
    ·refine Zv 2 fun a U=>?_;refine dv ?_;refine dI ?_;refine dI ?_;refine dv ?_;refine dI ?_;refine dv ?_;refine qC U rfl rfl rfl ?_;obtain⟨g,rfl⟩:∃g,f=g+1:=⟨f - 1,V⟩;refine⟨?_,O.wT 1⟩;rw[lq,←hr,P4 V ay aF aT]
     rfl
    ·refine Zb 3 fun b1 a w O U=>?_;refine eP U (iJ (bytes:=1) (r:=[gt s i]) O (i:=2) rfl (O.rd 0 rfl) underlying113 xR rfl rfl rfl rfl rfl rfl (U.af rfl) (U.af rfl) (by show (List.length _+1) * 1≤_;omega) (by show List.length _+1≤_;omega)) ?_;rintro a v87 w O U;have O:=O.nm;refine Zv 4 fun a U=>?_;have O:=O.d [0];obtain⟨g,rfl⟩:∃g,f=g+1:=⟨f - 1,V⟩;exact⟨(g,out++[gt s i],i+1,_),⟨⟨(WY V ay aF aT).symm.trans hr,V,V,V,by simp;omega⟩,O,U.su⟩,by dsimp only;omega⟩
   ·refine Zw 15 fun a U=>?_;refine cG U rfl rfl rfl rfl rfl rfl (fun hg=>iG (m:=i+1) underlying9 rfl ((U.af rfl).trans (a6 hg)) ((U.af rfl).trans (a6 hg)) (by have:=gA hg;omega)) fun a U=>?_;refine fS O U rfl rfl rfl rfl rfl rfl (fun hg=>jo U rfl rfl (je trivial) call36 (Cj _ _)) fun a w O U=>?_;refine Wb 0 fun a U=>?_;refine Zi 1 (fun a U bm=>?_) fun a U bm=>?_
    ·refine Zv 4 fun a U=>?_;refine cl (fun (y:Nat×Nat×Nat) a w'=>match y with| (h,n,j)=>(iz s h n j=iz s s.length 0 (i+1)∧s.length≤j+h∧i<j∧j≤s.length∧n≤1000)∧St Z [br] w' [.ob br 70 (ig s aj),ax v 5 ny out]∧Fr a 148 [(0,ptr (aa br)),(4,v),(5,i64 j),(7,i64 n)]) (fun (y:Nat×Nat×Nat)=>match y with| (h,n,j)=>h) (s.length,0,i+1) ⟨⟨rfl,V,V,by have:=bm.1;omega,V⟩,O,U.su⟩ ?_;rintro⟨h,n,j⟩ a w ⟨⟨hD,hh,hij,hjl,hn⟩,O,U⟩;refine Zw 13 fun a U=>?_;refine cG U rfl rfl rfl rfl rfl rfl (fun hg=>iG (m:=j) underlying9 rfl ((U.af rfl).trans (a6 hg)) ((U.af rfl).trans (a6 hg)) (by have:=gA hg;omega)) fun a U=>?_;refine fS O U rfl rfl rfl rfl rfl rfl (fun hg=>jo U rfl rfl (je trivial) call36 (Cj _ _)) fun a w O U=>?_;refine Wb 0 fun a U=>?_;refine Zi 0 (fun bl=>?_) fun bl=>?_
     ·have hdg:=AR bl.2;have hjj:=bl.1;refine Zv 1 fun a U=>?_;refine aZ U (Wz rfl (U.af rfl) (U.af rfl) V) fun a U=>?_;refine Zv 5 fun a U=>?_;refine aZ U (iG (m:=j) underlying9 rfl (U.af rfl) (U.af rfl) V) fun a U=>?_;refine aZ U (XD rfl (U.af rfl) (U.af rfl) V) fun a U=>?_;refine aZ U (Fw underlying5 underlying3 rfl (U.af rfl) (IntWalk.i64_in _ V)) fun a U=>?_;refine Zv 1 fun a U=>?_;refine aZ U (UN rfl (U.af rfl) (U.af rfl)) fun a U=>?_;obtain⟨g,rfl⟩:∃g,h=g+1:=⟨h - 1,by have:=bl.1;omega⟩;refine Zv 4 fun a U=>?_;exact⟨(g,min (10 * n+((gt s j).toNat - 48)) 1000,j+1),⟨⟨(al0 bl).symm.trans hD,V,V,by have:=bl.1;omega,V⟩,O,U.sub ⟨rfl,rfl,rfl,(congrArg some (congrArg i64 (aeW hdg))),trivial⟩⟩,by dsimp only;omega⟩
     ·refine Zi 2 (fun a U bN=>?_) fun a U bN=>?_
      ·refine Zv 2 fun a U=>?_;refine dv ?_;refine dI ?_;refine dI ?_;refine dv ?_;refine dI ?_;refine dv ?_;refine qC U rfl rfl rfl ?_;obtain⟨g,rfl⟩:∃g,f=g+1:=⟨f - 1,V⟩;refine⟨?_,O.wT 1⟩;rw[lq,←hr,Xj V ay aF bm (Ti hD bl) bN]
       rfl
      ·refine Zv 2 fun a U=>?_;refine aZ U (Fw underlying3 underlying5 rfl (U.af rfl) (WE V)) fun a U=>?_;refine Zb 1 fun b2 a w O U=>?_;refine eP U (iJ (bytes:=1) (r:=[UInt8.ofNat n]) O (i:=2) rfl (O.rd 0 rfl) underlying113 xR rfl rfl rfl rfl rfl rfl (U.af rfl) (U.af rfl) (by show (List.length _+1) * 1≤_;omega) (by show List.length _+1≤_;omega)) ?_;rintro a at7 w O U;have O:=O.nm;refine Zv 1 fun a U=>?_;have O:=O.d [0];obtain⟨g,rfl⟩:∃g,f=g+1:=⟨f - 1,V⟩;exact⟨(g,out++[UInt8.ofNat n],j,_),⟨⟨(O_ V ay aF bm (Ti hD bl) V).symm.trans hr,V,V,V,by simp;omega⟩,O,U.su⟩,by dsimp only;omega⟩
    ·refine Zw 15 fun a U=>?_;refine cG U rfl rfl rfl rfl rfl rfl (fun hg=>iG (m:=i+1) underlying9 rfl ((U.af rfl).trans (a6 hg)) ((U.af rfl).trans (a6 hg)) (by have:=vX hg;omega)) fun a U=>?_;refine fS O U rfl rfl rfl rfl rfl rfl (fun hg=>jo U rfl rfl (je trivial) call39 (O0 _ _ _ ai)) fun a w O U=>?_;refine cG U rfl rfl rfl rfl rfl rfl (fun hg=>kT rfl ((U.af rfl).trans (a6 hg)) (eN _)) fun a U=>?_;refine Zi 1 (fun a U db=>?_) fun a U db=>?_
     ·refine Zv 2 fun a U=>?_;refine dv ?_;refine dI ?_;refine dI ?_;refine dv ?_;refine dI ?_;refine dv ?_;refine qC U rfl rfl rfl ?_;obtain⟨g,rfl⟩:∃g,f=g+1:=⟨f - 1,V⟩;refine⟨?_,O.wT 1⟩;rw[lq,←hr,Oo V ay aF bm db]
      rfl
     ·refine Zv 6 fun a U=>?_;refine aZ U (iG (m:=i+1) underlying9 rfl (U.af rfl) (U.af rfl) (by have:=not_or.1 db;omega)) fun a U=>?_;refine Zi 3 (fun a U d_=>?_) fun a U d_=>?_
      ·refine Zi 3 (fun a U eA=>?_) fun a U eA=>?_
       ·exact absurd eA ai
       ·refine Zb 3 fun b3 a w O U=>?_;refine eP U (iJ (bytes:=1) (r:=[10]) O (i:=2) rfl (O.rd 0 rfl) underlying113 xR rfl rfl rfl rfl rfl rfl (U.af rfl) (U.af rfl) (by show (List.length _+1) * 1≤_;omega) (by show List.length _+1≤_;omega)) ?_;rintro a v60 w O U;have O:=O.nm;refine Zv 4 fun a U=>?_;have O:=O.d [0];obtain⟨g,rfl⟩:∃g,f=g+1:=⟨f - 1,V⟩;exact⟨(g,out++[10],i+2,_),⟨⟨(Al (c:=10) V ay aF bm db (Td d_)).symm.trans hr,V,V,V,by simp;omega⟩,O,U.su⟩,by dsimp only;omega⟩
      ·refine Zi 2 (fun a U gE=>?_) fun a U gE=>?_
       ·refine Zb 4 fun b4 a w O U=>?_;refine eP U (iJ (bytes:=1) (r:=[9]) O (i:=2) rfl (O.rd 0 rfl) underlying113 xR rfl rfl rfl rfl rfl rfl (U.af rfl) (U.af rfl) (by show (List.length _+1) * 1≤_;omega) (by show List.length _+1≤_;omega)) ?_;rintro a v60 w O U;have O:=O.nm;refine Zv 4 fun a U=>?_;have O:=O.d [0];obtain⟨g,rfl⟩:∃g,f=g+1:=⟨f - 1,V⟩;exact⟨(g,out++[9],i+2,_),⟨⟨(Al (c:=9) V ay aF bm db (Vr d_ gE)).symm.trans hr,V,V,V,by simp;omega⟩,O,U.su⟩,by dsimp only;omega⟩
       ·refine Zb 3 fun b5 a w O U=>?_;refine eP U (iJ (bytes:=1) (r:=[gt s (i+1)]) O (i:=2) rfl (O.rd 0 rfl) underlying113 xR rfl rfl rfl rfl rfl rfl (U.af rfl) (U.af rfl) (by show (List.length _+1) * 1≤_;omega) (by show List.length _+1≤_;omega)) ?_;rintro a v60 w O U;have O:=O.nm;refine Zv 4 fun a U=>?_;have O:=O.d [0];obtain⟨g,rfl⟩:∃g,f=g+1:=⟨f - 1,V⟩;exact⟨(g,out++[gt s (i+1)],i+2,_),⟨⟨(Al V ay aF bm db (V2 d_ gE)).symm.trans hr,V,V,V,by simp;omega⟩,O,U.su⟩,by dsimp only;omega⟩
 ·refine Zv 2 fun a U=>?_;refine qC U rfl rfl rfl ?_;refine⟨?_,O.wT 1⟩;rw[lq,←hr,ZX V]
  rfl
def GQ (s:List UInt8)(aj:Nat)(n:Int):Prop:=(nq s aj=none∧n= -1)∨∃k:Nat,nq s aj=some k∧n=k
def FG (s:List UInt8)(aj:Nat)(t:List UInt8)(n:Int):Prop:=(lq s aj=none∧n= -1)∨∃k:Nat,lq s aj=some (t,k)∧n=k
def aeH (Z:World)(br:Nat)(s:List UInt8)(aj:Nat)(hA:bT Z [.ob br 70 (ig s aj)])(hs:s.length≤16384)(ha:aj<s.length):
  aH prog 30 #[ptr (aa br)] Z (fun v w'=>∃n:Int,v=i64 n∧GQ s aj n∧St Z [br] w' [.ob br 70 (ig s aj)]):=
 (amM Z br s aj hA hs ha).mono fun v w' ⟨hv,hS⟩=>by
  cases h:nq s aj with
  |none=>rw[h] at hv;exact⟨_,hv,.inl ⟨h,rfl⟩,hS⟩
  |some k=>rw[h] at hv;exact⟨_,hv,.inr ⟨k,h,rfl⟩,hS⟩
def ajT (Z:World)(br:Nat)(s:List UInt8)(aj:Nat)(hA:bT Z [.ob br 70 (ig s aj)])(hs:s.length≤16384)(ha:aj<s.length):
  aH prog 40 #[ptr (aa br)] Z (fun v w'=>∃t,∃n:Int,v=.tuple #[str t,i64 n]∧FG s aj t n∧St Z [br] w' [.ob br 70 (ig s aj)]):=
 (aeD Z br s aj hA hs ha).mono fun v w' ⟨hv,hS⟩=>by
  cases h:lq s aj with
  |none=>rw[h] at hv;exact⟨_,_,hv,.inl ⟨h,rfl⟩,hS⟩
  |some p=>rw[h] at hv;exact⟨_,_,hv,.inr ⟨p.2,h,rfl⟩,hS⟩
def yE {s:List UInt8}{i:Nat}{n:Int}(c:UInt8)(hc:(c.toNat:Int)=n):((s.getD i 0).toNat:Int)=n↔gt s i=c:=
 ⟨fun h=>oY c hc h,fun h=>by have e:s.getD i 0=c:=h;rw[e];exact hc⟩
def JR {s:List UInt8}{i:Nat}(a b:UInt8):((a.toNat:Int)≤(s.getD i 0).toNat∧((s.getD i 0).toNat:Int)≤b.toNat)↔(a≤gt s i∧gt s i≤b):=by
 unfold gt;rw[UInt8.le_iff_toNat_le,UInt8.le_iff_toNat_le];omega
section
variable {s:List UInt8} {aj:Nat}
abbrev H3 (s:List UInt8)(aj:Nat):Prop:=((s.getD aj 0).toNat:Int)=32∨((s.getD aj 0).toNat:Int)=10
abbrev H4 (s:List UInt8)(aj:Nat):Prop:=(((s.getD aj 0).toNat:Int)=123∧(aj:Int)+1<s.length)∧((s.getD (aj+1) 0).toNat:Int)=45
abbrev H6 (s:List UInt8)(aj:Nat):Prop:=rY (s.getD aj 0)=true∨((s.getD aj 0).toNat:Int)=95
def i3:H3 s aj↔(gt s aj=32∨gt s aj=10):=by unfold H3;rw[yE (n:=32) 32 rfl,yE (n:=10) 10 rfl]
def i4:H4 s aj↔(gt s aj=123∧aj+1<s.length∧gt s (aj+1)=45):=by
 unfold H4;rw[yE (n:=123) 123 rfl,yE (n:=45) 45 rfl,and_assoc];have:(aj:Int)+1<s.length↔aj+1<s.length:=V
 rw[this]
def i6:H6 s aj↔(rY (gt s aj)=true∨gt s aj=95):=by unfold H6;rw[yE (n:=95) 95 rfl];exact Iff.rfl
def Qp (h3:H3 s aj):eB s aj=.skip 1:=by
 unfold eB;dsimp only;rw[if_pos (i3.1 h3)]
def Fz (h3:¬H3 s aj)(h4:H4 s aj):eB s aj=match nq s aj with|none=>.bad 14|some k=>.skip k:=by
 unfold eB;dsimp only;rw[if_neg (fun h=>h3 (i3.2 h)),if_pos (i4.1 h4)]
 rfl
def EH (h3:¬H3 s aj)(h4:¬H4 s aj)(h6:H6 s aj){k:Int}
  (hk:(if u_.contains (cQ s aj (bo s aj 0)) then 7 else if cQ s aj (bo s aj 0)=[95] then 8 else if 65≤gt s aj∧gt s aj≤90 then 2 else 1)=k):eB s aj=.tok k (cQ s aj (bo s aj 0)) 0 (bo s aj 0):=by
 unfold eB;dsimp only;rw[if_neg (fun h=>h3 (i3.2 h)),if_neg (fun h=>h4 (i4.2 h)),if_pos (i6.1 h6),hk]
def Hz (h3:¬H3 s aj)(h4:¬H4 s aj)(h6:¬H6 s aj)(h10:cF (s.getD aj 0)=true):
  eB s aj=match iU (cQ s aj (bo s aj 1)) 0 with|none=>.bad 12|some v=>.tok 5 (cQ s aj (bo s aj 1)) v (bo s aj 1):=by
 unfold eB;dsimp only;rw[if_neg (fun h=>h3 (i3.2 h)),if_neg (fun h=>h4 (i4.2 h)),if_neg (fun h=>h6 (i6.2 h)),if_pos (show cF (gt s aj)=true from h10)]
 rfl
def F2 (h3:¬H3 s aj)(h4:¬H4 s aj)(h6:¬H6 s aj)(h10:¬cF (s.getD aj 0)=true)(h13:j1 (s.getD aj 0)=true)(hm:¬((cQ s aj (bo s aj 2)).all (fun c=>c=45)=true∧2≤bo s aj 2)){k:Int}
  (hk:(if xB.contains (cQ s aj (bo s aj 2)) then 8 else if gt s aj=58 then 4 else 3)=k):eB s aj=.tok k (cQ s aj (bo s aj 2)) 0 (bo s aj 2):=by
 unfold eB;dsimp only;rw[if_neg (fun h=>h3 (i3.2 h)),if_neg (fun h=>h4 (i4.2 h)),if_neg (fun h=>h6 (i6.2 h)),if_neg (show ¬cF (gt s aj)=true from h10),if_pos (show j1 (gt s aj)=true from h13),if_neg hm,hk]
def SI (h3:¬H3 s aj)(h4:¬H4 s aj)(h6:¬H6 s aj)(h10:¬cF (s.getD aj 0)=true)(h13:j1 (s.getD aj 0)=true)(hm:(cQ s aj (bo s aj 2)).all (fun c=>c=45)=true∧2≤bo s aj 2):
  eB s aj=.skip (bo s aj 3):=by
 unfold eB;dsimp only;rw[if_neg (fun h=>h3 (i3.2 h)),if_neg (fun h=>h4 (i4.2 h)),if_neg (fun h=>h6 (i6.2 h)),if_neg (show ¬cF (gt s aj)=true from h10),if_pos (show j1 (gt s aj)=true from h13),if_pos hm]
def Ra (h3:¬H3 s aj)(h4:¬H4 s aj)(h6:¬H6 s aj)(h10:¬cF (s.getD aj 0)=true)(h13:¬j1 (s.getD aj 0)=true)(h18:pH.contains (s.getD aj 0)=true):eB s aj=.tok 8 (cQ s aj 1) 0 1:=by
 unfold eB;dsimp only;rw[if_neg (fun h=>h3 (i3.2 h)),if_neg (fun h=>h4 (i4.2 h)),if_neg (fun h=>h6 (i6.2 h)),if_neg (show ¬cF (gt s aj)=true from h10),if_neg (show ¬j1 (gt s aj)=true from h13),if_pos (show pH.contains (gt s aj)=true from h18)]
def Iq (h3:¬H3 s aj)(h4:¬H4 s aj)(h6:¬H6 s aj)(h10:¬cF (s.getD aj 0)=true)(h13:¬j1 (s.getD aj 0)=true)(h18:¬pH.contains (s.getD aj 0)=true)(h19:((s.getD aj 0).toNat:Int)=34):
  eB s aj=match lq s aj with|none=>.bad 13|some (t,n)=>.tok 6 t 0 n:=by
 unfold eB;dsimp only;rw[if_neg (fun h=>h3 (i3.2 h)),if_neg (fun h=>h4 (i4.2 h)),if_neg (fun h=>h6 (i6.2 h)),if_neg (show ¬cF (gt s aj)=true from h10),if_neg (show ¬j1 (gt s aj)=true from h13),if_neg (show ¬pH.contains (gt s aj)=true from h18),if_pos (oY 34 rfl h19)]
 rfl
def TX (h3:¬H3 s aj)(h4:¬H4 s aj)(h6:¬H6 s aj)(h10:¬cF (s.getD aj 0)=true)(h13:¬j1 (s.getD aj 0)=true)(h18:¬pH.contains (s.getD aj 0)=true)(h19:¬((s.getD aj 0).toNat:Int)=34):eB s aj=.bad 11:=by
 unfold eB;dsimp only;rw[if_neg (fun h=>h3 (i3.2 h)),if_neg (fun h=>h4 (i4.2 h)),if_neg (fun h=>h6 (i6.2 h)),if_neg (show ¬cF (gt s aj)=true from h10),if_neg (show ¬j1 (gt s aj)=true from h13),if_neg (show ¬pH.contains (gt s aj)=true from h18),if_neg (q6 34 rfl h19)]
def Ey {g n:Nat}{out:List Tok}(h:aj<s.length)(hl:eB s aj=.skip n):h_ s (g+1) aj out=h_ s g (aj+n) out:=by rw[h_,if_pos h,hl]
def OR {g n:Nat}{out:List Tok}{k v:Int}{t:List UInt8}(h:aj<s.length)(hl:eB s aj=.tok k t v n):h_ s (g+1) aj out=h_ s g (aj+n) (out++[⟨k,t,v,(cH s aj).1,(cH s aj).2⟩]):=by rw[h_,if_pos h,hl]
def ahp {g n:Nat}{out:List Tok}{t:Tok}(h:aj<s.length)(hl:eB s aj=.tok t.kind t.text t.num n)(h1:t.line=(cH s aj).1)(h2:t.bh=(cH s aj).2):h_ s (g+1) aj out=h_ s g (aj+n) (out++[t]):=by
 rw[OR h hl,←h1,←h2]
def B2 {g:Nat}{out:List Tok}{e:Int}(h:aj<s.length)(hr:h_ s (g+1) aj out=h_ s (s.length+1) 0 [])(hs:s.length≤16384)(hl:eB s aj=.bad e):fR s=([],⟨[],(cH s aj).1,(cH s aj).2,e⟩):=by
 rw[fR,if_neg V,←hr,h_,if_pos h,hl]
def RC {f:Nat}{out:List Tok}(h:¬(aj:Int)<s.length)(hf:s.length<aj+f)(hal:aj≤s.length)(hr:h_ s f aj out=h_ s (s.length+1) 0 [])(hs:s.length≤16384):
  fR s=(out++[⟨9,[],0,(cH s aj).1,(cH s aj).2⟩],.ok):=by
 obtain⟨g,rfl⟩:∃g,f=g+1:=⟨f - 1,V⟩;rw[fR,if_neg V,←hr,h_,if_neg V]
def Hr:∀(f:Nat) (d:Int) (i k:Nat),gm s aj f d i=some k→aj≤i→aj+k≤s.length∧i+2≤aj+k
 |0,_,_,_,h,_=>by cases h
 |f+1,d,i,k,h,hi=>by
  unfold gm at h
  by_cases h1:i+1<s.length
  ·rw[if_pos h1] at h
   by_cases h2:gt s i=123∧gt s (i+1)=45
   ·rw[if_pos h2] at h;have:=Hr f _ _ _ h V;omega
   ·rw[if_neg h2] at h
    by_cases h3:gt s i=45∧gt s (i+1)=125
    ·rw[if_pos h3] at h
     by_cases h4:d - 1=0
     ·rw[if_pos h4] at h;cases h;omega
     ·rw[if_neg h4] at h;have:=Hr f _ _ _ h V;omega
    ·rw[if_neg h3] at h;have:=Hr f _ _ _ h V;omega
  ·rw[if_neg h1] at h;cases h
def Hn {k:Nat}(h:nq s aj=some k):aj+k≤s.length∧2≤k:=by
 have:=Hr _ _ _ _ h (bQ _);omega
def K5:∀(f n i:Nat),i≤s.length→i≤(iz s f n i).2∧(iz s f n i).2≤s.length
 |0,n,i,h=>⟨bQ _,h⟩
 |f+1,n,i,h=>by
  unfold iz
  by_cases h1:i<s.length∧cF (gt s i)=true
  ·rw[if_pos h1];have:=K5 f (min (10 * n+((gt s i).toNat - 48)) 1000) (i+1) V;omega
  ·rw[if_neg h1];exact⟨bQ _,h⟩
def Ik:∀(f:Nat) (out:List UInt8) (i:Nat) (t:List UInt8) (k:Nat),fu s f out i=some (t,k)→i<k∧k≤s.length
 |0,_,_,_,_,h=>by cases h
 |f+1,out,i,t,k,h=>by
  unfold fu at h
  by_cases h1:i<s.length
  ·rw[if_pos h1] at h
   by_cases h2:gt s i=34
   ·rw[if_pos h2] at h;cases h;omega
   ·rw[if_neg h2] at h
    by_cases h3:¬gt s i=92
    ·rw[if_pos h3] at h
     by_cases h4:gt s i<32∨126<gt s i
     ·rw[if_pos h4] at h;cases h
     ·rw[if_neg h4] at h;have:=Ik f _ _ _ _ h;omega
    ·rw[if_neg h3] at h
     by_cases h4:i+1<s.length∧cF (gt s (i+1))=true
     ·rw[if_pos h4] at h;dsimp only at h;have hd:=K5 (s:=s) s.length 0 (i+1) V
      by_cases h5:255< (iz s s.length 0 (i+1)).1
      ·rw[if_pos h5] at h;cases h
      ·rw[if_neg h5] at h;have:=Ik f _ _ _ _ h;omega
     ·rw[if_neg h4] at h
      by_cases h5:s.length≤i+1∨vJ.contains (gt s (i+1))=false
      ·rw[if_pos h5] at h;cases h
      ·rw[if_neg h5] at h;have:=Ik f _ _ _ _ h;omega
  ·rw[if_neg h1] at h;cases h
def JF {t:List UInt8}{k:Nat}(h:lq s aj=some (t,k)):aj+k≤s.length∧1≤k:=by
 unfold lq at h
 cases h1:fu s (s.length+1) [] (aj+1) with
 |none=>rw[h1] at h;cases h
 |some p=>
  rw[h1] at h;simp only[Option.map_some,Option.some.injEq,Prod.mk.injEq] at h;have:=Ik _ _ _ _ _ (show fu s (s.length+1) [] (aj+1)=some (p.1,p.2) from h1);omega
def HB {kd:Nat}(h:aj<s.length)(hg:fC kd (s.getD aj 0)=true):1≤bo s aj kd:=
 K_ (k:=0) (dN _) V (by simpa using hg)
def vS (h:aj<s.length)(h6:H6 s aj):1≤bo s aj 0:=HB h (by
  rw[M5 rfl]
  rcases h6 with h|h
  · simp only[h,true_or,decide_true]
  · simp only[h,or_true,true_or,decide_true])
def JU (h:aj<s.length)(h10:cF (s.getD aj 0)=true):1≤bo s aj 1:=HB h (by rw[D2 rfl];exact h10)
def yW (h:aj<s.length)(h13:j1 (s.getD aj 0)=true):1≤bo s aj 2:=HB h (by rw[Ot rfl];exact h13)
def OZ (h:aj<s.length)(h13:j1 (s.getD aj 0)=true):1≤bo s aj 3:=HB h (by
  rw[Ob V V V]
  refine decide_eq_true fun e=>?_
  rw[yE (n:=10) 10 rfl] at e
  have e2:s.getD aj 0=10:=e
  rw[e2] at h13
  exact absurd h13 ai)
def Mb (p:UInt8→Bool):∀(l:List UInt8) (k:Nat),k< (l.takeWhile p).length→p (l.getD k 0)=true
 | [],k,h=>by simp at h
 |c::l,k,h=>by
  by_cases hc:p c=true
  ·cases k with
   |zero=>simpa using hc
   |succ k=>
    simp only[List.takeWhile_cons,hc,if_true,bg] at h
    simpa using Mb p l k V
  ·simp [hc] at h
def anv {kd k:Nat}(h:k<bo s aj kd):fC kd (s.getD (aj+k) 0)=true:=by
 rw[←pF];exact Mb _ _ _ h
def qW {n:Nat}(h:aj+n≤s.length):(cQ s aj n).length=n:=by unfold cQ;simp;omega
def E4 {n k:Nat}(h:aj+n≤s.length)(hk:k<n):k< (cQ s aj n).length:=by rw[qW h];exact hk
def WZ {n k:Nat}(hk:k<n):(cQ s aj n).getD k 0=s.getD (aj+k) 0:=by
 unfold cQ;simp only[List.getD_eq_getElem?_getD,List.getElem?_drop];rw[List.getElem?_take,if_pos V]
def af3 {k:Nat}(h:k<bo s aj 1):(48:Int)≤((cQ s aj (bo s aj 1)).getD k 0).toNat∧(((cQ s aj (bo s aj 1)).getD k 0).toNat:Int)≤57:=by
 rw[WZ h];have:=anv h;rw[D2 rfl] at this;exact AR this
end
section
variable {l:List UInt8} {k N:Nat}
def OC (hk:k<l.length):l.drop k=l.getD k 0::l.drop (k+1):=by
 rw[List.drop_eq_getElem_cons hk];simp [List.getElem?_eq_getElem hk]
def Ht {c:UInt8}(hd:(48:Int)≤c.toNat∧(c.toNat:Int)≤57):(9223372036854775807 - ((c.toNat:Int) - 48)).tdiv 10=(((9223372036854775807 - (c.toNat - 48)) / 10:Nat):Int):=by
 rw[Int.tdiv_eq_ediv_of_nonneg V];omega
def amj {c:UInt8}(hd:(48:Int)≤c.toNat∧(c.toNat:Int)≤57): -9223372036854775808≤(9223372036854775807 - ((c.toNat:Int) - 48)).tdiv 10∧(9223372036854775807 - ((c.toNat:Int) - 48)).tdiv 10≤9223372036854775807:=by
 rw[Ht hd];omega
def alw (hk:k<l.length)(hd:(48:Int)≤(l.getD k 0).toNat∧((l.getD k 0).toNat:Int)≤57)(h:(9223372036854775807 - (((l.getD k 0).toNat:Int) - 48)).tdiv 10< (N:Int)):iU (l.drop k) N=none:=by
 rw[Ht hd] at h;rw[OC hk,iU,if_pos V]
def aaE (hk:k<l.length)(hd:(48:Int)≤(l.getD k 0).toNat∧((l.getD k 0).toNat:Int)≤57)(h:¬(9223372036854775807 - (((l.getD k 0).toNat:Int) - 48)).tdiv 10< (N:Int)):
  iU (l.drop k) N=iU (l.drop (k+1)) (10 * N+((l.getD k 0).toNat - 48)):=by
 rw[Ht hd] at h;rw[OC hk,iU,if_neg V]
def arp {c:UInt8}(hd:(48:Int)≤c.toNat∧(c.toNat:Int)≤57)(h:¬(9223372036854775807 - ((c.toNat:Int) - 48)).tdiv 10< (N:Int)):10 * (N:Int)+((c.toNat:Int) - 48)≤9223372036854775807:=by
 rw[Ht hd] at h;omega
def aiP {c:UInt8}(hd:(48:Int)≤c.toNat∧(c.toNat:Int)≤57):10 * (N:Int)+((c.toNat:Int) - 48)=((10 * N+(c.toNat - 48):Nat):Int):=V
def an2 (hk:l.length≤k):iU (l.drop k) N=some N:=by rw[List.drop_of_length_le hk];rfl
def ad0 {m:Bool}(hk:k<l.length)(hm:m=(l.take k).all (fun c=>c=45)):decide (m=true∧((l.getD k 0).toNat:Int)=45)=(l.take (k+1)).all (fun c=>c=45):=by
 rw[List.take_add_one,getD_some hk,List.all_append,←hm];have:(((l.getD k 0).toNat:Int)=45)↔l.getD k 0=45:=by
  rw[show (45:Int)=((45:UInt8).toNat:Int) from rfl,Xh]
 rw[Bool.decide_and];simp only[Option.toList_some,List.all_cons,List.all_nil,Bool.and_true,Bool.decide_eq_true];rw[decide_eq_decide.2 this]
def Iu {m:Bool}(hk:l.length≤k)(hm:m=(l.take k).all (fun c=>c=45)):m=l.all (fun c=>c=45):=by rw[hm,List.take_of_length_le hk]
def Sx {n:Int}(s:List UInt8)(i:Nat)(h:GQ s i n)(hn:¬n<0):∃k:Nat,nq s i=some k∧n=k:=by
 rcases h with ⟨_,h⟩|h
 ·omega
 ·exact h
def Xz {n:Int}{t:List UInt8}(s:List UInt8)(i:Nat)(h:FG s i t n)(hn:¬n<0):∃k:Nat,lq s i=some (t,k)∧n=k:=by
 rcases h with ⟨_,h⟩|h
 ·omega
 ·exact h
def WU {n:Int}{s:List UInt8}{i:Nat}(h:GQ s i n)(hn:n<0):nq s i=none:=by
 rcases h with ⟨h,_⟩| ⟨k,_,h⟩
 ·exact h
 ·omega
def Vt {n:Int}{t:List UInt8}{s:List UInt8}{i:Nat}(h:FG s i t n)(hn:n<0):lq s i=none:=by
 rcases h with ⟨h,_⟩| ⟨k,_,h⟩
 ·exact h
 ·omega
end
def Mn (Z:World)(s:List UInt8):aH prog 12 #[str s] Z (fun v w'=>∃va l d,fR s=(l,d)∧v=.tuple #[va,.agg (dZ d).toArray]∧St Z [] w' [ax va 44 aM l]):=by
 have O:=St.bL Z;refine aS func12 ntmps12 fun a U=>?_;refine Zb 5 fun dg a w O U=>?_;refine Zi 0 (fun ao=>?_) fun ao=>?_
 ·refine Zs 3 fun a w O U=>?_;refine dv ?_;refine qp U rfl rfl rfl isAgg31 sizeOf31 (O.cells 0 rfl) rfl ?_;exact⟨_,[],_,by rw[fR,if_pos V],rfl,by exact ((O.eI 44 5).only)⟩
 ·have hs:s.length≤16384:=V
  refine Zb 5 fun br a w O U=>?_;have O:=O.eI 44 5;have O:=O.q [1];refine cl (fun (x:Nat×Nat×List Tok×Value) a w'=>match x with| (f,aj,out,v)=>(h_ s f aj out=h_ s (s.length+1) 0 []∧aj≤s.length∧s.length<aj+f∧out.length≤aj)∧St Z [] w' [.ob br 70 (ig s aj),ax v 44 aM out,.ob dg 31 [str [],i64 0,i64 0,i64 0]]∧Fr a 276 [(0,str s),(3,ptr (aa dg)),(4,ptr (aa br)),(5,v)]) (fun (x:Nat×Nat×List Tok×Value)=>match x with| (f,aj,out,v)=>f) (s.length+1,0,[],_) ⟨⟨rfl,V,V,aw⟩,O,U.su⟩ ?_;rintro⟨f,aj,out,v⟩ a w ⟨⟨hr,hal,hf,hol⟩,O,U⟩;have auP:=nh s aj 0;have ak3:=nh s aj 1;have aud:=nh s aj 2;have anl:=nh s aj 3;refine Zi 7 (fun a U ay=>?_) fun a U ay=>?_
  ·refine Zv 5 fun a U=>?_;refine aZ U (iG (m:=aj) underlying9 rfl (U.af rfl) (U.af rfl) V) fun a U=>?_;refine Zd 1 [0,0,0,1,0,0,0,1,0,2,3] fun a w O U=>?_;refine Zv 9 fun a U=>?_;refine eg U (DJ O zeroValue44 rfl rfl) (fun _ _ ⟨_,_,O⟩=>O.tail) ?_;rintro a _ w ⟨tk,rfl,O⟩ U;refine Zy 2 fun a w O U=>?_;refine k9 ?_;refine jx ?_;refine tw (fun (z:Tok×Nat) a w'=>match z with| (t,n)=>(eB s aj=.tok t.kind t.text t.num n∧t.line=(cH s aj).1∧t.bh=(cH s aj).2∧1≤n∧aj+n≤s.length)∧St Z [] w' [.ob tk 44 (aM.cells t),.ob br 70 (ig s aj),ax v 44 aM out,.ob dg 31 [str [],i64 0,i64 0,i64 0]]∧Fr a 276 [(0,str s),(3,ptr (aa dg)),(4,ptr (aa br)),(5,v),(7,ptr (aa tk)),(8,i64 n)]) ?_ ?_
   ·refine Zw 7 fun a U=>?_;refine Zi 0 (fun aF=>?_) fun aF=>?_
    ·refine Zv 1 fun a U=>?_;have O:=O.q [1];refine Yc 0 (H_ _ _ _ _ (1) O.aB V hs) fun a w O U=>?_;have O:=O.d [1];obtain⟨g,rfl⟩:∃g,f=g+1:=⟨f - 1,V⟩;refine Zv 0 ?_;exact⟨(g,aj+1,out,v),⟨⟨(Ey V (Qp aF)).symm.trans hr,V,V,V⟩,O,U.su⟩,by dsimp only;omega⟩
    ·refine Zw 19 fun a U=>?_;refine cG U rfl rfl rfl rfl rfl rfl (fun hg=>iG (m:=aj+1) underlying9 rfl ((U.af rfl).trans (a6 hg)) ((U.af rfl).trans (a6 hg)) (by have:=gA hg;omega)) fun a U=>?_;refine Zw 3 fun a U=>?_;refine Zi 0 (fun aT=>?_) fun aT=>?_
     ·refine Zv 1 fun a U=>?_;have O:=O.q [1];refine Yc 0 (aeH _ _ _ _ O.aB hs V) fun rn hrm a w O U=>?_;refine Zi 3 (fun a U bm=>?_) fun a U bm=>?_
      ·refine Yc 1 (Ib _ _ _ _ O.aB _) fun a w O U=>?_;refine Zs 4 fun a w O U=>?_;refine dv ?_;refine dI ?_;refine dv ?_;refine dI ?_;refine dv ?_;refine dI ?_;refine dv ?_;refine qp U rfl rfl rfl isAgg31 sizeOf31 (O.cells 3 rfl) rfl ?_;obtain⟨g,rfl⟩:∃g,f=g+1:=⟨f - 1,V⟩;exact⟨_,[],_,B2 V hr V (by rw[Fz aF aT,WU hrm bm]),rfl,(O.eI 44 5).only⟩
      ·obtain⟨k,hkm,rfl⟩:=Sx s aj hrm bm;have tF:=Hn hkm;refine Yc 2 (H_ _ _ _ _ (k) O.aB V hs) fun a w O U=>?_;have O:=O.d [1];obtain⟨g,rfl⟩:∃g,f=g+1:=⟨f - 1,V⟩;have tF:=Hn hkm;refine Zv 0 ?_;exact⟨(g,aj+k,out,v),⟨⟨(Ey V (by rw[Fz aF aT,hkm])).symm.trans hr,V,V,V⟩,O,U.su⟩,by dsimp only;omega⟩
     ·refine Yc 1 (Y_ _ _) fun a w O U=>?_;refine Zw 3 fun a U=>?_;refine aZ U (r_ rfl (U.af rfl) (eN _) (fun dV=>((U.af rfl).trans (a6 dV))) rfl) fun a U=>?_;refine Zi 1 (fun a U bl=>?_) fun a U bl=>?_
      ·refine Zv 1 fun a U=>?_;have O:=O.q [1];refine Yc 0 (GC _ _ _ _ 0 O.aB hs V) fun a w O U=>?_;refine Zd 1 [0,0,0,0,1,0,0,0,1,0,0,0,0,3] fun a w O U=>?_;refine Zv 11 fun a U=>?_;refine jY U (fun w=>yv (i:=aj) (j:=aj+bo s aj 0) underlying9 rfl (U.af rfl) (U.af rfl) (U.af rfl) V V) fun a U=>?_;refine Zs 4 fun a w O U=>?_;refine Zd 0 [0,1,2,3] fun w O=>?_;refine Zv 2 fun a U=>?_;refine eg U (dY U rfl rfl (Yv _)) (fun _ _ ⟨_,_,hS⟩=>(O.wc hS).tail) ?_;rintro a _ w ⟨vws,rfl,hS⟩ U;have O:=O.k0 hS;refine jh U (dY U rfl rfl (Kh _ _ _ _ ai (O.bW 0 rfl))) ?_;rintro a _ w ⟨rfl,hS⟩ U;have O:=O.k0 hS;refine Zj 0 (fun bN=>?_) fun bN=>?_
       ·refine Zs 2 fun a w O U=>?_;have O:=(O.d [0]).q [1];have lJ:=vS V bl;exact⟨(⟨7,cQ s aj (bo s aj 0),0,_,_⟩,bo s aj 0),⟨⟨EH aF aT bl (if_pos bN),rfl,rfl,V,V⟩,O,U.su⟩⟩
       ·refine Zi 3 (fun a U db=>?_) fun a U db=>?_
        ·refine Zs 2 fun a w O U=>?_;have O:=(O.d [0]).q [1];have lJ:=vS V bl;exact⟨(⟨8,cQ s aj (bo s aj 0),0,_,_⟩,bo s aj 0),⟨⟨EH aF aT bl ((if_neg bN).trans (if_pos db)),rfl,rfl,V,V⟩,O,U.su⟩⟩
        ·refine Zw 6 fun a U=>?_;refine Zi 0 (fun d_=>?_) fun d_=>?_
         ·refine Zs 2 fun a w O U=>?_;have O:=(O.d [0]).q [1];have lJ:=vS V bl;exact⟨(⟨2,cQ s aj (bo s aj 0),0,_,_⟩,bo s aj 0),⟨⟨EH aF aT bl ((if_neg bN).trans ((if_neg db).trans (if_pos ((JR 65 90).1 d_)))),rfl,rfl,V,V⟩,O,U.su⟩⟩
         ·have O:=(O.d [0]).q [1];have lJ:=vS V bl;refine Zv 0 ?_;exact⟨(⟨1,cQ s aj (bo s aj 0),0,_,_⟩,bo s aj 0),⟨⟨EH aF aT bl ((if_neg bN).trans ((if_neg db).trans (if_neg (fun h=>d_ ((JR 65 90).2 h))))),rfl,rfl,V,V⟩,O,U.su⟩⟩
      ·refine Yc 1 (Cj _ _) fun a w O U=>?_;refine Zj 1 (fun a U eA=>?_) fun a U eA=>?_
       ·refine Zv 1 fun a U=>?_;have O:=O.q [1];refine Yc 0 (GC _ _ _ _ 1 O.aB hs V) fun a w O U=>?_;refine Zs 3 fun a w O U=>?_;refine Zd 0 [0,0,0,0,1,0,0,0,1,0,0,0,0,3] fun w O=>?_;refine Zv 11 fun a U=>?_;refine jY U (fun w=>yv (i:=aj) (j:=aj+bo s aj 1) underlying9 rfl (U.af rfl) (U.af rfl) (U.af rfl) V V) fun a U=>?_;refine Xs 3 [1] fun a w O U=>?_;refine cl (fun (y:Nat×Nat) a w'=>match y with| (k,N)=>(k≤bo s aj 1∧iU ((cQ s aj (bo s aj 1)).drop k) N=iU (cQ s aj (bo s aj 1)) 0∧N≤9223372036854775807)∧St Z [] w' [.ob tk 44 [i64 5,str (cQ s aj (bo s aj 1)),i64 N,i64 (cH s aj).1,i64 (cH s aj).2],.ob br 70 (ig s aj),ax v 44 aM out,.ob dg 31 [str [],i64 0,i64 0,i64 0]]∧Fr a 276 [(0,str s),(3,ptr (aa dg)),(4,ptr (aa br)),(5,v),(7,ptr (aa tk)),(8,i64 (bo s aj 1:Nat)),(10,i64 k)]) (fun (y:Nat×Nat)=>match y with| (k,N)=>bo s aj 1 - k) (0,0) ⟨⟨V,rfl,V⟩,O,U.su⟩ ?_;rintro⟨k,N⟩ a w ⟨⟨hk,hN,hNm⟩,O,U⟩;refine Zi 3 (fun a U gE=>?_) fun a U gE=>?_
        ·have hdg:=af3 (s:=s) (aj:=aj) (k:=k) V;refine Zv 3 fun a U=>?_;refine aZ U (iG (m:=k) underlying9 rfl (U.af rfl) (U.af rfl) (E4 V V)) fun a U=>?_;refine aZ U (XD rfl (U.af rfl) (U.af rfl) V) fun a U=>?_;refine aZ U (Fw underlying5 underlying3 rfl (U.af rfl) (IntWalk.i64_in _ V)) fun a U=>?_;refine Zv 5 fun a U=>?_;refine aZ U (ara rfl (U.af rfl) (U.af rfl) ai (amj hdg)) fun a U=>?_;refine Zi 1 (fun a U ic=>?_) fun a U ic=>?_
         ·refine Zv 1 fun a U=>?_;have O:=O.q [1];refine Yc 0 (Ib _ _ _ _ O.aB _) fun a w O U=>?_;refine Zs 4 fun a w O U=>?_;refine dv ?_;refine dI ?_;refine dv ?_;refine dv ?_;refine dI ?_;refine dI ?_;refine dv ?_;refine dI ?_;refine dv ?_;refine dI ?_;refine dv ?_;refine qp U rfl rfl rfl isAgg31 sizeOf31 (O.cells 3 rfl) rfl ?_;obtain⟨g,rfl⟩:∃g,f=g+1:=⟨f - 1,V⟩;exact⟨_,[],_,B2 V hr V (by rw[Hz aF aT bl eA,←hN,alw (E4 V V) hdg ic]),rfl,(O.eI 44 5).only⟩
         ·have hN2:=arp hdg ic;refine Zv 2 fun a U=>?_;refine aZ U (Wz rfl (U.af rfl) (U.af rfl) V) fun a U=>?_;refine Zs 7 fun a w O U=>?_;have O:=O.eq (congrArg (fun x:Int=>[an.ob tk 44 [i64 5,str (cQ s aj (bo s aj 1)),i64 x,i64 (cH s aj).1,i64 (cH s aj).2],.ob br 70 (ig s aj),ax v 44 aM out,.ob dg 31 [str [],i64 0,i64 0,i64 0]]) (aiP hdg));exact⟨(k+1,10 * N+(((cQ s aj (bo s aj 1)).getD k 0).toNat - 48)),⟨⟨V,(aaE (E4 V V) hdg ic).symm.trans hN,V⟩,O,U.su⟩,by dsimp only;omega⟩
        ·have lJ:=JU V eA;refine Zv 0 ?_;exact⟨(⟨5,cQ s aj (bo s aj 1),N,_,_⟩,bo s aj 1),⟨⟨(by rw[Hz aF aT bl eA,←hN,an2 (by rw[qW V];omega)]),rfl,rfl,V,V⟩,O,U.su⟩⟩
       ·refine Yc 1 (RZ _ _) fun a w O U=>?_;refine Zj 1 (fun a U lE=>?_) fun a U lE=>?_
        ·refine Zv 1 fun a U=>?_;have O:=O.q [1];refine Yc 0 (GC _ _ _ _ 2 O.aB hs V) fun a w O U=>?_;refine Zd 1 [0,0,0,0,1,0,0,0,1,0,0,0,0,3] fun a w O U=>?_;refine Zv 11 fun a U=>?_;refine jY U (fun w=>yv (i:=aj) (j:=aj+bo s aj 2) underlying9 rfl (U.af rfl) (U.af rfl) (U.af rfl) V V) fun a U=>?_;refine Xs 4 [1] fun a w O U=>?_;refine cl (fun (y:Nat×Bool) a w'=>match y with| (k,m)=>(k≤bo s aj 2∧m=((cQ s aj (bo s aj 2)).take k).all (fun c=>c=45))∧St Z [] w' [.ob tk 44 [i64 0,str (cQ s aj (bo s aj 2)),i64 0,i64 (cH s aj).1,i64 (cH s aj).2],.ob br 70 (ig s aj),ax v 44 aM out,.ob dg 31 [str [],i64 0,i64 0,i64 0]]∧Fr a 276 [(0,str s),(3,ptr (aa dg)),(4,ptr (aa br)),(5,v),(6,.int .u8 (gt s aj).toNat),(7,ptr (aa tk)),(8,i64 (bo s aj 2:Nat)),(12,.bool m),(13,i64 k)]) (fun (y:Nat×Bool)=>match y with| (k,m)=>bo s aj 2 - k) (0,true) ⟨⟨V,aw⟩,O,U.su⟩ ?_;rintro⟨k,m⟩ a w ⟨⟨hk,hm⟩,O,U⟩;refine Zi 3 (fun a U xV=>?_) fun a U xV=>?_
         ·refine Zw 5 fun a U=>?_;refine cG U rfl rfl rfl rfl rfl rfl (fun hg=>iG (m:=k) underlying9 rfl ((U.af rfl).trans (a6 hg)) ((U.af rfl).trans (a6 hg)) (E4 V V)) fun a U=>?_;refine Zw 1 fun a U=>?_;refine aZ U (j3 rfl (U.af rfl) (eN _) (fun dV=>((U.af rfl).trans (a6 dV))) rfl) fun a U=>?_;refine Zv 4 fun a U=>?_;exact⟨(k+1,decide (m=true∧(((cQ s aj (bo s aj 2)).getD k 0).toNat:Int)=45)),⟨⟨V,ad0 (E4 V V) hm⟩,O,U.su⟩,by dsimp only;omega⟩
         ·refine Zw 4 fun a U=>?_;refine aZ U (j3 rfl (U.af rfl) (eN _) (fun dV=>((U.af rfl).trans (a6 dV))) rfl) fun a U=>?_;refine Zi 0 (fun uB=>?_) fun uB=>?_
          ·refine Zv 2 fun a U=>?_;have O:=O.q [1];refine Yc 0 (GC _ _ _ _ 3 O.aB hs V) fun a w O U=>?_;refine Yc 0 (H_ _ _ _ _ (bo s aj 3) O.aB V hs) fun a w O U=>?_;have O:=O.d [1];obtain⟨g,rfl⟩:∃g,f=g+1:=⟨f - 1,V⟩;have hr3:=OZ V lE;refine Zv 0 ?_;exact⟨(g,aj+bo s aj 3,out,v),⟨⟨(Ey V (SI aF aT bl eA lE ⟨(Iu (by rw[qW V];omega) hm).symm.trans uB.1,by have:=uB.2;omega⟩)).symm.trans hr,V,V,V⟩,O,U.su⟩,by dsimp only;omega⟩
          ·refine Zs 2 fun a w O U=>?_;refine Zd 0 [0,1,2,3] fun w O=>?_;refine Zv 2 fun a U=>?_;refine eg U (dY U rfl rfl (agh _)) (fun _ _ ⟨_,_,hS⟩=>(O.wc hS).tail) ?_;rintro a _ w ⟨vws,rfl,hS⟩ U;have O:=O.k0 hS;refine jh U (dY U rfl rfl (Kh _ _ _ _ ai (O.bW 0 rfl))) ?_;rintro a _ w ⟨rfl,hS⟩ U;have O:=O.k0 hS;refine Zj 0 (fun GY=>?_) fun GY=>?_
           ·refine Zs 2 fun a w O U=>?_;have O:=O.d [0];have lJ:=yW V lE;have hnm:¬((cQ s aj (bo s aj 2)).all (fun c=>c=45)=true∧2≤bo s aj 2):=fun h=>uB ⟨(Iu (by rw[qW V];omega) hm).trans h.1,by have:=h.2;omega⟩;exact⟨(⟨8,cQ s aj (bo s aj 2),0,_,_⟩,bo s aj 2),⟨⟨F2 aF aT bl eA lE hnm (if_pos GY),rfl,rfl,V,V⟩,O,U.su⟩⟩
           ·refine Zi 2 (fun a U Lr=>?_) fun a U Lr=>?_
            ·refine Zs 2 fun a w O U=>?_;have O:=O.d [0];have lJ:=yW V lE;have hnm:¬((cQ s aj (bo s aj 2)).all (fun c=>c=45)=true∧2≤bo s aj 2):=fun h=>uB ⟨(Iu (by rw[qW V];omega) hm).trans h.1,by have:=h.2;omega⟩;exact⟨(⟨4,cQ s aj (bo s aj 2),0,_,_⟩,bo s aj 2),⟨⟨F2 aF aT bl eA lE hnm ((if_neg GY).trans (if_pos (oY 58 rfl Lr))),rfl,rfl,V,V⟩,O,U.su⟩⟩
            ·have O:=O.d [0];have lJ:=yW V lE;have hnm:¬((cQ s aj (bo s aj 2)).all (fun c=>c=45)=true∧2≤bo s aj 2):=fun h=>uB ⟨(Iu (by rw[qW V];omega) hm).trans h.1,by have:=h.2;omega⟩;refine Zv 0 ?_;exact⟨(⟨3,cQ s aj (bo s aj 2),0,_,_⟩,bo s aj 2),⟨⟨F2 aF aT bl eA lE hnm ((if_neg GY).trans (if_neg (q6 58 rfl Lr))),rfl,rfl,V,V⟩,O,U.su⟩⟩
        ·refine Zv 1 fun a U=>?_;refine eP U (dY U rfl rfl (O0 _ _ _ ai)) ?_;rintro a _ w ⟨rfl,hS⟩ U;have O:=O.k0 hS;refine Zj 1 (fun a U EN=>?_) fun a U EN=>?_
         ·refine Zs 2 fun a w O U=>?_;refine Zd 0 [0,0,0,0,1,0,0,0,1,0,0,0,3] fun w O=>?_;refine Zv 10 fun a U=>?_;refine jY U (fun w=>yv (i:=aj) (j:=aj+1) underlying9 rfl (U.af rfl) (U.af rfl) (U.af rfl) V V) fun a U=>?_;refine Zs 2 fun a w O U=>?_;exact⟨(⟨8,cQ s aj 1,0,_,_⟩,1),⟨⟨Ra aF aT bl eA lE EN,rfl,rfl,V,V⟩,O,U.su⟩⟩
         ·refine Zi 3 (fun a U Gg=>?_) fun a U Gg=>?_
          ·refine Xs 3 [1] fun a w O U=>?_;refine Yc 0 (ajT _ _ _ _ O.aB hs V) fun tt tn htx a w O U=>?_;refine Zs 8 fun a w O U=>?_;refine Zi 0 (fun LM=>?_) fun LM=>?_
           ·refine Yc 1 (Ib _ _ _ _ O.aB _) fun a w O U=>?_;refine Zs 4 fun a w O U=>?_;refine dI ?_;refine dv ?_;refine dI ?_;refine dv ?_;refine dI ?_;refine dv ?_;refine qp U rfl rfl rfl isAgg31 sizeOf31 (O.cells 3 rfl) rfl ?_;obtain⟨g,rfl⟩:∃g,f=g+1:=⟨f - 1,V⟩;exact⟨_,[],_,B2 V hr V (by rw[Iq aF aT bl eA lE EN Gg,Vt htx LM]),rfl,(O.eI 44 5).only⟩
           ·obtain⟨k,hkm,rfl⟩:=Xz s aj htx LM;have O:=O.q [1];have tF:=JF hkm;refine Zv 0 ?_;exact⟨(⟨6,tt,0,_,_⟩,k),⟨⟨(by rw[Iq aF aT bl eA lE EN Gg,hkm]),rfl,rfl,V,V⟩,O,U.su⟩⟩
          ·refine Zv 1 fun a U=>?_;have O:=O.q [1];refine Yc 0 (Ib _ _ _ _ O.aB _) fun a w O U=>?_;refine Zs 4 fun a w O U=>?_;refine dI ?_;refine dv ?_;refine dI ?_;refine dv ?_;refine dI ?_;refine dv ?_;refine qp U rfl rfl rfl isAgg31 sizeOf31 (O.cells 3 rfl) rfl ?_;obtain⟨g,rfl⟩:∃g,f=g+1:=⟨f - 1,V⟩;exact⟨_,[],_,B2 V hr V (TX aF aT bl eA lE EN Gg),rfl,(O.eI 44 5).only⟩
   ·rintro⟨t,n⟩ a w ⟨⟨hlex,hline,hcol,EI,XR⟩,O,U⟩;refine Zv 2 fun a U=>?_;have O:=O.q [1];refine Yc 0 (H_ _ _ _ _ (n) O.aB V hs) fun a w O U=>?_;refine Zb 3 fun b1 a w O U=>?_;refine eP U (iJ (bytes:=48) (r:=[t]) O (i:=3) rfl (O.rd 0 rfl) underlying22 pV rfl rfl rfl rfl rfl rfl (U.af rfl) (U.af rfl) (by show (List.length _+1) * 48≤_;omega) (by show List.length _+1≤_;omega)) ?_;rintro a asp w O U;have O:=O.nm;refine Zv 1 fun a U=>?_;have O:=O.d [0,1];obtain⟨g,rfl⟩:∃g,f=g+1:=⟨f - 1,V⟩;exact⟨(g,aj+n,out++[t],_),⟨⟨(ahp V hlex hline hcol).symm.trans hr,V,V,by simp;omega⟩,O,U.su⟩,by dsimp only;omega⟩
  ·refine Zd 0 [0,0,0,0,1,0,0,0,1,0,2,3,0,0,3] fun w O=>?_;refine Zv 10 fun a U=>?_;refine eg U (kH U O underlying22 sizeOf44 zeroValue44 rfl rfl rfl rfl rfl rfl rfl) (fun _ _ ⟨_,_,O⟩=>O.tail) ?_;rintro a _ w ⟨b2,rfl,O⟩ U;refine jh U (iJ (bytes:=48) (r:=[⟨9,[],0,(cH s aj).1,(cH s aj).2⟩]) O (i:=2) rfl (O.rd 0 rfl) underlying22 pV rfl rfl rfl rfl rfl rfl (U.af rfl) (U.af rfl) (by show (List.length _+1) * 48≤_;omega) (by show List.length _+1≤_;omega)) ?_;rintro a atL w O U;have O:=O.nm;refine Zs 3 fun a w O U=>?_;refine qp U rfl rfl rfl isAgg31 sizeOf31 (O.cells 3 rfl) rfl ?_;exact⟨_,_,_,RC ay hf hal hr hs,rfl,(O.pull 2 rfl).only⟩
structure cW where
 sort:List UInt8
 bh:Int
 deriving DecidableEq
def fx:fp cW where
 size:=2
 cells t:=[str t.sort,i64 t.bh]
 len _:=rfl
 one t u hu:=by
  simp only[iS,jD,or_false] at hu;rcases hu with rfl|rfl<;>rfl
def eR:cW:=⟨[],0⟩
def oO:Tok:=⟨0,[],0,0,0⟩
def apn:List UInt8:=[119,104,101,114,101]
def zx:List UInt8:=[108,101,116]
def wDo:List UInt8:=[100,111]
def Ml:List UInt8:=[111,102]
def re:List UInt8:=[116,104,101,110]
def Uw:List UInt8:=[101,108,115,101]
def D3:List UInt8:=[105,110]
def Um:List UInt8:=[105,102]
def Uq:List UInt8:=[99,97,115,101]
def dw (t:Tok):List UInt8:=if t.kind=7∨t.kind=8 then t.text else []
def mY (w:List UInt8):Prop:=((w=apn∨w=zx)∨w=wDo)∨w=Ml
instance (w:List UInt8):Decidable (mY w):=by unfold mY;infer_instance
def qe (w:List UInt8):Prop:=((((((w=[41]∨w=[93])∨w=[125])∨w=[44])∨w=re)∨w=Uw)∨w=Ml)∨w=D3
instance (w:List UInt8):Decidable (qe w):=by unfold qe;infer_instance
def uZ (x:cW):Prop:=x.sort=[]∨x.sort=zx
instance (x:cW):Decidable (uZ x):=by unfold uZ;infer_instance
def fB (text:List UInt8)(t:Tok):Tok:=⟨8,text,1,t.line,t.bh⟩
def fj (st:List cW):Nat→Int
 |0=> -1
 |i+1=>if (st.getD i eR).sort=[] then i else if (st.getD i eR).sort=[123,125] then -1 else fj st i
def yg (st:List cW)(aj:Nat):Bool:=(st.drop (aj+1)).all fun x=>decide (uZ x)
def iR (t:Tok)(bh:Int):Nat→List Tok→List cW→Option (List Tok×List cW)
 |0,_,_=>none
 |f+1,out,st=>
  let b:=fj st st.length
  let c:=(st.getD b.toNat eR).bh
  if b<0∨c<bh then some (out,st)
  else if bh=c∧qe (dw t) then some (out,st)
  else if yg st b.toNat=false then none
  else if bh=c then some (out++[fB [59] t],st.take (b.toNat+1))
  else iR t bh f (out++[fB [125] t]) (st.take b.toNat)
def pE (x w:List UInt8):Bool:=
 if w=[41] then decide (x=[40])
 else if w=[93] then decide (x=[91])
 else if w=[125] then decide (x=[123]∨x=[123,125])
 else if w=[44] then decide ((x=[40]∨x=[91])∨x=[123])
 else if w=re then decide (x=Um)
 else if w=Uw then decide (x=re)
 else if w=Ml then decide (x=Uq)
 else decide (w=D3∧x=zx)
def kV (st:List cW)(w:List UInt8):Nat→Nat
 |0=>0
 |x+1=>if (st.getD x eR).sort=[]∨((st.getD x eR).sort=zx∧¬w=D3) then kV st w x else x+1
def kW (t:Tok)(out:List Tok)(st:List cW):List Tok×List cW:=
 let w:=dw t
 if ¬qe w then (out,st) else
 let n:=kV st w st.length
 if n=0∨pE (st.getD (n - 1) eR).sort w=false then (out,st) else
 let out':=out++((st.drop n).filter fun x=>decide (x.sort=[])).map fun _=>fB [125] t
 if w=re then (out',(st.take n).set (n - 1) ⟨re,(st.getD (n - 1) eR).bh⟩)
 else if ¬w=[44] then (out',st.take (n - 1))
 else (out',st.take n)
def A6 (w:List UInt8):Prop:=((((w=[40]∨w=[91])∨w=[123])∨w=Um)∨w=Uq)∨w=zx
instance (w:List UInt8):Decidable (A6 w):=by unfold A6;infer_instance
def sB (t:Tok)(out:List Tok)(st:List cW):List Tok×List cW×Bool:=
 let b:=fj st st.length
 let m:=if 0≤b then (st.getD b.toNat eR).bh else 0
 if m<t.bh then (out++[fB [123] t],st++[⟨[],t.bh⟩],true) else (out++[fB [123] t]++[fB [125] t],st,false)
def qb (t ahead:Tok)(first:Bool)(out:List Tok)(st:List cW):Option (List Tok×List cW):=
 if mY (dw ahead)∧dw t=[123] then some (out++[t],st++[⟨[123,125],0⟩]) else
 let o:=if mY (dw ahead) then sB t out st else (out,st,false)
 match (if first=true∧o.2.2=false then iR t t.bh (o.2.1.length+1) o.1 o.2.1 else some (o.1,o.2.1)) with
 |none=>none
 |some (out,st)=>
  let c:=kW t out st
  some (c.1++[t],if A6 (dw t) then c.2++[⟨dw t,0⟩] else c.2)
def m_:List Tok→Tok→Bool→List Tok→List cW→Option (List Tok×List cW) ⊕ Tok
 | [],_,_,out,st=>.inl (some (out,st))
 |t::r,ahead,first,out,st=>match qb t ahead (first||decide (ahead.line<t.line)) out st with
  |none=>.inr t
  |some (out,st)=>m_ r t false out st
def lW:List Tok→Tok→List Tok×Tok
 | [],e=>([],e)
 |t::r,_=>if t.kind=9 then ([],t) else let s:=lW r ⟨9,[],0,t.line,t.bh⟩;(t::s.1,s.2)
def wQ (t:Tok):fI:=⟨[],t.line,t.bh,20⟩
def nj (ts:List Tok):List Tok×fI:=
 let s:=lW ts ⟨9,[],0,1,1⟩
 match m_ s.1 oO true [] [] with
 | .inr t=>([],wQ t)
 | .inl none=>([],.ok)
 | .inl (some (out,st))=>
  let out:=if mY (dw (s.1.getLastD oO)) then out++[fB [123] s.2]++[fB [125] s.2] else out
  match iR s.2 0 (st.length+1) out st with
  |none=>([],wQ s.2)
  |some (out,_)=>(out++[s.2],.ok)
def A0 (Z:World)(t:Tok):aH prog 43 #[.agg (aM.cells t).toArray] Z (fun v w'=>v=str (dw t)∧St Z [] w' []):=by
 have O:=St.bL Z;refine aS func43 ntmps43 fun a U=>?_;refine Zb 6 fun b1 a w O U=>?_;refine Zw 4 fun a U=>?_;refine Zi 0 (fun ao=>?_) fun ao=>?_
 ·refine Zr 3 ?_;have O:=O.d [0];exact⟨congrArg str (if_pos ao).symm,O⟩
 ·refine Zr 1 ?_;have O:=O.d [0];exact⟨congrArg str (if_neg ao).symm,O⟩
def Uh (Z:World)(w:List UInt8):aH prog 42 #[str w] Z (fun v w'=>v=.bool (decide (mY w))∧St Z [] w' []):=by
 have O:=St.bL Z;refine aS func42 ntmps42 fun a U=>?_;refine Zw 16 fun a U=>?_;refine Zr 0 ?_;exact⟨congrArg Value.bool (decide_eq_decide.2 Iff.rfl),O⟩
def RQ (Z:World)(w:List UInt8):aH prog 94 #[str w] Z (fun v w'=>v=.bool (decide (qe w))∧St Z [] w' []):=by
 have O:=St.bL Z;refine aS func94 ntmps94 fun a U=>?_;refine Zw 32 fun a U=>?_;refine Zr 0 ?_;exact⟨congrArg Value.bool (decide_eq_decide.2 Iff.rfl),O⟩
def Z9 (Z:World)(x:cW):aH prog 134 #[.agg (fx.cells x).toArray] Z (fun v w'=>v=.bool (decide (uZ x))∧St Z [] w' []):=by
 have O:=St.bL Z;refine aS func134 ntmps134 fun a U=>?_;refine Zb 6 fun b1 a w O U=>?_;refine Zw 5 fun a U=>?_;refine Zr 0 ?_;have O:=O.d [0];exact⟨congrArg Value.bool (decide_eq_decide.2 Iff.rfl),O⟩
def ak8 (Z:World)(x w:List UInt8):aH prog 133 #[str x,str w] Z (fun v w'=>v=.bool (pE x w)∧St Z [] w' []):=by
 have O:=St.bL Z;refine aS func133 ntmps133 fun a U=>?_;refine Zi 4 (fun a U ao=>?_) fun a U ao=>?_
 ·refine Zr 3 ?_;have e:pE x w=_:=(if_pos ao);exact⟨congrArg Value.bool (e.trans (decide_eq_decide.2 Iff.rfl)).symm,O⟩
 ·refine Zi 2 (fun a U ay=>?_) fun a U ay=>?_
  ·refine Zr 3 ?_;have e:pE x w=_:=(if_neg ao).trans ((if_pos ay));exact⟨congrArg Value.bool (e.trans (decide_eq_decide.2 Iff.rfl)).symm,O⟩
  ·refine Zi 2 (fun a U aF=>?_) fun a U aF=>?_
   ·refine Zw 7 fun a U=>?_;refine Zr 0 ?_;have e:pE x w=_:=(if_neg ao).trans ((if_neg ay).trans ((if_pos aF)));exact⟨congrArg Value.bool (e.trans (decide_eq_decide.2 Iff.rfl)).symm,O⟩
   ·refine Zi 2 (fun a U aT=>?_) fun a U aT=>?_
    ·refine Zw 11 fun a U=>?_;refine Zr 0 ?_;have e:pE x w=_:=(if_neg ao).trans ((if_neg ay).trans ((if_neg aF).trans ((if_pos aT))));exact⟨congrArg Value.bool (e.trans (decide_eq_decide.2 Iff.rfl)).symm,O⟩
    ·refine Zi 2 (fun a U bm=>?_) fun a U bm=>?_
     ·refine Zr 3 ?_;have e:pE x w=_:=(if_neg ao).trans ((if_neg ay).trans ((if_neg aF).trans ((if_neg aT).trans ((if_pos bm)))));exact⟨congrArg Value.bool (e.trans (decide_eq_decide.2 Iff.rfl)).symm,O⟩
     ·refine Zi 2 (fun a U bl=>?_) fun a U bl=>?_
      ·refine Zr 3 ?_;have e:pE x w=_:=(if_neg ao).trans ((if_neg ay).trans ((if_neg aF).trans ((if_neg aT).trans ((if_neg bm).trans ((if_pos bl))))));exact⟨congrArg Value.bool (e.trans (decide_eq_decide.2 Iff.rfl)).symm,O⟩
      ·refine Zi 2 (fun a U bN=>?_) fun a U bN=>?_
       ·refine Zr 3 ?_;have e:pE x w=_:=(if_neg ao).trans ((if_neg ay).trans ((if_neg aF).trans ((if_neg aT).trans ((if_neg bm).trans ((if_neg bl).trans ((if_pos bN)))))));exact⟨congrArg Value.bool (e.trans (decide_eq_decide.2 Iff.rfl)).symm,O⟩
       ·refine Zw 7 fun a U=>?_;refine Zr 0 ?_;have e:pE x w=_:=(if_neg ao).trans ((if_neg ay).trans ((if_neg aF).trans ((if_neg aT).trans ((if_neg bm).trans ((if_neg bl).trans ((if_neg bN)))))));exact⟨congrArg Value.bool (e.trans (decide_eq_decide.2 Iff.rfl)).symm,O⟩
def zf (Z:World)(bs:Nat)(vo vs:Value)(out:List Tok)(dd:fI)(hA:bT Z [.ob bs 85 (vo::vs::dZ dd),ax vo 44 aM out])(text:List UInt8)(t:Tok)(hn:out.length≤2000000000000):aH prog 44 #[ptr (aa bs),str text,.agg (aM.cells t).toArray] Z (fun v w'=>∃v2,v=.tuple #[]∧St Z (az [.ob bs 85 (vo::vs::dZ dd),ax vo 44 aM out]) w' [.ob bs 85 (v2::vs::dZ dd),ax v2 44 aM (out++[fB text t])]):=by
 have O:=St.init hA;refine aS func44 ntmps44 fun a U=>?_;refine Zb 1 fun b1 a w O U=>?_;refine Zd 0 [0,0,0,0,1,0,0,1,0,1,0,2,3,0,0,3] fun w O=>?_;refine Zv 11 fun a U=>?_;refine eg U (kH U O underlying22 sizeOf44 zeroValue44 rfl rfl rfl rfl rfl rfl rfl) (fun _ _ ⟨_,_,O⟩=>O.tail) ?_;rintro a _ w ⟨b2,rfl,O⟩ U;refine jh U (iJ (bytes:=48) (r:=[fB text t]) O (i:=3) rfl (O.rd 0 rfl) underlying22 pV rfl rfl rfl rfl rfl rfl (U.af rfl) (U.af rfl) (by show (List.length _+1) * 48≤_;omega) (by show List.length _+1≤_;omega)) ?_;rintro a v18 w O U;have O:=O.nm;refine Zs 3 fun a w O U=>?_;refine Zr 0 ?_;have O:=O.d [0,0];exact⟨_,rfl,O⟩
def SW (st:List cW):∀n,fj st n<n
 |0=>by simp [fj]
 |n+1=>by
  unfold fj;have:=SW st n
  split
  ·omega
  ·split<;>omega
def Er {st:List cW}{b:Nat}(h:fj st st.length=(b:Int)):b<st.length:=by have:=SW st st.length;omega
def aeF {st:List cW}{k:Nat}{x:cW}(h0:0<k)(hx:st[k - 1]?=some x)(h:x.sort=[]):fj st k=(k:Int) - 1:=by
 obtain⟨m,rfl⟩:∃m,k=m+1:=⟨k - 1,V⟩;have e:st.getD m eR=x:=by rw[List.getD_eq_getElem?_getD];rw[Nat.add_sub_cancel] at hx;rw[hx];rfl
 rw[fj,e,if_pos h];omega
def anG {st:List cW}{k:Nat}{x:cW}(h0:0<k)(hx:st[k - 1]?=some x)(h:¬x.sort=[])(h2:x.sort=[123,125]):fj st k= -1:=by
 obtain⟨m,rfl⟩:∃m,k=m+1:=⟨k - 1,V⟩;have e:st.getD m eR=x:=by rw[List.getD_eq_getElem?_getD];rw[Nat.add_sub_cancel] at hx;rw[hx];rfl
 rw[fj,e,if_neg h,if_pos h2]
def apD {st:List cW}{k:Nat}{x:cW}(h0:0<k)(hx:st[k - 1]?=some x)(h:¬x.sort=[])(h2:¬x.sort=[123,125]):fj st k=fj st (k - 1):=by
 obtain⟨m,rfl⟩:∃m,k=m+1:=⟨k - 1,V⟩;have e:st.getD m eR=x:=by rw[List.getD_eq_getElem?_getD];rw[Nat.add_sub_cancel] at hx;rw[hx];rfl
 rw[fj,e,if_neg h,if_neg h2];rfl
def Re (Z:World)(bs:Nat)(vo vs:Value)(st:List cW)(dd:fI)(hA:bT Z [.ob bs 85 (vo::vs::dZ dd),ax vs 115 fx st])(hn:st.length≤2000000000000):aH prog 92 #[ptr (aa bs)] Z (fun v w'=>v=i64 (fj st st.length)∧St Z (az [.ob bs 85 (vo::vs::dZ dd),ax vs 115 fx st]) w' [.ob bs 85 (vo::vs::dZ dd),ax vs 115 fx st]):=by
 have O:=St.init hA;refine aS func92 ntmps92 fun a U=>?_;refine Zg 5 (bA (O.rd 1 rfl)) fun a U=>?_;refine Zv 2 fun a U=>?_;refine cl (fun (k:Nat) a w'=>(k≤st.length∧fj st k=fj st st.length)∧St Z (az [.ob bs 85 (vo::vs::dZ dd),ax vs 115 fx st]) w' [.ob bs 85 (vo::vs::dZ dd),ax vs 115 fx st]∧Fr a 33 [(0,ptr (aa bs)),(3,i64 ((k:Int) - 1))]) (fun (k:Nat)=>k) st.length ⟨⟨V,rfl⟩,O,U.su⟩ ?_;rintro k a w ⟨⟨hk,hr⟩,O,U⟩;refine Zi 2 (fun a U ao=>?_) fun a U ao=>?_
 ·obtain⟨x,hx⟩:=dM (l:=st) (i:=k - 1) V;refine Zv 5 fun a U=>?_;refine aZ U (iK (i:=k - 1) (O.rd 1 rfl) underlying83 sizeOf115 rfl (U.af rfl) ((U.af rfl).trans (congrArg i64 (show (k:Int) - 1=((k - 1:Nat):Int) by omega))) V) fun a U=>?_;refine Zh 1 (O.bW 1 rfl) hx fun a U=>?_;refine Zi 1 (fun a U ay=>?_) fun a U ay=>?_
  ·refine Zr 2 ?_;exact⟨congrArg i64 ((aeF V hx ay).symm.trans hr),O⟩
  ·refine Zv 5 fun a U=>?_;refine aZ U (iK (i:=k - 1) (O.rd 1 rfl) underlying83 sizeOf115 rfl (U.af rfl) ((U.af rfl).trans (congrArg i64 (show (k:Int) - 1=((k - 1:Nat):Int) by omega))) V) fun a U=>?_;refine Zh 1 (O.bW 1 rfl) hx fun a U=>?_;refine Zi 1 (fun a U aF=>?_) fun a U aF=>?_
   ·refine Zr 1 ?_;exact⟨congrArg i64 ((anG V hx ay aF).symm.trans hr),O⟩
   ·refine Zv 3 fun a U=>?_;exact⟨k - 1,⟨⟨V,(apD V hx ay aF).symm.trans hr⟩,O,U.sub ⟨rfl,(congrArg some (congrArg i64 (show (k:Int) - 1 - 1=((k - 1:Nat):Int) - 1 by omega))),trivial⟩⟩,V⟩
 ·refine Zr 1 ?_;obtain rfl:k=0:=V
  exact⟨congrArg i64 hr,O⟩
def akY {st:List cW}{k aj:Nat}{x:cW}(hk:aj<k)(hx:st[k]?=some x)(h:¬uZ x):yg st aj=false:=by
 unfold yg;rw[List.all_eq_false];refine⟨x,?_,by simpa using h⟩;have:(st.drop (aj+1))[k - (aj+1)]?=some x:=by rw[List.getElem?_drop,show aj+1+(k - (aj+1))=k by omega,hx]
 exact bV this
def aa3 {st:List cW}{k aj:Nat}{x:cW}(hk:aj<k)(hx:st[k]?=some x)(h:¬¬uZ x)(hn:((st.take k).drop (aj+1)).all (fun x=>decide (uZ x))=true):((st.take (k+1)).drop (aj+1)).all (fun x=>decide (uZ x))=true:=by
 have hkl:k<st.length:=(List.getElem?_eq_some_iff.1 hx).1;rw[List.take_add_one,hx,List.drop_append_of_le_length (by rw[gW];omega),List.all_append,hn]
 simpa using Classical.not_not.1 h
def aj7 (Z:World)(bs:Nat)(vo vs:Value)(st:List cW)(dd:fI)(hA:bT Z [.ob bs 85 (vo::vs::dZ dd),ax vs 115 fx st])(hn:st.length≤2000000000000)(aj:Nat)(ha:aj<st.length):aH prog 95 #[ptr (aa bs),i64 aj] Z (fun v w'=>v=.bool (yg st aj)∧St Z (az [.ob bs 85 (vo::vs::dZ dd),ax vs 115 fx st]) w' [.ob bs 85 (vo::vs::dZ dd),ax vs 115 fx st]):=by
 have O:=St.init hA;refine aS func95 ntmps95 fun a U=>?_;refine Zv 4 fun a U=>?_;refine cl (fun (k:Nat) a w'=>(aj<k∧k≤st.length∧((st.take k).drop (aj+1)).all (fun x=>decide (uZ x))=true)∧St Z (az [.ob bs 85 (vo::vs::dZ dd),ax vs 115 fx st]) w' [.ob bs 85 (vo::vs::dZ dd),ax vs 115 fx st]∧Fr a 26 [(0,ptr (aa bs)),(5,i64 k)]) (fun (k:Nat)=>st.length - k) (aj+1) ⟨⟨V,V,by rw[List.drop_of_length_le (by rw[gW];omega)];rfl⟩,O,U.su⟩ ?_;rintro k a w ⟨⟨hak,hk,hr⟩,O,U⟩;refine Zg 5 (bA (O.rd 1 rfl)) fun a U=>?_;refine Zi 1 (fun a U ao=>?_) fun a U ao=>?_
 ·obtain⟨x,hx⟩:=dM (l:=st) (i:=k) V;refine Zg 5 (bw k (O.rd 1 rfl) V) fun a U=>?_;refine Zh 0 (O.bW 1 rfl) hx fun a U=>?_;refine Yc 0 (Z9 _ _) fun a w O U=>?_;refine Zi 1 (fun a U ay=>?_) fun a U ay=>?_
  ·refine Zr 1 ?_;exact⟨congrArg Value.bool (akY hak hx ay).symm,O⟩
  ·refine Zv 3 fun a U=>?_;exact⟨k+1,⟨⟨V,V,aa3 hak hx ay hr⟩,O,U.su⟩,V⟩
 ·refine Zr 1 ?_;obtain rfl:k=st.length:=V
  rw[List.take_of_length_le V] at hr;exact⟨congrArg Value.bool hr.symm,O⟩
section
variable {t:Tok} {bh:Int} {g b:Nat} {out:List Tok} {st:List cW}
def aox (h:fj st st.length<0∨(st.getD (fj st st.length).toNat eR).bh<bh):iR t bh (g+1) out st=some (out,st):=by
 unfold iR;simp only[];rw[if_pos h]
def afQ (hb:fj st st.length=(b:Int))(h1:¬((b:Int)<0∨(st.getD b eR).bh<bh))(h2:bh=(st.getD b eR).bh∧qe (dw t)):iR t bh (g+1) out st=some (out,st):=by
 unfold iR;simp only[hb,Int.toNat_natCast];rw[if_neg h1,if_pos h2]
def ahI (hb:fj st st.length=(b:Int))(h1:¬((b:Int)<0∨(st.getD b eR).bh<bh))(h2:¬(bh=(st.getD b eR).bh∧qe (dw t)))(h3:¬yg st b=true):iR t bh (g+1) out st=none:=by
 unfold iR;simp only[hb,Int.toNat_natCast];rw[if_neg h1,if_neg h2,if_pos (Bool.eq_false_iff.2 h3)]
def an5 (hb:fj st st.length=(b:Int))(h1:¬((b:Int)<0∨(st.getD b eR).bh<bh))(h2:¬(bh=(st.getD b eR).bh∧qe (dw t)))(h3:¬¬yg st b=true)(h4:bh=(st.getD b eR).bh):
  iR t bh (g+1) out st=some (out++[fB [59] t],st.take (b+1)):=by
 unfold iR;simp only[hb,Int.toNat_natCast];rw[if_neg h1,if_neg h2,if_neg (by simpa using Classical.not_not.1 h3),if_pos h4]
def aiR (hb:fj st st.length=(b:Int))(h1:¬((b:Int)<0∨(st.getD b eR).bh<bh))(h2:¬(bh=(st.getD b eR).bh∧qe (dw t)))(h3:¬¬yg st b=true)(h4:¬bh=(st.getD b eR).bh):
  iR t bh (g+1) out st=iR t bh g (out++[fB [125] t]) (st.take b):=by
 conv=>lhs;unfold iR
 simp only[hb,Int.toNat_natCast];rw[if_neg h1,if_neg h2,if_neg (by simpa using Classical.not_not.1 h3),if_neg h4]
end
set_option maxHeartbeats 1000000 in
def T5 (Z:World)(bs:Nat)(vo0 vs0:Value)(dR:List Tok)(st0:List cW)(dd:fI)(hA:bT Z [.ob bs 85 (vo0::vs0::dZ dd),ax vo0 44 aM dR,ax vs0 115 fx st0])(hn:dR.length+st0.length≤1000000000000)(t:Tok)(bh:Int):aH prog 45 #[ptr (aa bs),.agg (aM.cells t).toArray,i64 bh] Z (fun v w'=>∃(ok:Bool) (vo vs:Value) (out:List Tok) (st:List cW) (d:fI),v=.bool ok∧iR t bh (st0.length+1) dR st0=(if ok=true then some (out,st) else none)∧(ok=false→d=wQ t)∧out.length+st.length≤dR.length+st0.length+1∧St Z (az [.ob bs 85 (vo0::vs0::dZ dd),ax vo0 44 aM dR,ax vs0 115 fx st0]) w' [.ob bs 85 (vo::vs::dZ d),ax vo 44 aM out,ax vs 115 fx st]):=by
 have O:=St.init hA;refine aS func45 ntmps45 fun a U=>?_;refine Zb 2 fun tk a w O U=>?_;refine cl (fun (x:Nat×List Tok×List cW×Value×Value) a w'=>match x with| (f,out,st,vo,vs)=>(iR t bh f out st=iR t bh (st0.length+1) dR st0∧st.length<f∧out.length+st.length≤dR.length+st0.length)∧St Z (az [.ob bs 85 (vo0::vs0::dZ dd),ax vo0 44 aM dR,ax vs0 115 fx st0]) w' [.ob tk 44 (aM.cells t),.ob bs 85 (vo::vs::dZ dd),ax vo 44 aM out,ax vs 115 fx st]∧Fr a 86 [(0,ptr (aa bs)),(2,i64 bh),(4,ptr (aa tk))]) (fun (x:Nat×List Tok×List cW×Value×Value)=>match x with| (f,out,st,vo,vs)=>f) (st0.length+1,dR,st0,vo0,vs0) ⟨⟨rfl,V,V⟩,O,U.su⟩ ?_;rintro⟨f,out,st,vo,vs⟩ a w ⟨⟨hr,hf,hp⟩,O,U⟩;refine Zv 1 fun a U=>?_;have O:=O.q [1,2];refine Yc 0 (Re _ _ _ _ _ _ O.aI V) fun a w O U=>?_;refine Zw 10 fun a U=>?_;refine cG U rfl rfl rfl rfl rfl rfl (fun hg=>iK (i:=(fj st st.length).toNat) (O.rd 1 rfl) underlying83 sizeOf115 rfl ((U.af rfl).trans (a6 hg)) (((U.af rfl).trans (a6 hg)).trans (congrArg i64 ((Int.toNat_of_nonneg (Int.not_lt.1 (vX hg))).symm))) (Er ((Int.toNat_of_nonneg (Int.not_lt.1 (vX hg))).symm))) fun a U=>?_;refine Zw 1 fun a U=>?_;refine cG U rfl rfl rfl rfl rfl rfl (fun hg=>eD isAgg3 rfl ((U.af rfl).trans (a6 hg)) (aG.cells (O.bW 1 rfl) (vZ (d:=eR) (Er (Int.toNat_of_nonneg (Int.not_lt.1 (vX hg))).symm)) _ _ rfl)) fun a U=>?_;refine Zw 2 fun a U=>?_;refine Zi 0 (fun ao=>?_) fun ao=>?_
 ·refine Zr 1 ?_;have O:=(O.d [2]).q [0,1];obtain⟨g,rfl⟩:∃g,f=g+1:=⟨f - 1,V⟩;exact⟨true,_,_,_,_,dd,rfl,hr.symm.trans (aox ao),(fun h=>by cases h),V,O⟩
 ·have OQ:0≤fj st st.length:=by have:=not_or.1 ao;omega
  obtain⟨b,hb⟩:=Int.eq_ofNat_of_zero_le OQ;rw[hb] at U ao;rw[Int.toNat_natCast] at ao;have hbl:=Er hb;refine Zg 6 (bw b (O.rd 1 rfl) V) fun a U=>?_;refine Zh 1 (O.bW 1 rfl) (vZ (d:=eR) hbl) fun a U=>?_;refine Zw 3 fun a U=>?_;refine fS O U rfl rfl rfl rfl rfl rfl (fun hg=>jo U rfl rfl (je trivial) call43 (A0 _ _)) fun a w O U=>?_;refine fS O U rfl rfl rfl rfl rfl rfl (fun hg=>jo U rfl rfl (je trivial) call94 (RQ _ _)) fun a w O U=>?_;refine Zi 1 (fun a U ay=>?_) fun a U ay=>?_
  ·refine Zr 1 ?_;have O:=(O.d [2]).q [0,1];obtain⟨g,rfl⟩:∃g,f=g+1:=⟨f - 1,V⟩;exact⟨true,_,_,_,_,dd,rfl,hr.symm.trans (afQ hb ao ay),(fun h=>by cases h),V,O⟩
  ·refine Yc 2 (aj7 _ _ _ _ _ _ O.aI V _ (hbl)) fun a w O U=>?_;refine Wn 0 fun a U=>?_;refine Zi 0 (fun aF=>?_) fun aF=>?_
   ·refine Zv 8 fun a U=>?_;refine kv U (EK (k:=2) O (i:=0) rfl sizeOf31 rfl (U.af rfl) (U.af rfl) rfl (cX rfl) (fA rfl)) ?_;rintro a _ w ⟨-,O⟩ U;have O:=O.nm;refine Zr 1 ?_;have O:=(O.d [2]).q [0,1];obtain⟨g,rfl⟩:∃g,f=g+1:=⟨f - 1,V⟩;exact⟨false,_,_,_,_,wQ t,rfl,hr.symm.trans (ahI hb ao ay aF),(fun _=>rfl),V,O⟩
   ·refine Zg 6 (bw b (O.rd 1 rfl) V) fun a U=>?_;refine Zh 1 (O.bW 1 rfl) (vZ (d:=eR) hbl) fun a U=>?_;refine Zi 1 (fun a U aT=>?_) fun a U aT=>?_
    ·refine Zv 7 fun a U=>?_;refine aZ U (DP (j:=b+1) (O.rd 1 rfl) underlying83 sizeOf115 rfl (U.af rfl) ((U.af rfl).trans (congrArg i64 (show (b:Int)+1=((b+1:Nat):Int) by omega))) V) fun a U=>?_;have O:=O.FJ (i:=1) (j:=b+1) rfl V;have O:=O.nm;refine Zs 3 fun a w O U=>?_;refine Zv 2 fun a U=>?_;have O:=O.q [0,2];refine Yc 0 (zf _ _ _ _ _ _ O.aI _ _ V) fun vo a w O U=>?_;refine Zr 1 ?_;have O:=O.d [3];obtain⟨g,rfl⟩:∃g,f=g+1:=⟨f - 1,V⟩;exact⟨true,_,_,_,_,dd,rfl,hr.symm.trans (an5 hb ao ay aF aT),(fun h=>by cases h),by simp;omega,O⟩
    ·refine Zv 6 fun a U=>?_;refine aZ U (DP (j:=b) (O.rd 1 rfl) underlying83 sizeOf115 rfl (U.af rfl) (U.af rfl) V) fun a U=>?_;have O:=O.FJ (i:=1) (j:=b) rfl V;have O:=O.nm;refine Zs 3 fun a w O U=>?_;refine Zv 2 fun a U=>?_;have O:=O.q [0,2];refine Xc 0 [3] (zf _ _ _ _ _ _ O.aI _ _ V) fun vo a w O U=>?_;obtain⟨g,rfl⟩:∃g,f=g+1:=⟨f - 1,V⟩;refine Zv 0 ?_;exact⟨(g,out++[fB [125] t],st.take b,_,_),⟨⟨(aiR hb ao ay aF aT).symm.trans hr,by rw[List.length_take];omega,by simp;omega⟩,O,U.su⟩,by dsimp only;omega⟩
section
variable {t:Tok} {w:List UInt8} {k:Nat} {out o2:List Tok} {st:List cW}
def ahJ (h:0≤(k:Int) - 1∧((st.getD (k - 1) eR).sort=[]∨(st.getD (k - 1) eR).sort=zx∧¬w=D3)):kV st w k=kV st w (k - 1):=by
 obtain⟨m,rfl⟩:∃m,k=m+1:=⟨k - 1,V⟩;rw[kV];exact if_pos h.2
def aij (h:¬(0≤(k:Int) - 1∧((st.getD (k - 1) eR).sort=[]∨(st.getD (k - 1) eR).sort=zx∧¬w=D3))):kV st w k=k:=by
 cases k with
 |zero=>rfl
 |succ m=>rw[kV];exact if_neg fun h2=>h ⟨V,h2⟩
def Va (h:¬qe (dw t)):kW t out st=(out,st):=by unfold kW;simp only[];rw[if_pos h]
def UR (h:¬¬qe (dw t))(hp:kV st (dw t) st.length=k)(h3:(k:Int) - 1<0∨¬pE (st.getD (k - 1) eR).sort (dw t)=true):kW t out st=(out,st):=by
 unfold kW;simp only[hp];rw[if_neg h,if_pos];rcases h3 with h|h
 ·exact .inl V
 ·exact .inr (by simpa using h)
def ss (t:Tok)(l:List cW):List Tok:=(l.filter fun x=>decide (x.sort=[])).map fun _=>fB [125] t
def ap3 (t:Tok)(l:List cW):(ss t l).length≤l.length:=by
 unfold ss;rw[dW];exact List.length_filter_le _ _
def ahN {i:Nat}{x:cW}(hk:k≤i)(hx:st[i]?=some x)(h:x.sort=[])(ho:o2=out++ss t ((st.take i).drop k)):o2++[fB [125] t]=out++ss t ((st.take (i+1)).drop k):=by
 have hkl:i<st.length:=(List.getElem?_eq_some_iff.1 hx).1;rw[List.take_add_one,hx,List.drop_append_of_le_length (by rw[gW];omega),ho];simp [ss,h]
def abv {i:Nat}{x:cW}(hk:k≤i)(hx:st[i]?=some x)(h:¬x.sort=[])(ho:o2=out++ss t ((st.take i).drop k)):o2=out++ss t ((st.take (i+1)).drop k):=by
 have hkl:i<st.length:=(List.getElem?_eq_some_iff.1 hx).1;rw[List.take_add_one,hx,List.drop_append_of_le_length (by rw[gW];omega),ho];simp [ss,h]
variable (h:¬¬qe (dw t)) (hp:kV st (dw t) st.length=k) (h3:¬((k:Int) - 1<0∨¬pE (st.getD (k - 1) eR).sort (dw t)=true)) (ho:o2=out++ss t (st.drop k))
include h hp h3 ho
def Gw:kW t out st=(if dw t=re then (o2,(st.take k).set (k - 1) ⟨re,(st.getD (k - 1) eR).bh⟩) else if ¬dw t=[44] then (o2,st.take (k - 1)) else (o2,st.take k)):=by
 unfold kW;simp only[hp];rw[if_neg h,if_neg]
 ·rw[ho];rfl
 ·rintro (h|h)
  ·exact h3 (.inl V)
  ·exact h3 (.inr (by simpa using h))
def aaU (h4:dw t=re)(hk:k≤st.length):kW t out st=(o2,(st.take k).set (k - 1) ⟨re,((st.take k).getD (k - 1) eR).bh⟩):=by
 rw[Gw h hp h3 ho,if_pos h4]
 congr 3
 rw[List.getD_eq_getElem?_getD,List.getD_eq_getElem?_getD,List.getElem?_take,if_pos (by have:=not_or.1 h3;omega)]
def amw (h4:¬dw t=re)(h5:¬dw t=[44]):kW t out st=(o2,(st.take k).take (k - 1)):=by
 rw[Gw h hp h3 ho,if_neg h4,if_pos h5,List.take_take,Nat.min_eq_left V]
def ah5 (h4:¬dw t=re)(h5:¬¬dw t=[44]):kW t out st=(o2,st.take k):=by
 rw[Gw h hp h3 ho,if_neg h4,if_neg h5]
end
def apy (t:Tok)(out:List Tok)(st:List cW):(kW t out st).1.length+(kW t out st).2.length≤out.length+st.length:=by
 have e:∀k,kV st (dw t) st.length=k→(kW t out st).1.length+(kW t out st).2.length≤out.length+st.length:=by
  intro k hp
  by_cases h:qe (dw t)
  ·by_cases h3:(k:Int) - 1<0∨¬pE (st.getD (k - 1) eR).sort (dw t)=true
   ·rw[UR (fun e=>e h) hp h3];exact bQ _
   ·rw[Gw (fun e=>e h) hp h3 rfl];have:=ap3 t (st.drop k);rw[List.length_drop] at this;have hkk:k≤st.length∨st.length≤k:=V
    split
    ·simp;omega
    ·split<;>simp<;>omega
  ·rw[Va h];exact bQ _
 exact e _ rfl
set_option maxHeartbeats 1000000 in
def aiN (Z:World)(bs:Nat)(vo0 vs0:Value)(dR:List Tok)(st0:List cW)(dd:fI)(hA:bT Z [.ob bs 85 (vo0::vs0::dZ dd),ax vo0 44 aM dR,ax vs0 115 fx st0])(hn:dR.length+st0.length≤1000000000000)(t:Tok):aH prog 93 #[ptr (aa bs),.agg (aM.cells t).toArray] Z (fun v w'=>∃(vo vs:Value) (out:List Tok) (st:List cW),v=.tuple #[]∧kW t dR st0=(out,st)∧St Z (az [.ob bs 85 (vo0::vs0::dZ dd),ax vo0 44 aM dR,ax vs0 115 fx st0]) w' [.ob bs 85 (vo::vs::dZ dd),ax vo 44 aM out,ax vs 115 fx st]):=by
 have O:=St.init hA;refine aS func93 ntmps93 fun a U=>?_;refine Zb 2 fun tk a w O U=>?_;refine Yc 0 (A0 _ _) fun a w O U=>?_;refine Yc 2 (RQ _ _) fun a w O U=>?_;refine Zi 1 (fun a U ao=>?_) fun a U ao=>?_
 ·refine Zr 0 ?_;have O:=O.d [0];exact⟨_,_,_,_,rfl,Va ao,O⟩
 ·refine Zg 4 (bA (O.rd 3 rfl)) fun a U=>?_;refine Zv 2 fun a U=>?_;refine cl (fun (k:Nat) a w'=>(k≤st0.length∧kV st0 (dw t) k=kV st0 (dw t) st0.length)∧St Z (az [.ob bs 85 (vo0::vs0::dZ dd),ax vo0 44 aM dR,ax vs0 115 fx st0]) w' [.ob tk 44 (aM.cells t),.ob bs 85 (vo0::vs0::dZ dd),ax vo0 44 aM dR,ax vs0 115 fx st0]∧Fr a 116 [(0,ptr (aa bs)),(3,ptr (aa tk)),(4,str (dw t)),(5,i64 ((k:Int) - 1))]) (fun (k:Nat)=>k) st0.length ⟨⟨V,rfl⟩,O,U.su⟩ ?_;rintro k a w ⟨⟨hk,hr⟩,O,U⟩;refine Zw 8 fun a U=>?_;refine cG U rfl rfl rfl rfl rfl rfl (fun hg=>iK (i:=k - 1) (O.rd 3 rfl) underlying83 sizeOf115 rfl ((U.af rfl).trans (a6 hg)) (((U.af rfl).trans (a6 hg)).trans (congrArg i64 (show (k:Int) - 1=((k - 1:Nat):Int) by have:=(gA hg);omega))) (by have:=(gA hg);omega)) fun a U=>?_;refine Zw 1 fun a U=>?_;refine cG U rfl rfl rfl rfl rfl rfl (fun hg=>eD isAgg9 rfl ((U.af rfl).trans (a6 hg)) (aG.cells (O.bW 3 rfl) (vZ (d:=eR) (by have:=(gA hg);omega)) _ _ rfl)) fun a U=>?_;refine Zw 7 fun a U=>?_;refine cG U rfl rfl rfl rfl rfl rfl (fun hg=>iK (i:=k - 1) (O.rd 3 rfl) underlying83 sizeOf115 rfl ((U.af rfl).trans (a6 hg)) (((U.af rfl).trans (a6 hg)).trans (congrArg i64 (show (k:Int) - 1=((k - 1:Nat):Int) by have:=(gA (Gi hg).1);omega))) (by have:=(gA (Gi hg).1);omega)) fun a U=>?_;refine Zw 1 fun a U=>?_;refine cG U rfl rfl rfl rfl rfl rfl (fun hg=>eD isAgg9 rfl ((U.af rfl).trans (a6 hg)) (aG.cells (O.bW 3 rfl) (vZ (d:=eR) (by have:=(gA (Gi hg).1);omega)) _ _ rfl)) fun a U=>?_;refine Zw 4 fun a U=>?_;refine cG U rfl rfl rfl rfl rfl rfl (fun hg=>j3 rfl ((U.af rfl).trans (a6 hg)) rfl (fun dV=>((U.af rfl).trans (tE hg dV))) rfl) fun a U=>?_;refine cG U rfl rfl rfl rfl rfl rfl (fun hg=>r_ rfl ((U.af rfl).trans (a6 hg)) rfl (fun dV=>((U.af rfl).trans (tE hg dV))) rfl) fun a U=>?_;refine Zi 1 (fun a U ay=>?_) fun a U ay=>?_
  ·refine Zv 3 fun a U=>?_;exact⟨k - 1,⟨⟨V,(ahJ ay).symm.trans hr⟩,O,U.sub ⟨rfl,rfl,rfl,(congrArg some (congrArg i64 (show (k:Int) - 1 - 1=((k - 1:Nat):Int) - 1 by have:=ay.1;omega))),trivial⟩⟩,by have:=ay.1;omega⟩
  ·have hpe:kV st0 (dw t) st0.length=k:=hr.symm.trans (aij ay);refine Zw 8 fun a U=>?_;refine cG U rfl rfl rfl rfl rfl rfl (fun hg=>iK (i:=k - 1) (O.rd 3 rfl) underlying83 sizeOf115 rfl ((U.af rfl).trans (a6 hg)) (((U.af rfl).trans (a6 hg)).trans (congrArg i64 (show (k:Int) - 1=((k - 1:Nat):Int) by have:=(vX hg);omega))) (by have:=(vX hg);omega)) fun a U=>?_;refine Zw 1 fun a U=>?_;refine cG U rfl rfl rfl rfl rfl rfl (fun hg=>eD isAgg9 rfl ((U.af rfl).trans (a6 hg)) (aG.cells (O.bW 3 rfl) (vZ (d:=eR) (by have:=(vX hg);omega)) _ _ rfl)) fun a U=>?_;refine Zw 1 fun a U=>?_;refine fS O U rfl rfl rfl rfl rfl rfl (fun hg=>jo U rfl rfl (je trivial) call133 (ak8 _ _ _)) fun a w O U=>?_;refine cG U rfl rfl rfl rfl rfl rfl (fun hg=>kT rfl ((U.af rfl).trans (a6 hg)) (eN _)) fun a U=>?_;refine Zi 1 (fun a U aF=>?_) fun a U aF=>?_
   ·refine Zr 0 ?_;have O:=O.d [0];exact⟨_,_,_,_,rfl,UR ao hpe aF,O⟩
   ·refine Zv 3 fun a U=>?_;refine cl (fun (y:Nat×List Tok×Value) a w'=>match y with| (i,o2,vo)=>(k≤i∧i≤st0.length∧o2=dR++ss t ((st0.take i).drop k)∧o2.length≤dR.length+(i - k))∧St Z (az [.ob bs 85 (vo0::vs0::dZ dd),ax vo0 44 aM dR,ax vs0 115 fx st0]) w' [.ob tk 44 (aM.cells t),.ob bs 85 (vo::vs0::dZ dd),ax vo 44 aM o2,ax vs0 115 fx st0]∧Fr a 116 [(0,ptr (aa bs)),(3,ptr (aa tk)),(4,str (dw t)),(5,i64 ((k:Int) - 1)),(6,i64 i)]) (fun (y:Nat×List Tok×Value)=>match y with| (i,o2,vo)=>st0.length - i) (k,dR,vo0) ⟨⟨V,V,by rw[List.drop_of_length_le (by rw[gW];omega)];simp [ss],V⟩,O,U.sub ⟨rfl,rfl,rfl,rfl,(congrArg some (congrArg i64 (show (k:Int) - 1+1=(k:Int) by omega))),trivial⟩⟩ ?_;rintro⟨i,o2,vo⟩ a w ⟨⟨hki,hi,iC,hol⟩,O,U⟩;refine Zg 5 (bA (O.rd 3 rfl)) fun a U=>?_;refine Zi 1 (fun a U aT=>?_) fun a U aT=>?_
    ·obtain⟨x,hx⟩:=dM (l:=st0) (i:=i) V;refine Zg 5 (bw i (O.rd 3 rfl) V) fun a U=>?_;refine Zh 1 (O.bW 3 rfl) hx fun a U=>?_;refine Zi 1 (fun a U bm=>?_) fun a U bm=>?_
     ·refine Zv 2 fun a U=>?_;have O:=O.q [1,1];refine Yc 0 (zf _ _ _ _ _ _ O.aI _ _ V) fun vo a w O U=>?_;refine Zv 3 fun a U=>?_;have O:=O.q [2];exact⟨(i+1,o2++[fB [125] t],_),⟨⟨V,V,ahN hki hx bm iC,by simp;omega⟩,O,U.su⟩,by dsimp only;omega⟩
     ·refine Zv 3 fun a U=>?_;exact⟨(i+1,o2,vo),⟨⟨V,V,abv hki hx bm iC,V⟩,O,U.su⟩,by dsimp only;omega⟩
    ·obtain rfl:i=st0.length:=V
     rw[List.take_length] at iC;refine Zv 7 fun a U=>?_;refine aZ U (DP (j:=k) (O.rd 3 rfl) underlying83 sizeOf115 rfl (U.af rfl) ((U.af rfl).trans (congrArg i64 (show (k:Int) - 1+1=((k:Nat):Int) by omega))) V) fun a U=>?_;have O:=O.FJ (i:=3) (j:=k) rfl V;have O:=O.nm;refine Zs 3 fun a w O U=>?_;refine Zi 2 (fun a U bl=>?_) fun a U bl=>?_
     ·refine Zv 5 fun a U=>?_;refine aZ U (iK (i:=k - 1) (O.rd 3 rfl) underlying83 sizeOf115 rfl (U.af rfl) ((U.af rfl).trans (congrArg i64 (show (k:Int) - 1=((k - 1:Nat):Int) by have:=not_or.1 aF;omega))) (by have:=not_or.1 aF;rw[gW];omega)) fun a U=>?_;refine Zv 1 fun a U=>?_;refine kv U (gb (m:=k - 1) (off:=0) (q:=⟨re,((st0.take k).getD (k - 1) eR).bh⟩) O (i:=3) rfl sizeOf9 rfl ((U.af rfl).trans (congrArg ptr (rN _ _ _))) rfl (U.af rfl) rfl (vZ (d:=eR) (by rw[gW];have:=not_or.1 aF;omega)) rfl (cX rfl) rfl (fA rfl)) ?_;rintro a _ w ⟨-,O⟩ U;have O:=O.nm;refine Zr 0 ?_;have O:=O.d [0];exact⟨_,_,_,_,rfl,aaU ao hpe aF iC bl hk,O⟩
     ·refine Zi 2 (fun a U bN=>?_) fun a U bN=>?_
      ·refine Zv 6 fun a U=>?_;refine aZ U (DP (j:=k - 1) (O.rd 3 rfl) underlying83 sizeOf115 rfl (U.af rfl) ((U.af rfl).trans (congrArg i64 (show (k:Int) - 1=((k - 1:Nat):Int) by have:=not_or.1 aF;omega))) (by rw[gW];omega)) fun a U=>?_;have O:=O.FJ (i:=3) (j:=k - 1) rfl (by rw[gW];omega);have O:=O.nm;refine Zs 3 fun a w O U=>?_;refine Zr 0 ?_;have O:=O.d [0];exact⟨_,_,_,_,rfl,amw ao hpe aF iC bl bN,O⟩
      ·refine Zr 0 ?_;have O:=O.d [0];exact⟨_,_,_,_,rfl,ah5 ao hpe aF iC bl bN,O⟩
def akD {p:Prop}{_:Decidable p}(h:dk (.bool (decide p)) true=false):¬p:=by simpa [dk] using h
def apc (Z:World)(bs:Nat)(vo0 vs0:Value)(dR:List Tok)(st0:List cW)(dd:fI)(hA:bT Z [.ob bs 85 (vo0::vs0::dZ dd),ax vo0 44 aM dR,ax vs0 115 fx st0])(hn:dR.length+st0.length≤1000000000000)(t:Tok):aH prog 93 #[ptr (aa bs),.agg (aM.cells t).toArray] Z (fun v w'=>∃(vo vs:Value) (out:List Tok) (st:List cW),v=.tuple #[]∧kW t dR st0=(out,st)∧out.length+st.length≤dR.length+st0.length∧St Z (az [.ob bs 85 (vo0::vs0::dZ dd),ax vo0 44 aM dR,ax vs0 115 fx st0]) w' [.ob bs 85 (vo::vs::dZ dd),ax vo 44 aM out,ax vs 115 fx st]):=
 (aiN Z bs vo0 vs0 dR st0 dd hA hn t).mono fun v w' ⟨vo,vs,out,st,h1,h2,hS⟩=>⟨vo,vs,out,st,h1,h2,by have:=apy t dR st0;rw[h2] at this;exact this,hS⟩
section
variable {t ahead:Tok} {first p:Bool} {dR o o2 o3:List Tok} {st0 s s2 s3:List cW} {m:Int}
def akF (hm:m=(if 0≤fj st0 st0.length then (st0.getD (fj st0 st0.length).toNat eR).bh else 0))(h:m<t.bh):sB t dR st0=(dR++[fB [123] t],st0++[⟨[],t.bh⟩],true):=by
 unfold sB;simp only[];rw[←hm,if_pos h]
def abw (hm:m=(if 0≤fj st0 st0.length then (st0.getD (fj st0 st0.length).toNat eR).bh else 0))(h:¬m<t.bh):sB t dR st0=(dR++[fB [123] t]++[fB [125] t],st0,false):=by
 unfold sB;simp only[];rw[←hm,if_neg h]
def anw (h1:mY (dw ahead))(h2:dw t=[123]):qb t ahead first dR st0=some (dR++[t],st0++[⟨[123,125],0⟩]):=by unfold qb;rw[if_pos ⟨h1,h2⟩]
variable (hno:¬(mY (dw ahead)∧dw t=[123])) (ho:(if mY (dw ahead) then sB t dR st0 else (dR,st0,false))=(o,s,p))
include hno ho
def ahV (hl:(if first=true∧p=false then iR t t.bh (s.length+1) o s else some (o,s))=none):qb t ahead first dR st0=none:=by
 unfold qb;rw[if_neg hno];simp only[ho];rw[hl]
def YX (hl:(if first=true∧p=false then iR t t.bh (s.length+1) o s else some (o,s))=some (o2,s2))(hc:kW t o2 s2=(o3,s3)):
  qb t ahead first dR st0=some (o3++[t],if A6 (dw t) then s3++[⟨dw t,0⟩] else s3):=by
 unfold qb;rw[if_neg hno];simp only[ho];rw[hl];simp only[hc]
end
set_option maxHeartbeats 2000000 in
def apt (Z:World)(bs:Nat)(vo0 vs0:Value)(dR:List Tok)(st0:List cW)(dd:fI)(hA:bT Z [.ob bs 85 (vo0::vs0::dZ dd),ax vo0 44 aM dR,ax vs0 115 fx st0])(hn:dR.length+st0.length≤900000000000)(t ahead:Tok)(first:Bool):aH prog 41 #[ptr (aa bs),.agg (aM.cells t).toArray,.agg (aM.cells ahead).toArray,.bool first] Z (fun v w'=>∃(ok:Bool) (vo vs:Value) (out:List Tok) (st:List cW) (d:fI),v=.bool ok∧qb t ahead first dR st0=(if ok=true then some (out,st) else none)∧(ok=false→d=wQ t)∧out.length+st.length≤dR.length+st0.length+6∧St Z (az [.ob bs 85 (vo0::vs0::dZ dd),ax vo0 44 aM dR,ax vs0 115 fx st0]) w' [.ob bs 85 (vo::vs::dZ d),ax vo 44 aM out,ax vs 115 fx st]):=by
 have O:=St.init hA;refine aS func41 ntmps41 fun a U=>?_;refine Zb 1 fun tt a w O U=>?_;refine Zu 3 fun ta a w O U=>?_;refine k9 ?_;refine jx ?_;refine tw (fun (x:List Tok×List cW×Bool×Value×Value) a w'=>match x with| (out,st,p,vo,vs)=>((if mY (dw ahead) then sB t dR st0 else (dR,st0,false))=(out,st,p)∧¬(mY (dw ahead)∧dw t=[123])∧out.length+st.length≤dR.length+st0.length+2)∧St Z (az [.ob bs 85 (vo0::vs0::dZ dd),ax vo0 44 aM dR,ax vs0 115 fx st0]) w' [.ob tt 44 (aM.cells t),.ob bs 85 (vo::vs::dZ dd),ax vo 44 aM out,ax vs 115 fx st]∧Fr a 134 [(0,ptr (aa bs)),(3,.bool first),(5,ptr (aa tt)),(9,.bool p)]) ?_ ?_
 ·refine Yc 1 (A0 _ _) fun a w O U=>?_;refine Yc 0 (Uh _ _) fun a w O U=>?_;refine Zi 0 (fun ao=>?_) fun ao=>?_
  ·refine Yc 1 (A0 _ _) fun a w O U=>?_;refine Zi 1 (fun a U ay=>?_) fun a U ay=>?_
   ·refine Zb 7 fun b1 a w O U=>?_;refine eP U (iJ (bytes:=24) (r:=[⟨[123,125],0⟩]) O (i:=5) rfl (O.rd 0 rfl) underlying83 FL rfl rfl rfl rfl rfl rfl (U.af rfl) (U.af rfl) (by show (List.length _+1) * 24≤_;omega) (by show List.length _+1≤_;omega)) ?_;rintro a v26 w O U;have O:=O.nm;refine Zs 3 fun a w O U=>?_;refine Zd 0 [0,0,0,0,1,1,2,3,0,0,3] fun w O=>?_;refine Zv 6 fun a U=>?_;refine eg U (kH U O underlying22 sizeOf44 zeroValue44 rfl rfl rfl rfl rfl rfl rfl) (fun _ _ ⟨_,_,O⟩=>O.tail) ?_;rintro a _ w ⟨b2,rfl,O⟩ U;refine jh U (iJ (bytes:=48) (r:=[t]) O (i:=5) rfl (O.rd 0 rfl) underlying22 pV rfl rfl rfl rfl rfl rfl (U.af rfl) (U.af rfl) (by show (List.length _+1) * 48≤_;omega) (by show List.length _+1≤_;omega)) ?_;rintro a v36 w O U;have O:=O.nm;refine Zs 3 fun a w O U=>?_;refine Zr 1 ?_;have O:=O.d [0,0,0,0];exact⟨true,_,_,_,_,dd,rfl,anw ao ay,(fun h=>by cases h),by simp;omega,O⟩
   ·refine Zv 2 fun a U=>?_;have O:=O.q [2,3];refine Yc 0 (Re _ _ _ _ _ _ O.aI V) fun a w O U=>?_;refine Zn 1 fun a U=>?_;refine k9 ?_;refine jx ?_;refine tw (fun (m:Int) a w'=>(m=(if 0≤fj st0 st0.length then (st0.getD (fj st0 st0.length).toNat eR).bh else 0))∧St Z (az [.ob bs 85 (vo0::vs0::dZ dd),ax vo0 44 aM dR,ax vs0 115 fx st0]) w' [.ob tt 44 (aM.cells t),.ob ta 44 (aM.cells ahead),.ob bs 85 (vo0::vs0::dZ dd),ax vo0 44 aM dR,ax vs0 115 fx st0]∧Fr a 134 [(0,ptr (aa bs)),(3,.bool first),(5,ptr (aa tt)),(6,ptr (aa ta)),(9,.bool false),(10,i64 m)]) ?_ ?_
    ·refine Zi 2 (fun a U aF=>?_) fun a U aF=>?_
     ·refine Zv 5 fun a U=>?_;refine aZ U (iK (i:=(fj st0 st0.length).toNat) (O.rd 1 rfl) underlying83 sizeOf115 rfl (U.af rfl) ((U.af rfl).trans (congrArg i64 ((Int.toNat_of_nonneg aF).symm))) (Er (Int.toNat_of_nonneg aF).symm)) fun a U=>?_;refine Zh 1 (O.bW 1 rfl) (vZ (d:=eR) (Er (Int.toNat_of_nonneg aF).symm)) fun a U=>?_;refine Zv 1 fun a U=>?_;have O:=O.q [3,2,0,1];exact⟨_,⟨(if_pos aF).symm,O,U.su⟩⟩
     ·have O:=O.q [3,2,0,1];refine Zv 0 ?_;exact⟨0,⟨(if_neg aF).symm,O,U.su⟩⟩
    ·rintro m a w ⟨hm,O,U⟩;refine Zv 2 fun a U=>?_;have O:=O.q [2,2];refine Yc 0 (zf _ _ _ _ _ _ O.aI _ _ V) fun vo a w O U=>?_;refine Zi 4 (fun a U aT=>?_) fun a U aT=>?_
     ·refine Zd 0 [0,0,0,0,1,0,1,0,2,3,0,0,3] fun w O=>?_;refine Zv 8 fun a U=>?_;refine eg U (kH U O underlying83 sizeOf115 zeroValue115 rfl rfl rfl rfl rfl rfl rfl) (fun _ _ ⟨_,_,O⟩=>O.tail) ?_;rintro a _ w ⟨b3,rfl,O⟩ U;refine jh U (iJ (bytes:=24) (r:=[⟨[],t.bh⟩]) O (i:=5) rfl (O.rd 0 rfl) underlying83 FL rfl rfl rfl rfl rfl rfl (U.af rfl) (U.af rfl) (by show (List.length _+1) * 24≤_;omega) (by show List.length _+1≤_;omega)) ?_;rintro a v67 w O U;have O:=O.nm;refine Zs 3 fun a w O U=>?_;refine Zv 1 fun a U=>?_;have O:=(O.d [0,3]).q [2];exact⟨(_,_,true,_,_),⟨⟨(if_pos ao).trans (akF hm aT),fun h=>ay h.2,by simp;omega⟩,O,U.su⟩⟩
     ·refine Yc 2 (zf _ _ _ _ _ _ O.aI _ _ (by simp;omega)) fun vo a w O U=>?_;have O:=(O.d [3]).q [2];refine Zv 0 ?_;exact⟨(_,_,false,_,_),⟨⟨(if_pos ao).trans (abw hm aT),fun h=>ay h.2,by simp;omega⟩,O,U.su⟩⟩
  ·have O:=O.d [0];refine Zv 0 ?_;exact⟨(_,_,false,_,_),⟨⟨if_neg ao,fun h=>ao h.1,V⟩,O,U.su⟩⟩
 ·rintro⟨out,st,p,vo,vs⟩ a w ⟨⟨hop,hno,atd⟩,O,U⟩;refine Zw 3 fun a U=>?_;refine cG U rfl rfl rfl rfl rfl rfl (fun hg=>kT rfl ((U.af rfl).trans (a6 hg)) (eN _)) fun a U=>?_;refine aZ U (j3 rfl (U.af rfl) (eN _) (fun dV=>((U.af rfl).trans (a6 dV))) rfl) fun a U=>?_;refine Zw 5 fun a U=>?_;have O:=O.q [1,1,1];refine arM (fun (x:Bool×List Tok×List cW×fI×Value×Value) u w'=>match x with| (ok,eT,st2,d,vo,vs)=>u=.bool ok∧(if first=true∧p=false then iR t t.bh (st.length+1) out st else some (out,st))=(if ok=true then some (eT,st2) else none)∧(ok=false→d=wQ t)∧eT.length+st2.length≤out.length+st.length+1∧St Z (az [.ob bs 85 (vo0::vs0::dZ dd),ax vo0 44 aM dR,ax vs0 115 fx st0]) w' [.ob bs 85 (vo::vs::dZ d),ax vo 44 aM eT,ax vs 115 fx st2,.ob tt 44 (aM.cells t)]) U rfl rfl rfl rfl rfl rfl (fun hg=>bG.mono (jo U rfl rfl (je trivial) call45 (T5 _ _ _ _ _ _ _ O.gT V _ _)) ?_) (fun hg=>?_) ?_
  ·rintro u w' ⟨ok,vo,vs,eT,st2,d,rfl,h1,h2,h3,hS⟩;exact⟨(ok,eT,st2,d,vo,vs),rfl,by rw[if_pos ⟨(gA hg).1,by simpa using (gA hg).2⟩];exact h1,h2,h3,O.call3 hS⟩
  ·exact⟨(true,out,st,dd,vo,vs),_,rfl,if_neg (fun h=>akD hg ⟨h.1,by simp [h.2]⟩),(fun h=>by cases h),V,O⟩
  rintro⟨ok,eT,st2,dd2,vo,vs⟩ u a w ⟨rfl,hln,hbad,hlp,O⟩ U;refine cG U rfl rfl rfl rfl rfl rfl (fun hg=>kT rfl ((U.af rfl).trans (a6 hg)) (eN _)) fun a U=>?_;refine Zi 1 (fun a U bm=>?_) fun a U bm=>?_
  ·obtain rfl:ok=false:=by simpa using bm.2
   refine Zr 1 ?_;have O:=O.d [3];exact⟨false,_,_,_,_,dd2,rfl,ahV hno hop hln,hbad,V,O⟩
  ·obtain rfl:ok=true:=by
    cases ok with
    |true=>rfl
    |false=>
     by_cases hfp:first=true∧p=false
     ·exact absurd ⟨⟨hfp.1,by simp [hfp.2]⟩,aw⟩ bm
     ·rw[if_neg hfp] at hln;simp at hln
   replace hln:=hln.trans (if_pos rfl);refine Yc 2 (apc _ _ _ _ _ _ _ O.gT V _) fun vo vs out st hcl hcp a w O U=>?_;refine Zd 0 [0,0,0,0,1,1,2,3,0,0,3] fun w O=>?_;refine Zv 6 fun a U=>?_;refine eg U (kH U O underlying22 sizeOf44 zeroValue44 rfl rfl rfl rfl rfl rfl rfl) (fun _ _ ⟨_,_,O⟩=>O.tail) ?_;rintro a _ w ⟨b4,rfl,O⟩ U;refine jh U (iJ (bytes:=48) (r:=[t]) O (i:=2) rfl (O.rd 0 rfl) underlying22 pV rfl rfl rfl rfl rfl rfl (U.af rfl) (U.af rfl) (by show (List.length _+1) * 48≤_;omega) (by show List.length _+1≤_;omega)) ?_;rintro a v96 w O U;have O:=O.nm;refine Zs 3 fun a w O U=>?_;refine Yc 1 (A0 _ _) fun a w O U=>?_;refine Zw 23 fun a U=>?_;refine Zi 0 (fun bl=>?_) fun bl=>?_
   ·refine Zb 8 fun b5 a w O U=>?_;refine eP U (iJ (bytes:=24) (r:=[⟨dw t,0⟩]) O (i:=4) rfl (O.rd 0 rfl) underlying83 FL rfl rfl rfl rfl rfl rfl (U.af rfl) (U.af rfl) (by show (List.length _+1) * 24≤_;omega) (by show List.length _+1≤_;omega)) ?_;rintro a v131 w O U;have O:=O.nm;refine Zs 3 fun a w O U=>?_;refine Zr 1 ?_;have O:=O.d [0,0,3];exact⟨true,_,_,_,_,dd2,rfl,(YX hno hop hln hcl).trans (by rw[if_pos (show A6 (dw t) from bl)];rfl),(fun h=>by cases h),by simp;omega,O⟩
   ·refine Zr 1 ?_;have O:=O.d [0,3];exact⟨true,_,_,_,_,dd2,rfl,(YX hno hop hln hcl).trans (by rw[if_neg (show ¬A6 (dw t) from bl)];rfl),(fun h=>by cases h),by simp;omega,O⟩
section
variable {ts l:List Tok} {e x ah:Tok} {i k:Nat}
def Z4 (hx:ts[i]?=some x)(h:x.kind=9):lW (ts.drop i) e=([],x):=by
 obtain⟨hl,hx⟩:=List.getElem?_eq_some_iff.1 hx;rw[List.drop_eq_getElem_cons hl,hx,lW,if_pos h]
def ai7 (hx:ts[i]?=some x)(h:¬x.kind=9):lW (ts.drop i) e=(x::(lW (ts.drop (i+1)) ⟨9,[],0,x.line,x.bh⟩).1,(lW (ts.drop (i+1)) ⟨9,[],0,x.line,x.bh⟩).2):=by
 obtain⟨hl,hx⟩:=List.getElem?_eq_some_iff.1 hx;rw[List.drop_eq_getElem_cons hl,hx,lW,if_neg h]
def aqT {out eT:List Tok}{st st2:List cW}(hx:l[k]?=some x)(h:qb x ah (decide ((k:Int)=0∨ah.line<x.line)) out st=some (eT,st2)):
  m_ (l.drop k) ah (decide (k=0)) out st=m_ (l.drop (k+1)) x (decide (k+1=0)) eT st2:=by
 obtain⟨hl,hx⟩:=List.getElem?_eq_some_iff.1 hx;rw[List.drop_eq_getElem_cons hl,hx,m_,show (decide (k=0)||decide (ah.line<x.line))=decide ((k:Int)=0∨ah.line<x.line) by simp,h];simp
def am1 {out:List Tok}{st:List cW}(hx:l[k]?=some x)(h:qb x ah (decide ((k:Int)=0∨ah.line<x.line)) out st=none):m_ (l.drop k) ah (decide (k=0)) out st=.inr x:=by
 obtain⟨hl,hx⟩:=List.getElem?_eq_some_iff.1 hx;rw[List.drop_eq_getElem_cons hl,hx,m_,show (decide (k=0)||decide (ah.line<x.line))=decide ((k:Int)=0∨ah.line<x.line) by simp,h]
def aph (hx:l[k]?=some x):x=(l.take (k+1)).getLastD oO:=by
 rw[List.take_add_one,hx];simp
end
section
variable {ts l:List Tok} {e ah:Tok} {out o2 o3:List Tok} {st s3:List cW}
variable (hs:lW ts ⟨9,[],0,1,1⟩=(l,e))
include hs
def anf {x:Tok}(hr:m_ l oO true [] []=.inr x):nj ts=([],wQ x):=by unfold nj;simp only[hs,hr]
variable (hr:m_ l oO true [] []=.inl (some (out,st))) (ha:ah=l.getLastD oO) (ho:o2=if mY (dw ah) then out++[fB [123] e]++[fB [125] e] else out)
include hr ha ho
def ao7 (hl:iR e 0 (st.length+1) o2 st=none):nj ts=([],wQ e):=by
 subst ha ho;unfold nj;simp only[hs,hr,hl]
def apj (hl:iR e 0 (st.length+1) o2 st=some (o3,s3)):nj ts=(o3++[e],.ok):=by
 subst ha ho;unfold nj;simp only[hs,hr,hl]
end
def adk (Z:World)(vt:Value)(ts:List Tok)(hn:ts.length≤100000000000)(hR:aG Z [] vt aM ts):aH prog 13 #[vt] Z (fun v w'=>∃va l d,nj ts=(l,d)∧v=.tuple #[va,.agg (dZ d).toArray]∧St Z [] w' [ax va 44 aM l]):=by
 have O:=St.bL Z;refine aS func13 ntmps13 fun a U=>?_;refine Zb 3 fun dg a w O U=>?_;refine Zu 3 fun en a w O U=>?_;have O:=O.eI 44 5;refine k9 ?_;refine jx ?_;refine tw (fun (z:List Tok×Tok×Value) a w'=>match z with| (l,e,vl)=>(lW ts ⟨9,[],0,1,1⟩=(l,e)∧l.length≤ts.length)∧St Z [] w' [.ob en 44 (aM.cells e),ax vl 44 aM l,.ob dg 31 (dZ .ok)]∧Fr a 106 [(3,ptr (aa dg)),(4,ptr (aa en)),(5,vl)]) ?_ ?_
 ·refine Zv 1 fun a U=>?_;have O:=O.q [1];refine cl (fun (x:Nat×List Tok×Tok×Value) a w'=>match x with| (i,l,e,vl)=>(lW ts ⟨9,[],0,1,1⟩=(l++(lW (ts.drop i) e).1,(lW (ts.drop i) e).2)∧i≤ts.length∧l.length=i)∧St Z [] w' [.ob en 44 (aM.cells e),ax vl 44 aM l,.ob dg 31 (dZ .ok)]∧Fr a 106 [(0,vt),(3,ptr (aa dg)),(4,ptr (aa en)),(5,vl),(6,i64 i)]) (fun (x:Nat×List Tok×Tok×Value)=>match x with| (i,l,e,vl)=>ts.length - i) (0,[],⟨9,[],0,1,1⟩,_) ⟨⟨rfl,V,rfl⟩,O,U.su⟩ ?_;rintro⟨i,l,e,vl⟩ a w ⟨⟨hs,hi,hl⟩,O,U⟩;refine Zg 2 (bA hR) fun a U=>?_;refine Zi 1 (fun a U ao=>?_) fun a U ao=>?_
  ·obtain⟨x,hx⟩:=dM (l:=ts) (i:=i) V;refine Zg 2 (bw i hR V) fun a U=>?_;refine Zh 1 hR hx fun a U=>?_;refine Zi 1 (fun a U ay=>?_) fun a U ay=>?_
   ·refine Zg 2 (bw i hR V) fun a U=>?_;refine Zh 0 hR hx fun a U=>?_;refine Zs 1 fun a w O U=>?_;exact⟨(l,x,_),⟨⟨by rw[hs,Z4 hx ay];simp,V⟩,O,U.su⟩⟩
   ·refine Zg 3 (bw i hR V) fun a U=>?_;refine Zh 0 hR hx fun a U=>?_;refine Zb 1 fun b1 a w O U=>?_;refine eP U (iJ (bytes:=48) (r:=[x]) O (i:=2) rfl (O.rd 0 rfl) underlying22 pV rfl rfl rfl rfl rfl rfl (U.af rfl) (U.af rfl) (by show (List.length _+1) * 48≤_;omega) (by show List.length _+1≤_;omega)) ?_;rintro a v33 w O U;have O:=O.nm;refine Zd 1 [0,0,0,0,1,0,0,0,0,1,0,3] fun a w O U=>?_;refine Zg 2 (bw i hR V) fun a U=>?_;refine Zh 1 hR hx fun a U=>?_;refine Zg 2 (bw i hR V) fun a U=>?_;refine Zh 1 hR hx fun a U=>?_;refine Zs 5 fun a w O U=>?_;have O:=O.d [0];exact⟨(i+1,l++[x],⟨9,[],0,x.line,x.bh⟩,_),⟨⟨by rw[hs,ai7 hx ay];simp,V,by simp;omega⟩,O,U.su⟩,by dsimp only;omega⟩
  ·refine Zv 0 ?_;exact⟨(l,e,_),⟨⟨by rw[hs,List.drop_of_length_le V];simp [lW],V⟩,O,U.su⟩⟩
 ·rintro⟨l,e,vl⟩ a w ⟨⟨hs,hll⟩,O,U⟩;refine Zb 2 fun bs a w O U=>?_;have O:=O.eI 44 5;have O:=O.eI 115 2;refine Xb 3 [0,2,1] fun ah a w O U=>?_;refine cl (fun (y:Nat×Tok×List Tok×List cW×fI×Value×Value) a w'=>match y with| (k,ah_,out,st,dd,vo,vs)=>(m_ (l.drop k) ah_ (decide (k=0)) out st=m_ l oO true [] []∧k≤l.length∧ah_=(l.take k).getLastD oO∧out.length+st.length≤6 * k)∧St Z [] w' [.ob ah 44 (aM.cells ah_),.ob bs 85 (vo::vs::dZ dd),ax vo 44 aM out,ax vs 115 fx st,.ob en 44 (aM.cells e),ax vl 44 aM l,.ob dg 31 (dZ .ok)]∧Fr a 106 [(3,ptr (aa dg)),(4,ptr (aa en)),(5,vl),(7,ptr (aa bs)),(8,ptr (aa ah)),(9,i64 k)]) (fun (y:Nat×Tok×List Tok×List cW×fI×Value×Value)=>match y with| (k,ah_,out,st,dd,vo,vs)=>l.length - k) (0,oO,[],[],.ok,_,_) ⟨⟨rfl,V,rfl,aw⟩,O,U.su⟩ ?_;rintro⟨k,ah_,out,st,dd,vo,vs⟩ a w ⟨⟨hr,hk,hla,hps⟩,O,U⟩;refine Zg 2 (bA (O.rd 5 rfl)) fun a U=>?_;refine Zi 1 (fun a U aF=>?_) fun a U aF=>?_
  ·refine Zd 0 [0,0,0,0,1,1,0,0,0,0,0,0,0,1,0,1,0,0,3,0] fun w O=>?_;obtain⟨x,hx⟩:=dM (l:=l) (i:=k) V;refine Zg 3 (bw k (O.rd 5 rfl) V) fun a U=>?_;refine uk U (fun w O=>kq isAgg44 sizeOf44 rfl (U.af rfl) (aG.cells (O.bW 5 rfl) hx) rfl) fun a U=>?_;refine Zw 6 fun a U=>?_;refine zq U rfl rfl rfl rfl rfl rfl (fun hg w=>iK (i:=k) (O.rd 5 rfl) underlying22 sizeOf44 rfl ((U.af rfl).trans (a6 hg)) ((U.af rfl).trans (a6 hg)) V) fun a U=>?_;refine Zw 1 fun a U=>?_;refine Cb U rfl rfl rfl rfl rfl rfl (fun hg w O=>eD isAgg3 rfl ((U.af rfl).trans (a6 hg)) (aG.cells (O.bW 5 rfl) hx _ _ rfl)) fun a U=>?_;refine Zw 4 fun a U=>?_;have O:=O.q [1,1,1];refine Yc 0 (apt _ _ _ _ _ _ _ O.gT V _ _ _) fun ok vo vs eT st2 dd2 htk hbad hlp a w O U=>?_;refine jY U (fun w=>kT rfl (U.af rfl) (eN _)) fun a U=>?_;refine Zi 0 (fun aT=>?_) fun aT=>?_
   ·obtain rfl:ok=false:=by simpa using aT
    obtain rfl:=hbad rfl;refine Zd 0 [0,0,0,1,0,3] fun w O=>?_;refine Zv 3 fun a U=>?_;refine uk U (fun w O=>kq isAgg31 sizeOf31 rfl (U.af rfl) (O.AW 0 rfl 2 4 rfl) rfl) fun a U=>?_;refine Zs 2 fun a w O U=>?_;refine dv ?_;refine dI ?_;refine dv ?_;refine dv ?_;refine dI ?_;refine dv ?_;refine qp U rfl rfl rfl isAgg31 sizeOf31 (O.cells 6 rfl) rfl ?_;exact⟨_,[],_,anf hs (hr.symm.trans (am1 hx htk)),rfl,(O.eI 44 5).only⟩
   ·obtain rfl:ok=true:=by simpa using aT
    replace htk:=htk.trans (if_pos rfl);refine Zg 2 (bw k (O.rd 5 rfl) V) fun a U=>?_;refine Zh 0 (O.bW 5 rfl) hx fun a U=>?_;refine Xs 4 [3] fun a w O U=>?_;exact⟨(k+1,x,eT,st2,dd2,_,_),⟨⟨(aqT hx htk).symm.trans hr,V,aph hx,V⟩,O,U.su⟩,by dsimp only;omega⟩
  ·obtain rfl:k=l.length:=V
   rw[List.take_length] at hla;rw[List.drop_length] at hr;replace hr:m_ l oO true [] []=.inl (some (out,st)):=hr.symm;refine wp_exit ?_;refine Dt ?_;refine Dt ?_;refine Fo ?_;refine jx ?_;refine tw (fun (z:List Tok×Value) a w'=>match z with| (o2,vo)=>(o2=(if mY (dw ah_) then out++[fB [123] e]++[fB [125] e] else out)∧o2.length≤out.length+2)∧St Z [] w' [.ob bs 85 (vo::vs::dZ dd),ax vo 44 aM o2,ax vs 115 fx st,.ob en 44 (aM.cells e),ax vl 44 aM l,.ob dg 31 (dZ .ok)]∧Fr a 106 [(3,ptr (aa dg)),(4,ptr (aa en)),(7,ptr (aa bs))]) ?_ ?_
   ·refine Yc 1 (A0 _ _) fun a w O U=>?_;refine Yc 0 (Uh _ _) fun a w O U=>?_;refine Zi 0 (fun bm=>?_) fun bm=>?_
    ·refine Zv 2 fun a U=>?_;have O:=O.q [1,1];refine Yc 0 (zf _ _ _ _ _ _ O.aI _ _ V) fun vo a w O U=>?_;refine Yc 2 (zf _ _ _ _ _ _ O.aI _ _ (by simp;omega)) fun vo a w O U=>?_;have O:=O.d [2];refine Zv 0 ?_;exact⟨(_,_),⟨⟨(if_pos bm).symm,aw⟩,O,U.su⟩⟩
    ·have O:=O.d [0];refine Zv 0 ?_;exact⟨(_,_),⟨⟨(if_neg bm).symm,V⟩,O,U.su⟩⟩
   ·rintro⟨o2,vo⟩ a w ⟨⟨iC,hol⟩,O,U⟩;refine Yc 2 (T5 _ _ _ _ _ _ _ O.gT V _ _) fun ok vo vs atE st3 dd3 hln hbad hlp a w O U=>?_;refine Wn 0 fun a U=>?_;refine Zi 0 (fun bl=>?_) fun bl=>?_
    ·obtain rfl:ok=false:=by simpa using bl
     obtain rfl:=hbad rfl;refine Zd 0 [0,0,0,1,0,3] fun w O=>?_;refine Zv 3 fun a U=>?_;refine uk U (fun w O=>kq isAgg31 sizeOf31 rfl (U.af rfl) (O.AW 0 rfl 2 4 rfl) rfl) fun a U=>?_;refine Zs 2 fun a w O U=>?_;refine dv ?_;refine qp U rfl rfl rfl isAgg31 sizeOf31 (O.cells 5 rfl) rfl ?_;exact⟨_,[],_,ao7 hs hr hla iC hln,rfl,(O.eI 44 5).only⟩
    ·obtain rfl:ok=true:=by simpa using bl
     replace hln:=hln.trans (if_pos rfl);refine Zd 0 [0,0,0,1,1,2,3,0,0,3] fun w O=>?_;refine Zv 5 fun a U=>?_;refine eg U (kH U O underlying22 sizeOf44 zeroValue44 rfl rfl rfl rfl rfl rfl rfl) (fun _ _ ⟨_,_,O⟩=>O.tail) ?_;rintro a _ w ⟨b2,rfl,O⟩ U;refine jh U (iJ (bytes:=48) (r:=[e]) O (i:=2) rfl (O.rd 0 rfl) underlying22 pV rfl rfl rfl rfl rfl rfl (U.af rfl) (U.af rfl) (by show (List.length _+1) * 48≤_;omega) (by show List.length _+1≤_;omega)) ?_;rintro a aui w O U;have O:=O.nm;refine Zs 3 fun a w O U=>?_;refine qp U rfl rfl rfl isAgg31 sizeOf31 (O.cells 6 rfl) rfl ?_;exact⟨_,_,_,apj hs hr hla iC hln,rfl,(O.pull 2 rfl).only⟩
end Go.Proofs.YtdfccaonglmgpaaGreatDoor
