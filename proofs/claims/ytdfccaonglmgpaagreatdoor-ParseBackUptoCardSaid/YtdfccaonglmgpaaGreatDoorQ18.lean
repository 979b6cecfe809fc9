/- Q18 -/
import Derived.Test.YtdfccaonglmgpaaGreatDoorQ01
import Derived.Test.YtdfccaonglmgpaaGreatDoorQ06
import Derived.Test.YtdfccaonglmgpaaGreatDoorQ13
import Derived.Test.YtdfccaonglmgpaaGreatDoorQ02
import Derived.Test.YtdfccaonglmgpaaGreatDoorQ15
import Derived.Test.YtdfccaonglmgpaaGreatDoorQ03
open Go.Proofs.Tryz
set_option linter.all false
namespace Go.Proofs.YtdfccaonglmgpaaGreatDoor
open Go
set_option maxRecDepth 100000
set_option linter.unusedVariables false
set_option maxHeartbeats 1000000
def aq (s:List UInt8):Bool:=u_.contains s
def aA (s:List UInt8):Int:=match (fR s).1 with
 | []=>0
 |t::_=>t.kind
def SP (f:Nat)(vas:List Value)(avn:List Tk)(ro:World→List Nat→Prop):Prop:=∀{bs:Nat} {vo:Value} {out:List Tok} {Z:World},bT Z [.ob bs 37 [vo],ax vo 44 aM out]→ro Z (az [.ob bs 37 [vo],ax vo 44 aM out])→out.length+avn.length≤1000000000000→
 aH prog f (ptr (aa bs)::vas).toArray Z (fun v w'=>∃(v2:Value) (eT:List Tok),eT.map bP=out.map bP++avn∧eT.length=out.length+avn.length∧St Z (az [.ob bs 37 [vo],ax vo 44 aM out]) w' [.ob bs 37 [v2],ax v2 44 aM eT])
def qH {α:Type}{l:List α}{i:Nat}{y:α}(h:l[i]?=some y):l.drop i=y::l.drop (i+1):=by
 obtain⟨hi,rfl⟩:=List.getElem?_eq_some_iff.1 h;exact List.drop_eq_getElem_cons hi
def uM (k:Int)(t:List UInt8):SP 10 [i64 k,str t] [⟨k,t,0⟩] (fun _ _=>True):=by
 intro bs vo out Z hA hR hN;have O:=St.init hA;simp only[bg,bp] at hN;refine aS func10 ntmps10 fun a U=>?_;refine Zd 0 [0,0,0,0,1,0,0,0,0,0,1,1,0,0,2,3,0,0,3] fun w O=>?_;refine Zg 11 (bA (O.rd 1 rfl)) fun a U=>?_;refine Zv 2 fun a U=>?_;refine eg U (kH U O underlying22 sizeOf44 zeroValue44 rfl rfl rfl rfl rfl rfl rfl) (fun _ _ ⟨_,_,O⟩=>O.tail) ?_;rintro a _ w ⟨b2,rfl,O⟩ U;refine jh U (iJ (bytes:=48) (r:=[⟨k,t,0,1,(out.length:Int)+1⟩]) O (i:=2) rfl (O.rd 0 rfl) underlying22 pV rfl rfl rfl rfl rfl rfl (U.af rfl) (U.af rfl) (by show (List.length _+1) * 48≤_;omega) (by show List.length _+1≤_;omega)) ?_;rintro a v18 w O U;have O:=O.nm;refine Zs 3 fun a w O U=>?_;refine Zr 0 ?_;have O:=O.d [0];exact⟨_,_,by rw[cZ];rfl,by simp only[bt,bg,bp],O⟩
def ai2 (s:List UInt8)(Z:World):aH prog 82 #[str s] Z (fun v w'=>v=.bool (aq s)∧St Z [] w' []):=by
 have O:=St.bL Z;refine aS func82 ntmps82 fun a U=>?_;refine Zc 2 (Yv _) ?_;rintro a u w ⟨_,rfl,hS⟩ U;have O:=O.k0 hS;refine Yc 0 (Kh _ s u u_ ai (O.bW 0 rfl)) fun a w O U=>?_;refine Zr 1 ?_;exact⟨rfl,O.kp⟩
def vW (ws:List (List UInt8))(vw:Value)(hl:ws.length≤1000000):SP 24 [vw] (ws.map (kw aq)) (fun w M=>aG w M vw oC ws):=by
 intro bs vo out Z hA hR hN;have O:=St.init hA;rw[dW] at hN;refine aS func24 ntmps24 fun a U=>?_;refine Zv 1 fun a U=>?_;refine cl (fun (s:Nat×Value×List Tok) a w'=>match s with| (i,v2,o2)=>(i≤ws.length∧o2.map bP++(ws.drop i).map (kw aq)=out.map bP++ws.map (kw aq)∧o2.length+(ws.length - i)=out.length+ws.length)∧St Z (az [.ob bs 37 [vo],ax vo 44 aM out]) w' [.ob bs 37 [v2],ax v2 44 aM o2]∧Fr a 28 [(0,ptr (aa bs)),(1,vw),(4,i64 i)]) (fun (s:Nat×Value×List Tok)=>match s with| (i,v2,o2)=>ws.length - i) (0,vo,out) ⟨⟨dN _,rfl,rfl⟩,O,U.su⟩ ?_;rintro⟨i,v2,o2⟩ a w ⟨⟨hi,he,hn⟩,O,U⟩;refine Zg 2 (bA hR) fun a U=>?_;refine Zi 1 (fun a U ao=>?_) fun a U ao=>?_
 ·obtain⟨y,hy⟩:=dM (l:=ws) (i:=i) V;have hd:ws.drop i=y::ws.drop (i+1):=qH hy;rw[hd,bf] at he;refine Zg 2 (bw i hR V) fun a U=>?_;refine Zh 0 hR hy fun a U=>?_;refine Yc 0 (ai2 _ _) fun a w O U=>?_;refine Zj 0 (fun ay=>?_) fun ay=>?_
  ·refine Zg 3 (bw i hR V) fun a U=>?_;refine Zh 0 hR hy fun a U=>?_;refine Yc 0 (uM 7 y (St.aI O) trivial (by simp only[List.length_cons,List.length_nil];omega)) fun v3 o3 e3 n3 a w O U=>?_;refine Zv 3 fun a U=>?_;exact⟨(i+1,v3,o3),⟨⟨V,by rw[e3,←he,List.append_assoc];unfold kw;rw[ay];rfl,by rw[n3];simp only[List.length_cons,List.length_nil];omega⟩,O,U.su⟩,by dsimp only;omega⟩
  ·refine Zg 3 (bw i hR V) fun a U=>?_;refine Zh 0 hR hy fun a U=>?_;refine Yc 0 (uM 8 y (St.aI O) trivial (by simp only[List.length_cons,List.length_nil];omega)) fun v3 o3 e3 n3 a w O U=>?_;refine Zv 3 fun a U=>?_;exact⟨(i+1,v3,o3),⟨⟨V,by rw[e3,←he,List.append_assoc];unfold kw;rw[Bool.eq_false_iff.2 ay];rfl,by rw[n3];simp only[List.length_cons,List.length_nil];omega⟩,O,U.su⟩,by dsimp only;omega⟩
 ·refine Zr 0 ?_;have hd:ws.drop i=[]:=ia V;rw[hd,bX,cB] at he;exact⟨v2,o2,he,by rw[dW];omega,O⟩
def ai0 {s:List UInt8}{i n:Nat}{k v:Int}{t:List UInt8}(h:eB s i=.tok k t v n):k≠0:=by
 unfold eB at h;dsimp only at h
 repeat' split at h
 all_goals first
  | (cases h;done)
  | (injection h with e1;rw[←e1];repeat' split
     all_goals decide)
def acz {s:List UInt8}{i:Nat}{l:List Tok}(h:ow s i l):∀t∈l,t.kind≠0:=by
 induction h with
 |fin=>intro t ht;rw[List.mem_singleton.1 ht];simp [CC]
 |skip _ _ _ ih=>exact ih
 |tok hi hx _ ih=>
  intro t ht;rcases List.mem_cons.1 ht with rfl|ht
  ·exact ai0 hx
  ·exact ih t ht
def XE {s:List UInt8}{l:List Tok}{d:fI}(h:fR s=(l,d)):∀t∈l,t.kind≠0:=by
 rcases OO h with ⟨_,rfl,_⟩| ⟨h1,⟨_,h2⟩| ⟨rfl,_⟩⟩
 ·intro t ht;cases ht
 ·exact acz h2
 ·intro t ht;cases ht
def bS.df {Z w:World}{M:List Nat}{e f:an}{B:List an}{x:W}(h:bS Z M x)(O:St Z M w (e::f::B)):bS w (az [e,f]) x:=bS.now (St.front (A:=[e,f]) O) h
def uJ (w:List UInt8)(vw:Value):SP 24 [vw] [kw aq w] (fun avm M=>aG avm M vw oC [w]):=vW [w] vw aw
def c_ {H p:Prop}(h:H)(g:H→p:=by intro hh;simp only[hh,cC,ck,cD,cB,bf,bX,cY]<;>rfl):p:=g h
def aO {H p:Prop}(h:H)(g:H→p:=by intro hh;(try simp only[bt,bg,bp,dW,cY] at hh ⊢);omega):p:=g h
def jd (n:List UInt8):SP 25 [str n] (bF aq aA n) (fun _ _=>True):=by
 intro bs vo out Z hA hR hN;have O:=St.init hA;refine aS func25 ntmps25 fun a U=>?_;refine Zi 3 (fun a U ao=>?_) fun a U ao=>?_
 ·have hX:bF aq aA n=[kw aq [40],kw aq [41]]:=(if_pos ao).trans rfl;rw[hX] at hN ⊢;refine Xb 2 [1,1] fun b a w O U=>?_;refine Yc 0 (vW [[40],[41]] _ ai (St.aI O) (O.mZ (l:=[[40],[41]]) 0 rfl) (aO hN)) fun v2 o2 e2 n2 a w O U=>?_;refine Zr 0 ?_;exact⟨v2,o2,c_ e2,aO n2,O.kp⟩
 refine Zi 2 (fun a U ay=>?_) fun a U ay=>?_
 ·have hX:bF aq aA n=[kw aq [40],kw aq [44],kw aq [41]]:=(if_neg ao).trans ((if_pos ay).trans rfl);rw[hX] at hN ⊢;refine Xb 2 [1,1] fun b a w O U=>?_;refine Yc 0 (vW [[40],[44],[41]] _ ai (St.aI O) (O.mZ (l:=[[40],[44],[41]]) 0 rfl) (aO hN)) fun v2 o2 e2 n2 a w O U=>?_;refine Zr 0 ?_;exact⟨v2,o2,c_ e2,aO n2,O.kp⟩
 refine Zi 2 (fun a U aF=>?_) fun a U aF=>?_
 ·have hX:bF aq aA n=[kw aq [40],kw aq [44],kw aq [44],kw aq [41]]:=(if_neg ao).trans ((if_neg ay).trans ((if_pos aF).trans rfl));rw[hX] at hN ⊢;refine Xb 2 [1,1] fun b a w O U=>?_;refine Yc 0 (vW [[40],[44],[44],[41]] _ ai (St.aI O) (O.mZ (l:=[[40],[44],[44],[41]]) 0 rfl) (aO hN)) fun v2 o2 e2 n2 a w O U=>?_;refine Zr 0 ?_;exact⟨v2,o2,c_ e2,aO n2,O.kp⟩
 refine Zi 2 (fun a U aT=>?_) fun a U aT=>?_
 ·have hX:bF aq aA n=[kw aq [91],kw aq [93]]:=(if_neg ao).trans ((if_neg ay).trans ((if_neg aF).trans ((if_pos aT).trans rfl)));rw[hX] at hN ⊢;refine Xb 2 [1,1] fun b a w O U=>?_;refine Yc 0 (vW [[91],[93]] _ ai (St.aI O) (O.mZ (l:=[[91],[93]]) 0 rfl) (aO hN)) fun v2 o2 e2 n2 a w O U=>?_;refine Zr 0 ?_;exact⟨v2,o2,c_ e2,aO n2,O.kp⟩
 refine Zi 2 (fun a U bm=>?_) fun a U bm=>?_
 ·have hX:bF aq aA n=[kw aq [40],kw aq [45,62],kw aq [41]]:=(if_neg ao).trans ((if_neg ay).trans ((if_neg aF).trans ((if_neg aT).trans ((if_pos bm).trans rfl))));rw[hX] at hN ⊢;refine Xb 2 [1,1] fun b a w O U=>?_;refine Yc 0 (vW [[40],[45,62],[41]] _ ai (St.aI O) (O.mZ (l:=[[40],[45,62],[41]]) 0 rfl) (aO hN)) fun v2 o2 e2 n2 a w O U=>?_;refine Zr 0 ?_;exact⟨v2,o2,c_ e2,aO n2,O.kp⟩
 have hX:bF aq aA n=if aA n=0 then [] else if aA n=3∨aA n=4 then [kw aq [40],⟨aA n,n,0⟩,kw aq [41]] else [⟨aA n,n,0⟩]:=(if_neg ao).trans ((if_neg ay).trans ((if_neg aF).trans ((if_neg aT).trans ((if_neg bm).trans (rfl)))));rw[hX] at hN ⊢;refine Yc 1 (Mn _ n) fun va l d hrd a w O U=>?_;refine Zb 6 fun ed a w O U=>?_;refine Zg 1 (bA (O.rd 1 rfl)) fun a U=>?_;refine Zi 1 (fun a U bl=>?_) fun a U bl=>?_
 ·have hk:aA n=0:=by unfold aA;rw[hrd];cases l with|nil=>rfl|cons t l=>exact absurd bl (by simp;omega)
  rw[if_pos hk] at hN ⊢;refine Zr 0 ?_;exact⟨vo,out,(cB _).symm,rfl,O.kp⟩
 obtain⟨t,l',rfl⟩:∃t l',l=t::l':=by cases l with|nil=>exact absurd rfl bl|cons t l=>exact⟨t,l,rfl⟩
 have hk:aA n=t.kind:=by unfold aA;rw[hrd]
 have B6:=XE hrd t jL;rw[hk,if_neg B6] at hN ⊢;refine Zg 1 (bw 0 (O.rd 1 rfl) aw) fun a U=>?_;refine Zh 1 (O.bW 1 rfl) (show (t::l')[0]?=some t from rfl) fun a U=>?_;refine Zw 7 fun a U=>?_;refine Zi 0 (fun bN=>?_) fun bN=>?_
 ·rw[if_pos bN] at hN ⊢;refine Xb 2 [3,3] fun b a w O U=>?_;refine Yc 0 (uJ [40] _ (St.aI O) (O.mZ (l:=[[40]]) 0 rfl) (aO hN)) fun v2 o2 e2 n2 a w O U=>?_;refine Yc 3 (uM t.kind n (St.aI O) trivial (aO (ak hN n2))) fun v3 o3 e3 n3 a w O U=>?_;refine Xb 2 [1,1] fun b a w O U=>?_;refine Yc 0 (uJ [41] _ (St.aI O) (O.mZ (l:=[[41]]) 0 rfl) (aO (ak hN (ak n2 n3)))) fun v4 o4 e4 n4 a w O U=>?_;refine Zr 0 ?_;exact⟨v4,o4,c_ (ak e4 (ak e3 e2)),aO (ak n4 (ak n3 n2)),O.kp⟩
 ·rw[if_neg bN] at hN ⊢;have O:=O.q [2,2];refine Yc 3 (uM t.kind n (St.aI O) trivial (aO hN)) fun v3 o3 e3 n3 a w O U=>?_;refine Zr 0 ?_;exact⟨v3,o3,c_ e3,aO n3,O.kp⟩
def FU (x:W):SP 90 [.agg (av.cells x).toArray] (mx aq aA x.er) (fun _ _=>True):=by
 intro bs vo out Z hA hR hN;have O:=St.init hA;have hX:mx aq aA x.er=if aA x.name=0 then [] else if aA x.name=3∨aA x.name=4 then [⟨aA x.name,x.name,0⟩] else [kw aq [96],⟨aA x.name,x.name,0⟩,kw aq [96]]:=by unfold mx Gl;rw[W.cf];rfl
 rw[hX] at hN ⊢;refine aS func90 ntmps90 fun a U=>?_;refine Zb 3 fun v1 a w O U=>?_;refine Yc 0 (Mn _ x.name) fun va l d hrd a w O U=>?_;refine Zb 6 fun ed a w O U=>?_;refine Zg 1 (bA (O.rd 1 rfl)) fun a U=>?_;refine Zi 1 (fun a U bl=>?_) fun a U bl=>?_
 ·have hk:aA x.name=0:=by unfold aA;rw[hrd];cases l with|nil=>rfl|cons t l=>exact absurd bl (by simp;omega)
  rw[if_pos hk] at hN ⊢;refine Zr 0 ?_;exact⟨vo,out,(cB _).symm,rfl,O.kp⟩
 obtain⟨t,l',rfl⟩:∃t l',l=t::l':=by cases l with|nil=>exact absurd rfl bl|cons t l=>exact⟨t,l,rfl⟩
 have hk:aA x.name=t.kind:=by unfold aA;rw[hrd]
 have B6:=XE hrd t jL;rw[hk,if_neg B6] at hN ⊢;refine Zg 1 (bw 0 (O.rd 1 rfl) aw) fun a U=>?_;refine Zh 1 (O.bW 1 rfl) (show (t::l')[0]?=some t from rfl) fun a U=>?_;refine Zw 7 fun a U=>?_;refine Zi 0 (fun bN=>?_) fun bN=>?_
 ·rw[if_pos bN] at hN ⊢;refine Zv 4 fun a U=>?_;have O:=O.q [3,3];refine Yc 0 (uM t.kind x.name (St.aI O) trivial (aO hN)) fun v3 o3 e3 n3 a w O U=>?_;refine Zr 0 ?_;exact⟨v3,o3,c_ e3,aO n3,O.kp⟩
 ·rw[if_neg bN] at hN ⊢;refine Xb 2 [4,4] fun b a w O U=>?_;refine Yc 0 (uJ [96] _ (St.aI O) (O.mZ (l:=[[96]]) 0 rfl) (aO hN)) fun v2 o2 e2 n2 a w O U=>?_;refine Yc 4 (uM t.kind x.name (St.aI O) trivial (aO (ak hN n2))) fun v3 o3 e3 n3 a w O U=>?_;refine Xb 2 [1,1] fun b a w O U=>?_;refine Yc 0 (uJ [96] _ (St.aI O) (O.mZ (l:=[[96]]) 0 rfl) (aO (ak hN (ak n2 n3)))) fun v4 o4 e4 n4 a w O U=>?_;refine Zr 0 ?_;exact⟨v4,o4,c_ (ak e4 (ak e3 e2)),aO (ak n4 (ak n3 n2)),O.kp⟩
def nz (w:List UInt8):List (List Tk)→List Tk
 | []=>[]
 |a::l=>kw aq w::(a++nz w l)
def jT (w:List UInt8):List (List Tk)→List Tk
 | []=>[]
 |a::l=>a++nz w l
def PW (w:List UInt8):∀ps:List TP,ju aq w ps=nz w (ps.map Prod.fst)
 | []=>rfl
 |p::l=>by rw[ju,PW w l];rfl
def l_ (w:List UInt8)(ps:List TP):bq aq w ps=jT w (ps.map Prod.fst):=by
 cases ps with
 |nil=>rfl
 |cons p l=>rw[bq,PW];rfl
def sj (w:List UInt8)(i:Nat)(l:List (List Tk)):List Tk:=if i=0 then jT w l else nz w (l.drop i)
def KN {w:List UInt8}{i:Nat}{l:List (List Tk)}{y:List Tk}(h:l[i]?=some y):sj w i l=(if i=0 then [] else [kw aq w])++(y++sj w (i+1) l):=by
 unfold sj;rw[if_neg (Nat.succ_ne_zero i)]
 by_cases h0:i=0
 ·subst h0;rw[if_pos rfl,if_pos rfl]
  cases l with
  |nil=>cases h
  |cons a l=>cases h;rfl
 ·rw[if_neg h0,if_neg h0,qH h];rfl
def O3 {w:List UInt8}{i:Nat}{l:List (List Tk)}(h:l.length≤i):sj w i l=[]:=by
 unfold sj;rw[ia h]
 split
 ·rename_i h0;subst h0;rw[kj (Nat.le_zero.1 h)];rfl
 ·rfl
def zi (bs g:Nat)(vals:List Value)(Xe:an)(avn:List Tk)(ro:World→List Nat→Prop):Prop:=∀{vo:Value} {out:List Tok} {Z:World},bT Z [.ob bs 37 [vo],ax vo 44 aM out,Xe]→ro Z (az [.ob bs 37 [vo],ax vo 44 aM out,Xe])→out.length+avn.length≤1000000000000→
 aH prog g vals.toArray Z (fun v w'=>∃(v2:Value) (eT:List Tok),eT.map bP=out.map bP++avn∧eT.length=out.length+avn.length∧St Z (az [.ob bs 37 [vo],ax vo 44 aM out,Xe]) w' [.ob bs 37 [v2],ax v2 44 aM eT,Xe])
def bS.eU {Z w:World}{M:List Nat}{e f g:an}{B:List an}{x:W}(h:bS Z M x)(O:St Z M w (e::f::g::B)):bS w (az [e,f,g]) x:=bS.now (St.front (A:=[e,f,g]) O) h
def SP.one {f:Nat}{y:W}{avn:List Tk}(h:SP f [.agg (av.cells y).toArray] avn (fun w M=>bS w M y))(bs:Nat):zi bs f ([ptr (aa bs)]++[.agg (av.cells y).toArray]++[]) (an.bx []) avn (fun w M=>bS w M y):=by
 intro vo out Z hA hR hN;have O:=St.init hA;refine aH.mono (h (St.aI O) (hR.df O) hN) ?_;rintro v w' ⟨v2,o2,e2,n2,hS⟩;exact⟨v2,o2,e2,n2,O.call2 hS⟩
structure Fn (bs gf:Nat)(fs cs:List Value)(Xe:an)(l:List W)(avn:W→List Tk):Prop where
 call:∀args w,(callFunc gf args).run prog w=.ok (.enter gf args) w
 one:∀y∈l,zi bs gf (fs++[.agg (av.cells y).toArray]++cs) Xe (avn y) (fun w M=>bS w M y)
def q9 {bs gf:Nat}{fs cs:List Value}{Xe:an}{l:List W}{avn:W→List Tk}(sep:List UInt8)(vl:Value)(hf:Fn bs gf fs cs Xe l avn){vo:Value}{out:List Tok}{Z:World}(hA:bT Z [.ob bs 37 [vo],ax vo 44 aM out,Xe])(hT:aG Z (az [.ob bs 37 [vo],ax vo 44 aM out,Xe]) vl av l)(hR:∀y∈l,bS Z (az [.ob bs 37 [vo],ax vo 44 aM out,Xe]) y)(hN:out.length+(jT sep (l.map avn)).length≤1000000000000):
  aH prog 83 #[ptr (aa bs),str sep,vl,.func (.func gf) fs.toArray cs.toArray] Z (fun v w'=>∃(v2:Value) (eT:List Tok),eT.map bP=out.map bP++jT sep (l.map avn)∧eT.length=out.length+(jT sep (l.map avn)).length∧St Z (az [.ob bs 37 [vo],ax vo 44 aM out,Xe]) w' [.ob bs 37 [v2],ax v2 44 aM eT,Xe]):=by
 have O:=St.init hA;have hll:=aG.gi hT;refine aS func83 ntmps83 fun a U=>?_;refine Zv 1 fun a U=>?_;refine cl (fun (s:Nat×Value×List Tok) a w'=>match s with| (i,v2,o2)=>(i≤l.length∧o2.map bP++sj sep i (l.map avn)=out.map bP++jT sep (l.map avn)∧o2.length+(sj sep i (l.map avn)).length=out.length+(jT sep (l.map avn)).length)∧St Z (az [.ob bs 37 [vo],ax vo 44 aM out,Xe]) w' [.ob bs 37 [v2],ax v2 44 aM o2,Xe]∧Fr a 27 [(0,ptr (aa bs)),(1,str sep),(2,vl),(3,.func (.func gf) fs.toArray cs.toArray),(8,i64 i)]) (fun (s:Nat×Value×List Tok)=>match s with| (i,v2,o2)=>l.length - i) (0,vo,out) ⟨⟨dN _,rfl,rfl⟩,O,U.su⟩ ?_;rintro⟨i,v2,o2⟩ a w ⟨⟨hi,he,hn⟩,O,U⟩;refine Zg 2 (bA hT) fun a U=>?_;refine Zi 1 (fun a U ao=>?_) fun a U ao=>?_
 ·obtain⟨y,hy⟩:=dM (l:=l) (i:=i) V;have hm:=bV hy;have hX:(l.map avn)[i]?=some (avn y):=by rw[List.getElem?_map,hy];rfl
  rw[KN hX] at he hn;refine Zi 2 (fun a U ay=>?_) fun a U ay=>?_
  ·rw[if_neg (show ¬i=0 by omega)] at he hn;refine Xb 3 [1,1] fun b a w O U=>?_;refine Yc 0 (uJ sep _ (St.aI O) (O.mZ (l:=[sep]) 0 rfl) (aO (And.intro hn hN))) fun v3 o3 e3 n3 a w O U=>?_;have O:=O.d [2];refine Zg 3 (bw i hT V) fun a U=>?_;refine Zh 0 hT hy fun a U=>?_;refine eP U (fM U rfl (U.af rfl) rfl rfl hf.call (hf.one y hm (St.gT O) ((hR y hm).eU O) (aO (And.intro hn (And.intro hN n3))))) ?_;rintro a _ w ⟨v4,o4,e4,n4,hS⟩ U;have O:=O.k3 hS;refine Zv 3 fun a U=>?_;exact⟨(i+1,v4,o4),⟨⟨V,by rw[e4,e3,←he];simp only[List.append_assoc],aO (And.intro n4 (And.intro n3 hn))⟩,O,U.su⟩,by dsimp only;omega⟩
  ·rw[if_pos (show i=0 by omega)] at he hn;refine Zg 3 (bw i hT V) fun a U=>?_;refine Zh 0 hT hy fun a U=>?_;refine eP U (fM U rfl (U.af rfl) rfl rfl hf.call (hf.one y hm (St.gT O) ((hR y hm).eU O) (aO (And.intro hn hN)))) ?_;rintro a _ w ⟨v4,o4,e4,n4,hS⟩ U;have O:=O.k3 hS;refine Zv 3 fun a U=>?_;exact⟨(i+1,v4,o4),⟨⟨V,by rw[e4,←he];simp only[List.append_assoc,List.nil_append],aO (And.intro n4 hn)⟩,O,U.su⟩,by dsimp only;omega⟩
 ·refine Zr 0 ?_;rw[O3 (by rw[dW];omega)] at he hn;exact⟨v2,o2,by rw[←he,cB],hn,O⟩
def vM {bs gf:Nat}{fs cs:List Value}{Xe:an}{l:List W}{avn:W→List Tk}(vl:Value)(hf:Fn bs gf fs cs Xe l avn){vo:Value}{out:List Tok}{Z:World}(hA:bT Z [.ob bs 37 [vo],ax vo 44 aM out,Xe])(hT:aG Z (az [.ob bs 37 [vo],ax vo 44 aM out,Xe]) vl av l)(hR:∀y∈l,bS Z (az [.ob bs 37 [vo],ax vo 44 aM out,Xe]) y)(hN:out.length+(kw aq [123]::(jT [59] (l.map avn)++[kw aq [125]])).length≤1000000000000):
  aH prog 27 #[ptr (aa bs),vl,.func (.func gf) fs.toArray cs.toArray] Z (fun v w'=>∃(v2:Value) (eT:List Tok),eT.map bP=out.map bP++(kw aq [123]::(jT [59] (l.map avn)++[kw aq [125]]))∧eT.length=out.length+(kw aq [123]::(jT [59] (l.map avn)++[kw aq [125]])).length∧St Z (az [.ob bs 37 [vo],ax vo 44 aM out,Xe]) w' [.ob bs 37 [v2],ax v2 44 aM eT,Xe]):=by
 have O:=St.init hA;have hll:=aG.gi hT;refine aS func27 ntmps27 fun a U=>?_;refine Yz 2 hN fun b v1 o1 e1 n1 a w O U=>?_;refine Zv 1 fun a U=>?_;refine cl (fun (s:Nat×Value×List Tok) a w'=>match s with| (i,v2,o2)=>(i≤l.length∧o2.map bP++sj [59] i (l.map avn)=o1.map bP++jT [59] (l.map avn)∧o2.length+(sj [59] i (l.map avn)).length=o1.length+(jT [59] (l.map avn)).length)∧St Z (az [.ob bs 37 [vo],ax vo 44 aM out,Xe]) w' [.ob bs 37 [v2],ax v2 44 aM o2,Xe]∧Fr a 30 [(0,ptr (aa bs)),(1,vl),(2,.func (.func gf) fs.toArray cs.toArray),(6,i64 i)]) (fun (s:Nat×Value×List Tok)=>match s with| (i,v2,o2)=>l.length - i) (0,v1,o1) ⟨⟨dN _,rfl,rfl⟩,O,U.su⟩ ?_;rintro⟨i,v2,o2⟩ a w ⟨⟨hi,he,hn⟩,O,U⟩;refine Zg 2 (bA hT) fun a U=>?_;refine Zi 1 (fun a U ao=>?_) fun a U ao=>?_
 ·obtain⟨y,hy⟩:=dM (l:=l) (i:=i) V;have hm:=bV hy;have hX:(l.map avn)[i]?=some (avn y):=by rw[List.getElem?_map,hy];rfl
  rw[KN hX] at he hn;refine Zi 2 (fun a U ay=>?_) fun a U ay=>?_
  ·rw[if_neg (show ¬i=0 by omega)] at he hn;refine Yz 2 (And.intro hn (And.intro n1 hN)) fun b v3 o3 e3 n3 a w O U=>?_;refine Zg 3 (bw i hT V) fun a U=>?_;refine Zh 0 hT hy fun a U=>?_;refine eP U (fM U rfl (U.af rfl) rfl rfl hf.call (hf.one y hm (St.gT O) ((hR y hm).eU O) (aO (And.intro hn (And.intro hN (And.intro n1 n3)))))) ?_;rintro a _ w ⟨v4,o4,e4,n4,hS⟩ U;have O:=O.k3 hS;refine Zv 3 fun a U=>?_;exact⟨(i+1,v4,o4),⟨⟨V,by rw[e4,e3,←he];simp only[List.append_assoc],aO (And.intro n4 (And.intro n3 hn))⟩,O,U.su⟩,by dsimp only;omega⟩
  ·rw[if_pos (show i=0 by omega)] at he hn;refine Zg 3 (bw i hT V) fun a U=>?_;refine Zh 0 hT hy fun a U=>?_;refine eP U (fM U rfl (U.af rfl) rfl rfl hf.call (hf.one y hm (St.gT O) ((hR y hm).eU O) (aO (And.intro hn (And.intro n1 hN))))) ?_;rintro a _ w ⟨v4,o4,e4,n4,hS⟩ U;have O:=O.k3 hS;refine Zv 3 fun a U=>?_;exact⟨(i+1,v4,o4),⟨⟨V,by rw[e4,←he];simp only[List.append_assoc,List.nil_append],aO (And.intro n4 hn)⟩,O,U.su⟩,by dsimp only;omega⟩
 ·rw[O3 (by rw[dW];omega)] at he hn;refine Xb 2 [1,1] fun b a w O U=>?_;refine Yc 0 (uJ [125] _ (St.aI O) (O.mZ (l:=[[125]]) 0 rfl) (aO (ak hn (ak n1 hN)))) fun v3 o3 e3 n3 a w O U=>?_;refine Zr 0 ?_;have O:=O.d [2];rw[cB] at he;exact⟨v3,o3,c_ (ak e3 (ak he e1)),aO (ak n3 (ak hn n1)),O⟩
set_option maxHeartbeats 4000000
abbrev gx (x:W):World→List Nat→Prop:=fun w M=>bS w M x
def og {x:W}{a b:X}(h:x.er.ae=[a,b]):∃y z,x.ae=[y,z]∧y.er=a∧z.er=b:=by
 rw[W.cq] at h
 match x.ae,h with
 | [y,z],h=>cases h;exact⟨y,z,rfl,rfl,rfl⟩
def B0 {x:W}{a:X}(h:x.er.ae=[a]):∃y,x.ae=[y]∧y.er=a:=by
 rw[W.cq] at h
 match x.ae,h with
 | [y],h=>cases h;exact⟨y,rfl,rfl⟩
def Kj {x:W}{a b c:X}(h:x.er.ae=[a,b,c]):∃y z u,x.ae=[y,z,u]∧y.er=a∧z.er=b∧u.er=c:=by
 rw[W.cq] at h
 match x.ae,h with
 | [y,z,u],h=>cases h;exact⟨y,z,u,rfl,rfl,rfl,rfl⟩
def acP {n:X}(h:ff aU n=true)(hk:n.kind=54):∃a b,n.ae=[a,b]∧ff aU a=true∧ff aU b=true:=by
 obtain⟨k,s,n,l⟩:=n;obtain rfl:k=54:=hk;rw[ff.eq_def] at h;simp only[aQ] at h;have h:=h.2;rw[if_neg ai,if_neg ai,aQ] at h
 match l,h.2 with
 | [a,b],h=>rw[aQ] at h;exact⟨a,b,rfl,h.1,h.2⟩
 | [],h=>cases h
 | [_],h=>cases h
 |_::_::_::_,h=>cases h
def arf {k:Int}{s:List UInt8}{n:Int}{a b:X}(hk:k=54):gZ aq aA (.mk k s n [a,b])=cY aq (gZ aq aA a)++cY aq (gZ aq aA b):=by subst hk;rw[gZ];rfl
def alY {n:X}(hk:¬n.kind=54):gZ aq aA n=bF aq aA n.name:=by
 obtain⟨k,s,n,l⟩:=n;rw[gZ.eq_def];exact if_neg hk
def Hg {x:W}{avn:List Tk}(h:SP 129 [.agg (av.cells x).toArray] avn (gx x)):SP 128 [.agg (av.cells x).toArray] (cY aq avn) (gx x):=by
 intro bs vo out Z hA hR hN;have O:=St.init hA;refine aS func128 ntmps128 fun a U=>?_;unfold cY at hN;refine Xb 1 [1,1] fun v1 a w O U=>?_;refine Yz 2 hN fun b v1r o1 e1 n1 a w O U=>?_;refine Yc 2 (h (St.aI O) (hR.df O) (aO (ak n1 hN))) fun v2r o2 e2 n2 a w O U=>?_;refine Yz 2 (ak n1 (ak n2 hN)) fun b v3r o3 e3 n3 a w O U=>?_;refine Zr 0 ?_;exact⟨v3r,o3,c_ (ak e3 (ak e2 e1)),aO (ak n3 (ak n2 n1)),O.kp⟩
def oH {x:W}{avn:List Tk}(h:SP 164 [.agg (av.cells x).toArray] avn (gx x)):SP 131 [.agg (av.cells x).toArray] (cY aq avn) (gx x):=by
 intro bs vo out Z hA hR hN;have O:=St.init hA;refine aS func131 ntmps131 fun a U=>?_;unfold cY at hN;refine Xb 1 [1,1] fun v1 a w O U=>?_;refine Yz 2 hN fun b v1r o1 e1 n1 a w O U=>?_;refine Yc 2 (h (St.aI O) (hR.df O) (aO (ak n1 hN))) fun v2r o2 e2 n2 a w O U=>?_;refine Yz 2 (ak n1 (ak n2 hN)) fun b v3r o3 e3 n3 a w O U=>?_;refine Zr 0 ?_;exact⟨v3r,o3,c_ (ak e3 (ak e2 e1)),aO (ak n3 (ak n2 n1)),O.kp⟩
def amQ (m:Nat)(ih:∀x:W,aL x.er≤m→ff aU x.er=true→SP 129 [.agg (av.cells x).toArray] (gZ aq aA x.er) (gx x))(x:W)(hx:aL x.er≤m+1)(ht:ff aU x.er=true):SP 129 [.agg (av.cells x).toArray] (gZ aq aA x.er) (gx x):=by
 intro bs vo out Z hA hR hN;have O:=St.init hA;refine aS func129 ntmps129 fun a U=>?_;refine Xb 1 [1,1] fun v1 a w O U=>?_;refine Zi 3 (fun a U ao=>?_) fun a U ao=>?_
 ·rw[alY (by rw[W.a8];exact ao),W.cf] at hN ⊢;refine Yc 3 (jd x.name (St.aI O) trivial (aO hN)) fun v1r o1 e1 n1 a w O U=>?_;refine Zr 0 ?_;exact⟨v1r,o1,c_ e1,aO n1,O.kp⟩
 obtain⟨a1,b1,hs,ha,hb⟩:=acP ht (by rw[W.a8];exact Classical.not_not.1 ao);obtain⟨y,z,ke,rfl,rfl⟩:=og hs;have aY:x.ae[0]?=some y:=by rw[ke];rfl
 have bC:x.ae[1]?=some z:=by rw[ke];rfl
 have jQ:=dO aY;have oU:=dO bC;have hR0:=hR.bK y (bV aY);have hR1:=hR.bK z (bV bC);have hX:gZ aq aA x.er=cY aq (gZ aq aA y.er)++cY aq (gZ aq aA z.er):=by
  obtain⟨xk,xs,xn,xa,xc,xh,xl⟩:=x;obtain rfl:xl=[y,z]:=ke;rw[bM];exact arf (Classical.not_not.1 ao)
 rw[hX] at hN ⊢;refine Zg 3 (b_ hR.aK aY) fun a U=>?_;refine Zh 0 hR.aK aY fun a U=>?_;refine Yc 0 (Hg (ih y V ha) (St.aI O) (hR0.df O) (aO hN)) fun v2r o2 e2 n2 a w O U=>?_;refine Zg 3 (b_ hR.aK bC) fun a U=>?_;refine Zh 0 hR.aK bC fun a U=>?_;refine Yc 0 (Hg (ih z V hb) (St.aI O) (hR1.df O) (aO (ak n2 hN))) fun v3r o3 e3 n3 a w O U=>?_;refine Zr 0 ?_;exact⟨v3r,o3,c_ (ak e3 e2),aO (ak n3 n2),O.kp⟩
def F0:∀(m:Nat) (x:W),aL x.er≤m→ff aU x.er=true→SP 129 [.agg (av.cells x).toArray] (gZ aq aA x.er) (gx x)
 |0,x,hx,_=>by have:=dx x.er;omega
 |m+1,x,hx,ht=>amQ m (F0 m) x hx ht
def Vf (k:Int)(x:W)(ht:lp aU k x.er=true):SP 86 [.agg (av.cells x).toArray] (uU aq aA x.er) (gx x):=by
 intro bs vo out Z hA hR hN;have O:=St.init hA;obtain⟨y,hs,hy⟩:∃y,x.ae=[y]∧ff aU y.er=true:=by
  simp only[lp,aQ] at ht;have h:=ht.2;rw[W.cq] at h
  match hxs:x.ae,h with
  | [y],h=>exact⟨y,rfl,h⟩
 have aY:x.ae[0]?=some y:=by rw[hs];rfl
 have hR0:=hR.bK y (bV aY);have hX:uU aq aA x.er=bF aq aA x.name++(kw aq [58,58]::gZ aq aA y.er):=by unfold uU sub;rw[W.cq,hs,W.cf];rfl
 rw[hX] at hN ⊢;refine aS func86 ntmps86 fun a U=>?_;refine Xb 1 [1,1] fun v1 a w O U=>?_;refine Yc 3 (jd x.name (St.aI O) trivial (aO hN)) fun v1r o1 e1 n1 a w O U=>?_;refine Yz 2 (ak n1 hN) fun b v2r o2 e2 n2 a w O U=>?_;refine Zg 3 (b_ hR.aK aY) fun a U=>?_;refine Zh 0 hR.aK aY fun a U=>?_;refine Yc 0 (F0 _ y (bQ _) hy (St.aI O) (hR0.df O) (aO (ak n1 (ak n2 hN)))) fun v3r o3 e3 n3 a w O U=>?_;refine Zr 0 ?_;exact⟨v3r,o3,c_ (ak e3 (ak e2 e1)),aO (ak n3 (ak n2 n1)),O.kp⟩
def adj (bs tb:Nat)(y:W):zi bs 84 ([]++[.agg (av.cells y).toArray]++[ptr (aa tb)]) (.ob tb 64 [ptr (aa bs)]) (bF aq aA y.name) (gx y):=by
 intro vo out Z hA hR hN;have O:=St.init hA;show aH prog 84 #[.agg (av.cells y).toArray,ptr (aa tb)] Z _;refine aS func84 ntmps84 fun a U=>?_;refine Xb 1 [1,1,1] fun v1 a w O U=>?_;refine Yc 3 (jd y.name (St.aI O) trivial (aO hN)) fun v2 o2 e2 n2 a w O U=>?_;refine Zr 0 ?_;exact⟨v2,o2,c_ e2,aO n2,O.kp⟩
def E1 (bs tb:Nat)(y:W):zi bs 130 ([]++[.agg (av.cells y).toArray]++[ptr (aa tb)]) (.ob tb 64 [ptr (aa bs)]) (bF aq aA y.name) (gx y):=by
 intro vo out Z hA hR hN;have O:=St.init hA;show aH prog 130 #[.agg (av.cells y).toArray,ptr (aa tb)] Z _;refine aS func130 ntmps130 fun a U=>?_;refine Xb 1 [1,1,1] fun v1 a w O U=>?_;refine Yc 3 (jd y.name (St.aI O) trivial (aO hN)) fun v2 o2 e2 n2 a w O U=>?_;refine Zr 0 ?_;exact⟨v2,o2,c_ e2,aO n2,O.kp⟩
def Pp (l:List W):((l.map W.er).map (jM aq aA)).map Prod.fst=l.map fun y=>bF aq aA y.name:=by
 rw[List.map_map,List.map_map];exact List.map_congr_left fun y _=>by show bF aq aA y.er.name=_;rw[W.cf]
def U6 (x:W):SP 26 [.agg (av.cells x).toArray] (rl aq aA x.er) (gx x):=by
 intro bs vo out Z hA hR hN;have O:=St.init hA;have hX:rl aq aA x.er=if x.kind=0 then [] else kw aq [40]::(jT [44] (x.ae.map fun y=>bF aq aA y.name)++[kw aq [41]]):=by
  unfold rl;rw[W.a8,W.cq,l_,Pp];rfl
 rw[hX] at hN ⊢;refine aS func26 ntmps26 fun a U=>?_;refine Zb 1 fun tb a w O U=>?_;refine Xb 1 [2,2] fun v1 a w O U=>?_;refine Zi 3 (fun a U ao=>?_) fun a U ao=>?_
 ·rw[if_pos ao];refine Zr 0 ?_;exact⟨vo,out,(cB _).symm,rfl,O.kp⟩
 rw[if_neg ao] at hN ⊢;refine Yz 2 hN fun b v1r o1 e1 n1 a w O U=>?_;have O:=O.q [0,0,1];refine Yc 4 (q9 [44] x.h.v ⟨call84,fun y hy=>adj bs tb y⟩ (St.gT O) (hR.aK.eU O) (fun y hy=>(hR.bK y hy).eU O) (aO (ak n1 hN))) fun v2r o2 e2 n2 a w O U=>?_;refine Yz 2 (ak n1 (ak n2 hN)) fun b v3r o3 e3 n3 a w O U=>?_;refine Zr 0 ?_;exact⟨v3r,o3,c_ (ak e3 (ak e2 e1)),aO (ak n3 (ak n2 n1)),O.kp⟩
def aqA (bs tb:Nat)(p:W)(ht:q7 aU p.er=true):zi bs 87 ([]++[.agg (av.cells p).toArray]++[ptr (aa tb)]) (.ob tb 64 [ptr (aa bs)]) (ns aq aA p.er).1 (gx p):=by
 intro vo out Z hA hR hN;have O:=St.init hA;obtain⟨y,hs⟩:∃y,p.ae=[y]:=by
  simp only[q7,aQ] at ht;have h:=ht.2;rw[W.cq] at h
  match hxs:p.ae,h with
  | [y],h=>exact⟨y,rfl⟩
 have aY:p.ae[0]?=some y:=by rw[hs];rfl
 have hX:(ns aq aA p.er).1=bF aq aA p.name++bF aq aA y.name:=by unfold ns sub;rw[W.cq,hs,W.cf];show _++bF aq aA y.er.name=_;rw[W.cf]
 rw[hX] at hN ⊢;show aH prog 87 #[.agg (av.cells p).toArray,ptr (aa tb)] Z _;refine aS func87 ntmps87 fun a U=>?_;refine Xb 1 [1,1,1] fun v1 a w O U=>?_;refine Yc 3 (jd p.name (St.aI O) trivial (aO hN)) fun v1r o1 e1 n1 a w O U=>?_;refine Zd 0 [1,0,1,1,0,1,3] fun w O=>?_;refine Zg 3 (b_ hR.aK aY) fun a U=>?_;refine Zh 1 hR.aK aY fun a U=>?_;refine Yc 0 (jd y.name (St.aI O) trivial (aO (ak n1 hN))) fun v2r o2 e2 n2 a w O U=>?_;refine Zr 0 ?_;exact⟨v2r,o2,c_ (ak e2 e1),aO (ak n2 n1),O.kp⟩
def EP (n:X):Prop:=bu aU n=true∨cK aU n=true
abbrev TE (x:W):List Tk:=(au aq aA x.er).1
abbrev TR (w:List UInt8)(x:W):List Tk:=(eS aq aA w x.er).1
def TQ (x:W):List Tk:=bq aq cn (e_ aq aA x.er)
def TS (x:W):List Tk:=if x.kind=40∨x.kind=41 then TE x else cY aq (TE x)
def ar5 {n:X}(h:EP n)(hk:n.kind=50):∃a,n.ae=[a]∧EP a:=by
 rcases h with h|h
 ·have hV:=jw h;clear h;cases hV<;>(exfalso;simp [ag,X.kind] at hk;done)
 ·have hV:=k8 h;clear h;cases hV<;>first| (exfalso;simp [ag,X.kind] at hk;done)|exact⟨_,rfl,.inr ‹_›⟩
def aos {n:X}(h:EP n)(hk:n.kind=46):∀a∈n.ae,EP a:=by
 rcases h with h|h
 ·have hV:=jw h;clear h;cases hV<;>(exfalso;simp [ag,X.kind] at hk;done)
 ·have hV:=k8 h;clear h
  cases hV with
  |con _ h=>exact fun a ha=>.inr (h a ha)
  |_=>exfalso;simp [ag,X.kind] at hk;done
def ajf {n:X}(h:EP n)(hk:n.kind=22):∃a b,n.ae=[a,b]∧EP a∧EP b:=by
 rcases h with h|h
 ·have hV:=jw h;clear h
  cases hV with
  |app h1 h2=>exact⟨_,_,rfl,.inl h1,.inl h2⟩
  |_=>exfalso;simp [ag,X.kind] at hk;done
 ·have hV:=k8 h;clear h;cases hV<;>(exfalso;simp [ag,X.kind] at hk;done)
def Hl {n:X}(h:EP n)(hk:n.kind=31∨n.kind=48∨n.kind=32∨n.kind=49):∀a∈n.ae,EP a:=by
 rcases h with h|h
 ·have hV:=jw h;clear h
  cases hV with
  |tup h _=>exact fun a ha=>.inl (h a ha)
  |lst h=>exact fun a ha=>.inl (h a ha)
  |_=>exfalso;simp [ag,X.kind] at hk;done
 ·have hV:=k8 h;clear h
  cases hV with
  |tup h _=>exact fun a ha=>.inr (h a ha)
  |lst h=>exact fun a ha=>.inr (h a ha)
  |_=>exfalso;simp [ag,X.kind] at hk;done
def FP (f:X):Prop:=∃e,f.ae=[e]∧EP e
def VT {n:X}(h:EP n)(hk:n.kind=35∨n.kind=51):∀f∈n.ae,FP f:=by
 rcases h with h|h
 ·have hV:=jw h;clear h
  cases hV with
  |make _ h=>intro f hf;obtain⟨s,e,rfl,_,he⟩:=EB (h f hf);exact⟨e,rfl,.inl he⟩
  |_=>exfalso;simp [ag,X.kind] at hk;done
 ·have hV:=k8 h;clear h
  cases hV with
  |make _ h=>intro f hf;obtain⟨s,e,rfl,_,he⟩:=Fl (h f hf);exact⟨e,rfl,.inr he⟩
  |_=>exfalso;simp [ag,X.kind] at hk;done
def aaA {n:X}(h:EP n)(hk:n.kind=36):∃a l,n.ae=a::l∧EP a∧∀f∈l,FP f:=by
 rcases h with h|h
 ·have hV:=jw h;clear h
  cases hV with
  |put _ h1 _ h=>exact⟨_,_,rfl,.inl h1,fun f hf=>by obtain⟨s,e,rfl,_,he⟩:=EB (h f hf);exact⟨e,rfl,.inl he⟩⟩
  |_=>exfalso;simp [ag,X.kind] at hk;done
 ·have hV:=k8 h;clear h;cases hV<;>(exfalso;simp [ag,X.kind] at hk;done)
def ard {n:X}(h:EP n)(hk:n.kind=33):∃a o,n.ae=[a,o]∧EP a:=by
 rcases h with h|h
 ·have hV:=jw h;clear h
  cases hV with
  |left h1 _=>exact⟨_,_,rfl,.inl h1⟩
  |_=>exfalso;simp [ag,X.kind] at hk;done
 ·have hV:=k8 h;clear h;cases hV<;>(exfalso;simp [ag,X.kind] at hk;done)
def ac1 {n:X}(h:EP n)(hk:n.kind=34):∃o a,n.ae=[o,a]∧EP a:=by
 rcases h with h|h
 ·have hV:=jw h;clear h
  cases hV with
  |right _ h1=>exact⟨_,_,rfl,.inl h1⟩
  |_=>exfalso;simp [ag,X.kind] at hk;done
 ·have hV:=k8 h;clear h;cases hV<;>(exfalso;simp [ag,X.kind] at hk;done)
def ach {n:X}(h:EP n)(hk:n.kind=25):∃p e,n.ae=[p,e]∧(∀a∈p.ae,EP a)∧EP e:=by
 rcases h with h|h
 ·have hV:=jw h;clear h
  cases hV with
  |lam _ h1 h2=>exact⟨_,_,rfl,fun a ha=>.inr (h1 a ha),.inl h2⟩
  |_=>exfalso;simp [ag,X.kind] at hk;done
 ·have hV:=k8 h;clear h;cases hV<;>(exfalso;simp [ag,X.kind] at hk;done)
def ac8 {n:X}(h:EP n)(hk:n.kind=26):∃q e,n.ae=[q,e]∧(∀a∈q.ae,dT aU a=true)∧EP e:=by
 rcases h with h|h
 ·have hV:=jw h;clear h
  cases hV with
  |elet h1 _ h2=>exact⟨_,_,rfl,h1,.inl h2⟩
  |_=>exfalso;simp [ag,X.kind] at hk;done
 ·have hV:=k8 h;clear h;cases hV<;>(exfalso;simp [ag,X.kind] at hk;done)
def aqq {n:X}(h:EP n)(hk:n.kind=27):∃a b c,n.ae=[a,b,c]∧EP a∧EP b∧EP c:=by
 rcases h with h|h
 ·have hV:=jw h;clear h
  cases hV with
  |eif h1 h2 h3=>exact⟨_,_,_,rfl,.inl h1,.inl h2,.inl h3⟩
  |_=>exfalso;simp [ag,X.kind] at hk;done
 ·have hV:=k8 h;clear h;cases hV<;>(exfalso;simp [ag,X.kind] at hk;done)
def akc {n:X}(h:EP n)(hk:n.kind=28):∃a l,n.ae=a::l∧EP a∧∀x∈l,qu aU x=true:=by
 rcases h with h|h
 ·have hV:=jw h;clear h
  cases hV with
  |ecase h1 h2=>exact⟨_,_,rfl,.inl h1,h2⟩
  |_=>exfalso;simp [ag,X.kind] at hk;done
 ·have hV:=k8 h;clear h;cases hV<;>(exfalso;simp [ag,X.kind] at hk;done)
def adL {n:X}(h:EP n)(hk:n.kind=30):∀x∈n.ae,oX aU x=true:=by
 rcases h with h|h
 ·have hV:=jw h;clear h
  cases hV with
  |edo h1 _ _=>exact h1
  |_=>exfalso;simp [ag,X.kind] at hk;done
 ·have hV:=k8 h;clear h;cases hV<;>(exfalso;simp [ag,X.kind] at hk;done)
def Uk:∀l:List X,pt aU l=true→l.length % 2=0
 | [],_=>rfl
 | [o],h=>by simp [pt,nB] at h
 |o::a::l,h=>by
  simp only[pt,nB,aQ] at h;have:=Uk l h.2.2;simp only[bg];omega
def RO:∀l:List X,nO aU l=true→l.length % 2=0
 | [],_=>rfl
 | [o],h=>by simp [nO,mA] at h
 |o::a::l,h=>by
  simp only[nO,mA,aQ] at h;have:=RO l h.2.2;simp only[bg];omega
def YC {n:X}(h:EP n)(hk:n.kind=23∨n.kind=47):∃a l,n.ae=a::l∧EP a∧(∀i b,l[2 * i+1]?=some b→EP b)∧l.length % 2=0:=by
 rcases h with h|h
 ·have hV:=jw h;clear h
  cases hV with
  |ops h1 h2 h3=>exact⟨_,_,rfl,.inl h1,fun i b hb=>.inl ((Mg (I:=aq) (kd:=aA) h2).2.1 i b hb),Uk _ h2⟩
  |_=>exfalso;simp [ag,X.kind] at hk;done
 ·have hV:=k8 h;clear h
  cases hV with
  |ops h1 h2 h3=>exact⟨_,_,rfl,.inr h1,fun i b hb=>.inr ((M3 (I:=aq) (kd:=aA) h2).2.1 i b hb),RO _ h2⟩
  |_=>exfalso;simp [ag,X.kind] at hk;done
def arV {n:X}(h:oX aU n=true):(n.kind=40→∃a e,n.ae=[a,e]∧EP a∧EP e)∧(n.kind=41→∃q,n.ae=[q]∧∀a∈q.ae,dT aU a=true)∧(n.kind≠40→n.kind≠41→EP n):=by
 have hV:=DB h;clear h
 cases hV with
 |exp h1 h2 h3=>exact⟨fun h=>absurd h h2,fun h=>absurd h h3,fun _ _=>.inl h1⟩
 |gen h1 h2=>exact⟨fun _=>⟨_,_,rfl,.inr h1,.inl h2⟩,fun h=>by simp [ag,X.kind] at h,fun h=>absurd rfl h⟩
 |slet h1 _=>exact⟨fun h=>by simp [ag,X.kind] at h,fun _=>⟨_,rfl,h1⟩,fun _ h=>absurd rfl h⟩
def GP (g:X):Prop:=∃c e,g.ae=[c,e]∧(c.kind=0∨c.kind≠0∧EP c)∧EP e
def aaP {n:X}(h:fD aU n=true):∃g q,n.ae=[g,q]∧(∀x∈g.ae,GP x)∧∀a∈q.ae,dT aU a=true:=by
 have hV:=Gq h;clear h
 cases hV with
 |plain h1 h2 _=>exact⟨_,_,rfl,fun x hx=>by cases List.mem_singleton.1 hx;exact⟨_,_,rfl,.inl rfl,.inl h1⟩,h2⟩
 |guards _ h1 h2 _=>
  refine⟨_,_,rfl,fun x hx=>?_,h2⟩;obtain⟨c,e,rfl,hc,he⟩:=h1 x hx;refine⟨c,e,rfl,.inr ⟨fun h0=>?_,.inl hc⟩,.inl he⟩;have hV:=jw hc;clear hc;cases hV<;>(simp [ag,X.kind] at h0;done)
def adu {n:X}(h:qu aU n=true):∃p r,n.ae=[p,r]∧EP p∧fD aU r=true:=by
 obtain⟨p,r,rfl,h1,h2⟩:=HA h;exact⟨p,r,rfl,.inr h1,h2⟩
def CP' (c:X):Prop:=∃p r,c.ae=[p,r]∧(∀a∈p.ae,EP a)∧fD aU r=true
def agy {n:X}(h:dT aU n=true):(n.kind=15→∃p r,n.ae=[p,r]∧EP p∧fD aU r=true)∧(n.kind≠15→n.ae≠[]∧∀c∈n.ae,CP' c):=by
 have hV:=wJ h;clear h
 cases hV with
 |pat h1 _ h2=>exact⟨fun _=>⟨_,_,rfl,.inr h1,h2⟩,fun h=>absurd rfl h⟩
 |fn _ h1 h2 _=>
  refine⟨fun h=>by simp [ag,X.kind] at h,fun _=>⟨h1,fun c hc=>?_⟩⟩;obtain⟨ps,r,rfl,_,hp,hr⟩:=h2 c hc;exact⟨_,_,rfl,fun a ha=>.inr (hp a ha),hr⟩
def FH (l:List X):bI aq aA l=l.map (au aq aA):=by
 induction l with
 |nil=>rw[bI];rfl
 |cons a l ih=>rw[bI,ih];rfl
def ati (w:List UInt8)(l:List W):bq aq w (bI aq aA (l.map W.er))=jT w (l.map TE):=by
 rw[l_,FH,List.map_map,List.map_map];rfl
def OG {n:X}(h:dT aU n=true):e_ aq aA n≠[]:=by
 have hV:=wJ h;clear h
 cases hV with
 |pat _ _ _=>rw[ag,e_];simp
 | @fn s l j h0 h1 h2 h3=>
  rw[ag,e_.eq_def];simp only[if_neg (show ¬(13:Int)=15 by decide)]
  cases l with
  |nil=>exact absurd rfl h1
  |cons c l=>rw[fQ];simp
def HM (w:List UInt8)(a b:List (List Tk)):nz w (a++b)=nz w a++nz w b:=by
 induction a with
 |nil=>rfl
 |cons x a ih=>rw[ck,nz,ih,nz,ck,cC]
def U_ (w:List UInt8){a:List (List Tk)}(h:a≠[]):nz w a=kw aq w::jT w a:=by
 cases a with
 |nil=>exact absurd rfl h
 |cons x a=>rfl
def Q9 (w:List UInt8):∀l:List W,(∀d∈l,dT aU d.er=true)→nz w (l.map fun d=>bq aq w (e_ aq aA d.er))=nz w ((cU aq aA (l.map W.er)).map Prod.fst)
 | [],_=>by rw[bX,bX,cU];rfl
 |d::l,h=>by
  have hd:=OG (h d jL);rw[bf,bf,cU,cZ,HM,nz,Q9 w l (fun x hx=>h x (lz _ hx)),U_ w (a:=(e_ aq aA d.er).map Prod.fst) (by simpa using hd),l_,ck]
def HP (w:List UInt8)(l:List W)(h:∀d∈l,dT aU d.er=true):jT w (l.map fun d=>bq aq w (e_ aq aA d.er))=bq aq w (cU aq aA (l.map W.er)):=by
 rw[l_]
 cases l with
 |nil=>rw[bX,bX,cU];rfl
 |cons d l=>
  have hd:=OG (h d jL);rw[bf,bf,cU,cZ,jT,Q9 w l (fun x hx=>h x (lz _ hx)),l_]
  cases hq:e_ aq aA d.er with
  |nil=>exact absurd hq hd
  |cons p q=>rw[bf,ck,jT,jT,HM,cC]
structure SX (m:Nat):Prop where
 exp:∀x:W,aL x.er≤m→EP x.er→SP 164 [.agg (av.cells x).toArray] (TE x) (gx x)
 eqn:∀x:W,aL x.er≤m→dT aU x.er=true→SP 89 [.agg (av.cells x).toArray] (TQ x) (gx x)
 stm:∀x:W,aL x.er≤m→oX aU x.er=true→SP 199 [.agg (av.cells x).toArray] (TS x) (gx x)
 rhs:∀(s:List UInt8) (x:W),aL x.er≤m→fD aU x.er=true→SP 132 [str s,.agg (av.cells x).toArray] (TR s x) (gx x)
abbrev TF (x:W):List Tk:=(jn aq aA x.er).1
abbrev TA (x:W):List Tk:=(jS aq aA x.er).1
def qq {f bs:Nat}{l:List W}{avn:W→List Tk}(hc:∀args w,(callFunc f args).run prog w=.ok (.enter f args) w)(h:∀y∈l,SP f [.agg (av.cells y).toArray] (avn y) (gx y)):Fn bs f [ptr (aa bs)] [] (an.bx []) l avn:=⟨hc,fun y hy=>SP.one (h y hy) bs⟩
def anH {m:Nat}(ih:SX m)(bs tb:Nat)(x:W)(hx:aL x.er≤m)(hf:FP x.er):zi bs 216 ([]++[.agg (av.cells x).toArray]++[ptr (aa tb)]) (.ob tb 64 [ptr (aa bs)]) (TF x) (gx x):=by
 intro vo out Z hA hR hN;have O:=St.init hA;obtain⟨e,dX,he⟩:=hf;obtain⟨y,hs,rfl⟩:=B0 dX;have aY:x.ae[0]?=some y:=by rw[hs];rfl
 have jQ:=dO aY;have hR0:=hR.bK y (bV aY);have hX:TF x=bF aq aA x.name++(kw aq [61]::TE y):=by
  obtain⟨xk,xs,xn,xa,xc,xh,xl⟩:=x;obtain rfl:xl=[y]:=hs;unfold TF;rw[bM,bf,jn];rfl
 rw[hX] at hN ⊢;show aH prog 216 #[.agg (av.cells x).toArray,ptr (aa tb)] Z _;refine aS func216 ntmps216 fun a U=>?_;refine Xb 1 [1,1,1] fun v1 a w O U=>?_;refine Yc 3 (jd x.name (St.aI O) trivial (aO hN)) fun v1r o1 e1 n1 a w O U=>?_;refine Yz 2 (ak n1 hN) fun b v2r o2 e2 n2 a w O U=>?_;refine Zd 0 [1,0,1,1,1,3] fun w O=>?_;refine Zg 3 (b_ hR.aK aY) fun a U=>?_;refine Zh 0 hR.aK aY fun a U=>?_;refine Yc 0 (ih.exp y V he (St.aI O) (hR0.df O) (aO (ak n1 (ak n2 hN)))) fun v3r o3 e3 n3 a w O U=>?_;refine Zr 0 ?_;exact⟨v3r,o3,c_ (ak e3 (ak e2 e1)),aO (ak n3 (ak n2 n1)),O.kp⟩
def Mh {m:Nat}(ih:SX m)(l:List W)(vl:Value)(hl:∀y∈l,aL y.er≤m∧FP y.er):SP 197 [vl] (kw aq [123]::(jT [44] (l.map TF)++[kw aq [125]])) (fun w M=>aG w M vl av l∧∀y∈l,bS w M y):=by
 intro bs vo out Z hA hR hN;have O:=St.init hA;refine aS func197 ntmps197 fun a U=>?_;refine Xb 1 [1,1] fun tb a w O U=>?_;refine Yz 2 hN fun b v1r o1 e1 n1 a w O U=>?_;refine Yc 3 (q9 [44] vl ⟨call216,fun y hy=>anH ih bs tb y (hl y hy).1 (hl y hy).2⟩ (St.gT O) (hR.1.eU O) (fun y hy=>(hR.2 y hy).eU O) (aO (ak n1 hN))) fun v2r o2 e2 n2 a w O U=>?_;refine Yz 2 (ak n1 (ak n2 hN)) fun b v3r o3 e3 n3 a w O U=>?_;refine Zr 0 ?_;exact⟨v3r,o3,c_ (ak e3 (ak e2 e1)),aO (ak n3 (ak n2 n1)),O.kp⟩
def ll:Nat→List W→List Tk
 |_,[]=>[]
 |i,y::l=>(if i % 2=1 then mx aq aA y.er else cY aq (TE y))++ll (i+1) l
def Pr {m:Nat}(ih:SX m)(l:List W)(vl:Value)(hl:∀(i:Nat) (y:W),l[i]?=some y→i % 2=0→aL y.er≤m∧EP y.er):SP 196 [vl] (ll 0 l) (fun w M=>aG w M vl av l∧∀y∈l,bS w M y):=by
 intro bs vo out Z hA hR hN;have O:=St.init hA;have hT:=hR.1;have hll:=aG.gi hT;refine aS func196 ntmps196 fun a U=>?_;refine Zv 1 fun a U=>?_;refine cl (fun (s:Nat×Value×List Tok) a w'=>match s with| (i,v2,o2)=>(i≤l.length∧o2.map bP++ll i (l.drop i)=out.map bP++ll 0 l∧o2.length+(ll i (l.drop i)).length=out.length+(ll 0 l).length)∧St Z (az [.ob bs 37 [vo],ax vo 44 aM out]) w' [.ob bs 37 [v2],ax v2 44 aM o2]∧Fr a 26 [(0,ptr (aa bs)),(1,vl),(4,i64 i)]) (fun (s:Nat×Value×List Tok)=>match s with| (i,v2,o2)=>l.length - i) (0,vo,out) ⟨⟨dN _,rfl,rfl⟩,O,U.su⟩ ?_;rintro⟨i,v2,o2⟩ a w ⟨⟨hi,he,hn⟩,O,U⟩;refine Zg 2 (bA hT) fun a U=>?_;refine Zi 1 (fun a U ao=>?_) fun a U ao=>?_
 ·obtain⟨y,hy⟩:=dM (l:=l) (i:=i) V;have hm:=bV hy;rw[qH hy,ll] at he hn;refine Zv 1 fun a U=>?_;refine aZ U (Hv rfl (U.af rfl) (U.af rfl) V) fun a U=>?_;refine Zi 1 (fun a U ay=>?_) fun a U ay=>?_
  ·have h2:i % 2=1:=by have h3:((i % 2:Nat):Int)=1:=ay;omega
   rw[if_pos h2] at he hn;refine Zg 3 (bw i hT V) fun a U=>?_;refine Zh 0 hT hy fun a U=>?_;refine Yc 0 (FU y (St.aI O) trivial (aO (And.intro hn hN))) fun v3 o3 e3 n3 a w O U=>?_;refine Zv 3 fun a U=>?_;exact⟨(i+1,v3,o3),⟨⟨V,by rw[e3,←he,List.append_assoc],aO (And.intro n3 hn)⟩,O,U.su⟩,by dsimp only;omega⟩
  ·have h2:i % 2=0:=by have h3:¬((i % 2:Nat):Int)=1:=ay;omega
   rw[if_neg V] at he hn;refine Zg 3 (bw i hT V) fun a U=>?_;refine Zh 0 hT hy fun a U=>?_;refine Yc 0 (oH (ih.exp y (hl i y hy h2).1 (hl i y hy h2).2) (St.aI O) ((hR.2 y hm).df O) (aO (And.intro hn hN))) fun v3 o3 e3 n3 a w O U=>?_;refine Zv 3 fun a U=>?_;exact⟨(i+1,v3,o3),⟨⟨V,by rw[e3,←he,List.append_assoc],aO (And.intro n3 hn)⟩,O,U.su⟩,by dsimp only;omega⟩
 ·refine Zr 0 ?_;rw[ia V,ll] at he hn;exact⟨v2,o2,by rw[←he,cB],hn,O⟩
def NW {P:Program}{p:Code}{Q:Exit→Act→World→Prop}{a:Act}{w:World}{Js:Type}(avl:Js→Act→World→Prop)(hx:p.wp P (Exit.then (fun a w=>∃s,avl s a w) Q) a w)(hy:∀s a w,avl s a w→Q .normal a w):p.wp P Q a w:=
 wp_mono hx fun e a' w' h=>by
  cases e with
  |normal=>obtain⟨s,hs⟩:=h;exact hy s a' w' hs
  |_=>exact h
def J4 {l:List W}{P:X→Prop}(h:∀a∈l.map W.er,P a):∀y∈l,P y.er:=fun y hy=>h _ (List.mem_map_of_mem hy)
def jO {x:W}{P:X→Prop}(h:∀a∈x.er.ae,P a):∀y∈x.ae,P y.er:=J4 (by rw[←W.cq];exact h)
def kA {x y:W}(hy:y∈x.ae):aL y.er+1≤aL x.er:=by
 obtain⟨i,hi⟩:=List.mem_iff_getElem?.1 hy;exact dO hi
def sQ (s:List UInt8)(l:List W):List Tk:=fy (f_ aq aA s (l.map W.er))
def PL (s:List UInt8):sQ s []=[]:=by unfold sQ;rw[bX,f_];rfl
def aa6 (s:List UInt8){g c e:W}{l:List W}(h:g.ae=[c,e]):sQ s (g::l)=(if c.kind=0 then [] else kw aq [124]::TE c)++(kw aq s::(TE e++sQ s l)):=by
 obtain⟨xk,xs,xn,xa,xc,xh,xl⟩:=g;obtain rfl:xl=[c,e]:=h;unfold sQ;rw[bf,f_,fy,bM,bf,bf,mj];simp only[W.a8]
 split<;>simp only[cC,ck,cD]<;>rfl
def ajj (s:List UInt8){x y z:W}(h:x.ae=[y,z])(hq:∀d∈z.ae,dT aU d.er=true):TR s x=sQ s y.ae++(kw aq [119,104,101,114,101]::kw aq [123]::(jT [59] (z.ae.map TQ)++[kw aq [125]])):=by
 have hj:jT [59] (z.ae.map TQ)=bq aq cn (cU aq aA (z.ae.map W.er)):=HP cn z.ae hq;rw[hj];obtain⟨xk,xs,xn,xa,xc,xh,xl⟩:=x;obtain rfl:xl=[y,z]:=h;obtain⟨yk,ys,yn,ya,yc,yh,yl⟩:=y;obtain⟨zk,zs,zn,za,zc,zh,zl⟩:=z;show (eS aq aA s (W.er _)).1=_;rw[bM,bf,bf,bM,bM,eS]
 rfl
def aca {m:Nat}(ih:SX m)(s:List UInt8)(x:W)(hx:aL x.er≤m+1)(h:fD aU x.er=true):SP 132 [str s,.agg (av.cells x).toArray] (TR s x) (gx x):=by
 intro bs vo out Z hA hR hN;have O:=St.init hA;obtain⟨g,q,dX,hg,hq⟩:=aaP h;obtain⟨y,z,hs,rfl,rfl⟩:=og dX;have aY:x.ae[0]?=some y:=by rw[hs];rfl
 have bC:x.ae[1]?=some z:=by rw[hs];rfl
 have jQ:=dO aY;have oU:=dO bC;have hR0:=hR.bK y (bV aY);have hR1:=hR.bK z (bV bC);have hg:=jO hg;have hq:=jO hq;rw[ajj s hs hq] at hN ⊢;simp only[bt] at hN;have hll:=aG.gi hR0.aK;refine aS func132 ntmps132 fun a U=>?_;refine Xb 1 [1,1] fun v1 a w O U=>?_;refine Zv 1 fun a U=>?_;refine cl (fun (s':Nat×Value×List Tok) a w'=>match s' with| (i,v2,o2)=>(i≤y.ae.length∧o2.map bP++sQ s (y.ae.drop i)=out.map bP++sQ s y.ae∧o2.length+(sQ s (y.ae.drop i)).length=out.length+(sQ s y.ae).length)∧St Z (az [.ob bs 37 [vo],ax vo 44 aM out]) w' [.ob bs 37 [v2],ax v2 44 aM o2,.ob v1 28 (av.cells x)]∧Fr a 63 [(0,ptr (aa bs)),(1,str s),(5,ptr (aa v1)),(6,i64 i)]) (fun (s':Nat×Value×List Tok)=>match s' with| (i,v2,o2)=>y.ae.length - i) (0,vo,out) ⟨⟨dN _,rfl,rfl⟩,O,U.su⟩ ?_;rintro⟨i,v2,o2⟩ a w ⟨⟨hi,he,hn⟩,O,U⟩;refine Zg 3 (b_ hR.aK aY) fun a U=>?_;refine Zh 1 hR.aK aY fun a U=>?_;refine Zg 0 (bA hR0.aK) fun a U=>?_;refine Zi 1 (fun a U ao=>?_) fun a U ao=>?_
 ·obtain⟨u,hu⟩:=dM (l:=y.ae) (i:=i) V;have hum:=bV hu;have hzu:=kA hum;have hRu:=hR0.bK u hum;obtain⟨c0,e0,Eu,hcd,hed⟩:=hg u hum;obtain⟨c,e,hsu,rfl,rfl⟩:=og Eu;have pX:u.ae[0]?=some c:=by rw[hsu];rfl
  have vc:u.ae[1]?=some e:=by rw[hsu];rfl
  have ajy:=dO pX;have aro:=dO vc;have xD:=hRu.bK c (bV pX);have Lo:=hRu.bK e (bV vc);rw[qH hu,aa6 s hsu] at he hn;refine Zg 2 (b_ hR.aK aY) fun a U=>?_;refine Zh 1 hR.aK aY fun a U=>?_;refine Zg 1 (bw i hR0.aK V) fun a U=>?_;refine Zh 0 hR0.aK hu fun a U=>?_;refine Xb 2 [1,1] fun gv a w O U=>?_;refine Zg 2 (b_ hRu.aK pX) fun a U=>?_;refine Zh 1 hRu.aK pX fun a U=>?_;refine Zn 1 fun a U=>?_;refine k9 ?_;refine jx ?_;refine NW (fun (s':Value×List Tok) a w'=>match s' with| (v3,o3)=>(o3.map bP=o2.map bP++(if c.kind=0 then [] else kw aq [124]::TE c)∧o3.length=o2.length+(if c.kind=0 then [] else kw aq [124]::TE c).length)∧St Z (az [.ob bs 37 [vo],ax vo 44 aM out]) w' [.ob bs 37 [v3],ax v3 44 aM o3,.ob gv 28 (av.cells u),.ob v1 28 (av.cells x)]∧Fr a 63 [(0,ptr (aa bs)),(1,str s),(5,ptr (aa v1)),(6,i64 i),(7,ptr (aa gv))]) ?_ ?_
  ·refine Zi 0 (fun ay=>?_) fun ay=>?_
   ·rw[if_neg ay] at hn ⊢;refine Yz 2 (ak hn hN) fun b v3r o3 e3 n3 a w O U=>?_;refine Zg 3 (b_ hRu.aK pX) fun a U=>?_;refine Zh 0 hRu.aK pX fun a U=>?_;refine Yc 0 (ih.exp c V ((hcd.resolve_left (by rw[W.a8];exact ay)).2) (St.aI O) (xD.df O) (aO (ak hn (ak n3 hN)))) fun v4r o4 e4 n4 a w O U=>?_;refine Zv 0 ?_;exact⟨(v4r,o4),⟨c_ (ak e4 e3),aO (ak n4 n3)⟩,O,U.su⟩
   ·rw[if_pos (Classical.not_not.1 ay)];refine Zv 0 ?_;exact⟨(v2,o2),⟨(cB _).symm,rfl⟩,O,U.su⟩
  ·rintro⟨v3,o3⟩ a w ⟨⟨e3,n3⟩,O,U⟩;refine Xb 3 [1,1] fun b a w O U=>?_;refine Yc 0 (uJ s _ (St.aI O) (O.mZ (l:=[s]) 0 rfl) (aO (And.intro hn (And.intro n3 hN)))) fun v4r o4 e4 n4 a w O U=>?_;have O:=O.d [2];refine Zg 3 (b_ hRu.aK vc) fun a U=>?_;refine Zh 0 hRu.aK vc fun a U=>?_;refine Yc 0 (ih.exp e V hed (St.aI O) (Lo.df O) (aO (And.intro hn (And.intro n3 (And.intro n4 hN))))) fun v5r o5 e5 n5 a w O U=>?_;refine Zv 3 fun a U=>?_;have O:=O.d [2];exact⟨(i+1,v5r,o5),⟨⟨V,by rw[←he,e5,e4,e3];simp only[List.append_assoc,List.cons_append,List.nil_append],aO (And.intro n5 (And.intro n4 (And.intro n3 hn)))⟩,O,U.su⟩,by dsimp only;omega⟩
 ·rw[ia V,PL,cB] at he;rw[ia V,PL] at hn;refine Yz 2 (ak hn hN) fun b v1r o1 e1 n1 a w O U=>?_;refine Zg 3 (b_ hR.aK bC) fun a U=>?_;refine Zh 1 hR.aK bC fun a U=>?_;refine Zv 2 fun a U=>?_;have O:=O.eb;have O:=O.q [1,1];refine Yc 0 (vM z.h.v (qq call89 (fun d hd=>ih.eqn d (by have:=kA hd;omega) (hq d hd))) (St.gT O) (hR1.aK.eU O) (fun d hd=>(hR1.bK d hd).eU O) (aO (ak hn (ak n1 hN)))) fun v2r o2 e2 n2 a w O U=>?_;refine Zr 0 ?_;exact⟨v2r,o2,c_ (ak e2 (ak e1 he)),aO (ak n2 (ak n1 hn)),O.kp⟩
def akS {x y z:W}(h:x.ae=[y,z]):TA x=cY aq (TE y)++TR [45,62] z:=by
 obtain⟨xk,xs,xn,xa,xc,xh,xl⟩:=x;obtain rfl:xl=[y,z]:=h;show (jS aq aA (W.er _)).1=_;rw[bM,bf,bf,jS]
 rfl
def ajo {m:Nat}(ih:SX m)(bs tb:Nat)(x:W)(hx:aL x.er≤m)(hf:qu aU x.er=true):zi bs 198 ([]++[.agg (av.cells x).toArray]++[ptr (aa tb)]) (.ob tb 64 [ptr (aa bs)]) (TA x) (gx x):=by
 intro vo out Z hA hR hN;have O:=St.init hA;obtain⟨g,q,dX,hg,hq⟩:=adu hf;obtain⟨y,z,hs,rfl,rfl⟩:=og dX;have aY:x.ae[0]?=some y:=by rw[hs];rfl
 have bC:x.ae[1]?=some z:=by rw[hs];rfl
 have jQ:=dO aY;have oU:=dO bC;have hR0:=hR.bK y (bV aY);have hR1:=hR.bK z (bV bC);rw[akS hs] at hN ⊢;show aH prog 198 #[.agg (av.cells x).toArray,ptr (aa tb)] Z _;refine aS func198 ntmps198 fun a U=>?_;refine Xb 1 [1,1,1] fun v1 a w O U=>?_;refine Zd 0 [1,0,1,1,1,3] fun w O=>?_;refine Zg 3 (b_ hR.aK aY) fun a U=>?_;refine Zh 0 hR.aK aY fun a U=>?_;refine Yc 0 (oH (ih.exp y V hg) (St.aI O) (hR0.df O) (aO hN)) fun v1r o1 e1 n1 a w O U=>?_;refine Zd 0 [1,0,1,1,1,3] fun w O=>?_;refine Zg 3 (b_ hR.aK bC) fun a U=>?_;refine Zh 0 hR.aK bC fun a U=>?_;refine Yc 0 (ih.rhs [45,62] z V hq (St.aI O) (hR1.df O) (aO (ak n1 hN))) fun v2r o2 e2 n2 a w O U=>?_;refine Zr 0 ?_;exact⟨v2r,o2,c_ (ak e2 e1),aO (ak n2 n1),O.kp⟩
def aam {m:Nat}(ih:SX m)(x:W)(hx:aL x.er≤m+1)(hE:EP x.er→SP 164 [.agg (av.cells x).toArray] (TE x) (gx x))(h:oX aU x.er=true):SP 199 [.agg (av.cells x).toArray] (TS x) (gx x):=by
 intro bs vo out Z hA hR hN;have O:=St.init hA;obtain⟨p40,p41,p42⟩:=arV h;simp only[W.a8] at p40 p41 p42;refine aS func199 ntmps199 fun a U=>?_;refine Xb 1 [1,1] fun v1 a w O U=>?_;refine Zi 4 (fun a U ao=>?_) fun a U ao=>?_
 ·obtain⟨g,q,dX,hg,hq⟩:=p40 ao;obtain⟨y,z,hs,rfl,rfl⟩:=og dX;have aY:x.ae[0]?=some y:=by rw[hs];rfl
  have bC:x.ae[1]?=some z:=by rw[hs];rfl
  have jQ:=dO aY;have oU:=dO bC;have hR0:=hR.bK y (bV aY);have hR1:=hR.bK z (bV bC);have hX:TS x=cY aq (TE y)++(kw aq [60,45]::TE z):=by
   unfold TS;rw[if_pos (.inl ao)];obtain⟨xk,xs,xn,xa,xc,xh,xl⟩:=x;obtain rfl:xk=40:=ao;obtain rfl:xl=[y,z]:=hs;show (au aq aA (W.er _)).1=_;rw[bM,bf,bf,au];rfl
  rw[hX] at hN ⊢;refine Zg 3 (b_ hR.aK aY) fun a U=>?_;refine Zh 0 hR.aK aY fun a U=>?_;refine Yc 0 (oH (ih.exp y V hg) (St.aI O) (hR0.df O) (aO hN)) fun v1r o1 e1 n1 a w O U=>?_;refine Yz 2 (ak n1 hN) fun b v2r o2 e2 n2 a w O U=>?_;refine Zg 3 (b_ hR.aK bC) fun a U=>?_;refine Zh 0 hR.aK bC fun a U=>?_;refine Yc 0 (ih.exp z V hq (St.aI O) (hR1.df O) (aO (ak n1 (ak n2 hN)))) fun v3r o3 e3 n3 a w O U=>?_;refine Zr 0 ?_;exact⟨v3r,o3,c_ (ak e3 (ak e2 e1)),aO (ak n3 (ak n2 n1)),O.kp⟩
 refine Zi 2 (fun a U ay=>?_) fun a U ay=>?_
 ·obtain⟨q,dX,hq⟩:=p41 ay;obtain⟨y,hs,rfl⟩:=B0 dX;have aY:x.ae[0]?=some y:=by rw[hs];rfl
  have jQ:=dO aY;have hR0:=hR.bK y (bV aY);have hq:=jO hq;have hX:TS x=kw aq [108,101,116]::kw aq [123]::(jT [59] (y.ae.map TQ)++[kw aq [125]]):=by
   have hj:jT [59] (y.ae.map TQ)=bq aq cn (cU aq aA (y.ae.map W.er)):=HP cn y.ae hq;rw[hj];unfold TS;rw[if_pos (.inr ay)];obtain⟨xk,xs,xn,xa,xc,xh,xl⟩:=x;obtain rfl:xk=41:=ay;obtain rfl:xl=[y]:=hs;obtain⟨yk,ys,yn,ya,yc,yh,yl⟩:=y;show (au aq aA (W.er _)).1=_;rw[bM,bf,bM,au];rfl
  rw[hX] at hN ⊢;refine Yz 2 hN fun b v1r o1 e1 n1 a w O U=>?_;refine Zg 3 (b_ hR.aK aY) fun a U=>?_;refine Zh 1 hR.aK aY fun a U=>?_;refine Zv 2 fun a U=>?_;have O:=O.eb;have O:=O.q [1,1];refine Yc 0 (vM y.h.v (qq call89 (fun d hd=>ih.eqn d (by have:=kA hd;omega) (hq d hd))) (St.gT O) (hR0.aK.eU O) (fun d hd=>(hR0.bK d hd).eU O) (aO (ak n1 hN))) fun v2r o2 e2 n2 a w O U=>?_;refine Zr 0 ?_;exact⟨v2r,o2,c_ (ak e2 e1),aO (ak n2 n1),O.kp⟩
 have hX:TS x=cY aq (TE x):=if_neg (fun hh=>hh.elim ao ay);rw[hX] at hN ⊢;refine Yc 2 (oH (hE (p42 ao ay)) (St.aI O) (hR.df O) (aO hN)) fun v1r o1 e1 n1 a w O U=>?_;refine Zr 0 ?_;exact⟨v1r,o1,c_ e1,aO n1,O.kp⟩
abbrev TC (s:List UInt8)(c:W):List Tk:=(jF aq aA s c.er).1
def kG (l:List W):List Tk:=ie aq (bI aq aA (l.map W.er))
def BM:kG []=[]:=by unfold kG;rw[bX,bI];rfl
def OS (y:W)(l:List W):kG (y::l)=cY aq (TE y)++kG l:=by unfold kG;rw[bf,bI];rfl
def aoP (s:List UInt8){x y z:W}(h:x.ae=[y,z]):TC s x=bF aq aA s++(kG y.ae++TR [61] z):=by
 obtain⟨xk,xs,xn,xa,xc,xh,xl⟩:=x;obtain rfl:xl=[y,z]:=h;obtain⟨yk,ys,yn,ya,yc,yh,yl⟩:=y;show (jF aq aA s (W.er _)).1=_;rw[bM,bf,bf,bM,jF,←cC]
 rfl
def Yj (s:List UInt8)(l:List X):fQ aq aA s l=l.map (jF aq aA s):=by
 induction l with
 |nil=>rw[fQ];rfl
 |cons a l ih=>rw[fQ,ih];rfl
def acw {x:W}(hk:¬x.kind=15):TQ x=jT [59] (x.ae.map (TC x.name)):=by
 obtain⟨xk,xs,xn,xa,xc,xh,xl⟩:=x;unfold TQ;rw[bM,e_.eq_def];simp only[if_neg (show ¬xk=15 from hk)];rw[Yj,l_,List.map_map,List.map_map]
 rfl
def ahk {x y z:W}(hk:x.kind=15)(h:x.ae=[y,z]):TQ x=cY aq (TE y)++TR [61] z:=by
 obtain⟨xk,xs,xn,xa,xc,xh,xl⟩:=x;obtain rfl:xk=15:=hk;obtain rfl:xl=[y,z]:=h;unfold TQ;rw[bM,bf,bf,e_.eq_def];show (_++_)++[]=_;rw[cB];rfl
def agu {m:Nat}(ih:SX m)(x:W)(hx:aL x.er≤m+1)(h:dT aU x.er=true):SP 89 [.agg (av.cells x).toArray] (TQ x) (gx x):=by
 intro bs vo out Z hA hR hN;have O:=St.init hA;obtain⟨p15,pfn⟩:=agy h;simp only[W.a8] at p15 pfn;refine aS func89 ntmps89 fun a U=>?_;refine Xb 1 [1,1] fun v1 a w O U=>?_;refine Zi 3 (fun a U ao=>?_) fun a U ao=>?_
 ·obtain⟨g,q,dX,hg,hq⟩:=p15 ao;obtain⟨y,z,hs,rfl,rfl⟩:=og dX;have aY:x.ae[0]?=some y:=by rw[hs];rfl
  have bC:x.ae[1]?=some z:=by rw[hs];rfl
  have jQ:=dO aY;have oU:=dO bC;have hR0:=hR.bK y (bV aY);have hR1:=hR.bK z (bV bC);rw[ahk ao hs] at hN ⊢;refine Zg 3 (b_ hR.aK aY) fun a U=>?_;refine Zh 0 hR.aK aY fun a U=>?_;refine Yc 0 (oH (ih.exp y V hg) (St.aI O) (hR0.df O) (aO hN)) fun v1r o1 e1 n1 a w O U=>?_;refine Zg 3 (b_ hR.aK bC) fun a U=>?_;refine Zh 0 hR.aK bC fun a U=>?_;refine Yc 0 (ih.rhs [61] z V hq (St.aI O) (hR1.df O) (aO (ak n1 hN))) fun v2r o2 e2 n2 a w O U=>?_;refine Zr 0 ?_;exact⟨v2r,o2,c_ (ak e2 e1),aO (ak n2 n1),O.kp⟩
 have hcl:=jO (pfn ao).2;rw[acw ao] at hN ⊢;have hll:=aG.gi hR.aK;refine Zv 1 fun a U=>?_;refine cl (fun (s':Nat×Value×List Tok) a w'=>match s' with| (i,v2,o2)=>(i≤x.ae.length∧o2.map bP++sj [59] i (x.ae.map (TC x.name))=out.map bP++jT [59] (x.ae.map (TC x.name))∧o2.length+(sj [59] i (x.ae.map (TC x.name))).length=out.length+(jT [59] (x.ae.map (TC x.name))).length)∧St Z (az [.ob bs 37 [vo],ax vo 44 aM out]) w' [.ob bs 37 [v2],ax v2 44 aM o2,.ob v1 28 (av.cells x)]∧Fr a 69 [(0,ptr (aa bs)),(3,ptr (aa v1)),(4,i64 i)]) (fun (s':Nat×Value×List Tok)=>match s' with| (i,v2,o2)=>x.ae.length - i) (0,vo,out) ⟨⟨dN _,rfl,rfl⟩,O,U.su⟩ ?_;rintro⟨i,v2,o2⟩ a w ⟨⟨hi,he,hn⟩,O,U⟩;refine Zg 3 (bA hR.aK) fun a U=>?_;refine Zi 1 (fun a U ay=>?_) fun a U ay=>?_
 ·obtain⟨u,hu⟩:=dM (l:=x.ae) (i:=i) V;have hum:=bV hu;have hzu:=kA hum;have hRu:=hR.bK u hum;have hX:(x.ae.map (TC x.name))[i]?=some (TC x.name u):=by rw[List.getElem?_map,hu];rfl
  obtain⟨p0,r0,Eu,hpd,hrd⟩:=hcl u hum;obtain⟨p,r,hsu,rfl,rfl⟩:=og Eu;have pX:u.ae[0]?=some p:=by rw[hsu];rfl
  have vc:u.ae[1]?=some r:=by rw[hsu];rfl
  have ajy:=dO pX;have aro:=dO vc;have xD:=hRu.bK p (bV pX);have Lo:=hRu.bK r (bV vc);have hpd:=jO hpd;have hpl:=aG.gi xD.aK;rw[KN hX,aoP x.name hsu] at he hn;refine Zn 2 fun a U=>?_;refine k9 ?_;refine jx ?_;refine NW (fun (s':Value×List Tok) a w'=>match s' with| (v3,o3)=>(o3.map bP=o2.map bP++(if i=0 then [] else [kw aq [59]])∧o3.length=o2.length+(if i=0 then [] else [kw aq [59]]).length)∧St Z (az [.ob bs 37 [vo],ax vo 44 aM out]) w' [.ob bs 37 [v3],ax v3 44 aM o3,.ob v1 28 (av.cells x)]∧Fr a 69 [(0,ptr (aa bs)),(3,ptr (aa v1)),(4,i64 i)]) ?_ ?_
  ·refine Zi 0 (fun aF=>?_) fun aF=>?_
   ·rw[if_neg (show ¬i=0 by omega)] at hn ⊢;refine Yz 2 (ak hn hN) fun b v3r o3 e3 n3 a w O U=>?_;refine Zv 0 ?_;exact⟨(v3r,o3),⟨e3,n3⟩,O,U.su⟩
   ·rw[if_pos (show i=0 by omega)];refine Zv 0 ?_;exact⟨(v2,o2),⟨(cB _).symm,rfl⟩,O,U.su⟩
  ·rintro⟨v3,o3⟩ a w ⟨⟨e3,n3⟩,O,U⟩;refine Zg 3 (bw i hR.aK V) fun a U=>?_;refine Zh 0 hR.aK hu fun a U=>?_;refine Xb 2 [1,1] fun cv a w O U=>?_;refine Yc 3 (jd x.name (St.aI O) trivial (aO (ak hn (ak n3 hN)))) fun v4r o4 e4 n4 a w O U=>?_;refine Zv 1 fun a U=>?_;refine cl (fun (s':Nat×Value×List Tok) a w'=>match s' with| (k,v5,o5)=>(k≤p.ae.length∧o5.map bP++kG (p.ae.drop k)=o4.map bP++kG p.ae∧o5.length+(kG (p.ae.drop k)).length=o4.length+(kG p.ae).length)∧St Z (az [.ob bs 37 [vo],ax vo 44 aM out]) w' [.ob bs 37 [v5],ax v5 44 aM o5,.ob cv 28 (av.cells u),.ob v1 28 (av.cells x)]∧Fr a 69 [(0,ptr (aa bs)),(3,ptr (aa v1)),(4,i64 i),(5,ptr (aa cv)),(6,i64 k)]) (fun (s':Nat×Value×List Tok)=>match s' with| (k,v5,o5)=>p.ae.length - k) (0,v4r,o4) ⟨⟨dN _,rfl,rfl⟩,O,U.su⟩ ?_;rintro⟨k,v5,o5⟩ a w ⟨⟨hk,fm,dB⟩,O,U⟩;refine Zg 3 (b_ hRu.aK pX) fun a U=>?_;refine Zh 1 hRu.aK pX fun a U=>?_;refine Zg 0 (bA xD.aK) fun a U=>?_;refine Zi 1 (fun a U aT=>?_) fun a U aT=>?_
   ·obtain⟨t,ht⟩:=dM (l:=p.ae) (i:=k) V;have htm:=List.mem_of_getElem? ht;have hzt:=kA htm;rw[qH ht,OS] at fm dB;refine Zg 3 (b_ hRu.aK pX) fun a U=>?_;refine Zh 1 hRu.aK pX fun a U=>?_;refine Zg 1 (bw k xD.aK V) fun a U=>?_;refine Zh 0 xD.aK ht fun a U=>?_;refine Yc 0 (oH (ih.exp t V (hpd t htm)) (St.aI O) ((xD.bK t htm).df O) (aO (And.intro hn (And.intro n3 (And.intro n4 (And.intro dB hN)))))) fun v6r o6 e6 n6 a w O U=>?_;refine Zv 3 fun a U=>?_;exact⟨(k+1,v6r,o6),⟨⟨V,by rw[←fm,e6,List.append_assoc],aO (And.intro n6 dB)⟩,O,U.su⟩,by dsimp only;omega⟩
   ·rw[List.drop_eq_nil_of_le V,BM,List.append_nil] at fm;rw[List.drop_eq_nil_of_le V,BM] at dB;refine Zg 3 (b_ hRu.aK vc) fun a U=>?_;refine Zh 0 hRu.aK vc fun a U=>?_;refine Yc 0 (ih.rhs [61] r V hrd (St.aI O) (Lo.df O) (aO (And.intro hn (And.intro n3 (And.intro n4 (And.intro dB hN)))))) fun v6r o6 e6 n6 a w O U=>?_;refine Zv 3 fun a U=>?_;have O:=O.d [2];exact⟨(i+1,v6r,o6),⟨⟨V,by rw[←he,e6,fm,e4,e3];simp only[List.append_assoc],aO (And.intro n6 (And.intro dB (And.intro n4 (And.intro n3 hn))))⟩,O,U.su⟩,by dsimp only;omega⟩
 ·refine Zr 0 ?_;rw[O3 (by rw[dW];omega)] at he hn;exact⟨v2,o2,by rw[←he,cB],hn,O.kp⟩
def Rn (l:List X):fH aq aA l=l.map (jn aq aA):=by
 induction l with
 |nil=>rw[fH];rfl
 |cons a l ih=>rw[fH,ih];rfl
def T2 (l:List X):kY aq aA l=l.map (jS aq aA):=by
 induction l with
 |nil=>rw[kY];rfl
 |cons a l ih=>rw[kY,ih];rfl
def SU (l:List X):kU aq aA l=l.map (fun a=>if a.kind=40∨a.kind=41 then au aq aA a else (cY aq (au aq aA a).1,(au aq aA a).2)):=by
 induction l with
 |nil=>rw[kU];rfl
 |cons a l ih=>rw[kU,ih];rfl
def Lu (w:List UInt8)(l:List W):bq aq w (fH aq aA (l.map W.er))=jT w (l.map TF):=by
 rw[l_,Rn,List.map_map,List.map_map];rfl
def aiZ (w:List UInt8)(l:List W):bq aq w (kY aq aA (l.map W.er))=jT w (l.map TA):=by
 rw[l_,T2,List.map_map,List.map_map];rfl
def ag0 (w:List UInt8)(l:List W):bq aq w (kU aq aA (l.map W.er))=jT w (l.map TS):=by
 rw[l_,SU,List.map_map,List.map_map]
 congr 1
 refine List.map_congr_left fun y _=>?_;show (ite (y.er.kind=40∨y.er.kind=41) _ _:TP).1=_;unfold TS;rw[W.a8]
 split<;>rfl
def WS:∀(l:List W) (i:Nat),ll (i+2) l=ll i l
 | [],_=>rfl
 |y::l,i=>by
  rw[ll,ll,show i+2+1=(i+1)+2 by omega,WS l (i+1),show (i+2) % 2=i % 2 by omega]
def NI:∀l:List W,l.length % 2=0→kQ (eY aq aA (l.map W.er))=ll 1 l
 | [],_=>by rw[bX,eY];rfl
 | [_],h=>by simp at h
 |o::a::l,h=>by
  rw[bf,bf,eY,kQ,ll,ll,if_pos ai,if_neg ai,WS l 1,NI l (by simp only[bg] at h;omega)]
def amf {n:X}(h:EP n):n.kind=18∨n.kind=19∨n.kind=42∨n.kind=20∨n.kind=44∨n.kind=21∨n.kind=45∨n.kind=43∨n.kind=50∨n.kind=46∨n.kind=22∨n.kind=23∨n.kind=47∨n.kind=31∨n.kind=48∨n.kind=32∨n.kind=49∨n.kind=35∨n.kind=51∨n.kind=36∨n.kind=33∨n.kind=34∨n.kind=25∨n.kind=26∨n.kind=27∨n.kind=28∨n.kind=30:=by
 rcases h with h|h
 ·have hV:=jw h;clear h;cases hV<;>simp [ag,X.kind]
 ·have hV:=k8 h;clear h;cases hV<;>simp [ag,X.kind]
end Go.Proofs.YtdfccaonglmgpaaGreatDoor
