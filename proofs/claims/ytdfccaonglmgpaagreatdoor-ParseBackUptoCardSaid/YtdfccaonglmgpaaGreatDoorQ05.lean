/- Q05 -/
import Derived.Test.YtdfccaonglmgpaaGreatDoorQ01
import Derived.Test.YtdfccaonglmgpaaGreatDoorQ04
import Derived.Laws.MakeOwn
import Derived.Deep.Slices
import Derived.WideShapes
import Derived.Carry
import Derived.ChangeArms
import Derived.OpenShut
import Derived.Below
import Derived.WideLaws
import Derived.Lib.ConvBytes
import Derived.Test.YtdfccaonglmgpaaGreatDoorCards
import Derived.Test.YtdfccaonglmgpaaGreatDoorTie
import Derived.WalkKit
import Derived.ProofKit
import Derived.ChangeMaps5
import Derived.Stop.LaidErr
import Derived.Deep.DeepHandedRow
import Derived.Lib.LaidTab
import Derived.Maps.OwnSet
import Derived.Maps.Views
open Go.Proofs.Tryz
set_option linter.all false
namespace Go.Proofs.YtdfccaonglmgpaaGreatDoor
open Go
section
variable {P:Program} {o:Oper} {a:Act} {w Z:World} {v u:Value} {x y z:Operand} {t t':TypeId} {M:List Nat} {L:List an} {size n:Nat} {xs:List Value}
variable {ops:Array Oper} {Q:Exit→Act→World→Prop} {rest:List Oper} {S:World→Prop} {K:Act→World→Prop} {ks:List Nat} {F:List (Nat×Value)} {d:Nat}
def ct {j:Nat}{b:Bool}{dj:Nat}{oj:Oper}{g:Value}(U:Fr a n F)(hg:o.guard=some (j,b))(hj:ops[j]?=some oj)(hdj:oj.dst=some dj)(hv:lk F dj=some g)(hT:dk g b=true)
  (h:wpList P ops Q ({o with guard:=none}::rest) a w):wpList P ops Q (o::rest) a w:=by
 have hw:=sC U hg hj hdj hv;unfold wpList at h ⊢;rw[hw,hT,if_pos rfl];rw[if_pos (by simp [Region.wanted])] at h;exact h
def AA {k:Nat}{j:Nat}{b:Bool}{dj:Nat}{oj:Oper}{g:Value}(U:Fr a n F)(hg:o.guard=some (j,b))(hj:ops[j]?=some oj)(hdj:oj.dst=some dj)(hv:lk F dj=some g)(hT:dk g b=true)
  (h:dK P ops S K ({o with guard:=none}::rest) (k::ks) a w):dK P ops S K (o::rest) (k::ks) a w:=by
 have hw:=sC U hg hj hdj hv;have h':gn P ops S {o with guard:=none} k (dK P ops S K rest ks) a w:=h;show gn P ops S o k (dK P ops S K rest ks) a w;unfold gn at h' ⊢;rw[hw,hT,if_pos rfl];rw[if_pos (by simp [Region.wanted])] at h';exact h'
def da {p:Prop}{_:Decidable p}(h:p):dk (.bool (decide p)) true=true:=by simp [dk,h]
def mC {p:Prop}{_:Decidable p}(h:¬p):dk (.bool (decide p)) false=true:=by simp [dk,h]
end
open Go Go.WideShapes Go.Deep
def RM {α:Type}(E:fp α):∀{l:List α} {j:Nat} {u:Value},(flat E l)[j]?=some u→∃i k x,l[i]?=some x∧(E.cells x)[k]?=some u∧j=i * E.size+k
 | [],j,u,h=>by simp [flat] at h
 |x::l,j,u,h=>by
  have e:flat E (x::l)=E.cells x++flat E l:=by simp [flat]
  rw[e] at h
  by_cases hj:j< (E.cells x).length
  ·rw[List.getElem?_append_left hj] at h;exact⟨0,j,x,rfl,h,V⟩
  ·rw[List.getElem?_append_right V] at h;obtain⟨i,k,y,h1,h2,h3⟩:=RM E h;refine⟨i+1,k,y,by simpa using h1,h2,?_⟩;rw[E.len] at h3 hj;rw[Nat.add_mul];omega
section
variable {P:Program} {α:Type} {E:fp α} {Q:α→Prop}
end
def wf_i64 {n:Int}(h:(Lit.int .i64 n).wf=true): -9223372036854775808≤n∧n≤9223372036854775807:=by
 simp [Lit.wf,IntKind.min,IntKind.max] at h;exact⟨j4 h.1,j4 h.2⟩
def apV (s:ByteArray):Value.string s=str s.data.toList:=by simp [str]
section
variable {P:Program} {o:Oper} {a:Act} {w Z:World} {v u:Value} {x y z:Operand} {t t':TypeId} {M:List Nat} {L:List an} {size n:Nat} {xs:List Value}
def aoD {e:TypeId}{p:Option Addr}(d:Nat)(ht:P.underlying t=some (.pointer e)):(Op.equalIn (d+1) t (.pointer p) (.pointer none)).run P w=.ok (decide (p=none)) w:=by
 cases p<;>simp [Op.equalIn,run_underlying ht]
def anU {e:TypeId}{p:Option Addr}(ht:P.underlying t=some (.pointer e)):(Op.equal t (.pointer p) (.pointer none)).run P w=.ok (decide (p=none)) w:=aoD 9999 ht
def an7 {e:TypeId}{p:Option Addr}(ht:P.underlying t=some (.pointer e))(ho:o.op=.binOp .eql t x y t')(hx:a.eval x=.pointer p)(hy:a.eval y=.pointer none):QV P o a w (.bool (decide (p=none))):=by
 have hg:eqGuard .eql t x y (.pointer p) (.pointer none)=pure ():=rfl;simp [QV,execOp,ho,hx,hy,hg,binOp,anU ht]
def Y1 (v:Value)(i j s:Nat):Value:=match v with| .slice A _ c=>.slice (if c=i then A else A.map (·.add (i * s))) (j - i) (c - i)|v=>v
def Rd.KZ {i j:Nat}(hR:Rd w M v size n xs)(hij:i≤j)(hj:j≤n):Rd w M (Y1 v i j size) size (j - i) ((xs.drop (i * size)).take ((j - i) * size)):=by
 obtain⟨hl,A,cap,rfl,hc,hm,hn⟩:=hR;have hmul:(j - i) * size+i * size≤n * size:=by rw[←Nat.add_mul];exact Nat.mul_le_mul_right _ V
 refine⟨?_,_,cap - i,rfl,V,V,fun h0=>?_⟩
 ·rw[gW,List.length_drop,hl];omega
 ·obtain⟨ad,rfl,h1,h2,h3⟩:=hn V;have hci:¬cap=i:=V
  refine⟨ad.add (i * size),by simp [hci],by rw[block_add];exact h1,by rw[block_add];exact h2,fun q u hu=>?_⟩;rw[rN];refine h3 _ u ?_;rw[List.getElem?_take] at hu
  split at hu
  ·rw[List.getElem?_drop] at hu;exact hu
  ·cases hu
def aG.KZ {α:Type}{E:fp α}{l:List α}{i j:Nat}(hR:aG w M v E l)(hij:i≤j)(hj:j≤l.length):aG w M (Y1 v i j E.size) E ((l.drop i).take (j - i)):=by
 have:=Rd.KZ hR hij hj;rw[JN,Iy] at this;unfold aG;rw[gW,List.length_drop,show min (j - i) (l.length - i)=j - i by omega];exact this
end
def mX (b:Nat):Value:=.slice (some (aa b)) 1 1
section
variable {w Z:World} {M:List Nat} {L B:List an} {e f g h:an} {t:TypeId} {cs:List Value} {b:Nat} {v:Value}
def St.Cw (O:St Z M w L)(i:Nat)(hi:L[i]?=some (.ob b t cs)):Rd w [] (mX b) cs.length 1 cs:=by
 refine⟨aw,some (aa b),1,rfl,bQ _,ai,fun _=>⟨aa b,rfl,aw,an.arU (O.ok hi) rfl,fun j u hj=>O.cell i hi hj⟩⟩
def MG {m:Nat}(hR:Rd w M (mX b) m 1 cs){k:Nat}(hk:cs[k]?=some v):w.cell? ((aa b).add k)=some v:=Rd.cell hR hk
def IW {m:Nat}(hR:Rd w M (mX b) m 1 cs)(hk:cs[0]?=some v):w.cell? (aa b)=some v:=Rd.cell hR hk
def aja {m:Nat}(hR:Rd w M (mX b) m 1 cs):∀j u,cs[j]?=some u→w.cell? ((aa b).add j)=some u:=fun _ _ hj=>MG hR hj
def Rd.ba {m n:Nat}{xs:List Value}(h:Rd Z M v m n xs)(O:St Z M w L):Rd w [] v m n xs:=Rd.mono (Rd.now h O) (fun _ h=>by cases h)
end
section
variable {P:Program} {fn:Func} {a:Act} {w:World} {R:Value→World→Prop} {m k l q size:Nat} {L:List (Nat×Value)} {ty:TypeId} {ad:Addr} {cs:List Value} {v u:Value}
def alO (U:Fr a m L)(hr:fn.results=#[.cell l ty])(hu:lk L l=some (ptr ad))
  (ha:∀w,(isAgg ty).run P w=.ok true w) (hs:∀w,(sizeOf ty).run P w=.ok size w) (hc:∀j u,cs[j]?=some u→w.cell? (ad.add j)=some u) (hl:cs.length=size) (hR:R (.agg cs.toArray) w):rZ P fn R .ret a w:=by
 subst hl;refine⟨U.defs,.agg cs.toArray,?_,_,rfl,hR⟩;have e2:=U.get l _ hu;rw[Array.getD_eq_getD_getElem?] at e2;simp [results,hr,e2,ptr,asAddr,loadVar,ha,hs,run_loadCells_list w ad cs hc]
end
def zQ (pl:List (Nat×Nat)):List Value→List (Nat×Value)→List Value
 |cs,[]=>cs
 |cs,(i,v)::r=>zQ pl (cs.take (pl.getD i (0,0)).1++v.cells.toList++cs.drop ((pl.getD i (0,0)).1+v.cells.toList.length)) r
def BT (pl:List (Nat×Nat))(n:Nat):List (Nat×Value)→Bool
 | []=>true
 | (i,v)::r=>Nat.ble (i+1) pl.length&&Nat.beq v.cells.toList.length (pl.getD i (0,0)).2&&Nat.ble ((pl.getD i (0,0)).1+v.cells.toList.length) n&&BT pl n r
def Ov (pl:List (Nat×Nat))(place:Nat→Option (Nat×Nat))(hpl:∀i,i<pl.length→place i=some (pl.getD i (0,0))):∀(vs:List (Nat×Value)) (cs:List Value),BT pl cs.length vs=true→
  Instr.fill place cs.toArray vs=some (zQ pl cs vs).toArray
 | [],cs,_=>rfl
 | (i,v)::r,cs,h=>by
  simp only[BT,aQ] at h;obtain⟨⟨⟨h1,h2⟩,h3⟩,h4⟩:=h;have h1:=cX h1;have h2:=Nat.eq_of_beq_eq_true h2;have h3:=cX h3;have hp:=hpl i V;have a_:v.cells.size=v.cells.toList.length:=aw
  unfold Instr.fill;simp only[hp];have hb:(decide (v.cells.size≠(pl.getD i (0,0)).2)||decide ((pl.getD i (0,0)).1+v.cells.size>cs.toArray.size))=false:=by
   have e2:cs.toArray.size=cs.length:=aw
   rw[e2,a_,Bool.or_eq_false_iff];exact⟨decide_eq_false V,decide_eq_false V⟩
  simp only[hb,Bool.false_eq_true,if_false];have hfold:v.cells.zipIdx.foldl (fun cs (c,j)=>cs.setIfInBounds ((pl.getD i (0,0)).1+j) c) cs.toArray=(cs.take (pl.getD i (0,0)).1++v.cells.toList++cs.drop ((pl.getD i (0,0)).1+v.cells.toList.length)).toArray:=by
   have hf:=I1 v.cells.toList (pl.getD i (0,0)).1 0 (cs.take (pl.getD i (0,0)).1) (cs.drop (pl.getD i (0,0)).1) (by rw[gW];omega) (by rw[List.length_drop];omega);rw[List.take_append_drop,List.drop_drop] at hf;rw[←Array.foldl_toList,Array.toList_zipIdx];exact hf
  rw[hfold,Ov pl place hpl r _ (by
    have:(cs.take (pl.getD i (0,0)).1++v.cells.toList++cs.drop ((pl.getD i (0,0)).1+v.cells.toList.length)).length=cs.length:=by
      simp only[bt,gW,List.length_drop];omega
    rw[this];exact h4)]
  rfl
section
variable {P:Program} {o:Oper} {a:Act} {w Z:World} {v u:Value} {x y z:Operand} {t t':TypeId} {M:List Nat} {L:List an} {n:Nat} {F:List (Nat×Value)}
def amB {fs:Array Field}{parts:List (Nat×Operand)}{vs:List (Nat×Value)}{zv:Value}{pl:List (Nat×Nat)}{cs:List Value}(U:Fr a n F)(ht:P.underlying t=some (.struct fs))(hz:∀w,(zeroValue t).run P w=.ok zv w)
  (hp:BS P t pl) (hzc:zv.cells=cs.toArray) (ho:o.op=.build t parts.toArray) (hv:tD F parts=some vs) (hok:BT pl cs.length vs=true):QV P o a w (.agg (zQ pl cs vs).toArray):=
 JO (vs:=vs) ht hz (hp fs ht) ho (by rw[List.map_toArray,U.DW hv]) (by
   rw[hzc]
   exact Ov pl _ (fun i hi=>by simp [List.getElem?_eq_getElem hi]) vs cs hok)
def ars {m e size:Nat}{parts:List (Nat×Operand)}{vs:List (Nat×Value)}{zv:Value}{cs:List Value}(U:Fr a n F)(ht:P.underlying t=some (.array m e))(hz:∀w,(zeroValue t).run P w=.ok zv w)(hs:∀w,(sizeOf e).run P w=.ok size w)
  (hzc:zv.cells=cs.toArray) (ho:o.op=.build t parts.toArray) (hv:tD F parts=some vs) (hok:BT ((List.range m).map fun i=>(i * size,size)) cs.length vs=true):QV P o a w (.agg (zQ ((List.range m).map fun i=>(i * size,size)) cs vs).toArray):=by
 have hfill:Instr.fill (fun i=>some (i * size,size)) cs.toArray vs=some (zQ ((List.range m).map fun i=>(i * size,size)) cs vs).toArray:=
  Ov _ _ (fun i hi=>by
    have hi':i<m:=by simpa using hi
    simp [hi']) vs cs hok
 have hv':(parts.toArray.map fun (i,x)=>(i,a.eval x)).toList=vs:=by rw[List.map_toArray,U.DW hv]
 simp only[QV,execOp,ho,Sem.run_bind,Instr.build,hz,Result.andThen_ok,run_underlying ht,hs,hv',hzc,hfill]
 rfl
end
section
variable (P:Program) (ops:Array Oper) (ks:List Nat) (Z:World) (M:List Nat) (L0:List an) (K:Act→World→Prop)
abbrev StC:=List an ⊕ World
end
section
variable {P:Program} {ops:Array Oper} {ks:List Nat} {Z:World} {M:List Nat} {L0:List an} {K:Act→World→Prop}
variable {rest:List Oper} {o:Oper} {n d:Nat} {F:List (Nat×Value)} {v:Value} {a:Act} {σ:StC} {L:List an} {R:Value→World→Prop}
end
section
def Ev (ops:Array Oper)(ks ms:List Nat):Bool:=
 (List.range ops.size).all fun i=>
  (match ops[i]? with
    |some o=>kB o&&(o.after.all fun e=>!Region.binds .any e||decide (e.on<i))&&decide (ks.getD i 0≤3)
    |none=>false)&&
  (List.range i).all fun p=>
   (if (ms.getD i 0).testBit p then (match ops[i]? with
       |some o=>o.after.any fun e=>Region.binds .any e&&(e.on ==p||(Nat.blt p e.on&&(ms.getD e.on 0).testBit p))
       |none=>false)
     else (match ops[p]?,ops[i]? with
       |some op,some oi=>oi.apart ops op&&sT (ks.getD p 0) (ks.getD i 0)&&(ks.getD p 0 != 3||ks.getD i 0 ==0||ks.getD i 0 ==3)
       |_,_=>false))&&(ks.getD p 0 != 3||ks.getD i 0 ==0||ks.getD i 0 ==3)
variable {ops:Array Oper} {ks ms:List Nat}
def Yy (h:Ev ops ks ms=true){i:Nat}(hi:i<ops.size):
  (match ops[i]? with
    |some o=>kB o&&(o.after.all fun e=>!Region.binds .any e||decide (e.on<i))&&decide (ks.getD i 0≤3)
    |none=>false)=true:=by
 have h1:=List.all_eq_true.1 h i (List.mem_range.2 hi);simp only[aQ] at h1;exact h1.1
def PC (h:Ev ops ks ms=true){i p:Nat}(hi:i<ops.size)(hp:p<i):
  (if (ms.getD i 0).testBit p then (match ops[i]? with
      |some o=>o.after.any fun e=>Region.binds .any e&&(e.on ==p||(Nat.blt p e.on&&(ms.getD e.on 0).testBit p))
      |none=>false)
    else (match ops[p]?,ops[i]? with
      |some op,some oi=>oi.apart ops op&&sT (ks.getD p 0) (ks.getD i 0)&&(ks.getD p 0 != 3||ks.getD i 0 ==0||ks.getD i 0 ==3)
      |_,_=>false))=true∧(ks.getD p 0 != 3||ks.getD i 0 ==0||ks.getD i 0 ==3)=true:=by
 have h1:=List.all_eq_true.1 h i (List.mem_range.2 hi);rw[aQ] at h1;have h2:=List.all_eq_true.1 h1.2 p (List.mem_range.2 hp);rw[aQ] at h2;exact h2
def aqC (h:Ev ops ks ms=true):∀(n i p:Nat),i<n→i<ops.size→p<i→(ms.getD i 0).testBit p=true→reach ops n p i=true:=by
 intro n
 induction n with
 |zero=>intro i p hi;omega
 |succ n ih=>
  intro i p hin hi hp hb;have h2:=(PC h hi hp).1;rw[if_pos hb] at h2;have ha:=Yy h hi;unfold reach
  cases ho:ops[i]? with
  |none=>rw[ho] at h2;cases h2
  |some o=>
   rw[ho] at h2 ha;simp only[aQ] at ha;obtain⟨e,he,hq⟩:=Array.any_eq_true'.1 h2;rw[aQ,fW,aQ] at hq;refine Array.any_eq_true'.2 ⟨e,he,?_⟩;rw[aQ,fW];refine⟨hq.1,?_⟩;rcases hq.2 with h3| ⟨h3,h4⟩
   ·exact .inl h3
   ·have hlt:e.on<i:=by
     have:=Array.all_eq_true'.1 ha.1.2 e he;rw[hq.1] at this
     simpa using this
    exact .inr (ih e.on p V V (by simpa [Nat.blt_eq] using h3) h4)
def am7 (h:Ev ops ks ms=true):zG ops ks=true:=by
 refine List.all_eq_true.2 fun i hi=>?_;have hi:=List.mem_range.1 hi;rw[aQ];refine⟨Yy h hi,List.all_eq_true.2 fun p hp=>?_⟩;have hp:=List.mem_range.1 hp;have h2:=PC h hi hp;rw[aQ];refine⟨?_,h2.2⟩;unfold IC;rw[fW]
 by_cases hb:(ms.getD i 0).testBit p=true
 ·exact .inl (aqC h _ _ _ hi hi hp hb)
 ·rw[if_neg hb] at h2;exact .inr h2.1
variable (P:Program)
def Pf {P:Program}{id:Nat}{l:List Oper}{Q:Exit→Act→World→Prop}{a:Act}{w:World}(ks ms:List Nat)(S:World→Prop)(hm:P.follows .mixedOrders=true)(hlook:Ev l.toArray ks ms=true)
  (hS:S w.drew) (h:dK P l.toArray S (Q .normal) l ks a w.drew):(Code.region id l.toArray true).wp P Q a w:=
 RD ks S hm (am7 hlook) hS h
end
def FT (α:Type):={H:Type}→World→α→DataW H→Prop
def Xl {α:Type}(P:Program)(t:TypeId)(E:fp α)(Q:FT α)(fuel:Nat):Prop:=
 ∀{H:Type} (enc:TypeId×Value→H) (w:World) (sp:Nat→Bool) (cs:List Value) (x:DataW H×List MemPlace),
  DataW.trod enc P w 0 sp true fuel t cs=some x→∃a:α,cs=E.cells a∧Q w a x.1
def Oi {α:Type}(Q:FT α){H:Type}(w:World)(l:List α)(d:DataW H):Prop:=
 (d=.nil∧l=[])∨∃elems spare,d=.slice elems spare∧elems.length=l.length∧∀(i:Nat) a e,l[i]?=some a→elems[i]?=some e→Q w a e
section
variable {P:Program} {α:Type} {E:fp α} {Q:FT α} {H:Type} {enc:TypeId×Value→H} {w:World} {sp:Nat→Bool} {cs:List Value} {x:DataW H×List MemPlace} {t e:TypeId}
def aiQ {n:Nat}(ht:P.underlying t=some (.slice e))(hc:P.cellsOf e=E.size)(h1:0<E.size)(hcod:Xl P e E Q n)(h:DataW.trod enc P w 0 sp true (n+1) t cs=some x):
  ∃v l,cs=[v]∧aG w [] v E l∧Oi Q w l x.1:=by
 rcases DataW.trod_slice ht h with ⟨rfl,rfl⟩| ⟨a,len,cap,elems,rest,n',hn,rfl,rfl,_,hl,hm,hlen,hel,_,_⟩
 ·exact⟨_,[],rfl,Rd.nil w [] E.size,.inl ⟨rfl,rfl⟩⟩
 ·obtain rfl:n=n':=V
  have each:∀i,i<len→∃y:α,(∀k u,(E.cells y)[k]?=some u→w.cell? (a.add (i * E.size+k))=some u)∧∀el,elems[i]?=some el→Q w y el.1:=by
   intro i hi;have h2:=hel i hi;rw[hc] at h2;have h3:i<elems.length:=V
   rw[List.getElem?_eq_getElem h3] at h2;obtain⟨cs',g1,g2⟩:=Option.bind_eq_some_iff.1 h2;obtain⟨_,hlen',hcell⟩:=World.cells?_some g1;obtain⟨y,rfl,hq⟩:=hcod enc w _ _ _ g2;refine⟨y,fun k u hk=>?_,fun el hel'=>?_⟩
   ·have hkl:k<E.size:=by have:=(List.getElem?_eq_some_iff.1 hk).1;rw[E.len] at this;exact this
    rw[←rN,hcell k hkl];exact hk
   ·rw[List.getElem?_eq_getElem h3] at hel';cases hel';exact hq
  have hex:∀m,m≤len→∃l:List α,l.length=m∧∀i y,l[i]?=some y→(∀k u,(E.cells y)[k]?=some u→w.cell? (a.add (i * E.size+k))=some u)∧∀el,elems[i]?=some el→Q w y el.1:=by
   intro m
   induction m with
   |zero=>intro _;exact⟨[],rfl,fun i y h=>by simp at h⟩
   |succ k ih=>
    intro hk;obtain⟨l,hll,hlx⟩:=ih V;obtain⟨y,hy⟩:=each k V;refine⟨l++[y],by simp [hll],fun i z hz=>?_⟩
    by_cases hi:i<l.length
    ·rw[List.getElem?_append_left hi] at hz;exact hlx i z hz
    ·rw[List.getElem?_append_right V] at hz;have:i - l.length=0:=by
      cases hd:i - l.length with
      |zero=>rfl
      |succ q=>rw[hd] at hz;simp at hz
     rw[this] at hz;obtain rfl:y=z:=by simpa using hz
     obtain rfl:i=k:=V
     exact hy
  obtain⟨l,hll,hlx⟩:=hex len (bQ _);subst hll;refine⟨_,l,rfl,⟨Mr E l,some a,cap,rfl,hl,hm,fun h0=>⟨a,rfl,aw,?_,fun j u hj=>?_⟩⟩,.inr ⟨_,_,rfl,by simpa using hlen,fun i y d hy hd=>?_⟩⟩
  ·obtain⟨y,hy0⟩:∃y,l[0]?=some y:=⟨_,List.getElem?_eq_getElem h0⟩;have hlen:0< (E.cells y).length:=by rw[E.len];exact h1
   have:=(hlx 0 y hy0).1 0 _ (List.getElem?_eq_getElem hlen);obtain⟨o,ho,_⟩:=cells_of_cell this;have:=(Array.getElem?_eq_some_iff.1 ho).1
   rwa [block_add] at this
  ·obtain⟨i,k,y,g1,g2,rfl⟩:=RM E hj;exact (hlx i y g1).1 k u g2
  ·rw[List.getElem?_map] at hd;obtain⟨el,he,rfl⟩:=Option.map_eq_some_iff.1 hd;exact (hlx i y hy).2 el he
def xP {fs:Array Field}{n:Nat}{xs:List (DataW H×List MemPlace)}(hx:xs.length=fs.size)
  (hf:∀(i:Nat) (f:Field),fs[i]?=some f→DataW.trod enc P w 0 sp true n f.type ((cs.drop f.offset).take (P.cellsOf f.type))=xs[i]?) (i ty off sz:Nat) (hi:(fs[i]?).map (fun f=>(f.type,f.offset))=some (ty,off)) (hs:P.cellsOf ty=sz):
  ∃y,xs[i]?=some y∧DataW.trod enc P w 0 sp true n ty ((cs.drop off).take sz)=some y:=by
 obtain⟨f,hfi,hfe⟩:=Option.map_eq_some_iff.1 hi;obtain⟨rfl,rfl⟩:=Prod.mk.inj hfe;subst hs;have h2:=hf i f hfi;have hlt:i<xs.length:=by rw[hx];exact (Array.getElem?_eq_some_iff.1 hfi).1
 exact⟨_,List.getElem?_eq_getElem hlt,h2.trans (List.getElem?_eq_getElem hlt)⟩
def Oi.all {l:List α}{d:DataW H}(h:Oi Q w l d){R:α→Prop}(hR:∀a (e:DataW H),Q w a e→R a):∀a∈l,R a:=by
 rcases h with ⟨_,rfl⟩| ⟨el,sp,_,h2,h3⟩
 ·intro a ha;cases ha
 ·intro a ha;obtain⟨i,hi⟩:=List.getElem?_of_mem ha;have hlt:=(List.getElem?_eq_some_iff.1 hi).1;exact hR a _ (h3 i a _ hi (List.getElem?_eq_getElem V))
end
structure aC where
 A:Option Addr
 n:Nat
 c:Nat
def aC.v (h:aC):Value:=.slice h.A h.n h.c
def Rd.Hd {w:World}{M:List Nat}{v:Value}{size n:Nat}{xs:List Value}(h:Rd w M v size n xs):∃q:aC,v=q.v:=by
 obtain⟨A,c,rfl,_⟩:=h.is;exact⟨⟨A,n,c⟩,rfl⟩
section
variable {P:Program} {o:Oper} {a:Act} {w Z:World} {v u:Value} {M:List Nat} {L Es Es':List an} {e:an}
def St.eb (O:St Z M w L):St Z M w (an.bx []::L):=St.group (A:=[]) O
def St.aip (O:St Z M w (e::L))(i:Nat)(hi:L[i]?=some (an.bx Es)):St Z M w (L.set i (an.bx (Es++[e]))):=by
 have h1:St Z M w (an.bx Es::e::L.eraseIdx i):=by
  refine O.perm ?_;exact (List.Perm.swap _ _ _).trans ((KT L i _ hi).cons e)
 have h2:St Z M w (Es++[e]++L.eraseIdx i):=by
  have:=St.ungroup (A:=Es) h1
  rwa [cC]
 have h3:=St.group (A:=Es++[e]) h2;exact h3.perm (set_perm L i _ _ hi)
end
open Go Go.RowKit
def Ng:Option (TypeId×Value)→Value
 |none=>.nilIface
 |some x=>.iface x.1 x.2
section
variable {P:Program} {o:Oper} {a:Act} {w Z:World} {x y:Operand} {t t':TypeId} {ms:List Nat} {M:List Nat} {L:List an} {n:Nat} {F:List (Nat×Value)}
def UJ {ms:Array (String×TypeId)}{e:Option (TypeId×Value)}(ht:P.underlying t=some (.interface ms))(ho:o.op=.binOp .neq t x (.const .nilIface) t')(hx:a.eval x=Ng e):QV P o a w (.bool e.isSome):=by
 have hy:a.eval (.const .nilIface)=.nilIface:=rfl;have h:P.underlying t=some (.interface (P.methodsAt t)):=by simp [Program.methodsAt,ht]
 cases e with
 |none=>
  have hx':a.eval x=.nilIface:=hx;have hg:eqGuard .neq t x (.const .nilIface) .nilIface .nilIface=pure ():=eqGuard_nil_constR ..;simp [QV,execOp,ho,hx',hy,hg,binOp,run_equal_nil_nil w t h]
 |some p=>
  have hx':a.eval x=.iface p.1 p.2:=hx;have hg:eqGuard .neq t x (.const .nilIface) (.iface p.1 p.2) .nilIface=pure ():=eqGuard_at_iface ..;simp [QV,execOp,ho,hx',hy,hg,binOp,run_equal_held_nil w t p.1 p.2 h]
def pw {f:Nat}{g:Operand}{fs cs args args':List Value}{argo:List Operand}{vs:List Value}{ts:Array TypeId}{R:Value→World→Prop}(U:Fr a n F)(ho:o.op=.call {callee:=.value g,args:=argo.toArray,argTypes:=ts})
  (hg:a.eval g=.func (.func f) fs.toArray cs.toArray) (hv:pA F argo=some args) (ha:args=args') (hvs:fs++args'++cs=vs) (hf:∀args w,(callFunc f args).run P w=.ok (.enter f args) w) (hc:aH P f vs.toArray w R):bG P o a w R:=by
 subst ha;exact fM U ho hg hv hvs hf hc
def DO {f:Nat}{args:Array Value}{v:Value}{avn:World→Prop}(h:Calls P f args w fun e w'=>e=.returned v∧avn w'):aH P f args w (fun u w'=>u=v∧avn w'):=Calls.mono h fun _ _ ⟨he,hx⟩=>⟨v,he,rfl,hx⟩
def CF {w':World}(h:Below w.heap.size w w'):St w [] w' []:=⟨h.os,h.tape,h.output,h.size,fun b hb _=>h.block b hb,fun _ h=>(by cases h),List.nodup_nil,fun _ h=>(by cases h)⟩
def yx:St w [] w []:=⟨rfl,rfl,rfl,bQ _,fun _ _ _=>rfl,fun _ h=>(by cases h),List.nodup_nil,fun _ h=>(by cases h)⟩
def xH (l:List UInt8):(⟨l.toArray⟩:ByteArray).data.toList=l:=aw
end
structure cL (w:World)(M:List Nat):Prop where
 a:∃ev,Rd w M (mX 0) 1 1 [ev]∧(ev=.nilIface∨∃te pe,ev=.iface te pe)
 b:∃ev,Rd w M (mX 1) 1 1 [ev]∧(ev=.nilIface∨∃te pe,ev=.iface te pe)
section
variable {Z w:World} {M:List Nat} {L B:List an} {e f:an}
def cL.now (h:cL Z M)(O:St Z M w L):cL w (az L):=by
 obtain⟨⟨x,h1,h2⟩,⟨y,h3,h4⟩⟩:=h;exact⟨⟨x,Rd.now h1 O,h2⟩,⟨y,Rd.now h3 O,h4⟩⟩
def cL.ba (h:cL Z M)(O:St Z M w L):cL w []:=by
 obtain⟨⟨x,h1,h2⟩,⟨y,h3,h4⟩⟩:=h;exact⟨⟨x,Rd.ba h1 O,h2⟩,⟨y,Rd.ba h3 O,h4⟩⟩
def cL.df (h:cL Z M)(O:St Z M w (e::f::B)):cL w (az [e,f]):=h.now (St.front (A:=[e,f]) O)
end
open Go.ChangeShapes Go.WideShapes Go.ChangeAt Go.RowKit Go.ChangeMaps
set_option maxRecDepth 100000
def own:ownKnob prog.godebug=none:=by kernel_rfl
def star: "*" ++ "errors.errorString" = "*errors.errorString" :=ai
def ah6 (u:TypeId)(h:prog.typeName? 3 u=some "*errors.errorString"):u=200:=
 typeName_ptr_named (nm:= "errors.errorString") (by rw[star];kernel_rfl) eE ai u (by rw[star];exact h)
def TW {avm:World}{n:String}{text:List UInt8}{r:List (String×DataW Unit)}{g:Nat}(h:laidMet prog ((n,.iface "*errors.errorString" (.ptr (.agg [.lit (.string text)])))::r) avm)
  (hg:prog.globalNamed n=some g) (ht:(prog.globals[g]?).map (·.type)=some 158):∃ev,Rd avm [] (mX g) 1 1 [ev]∧(ev=.nilIface∨∃te pe,ev=.iface te pe):=by
 obtain⟨a,s,hv,_⟩:=laid_sentinel h hg ht underlying158 ah6 underlying200 underlying202 rfl rfl underlying9 eE eE;have hc:avm.cell? ⟨g,0,none⟩=some (.iface 200 (.pointer (some a))):=by simpa using World.var?_cell hg hv 0
 obtain⟨o,ho,_⟩:=cells_of_cell hc;have hlt:=(Array.getElem?_eq_some_iff.1 ho).1;refine⟨.iface 200 (.pointer (some a)),⟨rfl,_,1,rfl,bQ _,ai,fun _=>⟨aa g,rfl,aw,hlt,fun j u hj=>?_⟩⟩,.inr ⟨_,_,rfl⟩⟩
 match j,hj with
 |0,hj=>cases hj;exact hc
def ajn {avm:World}(h:laidMet prog Rows.parseRightRow.laid avm):cL avm []:=
 ⟨TW (g:=0) h.tail.tail.tail.tail.tail eE eE,TW (g:=1) h.tail.tail.tail.tail eE eE⟩
noncomputable def low:Nat:=(World.holding prog default ⟨#[],#[],[]⟩).heap.size
noncomputable def Pc (os:Os):World:=World.holding prog os ⟨#[.cells #[.string ⟨#[105,110,118,97,108,105,100,32,115,121,110,116,97,120]⟩] 202,.cells #[.string ⟨#[118,97,108,117,101,32,111,117,116,32,111,102,32,114,97,110,103,101]⟩] 202],#[],[]⟩
def xN (h:Array Obj)(g:Nat)(cs:Array Value):Array Obj:=h.modify g fun| .cells _ t frozen=>.cells cs t frozen|o=>o
noncomputable def Nc (os:Os):World:={Pc os with heap:=(xN (xN (xN (xN (xN (xN (xN (Pc os).heap 6 (([.int .u8 0,.int .u8 1,.int .u8 28,.int .u8 2,.int .u8 29,.int .u8 14,.int .u8 24,.int .u8 3,.int .u8 30,.int .u8 22,.int .u8 20,.int .u8 15,.int .u8 25,.int .u8 17,.int .u8 4,.int .u8 8,.int .u8 31,.int .u8 27,.int .u8 13,.int .u8 23,.int .u8 21,.int .u8 19,.int .u8 16,.int .u8 7,.int .u8 26,.int .u8 12,.int .u8 18,.int .u8 6,.int .u8 11,.int .u8 5,.int .u8 10,.int .u8 9]:List Value).toArray)) 7 (([.int .u8 0,.int .u8 1,.int .u8 56,.int .u8 2,.int .u8 57,.int .u8 49,.int .u8 28,.int .u8 3,.int .u8 61,.int .u8 58,.int .u8 42,.int .u8 50,.int .u8 38,.int .u8 29,.int .u8 17,.int .u8 4,.int .u8 62,.int .u8 47,.int .u8 59,.int .u8 36,.int .u8 45,.int .u8 43,.int .u8 51,.int .u8 22,.int .u8 53,.int .u8 39,.int .u8 33,.int .u8 30,.int .u8 24,.int .u8 18,.int .u8 12,.int .u8 5,.int .u8 63,.int .u8 55,.int .u8 48,.int .u8 27,.int .u8 60,.int .u8 41,.int .u8 37,.int .u8 16,.int .u8 46,.int .u8 35,.int .u8 44,.int .u8 21,.int .u8 52,.int .u8 32,.int .u8 23,.int .u8 11,.int .u8 54,.int .u8 26,.int .u8 40,.int .u8 15,.int .u8 34,.int .u8 20,.int .u8 31,.int .u8 10,.int .u8 25,.int .u8 14,.int .u8 19,.int .u8 9,.int .u8 13,.int .u8 8,.int .u8 7,.int .u8 6]:List Value).toArray)) 5 (([.int .u64 1,.int .u64 10,.int .u64 100,.int .u64 1000,.int .u64 10000,.int .u64 100000,.int .u64 1000000,.int .u64 10000000,.int .u64 100000000,.int .u64 1000000000,.int .u64 10000000000,.int .u64 100000000000,.int .u64 1000000000000,.int .u64 10000000000000,.int .u64 100000000000000,.int .u64 1000000000000000,.int .u64 10000000000000000,.int .u64 100000000000000000,.int .u64 1000000000000000000,.int .u64 10000000000000000000]:List Value).toArray)) 4 (([.int .u8 128,.int .u8 191,.int .u8 160,.int .u8 191,.int .u8 128,.int .u8 159,.int .u8 144,.int .u8 191,.int .u8 128,.int .u8 143,.int .u8 0,.int .u8 0,.int .u8 0,.int .u8 0,.int .u8 0,.int .u8 0,.int .u8 0,.int .u8 0,.int .u8 0,.int .u8 0,.int .u8 0,.int .u8 0,.int .u8 0,.int .u8 0,.int .u8 0,.int .u8 0,.int .u8 0,.int .u8 0,.int .u8 0,.int .u8 0,.int .u8 0,.int .u8 0]:List Value).toArray)) 1 #[.iface 200 (.pointer (some ⟨low+1,0,none⟩))]) 0 #[.iface 200 (.pointer (some ⟨low,0,none⟩))]) 3 (Pinned.utf8FirstZ.map fun (z:Nat)=>Value.int .u8 (z:Int)).toArray)}
def an_ {H:Type}(d:DataW H):1≤Rows.uptoBulk d:=by
 cases d with
 |lit l=>cases l<;>simp [Rows.uptoBulk]
 |_=>simp [Rows.uptoBulk]
def akP {H:Type}{d:DataW H}{l:List (DataW H)}(h:d∈l):Rows.uptoBulk d≤Rows.uptoBulkAll l:=by
 induction l with
 |nil=>cases h
 |cons x r ih=>
  simp only[Rows.uptoBulkAll];rcases List.mem_cons.1 h with rfl|h
  ·omega
  ·have:=ih h;omega
open Go Go.Maps Go.WideAt
set_option linter.unusedVariables false
def QH:Value→Option (DataW Value×List MemPlace):=fun v=>some (.held v,[])
def iZ (P:Program)(w:World)(k:TypeId)(b n:Nat)(f:Lit→Option Value):Prop:=
 ∃D:DataW Value,w.ownsMap P k QH b n D∧∀kl z,D.atKey kl (.held z)=.held ((f kl).getD z)
open Classical in
noncomputable def qN (f:Lit→Option Value)(kl:Lit)(v:Value):Lit→Option Value:=fun x=>if x=kl then some v else f x
def iZ.iN {P:Program}{w w':World}{k:TypeId}{b n:Nat}{f:Lit→Option Value}(h:iZ P w k b n f)(hk:w'.heap[b]?=w.heap[b]?):iZ P w' k b n f:=by
 obtain⟨D,⟨es,clock,hb,rest⟩,hf⟩:=h;exact⟨D,⟨es,clock,hk.trans hb,rest⟩,hf⟩
def iZ.lt {P:Program}{w:World}{k:TypeId}{b n:Nat}{f:Lit→Option Value}(h:iZ P w k b n f):b<w.heap.size:=by
 obtain⟨D,h,_⟩:=h;exact h.lt
def an.mQ (P:Program)(k:TypeId)(b n:Nat)(f:Lit→Option Value):an:=
 .gp [b] (fun w=>iZ P w k b n f) (fun _ _ h hk=>h.iN (hk b (List.mem_singleton.2 rfl))) (fun _ h b' hb=>by obtain rfl:=List.mem_singleton.1 hb;exact h.lt)
def X0:(Value.bool true)≠.bool false:=aw
def ae9 {f:Option Value}(h:∀z,(DataW.held (H:=Value) z)=.held (f.getD z)):f=none:=by
 cases f with
 |none=>rfl
 |some u=>
  have h1:Value.bool true=u:=by simpa using h (.bool true)
  have h2:Value.bool false=u:=by simpa using h (.bool false)
  exact absurd (h1.trans h2.symm) X0
def amp {f:Option Value}{v:Value}(h:∀z,(DataW.held (H:=Value) v)=.held (f.getD z)):f=some v:=by
 cases f with
 |none=>
  have h1:v=Value.bool true:=by simpa using h (.bool true)
  have h2:v=Value.bool false:=by simpa using h (.bool false)
  exact absurd (h1.symm.trans h2) X0
 |some u=>
  have h1:v=u:=by simpa using h (.bool true)
  rw[h1]
section
variable {P:Program} {w Z w':World} {k e t:TypeId} {b n:Nat} {f:Lit→Option Value} {M:List Nat} {L:List an} {o:Oper} {a:Act} {x y:Operand} {key z v:Value} {kl:Lit}
def iZ.look (c:Bool)(h:iZ P w k b n f)(K:Keyed P k)(ht:P.underlying t=some (.map k e))(hz:(zeroValue e).run P w=.ok z w)(hkey:keyOf P k key=some kl):
  (Instr.lookup t (.map (some b)) key c).run P w=.ok (if c then .tuple #[(f kl).getD z,.bool (f kl).isSome] else (f kl).getD z) w:=by
 obtain⟨D,⟨es,clock,hb,F,_,rfl⟩,hf⟩:=h;rcases Maps.fit_look c K ht hz hb F hkey with ⟨hrun,_,hat⟩| ⟨e0,y,_,_,hrun,hRv,hat,_⟩
 ·have:f kl=none:=ae9 fun z=>(hat _).symm.trans (hf kl z);rw[hrun,this];rfl
 ·cases hRv;have:f kl=some e0.val:=amp fun z=>(hat _).symm.trans (hf kl z);rw[hrun,this];rfl
def iZ.put (h:iZ P w k b n f)(K:Keyed P k)(ht:P.underlying t=some (.map k e))(hn:n<maxLen)(hkey:keyOf P k key=some kl):
  ∃w',(Instr.mapUpdate t (.map (some b)) key v).run P w=.ok () w'∧iZ P w' k b (n+1) (qN f kl v)∧w.grownBy w' (some b):=by
 obtain⟨D,hD,hf⟩:=h;obtain⟨w',h1,h2,h3⟩:=hD.update K ht hn (val:=v) (d:=.held v) (ps:=[]) hkey rfl;refine⟨w',h1,⟨_,h2,fun kl' z=>?_⟩,h3⟩;unfold qN
 by_cases hk:kl'=kl
 ·subst hk;rw[if_pos rfl,atKey_put_same hD.isMap (K.key hkey)];rfl
 ·rw[if_neg hk,atKey_put_other hk,hf]
def St.adm {e e':an}{i:Nat}(O:St Z M w L)(hi:L[i]?=some e)(hg:w.grownBy w' (some b))(hb:e.bs=[b])(he:e'.ok w')(hb':e'.bs=[b]):St Z M w' (L.set i e'):=
 ((O.pull i hi).turns hg.os hg.tape hg.output hg.size (fun b' hlt hn=>hg.block b' hlt (fun h=>hn (by rw[hb];cases h;exact List.mem_singleton.2 rfl))) he (by rw[hb'];simp) (fun x hx=>.inl (by rw[hb];rwa [hb'] at hx))).perm (set_perm L i _ _ hi)
def Sl {i:Nat}(O:St Z M w L)(hi:L[i]?=some (an.mQ P k b n f))(K:Keyed P k)(ht:P.underlying t=some (.map k e))(hz:(zeroValue e).run P w=.ok z w)(ho:o.op=.lookup t x y true)(hx:a.eval x=.map (some b))(hy:a.eval y=key)(hkey:keyOf P k key=some kl):QV P o a w (.tuple #[(f kl).getD z,.bool (f kl).isSome]):=by
 have hrun:=iZ.look true (O.ok hi:iZ P w k b n f) K ht hz hkey;simp [QV,execOp,ho,hx,hy,hrun]
def aan (w:World):iZ P (w.alloc (.map #[] 0)) k w.heap.size 0 (fun _=>none):=⟨_,w.ownsMap_made P k QH,fun _ _=>rfl⟩
def St.ady (O:St Z M w L):St Z M (w.alloc (.map #[] 0)) (an.mQ P k w.heap.size 0 (fun _=>none)::L):=by
 have h1:=O.aq8 (.map #[] 0);refine h1.turns (e':=an.mQ P k w.heap.size 0 (fun _=>none)) rfl rfl rfl (bQ _) (fun _ _ _=>rfl) (aan w) ?_ ?_
 ·show ([w.heap.size]:List Nat).Nodup;simp
 ·intro b hb;exact .inl hb
def EF (O:St Z M w L)(k:TypeId)(ho:o.op=.makeMap t none):bG P o a w (fun u w'=>∃b,u=.map (some b)∧St Z M w' (an.mQ P k b 0 (fun _=>none)::L)):=by
 refine bG.value (w':=w.alloc (.map #[] 0)) (v:=.map (some w.heap.size)) ?_ ⟨_,rfl,O.ady⟩;simp [execOp,ho,Instr.makeMap]
end
section
variable {P:Program} {w Z w':World} {e t:TypeId} {size n:Nat} {v:Value} {xs:List Value} {M:List Nat} {L:List an} {o:Oper} {a:Act} {x y:Operand}
end
open Go Go.Maps
section
variable {P:Program} {w Z w':World} {e t:TypeId} {size n:Nat} {v u x:Value} {M:List Nat} {L B A':List an} {o:Oper} {a:Act} {e1 e2 e3 e4 e5 e6 e7 e8:an}
def kK (f:Lit→Option Value)(g:Int→Option Value):Prop:=∀n:Int,f (.int .i64 n)=g n
def kK.put {f:Lit→Option Value}{g:Int→Option Value}(h:kK f g)(n:Int)(v:Value):kK (qN f (.int .i64 n) v) (fun m=>if m=n then some v else g m):=by
 intro m;unfold qN;dsimp only
 by_cases hm:m=n
 ·subst hm;rw[if_pos rfl,if_pos rfl]
 ·rw[if_neg (by simp [hm]),if_neg hm,h m]
def Kq {n:Int}(h: -9223372036854775808≤n∧n≤9223372036854775807):(Lit.int .i64 n).wf=true:=by
 obtain⟨h1,h2⟩:=h;simp only[Lit.wf,IntKind.min,IntKind.max,IntKind.bits,IntKind.signed];simp;omega
end
section
variable (P:Program) (ops:Array Oper) (ks:List Nat) (Z:World) (M:List Nat) (L0:List an) (G:Value→List an→Prop) (K:Act→World→Prop)
abbrev St5:=List an ⊕ World
end
section
variable {P:Program} {ops:Array Oper} {ks:List Nat} {Z:World} {M:List Nat} {L0:List an} {G:Value→List an→Prop} {K:Act→World→Prop}
variable {rest:List Oper} {o:Oper} {n d:Nat} {F:List (Nat×Value)} {v:Value} {a:Act} {σ:St5} {L:List an} {R:Value→World→Prop}
end
open Go Go.ChangeMaps
section
variable {P:Program} {w Z w':World} {t kt et e:TypeId} {b n i:Nat} {M:List Nat} {L:List an} {o:Oper} {a:Act} {x y u:Operand} {v z:Value} {p:Option Addr} {ad:Addr}
end
end Go.Proofs.YtdfccaonglmgpaaGreatDoor
