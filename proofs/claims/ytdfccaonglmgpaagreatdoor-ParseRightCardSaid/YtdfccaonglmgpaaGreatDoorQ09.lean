/- Q09 -/
import Derived.Test.YtdfccaonglmgpaaGreatDoorQ08
import Derived.Test.YtdfccaonglmgpaaGreatDoorQ04
import Derived.Test.YtdfccaonglmgpaaGreatDoorQ03
import Derived.Test.YtdfccaonglmgpaaGreatDoorQ02
import Derived.Lib.Bytealg
import Derived.Lib.TrimByte
import Derived.Lib.ParseIntB
import Derived.KernelRfl
import Derived.Shelf.Strings.Builder1
import Derived.Shelf.Strings.Trim
import Derived.Shelf.Small.Utf8
import Derived.Shelf.Small.Strs
import Derived.Shelf.Strings.BuilderF
import Derived.Shelf.Strings.BuilderK
import Derived.Shelf.Strconv.Itoa0
import Derived.Shelf.Strconv.ParseIntEmpty
import Derived.Shelf.LaysM
import Derived.Shelf.Strconv.Clone
import Derived.Shelf.Strconv.SyntaxError
import Derived.Shelf.LaysC
import Derived.Shelf.Strconv.ToError
import Derived.Shelf.Strconv.Lower
import Derived.Shelf.Strconv.ParseUint10
import Derived.Shelf.Strconv.ParseUint10Empty
import Derived.Shelf.Strconv.ParseUint10Any
import Derived.Shelf.Strconv.ParseInt10
import Derived.Shelf.Strconv.RangeError
import Derived.Shelf.Strconv.ToErrorRange
import Derived.Shelf.Strconv.ParseUintEmpty
import Derived.Shelf.Strconv.ParseUint10b64
import Derived.Shelf.Strconv.ParseUint10b32
import Derived.Shelf.Strconv.ParseUint10b16
import Derived.Shelf.Strconv.ParseUint10b8
import Derived.Shelf.Strconv.ParseUint10At
import Derived.Shelf.Strconv.ParseInt10At64
import Derived.Shelf.Strconv.ParseInt10At32
import Derived.Shelf.Strconv.ParseInt10At16
import Derived.Shelf.Strconv.ParseInt10At8
import Derived.Shelf.Strconv.ParseInt10All
import Derived.Shelf.Strconv.ParseIntPublic10
import Derived.Shelf.Strconv.ErrVarParseInt
import Derived.Ground.MpProg
import Derived.Shelf.Pu.ParseUintPublic10
import Derived.Shelf.Pu.ErrVarParseUint
import Derived.Shelf.Strings.Search1
import Derived.Shelf.Strings.Prefix
import Derived.Shelf.Strings.Runes
import Derived.Shelf.Strings.AsciiSet
import Derived.Shelf.Unicode.DecodeSlow
import Derived.Shelf.Slices.Turned
import Derived.Test.YtdfccaonglmgpaaGreatDoorProg
set_option linter.all false
namespace Go.Proofs.YtdfccaonglmgpaaGreatDoor
open Go
def yu (n:List UInt8):Lit:=.string n
theorem Ii {m n:List UInt8}(h:yu m=yu n):m=n:=by injection h
open Go.Maps Go.WideAt in
theorem GF {P:Program}{k:TypeId}(h:P.underlying k=some .string){n:List UInt8}(hn:n.length≤9223372036854775807):keyOf P k (str n)=some (yu n):=by
 have h2:(⟨n.toArray⟩:ByteArray).size≤maxLen:=by show n.toArray.size≤_;unfold maxLen;simp;omega
 simp only[keyOf,mapKey,h,str];rw[if_pos h2];simp [yu]
def Fp (f:Lit→Option Value)(g:List UInt8→Option Value):Prop:=∀n,f (yu n)=g n
theorem O2:Fp (fun _=>none) (fun _=>none):=fun _=>rfl
theorem Fp.put {f:Lit→Option Value}{g:List UInt8→Option Value}(h:Fp f g)(n:List UInt8)(v:Value):Fp (fJ f (yu n) v) (fun m=>if m=n then some v else g m):=fun m=>by
 unfold fJ
 by_cases e:m=n
 ·subst e;simp
 ·have e2:¬yu m=yu n:=fun h=>e (Ii h);simp only[e,e2,if_false];exact h m
section
variable {P:Program} {o:Oper} {a:Act} {w w0:World} {M:List Nat} {L:List aq} {t e k:TypeId} {b c i:Nat} {f:Lit→Option Value} {g:List UInt8→Option Value} {x y u:Operand} {n:List UInt8} {v z:Value}
open Go.Maps Go.WideAt in
theorem MW (hO:St w0 M w L)(hi:L[i]?=some (aq.eX P k b c f))(hf:Fp f g)(hk:P.underlying k=some .string)(ht:P.underlying t=some (.map k e))(hz:(zeroValue e).run P w=.ok z w)(ho:o.op=.lookup t x y true)(hx:a.eval x=.map (some b))(hy:a.eval y=str n)(hn:n.length≤9223372036854775807):QV P o a w (.tuple #[(g n).getD z,.bool (g n).isSome]):=by
 have h:=Ap hO hi (string_keyed hk) ht hz ho hx hy (GF hk hn)
 rwa [hf n] at h
open Go.Maps Go.WideAt in
theorem vm (hO:St w0 M w L)(hi:L[i]?=some (aq.eX P k b c f))(hk:P.underlying k=some .string)(ht:P.underlying t=some (.map k e))(hc:c<9223372036854775807)
  (ho:o.op=.insert t x y u) (hx:a.eval x=.map (some b)) (hy:a.eval y=str n) (hu:a.eval u=v) (hn:n.length≤9223372036854775807):eH P o a w (fun u w'=>u=undef∧St w0 M w' (L.set i (aq.eX P k b (c+1) (fJ f (yu n) v)))):=
 zX hO hi (string_keyed hk) ht (by unfold maxLen;exact hc) ho hx hy hu (GF hk hn)
end
section
variable {sp:List UInt8→Int→Bool}
theorem DK (n:Nd):bA 0 List.isEmpty aZ n=pC n:=by simp [bA,pC,aZ,Bool.and_assoc]
theorem AI (n:Nd):bA 52 (wh sp) aZ n=eZ sp n:=by simp [bA,eZ,aZ,Bool.and_assoc]
theorem type52 {n:Nd}(h:n.kind=52):cV sp n=eZ sp n:=by
 obtain⟨k,s,i,l⟩:=n;simp only[Nd.kind] at h;subst h;rw[cV.eq_def];simp only[if_true,eZ,Nd.kind,Nd.n,Nd.name,Nd.ag,decide_true,Bool.true_and,Bool.and_assoc]
 rfl
theorem type53 {n:Nd}(h:n.kind=53):cV sp n=bA 53 (kg sp) aZ n:=by
 obtain⟨k,s,i,l⟩:=n;simp only[Nd.kind] at h;subst h;rw[cV.eq_def];simp only[show ¬(53:Int)=52 by decide,if_true,if_false,bA,aZ,Nd.kind,Nd.n,Nd.name,Nd.ag,decide_true,Bool.true_and,Bool.and_assoc]
 rfl
theorem BE (f g:Nd→Bool)(l:List Nd):aI [f,g] l=(match l with| [a,b]=>f a&&g b|_=>false):=by
 match l with
 | []=>rfl
 | [a]=>simp [aI]
 | [a,b]=>simp [aI]
 |a::b::c::l=>simp [aI]
theorem iT (f:Nd→Bool)(l:List Nd):aI [f] l=(match l with| [a]=>f a|_=>false):=by
 match l with
 | []=>rfl
 | [a]=>simp [aI]
 |a::b::l=>simp [aI]
theorem J1 (f g h:Nd→Bool)(l:List Nd):aI [f,g,h] l=(match l with| [a,b,c]=>f a&&(g b&&h c)|_=>false):=by
 match l with
 | []=>rfl
 | [a]=>simp [aI]
 | [a,b]=>simp [aI]
 | [a,b,c]=>simp [aI]
 |a::b::c::d::l=>simp [aI]
theorem type54 {n:Nd}(h:¬n.kind=52)(h2:¬n.kind=53):cV sp n=bA 54 List.isEmpty (aI [cV sp,cV sp]) n:=by
 obtain⟨k,s,i,l⟩:=n;simp only[Nd.kind] at h h2;rw[cV.eq_def];simp only[h,h2,if_false,bA,Nd.kind,Nd.n,Nd.name,Nd.ag,BE];rw[←Bool.and_assoc,←Bool.and_assoc,Bool.and_comm (decide (i=0))]
 match l with
 | []=>rfl
 | [a]=>rfl
 | [a,b]=>rfl
 |a::b::c::l=>rfl
def qX (sp:List UInt8→Int→Bool)(l:List Nd):Bool:=match l with| [_,b]=>eZ sp b|_=>false
theorem Ll (l:List NN):decide ((l.length:Int)=2∧eZ sp (l.getD 1 ea).er=true)=qX sp (l.map NN.er):=by
 match l with
 | []=>rfl
 | [a]=>simp [qX]
 | [a,b]=>simp [qX]
 |a::b::c::l=>simp [qX];omega
theorem Ow {l:List NN}(h:(l.length:Int)=2):l[1]?=some (l.getD 1 ea):=by
 rw[List.getD_eq_getElem?_getD,List.getElem?_eq_getElem (by omega)];rfl
theorem Oi {l:List NN}(h:(l.length:Int)=2):l.getD 1 ea∈l:=List.mem_of_getElem? (Ow h)
theorem Fs {y:NN}{j:Nat}(hk:y.kind=54)(h:bA 54 List.isEmpty (qX sp) y.er=true):y.ag.length=2∧dZ sp y.er j=dZ sp (y.ag.getD 0 ea).er (j+1):=by
 obtain⟨k,s,n,a,c,hd,l⟩:=y;simp only[bA,Bool.and_eq_true,NN.al,NN.cU,NN.aH,NN.bo] at h;obtain⟨⟨⟨h1,h2⟩,h3⟩,h4⟩:=h;have hk:k=54:=hk;have h2':n=0:=of_decide_eq_true h2;have h3':s=[]:=List.isEmpty_iff.1 h3;simp only[NN.ag] at h4 ⊢;clear h1 h2 h3;subst hk h2' h3'
 match l,h4 with
 | [u,v],h4=>
  refine⟨rfl,?_⟩;have h4:eZ sp v.er=true:=h4;show dZ sp (NN.mk 54 [] 0 a c hd [u,v]).er j=dZ sp u.er (j+1);rw[bJ,dZ.eq_def];simp [h4]
theorem Np {y:NN}{j:Nat}(hk:y.kind=54)(h:¬bA 54 List.isEmpty (qX sp) y.er=true):dZ sp y.er j=false:=by
 obtain⟨k,s,n,a,c,hd,l⟩:=y;have hk:k=54:=hk;subst hk;rw[bJ] at h ⊢;rw[dZ.eq_def];simp only[bA,Nd.kind,Nd.n,Nd.name,Nd.ag] at h;simp only[if_true]
 match l,h with
 | [],h=>simp
 | [u],h=>simp
 | [u,v],h=>
  simp only[List.map_cons,List.map_nil,qX,decide_true,Bool.true_and,Bool.and_eq_true,decide_eq_true_eq] at h;simp only[List.map_cons,List.map_nil];rw[←Bool.not_eq_true];simp only[Bool.and_eq_true,decide_eq_true_eq];exact fun e=>h ⟨⟨decide_eq_true e.1.1,e.1.2⟩,e.2.1⟩
 |u::v::z::l,h=>simp
theorem uP {n:Nd}{j:Nat}(hk:¬n.kind=54):dZ sp n j=(decide (n.kind=53)&&cV sp n&&(match jG n.name with|none=>true|some f=>decide (j=0∨j=f))):=by
 obtain⟨k,s,i,l⟩:=n;simp only[Nd.kind] at hk;rw[dZ.eq_def];simp only[hk,if_false,Nd.kind,Nd.name];cases jG s<;>rfl
theorem Td (x:NN):decide ((x.kind=24∧(x.ag.length:Int)=0)∧((x.n=1∧qT sp x.name=true)∨(x.n=0∧isVar sp x.name=true)))=mu sp x.er:=by
 rw[mu,NN.al,NN.cU,NN.aH,NN.bo,Bool.eq_iff_iff];simp only[decide_eq_true_eq,Bool.and_eq_true,Bool.or_eq_true,List.isEmpty_iff,List.map_eq_nil_iff];constructor
 ·rintro⟨⟨h1,h2⟩,h3⟩;exact⟨⟨h1,List.eq_nil_of_length_eq_zero (by omega)⟩,h3⟩
 ·rintro⟨⟨h1,h2⟩,h3⟩;exact⟨⟨h1,by rw[h2];rfl⟩,h3⟩
theorem Mm (x:NN):decide (x.n=1∧mu sp x.er=true)=pY sp x.er:=by
 rw[pY,NN.cU,Bool.eq_iff_iff];simp
theorem MH (x:NN):decide (x.kind=40∨x.kind=41)=iP x.er:=by rw[iP,NN.al]
theorem GL (n:Nd):bA 4 (fun s=>isVar sp s||iV sp s) aZ n=qs sp n:=by simp [bA,qs,aZ]
theorem gU (lo:Nat)(f:Nd→Bool)(n:Nd):cc lo f n=kS lo f n:=by
 simp only[cc,bA,eb,kS];rw[Bool.eq_iff_iff];simp [and_assoc]
end
def u2 (s:List UInt8):Option Value:=(jG s).map fun k=>i64 k
theorem Ho (s:List UInt8):(if s=dI then some (i64 3) else if s=ez then some (i64 2) else if s=iv then some (i64 2) else if s=kM then some (i64 1) else if s=h_ then some (i64 0) else none)=u2 s:=by
 unfold u2 jG
 by_cases h1:s=h_
 ·subst h1;rfl
 by_cases h2:s=kM
 ·subst h2;rfl
 by_cases h3:s=iv
 ·subst h3;rfl
 by_cases h4:s=ez
 ·subst h4;rfl
 by_cases h5:s=dI
 ·subst h5;rfl
 simp [h1,h2,h3,h4,h5]
theorem eF.iU {f:Lit→Option Value}{G:Int→Option cz}(h:eF f (fun k=>(G k).map cz.v))(n:Int)(r:cz):eF (fJ f (.int .i64 n) r.v) (fun k=>((fun j=>if j=n then some r else G j) k).map cz.v):=fun m=>by
 rw[eF.put h n r.v m];dsimp only
 by_cases e:m=n
 ·rw[if_pos e,if_pos e];rfl
 ·rw[if_neg e,if_neg e]
theorem BN:eF (fun _=>none) (fun k=>((fun _=>none:Int→Option cz) k).map cz.v):=fun _=>rfl
theorem u7 {g:Int→Option gZ}{x:NN}(h:g x.kind=none):decide False=fc g x.er:=by
 rw[fc,NN.al,h];rfl
theorem rO {g:Int→Option gZ}{x:NN}{b:gZ}(h:g x.kind=some b):b.ok x.er=fc g x.er:=by
 rw[fc,NN.al,h]
theorem bX (f:Nd→Bool)(l:List Nd):eb 0 (-1) f l=l.all f:=by
 unfold eb;simp
theorem nY (f:Nd→Bool)(l:List Nd):eb 1 (-1) f l=(decide (l≠[])&&l.all f):=by
 unfold eb;rw[show decide ((-1:Int)<0∨(l.length:Int)≤ -1)=true from decide_eq_true (.inl (by decide)),Bool.and_true]
 congr 1
 rw[Bool.eq_iff_iff];simp only[decide_eq_true_eq]
 cases l with
 |nil=>simp
 |cons a l=>simp;omega
theorem cZ (f:Nd→Bool)(l:List Nd):eb 2 3 f l=(l.all f&&decide (l.length=2∨l.length=3)):=by
 unfold eb;rw[Bool.and_comm]
 congr 1
 rw[Bool.eq_iff_iff];simp only[Bool.and_eq_true,decide_eq_true_eq];omega
theorem yG (f g:Nd→Bool):∀(l:List Nd) (i j:Nat),i % 2=j % 2→iD f g i l=iD f g j l
 | [],_,_,_=>rfl
 |a::l,i,j,h=>by rw[iD,iD,yG f g l (i+1) (j+1) (by omega),h]
section
variable {sp:List UInt8→Int→Bool}
theorem fG:∀l:List Nd,lE sp l=l.all (dG sp)
 | []=>by rw[lE.eq_def];rfl
 |a::l=>by rw[lE.eq_def,List.all_cons,←fG l]
theorem jm (l:List Nd):s9 sp l=aI [dG sp] l:=by
 match l with
 | []=>rw[s9.eq_def];rfl
 | [a]=>rw[s9.eq_def,iT];simp
 |a::b::l=>rw[s9.eq_def,iT];simp
theorem UB (n:Nd):u5 sp n=bA 37 (isVar sp) (aI [dG sp]) n:=by
 obtain⟨k,s,i,l⟩:=n;rw[u5.eq_def];simp only[bA,Nd.kind,Nd.n,Nd.name,Nd.ag,jm];rfl
theorem g_:∀l:List Nd,sE sp l=l.all (bA 37 (isVar sp) (aI [dG sp]))
 | []=>by rw[sE.eq_def];rfl
 |a::l=>by rw[sE.eq_def,List.all_cons,←g_ l,←UB a]
theorem A4:∀(l:List Nd),(sT sp l=(iD (dG sp) (pY sp) 0 l&&decide (l.length % 2=1)))∧(sS sp l=(iD (dG sp) (pY sp) 1 l&&decide (l.length % 2=0)))
 | []=>⟨by rw[sT.eq_def];rfl,by rw[sS.eq_def];rfl⟩
 |a::l=>by
  obtain⟨h1,h2⟩:=A4 l;constructor
  ·rw[sT.eq_def];simp only;rw[h2,iD,if_pos rfl,List.length_cons,Bool.and_assoc]
   congr 2
   rw[Bool.eq_iff_iff];simp only[decide_eq_true_eq];omega
  ·rw[sS.eq_def];simp only;rw[h1,iD,if_neg (by decide),List.length_cons,Bool.and_assoc,yG _ _ l (1+1) 0 rfl]
   congr 2
   rw[Bool.eq_iff_iff];simp only[decide_eq_true_eq];omega
theorem j1 (l:List Nd):iW (dG sp) (pY sp) l=(decide (l.length>2)&&sT sp l):=by
 rw[(A4 l).1,iW];cases iD (dG sp) (pY sp) 0 l<;>cases decide (l.length>2)<;>simp
def rb (nm:List UInt8→Bool)(nu:Int→Bool)(sb:List Nd→Bool):gZ:=⟨nm,nu,sb⟩
def jn:Int→Bool:=fun n=>decide (n=0)
def J6:Int→Bool:=fun n=>decide (n≥0)
def fh:List UInt8→Bool:=fun _=>true
def FW (sp:List UInt8→Int→Bool):Int→Option gZ:=fun k=>
 if k=51 then some (rb (fD sp) jn (eb 0 (-1) (bA 37 (isVar sp) (aI [dG sp]))))
 else if k=50 then some (rb (wh sp) jn (aI [dG sp]))
 else if k=49 then some (rb List.isEmpty jn (eb 0 (-1) (dG sp)))
 else if k=48 then some (rb List.isEmpty jn (eb 2 3 (dG sp)))
 else if k=47 then some (rb List.isEmpty jn (iW (dG sp) (pY sp)))
 else if k=46 then some (rb (fD sp) jn (eb 0 (-1) (dG sp)))
 else if k=45 then some (rb fh jn aZ)
 else if k=44 then some (rb List.isEmpty J6 aZ)
 else if k=43 then some (rb List.isEmpty jn aZ)
 else if k=42 then some (rb (isVar sp) jn aZ)
 else none
theorem dS (nm:List UInt8→Bool)(sb:List Nd→Bool)(k i:Int)(s:List UInt8)(l:List Nd):(rb nm jn sb).ok (.mk k s i l)=(decide (i=0)&&(nm s&&sb l)):=by
 show (nm s&&decide (i=0)&&sb l)=_;cases nm s<;>cases decide (i=0)<;>simp
theorem dQ (nm:List UInt8→Bool)(sb:List Nd→Bool)(k i:Int)(s:List UInt8)(l:List Nd):(rb nm J6 sb).ok (.mk k s i l)=(nm s&&decide (i≥0)&&sb l):=rfl
theorem w3 (n:Nd):fc (FW sp) n=dG sp n:=by
 obtain⟨k,s,i,l⟩:=n;rw[dG.eq_def];simp only[fc,Nd.kind];unfold FW
 by_cases h42:k=42
 ·subst h42;simp only[↓reduceIte,Int.reduceEq,dS,dQ,fh,aZ,bX,cZ,fG,jm,g_,j1,Bool.and_assoc,Bool.true_and]<;>first|done|rfl
 by_cases h43:k=43
 ·subst h43;simp only[↓reduceIte,Int.reduceEq,dS,dQ,fh,aZ,bX,cZ,fG,jm,g_,j1,Bool.and_assoc,Bool.true_and]<;>first|done|rfl
 by_cases h44:k=44
 ·subst h44;simp only[↓reduceIte,Int.reduceEq,dS,dQ,fh,aZ,bX,cZ,fG,jm,g_,j1,Bool.and_assoc,Bool.true_and]<;>first|done|rfl
 by_cases h45:k=45
 ·subst h45;simp only[↓reduceIte,Int.reduceEq,dS,dQ,fh,aZ,bX,cZ,fG,jm,g_,j1,Bool.and_assoc,Bool.true_and]<;>first|done|rfl
 by_cases h46:k=46
 ·subst h46;simp only[↓reduceIte,Int.reduceEq,dS,dQ,fh,aZ,bX,cZ,fG,jm,g_,j1,Bool.and_assoc,Bool.true_and]<;>first|done|rfl
 by_cases h47:k=47
 ·subst h47;simp only[↓reduceIte,Int.reduceEq,dS,dQ,fh,aZ,bX,cZ,fG,jm,g_,j1,Bool.and_assoc,Bool.true_and]<;>first|done|rfl
 by_cases h48:k=48
 ·subst h48;simp only[↓reduceIte,Int.reduceEq,dS,dQ,fh,aZ,bX,cZ,fG,jm,g_,j1,Bool.and_assoc,Bool.true_and]<;>first|done|rfl
 by_cases h49:k=49
 ·subst h49;simp only[↓reduceIte,Int.reduceEq,dS,dQ,fh,aZ,bX,cZ,fG,jm,g_,j1,Bool.and_assoc,Bool.true_and]<;>first|done|rfl
 by_cases h50:k=50
 ·subst h50;simp only[↓reduceIte,Int.reduceEq,dS,dQ,fh,aZ,bX,cZ,fG,jm,g_,j1,Bool.and_assoc,Bool.true_and]<;>first|done|rfl
 by_cases h51:k=51
 ·subst h51;simp only[↓reduceIte,Int.reduceEq,dS,dQ,fh,aZ,bX,cZ,fG,jm,g_,j1,Bool.and_assoc,Bool.true_and]<;>first|done|rfl
 simp only[h42,h43,h44,h45,h46,h47,h48,h49,h50,h51,if_false,Bool.and_false]
end
section
variable (sp:List UInt8→Int→Bool)
def Bv:Nd→Bool:=bA 37 (isVar sp) (aI [bK sp])
def Eu:Nd→Bool:=bA 29 List.isEmpty (aI [dG sp,kV sp])
def yU:Nd→Bool:=bA 40 List.isEmpty (aI [dG sp,bK sp])
def vy:Nd→Bool:=bA 41 List.isEmpty (aI [lU sp])
def Pg (l:List Nd):Bool:=eb 1 (-1) (dX [bK sp,yU sp,vy sp]) l&&!iP (l.getLastD kJ)
def An (n:Nd):Bool:=decide (n.kind≠19)&&bK sp n
def Bk:Nd→Bool:=cc 1 (bA 17 List.isEmpty (aI [bK sp,bK sp]))
def Bj (n:Nd):Bool:=decide (n.ag.length=1)&&cc 1 (bA 17 List.isEmpty (aI [pC,bK sp])) n
def vP:Nd→Bool:=bA 14 List.isEmpty (aI [cc 0 (dG sp),kV sp])
def np (n:Nd):Bool:=bA 13 (isVar sp) (eb 1 (-1) (vP sp)) n&&(decide (arity n>0∨n.ag.length=1)&&px (arity n) n.ag)
def A8 (n:Nd):Bool:=decide (n.kind≠42)&&dG sp n
def Fq:Int→Option gZ:=fun k=>
 if k=36 then some (rb List.isEmpty jn (kF (An sp) (eb 1 (-1) (Bv sp))))
 else if k=35 then some (rb (fD sp) jn (eb 0 (-1) (Bv sp)))
 else if k=34 then some (rb List.isEmpty jn (aI [mu sp,bK sp]))
 else if k=33 then some (rb List.isEmpty jn (aI [bK sp,mu sp]))
 else if k=32 then some (rb List.isEmpty jn (eb 0 (-1) (bK sp)))
 else if k=31 then some (rb List.isEmpty jn (eb 2 3 (bK sp)))
 else if k=30 then some (rb List.isEmpty jn (Pg sp))
 else if k=28 then some (rb List.isEmpty jn (kF (bK sp) (eb 0 (-1) (Eu sp))))
 else if k=27 then some (rb List.isEmpty jn (aI [bK sp,bK sp,bK sp]))
 else if k=26 then some (rb List.isEmpty jn (aI [lU sp,bK sp]))
 else if k=25 then some (rb List.isEmpty jn (aI [cc 1 (dG sp),bK sp]))
 else if k=23 then some (rb List.isEmpty jn (iW (bK sp) (mu sp)))
 else if k=22 then some (rb List.isEmpty jn (aI [bK sp,bK sp]))
 else if k=21 then some (rb fh jn aZ)
 else if k=20 then some (rb List.isEmpty J6 aZ)
 else if k=19 then some (rb (fD sp) jn aZ)
 else if k=18 then some (rb (isVar sp) jn aZ)
 else none
end
section
variable {sp:List UInt8→Int→Bool}
theorem dy:∀l:List Nd,l_ sp l=l.all (bK sp)
 | []=>by rw[l_.eq_def];rfl
 |a::l=>by rw[l_.eq_def,List.all_cons,←dy l]
theorem oO (l:List Nd):kO sp l=aI [bK sp] l:=by
 match l with
 | []=>rw[kO.eq_def];rfl
 | [a]=>rw[kO.eq_def,iT];simp
 |a::b::l=>rw[kO.eq_def,iT];simp
theorem eW (l:List Nd):aI [bK sp,bK sp] l=(decide (l.length=2)&&l_ sp l):=by
 rw[dy]
 match l with
 | []=>rfl
 | [a]=>simp [aI]
 | [a,b]=>simp [aI]
 |a::b::c::l=>simp [aI]
theorem ff (l:List Nd):aI [bK sp,bK sp,bK sp] l=(decide (l.length=3)&&l_ sp l):=by
 rw[dy]
 match l with
 | []=>rfl
 | [a]=>simp [aI]
 | [a,b]=>simp [aI]
 | [a,b,c]=>simp [aI]
 |a::b::c::d::l=>simp [aI]
theorem kG (f:Nd→Bool)(fs:List (Nd→Bool))(a:Nd)(l:List Nd):aI (f::fs) (a::l)=(f a&&aI fs l):=rfl
theorem Au:∀(l:List Nd),(qt sp l=(iD (bK sp) (mu sp) 0 l&&decide (l.length % 2=1)))∧(sV sp l=(iD (bK sp) (mu sp) 1 l&&decide (l.length % 2=0)))
 | []=>⟨by rw[qt.eq_def];rfl,by rw[sV.eq_def];rfl⟩
 |a::l=>by
  obtain⟨h1,h2⟩:=Au l;constructor
  ·rw[qt.eq_def];simp only;rw[h2,iD,if_pos rfl,List.length_cons,Bool.and_assoc]
   congr 2
   rw[Bool.eq_iff_iff];simp only[decide_eq_true_eq];omega
  ·rw[sV.eq_def];simp only;rw[h1,iD,if_neg (by decide),List.length_cons,Bool.and_assoc,yG _ _ l (1+1) 0 rfl]
   congr 2
   rw[Bool.eq_iff_iff];simp only[decide_eq_true_eq];omega
theorem fg (l:List Nd):iW (bK sp) (mu sp) l=(decide (l.length>2)&&qt sp l):=by
 rw[(Au l).1,iW];cases iD (bK sp) (mu sp) 0 l<;>cases decide (l.length>2)<;>simp
theorem fp (l:List Nd):aI [bK sp,mu sp] l=sz sp l:=by
 match l with
 | []=>rw[sz.eq_def];rfl
 | [a]=>rw[sz.eq_def,kG];rfl
 | [a,o]=>rw[sz.eq_def,kG,iT]
 |a::o::c::l=>rw[sz.eq_def,kG,iT]
theorem gX (l:List Nd):aI [mu sp,bK sp] l=Ey sp l:=by
 match l with
 | []=>rw[Ey.eq_def];rfl
 |a::l=>rw[Ey.eq_def,kG,←oO]
theorem CH (a:Nd):cc 1 (dG sp) a=(decide (a.kind=1)&&decide (a.n=0)&&a.name.isEmpty&&decide (a.ag≠[])&&lE sp a.ag):=by
 simp only[cc,bA,nY,←fG,Bool.and_assoc]
theorem BZ (a:Nd):cc 0 (dG sp) a=(decide (a.kind=1)&&decide (a.n=0)&&a.name.isEmpty&&lE sp a.ag):=by
 simp only[cc,bA,bX,←fG,Bool.and_assoc]
theorem gM (l:List Nd):aI [cc 1 (dG sp),bK sp] l=GK sp l:=by
 match l with
 | []=>rw[GK.eq_def];rfl
 |a::l=>rw[GK.eq_def,kG,←oO,CH]
theorem gQ (l:List Nd):aI [lU sp,bK sp] l=J0 sp l:=by
 match l with
 | []=>rw[J0.eq_def];rfl
 |a::l=>rw[J0.eq_def,kG,←oO]
theorem xO (l:List Nd):qD sp l=aI [kV sp] l:=by
 match l with
 | []=>rw[qD.eq_def];rfl
 | [a]=>rw[qD.eq_def,iT];simp
 |a::b::l=>rw[qD.eq_def,iT];simp
theorem Lx (l:List Nd):aI [dG sp,kV sp] l=pc sp l:=by
 match l with
 | []=>rw[pc.eq_def];rfl
 |a::l=>rw[pc.eq_def,kG,←xO]
theorem T0 (n:Nd):Eu sp n=CI sp n:=by
 obtain⟨k,s,i,l⟩:=n;rw[CI.eq_def];simp only[Eu,bA,Nd.kind,Nd.n,Nd.name,Nd.ag,Lx];rfl
theorem A6:∀l:List Nd,rf sp l=l.all (Eu sp)
 | []=>by rw[rf.eq_def];rfl
 |a::l=>by rw[rf.eq_def,List.all_cons,←A6 l,T0]
theorem fj (l:List Nd):kF (bK sp) (eb 0 (-1) (Eu sp)) l=wB sp l:=by
 match l with
 | []=>rw[wB.eq_def];rfl
 |a::l=>
  rw[wB.eq_def,kF,bX];show _=(bK sp a&&rf sp l);rw[A6]
theorem Rr (n:Nd):Bv sp n=sW sp n:=by
 obtain⟨k,s,i,l⟩:=n;rw[sW.eq_def];simp only[Bv,bA,Nd.kind,Nd.n,Nd.name,Nd.ag,oO];rfl
theorem eJ:∀l:List Nd,pt sp l=l.all (Bv sp)
 | []=>by rw[pt.eq_def];rfl
 |a::l=>by rw[pt.eq_def,List.all_cons,←eJ l,Rr]
theorem gV (l:List Nd):kF (An sp) (eb 1 (-1) (Bv sp)) l=FO sp l:=by
 match l with
 | []=>rw[FO.eq_def];rfl
 |a::l=>
  rw[FO.eq_def,kF,nY];show _=(decide (a.kind≠19)&&bK sp a&&decide (l≠[])&&pt sp l);rw[eJ,An,Bool.and_assoc,Bool.and_assoc,Bool.and_assoc]
theorem CZ (l:List Nd):qg sp l=aI [lU sp] l:=by
 match l with
 | []=>rw[qg.eq_def];rfl
 | [a]=>rw[qg.eq_def,iT];simp
 |a::b::l=>rw[qg.eq_def,iT];simp
theorem PN (l:List Nd):aI [dG sp,bK sp] l=Jl sp l:=by
 match l with
 | []=>rw[Jl.eq_def];rfl
 |a::l=>rw[Jl.eq_def,kG,←oO]
theorem AM {n:Nd}(h:bK sp n=true):n.kind≠40∧n.kind≠41:=by
 obtain⟨k,s,i,l⟩:=n;rw[bK.eq_def] at h;constructor<;>(intro e;simp only[Nd.kind] at e;subst e;simp only[↓reduceIte,Int.reduceEq,Bool.and_false] at h;cases h)
theorem Aw (n:Nd):dX [bK sp,yU sp,vy sp] n=p_ sp n:=by
 obtain⟨k,s,i,l⟩:=n;have e:dX [bK sp,yU sp,vy sp] (.mk k s i l)=(bK sp (.mk k s i l)||(yU sp (.mk k s i l)||vy sp (.mk k s i l))):=by simp [dX]
 rw[e,p_.eq_def]
 by_cases h40:k=40
 ·have h1:bK sp (.mk k s i l)=false:=by
   cases hx:bK sp (.mk k s i l) with
   |false=>rfl
   |true=>exact absurd h40 (AM hx).1
  have h2:vy sp (.mk k s i l)=false:=by simp [vy,bA,Nd.kind,h40]
  rw[h1,h2,Bool.or_false,Bool.false_or];subst h40;simp only[↓reduceIte,yU,bA,Nd.kind,Nd.n,Nd.name,Nd.ag,PN,decide_true,Bool.true_and];rfl
 ·have h2:yU sp (.mk k s i l)=false:=by simp [yU,bA,Nd.kind,h40]
  rw[h2,Bool.false_or];simp only[if_neg h40]
  by_cases h41:k=41
  ·have h1:bK sp (.mk k s i l)=false:=by
    cases hx:bK sp (.mk k s i l) with
    |false=>rfl
    |true=>exact absurd h41 (AM hx).2
   rw[h1,Bool.false_or];subst h41;simp only[↓reduceIte,vy,bA,Nd.kind,Nd.n,Nd.name,Nd.ag,CZ,decide_true,Bool.true_and];rfl
  ·have h3:vy sp (.mk k s i l)=false:=by simp [vy,bA,Nd.kind,h41]
   simp only[if_neg h41];rw[h3,Bool.or_false]
theorem wy:∀l:List Nd,nk sp l=l.all (dX [bK sp,yU sp,vy sp])
 | []=>by rw[nk.eq_def];rfl
 |a::l=>by rw[nk.eq_def,List.all_cons,←wy l,Aw]
theorem kv (l:List Nd):Pg sp l=(nk sp l&&decide (l≠[])&&!iP (l.getLastD kJ)):=by
 rw[Pg,nY,wy,Bool.and_comm (decide (l≠[]))]
theorem wq (n:Nd):fc (Fq sp) n=bK sp n:=by
 obtain⟨k,s,i,l⟩:=n;rw[bK.eq_def];simp only[fc,Nd.kind];unfold Fq
 by_cases h18:k=18
 ·subst h18;simp only[↓reduceIte,Int.reduceEq,dS,dQ,fh,aZ,bX,cZ,dy,eW,ff,fg,fp,gX,gM,gQ,fj,gV,kv,eJ,Bool.and_assoc,Bool.true_and]<;>first|done|rfl
 by_cases h19:k=19
 ·subst h19;simp only[↓reduceIte,Int.reduceEq,dS,dQ,fh,aZ,bX,cZ,dy,eW,ff,fg,fp,gX,gM,gQ,fj,gV,kv,eJ,Bool.and_assoc,Bool.true_and]<;>first|done|rfl
 by_cases h20:k=20
 ·subst h20;simp only[↓reduceIte,Int.reduceEq,dS,dQ,fh,aZ,bX,cZ,dy,eW,ff,fg,fp,gX,gM,gQ,fj,gV,kv,eJ,Bool.and_assoc,Bool.true_and]<;>first|done|rfl
 by_cases h21:k=21
 ·subst h21;simp only[↓reduceIte,Int.reduceEq,dS,dQ,fh,aZ,bX,cZ,dy,eW,ff,fg,fp,gX,gM,gQ,fj,gV,kv,eJ,Bool.and_assoc,Bool.true_and]<;>first|done|rfl
 by_cases h22:k=22
 ·subst h22;simp only[↓reduceIte,Int.reduceEq,dS,dQ,fh,aZ,bX,cZ,dy,eW,ff,fg,fp,gX,gM,gQ,fj,gV,kv,eJ,Bool.and_assoc,Bool.true_and]<;>first|done|rfl
 by_cases h23:k=23
 ·subst h23;simp only[↓reduceIte,Int.reduceEq,dS,dQ,fh,aZ,bX,cZ,dy,eW,ff,fg,fp,gX,gM,gQ,fj,gV,kv,eJ,Bool.and_assoc,Bool.true_and]<;>first|done|rfl
 by_cases h25:k=25
 ·subst h25;simp only[↓reduceIte,Int.reduceEq,dS,dQ,fh,aZ,bX,cZ,dy,eW,ff,fg,fp,gX,gM,gQ,fj,gV,kv,eJ,Bool.and_assoc,Bool.true_and]<;>first|done|rfl
 by_cases h26:k=26
 ·subst h26;simp only[↓reduceIte,Int.reduceEq,dS,dQ,fh,aZ,bX,cZ,dy,eW,ff,fg,fp,gX,gM,gQ,fj,gV,kv,eJ,Bool.and_assoc,Bool.true_and]<;>first|done|rfl
 by_cases h27:k=27
 ·subst h27;simp only[↓reduceIte,Int.reduceEq,dS,dQ,fh,aZ,bX,cZ,dy,eW,ff,fg,fp,gX,gM,gQ,fj,gV,kv,eJ,Bool.and_assoc,Bool.true_and]<;>first|done|rfl
 by_cases h28:k=28
 ·subst h28;simp only[↓reduceIte,Int.reduceEq,dS,dQ,fh,aZ,bX,cZ,dy,eW,ff,fg,fp,gX,gM,gQ,fj,gV,kv,eJ,Bool.and_assoc,Bool.true_and]<;>first|done|rfl
 by_cases h30:k=30
 ·subst h30;simp only[↓reduceIte,Int.reduceEq,dS,dQ,fh,aZ,bX,cZ,dy,eW,ff,fg,fp,gX,gM,gQ,fj,gV,kv,eJ,Bool.and_assoc,Bool.true_and]<;>first|done|rfl
 by_cases h31:k=31
 ·subst h31;simp only[↓reduceIte,Int.reduceEq,dS,dQ,fh,aZ,bX,cZ,dy,eW,ff,fg,fp,gX,gM,gQ,fj,gV,kv,eJ,Bool.and_assoc,Bool.true_and]<;>first|done|rfl
 by_cases h32:k=32
 ·subst h32;simp only[↓reduceIte,Int.reduceEq,dS,dQ,fh,aZ,bX,cZ,dy,eW,ff,fg,fp,gX,gM,gQ,fj,gV,kv,eJ,Bool.and_assoc,Bool.true_and]<;>first|done|rfl
 by_cases h33:k=33
 ·subst h33;simp only[↓reduceIte,Int.reduceEq,dS,dQ,fh,aZ,bX,cZ,dy,eW,ff,fg,fp,gX,gM,gQ,fj,gV,kv,eJ,Bool.and_assoc,Bool.true_and]<;>first|done|rfl
 by_cases h34:k=34
 ·subst h34;simp only[↓reduceIte,Int.reduceEq,dS,dQ,fh,aZ,bX,cZ,dy,eW,ff,fg,fp,gX,gM,gQ,fj,gV,kv,eJ,Bool.and_assoc,Bool.true_and]<;>first|done|rfl
 by_cases h35:k=35
 ·subst h35;simp only[↓reduceIte,Int.reduceEq,dS,dQ,fh,aZ,bX,cZ,dy,eW,ff,fg,fp,gX,gM,gQ,fj,gV,kv,eJ,Bool.and_assoc,Bool.true_and]<;>first|done|rfl
 by_cases h36:k=36
 ·subst h36;simp only[↓reduceIte,Int.reduceEq,dS,dQ,fh,aZ,bX,cZ,dy,eW,ff,fg,fp,gX,gM,gQ,fj,gV,kv,eJ,Bool.and_assoc,Bool.true_and]<;>first|done|rfl
 simp only[h18,h19,h20,h21,h22,h23,h25,h26,h27,h28,h30,h31,h32,h33,h34,h35,h36,if_false,Bool.and_false]
theorem IL (n:Nd):bA 17 List.isEmpty (aI [bK sp,bK sp]) n=pU sp n:=by
 obtain⟨k,s,i,l⟩:=n;rw[pU.eq_def];simp only[bA,Nd.kind,Nd.n,Nd.name,Nd.ag,eW,Bool.and_assoc];rfl
theorem vv:∀l:List Nd,jt sp l=l.all (bA 17 List.isEmpty (aI [bK sp,bK sp]))
 | []=>by rw[jt.eq_def];rfl
 |a::l=>by rw[jt.eq_def,List.all_cons,←vv l,IL]
theorem Fm (l:List Nd):aI [pC,bK sp] l=oX sp l:=by
 match l with
 | []=>rw[oX.eq_def];rfl
 |a::l=>rw[oX.eq_def,kG,←oO]
theorem Gm (n:Nd):bA 17 List.isEmpty (aI [pC,bK sp]) n=rI sp n:=by
 obtain⟨k,s,i,l⟩:=n;rw[rI.eq_def];simp only[bA,Nd.kind,Nd.n,Nd.name,Nd.ag,Fm,Bool.and_assoc];rfl
theorem uO:∀l:List Nd,k9 sp l=l.all (bA 17 List.isEmpty (aI [pC,bK sp]))
 | []=>by rw[k9.eq_def];rfl
 |a::l=>by rw[k9.eq_def,List.all_cons,←uO l,Gm]
theorem YK (n:Nd):dX [Bk sp,Bj sp] n=Z6 sp n:=by
 have e:dX [Bk sp,Bj sp] n=(Bk sp n||Bj sp n):=by simp [dX]
 rw[e];obtain⟨k,s,i,l⟩:=n;rw[Z6.eq_def];simp only[Bk,Bj,cc,bA,nY,←vv,←uO,Nd.kind,Nd.n,Nd.name,Nd.ag];show (decide (k=1)&&decide (i=0)&&s.isEmpty&&(decide (l≠[])&&jt sp l)||decide (l.length=1)&&(decide (k=1)&&decide (i=0)&&s.isEmpty&&(decide (l≠[])&&k9 sp l)))=(decide (k=1)&&decide (i=0)&&s.isEmpty&&decide (l≠[])&&(jt sp l||decide (l.length=1)&&k9 sp l));cases decide (k=1)<;>cases decide (i=0)<;>cases s.isEmpty<;>cases decide (l≠[])<;>cases jt sp l<;>cases decide (l.length=1)<;>cases k9 sp l<;>rfl
theorem Lj (l:List Nd):aI [dX [Bk sp,Bj sp],lU sp] l=w5 sp l:=by
 match l with
 | []=>rw[w5.eq_def];rfl
 |a::l=>rw[w5.eq_def,kG,←CZ,YK]
theorem Gl (n:Nd):bA 16 List.isEmpty (aI [dX [Bk sp,Bj sp],lU sp]) n=kV sp n:=by
 obtain⟨k,s,i,l⟩:=n;rw[kV.eq_def];simp only[bA,Nd.kind,Nd.n,Nd.name,Nd.ag,Lj];rfl
theorem Rz (l:List Nd):aI [cc 0 (dG sp),kV sp] l=Jn sp l:=by
 match l with
 | []=>rw[Jn.eq_def];rfl
 |a::l=>rw[Jn.eq_def,kG,←xO,BZ]
theorem Q6 (n:Nd):vP sp n=UO sp n:=by
 obtain⟨k,s,i,l⟩:=n;rw[UO.eq_def];simp only[vP,bA,Nd.kind,Nd.n,Nd.name,Nd.ag,Rz];rfl
theorem AS:∀l:List Nd,tW sp l=l.all (vP sp)
 | []=>by rw[tW.eq_def];rfl
 |a::l=>by rw[tW.eq_def,List.all_cons,←AS l,Q6]
theorem uE {n:Nd}(h:n.kind=13):np sp n=nM sp n:=by
 obtain⟨k,s,i,l⟩:=n;simp only[Nd.kind] at h;subst h;rw[nM.eq_def];simp only[↓reduceIte,np,bA,nY,←AS,Nd.kind,Nd.n,Nd.name,Nd.ag,decide_true,Bool.true_and,KZ,Bool.and_assoc];rfl
theorem S3 (l:List Nd):aI [A8 sp,kV sp] l=(decide ((l.getD 0 kJ).kind≠42)&&pc sp l):=by
 match l with
 | []=>rw[pc.eq_def];simp [aI]
 |a::l=>rw[pc.eq_def,kG,←xO,A8,Bool.and_assoc];rfl
theorem G9 {n:Nd}(h:n.kind≠13):bA 15 List.isEmpty (aI [A8 sp,kV sp]) n=nM sp n:=by
 obtain⟨k,s,i,l⟩:=n;simp only[Nd.kind] at h;rw[nM.eq_def];simp only[if_neg h,bA,Nd.kind,Nd.n,Nd.name,Nd.ag,S3,Bool.and_assoc];rfl
theorem Eh:∀l:List Nd,zS sp l=l.all (nM sp)
 | []=>by rw[zS.eq_def];rfl
 |a::l=>by rw[zS.eq_def,List.all_cons,←Eh l]
theorem Hk (n:Nd):dz (nM sp) n=lU sp n:=by
 obtain⟨k,s,i,l⟩:=n;rw[lU.eq_def];simp only[dz,cc,bA,bX,←Eh,Nd.kind,Nd.n,Nd.name,Nd.ag];rfl
theorem uw:qe (nM sp):=fun n h hk=>by
 rw[←uE hk] at h;obtain⟨k,s,i,l⟩:=n;simp only[np,bA,nY,Bool.and_eq_true] at h;obtain⟨⟨_,h1,h2⟩,_⟩:=h;have h1:=of_decide_eq_true h1;simp only[Nd.ag] at h1 h2 ⊢
 match l,h1,h2 with
 |c::l,_,h2=>
  refine⟨by simp,?_⟩;simp only[List.all_cons,Bool.and_eq_true] at h2;have hc:=h2.1;obtain⟨k',s',i',l'⟩:=c;simp only[vP,bA,Bool.and_eq_true,Nd.ag] at hc;have hx:=hc.2;show 0<l'.length
  cases l' with
  |nil=>simp [aI] at hx
  |cons _ _=>simp
end
section
variable (sp:List UInt8→Int→Bool)
def xF (k:Int):Nd→Bool:=bA k (isVar sp) (aI [cV sp])
def EL:Nd→Bool:=bA 6 (qT sp) (aI [dX [cc 0 (cV sp),cc 1 (xF sp 7)]])
def F9:Nd→Bool:=bA 11 (iV sp) (aI [eZ sp])
def wM (s:List UInt8):Bool:=decide ((s=oV∨s=oQ)∨s=sk)
def C2 (n:Int):Bool:=decide (n≥0∧n<10)
def nC:Int→Option gZ:=fun k=>
 if k=12 then some (rb wM C2 (aI [cc 1 (mu sp)]))
 else if k=10 then some (rb (iV sp) jn (aI [cc 0 (F9 sp),fun n=>dZ sp n 0,dz (np sp)]))
 else if k=8 then some (rb (iV sp) jn (aI [eZ sp,cc 0 (xF sp 9)]))
 else if k=5 then some (rb (iV sp) jn (aI [cc 0 (eZ sp),cc 0 (EL sp)]))
 else none
def YV:Nd→Bool:=bA 3 (iV sp) (aI [jW sp])
def Oe:Nd→Bool:=bA 2 (iV sp) (aI [jW sp,cc 0 (YV sp),dz (lS sp)])
end
section
variable {sp:List UInt8→Int→Bool}
theorem D1 (k:Int)(n:Nd):xF sp k n=jS sp k n:=by
 simp only[xF,bA,jS,iT];rfl
theorem LV (n:Nd):EL sp n=xA sp n:=by
 have e7:xF sp 7=jS sp 7:=funext (D1 7);have h0:=gU 0 (cV sp);have h1:=gU 1 (jS sp 7);simp only[EL,bA,xA,iT,e7]
 congr 1
 match n.ag with
 | []=>rfl
 | [a]=>simp only[dX,List.any_cons,List.any_nil,Bool.or_false];rw[show cc 0 (cV sp) a=_ from h0 a,show cc 1 (jS sp 7) a=_ from h1 a]
 |a::b::l=>rfl
theorem ME (n:Nd):F9 sp n=o_ sp n:=by
 simp only[F9,bA,o_,iT];rfl
theorem K9 (n:Nd):np sp n=pZ sp n:=by
 by_cases h:n.kind=13
 ·rw[uE h,pZ,decide_eq_true h,Bool.true_and]
 ·rw[pZ,decide_eq_false h,Bool.false_and,np,bA,decide_eq_false h];rfl
theorem Fx:qe (np sp):=fun n h hk=>uw (sp:=sp) n (uE hk▸h) hk
theorem EX:qe (lS sp):=fun n h hk=>uw (sp:=sp) n (by unfold lS at h;simpa [hk] using h) hk
theorem SN (s:List UInt8):wM s=[oV,oQ,sk].contains s:=by
 unfold wM;rw[Bool.eq_iff_iff];simp [List.contains_iff_mem,or_assoc]
theorem wD {n:Nd}{b:gZ}(h:nC sp n.kind=some b):fc (nC sp) n=lS sp n:=by
 have ec:EL sp=xA sp:=funext LV;have e9:xF sp 9=jS sp 9:=funext (D1 9);have ep:F9 sp=o_ sp:=funext ME;have ef:np sp=pZ sp:=funext K9;unfold lS
 by_cases h5:n.kind=5
 ·have e:fc (nC sp) n=(iV sp n.name&&decide (n.n=0)&&aI [cc 0 (eZ sp),cc 0 (EL sp)] n.ag):=by
   simp only[fc,nC,h5,↓reduceIte,Int.reduceEq];rfl
  rw[e,if_pos h5,BE,ec]
  congr 1
  match n.ag with
  | []=>rfl
  | [a]=>rfl
  | [a,b]=>show (_&&_)=(_&&_);rw[show cc 0 (eZ sp) a=_ from gU 0 _ a,show cc 0 (xA sp) b=_ from gU 0 _ b]
  |a::b::c::l=>rfl
 by_cases h8:n.kind=8
 ·have e:fc (nC sp) n=(iV sp n.name&&decide (n.n=0)&&aI [eZ sp,cc 0 (xF sp 9)] n.ag):=by
   simp only[fc,nC,h8,↓reduceIte,Int.reduceEq];rfl
  rw[e,if_neg h5,if_pos h8,BE,e9]
  congr 1
  match n.ag with
  | []=>rfl
  | [a]=>rfl
  | [a,b]=>show (_&&_)=(_&&_);rw[show cc 0 (jS sp 9) b=_ from gU 0 _ b]
  |a::b::c::l=>rfl
 by_cases h10:n.kind=10
 ·have e:fc (nC sp) n=(iV sp n.name&&decide (n.n=0)&&aI [cc 0 (F9 sp),fun n=>dZ sp n 0,dz (np sp)] n.ag):=by
   simp only[fc,nC,h10,↓reduceIte,Int.reduceEq];rfl
  rw[e,if_neg h5,if_neg h8,if_pos h10,J1,ep,ef]
  congr 1
  match n.ag with
  | []=>rfl
  | [a]=>rfl
  | [a,b]=>rfl
  | [a,b,c]=>
   show (_&&(_&&dz (pZ sp) c))=_;rw[dz,show cc 0 (o_ sp) a=_ from gU 0 _ a,show cc 0 (pZ sp) c=_ from gU 0 _ c];simp only[Bool.and_assoc]
  |a::b::c::d::l=>rfl
 by_cases h12:n.kind=12
 ·have e:fc (nC sp) n=(wM n.name&&C2 n.n&&aI [cc 1 (mu sp)] n.ag):=by
   simp only[fc,nC,h12,↓reduceIte,Int.reduceEq];rfl
  rw[e,if_neg h5,if_neg h8,if_neg h10,if_pos h12,iT,SN]
  congr 1
  match n.ag with
  | []=>rfl
  | [a]=>exact gU 1 _ a
  |a::b::l=>rfl
 exfalso;simp only[nC,h5,h8,h10,h12,if_false] at h;cases h
theorem zZ {n:Nd}(h:nC sp n.kind=none):nM sp n=lS sp n:=by
 unfold lS
 by_cases h5:n.kind=5
 ·simp [nC,h5] at h
 by_cases h8:n.kind=8
 ·simp [nC,h8] at h
 by_cases h10:n.kind=10
 ·simp [nC,h10] at h
 by_cases h12:n.kind=12
 ·simp [nC,h12] at h
 rw[if_neg h5,if_neg h8,if_neg h10,if_neg h12]
theorem TH (n:Nd):YV sp n=zL sp n:=by
 simp only[YV,bA,zL,iT];rfl
theorem mod_eq (n:Nd):Oe sp n=yk sp n:=by
 have ei:YV sp=zL sp:=funext TH;simp only[Oe,bA,yk,J1,ei]
 congr 1
 match n.ag with
 | []=>rfl
 | [a]=>rfl
 | [a,b]=>rfl
 | [a,b,c]=>
  show (_&&(_&&dz (lS sp) c))=_;rw[dz,show cc 0 (zL sp) b=_ from gU 0 _ b,show cc 0 (lS sp) c=_ from gU 0 _ c];simp only[Bool.and_assoc]
 |a::b::c::d::l=>rfl
theorem ud (n:Nd):(pC n||cc 0 (bA 4 (fun s=>isVar sp s||iV sp s) aZ) n)=jW sp n:=by
 have e:bA 4 (fun s=>isVar sp s||iV sp s) aZ=qs sp:=funext GL;rw[jW,e,show cc 0 (qs sp) n=_ from gU 0 _ n]
end
theorem UC {P:Program}{p:CP}{m:Nat}{G:Int→Option cz}{g:Int→Option gZ}{k:Int}{o:Option cz}(h:aA P p m G g)(ho:o=G k)(hn:¬o.isSome=true):g k=none:=
 h.none (by rw[←ho];cases o<;>simp_all)
theorem LC {P:Program}{p:CP}{m:Nat}{G:Int→Option cz}{g:Int→Option gZ}{k:Int}{o:Option cz}(h:aA P p m G g)(ho:o=G k)(hn:¬¬o.isSome=true):∃b,g k=some b:=by
 cases o with
 |none=>simp at hn
 |some r=>obtain⟨b,hb,_⟩:=h.some ho.symm;exact⟨b,hb⟩
set_option maxHeartbeats 4000000
set_option maxRecDepth 100000
theorem Oc {b c:UInt8}:(c.toNat:Int)=(b.toNat:Int)↔c=b:=by
 rw[Int.natCast_inj];exact⟨fun h=>UInt8.toNat_inj.1 h,fun h=>by rw[h]⟩
theorem getD_some {l:List UInt8}{k:Nat}(h:k<l.length):l[k]?=some (l.getD k 0):=by simp [List.getElem?_eq_getElem h]
theorem TY {l:List UInt8}{k:Nat}{b:UInt8}(h:k<l.length)(hn:(l.take k).contains b=false)(h2:¬((l.getD k 0).toNat:Int)=b.toNat):(l.take (k+1)).contains b=false:=by
 rw[List.take_add_one,getD_some h];simp only[Option.toList_some,List.contains_append,hn,Bool.false_or];have:¬b=l.getD k 0:=fun e=>h2 (by rw[e])
 simpa using this
theorem Mk {l:List UInt8}{k:Nat}{b:UInt8}(h:k<l.length)(h2:((l.getD k 0).toNat:Int)=b.toNat):l.contains b=true:=by
 rw[Oc] at h2;subst h2;exact List.contains_iff_mem.2 (List.mem_of_getElem? (getD_some h))
theorem GG {l:List (List UInt8)}{k:Nat}{b c:List UInt8}(h:l[k]?=some c)(hn:(l.take k).contains b=false)(h2:¬c=b):(l.take (k+1)).contains b=false:=by
 rw[List.take_add_one,h];simp only[Option.toList_some,List.contains_append,hn,Bool.false_or]
 simpa using fun e:b=c=>h2 e.symm
theorem DY {l:List (List UInt8)}{k:Nat}{b c:List UInt8}(h:l[k]?=some c)(h2:c=b):l.contains b=true:=by
 subst h2;exact List.contains_iff_mem.2 (List.mem_of_getElem? h)
theorem Hd {k:Nat}{b:UInt8}(h:(k:Int)=0):dM k b=decide (((jw b=true∨aY b=true)∨(b.toNat:Int)=95)∨(b.toNat:Int)=39):=by
 have:k=0:=by omega
 simp [dM,this]
theorem AT {k:Nat}{b:UInt8}(h:(k:Int)=1):dM k b=aY b:=by
 have:k=1:=by omega
 simp [dM,this]
theorem J9 {k:Nat}{b:UInt8}(h:(k:Int)=2):dM k b=im b:=by
 have:k=2:=by omega
 simp [dM,this]
theorem Jy {k:Nat}{b:UInt8}(h0:¬(k:Int)=0)(h1:¬(k:Int)=1)(h2:¬(k:Int)=2):dM k b=decide (¬(b.toNat:Int)=10):=by
 have a0:¬k=0:=by omega
 have a1:¬k=1:=by omega
 have a2:¬k=2:=by omega
 simp [dM,a0,a1,a2]
def rh (s:List UInt8)(at_:Nat):List Value:=[str s,i64 at_,i64 (cF s at_).1,i64 (cF s at_).2]
theorem kX (s:List UInt8):∀k,(cF s k).1≤k+1∧(cF s k).2≤k+1
 |0=>by simp [cF]
 |k+1=>by
  have:=kX s k;unfold cF
  split<;>simp<;>omega
theorem PY {s:List UInt8}{k:Nat}{i:Nat}(h:((s.getD (i+k) 0).toNat:Int)=10):rh s (i+(k+1))=[str s,i64 ((i+k:Nat)+1),i64 ((cF s (i+k)).1+1),i64 (0+1)]:=by
 have h':gt s (i+k)=10:=UInt8.toNat_inj.1 (by have:(s.getD (i+k) 0).toNat=10:=(by omega);exact this);simp [rh,←Nat.add_assoc,cF,h']
theorem OU {s:List UInt8}{k:Nat}{i:Nat}(h:¬((s.getD (i+k) 0).toNat:Int)=10):rh s (i+(k+1))=[str s,i64 ((i+k:Nat)+1),i64 (cF s (i+k)).1,i64 ((cF s (i+k)).2+1)]:=by
 have h':¬gt s (i+k)=10:=fun e=>h (by have:(s.getD (i+k) 0)=10:=e;rw[this];rfl);simp [rh,←Nat.add_assoc,cF,h']
theorem IU (w0:World)(l:List UInt8)(b:UInt8)(hl:l.length≤9223372036854775000):bI Tryz.prog 39 #[str l,.int .u8 b.toNat] w0 (fun v w'=>v=.bool (l.contains b)∧St w0 [] w' []):=by
 have hO:=St.aX w0;refine cw Tryz.func39 Tryz.ntmps39 fun a hF=>?_;refine Zv 2 fun a hF=>?_;refine ax (fun (k:Nat) a w'=>(k≤l.length∧(l.take k).contains b=false)∧St w0 [] w' []∧Fr a 17 [(0,str l),(1,.int .u8 b.toNat),(5,i64 k)]) (fun (k:Nat)=>l.length - k) 0 ⟨⟨by omega,by simp⟩,hO,hF.sub ⟨rfl,rfl,rfl,trivial⟩⟩ ?_;rintro k a w ⟨⟨hk,hn⟩,hO,hF⟩;refine Zi 4 (fun a hF hc1=>?_) fun a hF hc1=>?_
 ·refine Zv 2 fun a hF=>?_;refine ao hF rfl rfl rfl (cA Tryz.underlying9 rfl (hF.eval rfl) (hF.eval rfl) (by omega)) fun a hF=>?_;refine Zi 2 (fun a hF hc2=>?_) fun a hF hc2=>?_
  ·refine Zr 1 ?_;refine⟨?_,hO⟩;rw[Mk (by omega) hc2]
  ·refine Zv 3 fun a hF=>?_;exact⟨k+1,⟨⟨by omega,TY (by omega) hn hc2⟩,hO,hF.sub ⟨rfl,rfl,rfl,trivial⟩⟩,by omega⟩
 ·refine Zr 1 ?_;refine⟨?_,hO⟩;rw[←hn,List.take_of_length_le (by omega)]
theorem zq (w0:World)(b:UInt8):bI Tryz.prog 32 #[.int .u8 b.toNat] w0 (fun v w'=>v=.bool (jw b)∧St w0 [] w' []):=by
 have hO:=St.aX w0;refine cw Tryz.func32 Tryz.ntmps32 fun a hF=>?_;refine Zw 13 fun a hF=>?_;refine cL hF rfl rfl rfl rfl rfl rfl (fun hg=>dk rfl ((hF.eval rfl).trans (an hg)) rfl (fun hg2=>((hF.eval rfl).trans (mr hg hg2))) rfl) fun a hF=>?_;refine Zr 2 ?_;exact⟨rfl,hO⟩
theorem qF (w0:World)(b:UInt8):bI Tryz.prog 36 #[.int .u8 b.toNat] w0 (fun v w'=>v=.bool (aY b)∧St w0 [] w' []):=by
 have hO:=St.aX w0;refine cw Tryz.func36 Tryz.ntmps36 fun a hF=>?_;refine Zw 8 fun a hF=>?_;refine Zr 0 ?_;exact⟨rfl,hO⟩
theorem IA (w0:World)(b:UInt8):bI Tryz.prog 37 #[.int .u8 b.toNat] w0 (fun v w'=>v=.bool (im b)∧St w0 [] w' []):=by
 have hO:=St.aX w0;refine cw Tryz.func37 Tryz.ntmps37 fun a hF=>?_;refine Zv 2 fun a hF=>?_;refine fN hF rfl rfl rfl (a6 hF rfl rfl Tryz.call39 (IU _ _ _ (by decide))) ?_;rintro a _ w ⟨rfl,hS⟩ hF;have hO:=hO.k0 hS;refine Zw 3 fun a hF=>?_;refine ao hF rfl rfl rfl (dk rfl (hF.eval rfl) (bh _) (fun hg2=>((hF.eval rfl).trans (an hg2))) rfl) fun a hF=>?_;refine Zr 1 ?_;exact⟨rfl,hO⟩
theorem Uh (w0:World)(k:Nat)(b:UInt8):bI Tryz.prog 91 #[i64 k,.int .u8 b.toNat] w0 (fun v w'=>v=.bool (dM k b)∧St w0 [] w' []):=by
 have hO:=St.aX w0;refine cw Tryz.func91 Tryz.ntmps91 fun a hF=>?_;refine Zi 4 (fun a hF hc1=>?_) fun a hF hc1=>?_
 ·refine Zc 1 (zq _ _) ?_;rintro a _ w ⟨rfl,hS⟩ hF;have hO:=hO.k0 hS;refine Zw 2 fun a hF=>?_;refine eg hO hF rfl rfl rfl rfl rfl rfl (fun hg=>du hF rfl rfl (kD trivial) Tryz.call36 (qF _ _)) fun a w hO hF=>?_;refine ao hF rfl rfl rfl (uC rfl (hF.eval rfl) (bh _) (fun hg2=>((hF.eval rfl).trans (an hg2))) (bh _)) fun a hF=>?_;refine Zw 9 fun a hF=>?_;refine Zr 0 ?_;refine⟨?_,hO⟩;rw[Hd hc1]
 ·refine Zi 2 (fun a hF hc2=>?_) fun a hF hc2=>?_
  ·refine Zc 1 (qF _ _) ?_;rintro a _ w ⟨rfl,hS⟩ hF;have hO:=hO.k0 hS;refine Zr 1 ?_;refine⟨?_,hO⟩;rw[AT hc2]
  ·refine Zi 2 (fun a hF hc3=>?_) fun a hF hc3=>?_
   ·refine Zc 1 (IA _ _) ?_;rintro a _ w ⟨rfl,hS⟩ hF;have hO:=hO.k0 hS;refine Zr 1 ?_;refine⟨?_,hO⟩;rw[J9 hc3]
   ·refine Zr 3 ?_;refine⟨?_,hO⟩;rw[Jy hc1 hc2 hc3]
theorem Om (w0:World)(s:List UInt8)(vl:Value)(ls:List (List UInt8))(hl:ls.length≤9223372036854775000)(hR:bF w0 [] vl rA ls):bI Tryz.prog 34 #[str s,vl] w0 (fun v w'=>v=.bool (ls.contains s)∧St w0 [] w' []):=by
 have hO:=St.aX w0;refine cw Tryz.func34 Tryz.ntmps34 fun a hF=>?_;refine Zv 2 fun a hF=>?_;refine ax (fun (k:Nat) a w'=>(k≤ls.length∧(ls.take k).contains s=false)∧St w0 [] w' []∧Fr a 18 [(0,str s),(1,vl),(5,i64 k)]) (fun (k:Nat)=>ls.length - k) 0 ⟨⟨by omega,by simp⟩,hO,hF.sub ⟨rfl,rfl,rfl,trivial⟩⟩ ?_;rintro k a w ⟨⟨hk,hn⟩,hO,hF⟩;refine Zg 2 (ew hR) fun a hF=>?_;refine Zi 1 (fun a hF hc1=>?_) fun a hF hc1=>?_
 ·obtain⟨x,hx⟩:=cI (l:=ls) (i:=k) (by omega);refine Zg 2 (eB k hR (by omega)) fun a hF=>?_;refine Zh 0 hR hx fun a hF=>?_;refine Zi 2 (fun a hF hc2=>?_) fun a hF hc2=>?_
  ·refine Zr 1 ?_;refine⟨?_,hO⟩;rw[DY hx hc2]
  ·refine Zv 3 fun a hF=>?_;exact⟨k+1,⟨⟨by omega,GG hx hn hc2⟩,hO,hF.sub ⟨rfl,rfl,rfl,trivial⟩⟩,by omega⟩
 ·refine Zr 1 ?_;refine⟨?_,hO⟩;rw[←hn,List.take_of_length_le (by omega)]
theorem LN (w0:World):bI Tryz.prog 35 #[] w0 (fun v w'=>∃u,v=u∧St w0 [] w' [aT u 9 rA pH]):=by
 have hO:=St.aX w0;refine cw Tryz.func35 Tryz.ntmps35 fun a hF=>?_;refine Zb 3 fun b1 a w hO hF=>?_;refine Zr 0 ?_;exact⟨_,rfl,hO⟩
theorem Nl (w0:World):bI Tryz.prog 38 #[] w0 (fun v w'=>∃u,v=u∧St w0 [] w' [aT u 9 rA pQ]):=by
 have hO:=St.aX w0;refine cw Tryz.func38 Tryz.ntmps38 fun a hF=>?_;refine Zb 3 fun b1 a w hO hF=>?_;refine Zr 0 ?_;exact⟨_,rfl,hO⟩
theorem CS (w0:World)(br:Nat)(s:List UInt8)(at_ n:Nat)(hA:bx w0 [.ob br 70 (rh s at_)])(hn:at_+n≤s.length)(hs:s.length≤16384):bI Tryz.prog 29 #[ptr (aj br),i64 n] w0 (fun v w'=>v=.tuple #[]∧St w0 [br] w' [.ob br 70 (rh s (at_+n))]):=by
 have hO:=St.init hA;have hb:=kX s at_;refine cw Tryz.func29 Tryz.ntmps29 fun a hF=>?_;refine Zv 1 fun a hF=>?_;refine ax (fun (k:Nat) a w'=>(k≤n)∧St w0 [br] w' [.ob br 70 (rh s (at_+k))]∧Fr a 47 [(0,ptr (aj br)),(1,i64 n),(4,i64 k)]) (fun (k:Nat)=>n - k) 0 ⟨by omega,hO,hF.sub ⟨rfl,rfl,rfl,trivial⟩⟩ ?_;rintro k a w ⟨hk,hO,hF⟩;have hb:=kX s (at_+k);refine Zi 3 (fun a hF hc1=>?_) fun a hF hc1=>?_
 ·refine Zd 0 [0,0,0,1,0,0,0,1,0,0] fun w hO=>?_;refine Zv 8 fun a hF=>?_;refine dE hF rfl rfl rfl (fun w=>cA (m:=at_+k) Tryz.underlying9 rfl (hF.eval rfl) (hF.eval rfl) (by omega)) fun a hF=>?_;refine Zi 1 (fun a hF hc2=>?_) fun a hF hc2=>?_
  ·refine Zs 34 fun a w hO hF=>?_;have hO:=hO.eq (congrArg (fun x=>[aq.ob br 70 x]) (PY hc2).symm);exact⟨k+1,⟨by omega,hO,hF.sub ⟨rfl,rfl,rfl,trivial⟩⟩,by omega⟩
  ·refine Zs 21 fun a w hO hF=>?_;have hO:=hO.eq (congrArg (fun x=>[aq.ob br 70 x]) (OU hc2).symm);exact⟨k+1,⟨by omega,hO,hF.sub ⟨rfl,rfl,rfl,trivial⟩⟩,by omega⟩
 ·refine Zr 0 ?_;obtain rfl:k=n:=by omega
  exact⟨rfl,hO⟩
theorem fB (s:List UInt8)(i k:Nat):bq s i k≤s.length - i:=by
 unfold bq;have:=(List.takeWhile_sublist (dM k) (l:=s.drop i)).length_le
 simpa using this
theorem ua (p:UInt8→Bool):∀(l:List UInt8) (k:Nat),k≤(l.takeWhile p).length→k<l.length→p (l.getD k 0)=true→k+1≤(l.takeWhile p).length
 | [],k,_,h,_=>by simp at h
 |c::l,0,_,_,h=>by
  have:p c=true:=by simpa using h
  simp [this]
 |c::l,k+1,hk,hl,h=>by
  by_cases hc:p c=true
  ·simp only[List.takeWhile_cons,hc,if_true,List.length_cons] at hk ⊢;have:=ua p l k (by omega) (by simpa using hl) (by simpa using h);omega
  ·simp [hc] at hk
theorem I6 (p:UInt8→Bool):∀(l:List UInt8) (k:Nat),k≤(l.takeWhile p).length→(l.length≤k∨p (l.getD k 0)=false)→(l.takeWhile p).length=k
 | [],k,hk,_=>by simp at hk ⊢;omega
 |c::l,0,_,h=>by
  rcases h with h|h
  ·simp at h
  ·have:p c=false:=by simpa using h
   simp [this]
 |c::l,k+1,hk,h=>by
  by_cases hc:p c=true
  ·simp only[List.takeWhile_cons,hc,if_true,List.length_cons] at hk ⊢;have:=I6 p l k (by omega) (by
     rcases h with h|h
     · simp at h;exact .inl h
     · exact .inr (by simpa using h))
   omega
  ·simp [hc] at hk
theorem eL (s:List UInt8)(i k:Nat):(s.drop i).getD k 0=s.getD (i+k) 0:=by simp [List.getD_eq_getElem?_getD]
theorem yC {s:List UInt8}{i kd k:Nat}(hk:k≤bq s i kd)(hl:i+k<s.length)(h:dM kd (s.getD (i+k) 0)=true):k+1≤bq s i kd:=
 ua _ _ _ hk (by simp;omega) (by rw[eL];exact h)
theorem Qg {s:List UInt8}{i kd k:Nat}(_ha:i≤s.length)(hk:k≤bq s i kd)(h:¬((i:Int)+k<s.length∧dM kd (s.getD (i+k) 0)=true)):bq s i kd=k:=
 I6 _ _ _ hk (by
   by_cases hl:i+k<s.length
   · right
     rw[eL]
     cases hg:dM kd (s.getD (i+k) 0) with
     |false=>rfl
     |true=>exact absurd ⟨by omega,hg⟩ h
   · left;simp;omega)
theorem rZ {s:List UInt8}{i:Nat}(h:i+1<s.length)(a b:UInt8):((s.take (i+2)).drop i=[a,b])↔(gt s i=a∧gt s (i+1)=b):=by
 have e:(s.take (i+2)).drop i=[gt s i,gt s (i+1)]:=by
  apply List.ext_getElem?;intro j;rw[List.getElem?_drop,List.getElem?_take]
  match j with
  |0=>simp [gt,List.getElem?_eq_getElem (show i<s.length by omega)]
  |1=>simp [gt,List.getElem?_eq_getElem h]
  |j+2=>simp;omega
 rw[e];simp
section
variable {s:List UInt8} {at_ g i:Nat} {d:Int}
theorem zB (h:¬((i:Int)+1<s.length)){f:Nat}:jP s at_ f d i=none:=by
 cases f with
 |zero=>rfl
 |succ f=>unfold jP;rw[if_neg (by omega)]
theorem zJ (h:i+1<s.length)(h2:(s.take (i+2)).drop i=[123,45]):jP s at_ (g+1) d i=jP s at_ g (d+1) (i+2):=by
 rw[rZ h] at h2;rw[jP,if_pos h,if_pos h2]
theorem HR (h:i+1<s.length)(h2:¬(s.take (i+2)).drop i=[123,45])(h3:¬(s.take (i+2)).drop i=[45,125]):jP s at_ (g+1) d i=jP s at_ g d (i+1):=by
 rw[rZ h] at h2 h3;rw[jP,if_pos h,if_neg h2,if_neg h3]
theorem AP (h:i+1<s.length)(h2:¬(s.take (i+2)).drop i=[123,45])(h3:(s.take (i+2)).drop i=[45,125])(h4:¬d - 1=0):jP s at_ (g+1) d i=jP s at_ g (d - 1) (i+2):=by
 rw[rZ h] at h2 h3;rw[jP,if_pos h,if_neg h2,if_pos h3,if_neg h4]
theorem Ec (h:i+1<s.length)(h2:¬(s.take (i+2)).drop i=[123,45])(h3:(s.take (i+2)).drop i=[45,125])(h4:d - 1=0):jP s at_ (g+1) d i=some (i+2 - at_):=by
 rw[rZ h] at h2 h3;rw[jP,if_pos h,if_neg h2,if_pos h3,if_pos h4]
end
theorem DV (w0:World)(br:Nat)(s:List UInt8)(at_:Nat)(hA:bx w0 [.ob br 70 (rh s at_)])(e:Int):bI Tryz.prog 31 #[ptr (aj br),i64 e] w0 (fun v w'=>v=.tuple #[.slice none 0 0,.agg (aJ ⟨[],(cF s at_).1,(cF s at_).2,e⟩).toArray]∧St w0 [br] w' [.ob br 70 (rh s at_)]):=by
 have hO:=St.init hA;refine cw Tryz.func31 Tryz.ntmps31 fun a hF=>?_;refine Zb 2 fun b1 a w hO hF=>?_;refine Zd 0 [0,0,0,1,0,0,0,1,0,0,0,3] fun w hO=>?_;refine Zs 12 fun a w hO hF=>?_;refine rW hF rfl rfl rfl Tryz.isAgg31 Tryz.sizeOf31 (hO.cells 0 rfl) rfl ?_;exact⟨rfl,hO.tail⟩
theorem Ef (w0:World)(br:Nat)(s:List UInt8)(at_ kind:Nat)(hA:bx w0 [.ob br 70 (rh s at_)])(hs:s.length≤16384)(ha:at_≤s.length):bI Tryz.prog 33 #[ptr (aj br),i64 kind] w0 (fun v w'=>v=i64 (bq s at_ kind)∧St w0 [br] w' [.ob br 70 (rh s at_)]):=by
 have hO:=St.init hA;refine cw Tryz.func33 Tryz.ntmps33 fun a hF=>?_;refine Zv 2 fun a hF=>?_;refine ax (fun (k:Nat) a w'=>(k≤bq s at_ kind)∧St w0 [br] w' [.ob br 70 (rh s at_)]∧Fr a 36 [(0,ptr (aj br)),(1,i64 kind),(5,i64 k)]) (fun (k:Nat)=>bq s at_ kind - k) 0 ⟨by omega,hO,hF.sub ⟨rfl,rfl,rfl,trivial⟩⟩ ?_;rintro k a w ⟨hk,hO,hF⟩;have hrl:=fB s at_ kind;refine Zd 0 [0,0,0,1,0,0,0,0,0,1,0,0,0,0,0,0,0,1,0,0,0,1,0,0,0,3,0] fun w hO=>?_;refine Zw 24 fun a hF=>?_;refine uo hF rfl rfl rfl rfl rfl rfl (fun hg w=>cA (m:=at_+k) Tryz.underlying9 rfl ((hF.eval rfl).trans (an hg)) ((hF.eval rfl).trans (an hg)) (by have:=iJ hg;omega)) fun a hF=>?_;refine NQ hO hF rfl rfl rfl rfl rfl rfl (fun hg=>du hF rfl rfl (kD trivial) Tryz.call91 (Uh _ _ _)) fun a w hO hF=>?_;refine dE hF rfl rfl rfl (fun w=>dk rfl (hF.eval rfl) rfl (fun hg2=>((hF.eval rfl).trans (an hg2))) (bh _)) fun a hF=>?_;refine Zi 0 (fun hc1=>?_) fun hc1=>?_
 ·refine Zv 3 fun a hF=>?_;exact⟨k+1,⟨yC hk (by have:=hc1.1;omega) hc1.2,hO,hF.sub ⟨rfl,rfl,rfl,trivial⟩⟩,by have:=yC hk (by have:=hc1.1;omega) hc1.2;omega⟩
 ·refine Zr 2 ?_;rw[Qg (by omega) hk hc1];exact⟨rfl,hO⟩
theorem I8 (w0:World)(br:Nat)(s:List UInt8)(at_:Nat)(hA:bx w0 [.ob br 70 (rh s at_)])(hs:s.length≤16384)(ha:at_<s.length):bI Tryz.prog 30 #[ptr (aj br)] w0 (fun v w'=>v=i64 (match fA s at_ with|none=> -1|some k=>(k:Int))∧St w0 [br] w' [.ob br 70 (rh s at_)]):=by
 have hO:=St.init hA;refine cw Tryz.func30 Tryz.ntmps30 fun a hF=>?_;refine Zv 7 fun a hF=>?_;refine ax (fun (x:Nat×Int×Nat) a w'=>match x with| (f,d,i)=>(jP s at_ f d i=fA s at_∧s.length<i+f∧at_≤i∧i≤s.length∧ -16384≤d∧d≤i∧ -(i:Int)≤d)∧St w0 [br] w' [.ob br 70 (rh s at_)]∧Fr a 48 [(0,ptr (aj br)),(3,i64 d),(4,i64 i)]) (fun (x:Nat×Int×Nat)=>match x with| (f,d,i)=>f) (s.length+1,0,at_) ⟨⟨rfl,by omega,by omega,by omega,by omega,by omega,by omega⟩,hO,hF.sub ⟨rfl,rfl,rfl,trivial⟩⟩ ?_;rintro⟨f,d,i⟩ a w ⟨⟨hr,hf,hai,hil,hd1,hd2,hd3⟩,hO,hF⟩;skip;refine Zi 8 (fun a hF hc1=>?_) fun a hF hc1=>?_
 ·refine Zv 7 fun a hF=>?_;refine ao hF rfl rfl rfl (vc (i:=i) (j:=i+2) Tryz.underlying9 rfl (hF.eval rfl) (hF.eval rfl) (hF.eval rfl) (by omega) (by omega)) fun a hF=>?_;refine Zi 3 (fun a hF hc2=>?_) fun a hF hc2=>?_
  ·obtain⟨g,rfl⟩:∃g,f=g+1:=⟨f - 1,by omega⟩;refine Zv 6 fun a hF=>?_;exact⟨(g,d+1,i+2),⟨⟨(zJ (by omega) hc2).symm.trans hr,by omega,by omega,by omega,by omega,by omega,by omega⟩,hO,hF.sub ⟨rfl,rfl,rfl,trivial⟩⟩,by dsimp only;omega⟩
  ·refine Zi 2 (fun a hF hc3=>?_) fun a hF hc3=>?_
   ·refine Zi 8 (fun a hF hc4=>?_) fun a hF hc4=>?_
    ·refine Zv 7 fun a hF=>?_;refine ke ?_;refine jz ?_;refine ke ?_;refine jz ?_;refine Ty hF rfl rfl ?_;obtain⟨g,rfl⟩:∃g,f=g+1:=⟨f - 1,by omega⟩;refine⟨?_,hO⟩;rw[←hr,Ec (by omega) hc2 hc3 hc4];exact congrArg i64 (show (i:Int)+2 - at_=((i+2 - at_:Nat):Int) by omega)
    ·obtain⟨g,rfl⟩:∃g,f=g+1:=⟨f - 1,by omega⟩;refine Zv 0 ?_;exact⟨(g,d - 1,i+2),⟨⟨(AP (by omega) hc2 hc3 hc4).symm.trans hr,by omega,by omega,by omega,by omega,by omega,by omega⟩,hO,hF.sub ⟨rfl,rfl,rfl,trivial⟩⟩,by dsimp only;omega⟩
   ·obtain⟨g,rfl⟩:∃g,f=g+1:=⟨f - 1,by omega⟩;refine Zv 3 fun a hF=>?_;exact⟨(g,d,i+1),⟨⟨(HR (by omega) hc2 hc3).symm.trans hr,by omega,by omega,by omega,by omega,by omega,by omega⟩,hO,hF.sub ⟨rfl,rfl,rfl,trivial⟩⟩,by dsimp only;omega⟩
 ·refine Zv 1 fun a hF=>?_;refine Ty hF rfl rfl ?_;refine⟨?_,hO⟩;rw[←hr,zB (by omega)]
  rfl
theorem lh {b:UInt8}(h:aY b=true):(48:Int)≤b.toNat∧(b.toNat:Int)≤57:=of_decide_eq_true h
theorem mc {s:List UInt8}{i:Nat}{n:Int}(c:UInt8)(hc:(c.toNat:Int)=n)(h:((s.getD i 0).toNat:Int)=n):gt s i=c:=by
 apply UInt8.toNat_inj.1;show (s.getD i 0).toNat=_;omega
theorem nI {s:List UInt8}{i:Nat}{n:Int}(c:UInt8)(hc:(c.toNat:Int)=n)(h:¬((s.getD i 0).toNat:Int)=n):¬gt s i=c:=fun e=>h (by
  have:(s.getD i 0)=c:=e
  rw[this];exact hc)
theorem ub {n:Nat}(h:n≤255):IntKind.u8.wrap (n:Int)=((UInt8.ofNat n).toNat:Int):=by
 rw[IntWalk.u8_in _ (by omega),UInt8.toNat_ofNat',Nat.mod_eq_of_lt (by omega)]
section
variable {s out:List UInt8} {g i:Nat}
theorem zl (h:¬(i:Int)<s.length){f:Nat}:gB s f out i=none:=by
 cases f with
 |zero=>rfl
 |succ f=>rw[gB,if_neg (by omega)]
theorem wJ (h:i<s.length)(h2:((s.getD i 0).toNat:Int)=34):gB s (g+1) out i=some (out,i+1):=by
 rw[gB,if_pos h,if_pos (mc 34 rfl h2)]
theorem wH (h:i<s.length)(h2:¬((s.getD i 0).toNat:Int)=34)(h3:¬((s.getD i 0).toNat:Int)=92)(h4:¬(((s.getD i 0).toNat:Int)<32∨126< ((s.getD i 0).toNat:Int))):
  gB s (g+1) out i=gB s g (out++[gt s i]) (i+1):=by
 rw[gB,if_pos h,if_neg (nI 34 rfl h2),if_pos (nI 92 rfl h3),if_neg];rintro (h5|h5)
 ·exact h4 (.inl (by have:=UInt8.lt_iff_toNat_lt.1 h5;have e:(32:UInt8).toNat=32:=rfl;unfold gt at this;omega))
 ·exact h4 (.inr (by have:=UInt8.lt_iff_toNat_lt.1 h5;have e:(126:UInt8).toNat=126:=rfl;unfold gt at this;omega))
theorem Dr (h:i<s.length)(h2:¬((s.getD i 0).toNat:Int)=34)(h3:¬((s.getD i 0).toNat:Int)=92)(h4:(((s.getD i 0).toNat:Int)<32∨126< ((s.getD i 0).toNat:Int))):
  gB s (g+1) out i=none:=by
 rw[gB,if_pos h,if_neg (nI 34 rfl h2),if_pos (nI 92 rfl h3),if_pos];rcases h4 with h5|h5
 ·exact .inl (UInt8.lt_iff_toNat_lt.2 (by have e:(32:UInt8).toNat=32:=rfl;unfold gt;omega))
 ·exact .inr (UInt8.lt_iff_toNat_lt.2 (by have e:(126:UInt8).toNat=126:=rfl;unfold gt;omega))
theorem DJ {h n j:Nat}{r:Nat×Nat}(hD:jU s h n j=r)(hc:¬((j:Int)<s.length∧aY (s.getD j 0)=true)):r=(n,j):=by
 rw[←hD]
 cases h with
 |zero=>rfl
 |succ h=>rw[jU,if_neg];exact fun⟨h1,h2⟩=>hc ⟨by omega,h2⟩
theorem RI {h n j:Nat}(hc:(j:Int)<s.length∧aY (s.getD j 0)=true):jU s (h+1) n j=jU s h (min (10 * n+((gt s j).toNat - 48)) 1000) (j+1):=by
 rw[jU,if_pos ⟨by have:=hc.1;omega,hc.2⟩]
theorem Lr {b:UInt8}{n:Nat}(h:(48:Int)≤b.toNat∧(b.toNat:Int)≤57):min (10 * (n:Int)+((b.toNat:Int) - 48)) 1000=((min (10 * n+(b.toNat - 48)) 1000:Nat):Int):=by omega
theorem D3 {n j:Nat}(h:i<s.length)(h2:¬((s.getD i 0).toNat:Int)=34)(h3:¬¬((s.getD i 0).toNat:Int)=92)(h5:(i:Int)+1<s.length∧aY (s.getD (i+1) 0)=true)
  (hD:jU s s.length 0 (i+1)=(n,j)) (hn:n≤255):gB s (g+1) out i=gB s g (out++[UInt8.ofNat n]) j:=by
 rw[gB,if_pos h,if_neg (nI 34 rfl h2),if_neg (fun e=>h3 fun e2=>e (mc 92 rfl e2)),if_pos ⟨by have:=h5.1;omega,h5.2⟩];simp only[hD];rw[if_neg (by omega)]
theorem Ei {n j:Nat}(h:i<s.length)(h2:¬((s.getD i 0).toNat:Int)=34)(h3:¬¬((s.getD i 0).toNat:Int)=92)(h5:(i:Int)+1<s.length∧aY (s.getD (i+1) 0)=true)
  (hD:jU s s.length 0 (i+1)=(n,j)) (hn:255< (n:Int)):gB s (g+1) out i=none:=by
 rw[gB,if_pos h,if_neg (nI 34 rfl h2),if_neg (fun e=>h3 fun e2=>e (mc 92 rfl e2)),if_pos ⟨by have:=h5.1;omega,h5.2⟩];simp only[hD];rw[if_pos (by omega)]
theorem yf (h:i<s.length)(h2:¬((s.getD i 0).toNat:Int)=34)(h3:¬¬((s.getD i 0).toNat:Int)=92)(h5:¬((i:Int)+1<s.length∧aY (s.getD (i+1) 0)=true))
  (h8:((s.length:Int)≤i+1∨¬sP.contains (s.getD (i+1) 0)=true)):gB s (g+1) out i=none:=by
 rw[gB,if_pos h,if_neg (nI 34 rfl h2),if_neg (fun e=>h3 fun e2=>e (mc 92 rfl e2)),if_neg (fun⟨a,b⟩=>h5 ⟨by omega,b⟩),if_pos];rcases h8 with h|h
 ·exact .inl (by omega)
 ·exact .inr (by simpa [gt] using h)
theorem oR {c:UInt8}(h:i<s.length)(h2:¬((s.getD i 0).toNat:Int)=34)(h3:¬¬((s.getD i 0).toNat:Int)=92)(h5:¬((i:Int)+1<s.length∧aY (s.getD (i+1) 0)=true))
  (h8:¬((s.length:Int)≤i+1∨¬sP.contains (s.getD (i+1) 0)=true)) (hc:Fw (gt s (i+1))=c):gB s (g+1) out i=gB s g (out++[c]) (i+2):=by
 rw[gB,if_pos h,if_neg (nI 34 rfl h2),if_neg (fun e=>h3 fun e2=>e (mc 92 rfl e2)),if_neg (fun⟨a,b⟩=>h5 ⟨by omega,b⟩),if_neg,hc];rintro (h|h)
 ·exact h8 (.inl (by omega))
 ·exact h8 (.inr (by simpa [gt] using h))
theorem Ot (h:((s.getD (i+1) 0).toNat:Int)=110):Fw (gt s (i+1))=10:=by
 have:=mc 110 rfl h;rw[this];rfl
theorem Ox (h:¬((s.getD (i+1) 0).toNat:Int)=110)(h2:((s.getD (i+1) 0).toNat:Int)=116):Fw (gt s (i+1))=9:=by
 have:=mc 116 rfl h2;rw[this];rfl
theorem NM (h:¬((s.getD (i+1) 0).toNat:Int)=110)(h2:¬((s.getD (i+1) 0).toNat:Int)=116):Fw (gt s (i+1))=gt s (i+1):=by
 have a:=nI 110 rfl h;have b:=nI 116 rfl h2;unfold Fw;rw[if_neg a,if_neg b]
end
theorem Uo (w0:World)(br:Nat)(s:List UInt8)(at_:Nat)(hA:bx w0 [.ob br 70 (rh s at_)])(hs:s.length≤16384)(ha:at_<s.length):bI Tryz.prog 40 #[ptr (aj br)] w0 (fun v w'=>v=(match jx s at_ with|none=>.tuple #[str [],i64 (-1)]|some (t,n)=>.tuple #[str t,i64 (n:Int)])∧St w0 [br] w' [.ob br 70 (rh s at_)]):=by
 have hO:=St.init hA;refine cw Tryz.func40 Tryz.ntmps40 fun a hF=>?_;refine Zv 3 fun a hF=>?_;have hO:=hO.bV 5 1;refine Zv 6 fun a hF=>?_;have hO:=hO.q [1];refine ax (fun (x:Nat×List UInt8×Nat×Value) a w'=>match x with| (f,out,i,v)=>(gB s f out i=gB s (s.length+1) [] (at_+1)∧s.length<i+f∧at_<i∧i≤s.length∧out.length≤i)∧St w0 [br] w' [.ob br 70 (rh s at_),aT v 5 kQ out]∧Fr a 148 [(0,ptr (aj br)),(4,v),(5,i64 i)]) (fun (x:Nat×List UInt8×Nat×Value)=>match x with| (f,out,i,v)=>f) (s.length+1,[],at_+1,_) ⟨⟨rfl,by omega,by omega,by omega,by simp⟩,hO,hF.sub ⟨rfl,rfl,rfl,trivial⟩⟩ ?_;rintro⟨f,out,i,v⟩ a w ⟨⟨hr,hf,hai,hil,hol⟩,hO,hF⟩;refine Zi 7 (fun a hF hc1=>?_) fun a hF hc1=>?_
 ·refine Zv 5 fun a hF=>?_;refine ao hF rfl rfl rfl (cA (m:=i) Tryz.underlying9 rfl (hF.eval rfl) (hF.eval rfl) (by omega)) fun a hF=>?_;refine Zi 4 (fun a hF hc2=>?_) fun a hF hc2=>?_
  ·refine Zd 0 [0,1,0,0,0,0,0,1,0,0,0] fun w hO=>?_;refine Zv 1 fun a hF=>?_;refine jC hF rfl rfl rfl (fun w hO=>Bi (hO.gD 1 rfl) Tryz.underlying113 Tryz.underlying9 Tryz.underlying5 rfl (hF.eval rfl)) fun a hF=>?_;refine Zv 9 fun a hF=>?_;refine ke ?_;refine ke ?_;refine jz ?_;refine ke ?_;refine jz ?_;refine Gi hF rfl rfl rfl ?_;obtain⟨g,rfl⟩:∃g,f=g+1:=⟨f - 1,by omega⟩;refine⟨?_,hO.w6 1⟩;rw[jx,←hr,wJ (by omega) hc2];exact congrArg (fun x=>Value.tuple #[str out,i64 x]) (show (i:Int)+1 - at_=((i+1 - at_:Nat):Int) by omega)
  ·refine Zi 3 (fun a hF hc3=>?_) fun a hF hc3=>?_
   ·refine Zw 6 fun a hF=>?_;refine Zi 0 (fun hc4=>?_) fun hc4=>?_
    ·refine Zv 2 fun a hF=>?_;refine jz ?_;refine ke ?_;refine ke ?_;refine jz ?_;refine ke ?_;refine jz ?_;refine Gi hF rfl rfl rfl ?_;obtain⟨g,rfl⟩:∃g,f=g+1:=⟨f - 1,by omega⟩;refine⟨?_,hO.w6 1⟩;rw[jx,←hr,Dr (by omega) hc2 hc3 hc4]
     rfl
    ·refine Zb 3 fun b1 a w hO hF=>?_;refine fN hF rfl rfl rfl (cO (bytes:=1) (r:=[gt s i]) hO (i:=2) rfl (hO.rd 0 rfl) Tryz.underlying113 iX rfl rfl rfl rfl rfl rfl (hF.eval rfl) (hF.eval rfl) (by show (List.length _+1) * 1≤_;omega) (by show List.length _+1≤_;omega)) ?_;rintro a v87 w hO hF;have hO:=hO.nm;refine Zv 4 fun a hF=>?_;have hO:=hO.d [0];obtain⟨g,rfl⟩:∃g,f=g+1:=⟨f - 1,by omega⟩;exact⟨(g,out++[gt s i],i+1,_),⟨⟨(wH (by omega) hc2 hc3 hc4).symm.trans hr,by omega,by omega,by omega,by simp;omega⟩,hO,hF.sub ⟨rfl,rfl,rfl,trivial⟩⟩,by dsimp only;omega⟩
   ·refine Zw 15 fun a hF=>?_;refine cL hF rfl rfl rfl rfl rfl rfl (fun hg=>cA (m:=i+1) Tryz.underlying9 rfl ((hF.eval rfl).trans (an hg)) ((hF.eval rfl).trans (an hg)) (by have:=iJ hg;omega)) fun a hF=>?_;refine eg hO hF rfl rfl rfl rfl rfl rfl (fun hg=>du hF rfl rfl (kD trivial) Tryz.call36 (qF _ _)) fun a w hO hF=>?_;refine ao hF rfl rfl rfl (dk rfl (hF.eval rfl) rfl (fun hg2=>((hF.eval rfl).trans (an hg2))) (bh _)) fun a hF=>?_;refine Zi 1 (fun a hF hc5=>?_) fun a hF hc5=>?_
    ·refine Zv 4 fun a hF=>?_;refine ax (fun (y:Nat×Nat×Nat) a w'=>match y with| (h,n,j)=>(jU s h n j=jU s s.length 0 (i+1)∧s.length≤j+h∧i<j∧j≤s.length∧n≤1000)∧St w0 [br] w' [.ob br 70 (rh s at_),aT v 5 kQ out]∧Fr a 148 [(0,ptr (aj br)),(4,v),(5,i64 j),(7,i64 n)]) (fun (y:Nat×Nat×Nat)=>match y with| (h,n,j)=>h) (s.length,0,i+1) ⟨⟨rfl,by omega,by omega,by have:=hc5.1;omega,by omega⟩,hO,hF.sub ⟨rfl,rfl,rfl,rfl,trivial⟩⟩ ?_;rintro⟨h,n,j⟩ a w ⟨⟨hD,hh,hij,hjl,hn⟩,hO,hF⟩;refine Zw 13 fun a hF=>?_;refine cL hF rfl rfl rfl rfl rfl rfl (fun hg=>cA (m:=j) Tryz.underlying9 rfl ((hF.eval rfl).trans (an hg)) ((hF.eval rfl).trans (an hg)) (by have:=iJ hg;omega)) fun a hF=>?_;refine eg hO hF rfl rfl rfl rfl rfl rfl (fun hg=>du hF rfl rfl (kD trivial) Tryz.call36 (qF _ _)) fun a w hO hF=>?_;refine ao hF rfl rfl rfl (dk rfl (hF.eval rfl) rfl (fun hg2=>((hF.eval rfl).trans (an hg2))) (bh _)) fun a hF=>?_;refine Zi 0 (fun hc6=>?_) fun hc6=>?_
     ·have hdg:=lh hc6.2;have hjj:=hc6.1;refine Zv 1 fun a hF=>?_;refine ao hF rfl rfl rfl (N5 rfl (hF.eval rfl) (hF.eval rfl) (by omega)) fun a hF=>?_;refine Zv 5 fun a hF=>?_;refine ao hF rfl rfl rfl (cA (m:=j) Tryz.underlying9 rfl (hF.eval rfl) (hF.eval rfl) (by omega)) fun a hF=>?_;refine ao hF rfl rfl rfl (DA rfl (hF.eval rfl) (hF.eval rfl) (by omega)) fun a hF=>?_;refine ao hF rfl rfl rfl (xM Tryz.underlying5 Tryz.underlying3 rfl (hF.eval rfl) (IntWalk.i64_in _ (by omega))) fun a hF=>?_;refine Zv 1 fun a hF=>?_;refine ao hF rfl rfl rfl (N6 rfl (hF.eval rfl) (hF.eval rfl)) fun a hF=>?_;obtain⟨g,rfl⟩:∃g,h=g+1:=⟨h - 1,by have:=hc6.1;omega⟩;refine Zv 4 fun a hF=>?_;exact⟨(g,min (10 * n+((gt s j).toNat - 48)) 1000,j+1),⟨⟨(RI hc6).symm.trans hD,by omega,by omega,by have:=hc6.1;omega,by omega⟩,hO,hF.sub ⟨rfl,rfl,rfl,(congrArg some (congrArg i64 (Lr hdg))),trivial⟩⟩,by dsimp only;omega⟩
     ·refine Zi 2 (fun a hF hc7=>?_) fun a hF hc7=>?_
      ·refine Zv 2 fun a hF=>?_;refine jz ?_;refine ke ?_;refine ke ?_;refine jz ?_;refine ke ?_;refine jz ?_;refine Gi hF rfl rfl rfl ?_;obtain⟨g,rfl⟩:∃g,f=g+1:=⟨f - 1,by omega⟩;refine⟨?_,hO.w6 1⟩;rw[jx,←hr,Ei (by omega) hc2 hc3 hc5 (DJ hD hc6) hc7]
       rfl
      ·refine Zv 2 fun a hF=>?_;refine ao hF rfl rfl rfl (xM Tryz.underlying3 Tryz.underlying5 rfl (hF.eval rfl) (ub (by omega))) fun a hF=>?_;refine Zb 1 fun b2 a w hO hF=>?_;refine fN hF rfl rfl rfl (cO (bytes:=1) (r:=[UInt8.ofNat n]) hO (i:=2) rfl (hO.rd 0 rfl) Tryz.underlying113 iX rfl rfl rfl rfl rfl rfl (hF.eval rfl) (hF.eval rfl) (by show (List.length _+1) * 1≤_;omega) (by show List.length _+1≤_;omega)) ?_;rintro a ahB w hO hF;have hO:=hO.nm;refine Zv 1 fun a hF=>?_;have hO:=hO.d [0];obtain⟨g,rfl⟩:∃g,f=g+1:=⟨f - 1,by omega⟩;exact⟨(g,out++[UInt8.ofNat n],j,_),⟨⟨(D3 (by omega) hc2 hc3 hc5 (DJ hD hc6) (by omega)).symm.trans hr,by omega,by omega,by omega,by simp;omega⟩,hO,hF.sub ⟨rfl,rfl,rfl,trivial⟩⟩,by dsimp only;omega⟩
    ·refine Zw 15 fun a hF=>?_;refine cL hF rfl rfl rfl rfl rfl rfl (fun hg=>cA (m:=i+1) Tryz.underlying9 rfl ((hF.eval rfl).trans (an hg)) ((hF.eval rfl).trans (an hg)) (by have:=sJ hg;omega)) fun a hF=>?_;refine eg hO hF rfl rfl rfl rfl rfl rfl (fun hg=>du hF rfl rfl (kD trivial) Tryz.call39 (IU _ _ _ (by decide))) fun a w hO hF=>?_;refine cL hF rfl rfl rfl rfl rfl rfl (fun hg=>cY rfl ((hF.eval rfl).trans (an hg)) (bh _)) fun a hF=>?_;refine Zi 1 (fun a hF hc8=>?_) fun a hF hc8=>?_
     ·refine Zv 2 fun a hF=>?_;refine jz ?_;refine ke ?_;refine ke ?_;refine jz ?_;refine ke ?_;refine jz ?_;refine Gi hF rfl rfl rfl ?_;obtain⟨g,rfl⟩:∃g,f=g+1:=⟨f - 1,by omega⟩;refine⟨?_,hO.w6 1⟩;rw[jx,←hr,yf (by omega) hc2 hc3 hc5 hc8]
      rfl
     ·refine Zv 6 fun a hF=>?_;refine ao hF rfl rfl rfl (cA (m:=i+1) Tryz.underlying9 rfl (hF.eval rfl) (hF.eval rfl) (by have:=not_or.1 hc8;omega)) fun a hF=>?_;refine Zi 3 (fun a hF hc9=>?_) fun a hF hc9=>?_
      ·refine Zi 3 (fun a hF ft=>?_) fun a hF ft=>?_
       ·exact absurd ft (by decide)
       ·refine Zb 3 fun b3 a w hO hF=>?_;refine fN hF rfl rfl rfl (cO (bytes:=1) (r:=[10]) hO (i:=2) rfl (hO.rd 0 rfl) Tryz.underlying113 iX rfl rfl rfl rfl rfl rfl (hF.eval rfl) (hF.eval rfl) (by show (List.length _+1) * 1≤_;omega) (by show List.length _+1≤_;omega)) ?_;rintro a v60 w hO hF;have hO:=hO.nm;refine Zv 4 fun a hF=>?_;have hO:=hO.d [0];obtain⟨g,rfl⟩:∃g,f=g+1:=⟨f - 1,by omega⟩;exact⟨(g,out++[10],i+2,_),⟨⟨(oR (c:=10) (by omega) hc2 hc3 hc5 hc8 (Ot hc9)).symm.trans hr,by omega,by omega,by omega,by simp;omega⟩,hO,hF.sub ⟨rfl,rfl,rfl,trivial⟩⟩,by dsimp only;omega⟩
      ·refine Zi 2 (fun a hF iR=>?_) fun a hF iR=>?_
       ·refine Zb 4 fun b4 a w hO hF=>?_;refine fN hF rfl rfl rfl (cO (bytes:=1) (r:=[9]) hO (i:=2) rfl (hO.rd 0 rfl) Tryz.underlying113 iX rfl rfl rfl rfl rfl rfl (hF.eval rfl) (hF.eval rfl) (by show (List.length _+1) * 1≤_;omega) (by show List.length _+1≤_;omega)) ?_;rintro a v60 w hO hF;have hO:=hO.nm;refine Zv 4 fun a hF=>?_;have hO:=hO.d [0];obtain⟨g,rfl⟩:∃g,f=g+1:=⟨f - 1,by omega⟩;exact⟨(g,out++[9],i+2,_),⟨⟨(oR (c:=9) (by omega) hc2 hc3 hc5 hc8 (Ox hc9 iR)).symm.trans hr,by omega,by omega,by omega,by simp;omega⟩,hO,hF.sub ⟨rfl,rfl,rfl,trivial⟩⟩,by dsimp only;omega⟩
       ·refine Zb 3 fun b5 a w hO hF=>?_;refine fN hF rfl rfl rfl (cO (bytes:=1) (r:=[gt s (i+1)]) hO (i:=2) rfl (hO.rd 0 rfl) Tryz.underlying113 iX rfl rfl rfl rfl rfl rfl (hF.eval rfl) (hF.eval rfl) (by show (List.length _+1) * 1≤_;omega) (by show List.length _+1≤_;omega)) ?_;rintro a v60 w hO hF;have hO:=hO.nm;refine Zv 4 fun a hF=>?_;have hO:=hO.d [0];obtain⟨g,rfl⟩:∃g,f=g+1:=⟨f - 1,by omega⟩;exact⟨(g,out++[gt s (i+1)],i+2,_),⟨⟨(oR (by omega) hc2 hc3 hc5 hc8 (NM hc9 iR)).symm.trans hr,by omega,by omega,by omega,by simp;omega⟩,hO,hF.sub ⟨rfl,rfl,rfl,trivial⟩⟩,by dsimp only;omega⟩
 ·refine Zv 2 fun a hF=>?_;refine Gi hF rfl rfl rfl ?_;refine⟨?_,hO.w6 1⟩;rw[jx,←hr,zl (by omega)]
  rfl
def Mc (s:List UInt8)(at_:Nat)(n:Int):Prop:=(fA s at_=none∧n= -1)∨∃k:Nat,fA s at_=some k∧n=k
def DL (s:List UInt8)(at_:Nat)(t:List UInt8)(n:Int):Prop:=(jx s at_=none∧n= -1)∨∃k:Nat,jx s at_=some (t,k)∧n=k
theorem ET (w0:World)(br:Nat)(s:List UInt8)(at_:Nat)(hA:bx w0 [.ob br 70 (rh s at_)])(hs:s.length≤16384)(ha:at_<s.length):
  bI Tryz.prog 30 #[ptr (aj br)] w0 (fun v w'=>∃n:Int,v=i64 n∧Mc s at_ n∧St w0 [br] w' [.ob br 70 (rh s at_)]):=
 (I8 w0 br s at_ hA hs ha).mono fun v w' ⟨hv,hS⟩=>by
  cases h:fA s at_ with
  |none=>rw[h] at hv;exact⟨_,hv,.inl ⟨h,rfl⟩,hS⟩
  |some k=>rw[h] at hv;exact⟨_,hv,.inr ⟨k,h,rfl⟩,hS⟩
theorem MV (w0:World)(br:Nat)(s:List UInt8)(at_:Nat)(hA:bx w0 [.ob br 70 (rh s at_)])(hs:s.length≤16384)(ha:at_<s.length):
  bI Tryz.prog 40 #[ptr (aj br)] w0 (fun v w'=>∃t,∃n:Int,v=.tuple #[str t,i64 n]∧DL s at_ t n∧St w0 [br] w' [.ob br 70 (rh s at_)]):=
 (Uo w0 br s at_ hA hs ha).mono fun v w' ⟨hv,hS⟩=>by
  cases h:jx s at_ with
  |none=>rw[h] at hv;exact⟨_,_,hv,.inl ⟨h,rfl⟩,hS⟩
  |some p=>rw[h] at hv;exact⟨_,_,hv,.inr ⟨p.2,h,rfl⟩,hS⟩
theorem pR {s:List UInt8}{i:Nat}{n:Int}(c:UInt8)(hc:(c.toNat:Int)=n):((s.getD i 0).toNat:Int)=n↔gt s i=c:=
 ⟨fun h=>mc c hc h,fun h=>by have e:s.getD i 0=c:=h;rw[e];exact hc⟩
theorem xv {s:List UInt8}{i:Nat}(a b:UInt8):((a.toNat:Int)≤(s.getD i 0).toNat∧((s.getD i 0).toNat:Int)≤b.toNat)↔(a≤gt s i∧gt s i≤b):=by
 unfold gt;rw[UInt8.le_iff_toNat_le,UInt8.le_iff_toNat_le];omega
section
variable {s:List UInt8} {at_:Nat}
abbrev H3 (s:List UInt8)(at_:Nat):Prop:=((s.getD at_ 0).toNat:Int)=32∨((s.getD at_ 0).toNat:Int)=10
abbrev H4 (s:List UInt8)(at_:Nat):Prop:=(((s.getD at_ 0).toNat:Int)=123∧(at_:Int)+1<s.length)∧((s.getD (at_+1) 0).toNat:Int)=45
abbrev H6 (s:List UInt8)(at_:Nat):Prop:=jw (s.getD at_ 0)=true∨((s.getD at_ 0).toNat:Int)=95
theorem i3:H3 s at_↔(gt s at_=32∨gt s at_=10):=by unfold H3;rw[pR (n:=32) 32 rfl,pR (n:=10) 10 rfl]
theorem i4:H4 s at_↔(gt s at_=123∧at_+1<s.length∧gt s (at_+1)=45):=by
 unfold H4;rw[pR (n:=123) 123 rfl,pR (n:=45) 45 rfl,and_assoc];have:(at_:Int)+1<s.length↔at_+1<s.length:=by omega
 rw[this]
theorem i6:H6 s at_↔(jw (gt s at_)=true∨gt s at_=95):=by unfold H6;rw[pR (n:=95) 95 rfl];exact Iff.rfl
theorem wz (h3:H3 s at_):eP s at_=.skip 1:=by
 unfold eP;dsimp only;rw[if_pos (i3.1 h3)]
theorem tQ (h3:¬H3 s at_)(h4:H4 s at_):eP s at_=match fA s at_ with|none=>.bad 14|some k=>.skip k:=by
 unfold eP;dsimp only;rw[if_neg (fun h=>h3 (i3.2 h)),if_pos (i4.1 h4)]
 rfl
theorem n_ (h3:¬H3 s at_)(h4:¬H4 s at_)(h6:H6 s at_){k:Int}
  (hk:(if pH.contains (cQ s at_ (bq s at_ 0)) then 7 else if cQ s at_ (bq s at_ 0)=[95] then 8 else if 65≤gt s at_∧gt s at_≤90 then 2 else 1)=k):eP s at_=.tok k (cQ s at_ (bq s at_ 0)) 0 (bq s at_ 0):=by
 unfold eP;dsimp only;rw[if_neg (fun h=>h3 (i3.2 h)),if_neg (fun h=>h4 (i4.2 h)),if_pos (i6.1 h6),hk]
theorem tD (h3:¬H3 s at_)(h4:¬H4 s at_)(h6:¬H6 s at_)(h10:aY (s.getD at_ 0)=true):
  eP s at_=match kh (cQ s at_ (bq s at_ 1)) 0 with|none=>.bad 12|some v=>.tok 5 (cQ s at_ (bq s at_ 1)) v (bq s at_ 1):=by
 unfold eP;dsimp only;rw[if_neg (fun h=>h3 (i3.2 h)),if_neg (fun h=>h4 (i4.2 h)),if_neg (fun h=>h6 (i6.2 h)),if_pos (show aY (gt s at_)=true from h10)]
 rfl
theorem q6 (h3:¬H3 s at_)(h4:¬H4 s at_)(h6:¬H6 s at_)(h10:¬aY (s.getD at_ 0)=true)(h13:im (s.getD at_ 0)=true)(hm:¬((cQ s at_ (bq s at_ 2)).all (fun c=>c=45)=true∧2≤bq s at_ 2)){k:Int}
  (hk:(if pQ.contains (cQ s at_ (bq s at_ 2)) then 8 else if gt s at_=58 then 4 else 3)=k):eP s at_=.tok k (cQ s at_ (bq s at_ 2)) 0 (bq s at_ 2):=by
 unfold eP;dsimp only;rw[if_neg (fun h=>h3 (i3.2 h)),if_neg (fun h=>h4 (i4.2 h)),if_neg (fun h=>h6 (i6.2 h)),if_neg (show ¬aY (gt s at_)=true from h10),if_pos (show im (gt s at_)=true from h13),if_neg hm,hk]
theorem zW (h3:¬H3 s at_)(h4:¬H4 s at_)(h6:¬H6 s at_)(h10:¬aY (s.getD at_ 0)=true)(h13:im (s.getD at_ 0)=true)(hm:(cQ s at_ (bq s at_ 2)).all (fun c=>c=45)=true∧2≤bq s at_ 2):
  eP s at_=.skip (bq s at_ 3):=by
 unfold eP;dsimp only;rw[if_neg (fun h=>h3 (i3.2 h)),if_neg (fun h=>h4 (i4.2 h)),if_neg (fun h=>h6 (i6.2 h)),if_neg (show ¬aY (gt s at_)=true from h10),if_pos (show im (gt s at_)=true from h13),if_pos hm]
theorem vq (h3:¬H3 s at_)(h4:¬H4 s at_)(h6:¬H6 s at_)(h10:¬aY (s.getD at_ 0)=true)(h13:¬im (s.getD at_ 0)=true)(h18:fK.contains (s.getD at_ 0)=true):eP s at_=.tok 8 (cQ s at_ 1) 0 1:=by
 unfold eP;dsimp only;rw[if_neg (fun h=>h3 (i3.2 h)),if_neg (fun h=>h4 (i4.2 h)),if_neg (fun h=>h6 (i6.2 h)),if_neg (show ¬aY (gt s at_)=true from h10),if_neg (show ¬im (gt s at_)=true from h13),if_pos (show fK.contains (gt s at_)=true from h18)]
theorem qA (h3:¬H3 s at_)(h4:¬H4 s at_)(h6:¬H6 s at_)(h10:¬aY (s.getD at_ 0)=true)(h13:¬im (s.getD at_ 0)=true)(h18:¬fK.contains (s.getD at_ 0)=true)(h19:((s.getD at_ 0).toNat:Int)=34):
  eP s at_=match jx s at_ with|none=>.bad 13|some (t,n)=>.tok 6 t 0 n:=by
 unfold eP;dsimp only;rw[if_neg (fun h=>h3 (i3.2 h)),if_neg (fun h=>h4 (i4.2 h)),if_neg (fun h=>h6 (i6.2 h)),if_neg (show ¬aY (gt s at_)=true from h10),if_neg (show ¬im (gt s at_)=true from h13),if_neg (show ¬fK.contains (gt s at_)=true from h18),if_pos (mc 34 rfl h19)]
 rfl
theorem y_ (h3:¬H3 s at_)(h4:¬H4 s at_)(h6:¬H6 s at_)(h10:¬aY (s.getD at_ 0)=true)(h13:¬im (s.getD at_ 0)=true)(h18:¬fK.contains (s.getD at_ 0)=true)(h19:¬((s.getD at_ 0).toNat:Int)=34):eP s at_=.bad 11:=by
 unfold eP;dsimp only;rw[if_neg (fun h=>h3 (i3.2 h)),if_neg (fun h=>h4 (i4.2 h)),if_neg (fun h=>h6 (i6.2 h)),if_neg (show ¬aY (gt s at_)=true from h10),if_neg (show ¬im (gt s at_)=true from h13),if_neg (show ¬fK.contains (gt s at_)=true from h18),if_neg (nI 34 rfl h19)]
theorem qO {g n:Nat}{out:List Tok}(h:at_<s.length)(hl:eP s at_=.skip n):ck s (g+1) at_ out=ck s g (at_+n) out:=by rw[ck,if_pos h,hl]
theorem CB {g n:Nat}{out:List Tok}{k v:Int}{t:List UInt8}(h:at_<s.length)(hl:eP s at_=.tok k t v n):ck s (g+1) at_ out=ck s g (at_+n) (out++[⟨k,t,v,(cF s at_).1,(cF s at_).2⟩]):=by rw[ck,if_pos h,hl]
theorem LI {g n:Nat}{out:List Tok}{t:Tok}(h:at_<s.length)(hl:eP s at_=.tok t.kind t.text t.num n)(h1:t.line=(cF s at_).1)(h2:t.cR=(cF s at_).2):ck s (g+1) at_ out=ck s g (at_+n) (out++[t]):=by
 rw[CB h hl,←h1,←h2]
theorem uW {g:Nat}{out:List Tok}{e:Int}(h:at_<s.length)(hr:ck s (g+1) at_ out=ck s (s.length+1) 0 [])(hs:s.length≤16384)(hl:eP s at_=.bad e):eS s=([],⟨[],(cF s at_).1,(cF s at_).2,e⟩):=by
 rw[eS,if_neg (by omega),←hr,ck,if_pos h,hl]
theorem Iu {f:Nat}{out:List Tok}(h:¬(at_:Int)<s.length)(hf:s.length<at_+f)(hal:at_≤s.length)(hr:ck s f at_ out=ck s (s.length+1) 0 [])(hs:s.length≤16384):
  eS s=(out++[⟨9,[],0,(cF s at_).1,(cF s at_).2⟩],.ok):=by
 obtain⟨g,rfl⟩:∃g,f=g+1:=⟨f - 1,by omega⟩;rw[eS,if_neg (by omega),←hr,ck,if_neg (by omega)]
theorem tL:∀(f:Nat) (d:Int) (i k:Nat),jP s at_ f d i=some k→at_≤i→at_+k≤s.length∧i+2≤at_+k
 |0,_,_,_,h,_=>by cases h
 |f+1,d,i,k,h,hi=>by
  unfold jP at h
  by_cases h1:i+1<s.length
  ·rw[if_pos h1] at h
   by_cases h2:gt s i=123∧gt s (i+1)=45
   ·rw[if_pos h2] at h;have:=tL f _ _ _ h (by omega);omega
   ·rw[if_neg h2] at h
    by_cases h3:gt s i=45∧gt s (i+1)=125
    ·rw[if_pos h3] at h
     by_cases h4:d - 1=0
     ·rw[if_pos h4] at h;cases h;omega
     ·rw[if_neg h4] at h;have:=tL f _ _ _ h (by omega);omega
    ·rw[if_neg h3] at h;have:=tL f _ _ _ h (by omega);omega
  ·rw[if_neg h1] at h;cases h
theorem yT {k:Nat}(h:fA s at_=some k):at_+k≤s.length∧2≤k:=by
 have:=tL _ _ _ _ h (Nat.le_refl _);omega
theorem yv:∀(f n i:Nat),i≤s.length→i≤(jU s f n i).2∧(jU s f n i).2≤s.length
 |0,n,i,h=>⟨Nat.le_refl _,h⟩
 |f+1,n,i,h=>by
  unfold jU
  by_cases h1:i<s.length∧aY (gt s i)=true
  ·rw[if_pos h1];have:=yv f (min (10 * n+((gt s i).toNat - 48)) 1000) (i+1) (by omega);omega
  ·rw[if_neg h1];exact⟨Nat.le_refl _,h⟩
theorem tS:∀(f:Nat) (out:List UInt8) (i:Nat) (t:List UInt8) (k:Nat),gB s f out i=some (t,k)→i<k∧k≤s.length
 |0,_,_,_,_,h=>by cases h
 |f+1,out,i,t,k,h=>by
  unfold gB at h
  by_cases h1:i<s.length
  ·rw[if_pos h1] at h
   by_cases h2:gt s i=34
   ·rw[if_pos h2] at h;cases h;omega
   ·rw[if_neg h2] at h
    by_cases h3:¬gt s i=92
    ·rw[if_pos h3] at h
     by_cases h4:gt s i<32∨126<gt s i
     ·rw[if_pos h4] at h;cases h
     ·rw[if_neg h4] at h;have:=tS f _ _ _ _ h;omega
    ·rw[if_neg h3] at h
     by_cases h4:i+1<s.length∧aY (gt s (i+1))=true
     ·rw[if_pos h4] at h;dsimp only at h;have hd:=yv (s:=s) s.length 0 (i+1) (by omega)
      by_cases h5:255< (jU s s.length 0 (i+1)).1
      ·rw[if_pos h5] at h;cases h
      ·rw[if_neg h5] at h;have:=tS f _ _ _ _ h;omega
     ·rw[if_neg h4] at h
      by_cases h5:s.length≤i+1∨sP.contains (gt s (i+1))=false
      ·rw[if_pos h5] at h;cases h
      ·rw[if_neg h5] at h;have:=tS f _ _ _ _ h;omega
  ·rw[if_neg h1] at h;cases h
theorem xK {t:List UInt8}{k:Nat}(h:jx s at_=some (t,k)):at_+k≤s.length∧1≤k:=by
 unfold jx at h
 cases h1:gB s (s.length+1) [] (at_+1) with
 |none=>rw[h1] at h;cases h
 |some p=>
  rw[h1] at h;simp only[Option.map_some,Option.some.injEq,Prod.mk.injEq] at h;have:=tS _ _ _ _ _ (show gB s (s.length+1) [] (at_+1)=some (p.1,p.2) from h1);omega
theorem tN {kd:Nat}(h:at_<s.length)(hg:dM kd (s.getD at_ 0)=true):1≤bq s at_ kd:=
 yC (k:=0) (Nat.zero_le _) (by omega) (by simpa using hg)
theorem zQ (h:at_<s.length)(h6:H6 s at_):1≤bq s at_ 0:=tN h (by
  rw[Hd rfl]
  rcases h6 with h|h
  · simp only[h,true_or,decide_true]
  · simp only[h,or_true,true_or,decide_true])
theorem QK (h:at_<s.length)(h10:aY (s.getD at_ 0)=true):1≤bq s at_ 1:=tN h (by rw[AT rfl];exact h10)
theorem Bo (h:at_<s.length)(h13:im (s.getD at_ 0)=true):1≤bq s at_ 2:=tN h (by rw[J9 rfl];exact h13)
theorem SY (h:at_<s.length)(h13:im (s.getD at_ 0)=true):1≤bq s at_ 3:=tN h (by
  rw[Jy (by omega) (by omega) (by omega)]
  refine decide_eq_true fun e=>?_
  rw[pR (n:=10) 10 rfl] at e
  have e2:s.getD at_ 0=10:=e
  rw[e2] at h13
  exact absurd h13 (by decide))
theorem BQ (p:UInt8→Bool):∀(l:List UInt8) (k:Nat),k< (l.takeWhile p).length→p (l.getD k 0)=true
 | [],k,h=>by simp at h
 |c::l,k,h=>by
  by_cases hc:p c=true
  ·cases k with
   |zero=>simpa using hc
   |succ k=>
    simp only[List.takeWhile_cons,hc,if_true,List.length_cons] at h
    simpa using BQ p l k (by omega)
  ·simp [hc] at h
theorem LH {kd k:Nat}(h:k<bq s at_ kd):dM kd (s.getD (at_+k) 0)=true:=by
 rw[←eL];exact BQ _ _ _ h
theorem iN {n:Nat}(h:at_+n≤s.length):(cQ s at_ n).length=n:=by unfold cQ;simp;omega
theorem ue {n k:Nat}(h:at_+n≤s.length)(hk:k<n):k< (cQ s at_ n).length:=by rw[iN h];exact hk
theorem D2 {n k:Nat}(hk:k<n):(cQ s at_ n).getD k 0=s.getD (at_+k) 0:=by
 unfold cQ;simp only[List.getD_eq_getElem?_getD,List.getElem?_drop];rw[List.getElem?_take,if_pos (by omega)]
theorem LO {k:Nat}(h:k<bq s at_ 1):(48:Int)≤((cQ s at_ (bq s at_ 1)).getD k 0).toNat∧(((cQ s at_ (bq s at_ 1)).getD k 0).toNat:Int)≤57:=by
 rw[D2 h];have:=LH h;rw[AT rfl] at this;exact lh this
end
section
variable {l:List UInt8} {k N:Nat}
theorem pT (hk:k<l.length):l.drop k=l.getD k 0::l.drop (k+1):=by
 rw[List.drop_eq_getElem_cons hk];simp [List.getElem?_eq_getElem hk]
theorem xy {c:UInt8}(hd:(48:Int)≤c.toNat∧(c.toNat:Int)≤57):(9223372036854775807 - ((c.toNat:Int) - 48)).tdiv 10=(((9223372036854775807 - (c.toNat - 48)) / 10:Nat):Int):=by
 rw[Int.tdiv_eq_ediv_of_nonneg (by omega)];omega
theorem MC {c:UInt8}(hd:(48:Int)≤c.toNat∧(c.toNat:Int)≤57): -9223372036854775808≤(9223372036854775807 - ((c.toNat:Int) - 48)).tdiv 10∧(9223372036854775807 - ((c.toNat:Int) - 48)).tdiv 10≤9223372036854775807:=by
 rw[xy hd];omega
theorem Li (hk:k<l.length)(hd:(48:Int)≤(l.getD k 0).toNat∧((l.getD k 0).toNat:Int)≤57)(h:(9223372036854775807 - (((l.getD k 0).toNat:Int) - 48)).tdiv 10< (N:Int)):kh (l.drop k) N=none:=by
 rw[xy hd] at h;rw[pT hk,kh,if_pos (by omega)]
theorem UK (hk:k<l.length)(hd:(48:Int)≤(l.getD k 0).toNat∧((l.getD k 0).toNat:Int)≤57)(h:¬(9223372036854775807 - (((l.getD k 0).toNat:Int) - 48)).tdiv 10< (N:Int)):
  kh (l.drop k) N=kh (l.drop (k+1)) (10 * N+((l.getD k 0).toNat - 48)):=by
 rw[xy hd] at h;rw[pT hk,kh,if_neg (by omega)]
theorem SB {c:UInt8}(hd:(48:Int)≤c.toNat∧(c.toNat:Int)≤57)(h:¬(9223372036854775807 - ((c.toNat:Int) - 48)).tdiv 10< (N:Int)):10 * (N:Int)+((c.toNat:Int) - 48)≤9223372036854775807:=by
 rw[xy hd] at h;omega
theorem GV {c:UInt8}(hd:(48:Int)≤c.toNat∧(c.toNat:Int)≤57):10 * (N:Int)+((c.toNat:Int) - 48)=((10 * N+(c.toNat - 48):Nat):Int):=by omega
theorem Lw (hk:l.length≤k):kh (l.drop k) N=some N:=by rw[List.drop_of_length_le hk];rfl
theorem Sa {m:Bool}(hk:k<l.length)(hm:m=(l.take k).all (fun c=>c=45)):decide (m=true∧((l.getD k 0).toNat:Int)=45)=(l.take (k+1)).all (fun c=>c=45):=by
 rw[List.take_add_one,getD_some hk,List.all_append,←hm];have:(((l.getD k 0).toNat:Int)=45)↔l.getD k 0=45:=by
  rw[show (45:Int)=((45:UInt8).toNat:Int) from rfl,Oc]
 rw[Bool.decide_and];simp only[Option.toList_some,List.all_cons,List.all_nil,Bool.and_true,Bool.decide_eq_true];rw[decide_eq_decide.2 this]
theorem tE {m:Bool}(hk:l.length≤k)(hm:m=(l.take k).all (fun c=>c=45)):m=l.all (fun c=>c=45):=by rw[hm,List.take_of_length_le hk]
theorem NP {n:Int}(s:List UInt8)(i:Nat)(h:Mc s i n)(hn:¬n<0):∃k:Nat,fA s i=some k∧n=k:=by
 rcases h with ⟨_,h⟩|h
 ·omega
 ·exact h
theorem Ob {n:Int}{t:List UInt8}(s:List UInt8)(i:Nat)(h:DL s i t n)(hn:¬n<0):∃k:Nat,jx s i=some (t,k)∧n=k:=by
 rcases h with ⟨_,h⟩|h
 ·omega
 ·exact h
theorem NX {n:Int}{s:List UInt8}{i:Nat}(h:Mc s i n)(hn:n<0):fA s i=none:=by
 rcases h with ⟨h,_⟩| ⟨k,_,h⟩
 ·exact h
 ·omega
theorem WQ {n:Int}{t:List UInt8}{s:List UInt8}{i:Nat}(h:DL s i t n)(hn:n<0):jx s i=none:=by
 rcases h with ⟨h,_⟩| ⟨k,_,h⟩
 ·exact h
 ·omega
end
theorem Px (w0:World)(s:List UInt8):bI Tryz.prog 12 #[str s] w0 (fun v w'=>∃va l d,eS s=(l,d)∧v=.tuple #[va,.agg (aJ d).toArray]∧St w0 [] w' [aT va 44 aK l]):=by
 have hO:=St.aX w0;refine cw Tryz.func12 Tryz.ntmps12 fun a hF=>?_;refine Zb 5 fun dg a w hO hF=>?_;refine Zi 0 (fun hc1=>?_) fun hc1=>?_
 ·refine Zs 3 fun a w hO hF=>?_;refine jz ?_;refine rW hF rfl rfl rfl Tryz.isAgg31 Tryz.sizeOf31 (hO.cells 0 rfl) rfl ?_;exact⟨_,[],_,by rw[eS,if_pos (by omega)],rfl,by exact ((hO.bV 44 5).only)⟩
 ·have hs:s.length≤16384:=by omega
  refine Zb 5 fun br a w hO hF=>?_;have hO:=hO.bV 44 5;have hO:=hO.q [1];refine ax (fun (x:Nat×Nat×List Tok×Value) a w'=>match x with| (f,at_,out,v)=>(ck s f at_ out=ck s (s.length+1) 0 []∧at_≤s.length∧s.length<at_+f∧out.length≤at_)∧St w0 [] w' [.ob br 70 (rh s at_),aT v 44 aK out,.ob dg 31 [str [],i64 0,i64 0,i64 0]]∧Fr a 276 [(0,str s),(3,ptr (aj dg)),(4,ptr (aj br)),(5,v)]) (fun (x:Nat×Nat×List Tok×Value)=>match x with| (f,at_,out,v)=>f) (s.length+1,0,[],_) ⟨⟨rfl,by omega,by omega,by simp⟩,hO,hF.sub ⟨rfl,rfl,rfl,rfl,trivial⟩⟩ ?_;rintro⟨f,at_,out,v⟩ a w ⟨⟨hr,hal,hf,hol⟩,hO,hF⟩;have aic:=fB s at_ 0;have af6:=fB s at_ 1;have ahO:=fB s at_ 2;have aa6:=fB s at_ 3;refine Zi 7 (fun a hF hc2=>?_) fun a hF hc2=>?_
  ·refine Zv 5 fun a hF=>?_;refine ao hF rfl rfl rfl (cA (m:=at_) Tryz.underlying9 rfl (hF.eval rfl) (hF.eval rfl) (by omega)) fun a hF=>?_;refine Zd 1 [0,0,0,1,0,0,0,1,0,2,3] fun a w hO hF=>?_;refine Zv 9 fun a hF=>?_;refine eI hF rfl rfl rfl (qU hO Tryz.zeroValue44 rfl rfl) (fun _ _ ⟨_,_,hO⟩=>hO.tail) ?_;rintro a _ w ⟨tk,rfl,hO⟩ hF;refine Zy 2 fun a w hO hF=>?_;refine c8 ?_;refine vK ?_;refine j3 (fun (z:Tok×Nat) a w'=>match z with| (t,n)=>(eP s at_=.tok t.kind t.text t.num n∧t.line=(cF s at_).1∧t.cR=(cF s at_).2∧1≤n∧at_+n≤s.length)∧St w0 [] w' [.ob tk 44 (aK.cells t),.ob br 70 (rh s at_),aT v 44 aK out,.ob dg 31 [str [],i64 0,i64 0,i64 0]]∧Fr a 276 [(0,str s),(3,ptr (aj dg)),(4,ptr (aj br)),(5,v),(7,ptr (aj tk)),(8,i64 n)]) ?_ ?_
   ·refine Zw 7 fun a hF=>?_;refine Zi 0 (fun hc3=>?_) fun hc3=>?_
    ·refine Zv 1 fun a hF=>?_;have hO:=hO.q [1];refine Zc 0 (CS _ _ _ _ (1) hO.ai (by omega) hs) ?_;rintro a _ w ⟨-,hS⟩ hF;have hO:=hO.k1 hS;have hO:=hO.d [1];obtain⟨g,rfl⟩:∃g,f=g+1:=⟨f - 1,by omega⟩;refine Zv 0 ?_;exact⟨(g,at_+1,out,v),⟨⟨(qO (by omega) (wz hc3)).symm.trans hr,by omega,by omega,by omega⟩,hO,hF.sub ⟨rfl,rfl,rfl,rfl,trivial⟩⟩,by dsimp only;omega⟩
    ·refine Zw 19 fun a hF=>?_;refine cL hF rfl rfl rfl rfl rfl rfl (fun hg=>cA (m:=at_+1) Tryz.underlying9 rfl ((hF.eval rfl).trans (an hg)) ((hF.eval rfl).trans (an hg)) (by have:=iJ hg;omega)) fun a hF=>?_;refine Zw 3 fun a hF=>?_;refine Zi 0 (fun hc4=>?_) fun hc4=>?_
     ·refine Zv 1 fun a hF=>?_;have hO:=hO.q [1];refine Zc 0 (ET _ _ _ _ hO.ai hs (by omega)) ?_;rintro a _ w ⟨rn,rfl,hrm,hS⟩ hF;have hO:=hO.k1 hS;refine Zi 3 (fun a hF hc5=>?_) fun a hF hc5=>?_
      ·refine Zc 1 (DV _ _ _ _ hO.ai _) ?_;rintro a _ w ⟨rfl,hS⟩ hF;have hO:=hO.k1 hS;refine Zs 4 fun a w hO hF=>?_;refine jz ?_;refine ke ?_;refine jz ?_;refine ke ?_;refine jz ?_;refine ke ?_;refine jz ?_;refine rW hF rfl rfl rfl Tryz.isAgg31 Tryz.sizeOf31 (hO.cells 3 rfl) rfl ?_;obtain⟨g,rfl⟩:∃g,f=g+1:=⟨f - 1,by omega⟩;exact⟨_,[],_,uW (by omega) hr (by omega) (by rw[tQ hc3 hc4,NX hrm hc5]),rfl,(hO.bV 44 5).only⟩
      ·obtain⟨k,hkm,rfl⟩:=NP s at_ hrm hc5;have hk1:=yT hkm;refine Zc 2 (CS _ _ _ _ (k) hO.ai (by omega) hs) ?_;rintro a _ w ⟨-,hS⟩ hF;have hO:=hO.k1 hS;have hO:=hO.d [1];obtain⟨g,rfl⟩:∃g,f=g+1:=⟨f - 1,by omega⟩;have hk1:=yT hkm;refine Zv 0 ?_;exact⟨(g,at_+k,out,v),⟨⟨(qO (by omega) (by rw[tQ hc3 hc4,hkm])).symm.trans hr,by omega,by omega,by omega⟩,hO,hF.sub ⟨rfl,rfl,rfl,rfl,trivial⟩⟩,by dsimp only;omega⟩
     ·refine Zc 1 (zq _ _) ?_;rintro a _ w ⟨rfl,hS⟩ hF;have hO:=hO.k0 hS;refine Zw 3 fun a hF=>?_;refine ao hF rfl rfl rfl (uC rfl (hF.eval rfl) (bh _) (fun hg2=>((hF.eval rfl).trans (an hg2))) rfl) fun a hF=>?_;refine Zi 1 (fun a hF hc6=>?_) fun a hF hc6=>?_
      ·refine Zv 1 fun a hF=>?_;have hO:=hO.q [1];refine Zc 0 (Ef _ _ _ _ 0 hO.ai hs (by omega)) ?_;rintro a _ w ⟨rfl,hS⟩ hF;have hO:=hO.k1 hS;refine Zd 1 [0,0,0,0,1,0,0,0,1,0,0,0,0,3] fun a w hO hF=>?_;refine Zv 11 fun a hF=>?_;refine dE hF rfl rfl rfl (fun w=>vc (i:=at_) (j:=at_+bq s at_ 0) Tryz.underlying9 rfl (hF.eval rfl) (hF.eval rfl) (hF.eval rfl) (by omega) (by omega)) fun a hF=>?_;refine Zs 4 fun a w hO hF=>?_;refine Zd 0 [0,1,2,3] fun w hO=>?_;refine Zv 2 fun a hF=>?_;refine eI hF rfl rfl rfl (a6 hF rfl rfl Tryz.call35 (LN _)) (fun _ _ ⟨_,_,hS⟩=>(hO.sv hS).tail) ?_;rintro a _ w ⟨vws,rfl,hS⟩ hF;have hO:=hO.k0 hS;refine jO hF rfl rfl rfl (a6 hF rfl rfl Tryz.call34 (Om _ _ _ _ (by decide) (hO.gD 0 rfl))) ?_;rintro a _ w ⟨rfl,hS⟩ hF;have hO:=hO.k0 hS;refine Zj 0 (fun hc7=>?_) fun hc7=>?_
       ·refine Zs 2 fun a w hO hF=>?_;have hO:=(hO.d [0]).q [1];have hr0:=zQ (by omega) hc6;exact⟨(⟨7,cQ s at_ (bq s at_ 0),0,_,_⟩,bq s at_ 0),⟨⟨n_ hc3 hc4 hc6 (if_pos hc7),rfl,rfl,by omega,by omega⟩,hO,hF.sub ⟨rfl,rfl,rfl,rfl,rfl,rfl,trivial⟩⟩⟩
       ·refine Zi 3 (fun a hF hc8=>?_) fun a hF hc8=>?_
        ·refine Zs 2 fun a w hO hF=>?_;have hO:=(hO.d [0]).q [1];have hr0:=zQ (by omega) hc6;exact⟨(⟨8,cQ s at_ (bq s at_ 0),0,_,_⟩,bq s at_ 0),⟨⟨n_ hc3 hc4 hc6 ((if_neg hc7).trans (if_pos hc8)),rfl,rfl,by omega,by omega⟩,hO,hF.sub ⟨rfl,rfl,rfl,rfl,rfl,rfl,trivial⟩⟩⟩
        ·refine Zw 6 fun a hF=>?_;refine Zi 0 (fun hc9=>?_) fun hc9=>?_
         ·refine Zs 2 fun a w hO hF=>?_;have hO:=(hO.d [0]).q [1];have hr0:=zQ (by omega) hc6;exact⟨(⟨2,cQ s at_ (bq s at_ 0),0,_,_⟩,bq s at_ 0),⟨⟨n_ hc3 hc4 hc6 ((if_neg hc7).trans ((if_neg hc8).trans (if_pos ((xv 65 90).1 hc9)))),rfl,rfl,by omega,by omega⟩,hO,hF.sub ⟨rfl,rfl,rfl,rfl,rfl,rfl,trivial⟩⟩⟩
         ·have hO:=(hO.d [0]).q [1];have hr0:=zQ (by omega) hc6;refine Zv 0 ?_;exact⟨(⟨1,cQ s at_ (bq s at_ 0),0,_,_⟩,bq s at_ 0),⟨⟨n_ hc3 hc4 hc6 ((if_neg hc7).trans ((if_neg hc8).trans (if_neg (fun h=>hc9 ((xv 65 90).2 h))))),rfl,rfl,by omega,by omega⟩,hO,hF.sub ⟨rfl,rfl,rfl,rfl,rfl,rfl,trivial⟩⟩⟩
      ·refine Zc 1 (qF _ _) ?_;rintro a _ w ⟨rfl,hS⟩ hF;have hO:=hO.k0 hS;refine Zj 1 (fun a hF ft=>?_) fun a hF ft=>?_
       ·refine Zv 1 fun a hF=>?_;have hO:=hO.q [1];refine Zc 0 (Ef _ _ _ _ 1 hO.ai hs (by omega)) ?_;rintro a _ w ⟨rfl,hS⟩ hF;have hO:=hO.k1 hS;refine Zs 3 fun a w hO hF=>?_;refine Zd 0 [0,0,0,0,1,0,0,0,1,0,0,0,0,3] fun w hO=>?_;refine Zv 11 fun a hF=>?_;refine dE hF rfl rfl rfl (fun w=>vc (i:=at_) (j:=at_+bq s at_ 1) Tryz.underlying9 rfl (hF.eval rfl) (hF.eval rfl) (hF.eval rfl) (by omega) (by omega)) fun a hF=>?_;refine Zs 3 fun a w hO hF=>?_;have hO:=hO.q [1];refine ax (fun (y:Nat×Nat) a w'=>match y with| (k,N)=>(k≤bq s at_ 1∧kh ((cQ s at_ (bq s at_ 1)).drop k) N=kh (cQ s at_ (bq s at_ 1)) 0∧N≤9223372036854775807)∧St w0 [] w' [.ob tk 44 [i64 5,str (cQ s at_ (bq s at_ 1)),i64 N,i64 (cF s at_).1,i64 (cF s at_).2],.ob br 70 (rh s at_),aT v 44 aK out,.ob dg 31 [str [],i64 0,i64 0,i64 0]]∧Fr a 276 [(0,str s),(3,ptr (aj dg)),(4,ptr (aj br)),(5,v),(7,ptr (aj tk)),(8,i64 (bq s at_ 1:Nat)),(10,i64 k)]) (fun (y:Nat×Nat)=>match y with| (k,N)=>bq s at_ 1 - k) (0,0) ⟨⟨by omega,rfl,by omega⟩,hO,hF.sub ⟨rfl,rfl,rfl,rfl,rfl,rfl,rfl,trivial⟩⟩ ?_;rintro⟨k,N⟩ a w ⟨⟨hk,hN,hNm⟩,hO,hF⟩;refine Zi 3 (fun a hF iR=>?_) fun a hF iR=>?_
        ·have hdg:=LO (s:=s) (at_:=at_) (k:=k) (by omega);refine Zv 3 fun a hF=>?_;refine ao hF rfl rfl rfl (cA (m:=k) Tryz.underlying9 rfl (hF.eval rfl) (hF.eval rfl) (ue (by omega) (by omega))) fun a hF=>?_;refine ao hF rfl rfl rfl (DA rfl (hF.eval rfl) (hF.eval rfl) (by omega)) fun a hF=>?_;refine ao hF rfl rfl rfl (xM Tryz.underlying5 Tryz.underlying3 rfl (hF.eval rfl) (IntWalk.i64_in _ (by omega))) fun a hF=>?_;refine Zv 5 fun a hF=>?_;refine ao hF rfl rfl rfl (aat rfl (hF.eval rfl) (hF.eval rfl) (by decide) (MC hdg)) fun a hF=>?_;refine Zi 1 (fun a hF lR=>?_) fun a hF lR=>?_
         ·refine Zv 1 fun a hF=>?_;have hO:=hO.q [1];refine Zc 0 (DV _ _ _ _ hO.ai _) ?_;rintro a _ w ⟨rfl,hS⟩ hF;have hO:=hO.k1 hS;refine Zs 4 fun a w hO hF=>?_;refine jz ?_;refine ke ?_;refine jz ?_;refine jz ?_;refine ke ?_;refine ke ?_;refine jz ?_;refine ke ?_;refine jz ?_;refine ke ?_;refine jz ?_;refine rW hF rfl rfl rfl Tryz.isAgg31 Tryz.sizeOf31 (hO.cells 3 rfl) rfl ?_;obtain⟨g,rfl⟩:∃g,f=g+1:=⟨f - 1,by omega⟩;exact⟨_,[],_,uW (by omega) hr (by omega) (by rw[tD hc3 hc4 hc6 ft,←hN,Li (ue (by omega) (by omega)) hdg lR]),rfl,(hO.bV 44 5).only⟩
         ·have hN2:=SB hdg lR;refine Zv 2 fun a hF=>?_;refine ao hF rfl rfl rfl (N5 rfl (hF.eval rfl) (hF.eval rfl) (by omega)) fun a hF=>?_;refine Zs 7 fun a w hO hF=>?_;have hO:=hO.eq (congrArg (fun x:Int=>[aq.ob tk 44 [i64 5,str (cQ s at_ (bq s at_ 1)),i64 x,i64 (cF s at_).1,i64 (cF s at_).2],.ob br 70 (rh s at_),aT v 44 aK out,.ob dg 31 [str [],i64 0,i64 0,i64 0]]) (GV hdg));exact⟨(k+1,10 * N+(((cQ s at_ (bq s at_ 1)).getD k 0).toNat - 48)),⟨⟨by omega,(UK (ue (by omega) (by omega)) hdg lR).symm.trans hN,by omega⟩,hO,hF.sub ⟨rfl,rfl,rfl,rfl,rfl,rfl,rfl,trivial⟩⟩,by dsimp only;omega⟩
        ·have hr0:=QK (by omega) ft;refine Zv 0 ?_;exact⟨(⟨5,cQ s at_ (bq s at_ 1),N,_,_⟩,bq s at_ 1),⟨⟨(by rw[tD hc3 hc4 hc6 ft,←hN,Lw (by rw[iN (by omega)];omega)]),rfl,rfl,by omega,by omega⟩,hO,hF.sub ⟨rfl,rfl,rfl,rfl,rfl,rfl,trivial⟩⟩⟩
       ·refine Zc 1 (IA _ _) ?_;rintro a _ w ⟨rfl,hS⟩ hF;have hO:=hO.k0 hS;refine Zj 1 (fun a hF ni=>?_) fun a hF ni=>?_
        ·refine Zv 1 fun a hF=>?_;have hO:=hO.q [1];refine Zc 0 (Ef _ _ _ _ 2 hO.ai hs (by omega)) ?_;rintro a _ w ⟨rfl,hS⟩ hF;have hO:=hO.k1 hS;refine Zd 1 [0,0,0,0,1,0,0,0,1,0,0,0,0,3] fun a w hO hF=>?_;refine Zv 11 fun a hF=>?_;refine dE hF rfl rfl rfl (fun w=>vc (i:=at_) (j:=at_+bq s at_ 2) Tryz.underlying9 rfl (hF.eval rfl) (hF.eval rfl) (hF.eval rfl) (by omega) (by omega)) fun a hF=>?_;refine Zs 4 fun a w hO hF=>?_;have hO:=hO.q [1];refine ax (fun (y:Nat×Bool) a w'=>match y with| (k,m)=>(k≤bq s at_ 2∧m=((cQ s at_ (bq s at_ 2)).take k).all (fun c=>c=45))∧St w0 [] w' [.ob tk 44 [i64 0,str (cQ s at_ (bq s at_ 2)),i64 0,i64 (cF s at_).1,i64 (cF s at_).2],.ob br 70 (rh s at_),aT v 44 aK out,.ob dg 31 [str [],i64 0,i64 0,i64 0]]∧Fr a 276 [(0,str s),(3,ptr (aj dg)),(4,ptr (aj br)),(5,v),(6,.int .u8 (gt s at_).toNat),(7,ptr (aj tk)),(8,i64 (bq s at_ 2:Nat)),(12,.bool m),(13,i64 k)]) (fun (y:Nat×Bool)=>match y with| (k,m)=>bq s at_ 2 - k) (0,true) ⟨⟨by omega,by simp⟩,hO,hF.sub ⟨rfl,rfl,rfl,rfl,rfl,rfl,rfl,rfl,rfl,trivial⟩⟩ ?_;rintro⟨k,m⟩ a w ⟨⟨hk,hm⟩,hO,hF⟩;refine Zi 3 (fun a hF Bt=>?_) fun a hF Bt=>?_
         ·refine Zw 5 fun a hF=>?_;refine cL hF rfl rfl rfl rfl rfl rfl (fun hg=>cA (m:=k) Tryz.underlying9 rfl ((hF.eval rfl).trans (an hg)) ((hF.eval rfl).trans (an hg)) (ue (by omega) (by omega))) fun a hF=>?_;refine Zw 1 fun a hF=>?_;refine ao hF rfl rfl rfl (dk rfl (hF.eval rfl) (bh _) (fun hg2=>((hF.eval rfl).trans (an hg2))) rfl) fun a hF=>?_;refine Zv 4 fun a hF=>?_;exact⟨(k+1,decide (m=true∧(((cQ s at_ (bq s at_ 2)).getD k 0).toNat:Int)=45)),⟨⟨by omega,Sa (ue (by omega) (by omega)) hm⟩,hO,hF.sub ⟨rfl,rfl,rfl,rfl,rfl,rfl,rfl,rfl,rfl,trivial⟩⟩,by dsimp only;omega⟩
         ·refine Zw 4 fun a hF=>?_;refine ao hF rfl rfl rfl (dk rfl (hF.eval rfl) (bh _) (fun hg2=>((hF.eval rfl).trans (an hg2))) rfl) fun a hF=>?_;refine Zi 0 (fun xQ=>?_) fun xQ=>?_
          ·refine Zv 2 fun a hF=>?_;have hO:=hO.q [1];refine Zc 0 (Ef _ _ _ _ 3 hO.ai hs (by omega)) ?_;rintro a _ w ⟨rfl,hS⟩ hF;have hO:=hO.k1 hS;refine Zc 0 (CS _ _ _ _ (bq s at_ 3) hO.ai (by omega) hs) ?_;rintro a _ w ⟨-,hS⟩ hF;have hO:=hO.k1 hS;have hO:=hO.d [1];obtain⟨g,rfl⟩:∃g,f=g+1:=⟨f - 1,by omega⟩;have hr3:=SY (by omega) ni;refine Zv 0 ?_;exact⟨(g,at_+bq s at_ 3,out,v),⟨⟨(qO (by omega) (zW hc3 hc4 hc6 ft ni ⟨(tE (by rw[iN (by omega)];omega) hm).symm.trans xQ.1,by have:=xQ.2;omega⟩)).symm.trans hr,by omega,by omega,by omega⟩,hO,hF.sub ⟨rfl,rfl,rfl,rfl,trivial⟩⟩,by dsimp only;omega⟩
          ·refine Zs 2 fun a w hO hF=>?_;refine Zd 0 [0,1,2,3] fun w hO=>?_;refine Zv 2 fun a hF=>?_;refine eI hF rfl rfl rfl (a6 hF rfl rfl Tryz.call38 (Nl _)) (fun _ _ ⟨_,_,hS⟩=>(hO.sv hS).tail) ?_;rintro a _ w ⟨vws,rfl,hS⟩ hF;have hO:=hO.k0 hS;refine jO hF rfl rfl rfl (a6 hF rfl rfl Tryz.call34 (Om _ _ _ _ (by decide) (hO.gD 0 rfl))) ?_;rintro a _ w ⟨rfl,hS⟩ hF;have hO:=hO.k0 hS;refine Zj 0 (fun La=>?_) fun La=>?_
           ·refine Zs 2 fun a w hO hF=>?_;have hO:=hO.d [0];have hr0:=Bo (by omega) ni;have hnm:¬((cQ s at_ (bq s at_ 2)).all (fun c=>c=45)=true∧2≤bq s at_ 2):=fun h=>xQ ⟨(tE (by rw[iN (by omega)];omega) hm).trans h.1,by have:=h.2;omega⟩;exact⟨(⟨8,cQ s at_ (bq s at_ 2),0,_,_⟩,bq s at_ 2),⟨⟨q6 hc3 hc4 hc6 ft ni hnm (if_pos La),rfl,rfl,by omega,by omega⟩,hO,hF.sub ⟨rfl,rfl,rfl,rfl,rfl,rfl,trivial⟩⟩⟩
           ·refine Zi 2 (fun a hF RY=>?_) fun a hF RY=>?_
            ·refine Zs 2 fun a w hO hF=>?_;have hO:=hO.d [0];have hr0:=Bo (by omega) ni;have hnm:¬((cQ s at_ (bq s at_ 2)).all (fun c=>c=45)=true∧2≤bq s at_ 2):=fun h=>xQ ⟨(tE (by rw[iN (by omega)];omega) hm).trans h.1,by have:=h.2;omega⟩;exact⟨(⟨4,cQ s at_ (bq s at_ 2),0,_,_⟩,bq s at_ 2),⟨⟨q6 hc3 hc4 hc6 ft ni hnm ((if_neg La).trans (if_pos (mc 58 rfl RY))),rfl,rfl,by omega,by omega⟩,hO,hF.sub ⟨rfl,rfl,rfl,rfl,rfl,rfl,trivial⟩⟩⟩
            ·have hO:=hO.d [0];have hr0:=Bo (by omega) ni;have hnm:¬((cQ s at_ (bq s at_ 2)).all (fun c=>c=45)=true∧2≤bq s at_ 2):=fun h=>xQ ⟨(tE (by rw[iN (by omega)];omega) hm).trans h.1,by have:=h.2;omega⟩;refine Zv 0 ?_;exact⟨(⟨3,cQ s at_ (bq s at_ 2),0,_,_⟩,bq s at_ 2),⟨⟨q6 hc3 hc4 hc6 ft ni hnm ((if_neg La).trans (if_neg (nI 58 rfl RY))),rfl,rfl,by omega,by omega⟩,hO,hF.sub ⟨rfl,rfl,rfl,rfl,rfl,rfl,trivial⟩⟩⟩
        ·refine Zv 1 fun a hF=>?_;refine fN hF rfl rfl rfl (a6 hF rfl rfl Tryz.call39 (IU _ _ _ (by decide))) ?_;rintro a _ w ⟨rfl,hS⟩ hF;have hO:=hO.k0 hS;refine Zj 1 (fun a hF JK=>?_) fun a hF JK=>?_
         ·refine Zs 2 fun a w hO hF=>?_;refine Zd 0 [0,0,0,0,1,0,0,0,1,0,0,0,3] fun w hO=>?_;refine Zv 10 fun a hF=>?_;refine dE hF rfl rfl rfl (fun w=>vc (i:=at_) (j:=at_+1) Tryz.underlying9 rfl (hF.eval rfl) (hF.eval rfl) (hF.eval rfl) (by omega) (by omega)) fun a hF=>?_;refine Zs 2 fun a w hO hF=>?_;exact⟨(⟨8,cQ s at_ 1,0,_,_⟩,1),⟨⟨vq hc3 hc4 hc6 ft ni JK,rfl,rfl,by omega,by omega⟩,hO,hF.sub ⟨rfl,rfl,rfl,rfl,rfl,rfl,trivial⟩⟩⟩
         ·refine Zi 3 (fun a hF Lf=>?_) fun a hF Lf=>?_
          ·refine Zs 3 fun a w hO hF=>?_;have hO:=hO.q [1];refine Zc 0 (MV _ _ _ _ hO.ai hs (by omega)) ?_;rintro a _ w ⟨tt,tn,rfl,htx,hS⟩ hF;have hO:=hO.k1 hS;refine Zs 8 fun a w hO hF=>?_;refine Zi 0 (fun R1=>?_) fun R1=>?_
           ·refine Zc 1 (DV _ _ _ _ hO.ai _) ?_;rintro a _ w ⟨rfl,hS⟩ hF;have hO:=hO.k1 hS;refine Zs 4 fun a w hO hF=>?_;refine ke ?_;refine jz ?_;refine ke ?_;refine jz ?_;refine ke ?_;refine jz ?_;refine rW hF rfl rfl rfl Tryz.isAgg31 Tryz.sizeOf31 (hO.cells 3 rfl) rfl ?_;obtain⟨g,rfl⟩:∃g,f=g+1:=⟨f - 1,by omega⟩;exact⟨_,[],_,uW (by omega) hr (by omega) (by rw[qA hc3 hc4 hc6 ft ni JK Lf,WQ htx R1]),rfl,(hO.bV 44 5).only⟩
           ·obtain⟨k,hkm,rfl⟩:=Ob s at_ htx R1;have hO:=hO.q [1];have hk1:=xK hkm;refine Zv 0 ?_;exact⟨(⟨6,tt,0,_,_⟩,k),⟨⟨(by rw[qA hc3 hc4 hc6 ft ni JK Lf,hkm]),rfl,rfl,by omega,by omega⟩,hO,hF.sub ⟨rfl,rfl,rfl,rfl,rfl,rfl,trivial⟩⟩⟩
          ·refine Zv 1 fun a hF=>?_;have hO:=hO.q [1];refine Zc 0 (DV _ _ _ _ hO.ai _) ?_;rintro a _ w ⟨rfl,hS⟩ hF;have hO:=hO.k1 hS;refine Zs 4 fun a w hO hF=>?_;refine ke ?_;refine jz ?_;refine ke ?_;refine jz ?_;refine ke ?_;refine jz ?_;refine rW hF rfl rfl rfl Tryz.isAgg31 Tryz.sizeOf31 (hO.cells 3 rfl) rfl ?_;obtain⟨g,rfl⟩:∃g,f=g+1:=⟨f - 1,by omega⟩;exact⟨_,[],_,uW (by omega) hr (by omega) (y_ hc3 hc4 hc6 ft ni JK Lf),rfl,(hO.bV 44 5).only⟩
   ·rintro⟨t,n⟩ a w ⟨⟨hlex,hline,hcol,hn1,hn2⟩,hO,hF⟩;refine Zv 2 fun a hF=>?_;have hO:=hO.q [1];refine Zc 0 (CS _ _ _ _ (n) hO.ai (by omega) hs) ?_;rintro a _ w ⟨-,hS⟩ hF;have hO:=hO.k1 hS;refine Zb 3 fun b1 a w hO hF=>?_;refine fN hF rfl rfl rfl (cO (bytes:=48) (r:=[t]) hO (i:=3) rfl (hO.rd 0 rfl) Tryz.underlying22 fq rfl rfl rfl rfl rfl rfl (hF.eval rfl) (hF.eval rfl) (by show (List.length _+1) * 48≤_;omega) (by show List.length _+1≤_;omega)) ?_;rintro a aiW w hO hF;have hO:=hO.nm;refine Zv 1 fun a hF=>?_;have hO:=hO.d [0,1];obtain⟨g,rfl⟩:∃g,f=g+1:=⟨f - 1,by omega⟩;exact⟨(g,at_+n,out++[t],_),⟨⟨(LI (by omega) hlex hline hcol).symm.trans hr,by omega,by omega,by simp;omega⟩,hO,hF.sub ⟨rfl,rfl,rfl,rfl,trivial⟩⟩,by dsimp only;omega⟩
  ·refine Zd 0 [0,0,0,0,1,0,0,0,1,0,2,3,0,0,3] fun w hO=>?_;refine Zv 10 fun a hF=>?_;refine eI hF rfl rfl rfl (bM hF hO Tryz.underlying22 Tryz.sizeOf44 Tryz.zeroValue44 rfl rfl rfl rfl rfl rfl rfl) (fun _ _ ⟨_,_,hO⟩=>hO.tail) ?_;rintro a _ w ⟨b2,rfl,hO⟩ hF;refine jO hF rfl rfl rfl (cO (bytes:=48) (r:=[⟨9,[],0,(cF s at_).1,(cF s at_).2⟩]) hO (i:=2) rfl (hO.rd 0 rfl) Tryz.underlying22 fq rfl rfl rfl rfl rfl rfl (hF.eval rfl) (hF.eval rfl) (by show (List.length _+1) * 48≤_;omega) (by show List.length _+1≤_;omega)) ?_;rintro a ait w hO hF;have hO:=hO.nm;refine Zs 3 fun a w hO hF=>?_;refine rW hF rfl rfl rfl Tryz.isAgg31 Tryz.sizeOf31 (hO.cells 3 rfl) rfl ?_;exact⟨_,_,_,Iu hc2 hf hal hr hs,rfl,(hO.pull 2 rfl).only⟩
theorem yt {p:UInt8→Prop}(h:∀n:_root_.Fin 256,p (UInt8.ofNat n.val))(b:UInt8):p b:=by
 have:=h ⟨b.toNat,b.toNat_lt⟩
 simpa using this
theorem acF (b:UInt8):IntKind.u8.wrap ((BitVec.ofInt IntKind.u8.bits (b.toNat:Int)|||BitVec.ofInt IntKind.u8.bits 32).toNat:Int)=((b|||32).toNat:Int):=
 yt (p:=fun b=>IntKind.u8.wrap ((BitVec.ofInt IntKind.u8.bits (b.toNat:Int)|||BitVec.ofInt IntKind.u8.bits 32).toNat:Int)=((b|||32).toNat:Int)) (by decide+kernel) b
theorem Fc (b:UInt8):decide ((97:Int)≤((b|||32).toNat:Int)∧((b|||32).toNat:Int)≤122)=jw b:=
 yt (p:=fun b=>decide ((97:Int)≤((b|||32).toNat:Int)∧((b|||32).toNat:Int)≤122)=jw b) (by decide+kernel) b
def D4:List UInt8:=[33,35,36,37,38,42,43,46,47,60,61,62,63,64,92,94,124,45,58]
theorem MI (b:UInt8):decide ((0:Int)≤Lib.indexByte D4 b)=im b:=
 yt (p:=fun b=>decide ((0:Int)≤Lib.indexByte D4 b)=im b) (by decide+kernel) b
theorem ED (b:UInt8):decide ((0:Int)≤Lib.indexByte fK b)=fK.contains b:=
 yt (p:=fun b=>decide ((0:Int)≤Lib.indexByte fK b)=fK.contains b) (by decide+kernel) b
theorem IX {P:Program}{o:Oper}{a:Act}{w:World}{x y:Operand}{t t':TypeId}{b:UInt8}(ho:o.op=.binOp .or t x y t')(hx:a.eval x=.int .u8 b.toNat)(hy:a.eval y=.int .u8 32):QV P o a w (.int .u8 ((b|||32).toNat:Int)):=
 fL ho hx hy (by
   show Op.intBits .or .u8 _ _=_
   unfold Op.intBits
   show pure (Value.int .u8 (IntKind.u8.wrap _))=_
   rw[acF])
theorem bR (s:List UInt8)(i:Nat):(s.drop i).length=s.length - i:=by simp
theorem I5 (p:UInt8→Bool)(l:List UInt8):(l.takeWhile p).length≤l.length:=(List.takeWhile_sublist p).length_le
theorem C_ {p:UInt8→Bool}{l:List UInt8}{k:Nat}(hk:k≤(l.takeWhile p).length)(h:¬((k:Int)<l.length∧p (l.getD k 0)=true)):(l.takeWhile p).length=k:=by
 refine I6 p l k hk ?_
 by_cases h1:k<l.length
 ·right
  cases hp:p (l.getD k 0) with
  |false=>rfl
  |true=>exact absurd ⟨by omega,hp⟩ h
 ·left;omega
theorem lK (s:List UInt8)(i n:Nat):(s.drop i).take n=cQ s i n:=by
 unfold cQ;rw[List.drop_take,Nat.add_sub_cancel_left]
theorem na (s:List UInt8)(i:Nat):∀(f:Nat) (d:Int) (j:Nat),jP (s.drop i) 0 f d j=jP s i f d (i+j)
 |0,_,_=>rfl
 |f+1,d,j=>by
  have e1:gt (s.drop i) j=gt s (i+j):=eL s i j;have e2:gt (s.drop i) (j+1)=gt s (i+j+1):=eL s i (j+1);unfold jP;rw[bR,e1,e2,na s i f (d+1) (j+2),na s i f (d - 1) (j+2),na s i f d (j+1)];have e4:j+2 - 0=i+j+2 - i:=by omega
  by_cases h:i+j+1<s.length
  ·rw[if_pos (show j+1<s.length - i by omega),if_pos h,e4];rfl
  ·rw[if_neg (show ¬j+1<s.length - i by omega),if_neg h]
theorem yJ (s:List UInt8)(i:Nat):jP (s.drop i) 0 (s.length+1) 0 0=fA s i:=na s i _ _ _
def nV:List UInt8→Nat→Nat
 | [],n=>n
 |c::r,n=>nV r (min (10 * n+(c.toNat - 48)) 1000)
theorem qa (s:List UInt8):∀(f n i:Nat),s.length≤i+f→jU s f n i=(nV ((s.drop i).takeWhile aY) n,i+((s.drop i).takeWhile aY).length)
 |0,n,i,h=>by
  rw[List.drop_of_length_le (by omega)]
  rfl
 |f+1,n,i,h=>by
  unfold jU
  by_cases hi:i<s.length
  ·have e:s.drop i=gt s i::s.drop (i+1):=by unfold gt;exact pT hi
   by_cases hd:aY (gt s i)=true
   ·rw[if_pos ⟨hi,hd⟩,qa s f _ (i+1) (by omega),e,List.takeWhile_cons,if_pos hd];refine Prod.ext rfl ?_;simp only[List.length_cons];omega
   ·rw[if_neg (fun h=>hd h.2),e,List.takeWhile_cons,if_neg hd]
    rfl
  ·rw[if_neg (fun h=>hi h.1),List.drop_of_length_le (by omega)]
   rfl
theorem BM (s:List UInt8)(i j n:Nat)(hj:i+j≤s.length):jU (s.drop i) (s.drop i).length n j=((jU s s.length n (i+j)).1,(jU s s.length n (i+j)).2 - i):=by
 rw[qa _ _ _ _ (by omega),qa _ _ _ _ (by omega),List.drop_drop];refine Prod.ext rfl ?_;simp only;omega
theorem DU:∀(l:List UInt8) (n:Nat),255<n→n≤1000→255<nV l n
 | [],_,h,_=>h
 |c::r,n,h,h2=>DU r _ (by omega) (by omega)
theorem Ds:∀(l:List UInt8) (n:Nat),n≤255→(∀c∈l,aY c=true)→(Lib.parseUintM 255 n l=.ok (nV l n)∧nV l n≤255)∨(Lib.parseUintM 255 n l=.range∧255<nV l n)
 | [],n,h,_=>.inl ⟨rfl,h⟩
 |c::r,n,h,hd=>by
  have hc:=lh (hd c List.mem_cons_self);unfold Lib.parseUintM nV;rw[if_pos (by omega),if_neg (by omega)]
  by_cases hr:255<n * 10+(c.toNat - 48)
  ·rw[if_pos hr];exact .inr ⟨rfl,DU r _ (by omega) (by omega)⟩
  ·rw[if_neg hr,show min (10 * n+(c.toNat - 48)) 1000=n * 10+(c.toNat - 48) by omega];exact Ds r _ (by omega) (fun c h=>hd c (List.mem_cons_of_mem _ h))
theorem Jp {l:List UInt8}{p:UInt8→Bool}:∀c∈l.takeWhile p,p c=true:=fun c hc=>by
 have:=List.all_takeWhile (l:=l) (p:=p);exact List.all_eq_true.1 this c hc
theorem aa2 {l:List UInt8}(h0:l≠[])(hd:∀c∈l,aY c=true):(Lib.parseUintB 8 l=.ok (nV l 0)∧nV l 0≤255)∨(Lib.parseUintB 8 l=.range∧255<nV l 0):=by
 unfold Lib.parseUintB;rw[if_neg h0];exact Ds l 0 (by omega) hd
theorem zi:∀(l:List UInt8) (n:Nat),n≤9223372036854775807→(∀c∈l,aY c=true)→
  (∃v,kh l n=some v∧Lib.parseUintM 18446744073709551615 n l=.ok v∧v≤9223372036854775807)∨(kh l n=none∧(Lib.parseUintM 18446744073709551615 n l=.range∨∃v,Lib.parseUintM 18446744073709551615 n l=.ok v∧9223372036854775807<v))
 | [],n,h,_=>.inl ⟨n,rfl,rfl,h⟩
 |c::r,n,h,hd=>by
  have hc:=lh (hd c List.mem_cons_self);have hr:=fun c h=>hd c (List.mem_cons_of_mem _ h);have big:∀(l:List UInt8) (n:Nat),9223372036854775807<n→(∀c∈l,aY c=true)→(Lib.parseUintM 18446744073709551615 n l=.range∨∃v,Lib.parseUintM 18446744073709551615 n l=.ok v∧9223372036854775807<v):=by
   intro l
   induction l with
   |nil=>intro n hn _;exact .inr ⟨n,rfl,hn⟩
   |cons c r ih=>
    intro n hn hd;have hc:=lh (hd c List.mem_cons_self);unfold Lib.parseUintM;rw[if_pos (by omega),if_pos (by omega)];exact .inl rfl
  have c0:48≤c.toNat∧c.toNat≤57:=by omega
  unfold kh Lib.parseUintM;rw[if_pos c0]
  by_cases h1:(9223372036854775807 - (c.toNat - 48)) / 10<n
  ·rw[if_pos h1];refine .inr ⟨rfl,?_⟩
   split
   ·exact .inl rfl
   ·split
    ·exact .inl rfl
    ·exact big r _ (by omega) hr
  ·rw[if_neg h1,if_neg (by omega),if_neg (by omega),show 10 * n+(c.toNat - 48)=n * 10+(c.toNat - 48) by omega];exact zi r _ (by omega) hr
theorem Y5 {l:List UInt8}(h0:l≠[])(hd:∀c∈l,aY c=true):(∃v:Nat,kh l 0=some v∧Lib.parseIntB 64 l=.ok (v:Int)∧v≤9223372036854775807)∨(kh l 0=none∧Lib.parseIntB 64 l=.range):=by
 cases l with
 |nil=>exact absurd rfl h0
 |cons c r=>
  have hc:=lh (hd c List.mem_cons_self);have e1:¬c.toNat=43:=by omega
  have e2:¬c.toNat=45:=by omega
  have e3:Lib.parseUintB 64 (c::r)=Lib.parseUintM 18446744073709551615 0 (c::r):=by
   unfold Lib.parseUintB;rw[if_neg (by simp)]
  unfold Lib.parseIntB;simp only[e1,e2,or_self,if_false,e3,false_and,not_false_eq_true,true_and];rcases zi (c::r) 0 (by omega) hd with ⟨v,h1,h2,h3⟩| ⟨h1,h2| ⟨v,h2,h3⟩⟩
  ·rw[h2];refine .inl ⟨v,h1,?_,h3⟩;simp only;rw[if_neg (by omega)]
  ·rw[h2];exact .inr ⟨h1,rfl⟩
  ·rw[h2];refine .inr ⟨h1,?_⟩;simp only;rw[if_pos (by omega)]
theorem J3 (l:List UInt8):Lib.trimB l 45=[]↔l.all (fun c=>c=45)=true:=by
 unfold Lib.trimB Lib.trimLeftB Lib.trimRightB;have hdw:∀l:List UInt8,l.dropWhile (fun x=>x ==45)=[]↔∀c∈l,c=45:=by
  intro l
  induction l with
  |nil=>simp
  |cons c r ih=>
   rw[List.dropWhile_cons]
   by_cases hc:(c ==45)=true
   ·rw[if_pos hc,ih];simp only[beq_iff_eq] at hc;simp [hc]
   ·rw[if_neg hc];simp only[beq_iff_eq] at hc;simp [hc]
 rw[hdw,List.all_eq_true];constructor
 ·intro h c hc;have h1:∀c∈(l.reverse.dropWhile fun x=>x ==45),c=45:=fun c hc=>h c (List.mem_reverse.2 hc);have h2:(l.reverse.dropWhile fun x=>x ==45)=[]:=by
   cases hl:l.reverse.dropWhile (fun x=>x ==45) with
   |nil=>rfl
   |cons x r=>
    have hx:=h1 x (by rw[hl];exact List.mem_cons_self);have:=List.head?_dropWhile_not (fun x=>x ==(45:UInt8)) l.reverse;rw[hl] at this;simp [hx] at this
  exact decide_eq_true ((hdw _).1 h2 c (List.mem_reverse.2 hc))
 ·intro h c hc;have h1:=List.mem_reverse.1 hc;have h2:c∈l:=List.mem_reverse.1 ((List.dropWhile_sublist _).subset h1);exact of_decide_eq_true (h c h2)
end Go.Proofs.YtdfccaonglmgpaaGreatDoor
namespace Go.Proofs
open Go.Shelf
def Tryz.s8:Go.Shelf.Ren:=⟨fun|169=>212|n=>n,fun|70=>167|9=>9|0=>0|72=>169|37=>113|127=>187|3=>3|5=>5|n=>n,fun|n=>n⟩
theorem Tryz.Mu:Go.Proofs.Lays.n169 Tryz.prog Tryz.s8:={
  mixed:=by kernel_rfl
  f169:=Tryz.func212.trans (congrArg some (by kernel_rfl))
  t0:=Tryz.underlying0
  a0:=Tryz.isAgg0
  z0:=Tryz.sizeOf0
  v0:=Tryz.zeroValue0
  t3:=Tryz.underlying3
  a3:=Tryz.isAgg3
  z3:=Tryz.sizeOf3
  v3:=Tryz.zeroValue3
  t9:=Tryz.underlying9
  a9:=Tryz.isAgg9
  z9:=Tryz.sizeOf9
  v9:=Tryz.zeroValue9
  t37:=Tryz.underlying113
  a37:=Tryz.isAgg113
  z37:=Tryz.sizeOf113
  v37:=Tryz.zeroValue113
  t70:=Tryz.underlying167
  a70:=Tryz.isAgg167
  z70:=Tryz.sizeOf167
  v70:=Tryz.zeroValue167
  t72:=Tryz.underlying169
  a72:=Tryz.isAgg169
  z72:=Tryz.sizeOf169
  v72:=Tryz.zeroValue169
  t127:=Tryz.underlying187
  a127:=Tryz.isAgg187
  z127:=Tryz.sizeOf187
  v127:=Tryz.zeroValue187}
theorem Tryz.qo:Builder.Extra Tryz.prog Tryz.s8:={
  sizeBuilder:=by kernel_rfl
  liesBuilder:=by kernel_rfl
  t5:=Tryz.underlying5
  a5:=Tryz.isAgg5
  z5:=Tryz.sizeOf5
  v5:=Tryz.zeroValue5
  infoByte:=by kernel_rfl
  cellsByte:=by kernel_rfl
  sizeByte:=by kernel_rfl
  neB5:=by decide}
open Go.RowKit in
theorem Tryz.Builder_String_any (B b:Nat)(l:List UInt8)(w:World)(h:Lib.IsBuilder 169 5 B b (Lib.byteCells l) w)(hBw:B≤w.heap.size):
 Calls Tryz.prog 212 #[.pointer (some ⟨b,0,none⟩)] w fun e w'=>e=.returned (.string ⟨l.toArray⟩)∧Below B w w':=Any.Builder_String_any Tryz.Mu Tryz.qo B b l w h hBw
def Tryz.y1:Go.Shelf.Ren:=⟨fun|160=>208|232=>225|231=>224|227=>226|234=>228|233=>227|236=>230|235=>229|228=>240|271=>243|151=>242|197=>241|120=>249|152=>248|260=>247|137=>188|119=>251|224=>252|225=>253|217=>211|266=>231|n=>n,fun|9=>9|4=>4|3=>3|5=>5|117=>183|116=>182|0=>0|124=>186|21=>21|105=>194|46=>176|119=>205|139=>208|138=>207|n=>n,fun|3=>3|4=>4|n=>n⟩
theorem Tryz.LJ:Go.Proofs.Lays.n160 Tryz.prog Tryz.y1:={
  mixed:=by kernel_rfl
  f119:=Tryz.func251.trans (congrArg some (by kernel_rfl))
  f120:=Tryz.func249.trans (congrArg some (by kernel_rfl))
  f137:=Tryz.func188.trans (congrArg some (by kernel_rfl))
  f151:=Tryz.func242.trans (congrArg some (by kernel_rfl))
  f152:=Tryz.func248.trans (congrArg some (by kernel_rfl))
  f160:=Tryz.func208.trans (congrArg some (by kernel_rfl))
  f197:=Tryz.func241.trans (congrArg some (by kernel_rfl))
  f217:=Tryz.func211.trans (congrArg some (by kernel_rfl))
  f224:=Tryz.func252.trans (congrArg some (by kernel_rfl))
  f225:=Tryz.func253.trans (congrArg some (by kernel_rfl))
  f227:=Tryz.func226.trans (congrArg some (by kernel_rfl))
  f228:=Tryz.func240.trans (congrArg some (by kernel_rfl))
  f231:=Tryz.func224.trans (congrArg some (by kernel_rfl))
  f232:=Tryz.func225.trans (congrArg some (by kernel_rfl))
  f233:=Tryz.func227.trans (congrArg some (by kernel_rfl))
  f234:=Tryz.func228.trans (congrArg some (by kernel_rfl))
  f235:=Tryz.func229.trans (congrArg some (by kernel_rfl))
  f236:=Tryz.func230.trans (congrArg some (by kernel_rfl))
  f260:=Tryz.func247.trans (congrArg some (by kernel_rfl))
  f266:=Tryz.func231.trans (congrArg some (by kernel_rfl))
  f271:=Tryz.func243.trans (congrArg some (by kernel_rfl))
  t0:=Tryz.underlying0
  a0:=Tryz.isAgg0
  z0:=Tryz.sizeOf0
  v0:=Tryz.zeroValue0
  t3:=Tryz.underlying3
  a3:=Tryz.isAgg3
  z3:=Tryz.sizeOf3
  v3:=Tryz.zeroValue3
  t4:=Tryz.underlying4
  a4:=Tryz.isAgg4
  z4:=Tryz.sizeOf4
  v4:=Tryz.zeroValue4
  t5:=Tryz.underlying5
  a5:=Tryz.isAgg5
  z5:=Tryz.sizeOf5
  v5:=Tryz.zeroValue5
  t9:=Tryz.underlying9
  a9:=Tryz.isAgg9
  z9:=Tryz.sizeOf9
  v9:=Tryz.zeroValue9
  t21:=Tryz.underlying21
  a21:=Tryz.isAgg21
  z21:=Tryz.sizeOf21
  v21:=Tryz.zeroValue21
  t46:=Tryz.underlying176
  a46:=Tryz.isAgg176
  z46:=Tryz.sizeOf176
  v46:=Tryz.zeroValue176
  t105:=Tryz.underlying194
  a105:=Tryz.isAgg194
  z105:=Tryz.sizeOf194
  v105:=Tryz.zeroValue194
  t116:=Tryz.underlying182
  a116:=Tryz.isAgg182
  z116:=Tryz.sizeOf182
  t117:=Tryz.underlying183
  a117:=Tryz.isAgg183
  z117:=Tryz.sizeOf183
  v117:=Tryz.zeroValue183
  t119:=Tryz.underlying205
  a119:=Tryz.isAgg205
  z119:=Tryz.sizeOf205
  t124:=Tryz.underlying186
  a124:=Tryz.isAgg186
  z124:=Tryz.sizeOf186
  v124:=Tryz.zeroValue186
  t138:=Tryz.underlying207
  a138:=Tryz.isAgg207
  z138:=Tryz.sizeOf207
  v138:=Tryz.zeroValue207
  t139:=Tryz.underlying208
  a139:=Tryz.isAgg208
  z139:=Tryz.sizeOf208
  v139:=Tryz.zeroValue208
  g3:=by kernel_rfl
  g4:=by kernel_rfl}
open Go.RowKit in
theorem Tryz.strings_Trim_one (s:ByteArray)(c:UInt8)(hc:c.toNat<128)(w:World)(hs:s.size≤9223372036854775807):
 Calls Tryz.prog 208 #[.string s,.string ⟨#[c]⟩] w fun e w'=>e=.returned (.string ⟨(Lib.trimB s.data.toList c).toArray⟩)∧(w'=w∨w'=w.drew):=Any.strings_Trim_one Tryz.LJ s c hc w hs
def Tryz.Ae:Go.Shelf.Ren:=⟨fun|137=>188|217=>211|266=>231|n=>n,fun|9=>9|5=>5|3=>3|n=>n,fun|n=>n⟩
theorem Tryz.Nb:Go.Proofs.Lays.n137 Tryz.prog Tryz.Ae:={
  mixed:=by kernel_rfl
  f137:=Tryz.func188.trans (congrArg some (by kernel_rfl))
  f217:=Tryz.func211.trans (congrArg some (by kernel_rfl))
  f266:=Tryz.func231.trans (congrArg some (by kernel_rfl))
  t3:=Tryz.underlying3
  a3:=Tryz.isAgg3
  z3:=Tryz.sizeOf3
  v3:=Tryz.zeroValue3
  t5:=Tryz.underlying5
  a5:=Tryz.isAgg5
  z5:=Tryz.sizeOf5
  v5:=Tryz.zeroValue5
  t9:=Tryz.underlying9
  a9:=Tryz.isAgg9
  z9:=Tryz.sizeOf9
  v9:=Tryz.zeroValue9}
open Go.RowKit in
theorem Tryz.strings_IndexByte (s:ByteArray)(c:Int)(w:World):
 Calls Tryz.prog 188 #[.string s,.int .u8 c] w fun e w'=>e=.returned (.int .i64 (Lib.indexByte s.data.toList c.toNat.toUInt8))∧w'=w:=Any.strings_IndexByte Tryz.Nb s c w
def Tryz.xu:Go.Shelf.Ren:=⟨fun|174=>185|247=>206|245=>207|287=>219|279=>220|280=>221|281=>222|282=>223|321=>235|322=>236|316=>237|171=>239|205=>238|243=>246|246=>250|283=>254|284=>255|285=>256|286=>257|129=>259|317=>258|318=>260|319=>261|320=>262|337=>263|338=>264|n=>n,fun|9=>9|3=>3|2=>2|75=>158|85=>159|4=>4|167=>175|5=>5|53=>171|175=>172|46=>176|168=>177|37=>113|0=>0|210=>191|21=>21|127=>187|145=>202|143=>200|171=>211|173=>214|212=>217|51=>218|20=>20|213=>219|232=>222|233=>223|80=>154|n=>n,fun|15=>0|16=>1|17=>5|18=>6|19=>7|n=>n⟩
theorem Tryz.zC:Go.Proofs.LaysC.n174 Tryz.prog Tryz.xu:={
  mixed:=by kernel_rfl
  f129:=Tryz.func259.trans (congrArg some (by kernel_rfl))
  f171:=Tryz.func239.trans (congrArg some (by kernel_rfl))
  f174:=Tryz.func185.trans (congrArg some (by kernel_rfl))
  f205:=Tryz.func238.trans (congrArg some (by kernel_rfl))
  f243:=Tryz.func246.trans (congrArg some (by kernel_rfl))
  f245:=Tryz.func207.trans (congrArg some (by kernel_rfl))
  f246:=Tryz.func250.trans (congrArg some (by kernel_rfl))
  f247:=Tryz.func206.trans (congrArg some (by kernel_rfl))
  f279:=Tryz.func220.trans (congrArg some (by kernel_rfl))
  f280:=Tryz.func221.trans (congrArg some (by kernel_rfl))
  f281:=Tryz.func222.trans (congrArg some (by kernel_rfl))
  f282:=Tryz.func223.trans (congrArg some (by kernel_rfl))
  f283:=Tryz.func254.trans (congrArg some (by kernel_rfl))
  f284:=Tryz.func255.trans (congrArg some (by kernel_rfl))
  f285:=Tryz.func256.trans (congrArg some (by kernel_rfl))
  f286:=Tryz.func257.trans (congrArg some (by kernel_rfl))
  f287:=Tryz.func219.trans (congrArg some (by kernel_rfl))
  f316:=Tryz.func237.trans (congrArg some (by kernel_rfl))
  f317:=Tryz.func258.trans (congrArg some (by kernel_rfl))
  f318:=Tryz.func260.trans (congrArg some (by kernel_rfl))
  f319:=Tryz.func261.trans (congrArg some (by kernel_rfl))
  f320:=Tryz.func262.trans (congrArg some (by kernel_rfl))
  f321:=Tryz.func235.trans (congrArg some (by kernel_rfl))
  f322:=Tryz.func236.trans (congrArg some (by kernel_rfl))
  f337:=Tryz.func263.trans (congrArg some (by kernel_rfl))
  f338:=Tryz.func264.trans (congrArg some (by kernel_rfl))
  t0:=Tryz.underlying0
  a0:=Tryz.isAgg0
  z0:=Tryz.sizeOf0
  v0:=Tryz.zeroValue0
  t2:=Tryz.underlying2
  a2:=Tryz.isAgg2
  z2:=Tryz.sizeOf2
  v2:=Tryz.zeroValue2
  t3:=Tryz.underlying3
  a3:=Tryz.isAgg3
  z3:=Tryz.sizeOf3
  v3:=Tryz.zeroValue3
  t4:=Tryz.underlying4
  a4:=Tryz.isAgg4
  z4:=Tryz.sizeOf4
  v4:=Tryz.zeroValue4
  t5:=Tryz.underlying5
  a5:=Tryz.isAgg5
  z5:=Tryz.sizeOf5
  v5:=Tryz.zeroValue5
  t9:=Tryz.underlying9
  a9:=Tryz.isAgg9
  z9:=Tryz.sizeOf9
  v9:=Tryz.zeroValue9
  t20:=Tryz.underlying20
  a20:=Tryz.isAgg20
  z20:=Tryz.sizeOf20
  v20:=Tryz.zeroValue20
  t21:=Tryz.underlying21
  a21:=Tryz.isAgg21
  z21:=Tryz.sizeOf21
  v21:=Tryz.zeroValue21
  t37:=Tryz.underlying113
  a37:=Tryz.isAgg113
  z37:=Tryz.sizeOf113
  v37:=Tryz.zeroValue113
  t46:=Tryz.underlying176
  a46:=Tryz.isAgg176
  z46:=Tryz.sizeOf176
  v46:=Tryz.zeroValue176
  t51:=Tryz.underlying218
  a51:=Tryz.isAgg218
  z51:=Tryz.sizeOf218
  v51:=Tryz.zeroValue218
  t53:=Tryz.underlying171
  a53:=Tryz.isAgg171
  z53:=Tryz.sizeOf171
  v53:=Tryz.zeroValue171
  t75:=Tryz.underlying158
  a75:=Tryz.isAgg158
  z75:=Tryz.sizeOf158
  v75:=Tryz.zeroValue158
  t85:=Tryz.underlying159
  a85:=Tryz.isAgg159
  z85:=Tryz.sizeOf159
  v85:=Tryz.zeroValue159
  t127:=Tryz.underlying187
  a127:=Tryz.isAgg187
  z127:=Tryz.sizeOf187
  v127:=Tryz.zeroValue187
  t143:=Tryz.underlying200
  a143:=Tryz.isAgg200
  z143:=Tryz.sizeOf200
  v143:=Tryz.zeroValue200
  t145:=Tryz.underlying202
  a145:=Tryz.isAgg202
  z145:=Tryz.sizeOf202
  v145:=Tryz.zeroValue202
  t167:=Tryz.underlying175
  a167:=Tryz.isAgg175
  z167:=Tryz.sizeOf175
  v167:=Tryz.zeroValue175
  t168:=Tryz.underlying177
  a168:=Tryz.isAgg177
  z168:=Tryz.sizeOf177
  v168:=Tryz.zeroValue177
  t171:=Tryz.underlying211
  a171:=Tryz.isAgg211
  z171:=Tryz.sizeOf211
  v171:=Tryz.zeroValue211
  t173:=Tryz.underlying214
  a173:=Tryz.isAgg214
  z173:=Tryz.sizeOf214
  v173:=Tryz.zeroValue214
  t175:=Tryz.underlying172
  a175:=Tryz.isAgg172
  z175:=Tryz.sizeOf172
  v175:=Tryz.zeroValue172
  t210:=Tryz.underlying191
  a210:=Tryz.isAgg191
  z210:=Tryz.sizeOf191
  v210:=Tryz.zeroValue191
  t212:=Tryz.underlying217
  a212:=Tryz.isAgg217
  z212:=Tryz.sizeOf217
  v212:=Tryz.zeroValue217
  t213:=Tryz.underlying219
  a213:=Tryz.isAgg219
  z213:=Tryz.sizeOf219
  t232:=Tryz.underlying222
  a232:=Tryz.isAgg222
  z232:=Tryz.sizeOf222
  v232:=Tryz.zeroValue222
  t233:=Tryz.underlying223
  a233:=Tryz.isAgg223
  z233:=Tryz.sizeOf223
  v233:=Tryz.zeroValue223
  g15:=by kernel_rfl
  g16:=by kernel_rfl
  g17:=by kernel_rfl
  g18:=by kernel_rfl
  g19:=by kernel_rfl
  t80:=Tryz.underlying154
  a80:=Tryz.isAgg154
  z80:=Tryz.sizeOf154
  v80:=Tryz.zeroValue154
  i0:=by kernel_rfl
  i2:=by kernel_rfl
  i3:=by kernel_rfl
  i4:=by kernel_rfl
  i5:=by kernel_rfl
  i9:=by kernel_rfl
  i20:=by kernel_rfl
  i21:=by kernel_rfl
  i37:=by kernel_rfl
  i46:=by kernel_rfl
  i51:=by kernel_rfl
  i53:=by kernel_rfl
  i75:=by kernel_rfl
  i80:=by kernel_rfl
  i85:=by kernel_rfl
  i127:=by kernel_rfl
  i143:=by kernel_rfl
  i145:=by kernel_rfl
  i167:=by kernel_rfl
  i168:=by kernel_rfl
  i171:=by kernel_rfl
  i173:=by kernel_rfl
  i175:=by kernel_rfl
  i210:=by kernel_rfl
  i212:=by kernel_rfl
  i232:=by kernel_rfl
  i233:=by kernel_rfl
  m15:=by kernel_rfl
  m16:=by kernel_rfl
  m17:=by kernel_rfl
  m18:=by kernel_rfl
  m19:=by kernel_rfl
  c0:=by kernel_rfl
  c2:=by kernel_rfl
  c3:=by kernel_rfl
  c4:=by kernel_rfl
  c5:=by kernel_rfl
  c9:=by kernel_rfl
  c20:=by kernel_rfl
  c21:=by kernel_rfl
  c37:=by kernel_rfl
  c46:=by kernel_rfl
  c51:=by kernel_rfl
  c53:=by kernel_rfl
  c75:=by kernel_rfl
  c80:=by kernel_rfl
  c85:=by kernel_rfl
  c127:=by kernel_rfl
  c143:=by kernel_rfl
  c145:=by kernel_rfl
  c167:=by kernel_rfl
  c168:=by kernel_rfl
  c171:=by kernel_rfl
  c173:=by kernel_rfl
  c175:=by kernel_rfl
  c210:=by kernel_rfl
  c212:=by kernel_rfl
  c213:=by kernel_rfl
  c232:=by kernel_rfl
  c233:=by kernel_rfl}
open Go.RowKit in
theorem Tryz.strconv_ParseInt_10_at64_ok (s:ByteArray)(hmax:s.size≤9223372036854775806)(v:Int)(h:Lib.parseIntB 64 s.data.toList=.ok v)(w:World):
 Calls Tryz.prog 185 #[.string s,.int .i64 10,.int .i64 64] w fun e w'=>e=.returned (.tuple #[.int .i64 v,.nilIface])∧(w'=w∨∃t,w'=Lib.bytesWorld w 5 t):=Any.strconv_ParseInt_10_at64_ok Tryz.zC s hmax v h w
open Go.RowKit in
theorem Tryz.strconv_ParseInt_10_at64_range (s:ByteArray)(hlim:s.size≤281474976710656)(h:Lib.parseIntB 64 s.data.toList=.range)(ev:Value)(w:World)(hv:w.cell? ⟨1,0,none⟩=some ev)(hev:ev=.nilIface∨∃te pe,ev=.iface te pe):
 Calls Tryz.prog 185 #[.string s,.int .i64 10,.int .i64 64] w fun e w'=>∃N,e=.returned (.tuple #[.int .i64 (Lib.intSat 64 s.data.toList),.iface 177 (.pointer (some ⟨N,0,none⟩))])∧w.heap.size≤N∧w'.heap[N]?=some (.cells #[.string ⟨#[80,97,114,115,101,73,110,116]⟩,.string s,ev] 191 (0,0))∧Below w.heap.size w w':=Any.strconv_ParseInt_10_at64_range Tryz.zC s hlim h ev w hv hev
def Tryz.xZ:Go.Shelf.Ren:=⟨fun|14=>214|16=>219|17=>207|19=>235|20=>236|21=>220|22=>221|23=>222|24=>223|25=>237|27=>239|26=>238|28=>246|29=>250|30=>254|31=>255|32=>256|33=>257|35=>259|34=>258|36=>260|37=>261|38=>262|39=>263|40=>264|n=>n,fun|9=>9|3=>3|22=>171|24=>158|25=>172|4=>4|34=>175|5=>5|36=>176|37=>113|0=>0|39=>177|21=>21|44=>191|47=>187|50=>202|48=>200|2=>2|52=>211|55=>214|59=>217|60=>218|20=>20|61=>219|65=>222|66=>223|67=>154|n=>n,fun|0=>0|1=>1|2=>5|3=>6|4=>7|n=>n⟩
theorem Tryz.ur:Go.Proofs.LaysPu.n14 Tryz.prog Tryz.xZ:={
  mixed:=by kernel_rfl
  f14:=Tryz.func214.trans (congrArg some (by kernel_rfl))
  f16:=Tryz.func219.trans (congrArg some (by kernel_rfl))
  f17:=Tryz.func207.trans (congrArg some (by kernel_rfl))
  f19:=Tryz.func235.trans (congrArg some (by kernel_rfl))
  f20:=Tryz.func236.trans (congrArg some (by kernel_rfl))
  f21:=Tryz.func220.trans (congrArg some (by kernel_rfl))
  f22:=Tryz.func221.trans (congrArg some (by kernel_rfl))
  f23:=Tryz.func222.trans (congrArg some (by kernel_rfl))
  f24:=Tryz.func223.trans (congrArg some (by kernel_rfl))
  f25:=Tryz.func237.trans (congrArg some (by kernel_rfl))
  f26:=Tryz.func238.trans (congrArg some (by kernel_rfl))
  f27:=Tryz.func239.trans (congrArg some (by kernel_rfl))
  f28:=Tryz.func246.trans (congrArg some (by kernel_rfl))
  f29:=Tryz.func250.trans (congrArg some (by kernel_rfl))
  f30:=Tryz.func254.trans (congrArg some (by kernel_rfl))
  f31:=Tryz.func255.trans (congrArg some (by kernel_rfl))
  f32:=Tryz.func256.trans (congrArg some (by kernel_rfl))
  f33:=Tryz.func257.trans (congrArg some (by kernel_rfl))
  f34:=Tryz.func258.trans (congrArg some (by kernel_rfl))
  f35:=Tryz.func259.trans (congrArg some (by kernel_rfl))
  f36:=Tryz.func260.trans (congrArg some (by kernel_rfl))
  f37:=Tryz.func261.trans (congrArg some (by kernel_rfl))
  f38:=Tryz.func262.trans (congrArg some (by kernel_rfl))
  f39:=Tryz.func263.trans (congrArg some (by kernel_rfl))
  f40:=Tryz.func264.trans (congrArg some (by kernel_rfl))
  t0:=Tryz.underlying0
  a0:=Tryz.isAgg0
  z0:=Tryz.sizeOf0
  v0:=Tryz.zeroValue0
  i0:=by kernel_rfl
  t2:=Tryz.underlying2
  a2:=Tryz.isAgg2
  z2:=Tryz.sizeOf2
  v2:=Tryz.zeroValue2
  i2:=by kernel_rfl
  t3:=Tryz.underlying3
  a3:=Tryz.isAgg3
  z3:=Tryz.sizeOf3
  v3:=Tryz.zeroValue3
  i3:=by kernel_rfl
  t4:=Tryz.underlying4
  a4:=Tryz.isAgg4
  z4:=Tryz.sizeOf4
  v4:=Tryz.zeroValue4
  i4:=by kernel_rfl
  t5:=Tryz.underlying5
  a5:=Tryz.isAgg5
  z5:=Tryz.sizeOf5
  v5:=Tryz.zeroValue5
  i5:=by kernel_rfl
  t9:=Tryz.underlying9
  a9:=Tryz.isAgg9
  z9:=Tryz.sizeOf9
  v9:=Tryz.zeroValue9
  i9:=by kernel_rfl
  t20:=Tryz.underlying20
  a20:=Tryz.isAgg20
  z20:=Tryz.sizeOf20
  v20:=Tryz.zeroValue20
  i20:=by kernel_rfl
  t21:=Tryz.underlying21
  a21:=Tryz.isAgg21
  z21:=Tryz.sizeOf21
  v21:=Tryz.zeroValue21
  i21:=by kernel_rfl
  t22:=Tryz.underlying171
  a22:=Tryz.isAgg171
  z22:=Tryz.sizeOf171
  v22:=Tryz.zeroValue171
  i22:=by kernel_rfl
  t24:=Tryz.underlying158
  a24:=Tryz.isAgg158
  z24:=Tryz.sizeOf158
  v24:=Tryz.zeroValue158
  i24:=by kernel_rfl
  t25:=Tryz.underlying172
  a25:=Tryz.isAgg172
  z25:=Tryz.sizeOf172
  v25:=Tryz.zeroValue172
  i25:=by kernel_rfl
  t34:=Tryz.underlying175
  a34:=Tryz.isAgg175
  z34:=Tryz.sizeOf175
  v34:=Tryz.zeroValue175
  i34:=by kernel_rfl
  c34:=by kernel_rfl
  t36:=Tryz.underlying176
  a36:=Tryz.isAgg176
  z36:=Tryz.sizeOf176
  v36:=Tryz.zeroValue176
  i36:=by kernel_rfl
  t37:=Tryz.underlying113
  a37:=Tryz.isAgg113
  z37:=Tryz.sizeOf113
  v37:=Tryz.zeroValue113
  i37:=by kernel_rfl
  t39:=Tryz.underlying177
  a39:=Tryz.isAgg177
  z39:=Tryz.sizeOf177
  v39:=Tryz.zeroValue177
  i39:=by kernel_rfl
  t44:=Tryz.underlying191
  a44:=Tryz.isAgg191
  z44:=Tryz.sizeOf191
  v44:=Tryz.zeroValue191
  i44:=by kernel_rfl
  t47:=Tryz.underlying187
  a47:=Tryz.isAgg187
  z47:=Tryz.sizeOf187
  v47:=Tryz.zeroValue187
  i47:=by kernel_rfl
  t48:=Tryz.underlying200
  a48:=Tryz.isAgg200
  z48:=Tryz.sizeOf200
  v48:=Tryz.zeroValue200
  i48:=by kernel_rfl
  t50:=Tryz.underlying202
  a50:=Tryz.isAgg202
  z50:=Tryz.sizeOf202
  v50:=Tryz.zeroValue202
  i50:=by kernel_rfl
  t52:=Tryz.underlying211
  a52:=Tryz.isAgg211
  z52:=Tryz.sizeOf211
  v52:=Tryz.zeroValue211
  i52:=by kernel_rfl
  t55:=Tryz.underlying214
  a55:=Tryz.isAgg214
  z55:=Tryz.sizeOf214
  v55:=Tryz.zeroValue214
  i55:=by kernel_rfl
  t59:=Tryz.underlying217
  a59:=Tryz.isAgg217
  z59:=Tryz.sizeOf217
  v59:=Tryz.zeroValue217
  i59:=by kernel_rfl
  t60:=Tryz.underlying218
  a60:=Tryz.isAgg218
  z60:=Tryz.sizeOf218
  v60:=Tryz.zeroValue218
  i60:=by kernel_rfl
  t61:=Tryz.underlying219
  a61:=Tryz.isAgg219
  z61:=Tryz.sizeOf219
  t65:=Tryz.underlying222
  a65:=Tryz.isAgg222
  z65:=Tryz.sizeOf222
  v65:=Tryz.zeroValue222
  i65:=by kernel_rfl
  t66:=Tryz.underlying223
  a66:=Tryz.isAgg223
  z66:=Tryz.sizeOf223
  v66:=Tryz.zeroValue223
  i66:=by kernel_rfl
  t67:=Tryz.underlying154
  a67:=Tryz.isAgg154
  z67:=Tryz.sizeOf154
  v67:=Tryz.zeroValue154
  i67:=by kernel_rfl
  g0:=by kernel_rfl
  m0:=by kernel_rfl
  g1:=by kernel_rfl
  m1:=by kernel_rfl
  g2:=by kernel_rfl
  m2:=by kernel_rfl
  g3:=by kernel_rfl
  m3:=by kernel_rfl
  g4:=by kernel_rfl
  m4:=by kernel_rfl}
open Go.RowKit in
theorem Tryz.strconv_ParseUint_10_at8_ok (s:ByteArray)(hmax:s.size≤9223372036854775806)(u:Nat)(h:Lib.parseUintB 8 s.data.toList=.ok u)(w:World):
 Calls Tryz.prog 214 #[.string s,.int .i64 10,.int .i64 8] w fun e w'=>e=.returned (.tuple #[.int .u64 u,.nilIface])∧(w'=w∨w'=Lib.bytesWorld w 5 s):=Any.strconv_ParseUint_10_at8_ok Tryz.ur s hmax u h w
open Go.RowKit in
theorem Tryz.strconv_ParseUint_10_at8_syntax (s:ByteArray)(hlim:s.size≤281474976710656)(h:Lib.parseUintB 8 s.data.toList=Lib.parseUintB 8 [])(ev:Value)(w:World)(hv:w.cell? ⟨0,0,none⟩=some ev)(hev:ev=.nilIface∨∃te pe,ev=.iface te pe):
 Calls Tryz.prog 214 #[.string s,.int .i64 10,.int .i64 8] w fun e w'=>∃N,e=.returned (.tuple #[.int .u64 0,.iface 177 (.pointer (some ⟨N,0,none⟩))])∧w.heap.size≤N∧w'.heap[N]?=some (.cells #[.string ⟨#[80,97,114,115,101,85,105,110,116]⟩,.string s,ev] 191 (0,0))∧Below w.heap.size w w':=Any.strconv_ParseUint_10_at8_syntax Tryz.ur s hlim (h.trans rfl) ev w hv hev
open Go.RowKit in
theorem Tryz.strconv_ParseUint_10_at8_range (s:ByteArray)(hlim:s.size≤281474976710656)(h:Lib.parseUintB 8 s.data.toList=.range)(ev:Value)(w:World)(hv:w.cell? ⟨1,0,none⟩=some ev)(hev:ev=.nilIface∨∃te pe,ev=.iface te pe):
 Calls Tryz.prog 214 #[.string s,.int .i64 10,.int .i64 8] w fun e w'=>∃N,e=.returned (.tuple #[.int .u64 255,.iface 177 (.pointer (some ⟨N,0,none⟩))])∧w.heap.size≤N∧w'.heap[N]?=some (.cells #[.string ⟨#[80,97,114,115,101,85,105,110,116]⟩,.string s,ev] 191 (0,0))∧Below w.heap.size w w':=Any.strconv_ParseUint_10_at8_range Tryz.ur s hlim h ev w hv hev
end Go.Proofs
