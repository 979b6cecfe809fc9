/- Q02 -/
import Derived.Test.YtdfccaonglmgpaaGreatDoorQ01
set_option linter.all false
namespace Go.Proofs.YtdfccaonglmgpaaGreatDoor
section
variable (I:List UInt8→Bool)
def kw (w:List UInt8):Tk:=⟨if I w then 7 else 8,w,0⟩
inductive ku:List Tk→X→Prop
 |sign {s k n}:(k=3∧n=0)∨(k=4∧n=1)→ku [⟨k,s,0⟩] (.mk 24 s n [])
 |tick {s k n}:(k=1∧n=0)∨(k=2∧n=1)→ku [kw I my,⟨k,s,0⟩,kw I my] (.mk 24 s n [])
inductive uH:List Tk→List UInt8→Prop
 |plain {s}:uH [⟨1,s,0⟩] s
 |op {s}:uH [kw I bY,⟨3,s,0⟩,kw I bB] s
inductive rC:List Tk→List UInt8→Prop
 |plain {s}:rC [⟨2,s,0⟩] s
 |op {s}:rC [kw I bY,⟨4,s,0⟩,kw I bB] s
 |unit:rC [kw I bY,kw I bB] ji
 |pair:rC [kw I bY,kw I bD,kw I bB] gY
 |triple:rC [kw I bY,kw I bD,kw I bD,kw I bB] gM
abbrev TP:=List Tk×X
def aD (ps:List TP):List X:=ps.map Prod.snd
def ju (w:List UInt8):List TP→List Tk
 | []=>[]
 |p::l=>kw I w::(p.1++ju w l)
def bq (w:List UInt8):List TP→List Tk
 | []=>[]
 |p::l=>p.1++ju I w l
def fy:List TP→List Tk
 | []=>[]
 |p::l=>p.1++fy l
def kQ:List (TP×TP)→List Tk
 | []=>[]
 |q::l=>q.1.1++(q.2.1++kQ l)
def fU:List (TP×TP)→List X
 | []=>[]
 |q::l=>q.1.2::q.2.2::fU l
def ov (w:List UInt8):List (TP×TP)→List Tk
 | []=>[]
 |q::l=>kw I mW::(q.1.1++(kw I w::(q.2.1++ov w l)))
def AI:List (TP×TP)→List X
 | []=>[]
 |q::l=>ag 17 [] [q.1.2,q.2.2]::AI l
mutual
inductive iQ:List Tk→X→Prop
 |var {ts s}:uH I ts s→iQ ts (ag 18 s [])
 |con {ts s}:rC I ts s→iQ ts (ag 19 s [])
 |int {n}:iQ [⟨5,[],n⟩] (.mk 20 [] n [])
 |str {s}:iQ [⟨6,s,0⟩] (ag 21 s [])
 |wild:iQ [kw I lU] (ag 38 [] [])
 |eas {s ts a}:iQ ts a→iQ (⟨1,s,0⟩::kw I tG::ts) (ag 39 s [a])
 |lst {ps:List TP}:(∀p∈ps,dS p.1 p.2)→iQ (kw I eX::(bq I bD ps++[kw I iI])) (ag 32 [] (aD ps))
 |paren {ts e}:dS ts e→iQ (kw I bY::(ts++[kw I bB])) e
 |tup {ps:List TP}:(∀p∈ps,dS p.1 p.2)→ps.length=2∨ps.length=3→iQ (kw I bY::(bq I bD ps++[kw I bB])) (ag 31 [] (aD ps))
 |left {ts a us o}:iQ ts a→ku I us o→iQ (kw I bY::(ts++(us++[kw I bB]))) (ag 33 [] [a,o])
 |right {ts a us o}:ku I us o→dS ts a→iQ (kw I bY::(us++(ts++[kw I bB]))) (ag 34 [] [o,a])
inductive jK:List Tk→X→Prop
 |base {ts e}:iQ ts e→jK ts e
 |make {ts s} {ps:List TP}:rC I ts s→(∀p∈ps,u2 p.1 p.2)→jK (ts++(kw I cw::(bq I bD ps++[kw I cd]))) (ag 35 s (aD ps))
 |put {ts a} {ps:List TP}:dS ts a→a.kind≠19→(∀p∈ps,u2 p.1 p.2)→ps≠[]→jK (kw I bY::(ts++(kw I bB::kw I cw::(bq I bD ps++[kw I cd])))) (ag 36 [] (a::aD ps))
inductive pJ:List Tk→X→Prop
 |atoms {ts a} {ps:List TP}:jK ts a→(∀p∈ps,jK p.1 p.2)→pJ (ts++fy ps) (fg (a::aD ps))
 |lam {ps:List TP} {us e}:(∀p∈ps,jK p.1 p.2)→ps≠[]→dS us e→pJ (kw I u1::(fy ps++(kw I dC::us))) (ag 25 [] [listed (aD ps),e])
 |elet {ps:List TP} {us e}:(∀p∈ps,rk p.1 p.2)→dS us e→pJ (kw I qa::kw I cw::(bq I cn ps++(kw I cd::kw I yD::us))) (ag 26 [] [listed (aD ps),e])
 |eif {ts a us b vs c}:dS ts a→dS us b→dS vs c→pJ (kw I uV::(ts++(kw I zK::(us++(kw I BP::vs))))) (ag 27 [] [a,b,c])
 |ecase {ts a} {ps:List TP}:dS ts a→(∀p∈ps,Eo p.1 p.2)→pJ (kw I ua::(ts++(kw I AM::kw I cw::(bq I cn ps++[kw I cd])))) (ag 28 [] (a::aD ps))
 |edo {ps:List TP}:(∀p∈ps,vO p.1 p.2)→pJ (kw I uh::kw I cw::(bq I cn ps++[kw I cd])) (ag 30 [] (aD ps))
inductive dS:List Tk→X→Prop
 |opnd {ts e}:pJ ts e→dS ts e
 |ops {ts a} {qs:List (TP×TP)}:jK ts a→(∀q∈qs,ku I q.1.1 q.1.2)→(∀q∈qs,jK q.2.1 q.2.2)→qs≠[]→dS (ts++kQ qs) (ag 23 [] (a::fU qs))
inductive u2:List Tk→X→Prop
 |mk {ts s us e}:uH I ts s→dS us e→u2 (ts++(kw I eQ::us)) (ag 37 s [e])
inductive zo:List UInt8→List Tk→X→Prop
 |plain {w ts e} {ps:List TP}:dS ts e→(∀p∈ps,rk p.1 p.2)→zo w (kw I w::(ts++(kw I gj::kw I cw::(bq I cn ps++[kw I cd])))) (ag 16 [] [listed [ag 17 [] [cc,e]],listed (aD ps)])
 |guards {w} {qs:List (TP×TP)} {ps:List TP}:(∀q∈qs,dS q.1.1 q.1.2)→(∀q∈qs,dS q.2.1 q.2.2)→qs≠[]→(∀p∈ps,rk p.1 p.2)→zo w (ov I w qs++(kw I gj::kw I cw::(bq I cn ps++[kw I cd]))) (ag 16 [] [listed (AI qs),listed (aD ps)])
inductive rk:List Tk→X→Prop
 |mk {ts e us r}:dS ts e→zo eQ us r→rk (ts++us) (ag 15 [] [e,r])
inductive Eo:List Tk→X→Prop
 |mk {ts e us r}:dS ts e→zo dC us r→Eo (ts++us) (ag 29 [] [e,r])
inductive vO:List Tk→X→Prop
 |exp {ts e}:iQ ts e→vO ts e
 |gen {ts a us e}:iQ ts a→dS us e→vO (ts++(kw I Di::us)) (ag 40 [] [a,e])
 |slet {ps:List TP}:(∀p∈ps,rk p.1 p.2)→vO (kw I qa::kw I cw::(bq I cn ps++[kw I cd])) (ag 41 [] [listed (aD ps)])
end
end
def Y {α:Type}(x:PM α)(s:PS)(a:α)(s':PS):Prop:=x s=.error (-1)∨x s=.error 32∨x s=.ok (a,s')
section
variable {α β:Type} {s s1 s2:PS} {a:α} {b:β} {I:List UInt8→Bool} {w:List UInt8} {r:List Tk} {d:Int}
protected def Y.pure:Y (pure a:PM α) s a s:=.inr (.inr rfl)
protected def Y.bind {x:PM β}{f:β→PM α}(hx:Y x s b s1)(hf:Y (f b) s1 a s2):Y (x >>= f) s a s2:=by
 unfold Y;rw[bind_eq];rcases hx with h|h|h<;>rw[h]
 ·exact .inl rfl
 ·exact .inr (.inl rfl)
 ·exact hf
protected def Y.get {f:PS→PM α}(h:Y (f s) s a s2):Y (get >>= f) s a s2:=h
protected def Y.out:Y (out:PM α) s a s2:=.inl rfl
protected def Y.pos {c:Prop}[Decidable c]{x y:PM α}(hc:c)(h:Y x s a s2):Y (if c then x else y) s a s2:=by rw[if_pos hc];exact h
protected def Y.neg {c:Prop}[Decidable c]{x y:PM α}(hc:¬c)(h:Y y s a s2):Y (if c then x else y) s a s2:=by rw[if_neg hc];exact h
def Rz (w:List UInt8):(kw I w).kind=7∨(kw I w).kind=8:=by unfold kw;cases I w<;>simp
def dE {ws:List (List UInt8)}:bk ⟨kw I w::r,d⟩ ws=ws.contains w:=by
 have:=Rz (I:=I) w;simp only[bk,fa,List.getD_cons_zero];rw[show (kw I w).text=w from rfl];simp [this]
def w_ {ks:List Int}(h7:ks.contains 7=false)(h8:ks.contains 8=false):dH ⟨kw I w::r,d⟩ ks=false:=by
 simp only[dH,fa,List.getD_cons_zero];rcases Rz (I:=I) w with h|h<;>rw[h]<;>assumption
def u6 {k:Int}{t:List UInt8}{n:Int}{ws:List (List UInt8)}(h7:k≠7)(h8:k≠8):bk ⟨⟨k,t,n⟩::r,d⟩ ws=false:=by
 simp [bk,fa,h7,h8]
def F4 {k:Int}{t:List UInt8}{n:Int}{ks:List Int}:dH ⟨⟨k,t,n⟩::r,d⟩ ks=ks.contains k:=rfl
def uA {v:List UInt8}:lM ⟨kw I w::r,d⟩ v=[v].contains w:=by
 rw[lM,dE];simp [fa,kw]
def Y.step {t:Tk}:Y gC ⟨t::r,d⟩ t ⟨r,d⟩:=.inr (.inr rfl)
def Y.nA {k:Int}{t:List UInt8}{n:Int}:Y (jr k) ⟨⟨k,t,n⟩::r,d⟩ ⟨k,t,n⟩ ⟨r,d⟩:=by
 refine .inr (.inr ?_);unfold jr;rw[if_neg]
 ·rfl
 ·simp [dH,fa]
def Y.open_ (hw:w=bY∨w=eX∨w=cw){f:Tk→PM α}(h:Y (f (kw I w)) ⟨r,d+1⟩ a s2):Y (cA w >>= f) ⟨kw I w::r,d⟩ a s2:=by
 unfold Y;rw[bind_eq];have:cA w ⟨kw I w::r,d⟩=if d≥64 then .error 32 else .ok (kw I w,⟨r,d+1⟩):=by
  unfold cA;rw[if_neg (by rw[dE];simp),if_pos hw]
  rfl
 rw[this]
 by_cases hd:d≥64
 ·rw[if_pos hd];exact .inr (.inl rfl)
 ·rw[if_neg hd];exact h
def Y.shut (hw:w=bB∨w=iI∨w=cd):Y (cA w) ⟨kw I w::r,d+1⟩ (kw I w) ⟨r,d⟩:=by
 refine .inr (.inr ?_);unfold cA;rw[if_neg (by rw[dE];simp),if_neg (by rcases hw with rfl|rfl|rfl<;>decide),if_pos hw];show Except.ok (kw I w,(⟨r,d+1 - 1⟩:PS))=_;rw[show d+1 - 1=d by omega]
def Y.take (h1:¬(w=bY∨w=eX∨w=cw))(h2:¬(w=bB∨w=iI∨w=cd)):Y (cA w) ⟨kw I w::r,d⟩ (kw I w) ⟨r,d⟩:=by
 refine .inr (.inr ?_);unfold cA;rw[if_neg (by rw[dE];simp),if_neg h1,if_neg h2]
 rfl
def Y.no {f:Bool→PM α}(hw:bk s [w]=false)(h:Y (f false) s a s2):Y (dG w >>= f) s a s2:=by
 have:dG w s=.ok (false,s):=by unfold dG;rw[if_neg (by rw[hw];decide)]
 unfold Y;rw[bind_eq,this];exact h
def Y.yes {f:Bool→PM α}(h1:¬(w=bY∨w=eX∨w=cw))(h2:¬(w=bB∨w=iI∨w=cd))(h:Y (f true) ⟨r,d⟩ a s2):Y (dG w >>= f) ⟨kw I w::r,d⟩ a s2:=by
 have:dG w ⟨kw I w::r,d⟩=.ok (true,⟨r,d⟩):=by
  unfold dG;rw[if_pos (by rw[dE];simp),bind_eq];unfold cA;rw[if_neg (by rw[dE];simp),if_neg h1,if_neg h2]
  rfl
 unfold Y;rw[bind_eq,this];exact h
def Y.B7 {f:Bool→PM α}(hw:w=bY∨w=eX∨w=cw)(h:Y (f true) ⟨r,d+1⟩ a s2):Y (dG w >>= f) ⟨kw I w::r,d⟩ a s2:=by
 have e:dG w ⟨kw I w::r,d⟩=if d≥64 then .error 32 else .ok (true,⟨r,d+1⟩):=by
  unfold dG;rw[if_pos (by rw[dE];simp),bind_eq];have:cA w ⟨kw I w::r,d⟩=if d≥64 then .error 32 else .ok (kw I w,⟨r,d+1⟩):=by
   unfold cA;rw[if_neg (by rw[dE];simp),if_pos hw]
   rfl
  rw[this]
  by_cases hd:d≥64
  ·rw[if_pos hd,if_pos hd]
  ·rw[if_neg hd,if_neg hd];rfl
 unfold Y;rw[bind_eq,e]
 by_cases hd:d≥64
 ·rw[if_pos hd];exact .inr (.inl rfl)
 ·rw[if_neg hd];exact h
end
section
variable {I:List UInt8→Bool} {s:PS} {w:List UInt8} {r:List Tk} {d:Int}
def kS (s:PS):Bool:=ga s||bk s [u1,qa,uV,ua,uh]
def yN {ws:List (List UInt8)}(h:bk s ws=true):((fa s 0).kind=7∨(fa s 0).kind=8)∧(fa s 0).text∈ws:=by
 simpa [bk] using h
def Ea (h:(fa s 0).text≠w∨¬((fa s 0).kind=7∨(fa s 0).kind=8)):bk s [w]=false:=by
 cases h1:bk s [w] with
 |false=>rfl
 |true=>
  obtain⟨h2,h3⟩:=yN h1;rcases h with h|h
  ·exact absurd (by simpa using h3) h
  ·exact absurd h2 h
def vr (h:[lU,bY,eX].contains w=true):ga ⟨kw I w::r,d⟩=true:=by
 simp only[ga,dE,h,Bool.or_true]
def Dl {k:Int}{t:List UInt8}{n:Int}(h:[1,2,5,6].contains k=true):ga ⟨⟨k,t,n⟩::r,d⟩=true:=by
 simp only[ga,F4,h,Bool.true_or]
def QT (h:kS s=true):(fa s 0).kind∈[1,2,5,6]∨((fa s 0).kind=7∨(fa s 0).kind=8)∧(fa s 0).text∈[lU,bY,eX,u1,qa,uV,ua,uh]:=by
 simp only[kS,ga,fW] at h;rcases h with (h|h)|h
 ·left;simpa [dH] using h
 ·obtain⟨h1,h2⟩:=yN h;right;refine⟨h1,?_⟩;simp only[iS,jD,or_false] at h2 ⊢;rcases h2 with h|h|h<;>simp [h]
 ·obtain⟨h1,h2⟩:=yN h;right;refine⟨h1,?_⟩;simp only[iS,jD,or_false] at h2 ⊢;rcases h2 with h|h|h|h|h<;>simp [h]
def rE (h:kS s=true)(hw:[lU,bY,eX,u1,qa,uV,ua,uh].contains w=false):bk s [w]=false:=by
 refine Ea ?_;rcases QT h with h1| ⟨_,h2⟩
 ·right;simp only[iS,jD,or_false] at h1;omega
 ·left;intro e;rw[e] at h2;rw[List.contains_iff_mem.2 h2] at hw;cases hw
def NX (h:kS s=true):jz s=false:=by
 have h1:bk s [my]=false:=rE h ai;have h2:dH s [3,4]=false:=by
  cases h3:dH s [3,4] with
  |false=>rfl
  |true=>
   have h3:(fa s 0).kind∈[3,4]:=by simpa [dH] using h3
   rcases QT h with h1| ⟨h1,_⟩<;>simp only[iS,jD,or_false] at h1 h3<;>omega
 simp [jz,h1,h2]
def wL (h:ga s=true):kS s=true:=by simp [kS,h]
def acK (h:ga s=true):(fa s 0).kind∈[1,2,5,6]∨((fa s 0).kind=7∨(fa s 0).kind=8)∧(fa s 0).text∈[lU,bY,eX]:=by
 simp only[ga,fW] at h;rcases h with h|h
 ·left;simpa [dH] using h
 ·exact .inr (yN h)
def wG (h:ga s=true)(hw:[lU,bY,eX].contains w=false):bk s [w]=false:=by
 refine Ea ?_;rcases acK h with h1| ⟨_,h2⟩
 ·right;simp only[iS,jD,or_false] at h1;omega
 ·left;intro e;rw[e] at h2;rw[List.contains_iff_mem.2 h2] at hw;cases hw
def apG (h:jz s=true):(fa s 0).kind∈[3,4]∨((fa s 0).kind=7∨(fa s 0).kind=8)∧(fa s 0).text∈[my]:=by
 simp only[jz,fW] at h;rcases h with h|h
 ·left;simpa [dH] using h
 ·exact .inr (yN h)
def HG (h:jz s=true)(hw:[my].contains w=false):bk s [w]=false:=by
 refine Ea ?_;rcases apG h with h1| ⟨_,h2⟩
 ·right;simp only[iS,jD,or_false] at h1;omega
 ·left;intro e;rw[e] at h2;rw[List.contains_iff_mem.2 h2] at hw;cases hw
def apm (h:jz s=true):ga s=false:=by
 cases h1:ga s with
 |false=>rfl
 |true=>rw[NX (wL h1)] at h;cases h
def Ly (h:bk s [w]=false):lM s w=false:=by simp [lM,h]
structure BW (r:List Tk):Prop where
 aj:bk ⟨r,0⟩ [tG]=false
 cu:lM ⟨r,0⟩ cw=false
structure xW (r:List Tk):Prop extends BW r where
 atom:ga ⟨r,0⟩=false
structure mr (r:List Tk):Prop extends xW r where
 op:jz ⟨r,0⟩=false
def jP (h:[tG,cw,lU,bY,eX,my].contains w=false):mr (kw I w::r):=by
 have hn:∀v,v∈[tG,cw,lU,bY,eX,my]→[v].contains w=false:=fun v hv=>by
  cases h1:[v].contains w with
  |false=>rfl
  |true=>
   have:w=v:=by simpa using h1
   rw[this,List.contains_iff_mem.2 hv] at h;cases h
 refine⟨⟨⟨?_,?_⟩,?_⟩,?_⟩
 ·rw[dE];exact hn _ aw
 ·rw[uA];exact hn _ aw
 ·simp only[ga,w_ (ks:=[1,2,5,6]) rfl rfl,dE,pj]
  cases h1:[lU,bY,eX].contains w with
  |false=>rfl
  |true=>
   have h2:=List.contains_iff_mem.1 h1;have h3:w∈[tG,cw,lU,bY,eX,my]:=by
    simp only[iS,jD,or_false] at h2 ⊢;rcases h2 with h|h|h<;>simp [h]
   rw[List.contains_iff_mem.2 h3] at h;cases h
 ·simp only[jz,w_ (ks:=[3,4]) rfl rfl,dE,pj];exact hn _ aw
def aju (h:ga ⟨r,d⟩=true):BW r:=⟨wG (s:=⟨r,d⟩) h ai,Ly (wG (s:=⟨r,d⟩) h ai)⟩
def Yx (h:jz ⟨r,d⟩=true):xW r:=⟨⟨HG (s:=⟨r,d⟩) h ai,Ly (HG (s:=⟨r,d⟩) h ai)⟩,apm (s:=⟨r,d⟩) h⟩
def yF {ts:List Tk}{e:X}(h:iQ I ts e):ga ⟨ts++r,d⟩=true:=by
 cases h with
 |var h=>cases h<;>first|exact Dl ai|exact vr ai
 |con h=>cases h<;>first|exact Dl ai|exact vr ai
 |int=>exact Dl ai
 |str=>exact Dl ai
 |eas _=>exact Dl ai
 |wild=>exact vr ai
 |lst _=>exact vr ai
 |paren _=>exact vr ai
 |tup _ _=>exact vr ai
 |left _ _=>exact vr ai
 |right _ _=>exact vr ai
def aaZ {ts:List Tk}{s:List UInt8}(h:rC I ts s):ga ⟨ts++r,d⟩=true:=yF (.con h)
def wW {ts:List Tk}{e:X}(h:jK I ts e):ga ⟨ts++r,d⟩=true:=by
 cases h with
 |base h=>exact yF h
 |make h _=>rw[cC];exact aaZ h
 |put _ _ _ _=>exact vr ai
def UU (h:[u1,qa,uV,ua,uh].contains w=true):kS ⟨kw I w::r,d⟩=true:=by
 simp only[kS,dE,h,Bool.or_true]
def arx {ts:List Tk}{e:X}(h:pJ I ts e):kS ⟨ts++r,d⟩=true:=by
 cases h with
 |atoms h _=>rw[cC];exact wL (wW h)
 |_=>exact UU ai
def CZ {ts:List Tk}{e:X}(h:dS I ts e):kS ⟨ts++r,d⟩=true:=by
 cases h with
 |opnd h=>exact arx h
 |ops h _ _ _=>rw[cC];exact wL (wW h)
def zL {ts:List Tk}{o:X}(h:ku I ts o):jz ⟨ts++r,d⟩=true:=by
 cases h with
 | @sign s k n h=>
  have:[3,4].contains k=true:=List.contains_iff_mem.2 (by rcases h with h|h<;>simp [h.1]);simp only[jz,ck,cD,F4,this,Bool.true_or]
 |tick _=>simp only[jz,ck,dE];simp
def Y.operator {ts:List Tk}{o:X}(h:ku I ts o):Y rj ⟨ts++r,d⟩ o ⟨r,d⟩:=by
 unfold rj
 cases h with
 | @sign s k n h=>
  refine Y.no ?_ (Y.neg ai (Y.get (Y.pos ?_ (Y.step.bind ?_))))
  ·exact u6 V V
  ·show [3,4].contains k=true;exact List.contains_iff_mem.2 (by rcases h with h|h<;>simp [h.1])
  ·rcases h with ⟨rfl,rfl⟩| ⟨rfl,rfl⟩<;>exact Y.pure
 | @tick s k n h=>
  refine Y.yes ai ai (Y.pos rfl (Y.get (Y.pos ?_ (Y.step.bind ((Y.take ai ai).bind ?_)))))
  ·show [1,2].contains k=true;exact List.contains_iff_mem.2 (by rcases h with h|h<;>simp [h.1])
  ·rcases h with ⟨rfl,rfl⟩| ⟨rfl,rfl⟩<;>exact Y.pure
def Y.yo {ts:List Tk}{t:List UInt8}(h:uH I ts t):Y wa ⟨ts++r,d⟩ t ⟨r,d⟩:=by
 unfold wa uK
 cases h with
 |plain=>
  have e:bk ⟨[⟨1,t,0⟩]++r,d⟩ [bY]=false:=u6 ai ai;exact Y.get (Y.neg (by rw[e];decide) (Y.nA.bind Y.pure))
 |op=>exact Y.get (Y.pos (by simp only[ck,dE];decide) (Y.open_ (.inl rfl) (Y.nA.bind ((Y.shut (.inl rfl)).bind Y.pure))))
def NP {ts:List Tk}{t:List UInt8}(h:uH I ts t):ga ⟨ts++r,d⟩=true:=yF (.var h)
def Y.lP {one:PM X}{n:Nat}:∀(k:Nat) (ps:List TP),(∀p∈ps,∀r d,mr r→Y one ⟨p.1++r,d⟩ p.2 ⟨r,d⟩)→bk ⟨r,0⟩ [bD]=false→mr r→
  Y (lP one k) ⟨ju I bD ps++r,d⟩ (aD ps) ⟨r,d⟩
 |0,_,_,_,_=>Y.out
 |k+1,[],_,hr,_=>by
  unfold Go.Proofs.YtdfccaonglmgpaaGreatDoor.lP;exact Y.no hr (Y.neg ai Y.pure)
 |k+1,p::ps,h,hr,hS=>by
  unfold Go.Proofs.YtdfccaonglmgpaaGreatDoor.lP;refine Y.yes ai ai (Y.pos rfl ?_);show Y _ ⟨(p.1++ju I bD ps)++r,d⟩ _ _;rw[cC];refine (h p aw _ _ ?_).bind ((Y.lP (n:=n) k ps (fun q hq=>h q (by simp [hq])) hr hS).bind Y.pure)
  cases ps with
  |nil=>exact hS
  |cons q ps=>exact jP ai
def Y.uc {one:PM X}{k:Nat}{ps:List TP}(h0:ps≠[])(h:∀p∈ps,∀r d,mr r→Y one ⟨p.1++r,d⟩ p.2 ⟨r,d⟩)(hr:bk ⟨r,0⟩ [bD]=false)(hS:mr r):
  Y (lX one k) ⟨bq I bD ps++r,d⟩ (aD ps) ⟨r,d⟩:=by
 cases ps with
 |nil=>exact absurd rfl h0
 |cons p ps=>
  unfold lX;rw[bq,cC];refine (h p aw _ _ ?_).bind ((Y.lP (n:=0) k ps (fun q hq=>h q (by simp [hq])) hr hS).bind Y.pure)
  cases ps with
  |nil=>exact hS
  |cons q ps=>exact jP ai
def Y.Xx (h:bk ⟨r,0⟩ [cn]=false):∀k,Y (oZ k) ⟨r,d⟩ () ⟨r,d⟩
 |0=>Y.out
 |k+1=>by unfold oZ;exact Y.no h (Y.neg ai Y.pure)
def Y.aoI (h:bk ⟨r,0⟩ [cn]=false):∀k,Y (oZ k) ⟨kw I cn::r,d⟩ () ⟨r,d⟩
 |0=>Y.out
 |k+1=>by unfold oZ;exact Y.yes ai ai (Y.pos rfl (Y.Xx h k))
def Y.ml {β:Type}{b:β}:Y (ml 0 b) ⟨kw I cd::r,d+1⟩ b ⟨r,d⟩:=by
 unfold Go.Proofs.YtdfccaonglmgpaaGreatDoor.ml;exact Y.get (Y.neg (by simp [fa,kw]) ((Y.shut (.inr (.inr rfl))).bind Y.pure))
def pC (I:List UInt8→Bool)(r:List Tk):Prop:=∃r',r=kw I cn::r'∨r=kw I cd::r'
def zV (I:List UInt8→Bool)(w:List UInt8):List (List Tk)→List Tk
 | []=>[]
 |t::l=>kw I w::(t++zV I w l)
def sw (I:List UInt8→Bool)(w:List UInt8):List (List Tk)→List Tk
 | []=>[]
 |t::l=>t++zV I w l
def Ve:∀ps:List TP,ju I w ps=zV I w (ps.map Prod.fst)
 | []=>rfl
 |p::ps=>by rw[ju,bf,zV,Ve ps]
def YV:∀ps:List TP,bq I w ps=sw I w (ps.map Prod.fst)
 | []=>rfl
 |p::ps=>by rw[bq,bf,sw,Ve ps]
inductive Steps (I:List UInt8→Bool){β:Type}(one:β→PM β):β→List (List Tk)→β→Prop
 |nil {b}:Steps I one b [] b
 |cons {b b1 b2 t l}:(∀r d,pC I r→Y (one b) ⟨t++r,d⟩ b1 ⟨r,d⟩)→(∀r d,bk ⟨t++r,d⟩ [cn]=false∧bk ⟨t++r,d⟩ [cd]=false)→Steps I one b1 l b2→Steps I one b (t::l) b2
def Y.kO {β:Type}{one:β→PM β}:∀(k:Nat) {l:List (List Tk)} {b b':β},Steps I one b l b'→
  Y (kO one 0 k b) ⟨sw I cn l++(kw I cd::r),d+1⟩ b' ⟨r,d⟩∧(l≠[]→Y (kO one 0 k b) ⟨kw I cn::(sw I cn l++(kw I cd::r)),d+1⟩ b' ⟨r,d⟩)
 |0,_,_,_,_=>⟨Y.out,fun _=>Y.out⟩
 |k+1,l,b,b',h=>by
  have hs:bk ⟨sw I cn l++(kw I cd::r),0⟩ [cn]=false:=by
   cases h with
   |nil=>rw[sw,cD,dE];decide
   |cons _ h2 _=>rw[sw,cC];exact (h2 _ _).1
  have body:Y (get >>= fun s=>if bk s [cd]=true then Go.Proofs.YtdfccaonglmgpaaGreatDoor.ml 0 b else do
      let b'←one b
      if bk (←get) [cn] then Go.Proofs.YtdfccaonglmgpaaGreatDoor.kO one 0 k b' else Go.Proofs.YtdfccaonglmgpaaGreatDoor.ml 0 b') ⟨sw I cn l++(kw I cd::r),d+1⟩ b' ⟨r,d⟩:=by
   cases h with
   |nil=>exact Y.get (Y.pos (by rw[sw,cD,dE];decide) Y.ml)
   | @cons _ b1 _ t l' h1 h2 h3=>
    rw[sw,cC];refine Y.get (Y.neg (by rw[(h2 _ _).2];decide) ((h1 _ _ ?_).bind (Y.get ?_)))
    ·cases l' with
     |nil=>exact⟨r,.inr rfl⟩
     |cons u l'=>exact⟨_,.inl rfl⟩
    ·cases l' with
     |nil=>
      cases h3;exact Y.neg (by rw[zV,cD,dE];decide) Y.ml
     |cons u l'=>
      refine Y.pos (by rw[zV,ck,dE];decide) ?_;exact (Y.kO k h3).2 aw
  unfold Go.Proofs.YtdfccaonglmgpaaGreatDoor.kO;exact⟨(Y.Xx hs k).bind body,fun _=>(Y.aoI hs k).bind body⟩
def Y.block {β:Type}{one:β→PM β}{k:Nat}{l:List (List Tk)}{b b':β}(h:Steps I one b l b'):Y (px one k b) ⟨kw I cw::(sw I cn l++(kw I cd::r)),d⟩ b' ⟨r,d⟩:=by
 unfold px;exact Y.open_ (.inr (.inr rfl)) (Y.kO k h).1
def SQ {one:PM X}:∀{ps:List TP} {acc:List X},(∀p∈ps,∀r d,pC I r→Y one ⟨p.1++r,d⟩ p.2 ⟨r,d⟩)→(∀p∈ps,∀r d,kS ⟨p.1++r,d⟩=true)→Steps I (snoc one) acc (ps.map Prod.fst) (acc++aD ps)
 | [],acc,_,_=>by simp [aD];exact .nil
 |p::ps,acc,h,hf=>by
  refine .cons (b1:=acc++[p.2]) (fun r d hr=>?_) (fun r d=>⟨rE (hf p aw r d) ai,rE (hf p aw r d) ai⟩) ?_
  ·unfold snoc;exact (h p aw r d hr).bind Y.pure
  ·rw[show acc++aD (p::ps)=(acc++[p.2])++aD ps by simp [aD]];exact SQ (fun q hq=>h q (by simp [hq])) fun q hq=>hf q (by simp [hq])
def Y.gJ {one:PM X}{k:Nat}{ps:List TP}(h:∀p∈ps,∀r d,pC I r→Y one ⟨p.1++r,d⟩ p.2 ⟨r,d⟩)(hf:∀p∈ps,∀r d,kS ⟨p.1++r,d⟩=true):
  Y (gJ one k) ⟨kw I cw::(bq I cn ps++(kw I cd::r)),d⟩ (aD ps) ⟨r,d⟩:=by
 unfold Go.Proofs.YtdfccaonglmgpaaGreatDoor.gJ;rw[YV];exact Y.block (by simpa using SQ (acc:=[]) h hf)
end
section
variable {I:List UInt8→Bool}
def eG (a b c:List Tk):a++b++c=a++(b++c):=cC a b c
def W5 {r:List Tk}{d:Int}{w:List UInt8}{ts:List Tk}{e:X}(h:iQ I ts e)(hw:[lU,bY,eX].contains w=false):bk ⟨ts++r,d⟩ [w]=false:=wG (yF h) hw
def P8 {ps:List TP}{r:List Tk}(h:∀p∈ps,jK I p.1 p.2)(hr:xW r):BW (fy ps++r):=by
 cases ps with
 |nil=>exact hr.toBW
 |cons p ps=>rw[fy,eG];exact aju (d:=0) (wW (h p aw))
def H8 {qs:List (TP×TP)}{r:List Tk}(h:∀q∈qs,ku I q.1.1 q.1.2)(hr:mr r):xW (kQ qs++r):=by
 cases qs with
 |nil=>exact hr.toxW
 |cons q qs=>rw[kQ,eG];exact Yx (d:=0) (zL (h q aw))
def KD {ps:List TP}{r:List Tk}(hr:mr r):mr (ju I bD ps++r):=by
 cases ps with
 |nil=>exact hr
 |cons p ps=>exact jP ai
inductive nT (I:List UInt8→Bool):List Tk→X→Prop
 |unit:nT I [] (ag 19 ji [])
 |pair:nT I [kw I bD] (ag 19 gY [])
 |triple:nT I [kw I bD,kw I bD] (ag 19 gM [])
 |var {s}:nT I [⟨3,s,0⟩] (ag 18 s [])
 |con {s}:nT I [⟨4,s,0⟩] (ag 19 s [])
 |exp {ts e} {ps:List TP}:dS I ts e→(∀p∈ps,dS I p.1 p.2)→ps.length≤2→nT I (ts++ju I bD ps) (if ps=[] then e else ag 31 [] (e::aD ps))
 |left {ts a us o}:iQ I ts a→ku I us o→nT I (ts++us) (ag 33 [] [a,o])
 |right {ts a us o}:ku I us o→dS I ts a→nT I (us++ts) (ag 34 [] [o,a])
inductive xg (I:List UInt8→Bool):List Tk→X→Prop
 |var {s}:xg I [⟨1,s,0⟩] (ag 18 s [])
 |con {s}:xg I [⟨2,s,0⟩] (ag 19 s [])
 |int {n}:xg I [⟨5,[],n⟩] (.mk 20 [] n [])
 |str {s}:xg I [⟨6,s,0⟩] (ag 21 s [])
 |wild:xg I [kw I lU] (ag 38 [] [])
 |eas {s ts a}:iQ I ts a→xg I (⟨1,s,0⟩::kw I tG::ts) (ag 39 s [a])
 |lst {ps:List TP}:(∀p∈ps,dS I p.1 p.2)→xg I (kw I eX::(bq I bD ps++[kw I iI])) (ag 32 [] (aD ps))
def amS {ts:List Tk}{e:X}(h:iQ I ts e):xg I ts e∨∃us,ts=kw I bY::(us++[kw I bB])∧nT I us e:=by
 cases h with
 |var h=>cases h with
  |plain=>exact .inl .var
  |op=>exact .inr ⟨_,rfl,.var⟩
 |con h=>cases h with
  |plain=>exact .inl .con
  |op=>exact .inr ⟨_,rfl,.con⟩
  |unit=>exact .inr ⟨[],rfl,.unit⟩
  |pair=>exact .inr ⟨_,rfl,.pair⟩
  |triple=>exact .inr ⟨_,rfl,.triple⟩
 |int=>exact .inl .int
 |str=>exact .inl .str
 |wild=>exact .inl .wild
 |eas h=>exact .inl (.eas h)
 |lst h=>exact .inl (.lst h)
 | @paren ts e h=>exact .inr ⟨ts,rfl,by simpa [ju] using nT.exp (ps:=[]) h aw aw⟩
 | @tup ps h hl=>
  match ps,hl with
  |p::q::ps,hl=>
   refine .inr ⟨_,rfl,?_⟩;have:=nT.exp (ps:=q::ps) (h p aw) (fun x hx=>h x (by simp [hx])) (by simp only[bg] at hl ⊢;omega)
   rwa [if_neg aw] at this
 |left h1 h2=>exact .inr ⟨_,by rw[←cC],.left h1 h2⟩
 |right h1 h2=>exact .inr ⟨_,by rw[←cC],.right h1 h2⟩
structure GK (I:List UInt8→Bool)(k:Nat):Prop where
 brk:∀{ts e} r d,nT I ts e→Y (oq k) ⟨kw I bY::(ts++(kw I bB::r)),d⟩ e ⟨r,d⟩
 con:∀{ts s} r d,rC I ts s→Y (oq k) ⟨ts++r,d⟩ (ag 19 s []) ⟨r,d⟩
 base:∀{ts e} r d,iQ I ts e→BW r→Y (oq k) ⟨ts++r,d⟩ e ⟨r,d⟩
 recs:∀n r d,lM ⟨r,0⟩ cw=false→Y (oS k n) ⟨r,d⟩ n ⟨r,d⟩
 aio:∀{ps:List TP} s r d,(∀p∈ps,u2 I p.1 p.2)→lM ⟨r,0⟩ cw=false→Y (oS k (ag 19 s [])) ⟨kw I cw::(bq I bD ps++(kw I cd::r)),d⟩ (ag 35 s (aD ps)) ⟨r,d⟩
 acv:∀{ps:List TP} a r d,a.kind≠19→ps≠[]→(∀p∈ps,u2 I p.1 p.2)→lM ⟨r,0⟩ cw=false→Y (oS k a) ⟨kw I cw::(bq I bD ps++(kw I cd::r)),d⟩ (ag 36 [] (a::aD ps)) ⟨r,d⟩
 atom:∀{ts e} r d,jK I ts e→BW r→Y (rh k) ⟨ts++r,d⟩ e ⟨r,d⟩
 atomsl:∀{ps:List TP} r d,(∀p∈ps,jK I p.1 p.2)→xW r→Y (rz k) ⟨fy ps++r,d⟩ (aD ps) ⟨r,d⟩
 atoms:∀{ts a} {ps:List TP} r d,jK I ts a→(∀p∈ps,jK I p.1 p.2)→xW r→Y (pM k) ⟨ts++(fy ps++r),d⟩ (a::aD ps) ⟨r,d⟩
 operand:∀{ts e} r d,pJ I ts e→mr r→Y (py k) ⟨ts++r,d⟩ e ⟨r,d⟩
 operandA:∀{ts e} r d,jK I ts e→xW r→Y (py k) ⟨ts++r,d⟩ e ⟨r,d⟩
 ops:∀{qs:List (TP×TP)} r d,(∀q∈qs,ku I q.1.1 q.1.2)→(∀q∈qs,jK I q.2.1 q.2.2)→mr r→Y (s9 k) ⟨kQ qs++r,d⟩ (fU qs) ⟨r,d⟩
 exp:∀{ts e} r d,dS I ts e→mr r→Y (iM k) ⟨ts++r,d⟩ e ⟨r,d⟩
 field:∀{ts e} r d,u2 I ts e→mr r→Y (s_ k) ⟨ts++r,d⟩ e ⟨r,d⟩
 expc:∀{ps:List TP} m r d,(∀p∈ps,dS I p.1 p.2)→ps.length≤m→Y (o0 k m) ⟨ju I bD ps++(kw I bB::r),d⟩ (aD ps) ⟨kw I bB::r,d⟩
 innerl:∀{qs:List (TP×TP)} {ps:List TP} acc r d,(∀q∈qs,ku I q.1.1 q.1.2)→(∀q∈qs,jK I q.2.1 q.2.2)→(∀p∈ps,dS I p.1 p.2)→ps.length≤2→
  Y (qX k acc) ⟨kQ qs++(ju I bD ps++(kw I bB::r)),d⟩ (if ps=[] then kM (acc++fU qs) else ag 31 [] (kM (acc++fU qs)::aD ps)) ⟨kw I bB::r,d⟩
 abF:∀{us o} a r d,ku I us o→Y (qX k [a]) ⟨us++(kw I bB::r),d⟩ (ag 33 [] [a,o]) ⟨kw I bB::r,d⟩
 inner:∀{ts e} r d,nT I ts e→Y (tY k) ⟨ts++(kw I bB::r),d⟩ e ⟨kw I bB::r,d⟩
 eq:∀{ts e} r d,rk I ts e→Y (pd k) ⟨ts++r,d⟩ e ⟨r,d⟩
 alt:∀{ts e} r d,Eo I ts e→Y (vq k) ⟨ts++r,d⟩ e ⟨r,d⟩
 guards:∀{qs:List (TP×TP)} w r d,(w=eQ∨w=dC)→(∀q∈qs,dS I q.1.1 q.1.2)→(∀q∈qs,dS I q.2.1 q.2.2)→Y (tL k w) ⟨ov I w qs++(kw I gj::r),d⟩ (AI qs) ⟨kw I gj::r,d⟩
 rhs:∀{ts e} w r d,(w=eQ∨w=dC)→zo I w ts e→Y (qo k w) ⟨ts++r,d⟩ e ⟨r,d⟩
 apE:∀n r d,pC I r→Y (pT k n) ⟨r,d⟩ n ⟨r,d⟩
 aeJ:∀{ts e} n r d,dS I ts e→pC I r→Y (pT k n) ⟨kw I Di::(ts++r),d⟩ (ag 40 [] [n,e]) ⟨r,d⟩
 stmt:∀{ts e} r d,vO I ts e→pC I r→Y (uW k) ⟨ts++r,d⟩ e ⟨r,d⟩
def Ue {r:List Tk}(h:pC I r):mr r:=by
 obtain⟨r',rfl|rfl⟩:=h<;>exact jP ai
def D_ {r:List Tk}{d:Int}{w:List UInt8}(h:pC I r)(hw:[cn,cd].contains w=false):bk ⟨r,d⟩ [w]=false:=by
 have h1:∀v,v∈[cn,cd]→[w].contains v=false:=fun v hv=>by
  cases h2:[w].contains v with
  |false=>rfl
  |true=>
   have:v=w:=by simpa using h2
   rw[←this,List.contains_iff_mem.2 hv] at hw;cases hw
 obtain⟨r',rfl|rfl⟩:=h<;>rw[dE]<;>exact h1 _ aw
def Gu {ts:List Tk}{e:X}{r:List Tk}{d:Int}(h:rk I ts e):kS ⟨ts++r,d⟩=true:=by
 cases h with
 |mk h _=>rw[eG];exact CZ h
def aol {ts:List Tk}{e:X}{r:List Tk}{d:Int}(h:Eo I ts e):kS ⟨ts++r,d⟩=true:=by
 cases h with
 |mk h _=>rw[eG];exact CZ h
def aes {ts:List Tk}{e:X}{r:List Tk}{d:Int}(h:vO I ts e):kS ⟨ts++r,d⟩=true:=by
 cases h with
 |exp h=>exact wL (yF h)
 |gen h _=>rw[eG];exact wL (yF h)
 |slet _=>exact UU ai
def ap2 {r:List Tk}:mr (kw I cd::r):=jP ai
def ahL {ts:List Tk}{e:X}{r:List Tk}{d:Int}(h:u2 I ts e):ga ⟨ts++r,d⟩=true:=by
 cases h with
 |mk h _=>rw[eG];exact NP h
def gK:∀k,GK I k
 |0=>by
  constructor
  all_goals intros
  all_goals first
   | (unfold pd;exact Y.out)| (unfold tL;exact Y.out)| (unfold qo;exact Y.out)| (unfold iM;exact Y.out)| (unfold s9;exact Y.out)
   | (unfold py;exact Y.out)| (unfold vq;exact Y.out)| (unfold pT;exact Y.out)| (unfold uW;exact Y.out)| (unfold pM;exact Y.out)
   | (unfold rz;exact Y.out)| (unfold s_;exact Y.out)| (unfold rh;exact Y.out)| (unfold oS;exact Y.out)| (unfold oq;exact Y.out)
   | (unfold o0;exact Y.out)| (unfold tY;exact Y.out)| (unfold qX;exact Y.out)
 |k+1=>by
  have K:=gK k;have flds:∀{ps:List TP} r d,ps≠[]→(∀p∈ps,u2 I p.1 p.2)→Y (lX (s_ k) k) ⟨bq I bD ps++(kw I cd::r),d⟩ (aD ps) ⟨kw I cd::r,d⟩:=fun r d h0 h=>
   Y.uc h0 (fun p hp r d hr=>K.field r d (h p hp) hr) (by rw[dE];decide) ap2
  have recEnd:∀r d,Y tN ⟨kw I cd::r,d+1⟩ () ⟨r,d⟩:=fun r d=>by
   unfold tN;exact Y.get (Y.pos (by rw[uA];decide) ((Y.shut (.inr (.inr rfl))).bind Y.pure))
  have kD:∀{ps:List TP} r d,(∀p∈ps,rk I p.1 p.2)→Y (gJ (pd k) k) ⟨kw I cw::(bq I cn ps++(kw I cd::r)),d⟩ (aD ps) ⟨r,d⟩:=fun r d h=>
   Y.gJ (fun p hp r d _=>K.eq r d (h p hp)) fun p hp r d=>Gu (h p hp)
  have of_:∀{w:List UInt8} {r:List Tk} {d:Int} (j:Int),j≠7→j≠8→¬dH ⟨kw I w::r,d⟩ [j]=true:=fun j h7 h8=>by
   rw[w_ (by simp;exact fun h=>h7 h.symm) (by simp;exact fun h=>h8 h.symm)];decide
  have on_:∀{w v:List UInt8} {r:List Tk} {d:Int},[v].contains w=false→¬bk ⟨kw I w::r,d⟩ [v]=true:=fun h=>by rw[dE,h];decide
  have ew:∀{w v:List UInt8} {r:List Tk} {d:Int},[v].contains w=false→bk ⟨kw I w::r,d⟩ [v]=false:=fun h=>by rw[dE,h]
  have of2:∀{i:Int} {s:List UInt8} {n:Int} {r:List Tk} {d:Int} (j:Int),i≠j→¬dH ⟨⟨i,s,n⟩::r,d⟩ [j]=true:=fun j h=>by
   rw[F4];simp [h]
  have brk:∀{ts:List Tk} {e:X} (r:List Tk) (d:Int),nT I ts e→Y (oq (k+1)) ⟨kw I bY::(ts++(kw I bB::r)),d⟩ e ⟨r,d⟩:=fun r d h=>by
   unfold oq;refine Y.get (Y.neg (of_ _ ai ai) (Y.get (Y.neg (of_ _ ai ai) (Y.get (Y.neg (of_ _ ai ai) (Y.get (Y.neg (of_ _ ai ai) ?_)))))));refine Y.no (ew ai) (Y.neg ai (Y.no (ew ai) (Y.neg ai (Y.open_ (.inl rfl) ?_))));exact (K.inner r (d+1) h).bind ((Y.shut (.inl rfl)).bind Y.pure)
  have con:∀{s:List UInt8} (r:List Tk) (d:Int),Y (oq (k+1)) ⟨⟨2,s,0⟩::r,d⟩ (ag 19 s []) ⟨r,d⟩:=fun r d=>by
   unfold oq;exact Y.get (Y.neg (of2 _ ai) (Y.get (Y.pos rfl (Y.step.bind Y.pure))))
  constructor
  ·exact brk
  ·intro ts s r d h
   cases h with
   |plain=>exact con r d
   |op=>exact brk r d .con
   |unit=>exact brk r d .unit
   |pair=>exact brk r d .pair
   |triple=>exact brk r d .triple
  ·intro ts e r d h hr;have h':=amS h;clear h;rcases h' with h| ⟨us,rfl,h⟩
   ·unfold oq
    cases h with
    |var=>exact Y.get (Y.pos rfl (Y.step.bind (Y.no hr.aj (Y.neg ai Y.pure))))
    |con=>exact Y.get (Y.neg (of2 _ ai) (Y.get (Y.pos rfl (Y.step.bind Y.pure))))
    |int=>exact Y.get (Y.neg (of2 _ ai) (Y.get (Y.neg (of2 _ ai) (Y.get (Y.pos rfl (Y.step.bind Y.pure))))))
    |str=>exact Y.get (Y.neg (of2 _ ai) (Y.get (Y.neg (of2 _ ai) (Y.get (Y.neg (of2 _ ai) (Y.get (Y.pos rfl (Y.step.bind Y.pure))))))))
    |wild=>
     refine Y.get (Y.neg (of_ _ ai ai) (Y.get (Y.neg (of_ _ ai ai) (Y.get (Y.neg (of_ _ ai ai) (Y.get (Y.neg (of_ _ ai ai) ?_)))))));exact Y.yes ai ai (Y.pos rfl Y.pure)
    | @eas s ts a h=>exact Y.get (Y.pos rfl (Y.step.bind (Y.yes ai ai (Y.pos rfl (Y.bind (K.atom r d (.base h) hr) Y.pure)))))
    | @lst ps h=>
     refine Y.get (Y.neg (of_ _ ai ai) (Y.get (Y.neg (of_ _ ai ai) (Y.get (Y.neg (of_ _ ai ai) (Y.get (Y.neg (of_ _ ai ai) ?_)))))));refine Y.no (ew ai) (Y.neg ai (Y.B7 (.inr (.inl rfl)) (Y.pos rfl ?_)));show Y _ ⟨bq I bD ps++[kw I iI]++r,d+1⟩ _ _;rw[eG];refine Y.bind (b:=aD ps) (s1:=⟨kw I iI::r,d+1⟩) ?_ ((Y.shut (.inr (.inl rfl))).bind Y.pure)
     cases ps with
     |nil=>exact Y.get (Y.pos (by rw[bq,cD,List.singleton_append,dE];decide) Y.pure)
     |cons p ps=>
      refine Y.get (Y.neg ?_ ?_)
      ·rw[bq,eG,rE (CZ (h p aw)) ai];decide
      ·exact Y.uc aw (fun q hq r d hr=>K.exp r d (h q hq) hr) (ew ai) (jP ai)
   ·have e:kw I bY::(us++[kw I bB])++r=kw I bY::(us++(kw I bB::r)):=aw
    rw[e];exact brk r d h
  ·intro n r d hr;unfold oS;have hr:lM ⟨r,d⟩ cw=false:=hr;exact Y.get (Y.neg (by rw[hr];decide) Y.pure)
  ·intro ps s r d h hr;unfold oS;refine Y.get (Y.pos (by rw[uA];decide) (Y.open_ (.inr (.inr rfl)) ?_));refine Y.bind (b:=aD ps) (s1:=⟨kw I cd::r,d+1⟩) ?_ ((recEnd r d).bind (K.recs _ r d hr))
   cases ps with
   |nil=>exact Y.get (Y.pos ⟨rfl,by rw[bq,cD,uA];decide⟩ Y.pure)
   |cons p ps=>
    refine Y.get (Y.neg (fun h'=>?_) (flds r (d+1) aw h));have h1:=h'.2;rw[bq,eG,Ly (wG (ahL (h p aw)) ai)] at h1;cases h1
  ·intro ps a r d h19 h0 h hr;unfold oS;refine Y.get (Y.pos (by rw[uA];decide) (Y.open_ (.inr (.inr rfl)) ?_));refine Y.bind (b:=aD ps) (s1:=⟨kw I cd::r,d+1⟩) ?_ ((recEnd r d).bind (by rw[if_neg h19];exact K.recs _ r d hr));exact Y.get (Y.neg (fun h'=>h19 h'.1) (flds r (d+1) h0 h))
  ·intro ts e r d h hr;unfold rh
   cases h with
   |base h=>exact (K.base r d h hr).bind (K.recs _ r d hr.cu)
   | @make ts s ps hc hf=>
    rw[eG,ck,eG];exact (K.con _ d hc).bind (K.aio s r d hf hr.cu)
   | @put ts a ps ha h19 hf h0=>
    rw[ck,eG,ck,ck,eG];refine Y.bind (K.brk _ d (by simpa [ju] using nT.exp (ps:=[]) ha aw aw)) (K.acv a r d h19 h0 hf hr.cu)
  ·intro ps r d h hr;unfold rz;have ha:ga ⟨r,d⟩=false:=hr.atom
   cases ps with
   |nil=>exact Y.get (Y.neg (by rw[fy,cD,ha];decide) Y.pure)
   |cons p ps=>
    have hp:=h p aw;have hps:∀q∈ps,jK I q.1 q.2:=fun q hq=>h q (by simp [hq]);rw[fy,eG];exact Y.get (Y.pos (wW hp) ((K.atom _ d hp (P8 hps hr)).bind ((K.atomsl r d hps hr).bind Y.pure)))
  ·intro ts a ps r d h hps hr;unfold pM;exact (K.atom _ d h (P8 hps hr)).bind ((K.atomsl r d hps hr).bind Y.pure)
  ·intro ts e r d h hr;unfold py
   cases h with
   | @atoms ts a ps ha hps=>
    have hf:kS ⟨ts++(fy ps++r),d⟩=true:=wL (wW ha);have no:∀{w:List UInt8},[lU,bY,eX].contains w=false→bk ⟨ts++(fy ps++r),d⟩ [w]=false:=fun h=>wG (wW ha) h;rw[eG];refine Y.no (no ai) (Y.neg ai (Y.no (no ai) (Y.neg ai (Y.no (no ai) (Y.neg ai (Y.no (no ai) (Y.neg ai (Y.no (no ai) (Y.neg ai ?_)))))))));exact (K.atoms r d ha hps hr.toxW).bind Y.pure
   | @lam ps us e hps h0 he=>
    refine Y.yes ai ai (Y.pos rfl ?_);show Y _ ⟨fy ps++(kw I dC::us)++r,d⟩ _ _;rw[eG,ck]
    cases ps with
    |nil=>exact absurd rfl h0
    |cons p ps=>
     rw[fy,eG];refine (K.atoms _ d (hps p aw) (fun q hq=>hps q (lz _ hq)) (jP ai).toxW).bind ((Y.take ai ai).bind ((K.exp r d he hr).bind Y.pure))
   | @elet ps us e hps he=>
    refine Y.no (ew ai) (Y.neg ai (Y.yes ai ai (Y.pos rfl ?_)));have e1:(kw I cw::(bq I cn ps++kw I cd::kw I yD::us)).append r=kw I cw::(bq I cn ps++(kw I cd::(kw I yD::(us++r)))):=by
     show _++r=_;simp
    rw[e1];exact (kD _ d hps).bind ((Y.take ai ai).bind ((K.exp r d he hr).bind Y.pure))
   | @eif ts a us b vs c ha hb hc=>
    refine Y.no (ew ai) (Y.neg ai (Y.no (ew ai) (Y.neg ai (Y.yes ai ai (Y.pos rfl ?_)))));have e1:(ts++kw I zK::(us++kw I BP::vs)).append r=ts++(kw I zK::(us++(kw I BP::(vs++r)))):=by
     show _++r=_;simp
    rw[e1];exact (K.exp _ d ha (jP ai)).bind ((Y.take ai ai).bind ((K.exp _ d hb (jP ai)).bind ((Y.take ai ai).bind ((K.exp r d hc hr).bind Y.pure))))
   | @ecase ts a ps ha hps=>
    refine Y.no (ew ai) (Y.neg ai (Y.no (ew ai) (Y.neg ai (Y.no (ew ai) (Y.neg ai (Y.yes ai ai (Y.pos rfl ?_)))))));have e1:(ts++kw I AM::kw I cw::(bq I cn ps++[kw I cd])).append r=ts++(kw I AM::(kw I cw::(bq I cn ps++(kw I cd::r)))):=by
     show _++r=_;simp
    rw[e1];refine (K.exp _ d ha (jP ai)).bind ((Y.take ai ai).bind (Y.bind ?_ Y.pure));exact Y.gJ (fun p hp r d _=>K.alt r d (hps p hp)) fun p hp r d=>aol (hps p hp)
   | @edo ps hps=>
    refine Y.no (ew ai) (Y.neg ai (Y.no (ew ai) (Y.neg ai (Y.no (ew ai) (Y.neg ai (Y.no (ew ai) (Y.neg ai (Y.yes ai ai (Y.pos rfl ?_)))))))));have e1:(kw I cw::(bq I cn ps++[kw I cd])).append r=kw I cw::(bq I cn ps++(kw I cd::r)):=by
     show _++r=_;simp
    rw[e1];refine Y.bind ?_ Y.pure;exact Y.gJ (fun p hp r d hr=>K.stmt r d (hps p hp) hr) fun p hp r d=>aes (hps p hp)
  ·intro ts e r d h hr;unfold py;have no:∀{w:List UInt8},[lU,bY,eX].contains w=false→bk ⟨ts++r,d⟩ [w]=false:=fun hw=>wG (wW h) hw;refine Y.no (no ai) (Y.neg ai (Y.no (no ai) (Y.neg ai (Y.no (no ai) (Y.neg ai (Y.no (no ai) (Y.neg ai (Y.no (no ai) (Y.neg ai ?_)))))))));exact Y.bind (K.atoms (ps:=[]) r d h aw hr) Y.pure
  ·intro qs r d ho ha hr;unfold s9;have hop:jz ⟨r,d⟩=false:=hr.op
   cases qs with
   |nil=>exact Y.get (Y.neg (by rw[kQ,cD,hop];decide) Y.pure)
   |cons q qs=>
    have h1:=ho q aw;have h2:∀q∈qs,ku I q.1.1 q.1.2:=fun x hx=>ho x (by simp [hx]);have h3:∀q∈qs,jK I q.2.1 q.2.2:=fun x hx=>ha x (by simp [hx]);rw[kQ,eG,eG];exact Y.get (Y.pos (zL h1) ((Y.operator h1).bind ((K.operandA _ d (ha q aw) (H8 h2 hr)).bind ((K.ops r d h2 h3 hr).bind Y.pure))))
  ·intro ts e r d h hr;unfold iM
   cases h with
   |opnd h=>exact (K.operand r d h hr).bind (Y.bind (K.ops (qs:=[]) r d aw aw hr) Y.pure)
   | @ops ts a qs h1 h2 h3 h0=>
    rw[eG];refine (K.operandA _ d h1 (H8 h2 hr)).bind ((K.ops r d h2 h3 hr).bind ?_)
    cases qs with
    |nil=>exact absurd rfl h0
    |cons q qs=>exact Y.pure
  ·intro ts e r d h hr;unfold s_
   cases h with
   | @mk ts s us e hv he=>
    rw[eG,ck];exact (Y.yo hv).bind ((Y.take ai ai).bind ((K.exp r d he hr).bind Y.pure))
  ·intro ps m r d h hm
   cases ps with
   |nil=>
    cases m with
    |zero=>unfold o0;exact Y.pure
    |succ m=>unfold o0;exact Y.no (ew ai) (Y.neg ai Y.pure)
   |cons p ps=>
    cases m with
    |zero=>simp at hm
    |succ m=>
     unfold o0;refine Y.yes ai ai (Y.pos rfl ?_);show Y _ ⟨p.1++ju I bD ps++(kw I bB::r),d⟩ _ _;rw[eG];exact (K.exp _ d (h p aw) (KD (jP ai))).bind ((K.expc m r d (fun q hq=>h q (by simp [hq])) (by simpa using hm)).bind Y.pure)
  ·intro qs ps acc r d ho ha hp hl;unfold qX;have hs:mr (ju I bD ps++(kw I bB::r)):=KD (jP ai)
   cases qs with
   |nil=>
    have hop:jz ⟨ju I bD ps++(kw I bB::r),d⟩=false:=hs.op;rw[kQ,cD,fU,cB];refine Y.get (Y.neg (by rw[hop];decide) ((K.expc 2 r d hp hl).bind ?_))
    cases ps with
    |nil=>exact Y.pure
    |cons p ps=>exact Y.pure
   |cons q qs=>
    have h1:=ho q aw;have h2:∀q∈qs,ku I q.1.1 q.1.2:=fun x hx=>ho x (by simp [hx]);have h3:∀q∈qs,jK I q.2.1 q.2.2:=fun x hx=>ha x (by simp [hx]);rw[kQ,eG,eG];refine Y.get (Y.pos (zL h1) ((Y.operator h1).bind (Y.get (Y.neg (by rw[wG (wW (ha q aw)) ai];decide) ((K.operandA _ d (ha q aw) (H8 h2 hs)).bind ?_)))));have:=K.innerl (qs:=qs) (ps:=ps) (acc++[q.1.2,q.2.2]) r d h2 h3 hp hl;rw[fU,show acc++q.1.2::q.2.2::fU qs=acc++[q.1.2,q.2.2]++fU qs by simp];exact this
  ·intro us o a r d h;unfold qX;exact Y.get (Y.pos (zL h) ((Y.operator h).bind (Y.get (Y.pos (by rw[dE];decide) Y.pure))))
  ·intro ts e r d h;unfold tY
   cases h with
   |unit=>exact Y.get (Y.pos (by rw[cD,dE];decide) Y.pure)
   |pair=>
    refine Y.get (Y.neg (on_ ai) (Y.get (Y.pos (by rw[ck,dE];decide) (Y.bind (b:=gY) (s1:=⟨kw I bB::r,d⟩) ?_ Y.pure))));unfold pB;exact Y.yes ai ai (Y.pos rfl (Y.no (ew ai) (Y.neg ai Y.pure)))
   |triple=>
    refine Y.get (Y.neg (on_ ai) (Y.get (Y.pos (by rw[ck,dE];decide) (Y.bind (b:=gM) (s1:=⟨kw I bB::r,d⟩) ?_ Y.pure))));unfold pB;exact Y.yes ai ai (Y.pos rfl (Y.yes ai ai (Y.pos rfl Y.pure)))
   | @var s=>
    have h1:∀w,¬bk ⟨[⟨3,s,0⟩]++(kw I bB::r),d⟩ [w]=true:=fun w=>by rw[show bk ⟨[⟨3,s,0⟩]++(kw I bB::r),d⟩ [w]=false from u6 ai ai];decide
    refine Y.get (Y.neg (h1 _) (Y.get (Y.neg (h1 _) (Y.get (Y.pos rfl (Y.get ?_))))));refine Y.bind (Y.operator (I:=I) (.sign (.inl ⟨rfl,rfl⟩))) (Y.get (Y.pos ⟨?_,by rw[dE];decide⟩ Y.pure));rw[show bk ⟨[⟨3,s,0⟩]++(kw I bB::r),d⟩ [my]=false from u6 ai ai];rfl
   | @con s=>
    have h1:∀w,¬bk ⟨[⟨4,s,0⟩]++(kw I bB::r),d⟩ [w]=true:=fun w=>by rw[show bk ⟨[⟨4,s,0⟩]++(kw I bB::r),d⟩ [w]=false from u6 ai ai];decide
    refine Y.get (Y.neg (h1 _) (Y.get (Y.neg (h1 _) (Y.get (Y.pos rfl (Y.get ?_))))));refine Y.bind (Y.operator (I:=I) (.sign (.inr ⟨rfl,rfl⟩))) (Y.get (Y.pos ⟨?_,by rw[dE];decide⟩ Y.pure));rw[show bk ⟨[⟨4,s,0⟩]++(kw I bB::r),d⟩ [my]=false from u6 ai ai];rfl
   | @exp ts e ps h hp hl=>
    rw[eG];have hf:kS ⟨ts++(ju I bD ps++(kw I bB::r)),d⟩=true:=CZ h;have hs:mr (ju I bD ps++(kw I bB::r)):=KD (jP ai);refine Y.get (Y.neg (by rw[rE hf ai];decide) (Y.get (Y.neg (by rw[rE hf ai];decide) (Y.get (Y.neg (by rw[NX hf];decide) ?_)))))
    cases h with
    |opnd h=>exact (K.operand _ d h hs).bind (K.innerl (qs:=[]) [e] r d aw aw hp hl)
    | @ops ts a qs h1 h2 h3 h0=>
     rw[eG];refine (K.operandA _ d h1 (H8 h2 hs)).bind ?_;have:=K.innerl (qs:=qs) (ps:=ps) [a] r d h2 h3 hp hl;have e1:kM ([a]++fU qs)=ag 23 [] (a::fU qs):=by
      cases qs with
      |nil=>exact absurd rfl h0
      |cons q qs=>rfl
     rw[e1] at this;exact this
   | @left ts a us o ha ho=>
    rw[eG];have hf:kS ⟨ts++(us++(kw I bB::r)),d⟩=true:=wL (yF ha);refine Y.get (Y.neg (by rw[rE hf ai];decide) (Y.get (Y.neg (by rw[rE hf ai];decide) (Y.get (Y.neg (by rw[NX hf];decide) ?_)))));exact (K.operandA _ d (.base ha) (Yx (d:=d) (zL ho))).bind (K.abF a r d ho)
   | @right ts a us o ho ha=>
    rw[eG];have hf:jz ⟨us++(ts++(kw I bB::r)),d⟩=true:=zL ho;have hg:∀d,kS ⟨ts++(kw I bB::r),d⟩=true:=fun d=>CZ ha;refine Y.get (Y.neg (by rw[HG hf ai];decide) (Y.get (Y.neg (by rw[HG hf ai];decide) (Y.get (Y.pos hf (Y.get ?_))))));refine (Y.operator ho).bind (Y.get (Y.neg ?_ ((K.exp _ d ha (jP ai)).bind Y.pure)));intro h;rw[rE (hg d) ai] at h;exact absurd h.2 ai
  ·intro ts e r d h;unfold pd
   cases h with
   |mk h1 h2=>
    rw[eG];refine (K.exp _ d h1 ?_).bind ((K.rhs eQ r d (.inl rfl) h2).bind Y.pure)
    cases h2 with
    |plain _ _=>exact jP ai
    | @guards _ qs ps _ _ h0 _=>
     cases qs with
     |nil=>exact absurd rfl h0
     |cons q qs=>exact jP ai
  ·intro ts e r d h;unfold vq
   cases h with
   |mk h1 h2=>
    rw[eG];refine (K.exp _ d h1 ?_).bind ((K.rhs dC r d (.inr rfl) h2).bind Y.pure)
    cases h2 with
    |plain _ _=>exact jP ai
    | @guards _ qs ps _ _ h0 _=>
     cases qs with
     |nil=>exact absurd rfl h0
     |cons q qs=>exact jP ai
  ·intro qs w r d hw h1 h2;unfold tL
   cases qs with
   |nil=>exact Y.get (Y.neg (by rw[ov,cD];exact on_ ai) Y.pure)
   |cons q qs=>
    rw[ov,ck];refine Y.get (Y.pos (by rw[dE];decide) (Y.step.bind ?_));rw[eG,ck,eG];have ht:Y (cA w) ⟨kw I w::(q.2.1++(ov I w qs++kw I gj::r)),d⟩ (kw I w) ⟨q.2.1++(ov I w qs++kw I gj::r),d⟩:=by
     rcases hw with rfl|rfl<;>exact Y.take ai ai
    have hst:mr (kw I w::(q.2.1++(ov I w qs++kw I gj::r))):=by
     rcases hw with rfl|rfl<;>exact jP ai
    have af4:mr (ov I w qs++kw I gj::r):=by
     cases qs with
     |nil=>exact jP ai
     |cons q qs=>exact jP ai
    exact (K.exp _ d (h1 q aw) hst).bind (ht.bind ((K.exp _ d (h2 q aw) af4).bind ((K.guards w r d hw (fun x hx=>h1 x (by simp [hx])) (fun x hx=>h2 x (by simp [hx]))).bind Y.pure)))
  ·intro ts e w r d hw h;unfold qo
   cases h with
   | @plain _ ts e ps h1 h2=>
    have e1:kw I w::(ts++kw I gj::kw I cw::(bq I cn ps++[kw I cd]))++r=kw I w::(ts++(kw I gj::(kw I cw::(bq I cn ps++(kw I cd::r))))):=aw
    rw[e1];have ht:∀r,Y (cA w) ⟨kw I w::r,d⟩ (kw I w) ⟨r,d⟩:=fun r=>by
     rcases hw with rfl|rfl<;>exact Y.take ai ai
    have hb:∀r,¬bk ⟨kw I w::r,d⟩ [mW]=true:=fun r=>by rcases hw with rfl|rfl<;>exact on_ ai
    refine Y.bind (Y.get (Y.neg (hb _) ((ht _).bind ((K.exp _ d h1 (jP ai)).bind Y.pure)))) ?_;exact Y.yes ai ai (Y.pos rfl ((kD r d h2).bind Y.pure))
   | @guards _ qs ps h1 h2 h0 h3=>
    have e1:ov I w qs++kw I gj::kw I cw::(bq I cn ps++[kw I cd])++r=ov I w qs++(kw I gj::(kw I cw::(bq I cn ps++(kw I cd::r)))):=aw
    rw[e1];refine Y.bind (Y.get (Y.pos ?_ (K.guards w _ d hw h1 h2))) ?_
    ·cases qs with
     |nil=>exact absurd rfl h0
     |cons q qs=>rw[ov,ck,dE];decide
    ·exact Y.yes ai ai (Y.pos rfl ((kD r d h3).bind Y.pure))
  ·intro n r d hr;unfold pT;exact Y.no (D_ hr ai) (Y.neg ai Y.pure)
  ·intro ts e n r d h hr;unfold pT;exact Y.yes ai ai (Y.pos rfl (Y.bind (K.exp r d h (Ue hr)) Y.pure))
  ·intro ts e r d h hr;unfold uW
   cases h with
   |exp h=>
    refine Y.no (W5 h ai) (Y.neg ai ?_);refine Y.bind (K.exp r d (by simpa [fy,fg,aD] using dS.opnd (pJ.atoms (ps:=[]) (.base h) aw)) (Ue hr)) (K.apE _ r d hr)
   | @gen ts a us e h he=>
    rw[eG,ck];refine Y.no (W5 h ai) (Y.neg ai ?_);exact Y.bind (K.exp _ d (by simpa [fy,fg,aD] using dS.opnd (pJ.atoms (ps:=[]) (.base h) aw)) (jP ai)) (K.aeJ _ r d he hr)
   | @slet ps h=>
    refine Y.yes ai ai (Y.pos rfl ?_);have e1:(kw I cw::(bq I cn ps++[kw I cd])).append r=kw I cw::(bq I cn ps++(kw I cd::r)):=by
     show _++r=_;simp
    rw[e1];exact (kD r d h).bind (Y.no (D_ hr ai) (Y.neg ai Y.pure))
end
section
variable (I:List UInt8→Bool)
inductive tA:List Tk→List UInt8→Prop
 |plain {s}:tA [⟨2,s,0⟩] s
 |unit:tA [kw I bY,kw I bB] ji
 |pair:tA [kw I bY,kw I bD,kw I bB] gY
 |triple:tA [kw I bY,kw I bD,kw I bD,kw I bB] gM
 |list:tA [kw I eX,kw I iI] lD
 |arrow:tA [kw I bY,kw I dC,kw I bB] dC
def cY (ts:List Tk):List Tk:=kw I bY::(ts++[kw I bB])
inductive qw:List Tk→X→Prop
 |jq {s}:qw [⟨1,s,0⟩] (ag 52 s [])
 |con {ts s}:tA I ts s→qw ts (ag 53 s [])
 |app {us a vs b}:qw us a→qw vs b→qw (cY I us++cY I vs) (ag 54 [] [a,b])
inductive Bm (kind:Int):List Tk→X→Prop
 |mk {ts s us a}:uH I ts s→qw I us a→Bm kind (ts++(kw I Oe::us)) (ag kind s [a])
inductive xY:List Tk→List UInt8→Prop
 |plain {s}:xY [⟨2,s,0⟩] s
 |op {s}:xY [kw I bY,⟨4,s,0⟩,kw I bB] s
def ie:List TP→List Tk
 | []=>[]
 |p::l=>cY I p.1++ie l
inductive sE:List Tk→X→Prop
 |types {ts s} {ps:List TP}:xY I ts s→(∀p∈ps,qw I p.1 p.2)→sE (ts++ie I ps) (ag 6 s [listed (aD ps)])
 |fields {ts s} {ps:List TP}:xY I ts s→ps≠[]→(∀p∈ps,Bm I 7 p.1 p.2)→sE (ts++(kw I cw::(bq I bD ps++[kw I cd]))) (ag 6 s [listed (aD ps)])
def wU (vs:List (List UInt8)):List Tk:=vs.map fun v=>⟨1,v,0⟩
def rS (vs:List (List UInt8)):List X:=vs.map fun v=>ag 52 v []
def mO:List UInt8→List TP→List Tk
 |_,[]=>[]
 |w,p::l=>kw I w::(p.1++mO mW l)
inductive SPred:List Tk→X→Prop
 |mk {s v}:SPred [⟨2,s,0⟩,⟨1,v,0⟩] (ag 11 s [ag 52 v []])
inductive uP:List Tk→X→Prop
 |name {ts s}:tA I ts s→uP ts (ag 53 s [])
 |lst {v}:uP [kw I eX,⟨1,v,0⟩,kw I iI] (mw lD [ag 52 v []])
 |pair {v u}:uP [kw I bY,⟨1,v,0⟩,kw I bD,⟨1,u,0⟩,kw I bB] (mw gY [ag 52 v [],ag 52 u []])
 |triple {v u x}:uP [kw I bY,⟨1,v,0⟩,kw I bD,⟨1,u,0⟩,kw I bD,⟨1,x,0⟩,kw I bB] (mw gM [ag 52 v [],ag 52 u [],ag 52 x []])
 |arrow {v u}:uP [kw I bY,⟨1,v,0⟩,kw I dC,⟨1,u,0⟩,kw I bB] (mw dC [ag 52 v [],ag 52 u []])
 |app {s vs}:uP (kw I bY::⟨2,s,0⟩::(wU vs++[kw I bB])) (mw s (rS vs))
inductive nD:List Tk→X→Prop
 |data {s vs} {ps:List TP}:(∀p∈ps,sE I p.1 p.2)→nD (kw I Cg::⟨2,s,0⟩::(wU vs++mO I eQ ps)) (ag 5 s [listed (rS vs),listed (aD ps)])
 |cls {s v} {ps:List TP}:(∀p∈ps,Bm I 9 p.1 p.2)→nD (kw I DC::⟨2,s,0⟩::⟨1,v,0⟩::kw I gj::kw I cw::(bq I cn ps++[kw I cd])) (ag 8 s [ag 52 v [],listed (aD ps)])
 |inst {s hs h} {cs ps:List TP}:(∀p∈cs,SPred p.1 p.2)→uP I hs h→(∀p∈ps,rk I p.1 p.2)→
  nD (kw I DH::kw I bY::(bq I bD cs++(kw I bB::kw I w5::⟨2,s,0⟩::(hs++(kw I gj::kw I cw::(bq I cn ps++[kw I cd])))))) (ag 10 s [listed (aD cs),h,listed (aD ps)])
 |fix {s n} {ps:List TP}:s∈[yr,xJ,xL]→0≤n→n≤9→ps≠[]→(∀p∈ps,ku I p.1 p.2)→nD (kw I s::⟨5,[],n⟩::bq I bD ps) (.mk 12 s n [listed (aD ps)])
 |eq {ts e}:rk I ts e→nD ts e
inductive Br:List Tk→X→Prop
 |con {s}:Br [⟨2,s,0⟩] (ag 4 s [])
 |var {ts s}:uH I ts s→Br ts (ag 4 s [])
inductive yB:List Tk→X→Prop
 |none:yB [] cc
 |some {ps:List TP}:(∀p∈ps,Br I p.1 p.2)→yB (kw I bY::(bq I bD ps++[kw I bB])) (listed (aD ps))
inductive BZ:List Tk→X→Prop
 |mk {s ts i}:yB I ts i→BZ (kw I yi::⟨2,s,0⟩::ts) (ag 3 s [i])
end
section
variable {I:List UInt8→Bool}
structure vH (r:List Tk):Prop where
 begins:lZ ⟨r,0⟩=false
 arrow:bk ⟨r,0⟩ [dC]=false
def DV {w:List UInt8}{r:List Tk}(h:[bY,eX,dC].contains w=false):vH (kw I w::r):=by
 have hn:∀v,v∈[bY,eX,dC]→¬w=v:=fun v hv e=>by
  rw[e,List.contains_iff_mem.2 hv] at h;cases h
 refine⟨?_,?_⟩
 ·simp only[lZ,w_ (ks:=[2,1]) rfl rfl,dE,pj];have h1:=hn bY aw;have h2:=hn eX aw;simp [h1,h2]
 ·rw[dE];have h1:=hn dC aw;simp [h1]
def gr {w:List UInt8}{r:List Tk}{d:Int}(j:Int)(h7:j≠7)(h8:j≠8):¬dH ⟨kw I w::r,d⟩ [j]=true:=by
 rw[w_ (by simp;exact fun h=>h7 h.symm) (by simp;exact fun h=>h8 h.symm)];decide
def B_ {i:Int}{s:List UInt8}{n:Int}{r:List Tk}{d:Int}(j:Int)(h:i≠j):¬dH ⟨⟨i,s,n⟩::r,d⟩ [j]=true:=by rw[F4];simp [h]
def ZZ {w v:List UInt8}{r:List Tk}{d:Int}(h:[v].contains w=false):¬bk ⟨kw I w::r,d⟩ [v]=true:=by rw[dE,h];decide
def ew {w v:List UInt8}{r:List Tk}{d:Int}(h:[v].contains w=false):bk ⟨kw I w::r,d⟩ [v]=false:=by rw[dE,h]
def ad4 {ts:List Tk}{a:X}{r:List Tk}{d:Int}(h:qw I ts a):lZ ⟨ts++r,d⟩=true:=by
 have k1:∀{w:List UInt8} {r:List Tk},[bY,eX].contains w=true→lZ ⟨kw I w::r,d⟩=true:=fun h=>by simp only[lZ,dE,h,Bool.or_true]
 cases h with
 |jq=>rfl
 |con h=>cases h<;>first|rfl|exact k1 ai
 |app _ _=>exact k1 ai
def NU {s:PS}{w:List UInt8}(h:lZ s=true)(hw:[bY,eX].contains w=false):bk s [w]=false:=by
 simp only[lZ,fW] at h;rcases h with h|h
 ·refine Ea (.inr ?_);have:(fa s 0).kind∈[2,1]:=by simpa [dH] using h
  simp only[iS,jD,or_false] at this;omega
 ·obtain⟨_,h2⟩:=yN h;refine Ea (.inl fun e=>?_);rw[e] at h2;rw[List.contains_iff_mem.2 h2] at hw;cases hw
def Y.jq {v:List UInt8}{r:List Tk}{d:Int}:Y nk ⟨⟨1,v,0⟩::r,d⟩ (ag 52 v []) ⟨r,d⟩:=by
 unfold nk;exact Y.nA.bind Y.pure
def Y.VU {r:List Tk}{d:Int}:Y pB ⟨kw I bD::kw I bB::r,d⟩ gY ⟨kw I bB::r,d⟩:=by
 unfold pB;exact Y.yes ai ai (Y.pos rfl (Y.no (ew ai) (Y.neg ai Y.pure)))
def Y.Vl {r:List Tk}{d:Int}:Y pB ⟨kw I bD::kw I bD::kw I bB::r,d⟩ gM ⟨kw I bB::r,d⟩:=by
 unfold pB;exact Y.yes ai ai (Y.pos rfl (Y.yes ai ai (Y.pos rfl Y.pure)))
structure TK (I:List UInt8→Bool)(k:Nat):Prop where
 typ:∀{ts a} r d,qw I ts a→vH r→Y (qg k) ⟨ts++r,d⟩ a ⟨r,d⟩
 typl:∀n r d,vH r→Y (qU k n) ⟨r,d⟩ n ⟨r,d⟩
 al8:∀{ts a} n r d,qw I ts a→vH r→Y (qU k n) ⟨cY I ts++r,d⟩ (ag 54 [] [n,a]) ⟨r,d⟩
 typc:∀m r d,Y (qd k m) ⟨kw I bB::r,d⟩ [] ⟨kw I bB::r,d⟩
 name:∀{ts s} r d,tA I ts s→Y (om k) ⟨ts++r,d⟩ (ag 53 s []) ⟨r,d⟩
 jq:∀v r d,Y (om k) ⟨⟨1,v,0⟩::r,d⟩ (ag 52 v []) ⟨r,d⟩
 br:∀{ts a} r d,qw I ts a→Y (om k) ⟨cY I ts++r,d⟩ a ⟨r,d⟩
def tK:∀k,TK I k
 |0=>by
  constructor
  all_goals intros
  all_goals first| (unfold qg;exact Y.out)| (unfold qU;exact Y.out)| (unfold qd;exact Y.out)| (unfold om;exact Y.out)
 |k+1=>by
  have K:=tK k;have opn:∀{x:Tk→PM X} {b r d s2},Y (x (kw I bY)) ⟨r,d+1⟩ b s2→Y (cA bY >>= x) ⟨kw I bY::r,d⟩ b s2:=fun h=>Y.open_ (.inl rfl) h;constructor
  ·intro ts a r d h hr;unfold qg;have ha:¬bk ⟨r,d⟩ [dC]=true:=by rw[show bk ⟨r,d⟩ [dC]=false from hr.arrow];decide
   cases h with
   |jq=>exact (K.jq _ r d).bind ((K.typl _ r d hr).bind (Y.get (Y.neg ha Y.pure)))
   |con h=>exact (K.name r d h).bind ((K.typl _ r d hr).bind (Y.get (Y.neg ha Y.pure)))
   |app h1 h2=>
    rw[eG];exact (K.br _ d h1).bind ((K.al8 _ r d h2 hr).bind (Y.get (Y.neg ha Y.pure)))
  ·intro n r d hr;unfold qU;exact Y.get (Y.neg (by rw[show lZ ⟨r,d⟩=false from hr.begins];decide) Y.pure)
  ·intro ts a n r d h hr;unfold qU;refine Y.get (Y.pos ?_ ((K.br r d h).bind (K.typl _ r d hr)));rw[cY,ck];simp only[lZ,dE];simp
  ·intro m r d
   cases m with
   |zero=>unfold qd;exact Y.pure
   |succ m=>unfold qd;exact Y.no (ew ai) (Y.neg ai Y.pure)
  ·intro ts s r d h;unfold om
   cases h with
   |plain=>exact Y.get (Y.pos rfl (Y.step.bind Y.pure))
   |list=>
    refine Y.get (Y.neg (gr _ ai ai) (Y.get (Y.neg (gr _ ai ai) (Y.B7 (.inr (.inl rfl)) (Y.pos rfl ?_)))));exact Y.bind (Y.get (Y.pos (by show bk ⟨kw I iI::r,d+1⟩ [iI]=true;rw[dE];decide) Y.pure)) ((Y.shut (.inr (.inl rfl))).bind Y.pure)
   |unit=>
    refine Y.get (Y.neg (gr _ ai ai) (Y.get (Y.neg (gr _ ai ai) (Y.no (ew ai) (Y.neg ai (opn ?_))))));exact Y.bind (b:=(ji,[])) (s1:=⟨kw I bB::r,d+1⟩) (Y.no (ew ai) (Y.neg ai (Y.get (Y.neg (ZZ ai) (Y.get (Y.pos (by show bk ⟨kw I bB::r,d+1⟩ [bB]=true;rw[dE];decide) Y.pure)))))) ((Y.shut (.inl rfl)).bind Y.pure)
   |pair=>
    refine Y.get (Y.neg (gr _ ai ai) (Y.get (Y.neg (gr _ ai ai) (Y.no (ew ai) (Y.neg ai (opn ?_))))));exact Y.bind (b:=(gY,[])) (s1:=⟨kw I bB::r,d+1⟩) (Y.no (ew ai) (Y.neg ai (Y.get (Y.pos (by show bk ⟨kw I bD::_,d+1⟩ [bD]=true;rw[dE];decide) (Y.VU.bind Y.pure))))) ((Y.shut (.inl rfl)).bind Y.pure)
   |triple=>
    refine Y.get (Y.neg (gr _ ai ai) (Y.get (Y.neg (gr _ ai ai) (Y.no (ew ai) (Y.neg ai (opn ?_))))));exact Y.bind (b:=(gM,[])) (s1:=⟨kw I bB::r,d+1⟩) (Y.no (ew ai) (Y.neg ai (Y.get (Y.pos (by show bk ⟨kw I bD::_,d+1⟩ [bD]=true;rw[dE];decide) (Y.Vl.bind Y.pure))))) ((Y.shut (.inl rfl)).bind Y.pure)
   |arrow=>
    refine Y.get (Y.neg (gr _ ai ai) (Y.get (Y.neg (gr _ ai ai) (Y.no (ew ai) (Y.neg ai (opn ?_))))));exact Y.bind (b:=(dC,[])) (s1:=⟨kw I bB::r,d+1⟩) (Y.yes ai ai (Y.pos rfl Y.pure)) ((Y.shut (.inl rfl)).bind Y.pure)
  ·intro v r d;unfold om;exact Y.get (Y.neg (B_ _ ai) (Y.get (Y.pos rfl Y.jq)))
  ·intro ts a r d h;unfold om;rw[cY,ck,eG];have hb:∀d,lZ ⟨ts++([kw I bB]++r),d⟩=true:=fun d=>ad4 h;refine Y.get (Y.neg (gr _ ai ai) (Y.get (Y.neg (gr _ ai ai) (Y.no (ew ai) (Y.neg ai (opn ?_))))));refine Y.bind (b:=(Fu 1,[a])) (s1:=⟨kw I bB::r,d+1⟩) (Y.no (NU (hb _) ai) (Y.neg ai (Y.get (Y.neg (by rw[NU (hb _) ai];decide) (Y.get (Y.neg (by rw[NU (hb _) ai];decide) ?_)))))) ((Y.shut (.inl rfl)).bind Y.pure);exact (K.typ _ (d+1) h (DV ai)).bind ((K.typc 2 r (d+1)).bind Y.pure)
end
section
variable {I:List UInt8→Bool} {k:Nat}
def Y.signed {ts:List Tk}{a:X}{kind:Int}{r:List Tk}{d:Int}(h:Bm I kind ts a)(hr:vH r):Y (qJ k kind) ⟨ts++r,d⟩ a ⟨r,d⟩:=by
 unfold qJ
 cases h with
 |mk h1 h2=>
  rw[eG,ck];exact (Y.yo h1).bind ((Y.take ai ai).bind (((tK k).typ r d h2 hr).bind Y.pure))
def api {ts:List Tk}{a:X}{kind:Int}{r:List Tk}{d:Int}(h:Bm I kind ts a):ga ⟨ts++r,d⟩=true:=by
 cases h with
 |mk h1 h2=>rw[eG];exact NP h1
def Y.UZ {one:PM X}{S:List Tk→Prop}(hc:∀r,S (kw I bD::r)){r:List Tk}(hr:bk ⟨r,0⟩ [bD]=false)(hS:S r):
  ∀(k:Nat) {ps:List TP} {d:Int},(∀p∈ps,∀r d,S r→Y one ⟨p.1++r,d⟩ p.2 ⟨r,d⟩)→Y (Go.Proofs.YtdfccaonglmgpaaGreatDoor.lP one k) ⟨ju I bD ps++r,d⟩ (aD ps) ⟨r,d⟩
 |0,_,_,_=>Y.out
 |k+1,[],d,_=>by
  unfold Go.Proofs.YtdfccaonglmgpaaGreatDoor.lP;exact Y.no hr (Y.neg ai Y.pure)
 |k+1,p::ps,d,h=>by
  unfold Go.Proofs.YtdfccaonglmgpaaGreatDoor.lP;refine Y.yes ai ai (Y.pos rfl ?_);show Y _ ⟨(p.1++ju I bD ps)++r,d⟩ _ _;rw[cC];refine (h p aw _ _ ?_).bind ((Y.UZ hc hr hS k (fun q hq=>h q (by simp [hq]))).bind Y.pure)
  cases ps with
  |nil=>exact hS
  |cons q ps=>exact hc _
def Y.GF {one:PM X}{S:List Tk→Prop}(hc:∀r,S (kw I bD::r)){r:List Tk}(hr:bk ⟨r,0⟩ [bD]=false)(hS:S r){ps:List TP}{d:Int}(h0:ps≠[])
  (h:∀p∈ps,∀r d,S r→Y one ⟨p.1++r,d⟩ p.2 ⟨r,d⟩):Y (lX one k) ⟨bq I bD ps++r,d⟩ (aD ps) ⟨r,d⟩:=by
 cases ps with
 |nil=>exact absurd rfl h0
 |cons p ps=>
  unfold lX;rw[bq,cC];refine (h p aw _ _ ?_).bind ((Y.UZ hc hr hS k (fun q hq=>h q (by simp [hq]))).bind Y.pure)
  cases ps with
  |nil=>exact hS
  |cons q ps=>exact hc _
def Y.yK {r:List Tk}(hr:dH ⟨r,0⟩ [1]=false):∀(k:Nat) (vs:List (List UInt8)) (d:Int),Y (qO k) ⟨wU vs++r,d⟩ (rS vs) ⟨r,d⟩
 |0,_,_=>Y.out
 |k+1,[],d=>by
  unfold qO;exact Y.get (Y.neg (by rw[show dH ⟨wU []++r,d⟩ [1]=false from hr];decide) Y.pure)
 |k+1,v::vs,d=>by
  unfold qO;exact Y.get (Y.pos rfl (Y.jq.bind ((Y.yK hr k vs d).bind Y.pure)))
def Y.EU {r:List Tk}(hr:lZ ⟨r,0⟩=false):∀(k:Nat) {ps:List TP} (d:Int),(∀p∈ps,qw I p.1 p.2)→Y (th k) ⟨ie I ps++r,d⟩ (aD ps) ⟨r,d⟩
 |0,_,_,_=>Y.out
 |k+1,[],d,_=>by
  unfold th;exact Y.get (Y.neg (by rw[show lZ ⟨ie I []++r,d⟩=false from hr];decide) Y.pure)
 |k+1,p::ps,d,h=>by
  unfold th;rw[ie,eG];refine Y.get (Y.pos ?_ (((tK k).br _ d (h p aw)).bind ((Y.EU hr k d fun q hq=>h q (by simp [hq])).bind Y.pure)));rw[cY,ck];simp only[lZ,dE];simp
def Y.ak_ {r:List Tk}{d:Int}:Y tN ⟨kw I cd::r,d+1⟩ () ⟨r,d⟩:=by
 unfold tN;exact Y.get (Y.pos (by rw[uA];decide) ((Y.shut (.inr (.inr rfl))).bind Y.pure))
def Y.Y6 {ts:List Tk}{s:List UInt8}{r:List Tk}{d:Int}(h:xY I ts s):Y (uK 2 4) ⟨ts++r,d⟩ s ⟨r,d⟩:=by
 unfold uK
 cases h with
 |plain=>
  have e:bk ⟨[⟨2,s,0⟩]++r,d⟩ [bY]=false:=u6 ai ai;exact Y.get (Y.neg (by rw[e];decide) (Y.nA.bind Y.pure))
 |op=>exact Y.get (Y.pos (by simp only[ck,dE];decide) (Y.open_ (.inl rfl) (Y.nA.bind ((Y.shut (.inl rfl)).bind Y.pure))))
def Gx (I:List UInt8→Bool)(r:List Tk):Prop:=pC I r∨∃r',r=kw I mW::r'
def T3 {r:List Tk}(h:Gx I r):∃w r',r=kw I w::r'∧w∈[cn,cd,mW]:=by
 rcases h with ⟨r',rfl|rfl⟩| ⟨r',rfl⟩
 ·exact⟨cn,r',rfl,aw⟩
 ·exact⟨cd,r',rfl,aw⟩
 ·exact⟨mW,r',rfl,aw⟩
def acq {r:List Tk}{d:Int}(h:Gx I r):lZ ⟨r,d⟩=false:=by
 obtain⟨w,r',rfl,hw⟩:=T3 h;have:vH (kw I w::r'):=DV (by simp only[iS,jD,or_false] at hw;rcases hw with rfl|rfl|rfl<;>decide);exact this.begins
def abC {r:List Tk}{d:Int}(h:Gx I r):lM ⟨r,d⟩ cw=false:=by
 obtain⟨w,r',rfl,hw⟩:=T3 h;rw[uA];simp only[iS,jD,or_false] at hw;rcases hw with rfl|rfl|rfl<;>decide
def Y.afq {ts:List Tk}{a:X}{r:List Tk}{d:Int}(h:sE I ts a)(hr:Gx I r):Y (y9 k) ⟨ts++r,d⟩ a ⟨r,d⟩:=by
 unfold y9
 cases h with
 | @types ts s ps h1 h2=>
  rw[eG];refine (Y.Y6 h1).bind (Y.get (Y.neg ?_ ((Y.EU (acq hr) k d h2).bind Y.pure)))
  cases ps with
  |nil=>rw[ie,cD,abC hr];decide
  |cons p ps=>rw[ie,cY,ck,ck,uA];decide
 | @fields ts s ps h1 h0 h2=>
  rw[eG,ck,eG];refine (Y.Y6 h1).bind (Y.get (Y.pos (by rw[uA];decide) (Y.open_ (.inr (.inr rfl)) ?_)));refine (Y.GF (S:=vH) (fun r=>DV ai) (r:=[kw I cd]++r) (ew ai) (DV ai) h0 fun p hp r d hr=>Y.signed (h2 p hp) hr).bind ?_;exact Y.bind Y.ak_ Y.pure
def Y.mO {r:List Tk}(hr:pC I r):∀(k:Nat) {ps:List TP} (w:List UInt8) (d:Int),(w=eQ∨w=mW)→(∀p∈ps,sE I p.1 p.2)→Y (sU k w) ⟨mO I w ps++r,d⟩ (aD ps) ⟨r,d⟩
 |0,_,_,_,_,_=>Y.out
 |k+1,[],w,d,hw,_=>by
  unfold sU;have:bk ⟨r,d⟩ [w]=false:=D_ hr (by rcases hw with rfl|rfl<;>decide);exact Y.no this (Y.neg ai Y.pure)
 |k+1,p::ps,w,d,hw,h=>by
  unfold sU;have h1:¬(w=bY∨w=eX∨w=cw):=by rcases hw with rfl|rfl<;>decide
  have h2:¬(w=bB∨w=iI∨w=cd):=by rcases hw with rfl|rfl<;>decide
  refine Y.yes h1 h2 (Y.pos rfl ?_);show Y _ ⟨(p.1++Go.Proofs.YtdfccaonglmgpaaGreatDoor.mO I mW ps)++r,d⟩ _ _;rw[eG];refine (Y.afq (h p aw) ?_).bind ((Y.mO hr k mW d (.inr rfl) fun q hq=>h q (by simp [hq])).bind Y.pure)
  cases ps with
  |nil=>exact .inl hr
  |cons q ps=>exact .inr ⟨_,rfl⟩
def Y.pred {ts:List Tk}{a:X}{r:List Tk}{d:Int}(h:SPred ts a):Y vm ⟨ts++r,d⟩ a ⟨r,d⟩:=by
 unfold vm
 cases h with
 |mk=>exact Y.nA.bind (Y.jq.bind Y.pure)
def Y.head {ts:List Tk}{a:X}{r:List Tk}{d:Int}(h:uP I ts a):Y (xK k) ⟨ts++r,d⟩ a ⟨r,d⟩:=by
 have sh:∀{x:X} {r:List Tk} {d:Int},Y (cA bB >>= fun _=>(pure x:PM X)) ⟨kw I bB::r,d+1⟩ x ⟨r,d⟩:=(Y.shut (.inl rfl)).bind Y.pure;have st:∀{x:PM X} {t:Tk} {b:X} {r:List Tk} {d:Int} {s2:PS},Y x ⟨r,d+1⟩ b s2→∀{w1 w2:X},True:=fun _ _ _=>trivial;unfold xK
 cases h with
 |name h=>
  cases h with
  |plain=>exact Y.get (Y.pos rfl (Y.step.bind Y.pure))
  |list=>
   refine Y.get (Y.neg (gr _ ai ai) (Y.B7 (.inr (.inl rfl)) (Y.pos rfl ?_)));exact Y.bind (Y.get (Y.neg (gr _ ai ai) Y.pure)) ((Y.shut (.inr (.inl rfl))).bind Y.pure)
  |unit=>
   refine Y.get (Y.neg (gr _ ai ai) (Y.no (ew ai) (Y.neg ai (Y.open_ (.inl rfl) ?_))));exact Y.get (Y.neg (gr _ ai ai) (Y.get (Y.neg (gr _ ai ai) (Y.no (ew ai) (Y.neg ai (Y.get (Y.neg (ZZ ai) sh)))))))
  |pair=>
   refine Y.get (Y.neg (gr _ ai ai) (Y.no (ew ai) (Y.neg ai (Y.open_ (.inl rfl) ?_))));exact Y.get (Y.neg (gr _ ai ai) (Y.get (Y.neg (gr _ ai ai) (Y.no (ew ai) (Y.neg ai (Y.get (Y.pos (by show bk ⟨kw I bD::_,d+1⟩ [bD]=true;rw[dE];decide) (Y.VU.bind sh))))))))
  |triple=>
   refine Y.get (Y.neg (gr _ ai ai) (Y.no (ew ai) (Y.neg ai (Y.open_ (.inl rfl) ?_))));exact Y.get (Y.neg (gr _ ai ai) (Y.get (Y.neg (gr _ ai ai) (Y.no (ew ai) (Y.neg ai (Y.get (Y.pos (by show bk ⟨kw I bD::_,d+1⟩ [bD]=true;rw[dE];decide) (Y.Vl.bind sh))))))))
  |arrow=>
   refine Y.get (Y.neg (gr _ ai ai) (Y.no (ew ai) (Y.neg ai (Y.open_ (.inl rfl) ?_))));exact Y.get (Y.neg (gr _ ai ai) (Y.get (Y.neg (gr _ ai ai) (Y.yes ai ai (Y.pos rfl sh)))))
 |lst=>
  refine Y.get (Y.neg (gr _ ai ai) (Y.B7 (.inr (.inl rfl)) (Y.pos rfl ?_)));exact Y.bind (Y.get (Y.pos rfl (Y.jq.bind Y.pure))) ((Y.shut (.inr (.inl rfl))).bind Y.pure)
 |pair=>
  refine Y.get (Y.neg (gr _ ai ai) (Y.no (ew ai) (Y.neg ai (Y.open_ (.inl rfl) ?_))));refine Y.get (Y.neg (B_ _ ai) (Y.get (Y.pos rfl (Y.jq.bind (Y.no (ew ai) (Y.neg ai ?_))))));exact (Y.take ai ai).bind (Y.jq.bind (Y.no (ew ai) (Y.neg ai sh)))
 |triple=>
  refine Y.get (Y.neg (gr _ ai ai) (Y.no (ew ai) (Y.neg ai (Y.open_ (.inl rfl) ?_))));refine Y.get (Y.neg (B_ _ ai) (Y.get (Y.pos rfl (Y.jq.bind (Y.no (ew ai) (Y.neg ai ?_))))));exact (Y.take ai ai).bind (Y.jq.bind (Y.yes ai ai (Y.pos rfl (Y.jq.bind sh))))
 |arrow=>
  refine Y.get (Y.neg (gr _ ai ai) (Y.no (ew ai) (Y.neg ai (Y.open_ (.inl rfl) ?_))));exact Y.get (Y.neg (B_ _ ai) (Y.get (Y.pos rfl (Y.jq.bind (Y.yes ai ai (Y.pos rfl (Y.jq.bind sh)))))))
 | @app s vs=>
  refine Y.get (Y.neg (gr _ ai ai) (Y.no (ew ai) (Y.neg ai (Y.open_ (.inl rfl) ?_))));refine Y.get (Y.pos rfl (Y.step.bind ?_));show Y _ ⟨wU vs++[kw I bB]++r,d+1⟩ _ _;rw[eG];exact (Y.yK (by rw[List.singleton_append,w_ rfl rfl]) k vs (d+1)).bind sh
def arC {r:List Tk}(h:pC I r):vH r:=by
 obtain⟨r',rfl|rfl⟩:=h<;>exact DV ai
def Y.kQ {r:List Tk}{d:Int}{ps:List TP}(hr:pC I r)(h0:ps≠[])(h:∀p∈ps,ku I p.1 p.2):Y (lX rj k) ⟨bq I bD ps++r,d⟩ (aD ps) ⟨r,d⟩:=
 Y.GF (S:=fun _=>True) (fun _=>trivial) (D_ hr ai) trivial h0 fun p hp _ _ _=>Y.operator (h p hp)
def BE {w:List UInt8}{ws:List (List UInt8)}{r:List Tk}{d:Int}(h:ws.contains w=false):¬bk ⟨kw I w::r,d⟩ ws=true:=by rw[dE,h];decide
def HC {s:PS}(h:kS s=true){ws:List (List UInt8)}(hw:∀w∈ws,[lU,bY,eX,u1,qa,uV,ua,uh].contains w=false):bk s ws=false:=by
 cases h1:bk s ws with
 |false=>rfl
 |true=>
  obtain⟨h2,h3⟩:=yN h1;have:=rE h (hw _ h3);simp [bk,h2] at this
def Y.decl {ts:List Tk}{a:X}{r:List Tk}{d:Int}(h:nD I ts a)(hr:pC I r):Y (yw k) ⟨ts++r,d⟩ a ⟨r,d⟩:=by
 unfold yw
 cases h with
 | @data s vs ps h=>
  refine Y.get (Y.pos (by rw[ck,dE];decide) ?_);unfold Aq;refine Y.step.bind (Y.nA.bind ?_);show Y _ ⟨wU vs++Go.Proofs.YtdfccaonglmgpaaGreatDoor.mO I eQ ps++r,d⟩ _ _;rw[eG];refine (Y.yK ?_ k vs d).bind ((Y.mO hr k eQ d (.inl rfl) h).bind Y.pure)
  cases ps with
  |nil=>obtain⟨r',rfl|rfl⟩:=hr<;>exact w_ rfl rfl
  |cons p ps=>exact w_ rfl rfl
 | @cls s v ps h=>
  refine Y.get (Y.neg (BE ai) (Y.get (Y.pos (by rw[ck,dE];decide) ?_)));unfold AV;refine Y.step.bind (Y.nA.bind (Y.jq.bind (Y.yes ai ai (Y.pos rfl ?_))));have e1:(kw I cw::(bq I cn ps++[kw I cd])).append r=kw I cw::(bq I cn ps++(kw I cd::r)):=by show _++r=_;simp
  rw[e1];exact (Y.gJ (fun p hp r d hr=>Y.signed (h p hp) (arC hr)) fun p hp r d=>wL (api (h p hp))).bind Y.pure
 | @inst s hs h cs ps h1 h2 h3=>
  refine Y.get (Y.neg (BE ai) (Y.get (Y.neg (BE ai) (Y.get (Y.pos (by rw[ck,dE];decide) ?_)))));unfold AN;refine Y.step.bind ?_;have e1:(kw I bY::(bq I bD cs++kw I bB::kw I w5::⟨2,s,0⟩::(hs++kw I gj::kw I cw::(bq I cn ps++[kw I cd])))).append r=
    kw I bY::(bq I bD cs++(kw I bB::(kw I w5::(⟨2,s,0⟩::(hs++(kw I gj::(kw I cw::(bq I cn ps++(kw I cd::r))))))))):=by show _++r=_;simp
  rw[e1];refine Y.bind (b:=aD cs) (s1:=⟨⟨2,s,0⟩::(hs++(kw I gj::(kw I cw::(bq I cn ps++(kw I cd::r))))),d⟩) ?_ (Y.nA.bind ((Y.head h2).bind (Y.yes ai ai (Y.pos rfl (Y.bind ?_ Y.pure)))))
  ·refine Y.B7 (.inl rfl) (Y.pos rfl (Y.bind (b:=aD cs) ?_ ((Y.shut (I:=I) (.inl rfl)).bind ((Y.take (I:=I) ai ai).bind Y.pure))))
   cases cs with
   |nil=>exact Y.get (Y.pos (by rw[bq,cD,dE];decide) Y.pure)
   |cons p cs=>
    refine Y.get (Y.neg ?_ (Y.GF (S:=fun _=>True) (fun _=>trivial) (ew ai) trivial aw fun q hq _ _ _=>Y.pred (h1 q hq)));have hp:=h1 p aw;rw[bq];generalize p.1=t at hp ⊢;generalize p.2=n at hp
    cases hp with
    |mk=>rw[show bk ⟨[⟨2,_,0⟩,⟨1,_,0⟩]++ju I bD cs++_,d+1⟩ [bB]=false from u6 ai ai];decide
  ·exact Y.gJ (fun p hp r d _=>(gK k).eq r d (h3 p hp)) fun p hp r d=>Gu (h3 p hp)
 | @fix s n ps hs h0 h9 rp hp=>
  have hs':s=yr∨s=xJ∨s=xL:=by simpa using hs
  refine Y.get (Y.neg (BE (by rcases hs' with rfl|rfl|rfl<;>decide)) (Y.get (Y.neg (BE (by rcases hs' with rfl|rfl|rfl<;>decide)) (Y.get (Y.neg (BE (by rcases hs' with rfl|rfl|rfl<;>decide)) (Y.get (Y.pos (by rw[ck,dE];rcases hs' with rfl|rfl|rfl<;>decide) ?_)))))));unfold fixF;refine Y.step.bind (Y.get (Y.get (Y.neg ?_ (Y.nA.bind ((Y.kQ hr rp hp).bind Y.pure)))));have e0:(fa ⟨(⟨5,[],n⟩::bq I bD ps).append r,d⟩ 0).num=n:=rfl;rw[e0,aQ,not_and,cx];intro _;omega
 |eq h=>
  have hf:=Gu (r:=r) (d:=d) h;refine Y.get (Y.neg (by rw[HC hf ai];decide) (Y.get (Y.neg (by rw[HC hf ai];decide) (Y.get (Y.neg (by rw[HC hf ai];decide) (Y.get (Y.neg (by rw[HC hf ai];decide) ((gK k).eq r d h))))))))
def O8 {ts:List Tk}{a:X}{r:List Tk}{d:Int}(h:nD I ts a):∀w∈[yi,cn,cd],bk ⟨ts++r,d⟩ [w]=false:=by
 intro w hw;simp only[iS,jD,or_false] at hw
 cases h with
 |eq h=>exact rE (Gu h) (by rcases hw with rfl|rfl|rfl<;>decide)
 |fix hs _ _ _ _=>exact ew (by simp only[iS,jD,or_false] at hs;rcases hs with rfl|rfl|rfl<;>rcases hw with rfl|rfl|rfl<;>decide)
 |_=>exact ew (by rcases hw with rfl|rfl|rfl<;>decide)
def Y.item {ts:List Tk}{a:X}{r:List Tk}{d:Int}(h:Br I ts a):Y vP ⟨ts++r,d⟩ a ⟨r,d⟩:=by
 unfold vP
 cases h with
 |con=>exact Y.get (Y.pos rfl (Y.step.bind Y.pure))
 |var h=>
  refine Y.get (Y.neg ?_ ((Y.yo h).bind Y.pure))
  cases h with
  |plain=>exact B_ _ ai
  |op=>exact gr _ ai ai
def Y.items {ts:List Tk}{a:X}{r:List Tk}{d:Int}(h:yB I ts a)(hr:bk ⟨r,0⟩ [bY]=false):Y (xo k) ⟨ts++r,d⟩ a ⟨r,d⟩:=by
 unfold xo
 cases h with
 |none=>exact Y.get (Y.neg (by rw[show bk ⟨[]++r,d⟩ [bY]=false from hr];decide) Y.pure)
 | @some ps h=>
  refine Y.get (Y.pos (by rw[ck,dE];decide) (Y.open_ (.inl rfl) ?_));show Y _ ⟨bq I bD ps++[kw I bB]++r,d+1⟩ _ _;rw[eG];refine Y.bind (b:=aD ps) (s1:=⟨kw I bB::r,d+1⟩) ?_ ((Y.shut (.inl rfl)).bind Y.pure)
  cases ps with
  |nil=>exact Y.get (Y.pos (by rw[bq,cD,List.singleton_append,dE];decide) Y.pure)
  |cons p ps=>
   refine Y.get (Y.neg ?_ (Y.GF (S:=fun _=>True) (fun _=>trivial) (ew ai) trivial aw fun q hq _ _ _=>Y.item (h q hq)));have hp:=h p aw;rw[bq,eG];generalize p.1=t at hp ⊢;generalize p.2=n at hp
   cases hp with
   |con=>rw[List.singleton_append,u6 ai ai];decide
   |var h=>rw[wG (NP h) ai];decide
def Yo:∀{ps:List TP} {b:List X×List X},(∀p∈ps,nD I p.1 p.2)→Steps I (mV k) b (ps.map Prod.fst) (b.1,b.2++aD ps)
 | [],b,_=>by simpa [aD] using Steps.nil
 |p::ps,b,h=>by
  have hp:=h p aw;refine .cons (b1:=(b.1,b.2++[p.2])) (fun r d hr=>?_) (fun r d=>⟨O8 hp _ aw,O8 hp _ aw⟩) ?_
  ·unfold mV;refine Y.get (Y.neg ?_ ((Y.decl hp hr).bind Y.pure));rw[O8 hp yi aw,Bool.and_false];decide
  ·have:=Yo (ps:=ps) (b:=(b.1,b.2++[p.2])) fun q hq=>h q (by simp [hq])
   simpa [aD] using this
def Xo:∀{is ps:List TP} {l:List X},(∀p∈is,BZ I p.1 p.2)→(∀p∈ps,nD I p.1 p.2)→Steps I (mV k) (l,[]) ((is++ps).map Prod.fst) (l++aD is,aD ps)
 | [],ps,l,_,h=>by simpa [aD] using Yo (k:=k) (b:=(l,[])) h
 |p::is,ps,l,hi,h=>by
  have hp:=hi p aw;refine .cons (b1:=(l++[p.2],[])) (fun r d hr=>?_) (fun r d=>?_) ?_
  ·generalize p.1=t at hp ⊢;generalize p.2=n at hp ⊢
   cases hp with
   |mk h=>
    unfold mV;refine Y.get (Y.pos (by rw[ck,dE];rfl) (Y.step.bind (Y.nA.bind ?_)));exact (Y.items h (D_ hr ai)).bind Y.pure
  ·generalize p.1=t at hp ⊢;generalize p.2=n at hp
   cases hp with
   |mk _=>exact⟨ew ai,ew ai⟩
  ·have:=Xo (is:=is) (ps:=ps) (l:=l++[p.2]) (fun q hq=>hi q (by simp [hq])) h
   simpa [aD] using this
def Y.module {s:List UInt8}{es:List Tk}{e:X}{is ps:List TP}{t:List UInt8}{n:Int}(he:yB I es e)(hi:∀p∈is,BZ I p.1 p.2)(h:∀p∈ps,nD I p.1 p.2):
  Y (qv k) ⟨kw I HW::⟨2,s,0⟩::(es++(kw I gj::kw I cw::(bq I cn (is++ps)++[kw I cd,⟨9,t,n⟩]))),0⟩ (ag 2 s [e,listed (aD is),listed (aD ps)]) ⟨[],0⟩:=by
 unfold qv;refine (Y.take ai ai).bind (Y.nA.bind ((Y.items he (ew ai)).bind ((Y.take ai ai).bind ?_)));refine Y.bind (b:=(aD is,aD ps)) (s1:=⟨[⟨9,t,n⟩],0⟩) ?_ (Y.nA.bind Y.pure);rw[YV];exact Y.block (by simpa using Xo (k:=k) (l:=[]) hi h)
end
section
variable (I:List UInt8→Bool) (kd:List UInt8→Int)
def bF (s:List UInt8):List Tk:=
 if s=ji then [kw I bY,kw I bB]
 else if s=gY then [kw I bY,kw I bD,kw I bB]
 else if s=gM then [kw I bY,kw I bD,kw I bD,kw I bB]
 else if s=lD then [kw I eX,kw I iI]
 else if s=dC then [kw I bY,kw I dC,kw I bB]
 else if kd s=0 then []
 else if kd s=3∨kd s=4 then [kw I bY,⟨kd s,s,0⟩,kw I bB]
 else [⟨kd s,s,0⟩]
def Gl (k:Int)(s:List UInt8):List Tk:=
 if k=0 then []
 else if k=3∨k=4 then [⟨k,s,0⟩]
 else [kw I my,⟨k,s,0⟩,kw I my]
def mx (o:X):List Tk:=Gl I (kd o.name) o.name
mutual
def au:X→TP
 | .mk k s n l=>
  if k=18∨k=42 then (bF I kd s,ag 18 s [])
  else if k=19 then (bF I kd s,ag 19 s [])
  else if k=20∨k=44 then ([⟨5,[],n⟩],.mk 20 [] n [])
  else if k=21∨k=45 then ([⟨6,s,0⟩],ag 21 s [])
  else if k=43 then ([kw I lU],ag 38 [] [])
  else if k=50 then (bF I kd s++kw I tG::ie I (bI l),ag 39 s (aD (bI l)))
  else if k=46 then (bF I kd s++ie I (bI l),fg (ag 19 s []::aD (bI l)))
  else if k=22 then (ie I (bI l),fg (aD (bI l)))
  else if k=23∨k=47 then (match l with
    | []=>([],cc)
    |a::l'=>(cY I (au a).1++kQ (eY l'),ag 23 [] ((au a).2::fU (eY l'))))
  else if k=31∨k=48 then (kw I bY::(bq I bD (bI l)++[kw I bB]),ag 31 [] (aD (bI l)))
  else if k=32∨k=49 then (kw I eX::(bq I bD (bI l)++[kw I iI]),ag 32 [] (aD (bI l)))
  else if k=35∨k=51 then (bF I kd s++(kw I cw::(bq I bD (fH l)++[kw I cd])),ag 35 s (aD (fH l)))
  else if k=36 then (match l with
    | []=>([],cc)
    |a::l'=>(kw I bY::((au a).1++(kw I bB::kw I cw::(bq I bD (fH l')++[kw I cd]))),ag 36 [] ((au a).2::aD (fH l'))))
  else if k=33 then (match l with
    |a::o::_=>(kw I bY::(cY I (au a).1++(mx I kd o++[kw I bB])),ag 33 [] [(au a).2,o])
    |_=>([],cc))
  else if k=34 then (match l with
    |o::a::_=>(kw I bY::(mx I kd o++(cY I (au a).1++[kw I bB])),ag 34 [] [o,(au a).2])
    |_=>([],cc))
  else if k=25 then (match l with
    | .mk _ _ _ ps::e::_=>(kw I u1::(ie I (bI ps)++(kw I dC::(au e).1)),ag 25 [] [listed (aD (bI ps)),(au e).2])
    |_=>([],cc))
  else if k=26 then (match l with
    | .mk _ _ _ qs::e::_=>(kw I qa::kw I cw::(bq I cn (cU qs)++(kw I cd::kw I yD::(au e).1)),ag 26 [] [listed (aD (cU qs)),(au e).2])
    |_=>([],cc))
  else if k=27 then (match l with
    |a::b::c::_=>(kw I uV::((au a).1++(kw I zK::((au b).1++(kw I BP::(au c).1)))),ag 27 [] [(au a).2,(au b).2,(au c).2])
    |_=>([],cc))
  else if k=28 then (match l with
    | []=>([],cc)
    |a::l'=>(kw I ua::((au a).1++(kw I AM::kw I cw::(bq I cn (kY l')++[kw I cd]))),ag 28 [] ((au a).2::aD (kY l'))))
  else if k=30 then (kw I uh::kw I cw::(bq I cn (kU l)++[kw I cd]),ag 30 [] (aD (kU l)))
  else if k=40 then (match l with
    |a::e::_=>(cY I (au a).1++(kw I Di::(au e).1),ag 40 [] [(au a).2,(au e).2])
    |_=>([],cc))
  else if k=41 then (match l with
    | .mk _ _ _ qs::_=>(kw I qa::kw I cw::(bq I cn (cU qs)++[kw I cd]),ag 41 [] [listed (aD (cU qs))])
    |_=>([],cc))
  else ([],cc)
def bI:List X→List TP
 | []=>[]
 |a::l=>au a::bI l
def eY:List X→List (TP×TP)
 | []=>[]
 |o::l=>(match l with
   | []=>[]
   |a::l'=>((mx I kd o,o),(cY I (au a).1,(au a).2))::eY l')
def fH:List X→List TP
 | []=>[]
 |f::l=>jn f::fH l
def jn:X→TP
 | .mk _ s _ l=>(match l with
   |e::_=>(bF I kd s++(kw I eQ::(au e).1),ag 37 s [(au e).2])
   | []=>([],cc))
def kY:List X→List TP
 | []=>[]
 |a::l=>jS a::kY l
def jS:X→TP
 | .mk _ _ _ l=>(match l with
   |p::r::_=>(cY I (au p).1++(eS dC r).1,ag 29 [] [(au p).2,(eS dC r).2])
   |_=>([],cc))
def kU:List X→List TP
 | []=>[]
 |a::l=>(if a.kind=40∨a.kind=41 then au a else (cY I (au a).1,(au a).2))::kU l
def eS:List UInt8→X→TP
 |w,.mk _ _ _ l=>(match l with
   | .mk _ _ _ gs::.mk _ _ _ qs::_=>(fy (f_ w gs)++(kw I gj::kw I cw::(bq I cn (cU qs)++[kw I cd])),ag 16 [] [listed (aD (f_ w gs)),listed (aD (cU qs))])
   |_=>([],cc))
def f_:List UInt8→List X→List TP
 |_,[]=>[]
 |w,g::l=>mj w g::f_ w l
def mj:List UInt8→X→TP
 |w,.mk _ _ _ l=>(match l with
   |c::e::_=>(if c.kind=0 then (kw I w::(au e).1,ag 17 [] [cc,(au e).2]) else (kw I mW::((au c).1++(kw I w::(au e).1)),ag 17 [] [(au c).2,(au e).2]))
   |_=>([],cc))
def cU:List X→List TP
 | []=>[]
 |d::l=>e_ d++cU l
def e_:X→List TP
 | .mk k s _ l=>if k=15 then (match l with
     |p::r::_=>[(cY I (au p).1++(eS eQ r).1,ag 15 [] [(au p).2,(eS eQ r).2])]
     |_=>[])
  else fQ s l
def fQ:List UInt8→List X→List TP
 |_,[]=>[]
 |s,c::l=>jF s c::fQ s l
def jF:List UInt8→X→TP
 |s,.mk _ _ _ l=>(match l with
   | .mk _ _ _ ps::r::_=>((bF I kd s++ie I (bI ps))++(eS eQ r).1,ag 15 [] [fg (ag 18 s []::aD (bI ps)),(eS eQ r).2])
   |_=>([],cc))
end
end
section
variable {I:List UInt8→Bool} {kd:List UInt8→Int} {sp:List UInt8→Int→Bool}
def j9 (sp:List UInt8→Int→Bool)(kd:List UInt8→Int):Prop:=∀s k,1≤k→k≤4→sp s k=true→kd s=k∧kE s=none
def ad_ {s:List UInt8}(h:kE s=none):s≠ji∧s≠gY∧s≠gM∧s≠lD∧s≠dC:=by
 unfold kE at h;refine⟨?_,?_,?_,?_,?_⟩<;>intro e<;>subst e<;>revert h<;>decide
def BL {s:List UInt8}{k:Int}(hK:j9 sp kd)(h1:1≤k)(h4:k≤4)(h:sp s k=true):bF I kd s=if k=3∨k=4 then [kw I bY,⟨k,s,0⟩,kw I bB] else [⟨k,s,0⟩]:=by
 obtain⟨e,hf⟩:=hK s k h1 h4 h;obtain⟨g1,g2,g3,g4,g5⟩:=ad_ hf;unfold bF;rw[if_neg g1,if_neg g2,if_neg g3,if_neg g4,if_neg g5,e,if_neg V]
def Bj {s:List UInt8}(hK:j9 sp kd)(h:qj sp s=true):bF I kd s=[⟨1,s,0⟩]:=BL hK V V h
def vg {s:List UInt8}(hK:j9 sp kd)(h:gg sp s=true):bF I kd s=[⟨2,s,0⟩]:=BL hK V V h
def zX {s:List UInt8}(hK:j9 sp kd)(h:isVar sp s=true):uH I (bF I kd s) s:=by
 simp only[isVar,fW] at h;rcases h with h|h
 ·rw[BL hK V V h];exact .plain
 ·rw[BL hK V V h];exact .op
def OH {s:List UInt8}(hK:j9 sp kd)(h:se sp s=true):xY I (bF I kd s) s:=by
 simp only[se,fW] at h;rcases h with h|h
 ·rw[BL hK V V h];exact .plain
 ·rw[BL hK V V h];exact .op
def aic {ts:List Tk}{s:List UInt8}(h:xY I ts s):rC I ts s:=by
 cases h with
 |plain=>exact .plain
 |op=>exact .op
def Iw {s:List UInt8}(hK:j9 sp kd)(h:kX sp s=true):rC I (bF I kd s) s:=by
 simp only[kX,fW] at h;rcases h with h|h
 ·exact aic (OH (I:=I) hK h)
 ·have:=List.contains_iff_mem.1 h;simp only[iS,jD,or_false] at this;rcases this with rfl|rfl|rfl
  ·exact .unit
  ·exact .pair
  ·exact .triple
def Ul {s:List UInt8}(hK:j9 sp kd)(h:qQ sp s=true):tA I (bF I kd s) s:=by
 simp only[qQ,fW] at h;rcases h with h|h
 ·rw[vg hK h];exact .plain
 ·have:=List.contains_iff_mem.1 h;simp only[iS,jD,or_false] at this;rcases this with rfl|rfl|rfl|rfl|rfl
  ·exact .unit
  ·exact .pair
  ·exact .triple
  ·exact .list
  ·exact .arrow
def Ch {o:X}(hK:j9 sp kd)(h:eK sp o=true):ku I (mx I kd o) o:=by
 obtain⟨h1,h2,h3⟩:=z8 h;obtain⟨k,s,n,l⟩:=o;simp only[X.kind,X.ae,X.n] at h1 h2 h3;subst h1 h2;simp only[eK,X.kind,X.n,X.name,X.ae,aQ,fW,cx,se,isVar] at h;show ku I (Gl I (kd s) s) _;rcases h.2 with ⟨hn,hs|hs⟩| ⟨hn,hs|hs⟩<;>rw[(hK s _ V V hs).1]<;>(have hn:=j4 hn;subst hn)
 ·exact .tick (.inr ⟨rfl,rfl⟩)
 ·exact .sign (.inr ⟨rfl,rfl⟩)
 ·exact .tick (.inl ⟨rfl,rfl⟩)
 ·exact .sign (.inl ⟨rfl,rfl⟩)
def AB (I:List UInt8→Bool)(p:TP):TP:=(cY I p.1,p.2)
def NO:∀ps:List TP,ie I ps=fy (ps.map (AB I))
 | []=>rfl
 |p::ps=>by rw[ie,bf,fy,NO ps];rfl
def PK (ps:List TP):aD (ps.map (AB I))=aD ps:=by simp [aD,AB]
def Ut {p:TP}(h:dS I p.1 p.2):iQ I (AB I p).1 (AB I p).2:=.paren h
def Vv {ps:List TP}(h:∀p∈ps,dS I p.1 p.2):∀p∈ps.map (AB I),jK I p.1 p.2:=fun p hp=>by
 obtain⟨q,hq,rfl⟩:=List.mem_map.1 hp;exact .base (Ut (h q hq))
def ma {ts:List Tk}{e:X}(h:iQ I ts e):dS I ts e:=by
 simpa [fy,fg,aD] using dS.opnd (pJ.atoms (ps:=[]) (.base h) aw)
def IF {ts:List Tk}{e:X}(h:jK I ts e):dS I ts e:=by
 simpa [fy,fg,aD] using dS.opnd (pJ.atoms (ps:=[]) h aw)
def Od {ts:List Tk}{e:X}{ps:List TP}(h:iQ I ts e)(hp:∀p∈ps,dS I p.1 p.2):dS I (ts++ie I ps) (fg (e::aD ps)):=by
 rw[NO,←PK (I:=I)];exact .opnd (.atoms (.base h) (Vv hp))
def Io:∀l:List X,(bI I kd l).length=l.length
 | []=>by simp [bI]
 |a::l=>by simp [bI,Io l]
def WM {P:X→Prop}{Q:TP→Prop}(h:∀a,P a→Q (au I kd a)):∀l,(∀a∈l,P a)→∀p∈bI I kd l,Q p
 | [],_=>by simp [bI]
 |a::l,hl=>by
  rw[bI];intro p hp;rcases List.mem_cons.1 hp with rfl|hp
  ·exact h a (hl a aw)
  ·exact WM h l (fun x hx=>hl x (by simp [hx])) p hp
def sA {a:X}:∀{l:List X},a∈l→aL a<aJ l
 |x::l,h=>by
  rw[aJ];rcases List.mem_cons.1 h with rfl|h
  ·omega
  ·have:=sA h;omega
end
section
variable {I:List UInt8→Bool} {kd:List UInt8→Int} {sp:List UInt8→Int→Bool}
structure WK (I:List UInt8→Bool)(kd:List UInt8→Int)(sp:List UInt8→Int→Bool)(m:Nat):Prop where
 exp:∀n,aL n≤m→bu sp n=true→dS I (au I kd n).1 (au I kd n).2∧(n.kind≠19→(au I kd n).2.kind≠19)
 pat:∀n,aL n≤m→cK sp n=true→dS I (au I kd n).1 (au I kd n).2
 fld:∀f,aL f≤m→qS sp f=true∨r6 sp f=true→u2 I (jn I kd f).1 (jn I kd f).2
 alt:∀f,aL f≤m→qu sp f=true→Eo I (jS I kd f).1 (jS I kd f).2
 stm:∀f,aL f≤m→oX sp f=true→vO I (if f.kind=40∨f.kind=41 then au I kd f else (cY I (au I kd f).1,(au I kd f).2)).1 (if f.kind=40∨f.kind=41 then au I kd f else (cY I (au I kd f).1,(au I kd f).2)).2
 rhs:∀w r,aL r≤m→fD sp r=true→zo I w (eS I kd w r).1 (eS I kd w r).2
 eq:∀d,aL d≤m→dT sp d=true→∀p∈e_ I kd d,rk I p.1 p.2
def Nn {m:Nat}{E:X→Prop}{op:X→Bool}(hE:∀a,aL a≤m→E a→dS I (au I kd a).1 (au I kd a).2)(hop:∀o,op o=true→ku I (mx I kd o) o):
  ∀(l:List X),aJ l≤m→(∀i o,l[2 * i]?=some o→op o=true)→(∀i a,l[2 * i+1]?=some a→E a)→(∀q∈eY I kd l,ku I q.1.1 q.1.2)∧∀q∈eY I kd l,jK I q.2.1 q.2.2
 | [],_,_,_=>by simp [eY]
 | [o],_,_,_=>by simp [eY]
 |o::a::l,hm,h1,h2=>by
  simp only[aJ] at hm;have ih:=Nn (m:=m) hE hop l V (fun i o h=>h1 (i+1) o (by simpa [Nat.mul_add] using h)) (fun i a h=>h2 (i+1) a (by rw[show 2 * (i+1)+1=2 * i+1+2 by omega];simpa using h));simp only[eY];have e1:=hop o (h1 0 o rfl);have e2:=hE a V (h2 0 a rfl);refine⟨fun q hq=>?_,fun q hq=>?_⟩
  ·rcases List.mem_cons.1 hq with rfl|hq
   ·exact e1
   ·exact ih.1 q hq
  ·rcases List.mem_cons.1 hq with rfl|hq
   ·exact .base (Ut (p:=au I kd a) e2)
   ·exact ih.2 q hq
def OI {f:X→Bool}{g h:List X→Bool}(hg:∀a l,g (a::l)=true→h l=true)(uC:g []=false){E:X→Prop}(hE:∀a l,g (a::l)=true→E a)(hh:∀o l,h (o::l)=true→f o=true∧g l=true):
  ∀l,h l=true→(∀i o,l[2 * i]?=some o→f o=true)∧(∀i a,l[2 * i+1]?=some a→E a)∧(l≠[]→eY I kd l≠[])
 | [],_=>⟨fun i o h=>by simp at h,fun i a h=>by simp at h,fun h=>absurd rfl h⟩
 | [o],hl=>by have:=(hh o [] hl).2;rw[uC] at this;cases this
 |o::a::l,hl=>by
  obtain⟨h1,h2⟩:=hh o _ hl;obtain⟨i1,i2,_⟩:=OI hg uC hE hh l (hg a l h2);refine⟨fun i o' hi=>?_,fun i a' hi=>?_,fun _=>by simp [eY]⟩
  ·cases i with
   |zero=>simp at hi;subst hi;exact h1
   |succ i=>exact i1 i o' (by simpa [Nat.mul_add] using hi)
  ·cases i with
   |zero=>simp at hi;subst hi;exact hE _ _ h2
   |succ i=>exact i2 i a' (by rw[show 2 * (i+1)+1=2 * i+1+2 by omega] at hi;simpa using hi)
def akl {a b:X}{ps:List X}:(fg (a::b::ps)).kind≠19:=by
 have key:∀(l:List X) (n:X),n.kind≠19→(l.foldl (fun n x=>ag 22 [] [n,x]) n).kind≠19:=by
  intro l
  induction l with
  |nil=>intro n hn;exact hn
  |cons a l ih=>intro n _;exact ih _ (by simp [ag,X.kind])
 exact key ps _ (by simp [ag,X.kind])
def GN {P:X→Prop}{Q:TP→Prop}{m:Nat}(h:∀a,aL a≤m→P a→Q (au I kd a)):∀l,aJ l≤m→(∀a∈l,P a)→∀p∈bI I kd l,Q p:=fun l hm hl=>
 WM (P:=fun a=>aL a≤m∧P a) (fun a ha=>h a ha.1 ha.2) l fun a ha=>⟨by have:=sA ha;omega,hl a ha⟩
def Eg {P:X→Prop}{Q:TP→Prop}{m:Nat}(h:∀a,aL a≤m→P a→Q (jn I kd a)):∀l,aJ l≤m→(∀a∈l,P a)→∀p∈fH I kd l,Q p
 | [],_,_=>by simp [fH]
 |a::l,hm,hl=>by
  rw[aJ] at hm;rw[fH];intro p hp;rcases List.mem_cons.1 hp with rfl|hp
  ·exact h a V (hl a aw)
  ·exact Eg h l V (fun x hx=>hl x (by simp [hx])) p hp
def NC {P:X→Prop}{Q:TP→Prop}{m:Nat}(h:∀a,aL a≤m→P a→Q (jS I kd a)):∀l,aJ l≤m→(∀a∈l,P a)→∀p∈kY I kd l,Q p
 | [],_,_=>by simp [kY]
 |a::l,hm,hl=>by
  rw[aJ] at hm;rw[kY];intro p hp;rcases List.mem_cons.1 hp with rfl|hp
  ·exact h a V (hl a aw)
  ·exact NC h l V (fun x hx=>hl x (by simp [hx])) p hp
def Mj {P:X→Prop}{Q:TP→Prop}{m:Nat}(h:∀a,aL a≤m→P a→Q (if a.kind=40∨a.kind=41 then au I kd a else (cY I (au I kd a).1,(au I kd a).2))):∀l,aJ l≤m→(∀a∈l,P a)→∀p∈kU I kd l,Q p
 | [],_,_=>by simp [kU]
 |a::l,hm,hl=>by
  rw[aJ] at hm;rw[kU];intro p hp;rcases List.mem_cons.1 hp with rfl|hp
  ·exact h a V (hl a aw)
  ·exact Mj h l V (fun x hx=>hl x (by simp [hx])) p hp
def Fa {P:X→Prop}{Q:TP→Prop}{m:Nat}(h:∀a,aL a≤m→P a→∀p∈e_ I kd a,Q p):∀l,aJ l≤m→(∀a∈l,P a)→∀p∈cU I kd l,Q p
 | [],_,_=>by simp [cU]
 |a::l,hm,hl=>by
  rw[aJ] at hm;rw[cU];intro p hp;rcases List.mem_append.1 hp with hp|hp
  ·exact h a V (hl a aw) p hp
  ·exact Fa h l V (fun x hx=>hl x (by simp [hx])) p hp
def I9 {n:X}(h:j7 sp n=true):∃l,n=listed l∧(∀d∈l,dT sp d=true)∧fX [] l=true:=by
 obtain⟨k,s,i,l⟩:=n;simp only[j7,aQ,cx,dQ] at h;obtain⟨⟨⟨⟨rfl,rfl⟩,rfl⟩,h4⟩,h5⟩:=h;exact⟨l,rfl,WN.1 h4,h5⟩
def zJ {l:List X}(h:oG sp l=true):∃e,l=[e]∧bu sp e=true:=by
 cases l with
 |nil=>simp [oG] at h
 |cons a l=>simp only[oG,aQ,dQ] at h;exact⟨a,by rw[h.2],h.1⟩
def Pq {l:List X}(h:tV sp l=true):∃e,l=[e]∧fD sp e=true:=by
 cases l with
 |nil=>simp [tV] at h
 |cons a l=>simp only[tV,aQ,dQ] at h;exact⟨a,by rw[h.2],h.1⟩
def WH {l:List X}(h:t_ sp l=true):∃e,l=[e]∧cK sp e=true:=by
 cases l with
 |nil=>simp [t_] at h
 |cons a l=>simp only[t_,aQ,dQ] at h;exact⟨a,by rw[h.2],h.1⟩
def Q3 {l:List X}(h:sZ sp l=true):∃e,l=[e]∧j7 sp e=true:=by
 cases l with
 |nil=>simp [sZ] at h
 |cons a l=>simp only[sZ,aQ,dQ] at h;exact⟨a,by rw[h.2],h.1⟩
def Tl {l:List X}(h:rX sp l=true):∃p r,l=[p,r]∧cK sp p=true∧fD sp r=true:=by
 cases l with
 |nil=>simp [rX] at h
 |cons a l=>
  simp only[rX,aQ] at h;obtain⟨r,rfl,hr⟩:=Pq h.2;exact⟨a,r,rfl,h.1,hr⟩
end
end Go.Proofs.YtdfccaonglmgpaaGreatDoor
