/- Q12 -/
import Derived.Test.YtdfccaonglmgpaaGreatDoorQ04
import Derived.Test.YtdfccaonglmgpaaGreatDoorQ11
import Derived.Test.YtdfccaonglmgpaaGreatDoorQ02
import Derived.Test.YtdfccaonglmgpaaGreatDoorQ01
import Derived.Test.YtdfccaonglmgpaaGreatDoorQ07
import Derived.Test.YtdfccaonglmgpaaGreatDoorQ10
import Derived.Test.YtdfccaonglmgpaaGreatDoorQ08
set_option linter.all false
namespace Go.Proofs.YtdfccaonglmgpaaGreatDoor
open Go
set_option maxHeartbeats 4000000
set_option maxRecDepth 100000
section
variable {t:Tok} {w:List UInt8} {k:Nat} {out o2:List Tok} {st:List ig}
theorem Lc (h:0≤(k:Int) - 1∧((st.getD (k - 1) fk).sort=[]∨(st.getD (k - 1) fk).sort=Br∧¬w=Xg)):iY st w k=iY st w (k - 1):=by
 obtain⟨m,rfl⟩:∃m,k=m+1:=⟨k - 1,by omega⟩;rw[iY];exact if_pos h.2
theorem HL (h:¬(0≤(k:Int) - 1∧((st.getD (k - 1) fk).sort=[]∨(st.getD (k - 1) fk).sort=Br∧¬w=Xg))):iY st w k=k:=by
 cases k with
 |zero=>rfl
 |succ m=>rw[iY];exact if_neg fun h2=>h ⟨by omega,h2⟩
theorem HH (h:¬jL (cj t)):jd t out st=(out,st):=by unfold jd;simp only[];rw[if_pos h]
theorem GY (h:¬¬jL (cj t))(hp:iY st (cj t) st.length=k)(h3:(k:Int) - 1<0∨¬mE (st.getD (k - 1) fk).sort (cj t)=true):jd t out st=(out,st):=by
 unfold jd;simp only[hp];rw[if_neg h,if_pos];rcases h3 with h|h
 ·exact .inl (by omega)
 ·exact .inr (by simpa using h)
def nZ (t:Tok)(l:List ig):List Tok:=(l.filter fun x=>decide (x.sort=[])).map fun _=>dN [125] t
theorem KF (t:Tok)(l:List ig):(nZ t l).length≤l.length:=by
 unfold nZ;rw[List.length_map];exact List.length_filter_le _ _
theorem I1 {i:Nat}{x:ig}(hk:k≤i)(hx:st[i]?=some x)(h:x.sort=[])(ho:o2=out++nZ t ((st.take i).drop k)):o2++[dN [125] t]=out++nZ t ((st.take (i+1)).drop k):=by
 have hkl:i<st.length:=(List.getElem?_eq_some_iff.1 hx).1;rw[List.take_add_one,hx,List.drop_append_of_le_length (by rw[List.length_take];omega),ho];simp [nZ,h]
theorem NF {i:Nat}{x:ig}(hk:k≤i)(hx:st[i]?=some x)(h:¬x.sort=[])(ho:o2=out++nZ t ((st.take i).drop k)):o2=out++nZ t ((st.take (i+1)).drop k):=by
 have hkl:i<st.length:=(List.getElem?_eq_some_iff.1 hx).1;rw[List.take_add_one,hx,List.drop_append_of_le_length (by rw[List.length_take];omega),ho];simp [nZ,h]
variable (h:¬¬jL (cj t)) (hp:iY st (cj t) st.length=k) (h3:¬((k:Int) - 1<0∨¬mE (st.getD (k - 1) fk).sort (cj t)=true)) (ho:o2=out++nZ t (st.drop k))
include h hp h3 ho
theorem xB:jd t out st=(if cj t=nG then (o2,(st.take k).set (k - 1) ⟨nG,(st.getD (k - 1) fk).cR⟩) else if ¬cj t=[44] then (o2,st.take (k - 1)) else (o2,st.take k)):=by
 unfold jd;simp only[hp];rw[if_neg h,if_neg]
 ·rw[ho];rfl
 ·rintro (h|h)
  ·exact h3 (.inl (by omega))
  ·exact h3 (.inr (by simpa using h))
theorem RF (h4:cj t=nG)(hk:k≤st.length):jd t out st=(o2,(st.take k).set (k - 1) ⟨nG,((st.take k).getD (k - 1) fk).cR⟩):=by
 rw[xB h hp h3 ho,if_pos h4]
 congr 3
 rw[List.getD_eq_getElem?_getD,List.getD_eq_getElem?_getD,List.getElem?_take,if_pos (by have:=not_or.1 h3;omega)]
theorem SU (h4:¬cj t=nG)(h5:¬cj t=[44]):jd t out st=(o2,(st.take k).take (k - 1)):=by
 rw[xB h hp h3 ho,if_neg h4,if_pos h5,List.take_take,Nat.min_eq_left (by omega)]
theorem Qe (h4:¬cj t=nG)(h5:¬¬cj t=[44]):jd t out st=(o2,st.take k):=by
 rw[xB h hp h3 ho,if_neg h4,if_neg h5]
end
theorem Jr (t:Tok)(out:List Tok)(st:List ig):(jd t out st).1.length+(jd t out st).2.length≤out.length+st.length:=by
 have e:∀k,iY st (cj t) st.length=k→(jd t out st).1.length+(jd t out st).2.length≤out.length+st.length:=by
  intro k hp
  by_cases h:jL (cj t)
  ·by_cases h3:(k:Int) - 1<0∨¬mE (st.getD (k - 1) fk).sort (cj t)=true
   ·rw[GY (fun e=>e h) hp h3];exact Nat.le_refl _
   ·rw[xB (fun e=>e h) hp h3 rfl];have:=KF t (st.drop k);rw[List.length_drop] at this;have hkk:k≤st.length∨st.length≤k:=by omega
    split
    ·simp;omega
    ·split<;>simp<;>omega
  ·rw[HH h];exact Nat.le_refl _
 exact e _ rfl
set_option maxHeartbeats 1000000 in
theorem KS (w0:World)(bs:Nat)(vo0 vs0:Value)(ek:List Tok)(st0:List ig)(dd:gT)(hA:bx w0 [.ob bs 85 (vo0::vs0::aJ dd),aT vo0 44 aK ek,aT vs0 115 gy st0])(hn:ek.length+st0.length≤1000000000000)(t:Tok):bI Tryz.prog 93 #[ptr (aj bs),.agg (aK.cells t).toArray] w0 (fun v w'=>∃(vo vs:Value) (out:List Tok) (st:List ig),v=.tuple #[]∧jd t ek st0=(out,st)∧St w0 (ak [.ob bs 85 (vo0::vs0::aJ dd),aT vo0 44 aK ek,aT vs0 115 gy st0]) w' [.ob bs 85 (vo::vs::aJ dd),aT vo 44 aK out,aT vs 115 gy st]):=by
 have hO:=St.init hA;refine cw Tryz.func93 Tryz.ntmps93 fun a hF=>?_;refine Zb 2 fun tk a w hO hF=>?_;refine Zc 0 (oK _ _) ?_;rintro a _ w ⟨rfl,hS⟩ hF;have hO:=hO.k0 hS;refine Zc 2 (AH _ _) ?_;rintro a _ w ⟨rfl,hS⟩ hF;have hO:=hO.k0 hS;refine Zi 1 (fun a hF hc1=>?_) fun a hF hc1=>?_
 ·refine Zr 0 ?_;have hO:=hO.d [0];exact⟨_,_,_,_,rfl,HH hc1,hO⟩
 ·refine Zg 4 (ew (hO.rd 3 rfl)) fun a hF=>?_;refine Zv 2 fun a hF=>?_;refine ax (fun (k:Nat) a w'=>(k≤st0.length∧iY st0 (cj t) k=iY st0 (cj t) st0.length)∧St w0 (ak [.ob bs 85 (vo0::vs0::aJ dd),aT vo0 44 aK ek,aT vs0 115 gy st0]) w' [.ob tk 44 (aK.cells t),.ob bs 85 (vo0::vs0::aJ dd),aT vo0 44 aK ek,aT vs0 115 gy st0]∧Fr a 116 [(0,ptr (aj bs)),(3,ptr (aj tk)),(4,str (cj t)),(5,i64 ((k:Int) - 1))]) (fun (k:Nat)=>k) st0.length ⟨⟨by omega,rfl⟩,hO,hF.sub ⟨rfl,rfl,rfl,rfl,trivial⟩⟩ ?_;rintro k a w ⟨⟨hk,hr⟩,hO,hF⟩;refine Zw 8 fun a hF=>?_;refine cL hF rfl rfl rfl rfl rfl rfl (fun hg=>kj (i:=k - 1) (hO.rd 3 rfl) Tryz.underlying83 Tryz.sizeOf115 rfl ((hF.eval rfl).trans (an hg)) (((hF.eval rfl).trans (an hg)).trans (congrArg i64 (show (k:Int) - 1=((k - 1:Nat):Int) by have:=(iJ hg);omega))) (by have:=(iJ hg);omega)) fun a hF=>?_;refine Zw 1 fun a hF=>?_;refine cL hF rfl rfl rfl rfl rfl rfl (fun hg=>bO Tryz.isAgg9 rfl ((hF.eval rfl).trans (an hg)) (bF.cells (hO.gD 3 rfl) (sQ (d:=fk) (by have:=(iJ hg);omega)) _ _ rfl)) fun a hF=>?_;refine Zw 7 fun a hF=>?_;refine cL hF rfl rfl rfl rfl rfl rfl (fun hg=>kj (i:=k - 1) (hO.rd 3 rfl) Tryz.underlying83 Tryz.sizeOf115 rfl ((hF.eval rfl).trans (an hg)) (((hF.eval rfl).trans (an hg)).trans (congrArg i64 (show (k:Int) - 1=((k - 1:Nat):Int) by have:=(iJ (yL hg).1);omega))) (by have:=(iJ (yL hg).1);omega)) fun a hF=>?_;refine Zw 1 fun a hF=>?_;refine cL hF rfl rfl rfl rfl rfl rfl (fun hg=>bO Tryz.isAgg9 rfl ((hF.eval rfl).trans (an hg)) (bF.cells (hO.gD 3 rfl) (sQ (d:=fk) (by have:=(iJ (yL hg).1);omega)) _ _ rfl)) fun a hF=>?_;refine Zw 4 fun a hF=>?_;refine cL hF rfl rfl rfl rfl rfl rfl (fun hg=>dk rfl ((hF.eval rfl).trans (an hg)) rfl (fun hg2=>((hF.eval rfl).trans (mr hg hg2))) rfl) fun a hF=>?_;refine cL hF rfl rfl rfl rfl rfl rfl (fun hg=>uC rfl ((hF.eval rfl).trans (an hg)) rfl (fun hg2=>((hF.eval rfl).trans (mr hg hg2))) rfl) fun a hF=>?_;refine Zi 1 (fun a hF hc2=>?_) fun a hF hc2=>?_
  ·refine Zv 3 fun a hF=>?_;exact⟨k - 1,⟨⟨by omega,(Lc hc2).symm.trans hr⟩,hO,hF.sub ⟨rfl,rfl,rfl,(congrArg some (congrArg i64 (show (k:Int) - 1 - 1=((k - 1:Nat):Int) - 1 by have:=hc2.1;omega))),trivial⟩⟩,by have:=hc2.1;omega⟩
  ·have hpe:iY st0 (cj t) st0.length=k:=hr.symm.trans (HL hc2);refine Zw 8 fun a hF=>?_;refine cL hF rfl rfl rfl rfl rfl rfl (fun hg=>kj (i:=k - 1) (hO.rd 3 rfl) Tryz.underlying83 Tryz.sizeOf115 rfl ((hF.eval rfl).trans (an hg)) (((hF.eval rfl).trans (an hg)).trans (congrArg i64 (show (k:Int) - 1=((k - 1:Nat):Int) by have:=(sJ hg);omega))) (by have:=(sJ hg);omega)) fun a hF=>?_;refine Zw 1 fun a hF=>?_;refine cL hF rfl rfl rfl rfl rfl rfl (fun hg=>bO Tryz.isAgg9 rfl ((hF.eval rfl).trans (an hg)) (bF.cells (hO.gD 3 rfl) (sQ (d:=fk) (by have:=(sJ hg);omega)) _ _ rfl)) fun a hF=>?_;refine Zw 1 fun a hF=>?_;refine eg hO hF rfl rfl rfl rfl rfl rfl (fun hg=>du hF rfl rfl (kD trivial) Tryz.call133 (Pj _ _ _)) fun a w hO hF=>?_;refine cL hF rfl rfl rfl rfl rfl rfl (fun hg=>cY rfl ((hF.eval rfl).trans (an hg)) (bh _)) fun a hF=>?_;refine Zi 1 (fun a hF hc3=>?_) fun a hF hc3=>?_
   ·refine Zr 0 ?_;have hO:=hO.d [0];exact⟨_,_,_,_,rfl,GY hc1 hpe hc3,hO⟩
   ·refine Zv 3 fun a hF=>?_;refine ax (fun (y:Nat×List Tok×Value) a w'=>match y with| (i,o2,vo)=>(k≤i∧i≤st0.length∧o2=ek++nZ t ((st0.take i).drop k)∧o2.length≤ek.length+(i - k))∧St w0 (ak [.ob bs 85 (vo0::vs0::aJ dd),aT vo0 44 aK ek,aT vs0 115 gy st0]) w' [.ob tk 44 (aK.cells t),.ob bs 85 (vo::vs0::aJ dd),aT vo 44 aK o2,aT vs0 115 gy st0]∧Fr a 116 [(0,ptr (aj bs)),(3,ptr (aj tk)),(4,str (cj t)),(5,i64 ((k:Int) - 1)),(6,i64 i)]) (fun (y:Nat×List Tok×Value)=>match y with| (i,o2,vo)=>st0.length - i) (k,ek,vo0) ⟨⟨by omega,by omega,by rw[List.drop_of_length_le (by rw[List.length_take];omega)];simp [nZ],by omega⟩,hO,hF.sub ⟨rfl,rfl,rfl,rfl,(congrArg some (congrArg i64 (show (k:Int) - 1+1=(k:Int) by omega))),trivial⟩⟩ ?_;rintro⟨i,o2,vo⟩ a w ⟨⟨hki,hi,ho2,hol⟩,hO,hF⟩;refine Zg 5 (ew (hO.rd 3 rfl)) fun a hF=>?_;refine Zi 1 (fun a hF hc4=>?_) fun a hF hc4=>?_
    ·obtain⟨x,hx⟩:=cI (l:=st0) (i:=i) (by omega);refine Zg 5 (eB i (hO.rd 3 rfl) (by omega)) fun a hF=>?_;refine Zh 1 (hO.gD 3 rfl) hx fun a hF=>?_;refine Zi 1 (fun a hF hc5=>?_) fun a hF hc5=>?_
     ·refine Zv 2 fun a hF=>?_;have hO:=hO.q [1,1];refine Zc 0 (uV _ _ _ _ _ _ hO.ba _ _ (by omega)) ?_;rintro a _ w ⟨vo,rfl,hS⟩ hF;have hO:=hO.k2 hS;refine Zv 3 fun a hF=>?_;have hO:=hO.q [2];exact⟨(i+1,o2++[dN [125] t],_),⟨⟨by omega,by omega,I1 hki hx hc5 ho2,by simp;omega⟩,hO,hF.sub ⟨rfl,rfl,rfl,rfl,rfl,trivial⟩⟩,by dsimp only;omega⟩
     ·refine Zv 3 fun a hF=>?_;exact⟨(i+1,o2,vo),⟨⟨by omega,by omega,NF hki hx hc5 ho2,by omega⟩,hO,hF.sub ⟨rfl,rfl,rfl,rfl,rfl,trivial⟩⟩,by dsimp only;omega⟩
    ·obtain rfl:i=st0.length:=by omega
     rw[List.take_length] at ho2;refine Zv 7 fun a hF=>?_;refine ao hF rfl rfl rfl (uX (j:=k) (hO.rd 3 rfl) Tryz.underlying83 Tryz.sizeOf115 rfl (hF.eval rfl) ((hF.eval rfl).trans (congrArg i64 (show (k:Int) - 1+1=((k:Nat):Int) by omega))) (by omega)) fun a hF=>?_;have hO:=hO.CV (i:=3) (j:=k) rfl (by omega);have hO:=hO.nm;refine Zv 2 fun a hF=>?_;refine c_ hF rfl rfl (cK hO (i:=1) rfl Tryz.sizeOf83 rfl (hF.eval rfl) (hF.eval rfl) (aR (hO.bt 3 rfl)) rfl (hO.bt 3 rfl)) ?_;rintro a _ w ⟨-,hO⟩ hF;have hO:=hO.nm;refine Zi 2 (fun a hF hc6=>?_) fun a hF hc6=>?_
     ·refine Zv 5 fun a hF=>?_;refine ao hF rfl rfl rfl (kj (i:=k - 1) (hO.rd 3 rfl) Tryz.underlying83 Tryz.sizeOf115 rfl (hF.eval rfl) ((hF.eval rfl).trans (congrArg i64 (show (k:Int) - 1=((k - 1:Nat):Int) by have:=not_or.1 hc3;omega))) (by have:=not_or.1 hc3;rw[List.length_take];omega)) fun a hF=>?_;refine Zv 1 fun a hF=>?_;refine c_ hF rfl rfl (bm (m:=k - 1) (off:=0) (q:=⟨nG,((st0.take k).getD (k - 1) fk).cR⟩) hO (i:=3) rfl Tryz.sizeOf9 rfl ((hF.eval rfl).trans (congrArg ptr (iH _ _ _))) rfl (hF.eval rfl) rfl (sQ (d:=fk) (by rw[List.length_take];have:=not_or.1 hc3;omega)) rfl (Nat.le_of_ble_eq_true rfl) rfl (gA rfl)) ?_;rintro a _ w ⟨-,hO⟩ hF;have hO:=hO.nm;refine Zr 0 ?_;have hO:=hO.d [0];exact⟨_,_,_,_,rfl,RF hc1 hpe hc3 ho2 hc6 hk,hO⟩
     ·refine Zi 2 (fun a hF hc7=>?_) fun a hF hc7=>?_
      ·refine Zv 6 fun a hF=>?_;refine ao hF rfl rfl rfl (uX (j:=k - 1) (hO.rd 3 rfl) Tryz.underlying83 Tryz.sizeOf115 rfl (hF.eval rfl) ((hF.eval rfl).trans (congrArg i64 (show (k:Int) - 1=((k - 1:Nat):Int) by have:=not_or.1 hc3;omega))) (by rw[List.length_take];omega)) fun a hF=>?_;have hO:=hO.CV (i:=3) (j:=k - 1) rfl (by rw[List.length_take];omega);have hO:=hO.nm;refine Zv 2 fun a hF=>?_;refine c_ hF rfl rfl (cK hO (i:=1) rfl Tryz.sizeOf83 rfl (hF.eval rfl) (hF.eval rfl) (aR (hO.bt 3 rfl)) rfl (hO.bt 3 rfl)) ?_;rintro a _ w ⟨-,hO⟩ hF;have hO:=hO.nm;refine Zr 0 ?_;have hO:=hO.d [0];exact⟨_,_,_,_,rfl,SU hc1 hpe hc3 ho2 hc6 hc7,hO⟩
      ·refine Zr 0 ?_;have hO:=hO.d [0];exact⟨_,_,_,_,rfl,Qe hc1 hpe hc3 ho2 hc6 hc7,hO⟩
theorem ZP {p:Prop}{_:Decidable p}(h:jc (.bool (decide p)) true=false):¬p:=by simpa [jc] using h
theorem Fu (w0:World)(bs:Nat)(vo0 vs0:Value)(ek:List Tok)(st0:List ig)(dd:gT)(hA:bx w0 [.ob bs 85 (vo0::vs0::aJ dd),aT vo0 44 aK ek,aT vs0 115 gy st0])(hn:ek.length+st0.length≤1000000000000)(t:Tok):bI Tryz.prog 93 #[ptr (aj bs),.agg (aK.cells t).toArray] w0 (fun v w'=>∃(vo vs:Value) (out:List Tok) (st:List ig),v=.tuple #[]∧jd t ek st0=(out,st)∧out.length+st.length≤ek.length+st0.length∧St w0 (ak [.ob bs 85 (vo0::vs0::aJ dd),aT vo0 44 aK ek,aT vs0 115 gy st0]) w' [.ob bs 85 (vo::vs::aJ dd),aT vo 44 aK out,aT vs 115 gy st]):=
 (KS w0 bs vo0 vs0 ek st0 dd hA hn t).mono fun v w' ⟨vo,vs,out,st,h1,h2,hS⟩=>⟨vo,vs,out,st,h1,h2,by have:=Jr t ek st0;rw[h2] at this;exact this,hS⟩
section
variable {t ahead:Tok} {first p:Bool} {ek o o2 o3:List Tok} {st0 s s2 s3:List ig} {m:Int}
theorem I9 (hm:m=(if 0≤fO st0 st0.length then (st0.getD (fO st0 st0.length).toNat fk).cR else 0))(h:m<t.cR):o9 t ek st0=(ek++[dN [123] t],st0++[⟨[],t.cR⟩],true):=by
 unfold o9;simp only[];rw[←hm,if_pos h]
theorem K8 (hm:m=(if 0≤fO st0 st0.length then (st0.getD (fO st0 st0.length).toNat fk).cR else 0))(h:¬m<t.cR):o9 t ek st0=(ek++[dN [123] t]++[dN [125] t],st0,false):=by
 unfold o9;simp only[];rw[←hm,if_neg h]
theorem aaf (h1:kT (cj ahead))(h2:cj t=[123]):rS t ahead first ek st0=some (ek++[t],st0++[⟨[123,125],0⟩]):=by unfold rS;rw[if_pos ⟨h1,h2⟩]
variable (hno:¬(kT (cj ahead)∧cj t=[123])) (ho:(if kT (cj ahead) then o9 t ek st0 else (ek,st0,false))=(o,s,p))
include hno ho
theorem Nn (hl:(if first=true∧p=false then fS t t.cR (s.length+1) o s else some (o,s))=none):rS t ahead first ek st0=none:=by
 unfold rS;rw[if_neg hno];simp only[ho];rw[hl]
theorem J4 (hl:(if first=true∧p=false then fS t t.cR (s.length+1) o s else some (o,s))=some (o2,s2))(hc:jd t o2 s2=(o3,s3)):
  rS t ahead first ek st0=some (o3++[t],if wx (cj t) then s3++[⟨cj t,0⟩] else s3):=by
 unfold rS;rw[if_neg hno];simp only[ho];rw[hl];simp only[hc]
end
set_option maxHeartbeats 2000000 in
theorem J_ (w0:World)(bs:Nat)(vo0 vs0:Value)(ek:List Tok)(st0:List ig)(dd:gT)(hA:bx w0 [.ob bs 85 (vo0::vs0::aJ dd),aT vo0 44 aK ek,aT vs0 115 gy st0])(hn:ek.length+st0.length≤900000000000)(t ahead:Tok)(first:Bool):bI Tryz.prog 41 #[ptr (aj bs),.agg (aK.cells t).toArray,.agg (aK.cells ahead).toArray,.bool first] w0 (fun v w'=>∃(ok:Bool) (vo vs:Value) (out:List Tok) (st:List ig) (d:gT),v=.bool ok∧rS t ahead first ek st0=(if ok=true then some (out,st) else none)∧(ok=false→d=zj t)∧out.length+st.length≤ek.length+st0.length+6∧St w0 (ak [.ob bs 85 (vo0::vs0::aJ dd),aT vo0 44 aK ek,aT vs0 115 gy st0]) w' [.ob bs 85 (vo::vs::aJ d),aT vo 44 aK out,aT vs 115 gy st]):=by
 have hO:=St.init hA;refine cw Tryz.func41 Tryz.ntmps41 fun a hF=>?_;refine Zb 1 fun tt a w hO hF=>?_;refine Zu 3 fun ta a w hO hF=>?_;refine c8 ?_;refine vK ?_;refine j3 (fun (x:List Tok×List ig×Bool×Value×Value) a w'=>match x with| (out,st,p,vo,vs)=>((if kT (cj ahead) then o9 t ek st0 else (ek,st0,false))=(out,st,p)∧¬(kT (cj ahead)∧cj t=[123])∧out.length+st.length≤ek.length+st0.length+2)∧St w0 (ak [.ob bs 85 (vo0::vs0::aJ dd),aT vo0 44 aK ek,aT vs0 115 gy st0]) w' [.ob tt 44 (aK.cells t),.ob bs 85 (vo::vs::aJ dd),aT vo 44 aK out,aT vs 115 gy st]∧Fr a 134 [(0,ptr (aj bs)),(3,.bool first),(5,ptr (aj tt)),(9,.bool p)]) ?_ ?_
 ·refine Zc 1 (oK _ _) ?_;rintro a _ w ⟨rfl,hS⟩ hF;have hO:=hO.k0 hS;refine Zc 0 (zh _ _) ?_;rintro a _ w ⟨rfl,hS⟩ hF;have hO:=hO.k0 hS;refine Zi 0 (fun hc1=>?_) fun hc1=>?_
  ·refine Zc 1 (oK _ _) ?_;rintro a _ w ⟨rfl,hS⟩ hF;have hO:=hO.k0 hS;refine Zi 1 (fun a hF hc2=>?_) fun a hF hc2=>?_
   ·refine Zb 7 fun b1 a w hO hF=>?_;refine fN hF rfl rfl rfl (cO (bytes:=24) (r:=[⟨[123,125],0⟩]) hO (i:=5) rfl (hO.rd 0 rfl) Tryz.underlying83 k8 rfl rfl rfl rfl rfl rfl (hF.eval rfl) (hF.eval rfl) (by show (List.length _+1) * 24≤_;omega) (by show List.length _+1≤_;omega)) ?_;rintro a v26 w hO hF;have hO:=hO.nm;refine Zv 2 fun a hF=>?_;refine c_ hF rfl rfl (cK hO (i:=3) rfl Tryz.sizeOf83 rfl (hF.eval rfl) (hF.eval rfl) (aR (hO.bt 5 rfl)) rfl (hO.bt 5 rfl)) ?_;rintro a _ w ⟨-,hO⟩ hF;have hO:=hO.nm;refine Zd 0 [0,0,0,0,1,1,2,3,0,0,3] fun w hO=>?_;refine Zv 6 fun a hF=>?_;refine eI hF rfl rfl rfl (bM hF hO Tryz.underlying22 Tryz.sizeOf44 Tryz.zeroValue44 rfl rfl rfl rfl rfl rfl rfl) (fun _ _ ⟨_,_,hO⟩=>hO.tail) ?_;rintro a _ w ⟨b2,rfl,hO⟩ hF;refine jO hF rfl rfl rfl (cO (bytes:=48) (r:=[t]) hO (i:=5) rfl (hO.rd 0 rfl) Tryz.underlying22 fq rfl rfl rfl rfl rfl rfl (hF.eval rfl) (hF.eval rfl) (by show (List.length _+1) * 48≤_;omega) (by show List.length _+1≤_;omega)) ?_;rintro a v36 w hO hF;have hO:=hO.nm;refine Zv 2 fun a hF=>?_;refine yP hF rfl rfl (cK hO (i:=4) rfl Tryz.sizeOf22 rfl (hF.eval rfl) (hF.eval rfl) (aR (hO.bt 5 rfl)) rfl (hO.bt 5 rfl)) ?_;rintro a _ w ⟨-,hO⟩ hF;have hO:=hO.nm;refine Zr 1 ?_;have hO:=hO.d [0,0,0,0];exact⟨true,_,_,_,_,dd,rfl,aaf hc1 hc2,(fun h=>by cases h),by simp;omega,hO⟩
   ·refine Zv 2 fun a hF=>?_;have hO:=hO.q [2,3];refine Zc 0 (Aq _ _ _ _ _ _ hO.ba (by omega)) ?_;rintro a _ w ⟨rfl,hS⟩ hF;have hO:=hO.k2 hS;refine Zn 1 fun a hF=>?_;refine c8 ?_;refine vK ?_;refine j3 (fun (m:Int) a w'=>(m=(if 0≤fO st0 st0.length then (st0.getD (fO st0 st0.length).toNat fk).cR else 0))∧St w0 (ak [.ob bs 85 (vo0::vs0::aJ dd),aT vo0 44 aK ek,aT vs0 115 gy st0]) w' [.ob tt 44 (aK.cells t),.ob ta 44 (aK.cells ahead),.ob bs 85 (vo0::vs0::aJ dd),aT vo0 44 aK ek,aT vs0 115 gy st0]∧Fr a 134 [(0,ptr (aj bs)),(3,.bool first),(5,ptr (aj tt)),(6,ptr (aj ta)),(9,.bool false),(10,i64 m)]) ?_ ?_
    ·refine Zi 2 (fun a hF hc3=>?_) fun a hF hc3=>?_
     ·refine Zv 5 fun a hF=>?_;refine ao hF rfl rfl rfl (kj (i:=(fO st0 st0.length).toNat) (hO.rd 1 rfl) Tryz.underlying83 Tryz.sizeOf115 rfl (hF.eval rfl) ((hF.eval rfl).trans (congrArg i64 ((Int.toNat_of_nonneg hc3).symm))) (qJ (Int.toNat_of_nonneg hc3).symm)) fun a hF=>?_;refine Zh 1 (hO.gD 1 rfl) (sQ (d:=fk) (qJ (Int.toNat_of_nonneg hc3).symm)) fun a hF=>?_;refine Zv 1 fun a hF=>?_;have hO:=hO.q [3,2,0,1];exact⟨_,⟨(if_pos hc3).symm,hO,hF.sub ⟨rfl,rfl,rfl,rfl,rfl,rfl,trivial⟩⟩⟩
     ·have hO:=hO.q [3,2,0,1];refine Zv 0 ?_;exact⟨0,⟨(if_neg hc3).symm,hO,hF.sub ⟨rfl,rfl,rfl,rfl,rfl,rfl,trivial⟩⟩⟩
    ·rintro m a w ⟨hm,hO,hF⟩;refine Zv 2 fun a hF=>?_;have hO:=hO.q [2,2];refine Zc 0 (uV _ _ _ _ _ _ hO.ba _ _ (by omega)) ?_;rintro a _ w ⟨vo,rfl,hS⟩ hF;have hO:=hO.k2 hS;refine Zi 4 (fun a hF hc4=>?_) fun a hF hc4=>?_
     ·refine Zd 0 [0,0,0,0,1,0,1,0,2,3,0,0,3] fun w hO=>?_;refine Zv 8 fun a hF=>?_;refine eI hF rfl rfl rfl (bM hF hO Tryz.underlying83 Tryz.sizeOf115 Tryz.zeroValue115 rfl rfl rfl rfl rfl rfl rfl) (fun _ _ ⟨_,_,hO⟩=>hO.tail) ?_;rintro a _ w ⟨b3,rfl,hO⟩ hF;refine jO hF rfl rfl rfl (cO (bytes:=24) (r:=[⟨[],t.cR⟩]) hO (i:=5) rfl (hO.rd 0 rfl) Tryz.underlying83 k8 rfl rfl rfl rfl rfl rfl (hF.eval rfl) (hF.eval rfl) (by show (List.length _+1) * 24≤_;omega) (by show List.length _+1≤_;omega)) ?_;rintro a v67 w hO hF;have hO:=hO.nm;refine Zv 2 fun a hF=>?_;refine yP hF rfl rfl (cK hO (i:=1) rfl Tryz.sizeOf83 rfl (hF.eval rfl) (hF.eval rfl) (aR (hO.bt 5 rfl)) rfl (hO.bt 5 rfl)) ?_;rintro a _ w ⟨-,hO⟩ hF;have hO:=hO.nm;refine Zv 1 fun a hF=>?_;have hO:=(hO.d [0,3]).q [2];exact⟨(_,_,true,_,_),⟨⟨(if_pos hc1).trans (I9 hm hc4),fun h=>hc2 h.2,by simp;omega⟩,hO,hF.sub ⟨rfl,rfl,rfl,rfl,trivial⟩⟩⟩
     ·refine Zc 2 (uV _ _ _ _ _ _ hO.ba _ _ (by simp;omega)) ?_;rintro a _ w ⟨vo,rfl,hS⟩ hF;have hO:=hO.k2 hS;have hO:=(hO.d [3]).q [2];refine Zv 0 ?_;exact⟨(_,_,false,_,_),⟨⟨(if_pos hc1).trans (K8 hm hc4),fun h=>hc2 h.2,by simp;omega⟩,hO,hF.sub ⟨rfl,rfl,rfl,rfl,trivial⟩⟩⟩
  ·have hO:=hO.d [0];refine Zv 0 ?_;exact⟨(_,_,false,_,_),⟨⟨if_neg hc1,fun h=>hc1 h.1,by omega⟩,hO,hF.sub ⟨rfl,rfl,rfl,rfl,trivial⟩⟩⟩
 ·rintro⟨out,st,p,vo,vs⟩ a w ⟨⟨hop,hno,aiJ⟩,hO,hF⟩;refine Zw 3 fun a hF=>?_;refine cL hF rfl rfl rfl rfl rfl rfl (fun hg=>cY rfl ((hF.eval rfl).trans (an hg)) (bh _)) fun a hF=>?_;refine ao hF rfl rfl rfl (dk rfl (hF.eval rfl) (bh _) (fun hg2=>((hF.eval rfl).trans (an hg2))) rfl) fun a hF=>?_;refine Zw 5 fun a hF=>?_;have hO:=hO.q [1,1,1];refine VQ (fun (x:Bool×List Tok×List ig×gT×Value×Value) u w'=>match x with| (ok,jE,st2,d,vo,vs)=>u=.bool ok∧(if first=true∧p=false then fS t t.cR (st.length+1) out st else some (out,st))=(if ok=true then some (jE,st2) else none)∧(ok=false→d=zj t)∧jE.length+st2.length≤out.length+st.length+1∧St w0 (ak [.ob bs 85 (vo0::vs0::aJ dd),aT vo0 44 aK ek,aT vs0 115 gy st0]) w' [.ob bs 85 (vo::vs::aJ d),aT vo 44 aK jE,aT vs 115 gy st2,.ob tt 44 (aK.cells t)]) hF rfl rfl rfl rfl rfl rfl (fun hg=>eH.mono (du hF rfl rfl (kD trivial) Tryz.call45 (CQ _ _ _ _ _ _ _ hO.MN (by omega) _ _)) ?_) (fun hg=>?_) ?_
  ·rintro u w' ⟨ok,vo,vs,jE,st2,d,rfl,h1,h2,h3,hS⟩;exact⟨(ok,jE,st2,d,vo,vs),rfl,by rw[if_pos ⟨(iJ hg).1,by simpa using (iJ hg).2⟩];exact h1,h2,h3,hO.call3 hS⟩
  ·exact⟨(true,out,st,dd,vo,vs),_,rfl,if_neg (fun h=>ZP hg ⟨h.1,by simp [h.2]⟩),(fun h=>by cases h),by omega,hO⟩
  rintro⟨ok,jE,st2,dd2,vo,vs⟩ u a w ⟨rfl,hln,hbad,hlp,hO⟩ hF;refine cL hF rfl rfl rfl rfl rfl rfl (fun hg=>cY rfl ((hF.eval rfl).trans (an hg)) (bh _)) fun a hF=>?_;refine Zi 1 (fun a hF hc5=>?_) fun a hF hc5=>?_
  ·obtain rfl:ok=false:=by simpa using hc5.2
   refine Zr 1 ?_;have hO:=hO.d [3];exact⟨false,_,_,_,_,dd2,rfl,Nn hno hop hln,hbad,by omega,hO⟩
  ·obtain rfl:ok=true:=by
    cases ok with
    |true=>rfl
    |false=>
     by_cases hfp:first=true∧p=false
     ·exact absurd ⟨⟨hfp.1,by simp [hfp.2]⟩,by simp⟩ hc5
     ·rw[if_neg hfp] at hln;simp at hln
   replace hln:=hln.trans (if_pos rfl);refine Zc 2 (Fu _ _ _ _ _ _ _ hO.MN (by omega) _) ?_;rintro a _ w ⟨vo,vs,out,st,rfl,hcl,hcp,hS⟩ hF;have hO:=hO.k3 hS;refine Zd 0 [0,0,0,0,1,1,2,3,0,0,3] fun w hO=>?_;refine Zv 6 fun a hF=>?_;refine eI hF rfl rfl rfl (bM hF hO Tryz.underlying22 Tryz.sizeOf44 Tryz.zeroValue44 rfl rfl rfl rfl rfl rfl rfl) (fun _ _ ⟨_,_,hO⟩=>hO.tail) ?_;rintro a _ w ⟨b4,rfl,hO⟩ hF;refine jO hF rfl rfl rfl (cO (bytes:=48) (r:=[t]) hO (i:=2) rfl (hO.rd 0 rfl) Tryz.underlying22 fq rfl rfl rfl rfl rfl rfl (hF.eval rfl) (hF.eval rfl) (by show (List.length _+1) * 48≤_;omega) (by show List.length _+1≤_;omega)) ?_;rintro a v96 w hO hF;have hO:=hO.nm;refine Zv 2 fun a hF=>?_;refine yP hF rfl rfl (cK hO (i:=1) rfl Tryz.sizeOf22 rfl (hF.eval rfl) (hF.eval rfl) (aR (hO.bt 2 rfl)) rfl (hO.bt 2 rfl)) ?_;rintro a _ w ⟨-,hO⟩ hF;have hO:=hO.nm;refine Zc 1 (oK _ _) ?_;rintro a _ w ⟨rfl,hS⟩ hF;have hO:=hO.k0 hS;refine Zw 23 fun a hF=>?_;refine Zi 0 (fun hc6=>?_) fun hc6=>?_
   ·refine Zb 8 fun b5 a w hO hF=>?_;refine fN hF rfl rfl rfl (cO (bytes:=24) (r:=[⟨cj t,0⟩]) hO (i:=4) rfl (hO.rd 0 rfl) Tryz.underlying83 k8 rfl rfl rfl rfl rfl rfl (hF.eval rfl) (hF.eval rfl) (by show (List.length _+1) * 24≤_;omega) (by show List.length _+1≤_;omega)) ?_;rintro a v131 w hO hF;have hO:=hO.nm;refine Zv 2 fun a hF=>?_;refine c_ hF rfl rfl (cK hO (i:=2) rfl Tryz.sizeOf83 rfl (hF.eval rfl) (hF.eval rfl) (aR (hO.bt 4 rfl)) rfl (hO.bt 4 rfl)) ?_;rintro a _ w ⟨-,hO⟩ hF;have hO:=hO.nm;refine Zr 1 ?_;have hO:=hO.d [0,0,3];exact⟨true,_,_,_,_,dd2,rfl,(J4 hno hop hln hcl).trans (by rw[if_pos (show wx (cj t) from hc6)];rfl),(fun h=>by cases h),by simp;omega,hO⟩
   ·refine Zr 1 ?_;have hO:=hO.d [0,3];exact⟨true,_,_,_,_,dd2,rfl,(J4 hno hop hln hcl).trans (by rw[if_neg (show ¬wx (cj t) from hc6)];rfl),(fun h=>by cases h),by simp;omega,hO⟩
section
variable {ts l:List Tok} {e x ah:Tok} {i k:Nat}
theorem F_ (hx:ts[i]?=some x)(h:x.kind=9):fU (ts.drop i) e=([],x):=by
 obtain⟨hl,hx⟩:=List.getElem?_eq_some_iff.1 hx;rw[List.drop_eq_getElem_cons hl,hx,fU,if_pos h]
theorem Kd (hx:ts[i]?=some x)(h:¬x.kind=9):fU (ts.drop i) e=(x::(fU (ts.drop (i+1)) ⟨9,[],0,x.line,x.cR⟩).1,(fU (ts.drop (i+1)) ⟨9,[],0,x.line,x.cR⟩).2):=by
 obtain⟨hl,hx⟩:=List.getElem?_eq_some_iff.1 hx;rw[List.drop_eq_getElem_cons hl,hx,fU,if_neg h]
theorem RX {out jE:List Tok}{st st2:List ig}(hx:l[k]?=some x)(h:rS x ah (decide ((k:Int)=0∨ah.line<x.line)) out st=some (jE,st2)):
  o7 (l.drop k) ah (decide (k=0)) out st=o7 (l.drop (k+1)) x (decide (k+1=0)) jE st2:=by
 obtain⟨hl,hx⟩:=List.getElem?_eq_some_iff.1 hx;rw[List.drop_eq_getElem_cons hl,hx,o7,show (decide (k=0)||decide (ah.line<x.line))=decide ((k:Int)=0∨ah.line<x.line) by simp,h];simp
theorem MP {out:List Tok}{st:List ig}(hx:l[k]?=some x)(h:rS x ah (decide ((k:Int)=0∨ah.line<x.line)) out st=none):o7 (l.drop k) ah (decide (k=0)) out st=.inr x:=by
 obtain⟨hl,hx⟩:=List.getElem?_eq_some_iff.1 hx;rw[List.drop_eq_getElem_cons hl,hx,o7,show (decide (k=0)||decide (ah.line<x.line))=decide ((k:Int)=0∨ah.line<x.line) by simp,h]
theorem LB (hx:l[k]?=some x):x=(l.take (k+1)).getLastD qG:=by
 rw[List.take_add_one,hx];simp
end
section
variable {ts l:List Tok} {e ah:Tok} {out o2 o3:List Tok} {st s3:List ig}
variable (hs:fU ts ⟨9,[],0,1,1⟩=(l,e))
include hs
theorem K3 {x:Tok}(hr:o7 l qG true [] []=.inr x):o4 ts=([],zj x):=by unfold o4;simp only[hs,hr]
variable (hr:o7 l qG true [] []=.inl (some (out,st))) (ha:ah=l.getLastD qG) (ho:o2=if kT (cj ah) then out++[dN [123] e]++[dN [125] e] else out)
include hr ha ho
theorem SR (hl:fS e 0 (st.length+1) o2 st=none):o4 ts=([],zj e):=by
 subst ha ho;unfold o4;simp only[hs,hr,hl]
theorem Qv (hl:fS e 0 (st.length+1) o2 st=some (o3,s3)):o4 ts=(o3++[e],.ok):=by
 subst ha ho;unfold o4;simp only[hs,hr,hl]
end
theorem Qs (w0:World)(vt:Value)(ts:List Tok)(hn:ts.length≤100000000000)(hR:bF w0 [] vt aK ts):bI Tryz.prog 13 #[vt] w0 (fun v w'=>∃va l d,o4 ts=(l,d)∧v=.tuple #[va,.agg (aJ d).toArray]∧St w0 [] w' [aT va 44 aK l]):=by
 have hO:=St.aX w0;refine cw Tryz.func13 Tryz.ntmps13 fun a hF=>?_;refine Zb 3 fun dg a w hO hF=>?_;refine Zu 3 fun en a w hO hF=>?_;have hO:=hO.bV 44 5;refine c8 ?_;refine vK ?_;refine j3 (fun (z:List Tok×Tok×Value) a w'=>match z with| (l,e,vl)=>(fU ts ⟨9,[],0,1,1⟩=(l,e)∧l.length≤ts.length)∧St w0 [] w' [.ob en 44 (aK.cells e),aT vl 44 aK l,.ob dg 31 (aJ .ok)]∧Fr a 106 [(3,ptr (aj dg)),(4,ptr (aj en)),(5,vl)]) ?_ ?_
 ·refine Zv 1 fun a hF=>?_;have hO:=hO.q [1];refine ax (fun (x:Nat×List Tok×Tok×Value) a w'=>match x with| (i,l,e,vl)=>(fU ts ⟨9,[],0,1,1⟩=(l++(fU (ts.drop i) e).1,(fU (ts.drop i) e).2)∧i≤ts.length∧l.length=i)∧St w0 [] w' [.ob en 44 (aK.cells e),aT vl 44 aK l,.ob dg 31 (aJ .ok)]∧Fr a 106 [(0,vt),(3,ptr (aj dg)),(4,ptr (aj en)),(5,vl),(6,i64 i)]) (fun (x:Nat×List Tok×Tok×Value)=>match x with| (i,l,e,vl)=>ts.length - i) (0,[],⟨9,[],0,1,1⟩,_) ⟨⟨rfl,by omega,rfl⟩,hO,hF.sub ⟨rfl,rfl,rfl,rfl,rfl,trivial⟩⟩ ?_;rintro⟨i,l,e,vl⟩ a w ⟨⟨hs,hi,hl⟩,hO,hF⟩;refine Zg 2 (ew hR) fun a hF=>?_;refine Zi 1 (fun a hF hc1=>?_) fun a hF hc1=>?_
  ·obtain⟨x,hx⟩:=cI (l:=ts) (i:=i) (by omega);refine Zg 2 (eB i hR (by omega)) fun a hF=>?_;refine Zh 1 hR hx fun a hF=>?_;refine Zi 1 (fun a hF hc2=>?_) fun a hF hc2=>?_
   ·refine Zg 2 (eB i hR (by omega)) fun a hF=>?_;refine Zh 0 hR hx fun a hF=>?_;refine Zs 1 fun a w hO hF=>?_;exact⟨(l,x,_),⟨⟨by rw[hs,F_ hx hc2];simp,by omega⟩,hO,hF.sub ⟨rfl,rfl,rfl,trivial⟩⟩⟩
   ·refine Zg 3 (eB i hR (by omega)) fun a hF=>?_;refine Zh 0 hR hx fun a hF=>?_;refine Zb 1 fun b1 a w hO hF=>?_;refine fN hF rfl rfl rfl (cO (bytes:=48) (r:=[x]) hO (i:=2) rfl (hO.rd 0 rfl) Tryz.underlying22 fq rfl rfl rfl rfl rfl rfl (hF.eval rfl) (hF.eval rfl) (by show (List.length _+1) * 48≤_;omega) (by show List.length _+1≤_;omega)) ?_;rintro a v33 w hO hF;have hO:=hO.nm;refine Zd 1 [0,0,0,0,1,0,0,0,0,1,0,3] fun a w hO hF=>?_;refine Zg 2 (eB i hR (by omega)) fun a hF=>?_;refine Zh 1 hR hx fun a hF=>?_;refine Zg 2 (eB i hR (by omega)) fun a hF=>?_;refine Zh 1 hR hx fun a hF=>?_;refine Zs 5 fun a w hO hF=>?_;have hO:=hO.d [0];exact⟨(i+1,l++[x],⟨9,[],0,x.line,x.cR⟩,_),⟨⟨by rw[hs,Kd hx hc2];simp,by omega,by simp;omega⟩,hO,hF.sub ⟨rfl,rfl,rfl,rfl,rfl,trivial⟩⟩,by dsimp only;omega⟩
  ·refine Zv 0 ?_;exact⟨(l,e,_),⟨⟨by rw[hs,List.drop_of_length_le (by omega)];simp [fU],by omega⟩,hO,hF.sub ⟨rfl,rfl,rfl,trivial⟩⟩⟩
 ·rintro⟨l,e,vl⟩ a w ⟨⟨hs,hll⟩,hO,hF⟩;refine Zb 2 fun bs a w hO hF=>?_;have hO:=hO.bV 44 5;have hO:=hO.bV 115 2;refine Zb 3 fun ah a w hO hF=>?_;have hO:=hO.q [0,2,1];refine ax (fun (y:Nat×Tok×List Tok×List ig×gT×Value×Value) a w'=>match y with| (k,ah_,out,st,dd,vo,vs)=>(o7 (l.drop k) ah_ (decide (k=0)) out st=o7 l qG true [] []∧k≤l.length∧ah_=(l.take k).getLastD qG∧out.length+st.length≤6 * k)∧St w0 [] w' [.ob ah 44 (aK.cells ah_),.ob bs 85 (vo::vs::aJ dd),aT vo 44 aK out,aT vs 115 gy st,.ob en 44 (aK.cells e),aT vl 44 aK l,.ob dg 31 (aJ .ok)]∧Fr a 106 [(3,ptr (aj dg)),(4,ptr (aj en)),(5,vl),(7,ptr (aj bs)),(8,ptr (aj ah)),(9,i64 k)]) (fun (y:Nat×Tok×List Tok×List ig×gT×Value×Value)=>match y with| (k,ah_,out,st,dd,vo,vs)=>l.length - k) (0,qG,[],[],.ok,_,_) ⟨⟨rfl,by omega,rfl,by simp⟩,hO,hF.sub ⟨rfl,rfl,rfl,rfl,rfl,rfl,trivial⟩⟩ ?_;rintro⟨k,ah_,out,st,dd,vo,vs⟩ a w ⟨⟨hr,hk,hla,hps⟩,hO,hF⟩;refine Zg 2 (ew (hO.rd 5 rfl)) fun a hF=>?_;refine Zi 1 (fun a hF hc3=>?_) fun a hF hc3=>?_
  ·refine Zd 0 [0,0,0,0,1,1,0,0,0,0,0,0,0,1,0,1,0,0,3,0] fun w hO=>?_;obtain⟨x,hx⟩:=cI (l:=l) (i:=k) (by omega);refine Zg 3 (eB k (hO.rd 5 rfl) (by omega)) fun a hF=>?_;refine jC hF rfl rfl rfl (fun w hO=>cE Tryz.isAgg44 Tryz.sizeOf44 rfl (hF.eval rfl) (bF.cells (hO.gD 5 rfl) hx) rfl) fun a hF=>?_;refine Zw 6 fun a hF=>?_;refine uo hF rfl rfl rfl rfl rfl rfl (fun hg w=>kj (i:=k) (hO.rd 5 rfl) Tryz.underlying22 Tryz.sizeOf44 rfl ((hF.eval rfl).trans (an hg)) ((hF.eval rfl).trans (an hg)) (by omega)) fun a hF=>?_;refine Zw 1 fun a hF=>?_;refine Ad hF rfl rfl rfl rfl rfl rfl (fun hg w hO=>bO Tryz.isAgg3 rfl ((hF.eval rfl).trans (an hg)) (bF.cells (hO.gD 5 rfl) hx _ _ rfl)) fun a hF=>?_;refine Zw 4 fun a hF=>?_;have hO:=hO.q [1,1,1];refine Zc 0 (J_ _ _ _ _ _ _ _ hO.MN (by omega) _ _ _) ?_;rintro a _ w ⟨ok,vo,vs,jE,st2,dd2,rfl,htk,hbad,hlp,hS⟩ hF;have hO:=hO.k3 hS;refine dE hF rfl rfl rfl (fun w=>cY rfl (hF.eval rfl) (bh _)) fun a hF=>?_;refine Zi 0 (fun hc4=>?_) fun hc4=>?_
   ·obtain rfl:ok=false:=by simpa using hc4
    obtain rfl:=hbad rfl;refine Zd 0 [0,0,0,1,0,3] fun w hO=>?_;refine Zv 3 fun a hF=>?_;refine jC hF rfl rfl rfl (fun w hO=>cE Tryz.isAgg31 Tryz.sizeOf31 rfl (hF.eval rfl) (hO.r4 0 rfl 2 4 rfl) rfl) fun a hF=>?_;refine Zs 2 fun a w hO hF=>?_;refine jz ?_;refine ke ?_;refine jz ?_;refine jz ?_;refine ke ?_;refine jz ?_;refine rW hF rfl rfl rfl Tryz.isAgg31 Tryz.sizeOf31 (hO.cells 6 rfl) rfl ?_;exact⟨_,[],_,K3 hs (hr.symm.trans (MP hx htk)),rfl,(hO.bV 44 5).only⟩
   ·obtain rfl:ok=true:=by simpa using hc4
    replace htk:=htk.trans (if_pos rfl);refine Zg 2 (eB k (hO.rd 5 rfl) (by omega)) fun a hF=>?_;refine Zh 0 (hO.gD 5 rfl) hx fun a hF=>?_;refine Zs 4 fun a w hO hF=>?_;have hO:=hO.q [3];exact⟨(k+1,x,jE,st2,dd2,_,_),⟨⟨(RX hx htk).symm.trans hr,by omega,LB hx,by omega⟩,hO,hF.sub ⟨rfl,rfl,rfl,rfl,rfl,rfl,trivial⟩⟩,by dsimp only;omega⟩
  ·obtain rfl:k=l.length:=by omega
   rw[List.take_length] at hla;rw[List.drop_length] at hr;replace hr:o7 l qG true [] []=.inl (some (out,st)):=hr.symm;refine wp_exit ?_;refine v7 ?_;refine v7 ?_;refine w9 ?_;refine vK ?_;refine j3 (fun (z:List Tok×Value) a w'=>match z with| (o2,vo)=>(o2=(if kT (cj ah_) then out++[dN [123] e]++[dN [125] e] else out)∧o2.length≤out.length+2)∧St w0 [] w' [.ob bs 85 (vo::vs::aJ dd),aT vo 44 aK o2,aT vs 115 gy st,.ob en 44 (aK.cells e),aT vl 44 aK l,.ob dg 31 (aJ .ok)]∧Fr a 106 [(3,ptr (aj dg)),(4,ptr (aj en)),(7,ptr (aj bs))]) ?_ ?_
   ·refine Zc 1 (oK _ _) ?_;rintro a _ w ⟨rfl,hS⟩ hF;have hO:=hO.k0 hS;refine Zc 0 (zh _ _) ?_;rintro a _ w ⟨rfl,hS⟩ hF;have hO:=hO.k0 hS;refine Zi 0 (fun hc5=>?_) fun hc5=>?_
    ·refine Zv 2 fun a hF=>?_;have hO:=hO.q [1,1];refine Zc 0 (uV _ _ _ _ _ _ hO.ba _ _ (by omega)) ?_;rintro a _ w ⟨vo,rfl,hS⟩ hF;have hO:=hO.k2 hS;refine Zc 2 (uV _ _ _ _ _ _ hO.ba _ _ (by simp;omega)) ?_;rintro a _ w ⟨vo,rfl,hS⟩ hF;have hO:=hO.k2 hS;have hO:=hO.d [2];refine Zv 0 ?_;exact⟨(_,_),⟨⟨(if_pos hc5).symm,by simp⟩,hO,hF.sub ⟨rfl,rfl,rfl,trivial⟩⟩⟩
    ·have hO:=hO.d [0];refine Zv 0 ?_;exact⟨(_,_),⟨⟨(if_neg hc5).symm,by omega⟩,hO,hF.sub ⟨rfl,rfl,rfl,trivial⟩⟩⟩
   ·rintro⟨o2,vo⟩ a w ⟨⟨ho2,hol⟩,hO,hF⟩;refine Zc 2 (CQ _ _ _ _ _ _ _ hO.MN (by omega) _ _) ?_;rintro a _ w ⟨ok,vo,vs,ajo,st3,dd3,rfl,hln,hbad,hlp,hS⟩ hF;have hO:=hO.k3 hS;refine ao hF rfl rfl rfl (cY rfl (hF.eval rfl) (bh _)) fun a hF=>?_;refine Zi 0 (fun hc6=>?_) fun hc6=>?_
    ·obtain rfl:ok=false:=by simpa using hc6
     obtain rfl:=hbad rfl;refine Zd 0 [0,0,0,1,0,3] fun w hO=>?_;refine Zv 3 fun a hF=>?_;refine jC hF rfl rfl rfl (fun w hO=>cE Tryz.isAgg31 Tryz.sizeOf31 rfl (hF.eval rfl) (hO.r4 0 rfl 2 4 rfl) rfl) fun a hF=>?_;refine Zs 2 fun a w hO hF=>?_;refine jz ?_;refine rW hF rfl rfl rfl Tryz.isAgg31 Tryz.sizeOf31 (hO.cells 5 rfl) rfl ?_;exact⟨_,[],_,SR hs hr hla ho2 hln,rfl,(hO.bV 44 5).only⟩
    ·obtain rfl:ok=true:=by simpa using hc6
     replace hln:=hln.trans (if_pos rfl);refine Zd 0 [0,0,0,1,1,2,3,0,0,3] fun w hO=>?_;refine Zv 5 fun a hF=>?_;refine eI hF rfl rfl rfl (bM hF hO Tryz.underlying22 Tryz.sizeOf44 Tryz.zeroValue44 rfl rfl rfl rfl rfl rfl rfl) (fun _ _ ⟨_,_,hO⟩=>hO.tail) ?_;rintro a _ w ⟨b2,rfl,hO⟩ hF;refine jO hF rfl rfl rfl (cO (bytes:=48) (r:=[e]) hO (i:=2) rfl (hO.rd 0 rfl) Tryz.underlying22 fq rfl rfl rfl rfl rfl rfl (hF.eval rfl) (hF.eval rfl) (by show (List.length _+1) * 48≤_;omega) (by show List.length _+1≤_;omega)) ?_;rintro a aiv w hO hF;have hO:=hO.nm;refine Zs 3 fun a w hO hF=>?_;refine rW hF rfl rfl rfl Tryz.isAgg31 Tryz.sizeOf31 (hO.cells 6 rfl) rfl ?_;exact⟨_,_,_,Qv hs hr hla ho2 hln,rfl,(hO.pull 2 rfl).only⟩
def Z {α:Type}(s:PS)(x:PM α)(Φ:α→Nat→Prop):Prop:=x s≠.error 0∧∀a s',x s=.ok (a,s')→Φ a s'.r.length
def lz (l:List Nd):Nat:=aC l+3 * l.length
theorem cN:lz []=0:=rfl
theorem cx (a:Nd)(l:List Nd):lz (a::l)=4+dw a+lz l:=by unfold lz;rw[af,List.length_cons];omega
theorem xP (l r:List Nd):lz (l++r)=lz l+lz r:=by unfold lz;rw[gb,List.length_append];omega
theorem cS (l:List Nd):aC l≤lz l:=by unfold lz;omega
theorem fT (k:Int)(s:List UInt8)(n:Int)(l:List Nd):dw (.mk k s n l)=1+aC l:=by rw[cg];rfl
theorem tG:dw kJ=1:=rfl
theorem mN (l:List Nd):dw (eU l)≤1+aC l:=by
 match l with
 | []=>show dw kJ≤_;rw[tG];omega
 | [a]=>show dw a≤_;rw[af];omega
 |a::b::l=>show dw (bk 23 [] (a::b::l))≤_;rw[aQ];omega
theorem xk (k:Int):∀(l:List Nd) (a:Nd),dw (l.foldl (fun n x=>bk k [] [n,x]) a)≤dw a+lz l
 | [],a=>by rw[List.foldl_nil,cN];omega
 |b::l,a=>by
  rw[List.foldl_cons,cx];have:=xk k l (bk k [] [a,b]);rw[aQ,af,af] at this;simp only[aC] at this;omega
theorem Lo {l:List Nd}(h:l≠[]):dw (zO l)+4≤lz l:=by
 match l,h with
 |a::l,_=>
  rw[cx];have:=xk 22 l a;show dw (l.foldl (fun n x=>bk 22 [] [n,x]) a)+4≤_;omega
theorem jv (t:List UInt8)(l:List Nd):dw (gw t l)≤1+lz l:=by
 have:=xk 54 l (bk 53 t []);rw[aQ] at this;show dw (l.foldl (fun n a=>bk 54 [] [n,a]) (bk 53 t []))≤_;simp only[aC] at this;omega
section
variable {α β:Type} {s:PS} {Φ Ψ:α→Nat→Prop} {w:List UInt8}
protected theorem Z.pure {a:α}(h:Φ a s.r.length):Z s (Pure.pure a:PM α) Φ:=⟨(fun e=>by cases e),fun b s' e=>by cases e;exact h⟩
protected theorem Z.bad {e:Int}(h:e≠0):Z s (bad e:PM α) Φ:=⟨(fun h'=>by cases h';exact h rfl),fun _ _ h=>by cases h⟩
protected theorem Z.out:Z s (out:PM α) Φ:=Z.bad (by decide)
protected theorem Z.bind {x:PM β}{f:β→PM α}{Φ':β→Nat→Prop}(hx:Z s x Φ')(hf:∀a s',Φ' a s'.r.length→Z s' (f a) Φ):Z s (x >>= f) Φ:=by
 constructor
 ·intro e;rw[bind_eq] at e
  cases h:x s with
  |error e'=>rw[h] at e;cases e;exact hx.1 h
  |ok p=>
   rw[h] at e;exact (hf p.1 p.2 (hx.2 _ _ h)).1 e
 ·intro a s' e;rw[bind_eq] at e
  cases h:x s with
  |error e'=>rw[h] at e;cases e
  |ok p=>
   rw[h] at e;exact (hf p.1 p.2 (hx.2 _ _ h)).2 a s' e
protected theorem Z.mono {x:PM α}(h:Z s x Φ)(hr:∀a m,Φ a m→Ψ a m):Z s x Ψ:=⟨h.1,fun a s' e=>hr a _ (h.2 a s' e)⟩
protected theorem Z.get {f:PS→PM α}(h:Z s (f s) Φ):Z s (get >>= f) Φ:=h
protected theorem Z.ite {c:Prop}[Decidable c]{x y:PM α}(h1:c→Z s x Φ)(h2:¬c→Z s y Φ):Z s (if c then x else y) Φ:=by
 by_cases h:c
 ·rw[if_pos h];exact h1 h
 ·rw[if_neg h];exact h2 h
protected theorem Z.fw {c:PS→Prop}[∀s,Decidable (c s)]{x y:PM α}(h1:Z s x Φ)(h2:Z s y Φ):Z s (get >>= fun s=>if c s then x else y) Φ:=Z.get (Z.ite (fun _=>h1) fun _=>h2)
protected theorem Z.step:Z s dT (fun _ m=>m+1≤s.r.length):=by
 constructor
 ·intro e;unfold dT at e
  split at e<;>cases e
 ·intro a s' e;unfold dT at e
  split at e
  ·cases e
  ·rename_i t r hr;cases e;rw[hr];simp
protected theorem Z.B5 {k:Int}:Z s (jj k) (fun _ m=>m+1≤s.r.length):=by
 constructor
 ·intro e;unfold jj at e
  split at e
  ·cases e
  ·exact Z.step.1 e
 ·intro a s' e;unfold jj at e
  split at e
  ·cases e
  ·exact Z.step.2 a s' e
protected theorem Z.take:Z s (bC w) (fun _ m=>m+1≤s.r.length):=by
 constructor
 ·intro e;unfold bC at e
  split at e
  ·cases e
  ·split at e
   ·split at e
    ·cases e
    ·exact (Z.step (s:=⟨s.r,s.deep+1⟩)).1 e
   ·split at e
    ·exact (Z.step (s:=⟨s.r,s.deep - 1⟩)).1 e
    ·exact Z.step.1 e
 ·intro a s' e;unfold bC at e
  split at e
  ·cases e
  ·split at e
   ·split at e
    ·cases e
    ·exact (Z.step (s:=⟨s.r,s.deep+1⟩)).2 a s' e
   ·split at e
    ·exact (Z.step (s:=⟨s.r,s.deep - 1⟩)).2 a s' e
    ·exact Z.step.2 a s' e
protected theorem Z.may {x y:PM α}(h1:∀s',s'.r.length+1≤s.r.length→Z s' x Φ)(h2:Z s y Φ):Z s (bB w >>= fun b=>if b=true then x else y) Φ:=by
 by_cases hb:eM s [w]=true
 ·have e:bB w s=(do let _←bC w;pure true:PM Bool) s:=by unfold bB;rw[if_pos hb]
  have hz:Z s (bB w) (fun b m=>b=true∧m+1≤s.r.length):=by
   have h:=Z.bind (f:=fun _=>(pure true:PM Bool)) (Φ:=fun b m=>b=true∧m+1≤s.r.length) (Z.take (s:=s) (w:=w)) fun _ s' h=>Z.pure ⟨rfl,h⟩;exact⟨e▸h.1,fun a s' h'=>h.2 a s' (e▸h')⟩
  exact hz.bind fun b s' ⟨h,hl⟩=>by rw[if_pos h];exact h1 s' hl
 ·have e:bB w s=.ok (false,s):=by unfold bB;rw[if_neg hb]
  have e2:(bB w >>= fun b=>if b=true then x else y) s=y s:=by rw[bind_eq,e];rfl
  exact⟨e2▸h2.1,fun a s' h'=>h2.2 a s' (e2▸h')⟩
protected theorem Z.cd {x:PM α}(h:∀s',s'.r.length+1≤s.r.length→Z s' x Φ):Z s (bC w >>= fun _=>x) Φ:=Z.take.bind fun _ s' h'=>h s' h'
protected theorem Z.dY {f:Tk→PM α}(h:∀t s',s'.r.length+1≤s.r.length→Z s' (f t) Φ):Z s (dT >>= f) Φ:=Z.step.bind fun t s' h'=>h t s' h'
protected theorem Z.lQ {k:Int}{f:Tk→PM α}(h:∀t s',s'.r.length+1≤s.r.length→Z s' (f t) Φ):Z s (jj k >>= f) Φ:=Z.B5.bind fun t s' h'=>h t s' h'
end
def NZ (n d:Nat)(a:Nd)(m:Nat):Prop:=dw a+40 * m+d≤40 * n
def LZ (n d:Nat)(l:List Nd)(m:Nat):Prop:=lz l+40 * m+d≤40 * n
section
variable {α β:Type} {s:PS} {w:List UInt8}
theorem NZ.eA {n d c:Nat}{x:PM Nd}(h:Z s x (NZ n c))(hd:d≤c):Z s x (NZ n d):=h.mono fun a m h=>by unfold NZ at h ⊢;omega
theorem LZ.eA {n d c:Nat}{x:PM (List Nd)}(h:Z s x (LZ n c))(hd:d≤c):Z s x (LZ n d):=h.mono fun a m h=>by unfold LZ at h ⊢;omega
protected theorem Z.lY {x:PM (List Nd)}(hx:Z s x (LZ s.r.length 0)):Z s (get >>= fun s=>if eM s [w]=true then (pure []:PM (List Nd)) else x) (LZ s.r.length 0):=Z.fw (Z.pure (by unfold LZ;rw[cN];omega)) hx
protected theorem Z.eo {one:PM Nd}(h:∀s,Z s one (NZ s.r.length 10)):∀k s,Z s (eo one k) (LZ s.r.length 0)
 |0,s=>Z.out
 |k+1,s=>by
  unfold Go.Proofs.YtdfccaonglmgpaaGreatDoor.eo;refine Z.may (fun s1 h1=>(h s1).bind fun a s2 h2=>(Z.eo h k s2).bind fun l s3 h3=>Z.pure ?_) (Z.pure ?_)
  ·unfold NZ LZ at *;rw[cx];omega
  ·unfold LZ;rw[cN];omega
protected theorem Z.fI {one:PM Nd}{k:Nat}(h:∀s,Z s one (NZ s.r.length 10)):Z s (eV one k) (LZ s.r.length 6):=by
 unfold eV;refine (h s).bind fun a s1 h1=>(Z.eo h k s1).bind fun l s2 h2=>Z.pure ?_;unfold NZ LZ at *;rw[cx];omega
protected theorem Z.sX:∀k s,Z s (jq k) (fun _ m=>m≤s.r.length)
 |0,s=>Z.out
 |k+1,s=>by
  unfold jq;exact Z.may (fun s1 h1=>(Z.sX k s1).mono fun _ m h=>by omega) (Z.pure (Nat.le_refl _))
protected theorem Z.df {n:Int}{b:β}:Z s (df n b) (fun b' m=>b'=b∧m+1≤s.r.length):=by
 unfold Go.Proofs.YtdfccaonglmgpaaGreatDoor.df;exact Z.fw (Z.bad (by decide)) (Z.cd fun _ h=>Z.pure ⟨rfl,h⟩)
protected theorem Z.eR {one:β→PM β}{μ:β→Nat}(h:∀s b,Z s (one b) (fun b' m=>μ b'+40 * m≤μ b+40 * s.r.length))(n:Int):∀k b s,Z s (eR one n k b) (fun b' m=>μ b'+40 * m≤μ b+40 * s.r.length)
 |0,_,_=>Z.out
 |k+1,b,s=>by
  unfold Go.Proofs.YtdfccaonglmgpaaGreatDoor.eR;refine (Z.sX k s).bind fun _ s1 h1=>Z.fw (Z.df.mono fun b' m h=>?_) ?_
  ·obtain⟨rfl,h⟩:=h;omega
  ·refine (h s1 b).bind fun b' s2 h2=>Z.fw ((Z.eR h n k b' s2).mono fun _ m h=>by omega) (Z.df.mono fun b2 m h=>?_);obtain⟨rfl,h⟩:=h;omega
protected theorem Z.block {one:β→PM β}{μ:β→Nat}{k:Nat}{b:β}(h:∀s b,Z s (one b) (fun b' m=>μ b'+40 * m≤μ b+40 * s.r.length)):Z s (iy one k b) (fun b' m=>μ b'+40 * m+40≤μ b+40 * s.r.length):=by
 unfold iy;exact Z.take.bind fun o s1 h1=>(Z.eR h _ k b s1).mono fun _ m h=>by omega
protected theorem Z.cq {one:PM Nd}{k:Nat}(h:∀s,Z s one (NZ s.r.length 4)):Z s (cq one k) (LZ s.r.length 40):=by
 unfold Go.Proofs.YtdfccaonglmgpaaGreatDoor.cq;refine (Z.block (μ:=lz) (b:=[]) fun s b=>?_).mono fun l m h=>by unfold LZ;rw[cN] at h;omega
 unfold snoc;refine (h s).bind fun a s1 h1=>Z.pure ?_;unfold NZ at h1;rw[xP,cx,cN];omega
protected theorem Z.named {a b:Int}:Z s (jI a b) (fun _ m=>m+1≤s.r.length):=by
 unfold jI;exact Z.fw (Z.cd fun _ h1=>Z.lQ fun _ _ h2=>Z.cd fun _ h3=>Z.pure (by omega)) (Z.lQ fun _ _ h=>Z.pure h)
protected theorem Z.item:Z s mJ (NZ s.r.length 39):=by
 unfold mJ;refine Z.fw (Z.dY fun t s1 h=>Z.pure ?_) (Z.named.bind fun t s1 h=>Z.pure ?_)<;>(unfold NZ;rw[aQ];simp only[aC];omega)
protected theorem Z.items {k:Nat}:Z s (jN k) (fun a m=>dw a+40 * m≤40 * s.r.length+1):=by
 unfold jN;refine Z.fw (Z.cd fun s1 h1=>(Z.lY (LZ.eA (Z.fI fun s=>NZ.eA Z.item (by omega)) (by omega))).bind fun l s2 h2=>Z.cd fun s3 h3=>Z.pure ?_) (Z.pure ?_)
 ·have:=cS l;unfold LZ at h2;rw[aP];omega
 ·rw[tG];omega
protected theorem Z.kL:Z s il (NZ s.r.length 39):=by
 unfold il;exact Z.lQ fun t s1 h=>Z.pure (by unfold NZ;rw[aQ];simp only[aC];omega)
protected theorem Z.oH:∀k s,Z s (iB k) (LZ s.r.length 0)
 |0,_=>Z.out
 |k+1,s=>by
  unfold iB;refine Z.fw (Z.kL.bind fun a s1 h1=>(Z.oH k s1).bind fun l s2 h2=>Z.pure ?_) (Z.pure ?_)
  ·unfold NZ LZ at *;rw[cx];omega
  ·unfold LZ;rw[cN];omega
protected theorem Z.empty:Z s iO (fun _ m=>m≤s.r.length):=by
 unfold iO;exact Z.may (fun s1 h1=>Z.may (fun s2 h2=>Z.pure (by omega)) (Z.pure (by omega))) (Z.pure (by omega))
protected theorem Z.operator:Z s dJ (NZ s.r.length 39):=by
 unfold dJ;refine Z.may (fun s1 h1=>Z.fw (Z.dY fun t s2 h2=>Z.cd fun s3 h3=>Z.pure ?_) (Z.bad (by decide))) (Z.fw (Z.dY fun t s2 h2=>Z.pure ?_) (Z.bad (by decide)))<;>(unfold NZ;rw[fT];simp only[aC];omega)
protected theorem Z.iZ:Z s dR (fun _ m=>m+1≤s.r.length):=by
 unfold dR;exact Z.fw (Z.cd fun _ h=>Z.pure h) (Z.bad (by decide))
theorem yI:∀k,(∀s,Z s (my k) (NZ s.r.length 32))∧(∀s n,Z s (rL k n) (fun a m=>dw a+40 * m≤dw n+40 * s.r.length))∧(∀s j,Z s (nO k j) (LZ s.r.length 0))∧(∀s,Z s (gS k) (NZ s.r.length 32))
 |0=>⟨fun _=>by unfold my;exact Z.out,fun _ _=>by unfold rL;exact Z.out,fun _ _=>by unfold nO;exact Z.out,fun _=>by unfold gS;exact Z.out⟩
 |k+1=>by
  obtain⟨h1,h2,h3,h4⟩:=yI k;refine⟨fun s=>?_,fun s n=>?_,fun s j=>?_,fun s=>?_⟩
  ·unfold my;refine (h4 s).bind fun n s1 l1=>(h2 s1 n).bind fun n2 s2 l2=>Z.fw (Z.dY fun _ s3 l3=>(h1 s3).bind fun r s4 l4=>Z.pure ?_) (Z.pure ?_)
   ·unfold NZ at *;rw[aQ,af,af,aQ,af,af,aQ];simp only[aC];omega
   ·unfold NZ at *;omega
  ·unfold rL;refine Z.fw ((h4 s).bind fun a s1 l1=>(h2 s1 _).mono fun b m h=>?_) (Z.pure (by omega));unfold NZ at l1;rw[aQ,af,af] at h;simp only[aC] at h;omega
  ·cases j with
   |zero=>unfold nO;exact Z.pure (by unfold LZ;rw[cN];omega)
   |succ j=>
    unfold nO;refine Z.may (fun s1 l1=>(h1 s1).bind fun a s2 l2=>(h3 s2 j).bind fun l s3 l3=>Z.pure ?_) (Z.pure ?_)
    ·unfold NZ LZ at *;rw[cx];omega
    ·unfold LZ;rw[cN];omega
  ·unfold gS;refine Z.fw (Z.dY fun t s1 l1=>Z.pure ?_) (Z.fw (NZ.eA Z.kL (by omega)) (Z.may (fun s1 l1=>?_) (Z.cd fun s1 l1=>?_)))
   ·unfold NZ;rw[aQ];simp only[aC];omega
   ·have hl:Z s1 (get >>= fun s=>if eM s [Na]=true then (pure []:PM (List Nd)) else (do let a←my k;pure [a])) (LZ s1.r.length 0):=Z.lY ((h1 s1).bind fun a s2 l2=>Z.pure (by unfold NZ at l2;unfold LZ;rw[cx,cN];omega));refine hl.bind fun l s2 l2=>Z.cd fun s3 l3=>Z.pure ?_;have:=jv kM l;unfold NZ LZ at *;omega
   ·have hp:Z s1 (bB ez >>= fun b=>if b=true then (pure (ez,[]):PM (List UInt8×List Nd)) else (get >>= fun s=>if eM s [jK]=true then (do let n←iO;pure (n,[]):PM (List UInt8×List Nd)) else (get >>= fun s=>if eM s [gI]=true then (pure (h_,[]):PM (List UInt8×List Nd)) else (do let a←my k;let l←nO k 2;pure (rF (l.length+1),a::l))))) (fun p m=>lz p.2+40 * m≤40 * s1.r.length):=by
     refine Z.may (fun s2 l2=>Z.pure (by rw[cN];omega)) (Z.fw (Z.empty.bind fun n s2 l2=>Z.pure (by rw[cN];omega)) (Z.fw (Z.pure (by rw[cN];omega)) ?_));exact (h1 s1).bind fun a s2 l2=>(h3 s2 2).bind fun l s3 l3=>Z.pure (by unfold NZ LZ at *;rw[cx];omega)
    refine hp.bind fun p s2 l2=>?_;obtain⟨t,l⟩:=p;simp only at l2;refine Z.cd fun s3 l3=>?_;show Z s3 (match l with
        | [a]=>pure a
        |l=>pure (gw t l)) _
    split
    ·refine Z.pure ?_;rw[cx,cN] at l2;unfold NZ;omega
    ·refine Z.pure ?_;have:=jv t l;unfold NZ;omega
end
section
variable {s:PS}
structure ZK (k:Nat):Prop where
 eq:∀s,Z s (ya k) (NZ s.r.length 20)
 guards:∀s w,Z s (gE k w) (LZ s.r.length 0)
 rhs:∀s w,Z s (nc k w) (fun a m=>dw a+40 * m≤40 * s.r.length+5)
 exp:∀s,Z s (iz k) (NZ s.r.length 30)
 ops:∀s,Z s (rD k) (LZ s.r.length 0)
 operand:∀s,Z s (dP k) (NZ s.r.length 32)
 alt:∀s,Z s (pM k) (NZ s.r.length 20)
 gen:∀s n,Z s (qW k n) (fun a m=>dw a+40 * m≤dw n+40 * s.r.length)
 stmt:∀s,Z s (lq k) (NZ s.r.length 20)
 atoms:∀s,Z s (fX k) (fun l m=>l≠[]∧LZ s.r.length 28 l m)
 atomsl:∀s,Z s (ju k) (LZ s.r.length 0)
 field:∀s,Z s (iC k) (NZ s.r.length 30)
 atom:∀s,Z s (jF k) (NZ s.r.length 32)
 recs:∀s n,Z s (mR k n) (fun a m=>dw a+40 * m≤dw n+40 * s.r.length)
 base:∀s,Z s (lB k) (NZ s.r.length 32)
 expc:∀s j,Z s (oh k j) (LZ s.r.length 0)
 inner:∀s,Z s (iS k) (fun a m=>dw a+40 * m≤40 * s.r.length+1)
 innerl:∀s l,Z s (jT k l) (fun a m=>dw a+40 * m≤lz l+40 * s.r.length+3)
theorem zK:∀k,ZK k
 |0=>by constructor<;>intros<;>(first|unfold ya|unfold gE|unfold nc|unfold iz|unfold rD|unfold dP|unfold pM|unfold qW|unfold lq|unfold fX|unfold ju|unfold iC|unfold jF|unfold mR|unfold lB|unfold oh|unfold iS|unfold jT)<;>exact Z.out
 |k+1=>by
  have K:=zK k;constructor
  ·intro s;unfold ya;refine (K.exp s).bind fun l s1 l1=>(K.rhs s1 _).bind fun r s2 l2=>Z.pure ?_;unfold NZ at *;rw[aQ,af,af];simp only[aC];omega
  ·intro s w;unfold gE;refine Z.fw (Z.dY fun _ s1 l1=>(K.exp s1).bind fun c s2 l2=>Z.cd fun s3 l3=>(K.exp s3).bind fun e s4 l4=>(K.guards s4 w).bind fun l s5 l5=>Z.pure ?_) (Z.pure (by unfold LZ;rw[cN];omega));unfold NZ LZ at *;rw[cx,aQ,af,af];simp only[aC];omega
  ·intro s w;unfold nc;have hg:Z s (get >>= fun s=>if eM s [E4]=true then gE k w else (do let _←bC w;let e←iz k;pure [bk 17 [] [kJ,e]])) (LZ s.r.length 0):=by
    refine Z.fw (K.guards s w) (Z.cd fun s1 l1=>(K.exp s1).bind fun e s2 l2=>Z.pure ?_);unfold NZ LZ at *;rw[cx,cN,aQ,af,af,tG];simp only[aC];omega
   refine hg.bind fun gs s1 l1=>Z.may (fun s2 l2=>(Z.cq fun s=>NZ.eA (K.eq s) (by omega)).bind fun l s3 l3=>Z.pure ?_) (Z.pure ?_)
   ·have:=cS gs;have:=cS l;unfold LZ at *;rw[aQ,af,af,aP,aP];simp only[aC];omega
   ·have:=cS gs;unfold LZ at *;rw[aQ,af,af,aP,aP];simp only[aC];omega
  ·intro s;unfold iz;refine (K.operand s).bind fun a s1 l1=>(K.ops s1).bind fun l s2 l2=>Z.pure ?_;have h1:=mN (a::l);have h2:=cS l;rw[af] at h1;unfold NZ LZ at *;omega
  ·intro s;unfold rD;refine Z.fw (Z.operator.bind fun o s1 l1=>(K.operand s1).bind fun b s2 l2=>(K.ops s2).bind fun l s3 l3=>Z.pure ?_) (Z.pure (by unfold LZ;rw[cN];omega));unfold NZ LZ at *;rw[cx,cx];omega
  ·intro s;unfold dP;refine Z.may (fun s1 l1=>?_) (Z.may (fun s1 l1=>?_) (Z.may (fun s1 l1=>?_) (Z.may (fun s1 l1=>?_) (Z.may (fun s1 l1=>?_) ?_))))
   ·refine (K.atoms s1).bind fun l s2 ⟨_,l2⟩=>Z.cd fun s3 l3=>(K.exp s3).bind fun e s4 l4=>Z.pure ?_;have:=cS l;unfold NZ LZ at *;rw[aQ,af,af,aP];simp only[aC];omega
   ·refine (Z.cq fun s=>NZ.eA (K.eq s) (by omega)).bind fun l s2 l2=>Z.cd fun s3 l3=>(K.exp s3).bind fun e s4 l4=>Z.pure ?_;have:=cS l;unfold NZ LZ at *;rw[aQ,af,af,aP];simp only[aC];omega
   ·refine (K.exp s1).bind fun a s2 l2=>Z.cd fun s3 l3=>(K.exp s3).bind fun b s4 l4=>Z.cd fun s5 l5=>(K.exp s5).bind fun c s6 l6=>Z.pure ?_;unfold NZ at *;rw[aQ,af,af,af];simp only[aC];omega
   ·refine (K.exp s1).bind fun a s2 l2=>Z.cd fun s3 l3=>(Z.cq fun s=>NZ.eA (K.alt s) (by omega)).bind fun l s4 l4=>Z.pure ?_;have:=cS l;unfold NZ LZ at *;rw[aQ,af];omega
   ·refine (Z.cq fun s=>NZ.eA (K.stmt s) (by omega)).bind fun l s4 l4=>Z.pure ?_;have:=cS l;unfold NZ LZ at *;rw[aQ];omega
   ·refine (K.atoms s).bind fun l s2 ⟨hl,l2⟩=>Z.pure ?_;have:=Lo hl;unfold NZ LZ at *;omega
  ·intro s;unfold pM;refine (K.exp s).bind fun l s1 l1=>(K.rhs s1 _).bind fun r s2 l2=>Z.pure ?_;unfold NZ at *;rw[aQ,af,af];simp only[aC];omega
  ·intro s n;unfold qW;refine Z.may (fun s1 l1=>(K.exp s1).bind fun e s2 l2=>Z.pure ?_) (Z.pure (by omega));unfold NZ at *;rw[aQ,af,af];simp only[aC];omega
  ·intro s;unfold lq;refine Z.may (fun s1 l1=>(Z.cq fun s=>NZ.eA (K.eq s) (by omega)).bind fun l s2 l2=>Z.may (fun s3 l3=>(K.exp s3).bind fun e s4 l4=>(K.gen s4 _).mono fun a m h=>?_) (Z.pure ?_)) ((K.exp s).bind fun n s1 l1=>(K.gen s1 n).mono fun a m h=>?_)
   ·have:=cS l;rw[aQ,af,af,aP] at h;simp only[aC] at h;unfold NZ LZ at *;omega
   ·have:=cS l;unfold NZ LZ at *;rw[aQ,af,aP];simp only[aC];omega
   ·unfold NZ at *;omega
  ·intro s;unfold fX;refine (K.atom s).bind fun a s1 l1=>(K.atomsl s1).bind fun l s2 l2=>Z.pure ⟨by simp,?_⟩;unfold NZ LZ at *;rw[cx];omega
  ·intro s;unfold ju;refine Z.fw ((K.atom s).bind fun a s1 l1=>(K.atomsl s1).bind fun l s2 l2=>Z.pure ?_) (Z.pure (by unfold LZ;rw[cN];omega));unfold NZ LZ at *;rw[cx];omega
  ·intro s;unfold iC;refine Z.named.bind fun t s1 l1=>Z.cd fun s2 l2=>(K.exp s2).bind fun e s3 l3=>Z.pure ?_;unfold NZ at *;rw[aQ,af];simp only[aC];omega
  ·intro s;unfold jF;exact (K.base s).bind fun n s1 l1=>(K.recs s1 n).mono fun a m h=>by unfold NZ at *;omega
  ·intro s n;unfold mR;refine Z.fw (Z.cd fun s1 l1=>?_) (Z.pure (by omega));have hl:Z s1 (get >>= fun s=>if n.kind=19∧lI s Gj=true then (pure []:PM (List Nd)) else eV (iC k) k) (LZ s1.r.length 0):=Z.fw (c:=fun s=>n.kind=19∧lI s Gj=true) (Z.pure (by unfold LZ;rw[cN];omega)) (LZ.eA (Z.fI fun s=>NZ.eA (K.field s) (by omega)) (by omega));refine hl.bind fun l s2 l2=>Z.iZ.bind fun _ s3 l3=>(K.recs s3 _).mono fun a m h=>?_;have:=cS l;unfold LZ at l2
   split at h
   ·rw[aQ] at h;have:=cD n;omega
   ·rw[aQ,af] at h;omega
  ·intro s;unfold lB;refine Z.fw (Z.dY fun t s1 l1=>Z.may (fun s2 l2=>(K.atom s2).bind fun a s3 l3=>Z.pure ?_) (Z.pure ?_)) (Z.fw (Z.dY fun t s1 l1=>Z.pure ?_) (Z.fw (Z.dY fun t s1 l1=>Z.pure ?_) (Z.fw (Z.dY fun t s1 l1=>Z.pure ?_) (Z.may (fun s1 l1=>Z.pure ?_) (Z.may (fun s1 l1=>?_) (Z.cd fun s1 l1=>?_))))))
   ·unfold NZ at *;rw[aQ,af];simp only[aC];omega
   ·unfold NZ;rw[aQ];simp only[aC];omega
   ·unfold NZ;rw[aQ];simp only[aC];omega
   ·unfold NZ;rw[fT];simp only[aC];omega
   ·unfold NZ;rw[aQ];simp only[aC];omega
   ·unfold NZ;rw[aQ];simp only[aC];omega
   ·refine (Z.lY (LZ.eA (Z.fI fun s=>NZ.eA (K.exp s) (by omega)) (by omega))).bind fun l s2 l2=>Z.cd fun s3 l3=>Z.pure ?_;have:=cS l;unfold NZ LZ at *;rw[aQ];omega
   ·exact (K.inner s1).bind fun n s2 l2=>Z.cd fun s3 l3=>Z.pure (by unfold NZ;omega)
  ·intro s j
   cases j with
   |zero=>unfold oh;exact Z.pure (by unfold LZ;rw[cN];omega)
   |succ j=>
    unfold oh;refine Z.may (fun s1 l1=>(K.exp s1).bind fun a s2 l2=>(K.expc s2 j).bind fun l s3 l3=>Z.pure ?_) (Z.pure (by unfold LZ;rw[cN];omega));unfold NZ LZ at *;rw[cx];omega
  ·intro s;unfold iS;refine Z.fw (Z.pure ?_) (Z.fw (Z.empty.bind fun n s1 l1=>Z.pure ?_) (Z.fw (Z.get ?_) ((K.operand s).bind fun a s1 l1=>(K.innerl s1 _).mono fun b m h=>?_)))
   ·rw[aQ];simp only[aC];omega
   ·rw[aQ];simp only[aC];omega
   ·refine Z.operator.bind fun o s1 l1=>Z.get (Z.ite (fun _=>Z.pure ?_) fun _=>(K.exp s1).bind fun e s2 l2=>Z.pure ?_)
    ·unfold NZ at *;have:=cD o;split<;>(rw[aQ];simp only[aC];omega)
    ·unfold NZ at *;rw[aQ,af,af];simp only[aC];omega
   ·unfold NZ at *;rw[cx,cN] at h;omega
  ·intro s l;unfold jT;refine Z.fw (Z.operator.bind fun o s1 l1=>Z.fw (Z.pure ?_) ((K.operand s1).bind fun b s2 l2=>(K.innerl s2 _).mono fun c m h=>?_)) ((K.expc s 2).bind fun m s1 l1=>?_)
   ·have:=mN l;have:=cS l;unfold NZ at *;rw[aQ,af,af];simp only[aC];omega
   ·unfold NZ at *;rw[xP,cx,cx,cN] at h;omega
   ·have:=mN l;have:=cS l
    split
    ·refine Z.pure ?_;unfold LZ at l1;omega
    ·rename_i hm;refine Z.pure ?_;have:=cS m;unfold LZ at l1;rw[aQ,af];have:m≠[]:=fun e=>hm e;have:4≤lz m∧aC m+3≤lz m:=by
      match m,this with
      |a::m,_=>have:=cS m;have:=cD a;rw[cx,af];omega
     omega
protected theorem Z.signed {k:Nat}{kind:Int}:Z s (gF k kind) (NZ s.r.length 32):=by
 unfold gF;refine Z.named.bind fun t s1 l1=>Z.cd fun s2 l2=>((yI k).1 s2).bind fun a s3 l3=>Z.pure ?_;unfold NZ at *;rw[aQ,af];simp only[aC];omega
protected theorem Z.ow:∀k s,Z s (jl k) (LZ s.r.length 0)
 |0,_=>Z.out
 |k+1,s=>by
  unfold jl;refine Z.fw (((yI k).2.2.2 s).bind fun a s1 l1=>(Z.ow k s1).bind fun l s2 l2=>Z.pure ?_) (Z.pure (by unfold LZ;rw[cN];omega));unfold NZ LZ at *;rw[cx];omega
protected theorem Z.jr {k:Nat}:Z s (dv k) (NZ s.r.length 32):=by
 unfold dv;refine Z.named.bind fun t s1 l1=>Z.fw (Z.cd fun s2 l2=>(Z.fI fun s=>NZ.eA Z.signed (by omega)).bind fun l s3 l3=>Z.iZ.bind fun _ s4 l4=>Z.pure ?_) ((Z.ow k s1).bind fun l s2 l2=>Z.pure ?_)
 ·have:=cS l;unfold NZ LZ at *;rw[aQ,af,aP];simp only[aC];omega
 ·have:=cS l;unfold NZ LZ at *;rw[aQ,af,aP];simp only[aC];omega
protected theorem Z.sF:∀k s w,Z s (oq k w) (LZ s.r.length 0)
 |0,_,_=>Z.out
 |k+1,s,w=>by
  unfold oq;refine Z.may (fun s1 l1=>Z.jr.bind fun a s2 l2=>(Z.sF k s2 _).bind fun l s3 l3=>Z.pure ?_) (Z.pure (by unfold LZ;rw[cN];omega));unfold NZ LZ at *;rw[cx];omega
protected theorem Z.data {k:Nat}:Z s (nH k) (NZ s.r.length 20):=by
 unfold nH;refine Z.dY fun _ s1 l1=>Z.lQ fun t s2 l2=>(Z.oH k s2).bind fun v s3 l3=>(Z.sF k s3 _).bind fun c s4 l4=>Z.pure ?_;have:=cS v;have:=cS c;unfold NZ LZ at *;rw[aQ,af,af,aP,aP];simp only[aC];omega
protected theorem Z.uc {k:Nat}:Z s (kH k) (NZ s.r.length 20):=by
 unfold kH;refine Z.dY fun _ s1 l1=>Z.lQ fun t s2 l2=>Z.kL.bind fun v s3 l3=>Z.may (fun s4 l4=>(Z.cq fun s=>NZ.eA Z.signed (by omega)).bind fun l s5 l5=>Z.pure ?_) (Z.pure ?_)
 ·have:=cS l;unfold NZ LZ at *;rw[aQ,af,af,aP];simp only[aC];omega
 ·unfold NZ at *;rw[aQ,af,af,aP];simp only[aC];omega
protected theorem Z.pred:Z s kU (NZ s.r.length 32):=by
 unfold kU;refine Z.lQ fun t s1 l1=>Z.kL.bind fun v s2 l2=>Z.pure ?_;unfold NZ at *;rw[aQ,af];simp only[aC];omega
protected theorem Z.head {k:Nat}:Z s (nJ k) (NZ s.r.length 30):=by
 unfold nJ;refine Z.fw (Z.dY fun t s1 l1=>Z.pure ?_) (Z.may (fun s1 l1=>?_) (Z.cd fun s1 l1=>Z.fw ?_ (Z.fw ?_ (Z.may (fun s2 l2=>?_) (Z.fw ?_ ?_)))))
 ·unfold NZ;rw[aQ];simp only[aC];omega
 ·have hl:Z s1 (get >>= fun s=>if kN s [1]=true then (do let a←il;pure [a]) else (pure []:PM (List Nd))) (LZ s1.r.length 0):=Z.fw (Z.kL.bind fun a s2 l2=>Z.pure (by unfold NZ at l2;unfold LZ;rw[cx,cN];omega)) (Z.pure (by unfold LZ;rw[cN];omega));refine hl.bind fun l s2 l2=>Z.cd fun s3 l3=>Z.pure ?_;have:=jv kM l;unfold NZ LZ at *;omega
 ·refine Z.dY fun t s2 l2=>(Z.oH k s2).bind fun l s3 l3=>Z.cd fun s4 l4=>Z.pure ?_;have:=jv t.text l;unfold NZ LZ at *;omega
 ·refine Z.kL.bind fun a s2 l2=>Z.may (fun s3 l3=>Z.kL.bind fun b s4 l4=>Z.cd fun s5 l5=>Z.pure ?_) (Z.cd fun s3 l3=>Z.kL.bind fun b s4 l4=>Z.may (fun s5 l5=>Z.kL.bind fun c s6 l6=>Z.cd fun s7 l7=>Z.pure ?_) (Z.cd fun s5 l5=>Z.pure ?_))
  ·unfold NZ at *;rw[aQ,af,af,aQ,af,af,aQ];simp only[aC];omega
  ·have:=jv dI [a,b,c];rw[cx,cx,cx,cN] at this;unfold NZ at *;omega
  ·have:=jv iv [a,b];rw[cx,cx,cN] at this;unfold NZ at *;omega
 ·refine Z.cd fun s3 l3=>Z.pure ?_;have:=jv ez [];rw[cN] at this;unfold NZ;omega
 ·refine Z.empty.bind fun n s2 l2=>Z.cd fun s3 l3=>Z.pure ?_;have:=jv n [];rw[cN] at this;unfold NZ;omega
 ·refine Z.cd fun s3 l3=>Z.pure ?_;have:=jv h_ [];rw[cN] at this;unfold NZ;omega
protected theorem Z.inst {k:Nat}:Z s (nK k) (NZ s.r.length 20):=by
 unfold nK;refine Z.dY fun _ s1 l1=>?_;have hc:Z s1 (bB kP >>= fun b=>if b=true then (do let l←(do if eM (←get) [gI] then pure [] else eV kU k:PM (List Nd));let _←bC gI;let _←bC Mf;pure l) else (get >>= fun s=>get >>= fun s'=>if (kN s [2]&&decide ((gC s' 1).kind=1))=true then (do let p←kU;let _←bC Mf;pure [p]) else pure []:PM (List Nd))) (LZ s1.r.length 0):=by
  refine Z.may (fun s2 l2=>(Z.lY (LZ.eA (Z.fI fun s=>NZ.eA Z.pred (by omega)) (by omega))).bind fun l s3 l3=>Z.cd fun s4 l4=>Z.cd fun s5 l5=>Z.pure ?_) (Z.get (Z.get (Z.ite (fun _=>Z.pred.bind fun p s2 l2=>Z.cd fun s3 l3=>Z.pure ?_) fun _=>Z.pure ?_)))
  ·unfold LZ at *;omega
  ·unfold NZ LZ at *;rw[cx,cN];omega
  ·unfold LZ;rw[cN];omega
 refine hc.bind fun c s2 l2=>Z.lQ fun t s3 l3=>Z.head.bind fun h s4 l4=>Z.may (fun s5 l5=>(Z.cq fun s=>NZ.eA ((zK k).eq s) (by omega)).bind fun l s6 l6=>Z.pure ?_) (Z.pure ?_)
 ·have:=cS c;have:=cS l;unfold NZ LZ at *;rw[aQ,af,af,af,aP,aP];simp only[aC];omega
 ·have:=cS c;unfold NZ LZ at *;rw[aQ,af,af,af,aP,aP];simp only[aC];omega
protected theorem Z.fix {k:Nat}:Z s (fixF k) (NZ s.r.length 20):=by
 unfold fixF;refine Z.dY fun t s1 l1=>Z.get (Z.get (Z.ite (fun _=>Z.bad (by decide)) fun _=>Z.lQ fun n s2 l2=>(Z.fI fun s=>NZ.eA Z.operator (by omega)).bind fun l s3 l3=>Z.pure ?_));have:=cS l;unfold NZ LZ at *;rw[fT,af,aP];simp only[aC];omega
protected theorem Z.decl {k:Nat}:Z s (nN k) (NZ s.r.length 20):=by
 unfold nN;exact Z.fw Z.data (Z.fw Z.uc (Z.fw Z.inst (Z.fw Z.fix ((zK k).eq s))))
protected theorem Z.top {k:Nat}{b:List Nd×List Nd}:Z s (nU k b) (fun c m=>lz c.1+lz c.2+40 * m≤lz b.1+lz b.2+40 * s.r.length):=by
 unfold nU;refine Z.get (Z.ite (fun _=>Z.dY fun _ s1 l1=>Z.lQ fun t s2 l2=>Z.items.bind fun i s3 l3=>Z.pure ?_) fun _=>Z.decl.bind fun d s1 l1=>Z.pure ?_)
 ·simp only[xP,cx,cN];rw[aQ,af];simp only[aC];omega
 ·unfold NZ at l1;simp only[xP,cx,cN];omega
theorem uh {k:Nat}:Z s (dW k) (NZ s.r.length 0):=by
 unfold dW;refine Z.cd fun s1 l1=>Z.lQ fun t s2 l2=>Z.items.bind fun e s3 l3=>Z.cd fun s4 l4=>(Z.block (μ:=fun b:List Nd×List Nd=>lz b.1+lz b.2) fun s b=>Z.top).bind fun b s5 l5=>Z.lQ fun _ s6 l6=>Z.pure ?_;have:=cS b.1;have:=cS b.2;simp only[cN] at l5;unfold NZ;rw[aQ,af,af,af,aP,aP];simp only[aC];omega
end
section
variable {sp:List UInt8→Int→Bool}
theorem e_ {k n:Int}{s:List UInt8}{l:List Nd}(hk:0≤k∧k≤100)(h23:k≠23)(h:∀a∈l,uI a):uI (.mk k s n l):=l8.2 ⟨hk,fun e=>absurd e h23,h⟩
theorem jV {l:List Nd}(h:∀a∈l,uI a):uI (listed l):=e_ (by omega) (by omega) h
theorem JB {o:Nd}(h:mu sp o=true):uI o:=by
 obtain⟨h1,h2,h3⟩:=oW h;obtain⟨k,s,n,l⟩:=o;simp only[Nd.kind,Nd.ag] at h1 h2;subst h1 h2;exact e_ (by omega) (by omega) aN
structure KR (sp:List UInt8→Int→Bool)(m:Nat):Prop where
 pe:∀n,dw n≤m→PE sp n→uI n∧n.kind≠24
 po:∀l,aC l≤m→PO sp l→(∀a∈l,uI a)∧l.length % 2=0∧∀(i:Nat) (o:Nd),l[i]?=some o→o.kind=24→i % 2=0
 pf:∀n,dw n≤m→PF sp n→uI n
 pa:∀n,dw n≤m→PA sp n→uI n
 ps:∀n,dw n≤m→J5 sp n→uI n
 pr:∀n,dw n≤m→PR sp n→uI n
 pg:∀n,dw n≤m→PG sp n→uI n
 pq:∀n,dw n≤m→PQ sp n→uI n
theorem nr {k n:Int}{s:List UInt8}{l:List Nd}(h:k≠24):(Nd.mk k s n l).kind≠24:=h
theorem sq {P:Nd→Prop}{a b:Nd}(ha:P a)(hb:P b):∀x∈[a,b],P x:=ay ha (ay hb aN)
theorem Ol:∀m,KR sp m
 |0=>⟨fun n h=>by have:=cD n;omega,fun l h hl=>by
     cases hl with
     |nil=>exact⟨aN,rfl,fun i o h=>by simp at h⟩
     |cons _ _ _=>rw[af] at h;omega,fun n h=>by have:=cD n;omega,fun n h=>by have:=cD n;omega,fun n h=>by have:=cD n;omega,fun n h=>by have:=cD n;omega,fun n h=>by have:=cD n;omega,fun n h=>by have:=cD n;omega⟩
 |m+1=>by
  have K:=Ol m;have sub:∀{k:Int} {s:List UInt8} {l:List Nd},dw (bk k s l)≤m+1→aC l≤m:=fun h=>by rw[aQ] at h;omega
  have sb:∀{k:Int} {s:List UInt8} {l:List Nd},dw (bk k s l)≤m+1→∀a∈l,dw a≤m:=fun h a ha=>by have:=sub h;have:=nq ha;omega
  have lst:∀{l:List Nd},dw (listed l)≤m→∀a∈l,dw a≤m:=fun h a ha=>by rw[aP] at h;have:=nq ha;omega
  have PE1:∀n,dw n≤m+1→PE sp n→uI n∧n.kind≠24:=by
   intro n h hn
   cases hn with
    |var _=>exact⟨e_ (by omega) (by omega) aN,nr (by omega)⟩
    |con _=>exact⟨e_ (by omega) (by omega) aN,nr (by omega)⟩
    |int _=>exact⟨e_ (by omega) (by omega) aN,nr (n:=_) (by omega)⟩
    |str=>exact⟨e_ (by omega) (by omega) aN,nr (by omega)⟩
    |app ha hb=>exact⟨e_ (by omega) (by omega) (sq (K.pe _ (sb h _ (by simp)) ha).1 (K.pe _ (sb h _ (by simp)) hb).1),nr (by omega)⟩
    | @ops a l ha hl hne=>
     have h0:=sub h;rw[af] at h0;have ha:=K.pe a (by omega) ha;have hl:=K.po l (by omega) hl;refine⟨l8.2 ⟨by simp [bk,Nd.kind],fun _=>⟨?_,?_,fun i o hi hk=>?_⟩,ay ha.1 hl.1⟩,nr (by omega)⟩
     ·show 3≤(a::l).length;have h2:=hl.2.1;have:l.length≠0:=fun e=>hne (List.eq_nil_of_length_eq_zero e);rw[List.length_cons];omega
     ·show (a::l).length % 2=1;have h2:=hl.2.1;rw[List.length_cons];omega
     ·have hi:(a::l)[i]?=some o:=hi
      cases i with
      |zero=>rw[List.getElem?_cons_zero] at hi;cases hi;exact absurd hk ha.2
      |succ i=>rw[List.getElem?_cons_succ] at hi;have:=hl.2.2 i o hi hk;omega
    |lam _ hl he=>exact⟨e_ (by omega) (by omega) (sq (jV fun a ha=>(K.pe a (lst (sb h _ (by simp)) a ha) (hl a ha)).1) (K.pe _ (sb h _ (by simp)) he).1),nr (by omega)⟩
    |elet hl he=>exact⟨e_ (by omega) (by omega) (sq (jV fun a ha=>K.pq a (lst (sb h _ (by simp)) a ha) (hl a ha)) (K.pe _ (sb h _ (by simp)) he).1),nr (by omega)⟩
    |eif ha hb hc=>exact⟨e_ (by omega) (by omega) (ay (K.pe _ (sb h _ (by simp)) ha).1 (sq (K.pe _ (sb h _ (by simp)) hb).1 (K.pe _ (sb h _ (by simp)) hc).1)),nr (by omega)⟩
    |ecase ha hl=>exact⟨e_ (by omega) (by omega) (ay (K.pe _ (sb h _ (by simp)) ha).1 fun x hx=>K.pa x (sb h _ (List.mem_cons_of_mem _ hx)) (hl x hx)),nr (by omega)⟩
    |edo hl=>exact⟨e_ (by omega) (by omega) fun x hx=>K.ps x (sb h _ hx) (hl x hx),nr (by omega)⟩
    |tup hl _=>exact⟨e_ (by omega) (by omega) fun x hx=>(K.pe x (sb h _ hx) (hl x hx)).1,nr (by omega)⟩
    |lst hl=>exact⟨e_ (by omega) (by omega) fun x hx=>(K.pe x (sb h _ hx) (hl x hx)).1,nr (by omega)⟩
    |left ha ho=>exact⟨e_ (by omega) (by omega) (sq (K.pe _ (sb h _ (by simp)) ha).1 (JB ho)),nr (by omega)⟩
    |right ho ha=>exact⟨e_ (by omega) (by omega) (sq (JB ho) (K.pe _ (sb h _ (by simp)) ha).1),nr (by omega)⟩
    |make _ hl=>exact⟨e_ (by omega) (by omega) fun x hx=>K.pf x (sb h _ hx) (hl x hx),nr (by omega)⟩
    |put _ ha _ hl=>exact⟨e_ (by omega) (by omega) (ay (K.pe _ (sb h _ (by simp)) ha).1 fun x hx=>K.pf x (sb h _ (List.mem_cons_of_mem _ hx)) (hl x hx)),nr (by omega)⟩
    |wild=>exact⟨e_ (by omega) (by omega) aN,nr (by omega)⟩
    |eas _ ha=>exact⟨e_ (by omega) (by omega) (ay (K.pe _ (sb h _ (by simp)) ha).1 aN),nr (by omega)⟩
  refine⟨PE1,fun l h hl=>?_,fun n h hn=>?_,fun n h hn=>?_,fun n h hn=>?_,fun n h hn=>?_,fun n h hn=>?_,fun n h hn=>?_⟩
  ·cases hl with
   |nil=>exact⟨aN,rfl,fun i o h=>by simp at h⟩
   | @cons o b l ho hb hl=>
    rw[af,af] at h;have hb:=K.pe b (by omega) hb;have hl:=K.po l (by omega) hl;refine⟨ay (JB ho) (ay hb.1 hl.1),?_,fun i x hi hk=>?_⟩
    ·have:=hl.2.1;rw[List.length_cons,List.length_cons];omega
    ·match i with
     |0=>rfl
     |1=>rw[List.getElem?_cons_succ,List.getElem?_cons_zero] at hi;cases hi;exact absurd hk hb.2
     |i+2=>rw[List.getElem?_cons_succ,List.getElem?_cons_succ] at hi;have:=hl.2.2 i x hi hk;omega
  ·cases hn with
   |mk _ ha=>exact e_ (by omega) (by omega) (ay (K.pe _ (sb h _ (by simp)) ha).1 aN)
  ·cases hn with
   |mk ha hr=>exact e_ (by omega) (by omega) (sq (K.pe _ (sb h _ (by simp)) ha).1 (K.pr _ (sb h _ (by simp)) hr))
  ·cases hn with
   |exp he=>exact (PE1 n h he).1
   |gen ha he=>exact e_ (by omega) (by omega) (sq (K.pe _ (sb h _ (by simp)) ha).1 (K.pe _ (sb h _ (by simp)) he).1)
   |slet hl=>exact e_ (by omega) (by omega) (ay (jV fun a ha=>K.pq a (lst (sb h _ (by simp)) a ha) (hl a ha)) aN)
  ·cases hn with
   |plain he hl=>
    have hg:=sb h _ (List.mem_cons_self);have h17:=lst hg _ (List.mem_cons_self);rw[aQ] at h17;refine e_ (by omega) (by omega) (sq (jV (ay (e_ (by omega) (by omega) (sq (e_ (by omega) (by omega) aN) (K.pe _ (by rw[af,af] at h17;omega) he).1)) aN)) (jV fun a ha=>K.pq a (lst (sb h _ (by simp)) a ha) (hl a ha)))
   |guards _ hg hl=>exact e_ (by omega) (by omega) (sq (jV fun a ha=>K.pg a (lst (sb h _ (by simp)) a ha) (hg a ha)) (jV fun a ha=>K.pq a (lst (sb h _ (by simp)) a ha) (hl a ha)))
  ·cases hn with
   |mk hc he=>exact e_ (by omega) (by omega) (sq (K.pe _ (sb h _ (by simp)) hc).1 (K.pe _ (sb h _ (by simp)) he).1)
  ·cases hn with
   |mk hc he=>exact e_ (by omega) (by omega) (sq (K.pe _ (sb h _ (by simp)) hc).1 (K.pr _ (sb h _ (by simp)) he))
theorem Y3 {n:Nd}(h:PQ sp n):uI n:=(Ol (dw n)).pq n (Nat.le_refl _) h
theorem NR {n:Nd}(h:PQ sp n)(hz:dw n≤274877906944):oT n:=⟨hz,Y3 h⟩
theorem S2 {n:Nd}(h:PQ sp n):n.kind=15:=by cases h;rfl
theorem AV {x:NN}{k:Int}{s:List UInt8}{a b c:Nd}(h:x.er=bk k s [a,b,c]):∃e i D:NN,x.ag=[e,i,D]∧e.er=a∧i.er=b∧D.er=c:=by
 have h1:=congrArg Nd.ag h;rw[NN.bo] at h1;have h1:x.ag.map NN.er=[a,b,c]:=h1
 match hx:x.ag,h1 with
 | [e,i,D],h1=>
  simp only[List.map_cons,List.map_nil,List.cons.injEq,and_true] at h1;exact⟨e,i,D,rfl,h1.1,h1.2.1,h1.2.2⟩
theorem wS {x:NN}{l:List Nd}(h:x.er=listed l):x.ag.map NN.er=l:=by
 have h1:=congrArg Nd.ag h;rw[NN.bo] at h1;exact h1
theorem y9 (l:List Nd):l.length≤aC l:=by
 induction l with
 |nil=>exact Nat.zero_le _
 |cons a l ih=>rw[af,List.length_cons];omega
theorem LS {x:NN}(h:WW sp x.er)(hz:dw x.er≤274877906944):K0 x:=by
 generalize hx:x.er=n at h hz
 cases h with
 | @mk t e i l h1 h2 h3 h4=>
  obtain⟨e',i',D,hs,he,hi,hD⟩:=AV hx;have hl:=wS hD;rw[aQ,af,af,af,aP,aP] at hz;have hlen:D.ag.length=l.length:=by rw[←hl,List.length_map]
  have hll:=y9 l;have hd:∀d∈D.ag,PT sp d.er∧dw d.er≤274877906944:=fun d hd=>by
   have hm:d.er∈l:=hl▸List.mem_map_of_mem hd;have:=nq hm;exact⟨h4 _ hm,by omega⟩
  refine⟨e',i',D,hs,by omega,fun d hdm hk=>?_,fun d hdm hk=>?_⟩
  ·obtain⟨h5,h6⟩:=hd d hdm;rw[←NN.al] at hk;generalize d.er=y at h5 h6 hk
   cases h5 with
   |top _ h15 _ _=>exact absurd hk h15
   |inst _ _ _ _=>exact absurd hk (by simp only[bk,Nd.kind];decide)
   |eq h=>exact NR h h6
  ·obtain⟨h5,h6⟩:=hd d hdm;rw[←NN.al] at hk;generalize hy:d.er=y at h5 h6 hk
   cases h5 with
   |top _ _ _ h10=>exact absurd hk h10
   |eq h=>rw[S2 h] at hk;cases hk
   | @inst t c h l2 _ _ _ hq=>
    obtain⟨c',h',q,hs2,_,_,hq2⟩:=AV hy;have hl2:=wS hq2;rw[aQ,af,af,af,aP] at h6;refine⟨c',h',q,hs2,?_,fun a ha hk2=>?_⟩
    ·rw[hl2];have ai8:=y9 l2;omega
    ·rw[hl2] at ha;have:=nq ha;exact NR (hq a ha) (by omega)
theorem w_ (hG:Gh sp){ts:List Tk}(ht:∀t∈ts,GT sp t)(hl:ts.length≤6871947673){k:Nat}(x:NN)(s:PS)(h:dW k ⟨ts,0⟩=.ok (x.er,s)):K0 x:=by
 have h1:=(At.module hG (k:=k) (s:=⟨ts,0⟩) ht x.er s h).1;have h2:=(uh (k:=k) (s:=⟨ts,0⟩)).2 _ _ h;refine LS h1 ?_;unfold NZ at h2;have:(⟨ts,0⟩:PS).r.length=ts.length:=rfl;omega
theorem E2 {k j:Nat}{ts:List Tk}:gz k j ts≠.error 0:=fun h=>by
 unfold gz at h
 cases h1:dW k ⟨ts,0⟩ with
 |error e=>rw[h1] at h;cases h;exact uh.1 h1
 |ok p=>
  rw[h1] at h;simp only at h
  cases h2:lJ j p.1 with
  |none=>rw[h2] at h;cases h
  |some q=>
   rw[h2] at h;simp only at h
   split at h<;>cases h
end
def U1 (s:List UInt8)(k:Int)(x:List UInt8)(v:Int):Prop:=eP x 0=.tok k x 0 x.length∧x≠[]∧(∀c∈x,c≠10)∧x.length≤s.length
theorem DO {p:UInt8→Bool}:∀{l:List UInt8},(∀c∈l,p c=true)→l.takeWhile p=l
 | [],_=>rfl
 |a::l,h=>by rw[List.takeWhile_cons_of_pos (h a (by simp)),DO fun c hc=>h c (by simp [hc])]
theorem CJ {p:UInt8→Bool}:∀{l:List UInt8},∀c∈l.takeWhile p,p c=true
 | [],c,h=>by simp at h
 |a::l,c,h=>by
  by_cases ha:p a=true
  ·rw[List.takeWhile_cons_of_pos ha] at h;rcases List.mem_cons.1 h with rfl|h
   ·exact ha
   ·exact CJ c h
  ·rw[List.takeWhile_cons_of_neg ha] at h;cases h
theorem As {x:List UInt8}{q:Nat}(h:∀c∈x,dM q c=true):bq x 0 q=x.length:=by
 unfold bq;rw[List.drop_zero,DO h]
theorem AD (x:List UInt8):cQ x 0 x.length=x:=by
 unfold cQ;rw[Nat.zero_add,List.take_length,List.drop_zero]
theorem GA (s:List UInt8)(i q:Nat):cQ s i (bq s i q)=(s.drop i).takeWhile (dM q):=by
 rw[←lK,bq];have:∀l:List UInt8,l.take (l.takeWhile (dM q)).length=l.takeWhile (dM q):=by
  intro l
  induction l with
  |nil=>rfl
  |cons a l ih=>
   by_cases ha:dM q a=true
   ·rw[List.takeWhile_cons_of_pos ha,List.length_cons,List.take_succ_cons,ih]
   ·rw[List.takeWhile_cons_of_neg ha];rfl
 exact this _
theorem Y9 {q:Nat}{c:UInt8}(hq:q=0∨q=2)(h:dM q c=true):c≠10:=fun e=>by
 subst e;rcases hq with rfl|rfl<;>exact absurd h (by decide)
theorem zr {s:List UInt8}{i:Nat}{x r:List UInt8}(h:s.drop i=x++r)(hx:x≠[]):gt x 0=gt s i:=by
 have h1:gt (s.drop i) 0=gt s i:=LG s i 0;rw[←h1,h]
 cases x with
 |nil=>exact absurd rfl hx
 |cons a x=>rfl
theorem AN (p:UInt8→Bool)(l:List UInt8):∃r,l=l.takeWhile p++r:=⟨l.dropWhile p,(List.takeWhile_append_dropWhile).symm⟩
theorem Jz {s:List UInt8}{i n:Nat}{k v:Int}{x:List UInt8}(hi:i<s.length)(h:eP s i=.tok k x v n):0≤v∧(1≤k→k≤4→U1 s k x v):=by
 unfold eP at h;dsimp only at h
 by_cases b1:gt s i=32∨gt s i=10
 ·rw[if_pos b1] at h;cases h
 rw[if_neg b1] at h
 by_cases b2:gt s i=123∧i+1<s.length∧gt s (i+1)=45
 ·rw[if_pos b2] at h
  cases hk:fA s i with
  |none=>rw[hk] at h;cases h
  |some k=>rw[hk] at h;cases h
 rw[if_neg b2] at h
 by_cases b3:jw (gt s i)=true∨gt s i=95
 ·rw[if_pos b3] at h;have h1:=zQ hi (i6.2 b3);rw[GA] at h;obtain⟨r,hr⟩:=AN (dM 0) (s.drop i);have hlen:((s.drop i).takeWhile (dM 0)).length=bq s i 0:=rfl;have hg:=CJ (p:=dM 0) (l:=s.drop i);generalize hX:(s.drop i).takeWhile (dM 0)=X at h hr hlen hg;have hne:X≠[]:=fun e=>by rw[e] at hlen;simp at hlen;omega
  have h0:=zr hr hne;have hle:X.length≤s.length:=by have:=congrArg List.length hr;rw[List.length_drop,List.length_append] at this;omega
  injection h with e1 e2 e3 e4;subst e2;refine⟨by omega,fun hk1 hk4=>⟨?_,hne,fun c hc=>Y9 (.inl rfl) (hg c hc),hle⟩⟩;unfold eP;dsimp only;rw[h0,if_neg b1,if_neg (fun hh=>by
    have hb:=hh.1
    rw[hb] at b3
    exact absurd b3 (by decide)),if_pos b3,As hg,AD,e1]
 rw[if_neg b3] at h
 by_cases b4:aY (gt s i)=true
 ·rw[if_pos b4] at h
  cases hn:kh (cQ s i (bq s i 1)) 0 with
  |none=>rw[hn] at h;cases h
  |some w=>
   rw[hn] at h;injection h with e1 e2 e3 e4;exact⟨by omega,fun hk1 hk4=>by omega⟩
 rw[if_neg b4] at h
 by_cases b5:im (gt s i)=true
 ·rw[if_pos b5] at h;have h1:=Bo hi b5;rw[GA] at h;obtain⟨r,hr⟩:=AN (dM 2) (s.drop i);have hlen:((s.drop i).takeWhile (dM 2)).length=bq s i 2:=rfl;have hg:=CJ (p:=dM 2) (l:=s.drop i);generalize hX:(s.drop i).takeWhile (dM 2)=X at h hr hlen hg;have hne:X≠[]:=fun e=>by rw[e] at hlen;simp at hlen;omega
  have h0:=zr hr hne;have hle:X.length≤s.length:=by have:=congrArg List.length hr;rw[List.length_drop,List.length_append] at this;omega
  split at h
  ·cases h
  ·rename_i hnn;injection h with e1 e2 e3 e4;subst e2;refine⟨by omega,fun hk1 hk4=>⟨?_,hne,fun c hc=>Y9 (.inr rfl) (hg c hc),hle⟩⟩;unfold eP;dsimp only;rw[h0,if_neg b1,if_neg (fun hh=>by
     have hb:=hh.1
     rw[hb] at b5
     exact absurd b5 (by decide)),if_neg b3,if_neg b4,if_pos b5,As hg,AD,if_neg (by rw[hlen];exact hnn),e1]
 rw[if_neg b5] at h
 split at h
 ·injection h with e1 e2 e3 e4;exact⟨by omega,fun hk1 hk4=>by omega⟩
 ·split at h
  ·cases ht:jx s i with
   |none=>rw[ht] at h;cases h
   |some p=>
    rw[ht] at h;injection h with e1 e2 e3 e4;exact⟨by omega,fun hk1 hk4=>by omega⟩
  ·cases h
theorem Oa {x:List UInt8}(h:∀c∈x,c≠10):∀j,j≤x.length→cF x j=(1,1+j)
 |0,_=>rfl
 |j+1,hj=>by
  have hm:gt x j≠10:=h _ (by unfold gt;rw[List.getD_eq_getElem?_getD,List.getElem?_eq_getElem (by omega)];exact List.getElem_mem _);rw[cF,if_neg hm,Oa h j (by omega)];rfl
theorem O6 {s:List UInt8}{k v:Int}{x:List UInt8}(h:U1 s k x v)(hs:s.length≤16384):dK x k=true:=by
 obtain⟨h1,h2,h3,h4⟩:=h;have hl:0<x.length:=by cases x with|nil=>exact absurd rfl h2|cons _ _=>simp
 have hr:re x 0 [⟨k,x,0,(cF x 0).1,(cF x 0).2⟩,Ma x]:=re.tok hl h1 (by rw[Nat.zero_add];exact re.fin);have e:=DE (by omega) hr;unfold dK;rw[e];simp only[decide_eq_true_eq];refine⟨⟨⟨⟨rfl,rfl⟩,rfl⟩,?_⟩,rfl⟩;show ((cF x x.length).2:Int)=_;rw[Oa h3 _ (Nat.le_refl _)];show ((1+x.length:Nat):Int)=_;omega
def yi (t:Tok):Prop:=GT dK (lP t)
theorem LU {s:List UInt8}{i:Nat}{l:List Tok}(h:re s i l)(hs:s.length≤16384):∀t∈l,yi t:=by
 induction h with
 |fin=>intro t ht;rw[List.mem_singleton.1 ht];exact⟨fun h=>by have:=h.2;simp only[Ma,lP] at this;omega,fun h=>by simp only[Ma,lP] at h;omega⟩
 |skip _ _ _ ih=>exact ih
 |tok hi hx _ ih=>
  intro t ht;rcases List.mem_cons.1 ht with rfl|ht
  ·have:=Jz hi hx;exact⟨fun hk=>O6 (this.2 hk.1 hk.2) hs,fun _=>this.1⟩
  ·exact ih t ht
theorem Rh {s:List UInt8}{i:Nat}{l:List Tok}(h:re s i l):l.length+i≤s.length+1:=by
 induction h with
 |fin=>simp;omega
 |skip hi hx _ ih=>
  have:=nw hi;rw[hx] at this;have:=this.1;omega
 |tok hi hx _ ih=>
  have:=nw hi;rw[hx] at this;have:=this.1;rw[List.length_cons];omega
theorem wY {s:List UInt8}{l:List Tok}{d:gT}(h:eS s=(l,d)):(∀t∈l,yi t)∧l.length≤16385:=by
 rcases D6 h with ⟨_,rfl,_⟩| ⟨h1,⟨_,h2⟩| ⟨rfl,_⟩⟩
 ·exact⟨fun t ht=>(by cases ht),by simp⟩
 ·exact⟨LU h2 h1,by have:=Rh h2;omega⟩
 ·exact⟨fun t ht=>(by cases ht),by simp⟩
theorem FF (w:List UInt8)(t:Tok):yi (dN w t):=⟨fun h=>by have:=h.2;simp only[dN,lP] at this;omega,fun h=>by simp only[dN,lP] at h;omega⟩
theorem He (l c:Int):yi ⟨9,[],0,l,c⟩:=⟨fun h=>by have:=h.2;simp only[lP] at this;omega,fun h=>by simp only[lP] at h;omega⟩
theorem JY (st:List ig):∀(k b:Nat),fO st k=(b:Int)→b<k
 |0,b,h=>by unfold fO at h;omega
 |k+1,b,h=>by
  unfold fO at h
  split at h
  ·omega
  ·split at h
   ·omega
   ·have:=JY st k b h;omega
section
variable {Q:Tok→Prop}
theorem pj {a b:List Tok}(ha:∀t∈a,Q t)(hb:∀t∈b,Q t):∀t∈a++b,Q t:=fun t ht=>(List.mem_append.1 ht).elim (ha t) (hb t)
theorem qf {t:Tok}(h:Q t):∀u∈[t],Q u:=fun u hu=>by rw[List.mem_singleton.1 hu];exact h
theorem BI (hl:∀w t,Q (dN w t))(t:Tok)(cR:Int):∀(f:Nat) (out:List Tok) (st:List ig) (o2:List Tok) (s2:List ig),(∀t∈out,Q t)→fS t cR f out st=some (o2,s2)→(∀t∈o2,Q t)∧o2.length+s2.length≤out.length+st.length+1
 |0,_,_,_,_,_,h=>by cases h
 |f+1,out,st,o2,s2,ho,h=>by
  unfold fS at h;dsimp only at h
  split at h
  ·cases h;exact⟨ho,by omega⟩
  ·rename_i hb;have hb2:¬fO st st.length<0:=fun e=>hb (.inl e)
   split at h
   ·cases h;exact⟨ho,by omega⟩
   ·split at h
    ·cases h
    ·split at h
     ·cases h;refine⟨pj ho (qf (hl _ _)),?_⟩;rw[List.length_append,List.length_take];simp;omega
     ·have hlt:(fO st st.length).toNat<st.length:=JY st st.length (fO st st.length).toNat (by omega);obtain⟨h1,h2⟩:=BI hl t cR f _ _ o2 s2 (pj ho (qf (hl _ _))) h;refine⟨h1,?_⟩;rw[List.length_append,List.length_take] at h2;simp only[List.length_cons,List.length_nil] at h2;omega
theorem UA (hl:∀w t,Q (dN w t)){t:Tok}{out:List Tok}{st:List ig}{o2:List Tok}{s2:List ig}(ho:∀t∈out,Q t)(h:jd t out st=(o2,s2)):(∀t∈o2,Q t)∧o2.length+s2.length≤out.length+st.length:=by
 unfold jd at h;dsimp only at h
 split at h
 ·cases h;exact⟨ho,Nat.le_refl _⟩
 split at h
 ·cases h;exact⟨ho,Nat.le_refl _⟩
 have hq:∀t_1∈out++((st.drop (iY st (cj t) st.length)).filter fun x=>decide (x.sort=[])).map (fun _=>dN [125] t),Q t_1:=pj ho fun u hu=>by
  obtain⟨_,_,rfl⟩:=List.mem_map.1 hu;exact hl _ _
 have hlen:((st.drop (iY st (cj t) st.length)).filter fun x=>decide (x.sort=[])).length≤st.length - iY st (cj t) st.length:=by
  have:=List.length_filter_le (fun x:ig=>decide (x.sort=[])) (st.drop (iY st (cj t) st.length));rw[List.length_drop] at this;exact this
 have hp:iY st (cj t) st.length≤st.length:=by
  have:∀k,iY st (cj t) k≤k:=by
   intro k
   induction k with
   |zero=>exact Nat.le_refl _
   |succ k ih=>unfold iY;split<;>omega
  exact this _
 split at h
 ·cases h;exact⟨hq,by rw[List.length_append,List.length_map,List.length_set,List.length_take];omega⟩
 ·split at h
  ·cases h;exact⟨hq,by rw[List.length_append,List.length_map,List.length_take];omega⟩
  ·cases h;exact⟨hq,by rw[List.length_append,List.length_map,List.length_take];omega⟩
theorem QE (hl:∀w t,Q (dN w t)){t:Tok}{out:List Tok}{st:List ig}{o2:List Tok}{s2:List ig}{g:Bool}(ho:∀t∈out,Q t)(h:o9 t out st=(o2,s2,g)):(∀t∈o2,Q t)∧o2.length+s2.length≤out.length+st.length+2:=by
 have h1:=pj ho (qf (hl [123] t));have h2:=pj h1 (qf (hl [125] t));unfold o9 at h;dsimp only at h;generalize (if 0≤fO st st.length then (st.getD (fO st st.length).toNat fk).cR else 0)=m at h
 by_cases hm:m<t.cR
 ·rw[if_pos hm] at h;cases h;exact⟨h1,by simp;omega⟩
 ·rw[if_neg hm] at h;cases h;exact⟨h2,by simp;omega⟩
theorem Xo (hl:∀w t,Q (dN w t)){t ahead:Tok}{first:Bool}{out:List Tok}{st:List ig}{o2:List Tok}{s2:List ig}(ho:∀t∈out,Q t)(ht:Q t)(h:rS t ahead first out st=some (o2,s2)):(∀t∈o2,Q t)∧o2.length+s2.length≤out.length+st.length+6:=by
 unfold rS at h
 split at h
 ·cases h;exact⟨pj ho (qf ht),by simp;omega⟩
 ·dsimp only at h;generalize he:(if kT (cj ahead) then o9 t out st else (out,st,false))=o at h;obtain⟨oa,ob,oc⟩:=o;have hq:(∀u∈oa,Q u)∧oa.length+ob.length≤out.length+st.length+2:=by
   split at he
   ·exact QE hl ho he
   ·cases he;exact⟨ho,by omega⟩
  dsimp only at h
  cases hm:(if first=true∧oc=false then fS t t.cR (ob.length+1) oa ob else some (oa,ob)) with
  |none=>rw[hm] at h;cases h
  |some p=>
   obtain⟨pa,pb⟩:=p;rw[hm] at h;have hp:(∀u∈pa,Q u)∧pa.length+pb.length≤oa.length+ob.length+1:=by
    split at hm
    ·exact BI hl t t.cR _ oa ob pa pb hq.1 hm
    ·cases hm;exact⟨hq.1,by omega⟩
   dsimp only at h;generalize hc:jd t pa pb=c at h;obtain⟨ca,cb⟩:=c;obtain⟨hc1,hc2⟩:=UA hl hp.1 hc;have:=hp.2;have:=hq.2;injection h with h;injection h with e1 e2;subst e1 e2;refine⟨pj hc1 (qf ht),?_⟩
   split<;>simp only[List.length_append,List.length_cons,List.length_nil]<;>omega
theorem OB (hl:∀w t,Q (dN w t)):∀(l:List Tok) (ahead:Tok) (first:Bool) (out:List Tok) (st:List ig) (o2:List Tok) (s2:List ig),(∀t∈out,Q t)→(∀t∈l,Q t)→o7 l ahead first out st=.inl (some (o2,s2))→(∀t∈o2,Q t)∧o2.length+s2.length≤out.length+st.length+6 * l.length
 | [],_,_,out,st,o2,s2,ho,_,h=>by unfold o7 at h;cases h;exact⟨ho,by simp⟩
 |t::r,ahead,first,out,st,o2,s2,ho,hr,h=>by
  unfold o7 at h
  cases hx:rS t ahead (first||decide (ahead.line<t.line)) out st with
  |none=>rw[hx] at h;cases h
  |some p=>
   rw[hx] at h;obtain⟨h1,h2⟩:=Xo hl ho (hr t (by simp)) hx;obtain⟨h3,h4⟩:=OB hl r t false p.1 p.2 o2 s2 h1 (fun u hu=>hr u (by simp [hu])) h;exact⟨h3,by rw[List.length_cons];omega⟩
theorem DF (he:∀l c,Q ⟨9,[],0,l,c⟩):∀(ts:List Tok) (e:Tok),Q e→(∀t∈ts,Q t)→(∀t∈(fU ts e).1,Q t)∧Q (fU ts e).2∧(fU ts e).1.length≤ts.length
 | [],e,h,_=>⟨fun t ht=>(by cases ht),h,Nat.le_refl _⟩
 |t::r,e,_,h=>by
  unfold fU
  split
  ·exact⟨fun t ht=>(by cases ht),h t (by simp),by simp⟩
  ·obtain⟨h1,h2,h3⟩:=DF he r ⟨9,[],0,t.line,t.cR⟩ (he _ _) fun u hu=>h u (by simp [hu]);refine⟨fun u hu=>?_,h2,by simp only[List.length_cons];omega⟩;rcases List.mem_cons.1 hu with rfl|hu
   ·exact h u (by simp)
   ·exact h1 u hu
theorem ZD (hl:∀w t,Q (dN w t))(he:∀l c,Q ⟨9,[],0,l,c⟩){ts a:List Tok}{d:gT}(h:o4 ts=(a,d))(ht:∀t∈ts,Q t):(∀t∈a,Q t)∧a.length≤6 * ts.length+10:=by
 unfold o4 at h;dsimp only at h;obtain⟨h1,h2,h3⟩:=DF he ts ⟨9,[],0,1,1⟩ (he _ _) ht;generalize fU ts ⟨9,[],0,1,1⟩=s at h h1 h2 h3
 cases hr:o7 s.1 qG true [] [] with
 |inr t=>rw[hr] at h;cases h;exact⟨fun t ht=>(by cases ht),by simp⟩
 |inl o=>
  rw[hr] at h
  cases o with
  |none=>cases h;exact⟨fun t ht=>(by cases ht),by simp⟩
  |some p=>
   obtain⟨out,st⟩:=p;obtain⟨h4,h5⟩:=OB hl s.1 qG true [] [] out st (fun t ht=>by cases ht) h1 hr;simp only[List.length_nil] at h5;dsimp only at h;have ho:∀o:List Tok,o=(if kT (cj (s.1.getLastD qG)) then out++[dN [123] s.2]++[dN [125] s.2] else out)→(∀t∈o,Q t)∧o.length≤out.length+2:=fun o e=>by
    subst e
    split
    ·exact⟨pj (pj h4 (qf (hl _ _))) (qf (hl _ _)),by simp⟩
    ·exact⟨h4,by omega⟩
   generalize hoe:(if kT (cj (s.1.getLastD qG)) then out++[dN [123] s.2]++[dN [125] s.2] else out)=o at h;obtain⟨h6,h7⟩:=ho o hoe.symm
   cases hli:fS s.2 0 (st.length+1) o st with
   |none=>rw[hli] at h;cases h;exact⟨fun t ht=>(by cases ht),by simp⟩
   |some p=>
    rw[hli] at h;obtain⟨h8,h9⟩:=BI hl s.2 0 _ o st p.1 p.2 h6 hli;cases h;exact⟨pj h8 (qf h2),by simp only[List.length_append,List.length_cons,List.length_nil];omega⟩
end
theorem Ja {ts a:List Tok}{d:gT}(h:o4 ts=(a,d))(ht:∀t∈ts,yi t):(∀t∈a,yi t)∧a.length≤6 * ts.length+10:=ZD FF He h ht
theorem vz:Gh dK:=by
 constructor
 ·intro s h
  cases hf:jG s with
  |none=>rfl
  |some k=>
   exfalso;unfold jG at hf
   split at hf
   ·rename_i e;subst e;exact absurd h (by rw[show dK h_ 2=false by kernel_rfl];decide)
   split at hf
   ·rename_i e;subst e;exact absurd h (by rw[show dK kM 2=false by kernel_rfl];decide)
   split at hf
   ·rename_i e;subst e;exact absurd h (by rw[show dK iv 2=false by kernel_rfl];decide)
   split at hf
   ·rename_i e;subst e;exact absurd h (by rw[show dK ez 2=false by kernel_rfl];decide)
   split at hf
   ·rename_i e;subst e;exact absurd h (by rw[show dK dI 2=false by kernel_rfl];decide)
   ·cases hf
 ·intro k;kernel_rfl
def cX (m:Nat)(f:Nd→Bool):Prop:=∀n,dw n<m→f n=true→Iq n
def gj (m:Nat)(lf:List Nd→Bool):Prop:=∀l,(∀a∈l,dw a<m)→lf l=true→∀a∈l,Iq a
def YT (k:Int):Prop:= -9223372036854775808≤k∧k≤9223372036854775807
section
variable {m:Nat} {f g:Nd→Bool} {lf:List Nd→Bool} {nf:List UInt8→Bool} {k:Int}
theorem NL {n:Nd}(h:dw n<m+1):∀a∈n.ag,dw a<m:=fun a ha=>by
 have:=nq ha;rw[cg] at h;omega
theorem cX.ge (h:cX (m+1) f):cX m f:=fun n hn hf=>h n (by omega) hf
theorem cX.only (hk:YT k)(h:gj m lf):cX (m+1) (bA k nf lf):=fun n hn hf=>by
 simp only[bA,Bool.and_eq_true,decide_eq_true_eq] at hf;exact oS.2 ⟨by rw[hf.1.1.1];exact hk,h _ (NL hn) hf.2⟩
theorem gj.nothing:gj m aZ:=fun l _ h a ha=>by
 rw[aZ,List.isEmpty_iff] at h;subst h;cases ha
theorem gj.exact:∀{fs:List (Nd→Bool)},(∀f∈fs,cX m f)→gj m (aI fs)
 | [],_=>fun l _ h a ha=>by cases l with|nil=>cases ha|cons _ _=>cases h
 |f::fs,hf=>fun l hs h a ha=>by
  cases l with
  |nil=>cases ha
  |cons b l=>
   rw[aI,Bool.and_eq_true] at h;rcases List.mem_cons.1 ha with rfl|ha
   ·exact hf f (by simp) a (hs a (by simp)) h.1
   ·exact gj.exact (fs:=fs) (fun g hg=>hf g (by simp [hg])) l (fun c hc=>hs c (by simp [hc])) h.2 a ha
theorem gj.some {lo hi:Int}(h:cX m f):gj m (eb lo hi f):=fun l hs hl a ha=>by
 simp only[eb,Bool.and_eq_true,List.all_eq_true] at hl;exact h a (hs a ha) (hl.2 a ha)
theorem gj.after (h:cX m f)(hl:gj m lf):gj m (kF f lf):=fun l hs h2 a ha=>by
 cases l with
 |nil=>cases ha
 |cons b l=>
  rw[kF,Bool.and_eq_true] at h2;rcases List.mem_cons.1 ha with rfl|ha
  ·exact h a (hs a (by simp)) h2.1
  ·exact hl l (fun c hc=>hs c (by simp [hc])) h2.2 a ha
theorem Jf (h:cX m f)(h2:cX m g):∀(l:List Nd) (i:Nat),(∀a∈l,dw a<m)→iD f g i l=true→∀a∈l,Iq a
 | [],_,_,_=>fun a ha=>by cases ha
 |b::l,i,hs,hm=>fun a ha=>by
  rw[iD,Bool.and_eq_true] at hm;rcases List.mem_cons.1 ha with rfl|ha
  ·by_cases hi:i % 2=0
   ·rw[if_pos hi] at hm;exact h a (hs a (by simp)) hm.1
   ·rw[if_neg hi] at hm;exact h2 a (hs a (by simp)) hm.1
  ·exact Jf h h2 l (i+1) (fun c hc=>hs c (by simp [hc])) hm.2 a ha
theorem gj.mixed (h:cX m f)(h2:cX m g):gj m (iW f g):=fun l hs hl a ha=>by
 simp only[iW,Bool.and_eq_true] at hl;exact Jf h h2 l 0 hs hl.1.1 a ha
theorem cX.either {fs:List (Nd→Bool)}(h:∀f∈fs,cX m f):cX m (dX fs):=fun n hn hf=>by
 rw[dX,List.any_eq_true] at hf;obtain⟨f,hm,hf⟩:=hf;exact h f hm n hn hf
theorem cX.lists {lo:Int}(h:cX m f):cX (m+1) (cc lo f):=cX.only (by unfold YT;omega) (gj.some h)
theorem cX.uU (h:cX m f):cX (m+1) (dz f):=fun n hn hf=>by
 rw[dz,Bool.and_eq_true] at hf;exact cX.lists h n hn hf.1
theorem cX.and {c:Nd→Bool}(h:cX m f):cX m (fun n=>c n&&f n):=fun n hn hf=>h n hn (by simp only[Bool.and_eq_true] at hf;exact hf.2)
theorem cX.abL {c:Nd→Bool}(h:cX m f):cX m (fun n=>f n&&c n):=fun n hn hf=>h n hn (by simp only[Bool.and_eq_true] at hf;exact hf.1)
theorem cX.IF {g:Int→Option gZ}(h:∀k b,g k=some b→YT k∧gj m b.sb):cX (m+1) (fc g):=fun n hn hf=>by
 unfold fc at hf
 cases hg:g n.kind with
 |none=>rw[hg] at hf;cases hf
 |some b=>
  rw[hg] at hf;simp only[gZ.ok,Bool.and_eq_true] at hf;obtain⟨h1,h2⟩:=h _ _ hg;exact oS.2 ⟨h1,h2 _ (NL hn) hf.2⟩
theorem bQ {k c:Int}{x b:gZ}{r:Option gZ}(h:(if k=c then some x else r)=some b):(k=c∧b=x)∨r=some b:=by
 by_cases e:k=c
 ·rw[if_pos e] at h;cases h;exact .inl ⟨e,rfl⟩
 ·rw[if_neg e] at h;exact .inr h
theorem bj {fs:List (Nd→Bool)}(h:cX m f)(h2:∀g∈fs,cX m g):∀g∈f::fs,cX m g:=fun g hg=>by
 rcases List.mem_cons.1 hg with rfl|hg
 ·exact h
 ·exact h2 g hg
theorem dC:∀g∈([]:List (Nd→Bool)),cX m g:=fun g hg=>by cases hg
end
section
variable {sp:List UInt8→Int→Bool} {m:Nat}
theorem kr {k:Int}(h:0≤k)(h2:k≤100):YT k:=by unfold YT;omega
theorem Ah:cX m (mu sp):=fun n _ hf=>by
 obtain⟨h1,h2,_⟩:=oW hf;exact oS.2 ⟨by rw[h1];omega,by rw[h2];exact fun a ha=>by cases ha⟩
theorem SL:cX m (pY sp):=fun n hn hf=>Ah (sp:=sp) n hn (by simp only[pY,Bool.and_eq_true] at hf;exact hf.2)
theorem IJ:cX m pC:=fun n hn hf=>cX.only (m:=m) (kr (k:=0) (by omega) (by omega)) gj.nothing n (by omega) (DK n▸hf)
theorem qz:cX m (eZ sp):=fun n hn hf=>cX.only (m:=m) (kr (k:=52) (by omega) (by omega)) gj.nothing n (by omega) (AI (sp:=sp) n▸hf)
theorem tC:∀m,cX m (cV sp)
 |0=>fun n hn=>by omega
 |m+1=>fun n hn hf=>by
  by_cases h1:n.kind=52
  ·exact qz n hn (type52 h1▸hf)
  by_cases h2:n.kind=53
  ·exact cX.only (kr (by omega) (by omega)) gj.nothing n hn (type53 h2▸hf)
  ·exact cX.only (kr (by omega) (by omega)) (gj.exact (bj (tC m) (bj (tC m) dC))) n hn (type54 h1 h2▸hf)
theorem Di:∀(m:Nat) (n:Nd) (j:Nat),dw n<m→dZ sp n j=true→Iq n
 |0,_,_,h,_=>by omega
 |m+1,.mk k s i l,j,hn,hf=>by
  by_cases hk:k=54
  ·rw[dZ.eq_def] at hf;simp only[hk,if_true,Bool.and_eq_true] at hf
   match l,hf with
   | [a,b],hf=>
    simp only[Bool.and_eq_true] at hf;rw[dw] at hn;simp only[aC] at hn;have h1:=Di m a (j+1) (by omega) hf.2.2;have h2:=qz (m:=m) b (by omega) hf.2.1;exact oS.2 ⟨by simp only[Nd.kind];omega,fun x hx=>by
      rcases List.mem_cons.1 hx with rfl|hx
      · exact h1
      · rw[List.mem_singleton.1 hx];exact h2⟩
   | [],hf=>exact absurd hf.2 (by simp)
   | [a],hf=>exact absurd hf.2 (by simp)
   |a::b::c::l,hf=>exact absurd hf.2 (by simp)
  ·rw[uP (by exact hk)] at hf;simp only[Bool.and_eq_true] at hf;exact tC (m+1) _ hn hf.1.2
theorem GC:∀m,cX m (dG sp)
 |0=>fun n hn=>by omega
 |m+1=>fun n hn hf=>by
  have K:=GC m;refine cX.IF (g:=FW sp) (m:=m) (fun k b hb=>?_) n hn (w3 n▸hf);have F:cX m (bA 37 (isVar sp) (aI [dG sp])):=cX.ge (cX.only (kr (by omega) (by omega)) (gj.exact (bj K dC)));unfold FW at hb;rcases bQ hb with ⟨rfl,rfl⟩|hb
  ·exact⟨kr (by omega) (by omega),by first|exact gj.some (lo:=0) (hi:= -1) F|exact gj.some (lo:=2) (hi:=3) F⟩
  rcases bQ hb with ⟨rfl,rfl⟩|hb
  ·exact⟨kr (by omega) (by omega),gj.exact (bj K dC)⟩
  rcases bQ hb with ⟨rfl,rfl⟩|hb
  ·exact⟨kr (by omega) (by omega),by first|exact gj.some (lo:=0) (hi:= -1) K|exact gj.some (lo:=2) (hi:=3) K⟩
  rcases bQ hb with ⟨rfl,rfl⟩|hb
  ·exact⟨kr (by omega) (by omega),by first|exact gj.some (lo:=0) (hi:= -1) K|exact gj.some (lo:=2) (hi:=3) K⟩
  rcases bQ hb with ⟨rfl,rfl⟩|hb
  ·exact⟨kr (by omega) (by omega),gj.mixed K SL⟩
  rcases bQ hb with ⟨rfl,rfl⟩|hb
  ·exact⟨kr (by omega) (by omega),by first|exact gj.some (lo:=0) (hi:= -1) K|exact gj.some (lo:=2) (hi:=3) K⟩
  rcases bQ hb with ⟨rfl,rfl⟩|hb
  ·exact⟨kr (by omega) (by omega),gj.nothing⟩
  rcases bQ hb with ⟨rfl,rfl⟩|hb
  ·exact⟨kr (by omega) (by omega),gj.nothing⟩
  rcases bQ hb with ⟨rfl,rfl⟩|hb
  ·exact⟨kr (by omega) (by omega),gj.nothing⟩
  rcases bQ hb with ⟨rfl,rfl⟩|hb
  ·exact⟨kr (by omega) (by omega),gj.nothing⟩
  cases hb
structure RgK (sp:List UInt8→Int→Bool)(m:Nat):Prop where
 E:cX m (bK sp)
 R:cX m (kV sp)
 F:cX m (np sp)
 Q:cX m (nM sp)
 L:cX m (lU sp)
theorem rgK:∀m,RgK sp m
 |0=>⟨fun n hn=>(by omega),fun n hn=>(by omega),fun n hn=>(by omega),fun n hn=>(by omega),fun n hn=>(by omega)⟩
 |m+1=>by
  have K:=rgK m;have P:=GC (sp:=sp) m;have F:cX m (Bv sp):=cX.ge (cX.only (kr (by omega) (by omega)) (gj.exact (bj K.E dC)));have A:cX m (Eu sp):=cX.ge (cX.only (kr (by omega) (by omega)) (gj.exact (bj P (bj K.R dC))));have G:cX m (yU sp):=cX.ge (cX.only (kr (by omega) (by omega)) (gj.exact (bj P (bj K.E dC))));have S:cX m (vy sp):=cX.ge (cX.only (kr (by omega) (by omega)) (gj.exact (bj K.L dC)));have D:gj m (Pg sp):=fun l hs h a ha=>by
   rw[Pg,Bool.and_eq_true] at h;exact gj.some (cX.either (bj K.E (bj G (bj S dC)))) l hs h.1 a ha
  have L1:cX m (cc 1 (dG sp)):=cX.ge (cX.lists P);have L0:cX m (cc 0 (dG sp)):=cX.ge (cX.lists P);have fE:cX (m+1) (bK sp):=fun n hn hf=>by
   refine cX.IF (g:=Fq sp) (m:=m) (fun k b hb=>?_) n hn (wq n▸hf);unfold Fq at hb;rcases bQ hb with ⟨rfl,rfl⟩|hb
   ·exact⟨kr (by omega) (by omega),gj.after (cX.and K.E) (gj.some F)⟩
   rcases bQ hb with ⟨rfl,rfl⟩|hb
   ·exact⟨kr (by omega) (by omega),by first|exact gj.some (lo:=0) (hi:= -1) F|exact gj.some (lo:=2) (hi:=3) F⟩
   rcases bQ hb with ⟨rfl,rfl⟩|hb
   ·exact⟨kr (by omega) (by omega),gj.exact (bj Ah (bj K.E dC))⟩
   rcases bQ hb with ⟨rfl,rfl⟩|hb
   ·exact⟨kr (by omega) (by omega),gj.exact (bj K.E (bj Ah dC))⟩
   rcases bQ hb with ⟨rfl,rfl⟩|hb
   ·exact⟨kr (by omega) (by omega),by first|exact gj.some (lo:=0) (hi:= -1) K.E|exact gj.some (lo:=2) (hi:=3) K.E⟩
   rcases bQ hb with ⟨rfl,rfl⟩|hb
   ·exact⟨kr (by omega) (by omega),by first|exact gj.some (lo:=0) (hi:= -1) K.E|exact gj.some (lo:=2) (hi:=3) K.E⟩
   rcases bQ hb with ⟨rfl,rfl⟩|hb
   ·exact⟨kr (by omega) (by omega),D⟩
   rcases bQ hb with ⟨rfl,rfl⟩|hb
   ·exact⟨kr (by omega) (by omega),gj.after K.E (gj.some A)⟩
   rcases bQ hb with ⟨rfl,rfl⟩|hb
   ·exact⟨kr (by omega) (by omega),gj.exact (bj K.E (bj K.E (bj K.E dC)))⟩
   rcases bQ hb with ⟨rfl,rfl⟩|hb
   ·exact⟨kr (by omega) (by omega),gj.exact (bj K.L (bj K.E dC))⟩
   rcases bQ hb with ⟨rfl,rfl⟩|hb
   ·exact⟨kr (by omega) (by omega),gj.exact (bj L1 (bj K.E dC))⟩
   rcases bQ hb with ⟨rfl,rfl⟩|hb
   ·exact⟨kr (by omega) (by omega),gj.mixed K.E Ah⟩
   rcases bQ hb with ⟨rfl,rfl⟩|hb
   ·exact⟨kr (by omega) (by omega),gj.exact (bj K.E (bj K.E dC))⟩
   rcases bQ hb with ⟨rfl,rfl⟩|hb
   ·exact⟨kr (by omega) (by omega),gj.nothing⟩
   rcases bQ hb with ⟨rfl,rfl⟩|hb
   ·exact⟨kr (by omega) (by omega),gj.nothing⟩
   rcases bQ hb with ⟨rfl,rfl⟩|hb
   ·exact⟨kr (by omega) (by omega),gj.nothing⟩
   rcases bQ hb with ⟨rfl,rfl⟩|hb
   ·exact⟨kr (by omega) (by omega),gj.nothing⟩
   cases hb
  have g1:cX m (Bk sp):=cX.ge (cX.lists (cX.ge (cX.only (kr (by omega) (by omega)) (gj.exact (bj K.E (bj K.E dC))))));have g2:cX m (Bj sp):=cX.and (cX.ge (cX.lists (cX.ge (cX.only (kr (by omega) (by omega)) (gj.exact (bj IJ (bj K.E dC)))))));have fR:cX (m+1) (kV sp):=fun n hn hf=>cX.only (kr (by omega) (by omega)) (gj.exact (bj (cX.either (bj g1 (bj g2 dC))) (bj K.L dC))) n hn (Gl n▸hf);have C:cX m (vP sp):=cX.ge (cX.only (kr (by omega) (by omega)) (gj.exact (bj L0 (bj K.R dC))));have fF:cX (m+1) (np sp):=cX.abL (cX.only (kr (by omega) (by omega)) (gj.some C));have fQ:cX (m+1) (nM sp):=fun n hn hf=>by
   by_cases hk:n.kind=13
   ·exact fF n hn (uE hk▸hf)
   ·exact cX.only (kr (by omega) (by omega)) (gj.exact (bj (cX.and P) (bj K.R dC))) n hn (G9 hk▸hf)
  exact⟨fE,fR,fF,fQ,fun n hn hf=>cX.uU K.Q n hn (Hk n▸hf)⟩
theorem Pn:cX (m+1) (lS sp):=fun n hn hf=>by
 cases hg:nC sp n.kind with
 |none=>rw[←zZ hg] at hf;exact (rgK (m+1)).Q n hn hf
 |some b0=>
  rw[←wD hg] at hf;refine cX.IF (g:=nC sp) (m:=m) (fun k b hb=>?_) n hn hf;have T:=tC (sp:=sp) m;have ty:∀k:Int,0≤k→k≤100→cX m (xF sp k):=fun k h1 h2=>cX.ge (cX.only (kr h1 h2) (gj.exact (bj T dC)));have C:cX m (EL sp):=cX.ge (cX.only (kr (by omega) (by omega)) (gj.exact (bj (cX.either (bj (cX.ge (cX.lists T)) (bj (cX.ge (cX.lists (ty 7 (by omega) (by omega)))) dC))) dC)));have Pr:cX m (F9 sp):=cX.ge (cX.only (kr (by omega) (by omega)) (gj.exact (bj qz dC)));have I:cX m (fun n=>dZ sp n 0):=fun n hn hf=>Di m n 0 hn hf;unfold nC at hb;rcases bQ hb with ⟨rfl,rfl⟩|hb
  ·exact⟨kr (by omega) (by omega),gj.exact (bj (cX.ge (cX.lists Ah)) dC)⟩
  rcases bQ hb with ⟨rfl,rfl⟩|hb
  ·exact⟨kr (by omega) (by omega),gj.exact (bj (cX.ge (cX.lists Pr)) (bj I (bj (cX.ge (cX.uU (rgK m).F)) dC)))⟩
  rcases bQ hb with ⟨rfl,rfl⟩|hb
  ·exact⟨kr (by omega) (by omega),gj.exact (bj qz (bj (cX.ge (cX.lists (ty 9 (by omega) (by omega)))) dC))⟩
  rcases bQ hb with ⟨rfl,rfl⟩|hb
  ·exact⟨kr (by omega) (by omega),gj.exact (bj (cX.ge (cX.lists qz)) (bj (cX.ge (cX.lists C)) dC))⟩
  cases hb
theorem zH:cX m (jW sp):=fun n hn hf=>by
 rw[←ud,Bool.or_eq_true] at hf;rcases hf with hf|hf
 ·exact IJ n hn hf
 ·exact cX.lists (m:=m) (cX.ge (cX.only (kr (k:=4) (by omega) (by omega)) gj.nothing)) n (by omega) hf
theorem G8 {n:Nd}(h:yk sp n=true):Iq n:=by
 rw[←mod_eq] at h;have I:cX (dw n+1) (YV sp):=cX.ge (cX.only (kr (by omega) (by omega)) (gj.exact (bj zH dC)));exact cX.only (m:=dw n+1) (kr (by omega) (by omega)) (gj.exact (bj zH (bj (cX.ge (cX.lists I)) (bj (cX.ge (cX.uU Pn)) dC)))) n (by omega) h
end
def Al {α:Type}(x:FM α)(Φ:α→Prop):Prop:=∀a b,x=some (a,b)→Φ a
section
variable {α β:Type} {Φ Ψ:α→Prop}
protected theorem Al.pure {a:α}(h:Φ a):Al (Pure.pure a:FM α) Φ:=fun b c e=>by cases e;exact h
protected theorem Al.off:Al (mC:FM α) Φ:=fun a b e=>by cases e
protected theorem Al.bind {x:FM β}{f:β→FM α}{Φ':β→Prop}(hx:Al x Φ')(hf:∀a,Φ' a→Al (f a) Φ):Al (x >>= f) Φ:=fun a b e=>by
 rw[mH] at e
 cases h:x with
 |none=>rw[h] at e;cases e
 |some p=>
  rw[h] at e;simp only at e
  cases h2:f p.1 with
  |none=>rw[h2] at e;cases e
  |some q=>
   rw[h2] at e;cases e;exact hf p.1 (hx _ _ h) _ _ h2
protected theorem Al.dq {b:Bool}{x:FM α}(h:Al x Φ):Al (Go.Proofs.YtdfccaonglmgpaaGreatDoor.dq b >>= fun _=>x) Φ:=Al.bind (Φ':=fun _=>True) (fun _ _ _=>trivial) fun _ _=>h
protected theorem Al.mono {x:FM α}(h:Al x Φ)(hr:∀a,Φ a→Ψ a):Al x Ψ:=fun a b e=>hr a (h a b e)
protected theorem Al.ite {c:Prop}[Decidable c]{x y:FM α}(h1:c→Al x Φ)(h2:¬c→Al y Φ):Al (if c then x else y) Φ:=by
 by_cases h:c
 ·rw[if_pos h];exact h1 h
 ·rw[if_neg h];exact h2 h
end
theorem sub_le (n:Nd)(i:Nat):dw (sub n i)≤dw n:=by
 unfold sub;rw[List.getD_eq_getElem?_getD]
 cases h:n.ag[i]? with
 |none=>exact cD n
 |some a=>
  have:=nq (List.mem_of_getElem? h);rw[cg n];show dw a≤_;omega
theorem pG:∀k,(∀n,Al (jA k n) fun r=>dw r≤dw n)∧(∀h args,Al (ic k h args) fun r=>aC r.1+dw r.2≤aC args+dw h)∧(∀l,Al (dO k l) fun r=>aC r≤aC l)
 |0=>⟨fun n=>by unfold jA;exact Al.off,fun h args=>by unfold ic;exact Al.off,fun l=>by
     cases l with
     |nil=>unfold dO;exact Al.pure (Nat.le_refl _)
     |cons a l=>unfold dO;exact Al.off⟩
 |k+1=>by
  obtain⟨h1,h2,h3⟩:=pG k;refine⟨fun n=>?_,fun h args=>?_,fun l=>?_⟩
  ·unfold jA;refine Al.ite (fun _=>Al.dq (Al.pure (Nat.le_refl _))) fun _=>Al.ite (fun _=>?_) fun _=>Al.ite (fun _=>?_) fun _=>?_
   ·split
    ·rename_i a r hs;refine (h1 a).bind fun p hp=>Al.pure ?_;rw[cg n,hs,aQ,af,af];simp only[aC];omega
    ·exact Al.off
   ·refine (h2 n []).bind fun r hr=>Al.dq (Al.pure ?_);have:=cD r.2;rw[aQ];simp only[aC] at hr;omega
   ·split
    ·exact Al.dq (Al.pure (by rw[tG];exact cD n))
    ·refine (h3 n.ag).bind fun l hl=>Al.pure ?_;rw[fT,cg n];omega
  ·unfold ic;refine Al.ite (fun _=>?_) fun _=>Al.pure (Nat.le_refl _)
   split
   ·rename_i f x r hs;refine (h1 x).bind fun p hp=>(h2 f (p::args)).mono fun r hr=>?_;rw[af] at hr;rw[cg h,hs,af,af];omega
   ·exact Al.off
  ·cases l with
   |nil=>unfold dO;exact Al.pure (Nat.le_refl _)
   |cons a l=>
    unfold dO;exact (h1 a).bind fun p hp=>(h3 l).bind fun r hr=>Al.pure (by rw[af,af];omega)
theorem De:∀(k:Nat) (n:Nd) (args:List Nd) (p:Nd×List Nd),eT k n args=some p→dw p.1+aC p.2≤dw n+aC args
 |0,n,args,p,h=>by cases h
 |k+1,n,args,p,h=>by
  unfold eT at h
  split at h
  ·split at h
   ·rename_i f x r hs;have:=De k f (x::args) p h;rw[af] at this;rw[cg n,hs,af,af];omega
   ·cases h
  ·cases h;exact Nat.le_refl _
theorem EZ (l:List Nd)(i:Nat):aC (l.take i)+aC (l.drop (i+1))≤aC l:=by
 have h:=congrArg aC (List.take_append_drop i l);rw[gb] at h;have h2:aC (l.drop (i+1))≤aC (l.drop i):=by
  cases hd:l.drop i with
  |nil=>rw[←List.drop_drop,hd];simp [aC]
  |cons a r=>rw[←List.drop_drop,hd,af];simp
 omega
theorem Et (k:Nat)(n:Nd):Al (kW k n) fun r=>∀s ps,r=some (s,ps)→aC ps≤dw n+3:=by
 unfold kW;refine Al.ite (fun _=>?_) fun _=>?_
 ·dsimp only;refine Al.dq (Al.ite (fun _=>Al.pure fun s ps e=>by cases e) fun _=>((pG k).2.2 _).bind fun ps hp=>Al.pure fun s ps' e=>?_);cases e;rw[af,af] at hp;have h1:=mN (n.ag.take (oJ 0 0 n.ag).1);have h2:=mN (n.ag.drop ((oJ 0 0 n.ag).1+1));have h3:=EZ n.ag (oJ 0 0 n.ag).1;have h4:=cg n;simp only[aC] at hp;omega
 ·split
  ·exact Al.off
  ·rename_i h args he;have h1:=De k n [] (h,args) he;refine Al.ite (fun _=>Al.pure fun s ps e=>by cases e) fun _=>((pG k).2.2 _).bind fun ps hp=>Al.pure fun s ps' e=>?_;cases e;simp only[aC] at h1;omega
theorem Mq (out:List Nd)(c:Nd):aC (ja out c)≤aC out+1+dw c:=by
 unfold ja
 cases h:out.getLast? with
 |none=>simp only;omega
 |some d=>
  simp only;have e:out=out.dropLast++[d]:=by
   have hne:out≠[]:=fun e=>by rw[e] at h;cases h
   have h2:=List.dropLast_concat_getLast hne;rw[List.getLast?_eq_some_getLast hne] at h;cases h;exact h2.symm
  have h1:aC out=aC out.dropLast+(1+dw d):=by
   have:=congrArg aC e;rw[gb,af] at this;simp only[aC] at this;omega
  rw[gb,af,fT,gb,af,h1,cg d];simp only[aC];omega
structure AlK (k:Nat):Prop where
 eqs:∀l out on,Al (fz k l out on) fun r=>aC r≤aC out+3 * aC l
 right:∀n,Al (iA k n) fun r=>dw r≤3 * dw n
 exps:∀l,Al (bW k l) fun r=>aC r≤3 * aC l
 exp:∀n,Al (cl k n) fun r=>dw r≤3 * dw n
theorem alK:∀k,AlK k
 |0=>⟨fun l out on=>by
     cases l with
     |nil=>unfold fz;exact Al.pure (by simp [aC])
     |cons d l=>unfold fz;exact Al.off,fun n=>by unfold iA;exact Al.off,fun l=>by
     cases l with
     |nil=>unfold bW;exact Al.pure (by simp [aC])
     |cons d l=>unfold bW;exact Al.off,fun n=>by unfold cl;exact Al.off⟩
 |k+1=>by
  have K:=alK k;refine⟨fun l out on=>?_,fun n=>?_,fun l=>?_,fun n=>?_⟩
  ·cases l with
   |nil=>unfold fz;exact Al.pure (by simp [aC])
   |cons d l=>
    unfold fz;refine Al.ite (fun _=>(K.eqs l _ _).mono fun r hr=>?_) fun _=>?_
    ·rw[gb,af] at hr;simp only[aC] at hr;rw[af];omega
    ·split
     ·rename_i e r0 hs;have hd:dw d=3+dw e+dw r0:=by rw[cg d,hs,af,af];simp only[aC];omega
      refine (K.right r0).bind fun r' hr'=>(Et k e).bind fun c hc=>?_
      split
      ·refine ((pG k).1 e).bind fun p hp=>(K.eqs l _ _).mono fun r hr=>?_;rw[gb,af,aQ,af,af] at hr;simp only[aC] at hr;rw[af];omega
      ·rename_i s ps;have hps:=hc s ps rfl;have hcl:dw (bk 14 [] [listed ps,r'])=4+aC ps+dw r':=by rw[aQ,af,af,aP];simp only[aC];omega
       refine Al.ite (fun _=>Al.dq ((K.eqs l _ _).mono fun r hr=>?_)) fun _=>(K.eqs l _ _).mono fun r hr=>?_
       ·have:=Mq out (bk 14 [] [listed ps,r']);rw[af];omega
       ·rw[gb,af,aQ,af,hcl] at hr;simp only[aC] at hr;rw[af];omega
     ·exact Al.off
  ·unfold iA
   split
   ·rename_i a b hs;refine (K.exps a.ag).bind fun x hx=>(K.eqs b.ag [] false).bind fun y hy=>Al.pure ?_;have ha:=cg a;have hb:=cg b;rw[fT,cg n,hs,af,af,af,af,aP,aP];simp only[aC] at hy ⊢;omega
   ·exact Al.off
  ·cases l with
   |nil=>unfold bW;exact Al.pure (by simp [aC])
   |cons a l=>
    unfold bW;exact (K.exp a).bind fun x hx=>(K.exps l).bind fun r hr=>Al.pure (by rw[af,af];omega)
  ·unfold cl;have two:∀(f:FM Nd) (a b:Nd),n.ag=[a,b]→Al f (fun r=>dw r≤1+(1+(1+3 * aC a.ag))+(1+3 * dw b)∨dw r≤3+3 * dw a+3 * dw b)→Al f fun r=>dw r≤3 * dw n:=fun f a b hs h=>h.mono fun r hr=>by
    have ha:=cg a;rw[cg n,hs,af,af];simp only[aC];omega
   refine Al.ite (fun _=>Al.dq (Al.pure (by omega))) fun _=>Al.ite (fun _=>Al.dq ((K.exps n.ag).bind fun l hl=>Al.pure ?_)) fun _=>Al.ite (fun _=>?_) fun _=>Al.ite (fun _=>?_) fun _=>Al.ite (fun _=>?_) fun _=>Al.ite (fun _=>?_) fun _=>Al.ite (fun _=>?_) fun _=>(K.exps n.ag).bind fun l hl=>Al.pure ?_
   ·rw[fT,cg n];omega
   ·split
    ·rename_i a e hs;refine two _ a e hs (((pG k).2.2 a.ag).bind fun ps hps=>(K.exp e).bind fun x hx=>Al.pure (.inl ?_));rw[fT,af,af,aP];simp only[aC];omega
    ·exact Al.off
   ·split
    ·rename_i a e hs;refine two _ a e hs ((K.eqs a.ag [] false).bind fun l hl=>(K.exp e).bind fun x hx=>Al.pure (.inl ?_));rw[fT,af,af,aP];simp only[aC] at hl ⊢;omega
    ·exact Al.off
   ·split
    ·rename_i a hs;refine (K.eqs a.ag [] false).bind fun l hl=>Al.pure ?_;have ha:=cg a;rw[fT,af,aP,cg n,hs,af];simp only[aC] at hl ⊢;omega
    ·exact Al.off
   ·split
    ·rename_i a r hs;refine two _ a r hs (((pG k).1 a).bind fun p hp=>(K.right r).bind fun x hx=>Al.pure (.inr ?_));rw[fT,af,af];simp only[aC];omega
    ·exact Al.off
   ·split
    ·rename_i a e hs;refine two _ a e hs (((pG k).1 a).bind fun p hp=>(K.exp e).bind fun x hx=>Al.pure (.inr ?_));rw[fT,af,af];simp only[aC];omega
    ·exact Al.off
   ·rw[fT,cg n];omega
theorem tU (k:Nat):∀l,Al (fx k l) fun r=>aC r≤11 * aC l
 | []=>by unfold fx;exact Al.pure (by simp [aC])
 |d::l=>by
  unfold fx;refine Al.ite (fun _=>((alK k).eqs _ [] false).bind fun x hx=>Al.dq ((tU k l).bind fun r hr=>Al.pure ?_)) fun _=>(tU k l).bind fun r hr=>Al.pure ?_
  ·have h0:=sub_le d 0;have h1:=sub_le d 1;have h2:=sub_le d 2;have h3:=cg (sub d 2);have h4:=cD d;simp only[aC] at hx;rw[af,af,fT,af,af,af,aP];simp only[aC];omega
  ·rw[af,af];omega
theorem My (k:Nat)(n:Nd):Al (lJ k n) fun r=>dw r≤45 * dw n:=by
 unfold lJ;refine (tU k _).bind fun ds hds=>((alK k).eqs ds [] false).bind fun l hl=>Al.pure ?_;have h0:=sub_le n 0;have h1:=sub_le n 1;have h2:=sub_le n 2;have h3:=cg (sub n 2);have h4:=cD n;simp only[aC] at hl;rw[fT,af,af,af,aP];simp only[aC];omega
theorem Av {k j:Nat}{ts:List Tk}{m:Nd}(h:gz k j ts=.ok m):dw m≤1800 * ts.length:=by
 unfold gz at h
 cases h1:dW k ⟨ts,0⟩ with
 |error e=>rw[h1] at h;cases h
 |ok p=>
  rw[h1] at h;simp only at h
  cases h2:lJ j p.1 with
  |none=>rw[h2] at h;cases h
  |some q=>
   rw[h2] at h;simp only at h;have hf:=My j p.1 q.1 q.2 h2;have hz:=(uh (k:=k) (s:=⟨ts,0⟩)).2 _ _ h1;unfold NZ at hz;have e:(⟨ts,0⟩:PS).r.length=ts.length:=rfl;rw[e] at hz
   split at h
   ·cases h
   ·cases h;omega
set_option linter.unusedVariables false
def KT (l:List Tok):Nat:=(l.filter fun t=>t.text=[100,111]).length
theorem QJ (l:List Tok):KT l≤l.length:=List.length_filter_le _ _
theorem LQ {l:List Tok}{i:Nat}{x:Tok}(hx:l[i]?=some x)(h:x.text=[100,111]):KT (l.take (i+1))=KT (l.take i)+1:=by
 rw[List.take_add_one,hx];simp [KT,h]
theorem OV {l:List Tok}{i:Nat}{x:Tok}(hx:l[i]?=some x)(h:¬x.text=[100,111]):KT (l.take (i+1))=KT (l.take i):=by
 rw[List.take_add_one,hx];simp [KT,h]
def th (s:List UInt8):List Tok×Bool:=if (eS s).2.number=0 then ((o4 (eS s).1).1,decide ((o4 (eS s).1).2.number=0∧(KT (eS s).1:Int)≤16)) else ([],false)
theorem A_ {s:List UInt8}{l:List Tok}{b:Bool}(h:th s=(l,b)):(∀t∈l,yi t)∧l.length≤98320:=by
 unfold th at h
 split at h
 ·obtain⟨h1,h2⟩:=wY (show eS s=((eS s).1,(eS s).2) from rfl);obtain⟨h3,h4⟩:=Ja (show o4 (eS s).1=((o4 (eS s).1).1,(o4 (eS s).1).2) from rfl) h1;have:=congrArg Prod.fst h;dsimp only at this;subst this;exact⟨h3,by omega⟩
 ·cases h;exact⟨fun t ht=>(by cases ht),by decide⟩
theorem Kj {l:List Tok}(h:∀t∈l,yi t):∀t∈l.map lP,GT dK t:=fun t ht=>by
 obtain⟨u,hu,rfl⟩:=List.mem_map.1 ht;exact h u hu
theorem Bl {va:Value}{l:List Tok}{w:World}{M:List Nat}(h:bF w M va aK l):∃hv:aO,va=hv.v:=by
 obtain⟨_,A,cap,e,_⟩:=h;exact⟨⟨A,_,cap⟩,e⟩
theorem Nu (va:Value)(tl:List Tok)(w0:World)(hT:bF w0 [] va aK tl)(hg:(∀t∈tl,yi t)∧tl.length≤98320):bI Tryz.prog 7 #[va] w0 (fun v w'=>∃(y:NN) (d:gT) (q:aG),v=.tuple #[.agg (aM.cells y).toArray,.agg (aJ d).toArray]∧(d.number=0∧yk dK y.er=true∧Sz (180000000+1) y.er∨¬d.number=0∧y=ea)∧q.has y∧St w0 [] w' [a_ q]):=by
 obtain⟨hv,rfl⟩:=Bl hT;have hG:=Kj hg.1;obtain⟨k,j,hne⟩:=BS vz hG;refine bI.mono (C8 k j hv tl w0 hT (by omega) hne fun x s h=>w_ vz hG (by rw[List.length_map];omega) x s h) ?_;rintro v w ⟨y,l,c,er,q,rfl,hy,hq,hS⟩;refine⟨y,⟨[],l,c,er⟩,q,rfl,?_,hq,hS⟩;rcases hy with ⟨hy,rfl,rfl,rfl⟩| ⟨hy,rfl⟩
 ·have hm:=sH vz hG hy;refine .inl ⟨rfl,hm,?_,G8 hm⟩;have:=Av hy;rw[List.length_map] at this;omega
 ·refine .inr ⟨fun h=>?_,rfl⟩;have h:er=0:=h;subst h;exact E2 hy
def exA:List UInt8:=[109,111,100,117,108,101,32,77,32,119,104,101,114,101,10,102,32,120,32,40,121,58,95,41,32,61,32,103,32,120,32,119,104,101,114,101,32,103,32,61,32,104,10]
def exB:List UInt8:=[109,111,100,117,108,101,32,77,32,119,104,101,114,101,10,103,32,40,102,32,120,41,32,61,32,49,10]
theorem aeQ:th exB=(ph,true):=by kernel_rfl
def C7 (r:Except Int Nd):Bool:=match r with
 | .ok m=>match m with
  | .mk 2 _ _ [_,_,.mk _ _ _ [.mk 13 _ _ (.mk _ _ _ (.mk _ _ _ [_,_]::_)::_)]]=>true
  |_=>false
 | .error _=>false
theorem agX:C7 (gz 100 100 ((th exA).1.map lP))=true:=by kernel_rfl
structure U8 (y:NN):Prop where
 kind:y.kind=2
 len:(y.ag.length:Int)=3
 x2:∃x2,y.ag[2]?=some x2∧(x2.ag.length:Int)=1∧∃x3,x2.ag[0]?=some x3∧x3.kind=13∧∃x4,x3.ag[0]?=some x4∧∃x5,x4.ag[0]?=some x5∧(x5.ag.length:Int)=2
theorem DI {y:NN}{i:Nat}{e:Nd}(h:y.er.ag[i]?=some e):∃x,y.ag[i]?=some x∧x.er=e:=by
 rw[NN.bo,List.getElem?_map] at h
 cases hx:y.ag[i]? with
 |none=>rw[hx] at h;cases h
 |some x=>rw[hx] at h;cases h;exact⟨x,rfl,rfl⟩
theorem B6 {y:NN}{n:Nat}(h:y.er.ag.length=n):(y.ag.length:Int)=n:=by
 rw[NN.bo,List.length_map] at h;rw[h]
theorem Xf {y:NN}(h:C7 (.ok y.er)=true):U8 y:=by
 have key:∀m:Nd,C7 (.ok m)=true→m.kind=2∧m.ag.length=3∧∃e2,m.ag[2]?=some e2∧e2.ag.length=1∧∃e3,e2.ag[0]?=some e3∧e3.kind=13∧∃e4,e3.ag[0]?=some e4∧∃e5,e4.ag[0]?=some e5∧e5.ag.length=2:=by
  intro m hm;unfold C7 at hm;dsimp only at hm
  split at hm
  ·exact⟨rfl,rfl,_,rfl,rfl,_,rfl,rfl,_,rfl,_,rfl,rfl⟩
  ·cases hm
 obtain⟨h1,h2,e2,h3,h4,e3,h5,h6,e4,h7,e5,h8,h9⟩:=key _ h;obtain⟨x2,g2,rfl⟩:=DI h3;obtain⟨x3,g3,rfl⟩:=DI h5;obtain⟨x4,g4,rfl⟩:=DI h7;obtain⟨x5,g5,rfl⟩:=DI h8;exact⟨by rw[←NN.al];exact h1,B6 h2,x2,g2,B6 h4,x3,g3,by rw[←NN.al];exact h6,x4,g4,x5,g5,B6 h9⟩
theorem Mh (va:Value)(tl:List Tok)(w0:World)(hT:bF w0 [] va aK tl)(ht:∃b,th exA=(tl,b)):bI Tryz.prog 7 #[va] w0 (fun v w'=>∃(y:NN) (q:aG),v=.tuple #[.agg (aM.cells y).toArray,.agg (aJ gT.ok).toArray]∧U8 y∧(yk dK y.er=true∧Sz (180000000+1) y.er)∧q.has y∧St w0 [] w' [a_ q]):=by
 obtain⟨hv,rfl⟩:=Bl hT;obtain⟨b,htb⟩:=ht;have hg:=A_ htb;have hG:=Kj hg.1;have e:(th exA).1=tl:=congrArg Prod.fst htb;have hA:=agX;rw[e] at hA;have hne:gz 100 100 (tl.map lP)≠.error (-1):=fun h=>by rw[h] at hA;cases hA
 refine bI.mono (C8 100 100 hv tl w0 hT (by omega) hne fun x s h=>w_ vz hG (by rw[List.length_map];omega) x s h) ?_;rintro v w ⟨y,l,c,er,q,rfl,hy,hq,hS⟩;rcases hy with ⟨hy,rfl,rfl,rfl⟩| ⟨hy,rfl⟩
 ·rw[hy] at hA;have hm:=sH vz hG hy;have:=Av hy;rw[List.length_map] at this;exact⟨y,q,rfl,Xf hA,⟨hm,by omega,G8 hm⟩,hq,hS⟩
 ·rw[hy] at hA;cases hA
theorem MZ (va:Value)(tl:List Tok)(w0:World)(hT:bF w0 [] va aK tl)(ht:∃b,th exB=(tl,b)):bI Tryz.prog 7 #[va] w0 (fun v w'=>v=.tuple #[.agg (aM.cells ea).toArray,.agg (aJ ⟨[],2,4,31⟩).toArray]∧St w0 [] w' []):=by
 obtain⟨hv,rfl⟩:=Bl hT;obtain⟨b,ht⟩:=ht;obtain rfl:ph=tl:=congrArg Prod.fst (aeQ.symm.trans ht);exact Ko hv w0 hT
theorem LD {s:List UInt8}{ts:List Tok}{d:gT}(h:eS s=(ts,d))(hd:¬d.number=0):th s=([],false):=by
 unfold th;rw[h,if_neg hd]
theorem PW {s:List UInt8}{ts l:List Tok}{d e:gT}(h:eS s=(ts,d))(hd:d.number=0)(hl:o4 ts=(l,e)):th s=(l,decide (e.number=0∧(KT ts:Int)≤16)):=by
 unfold th;rw[h];dsimp only;rw[if_pos hd,hl]
theorem vx (w0:World)(s:List UInt8):bI Tryz.prog 5 #[str s] w0 (fun v w'=>∃va l b,th s=(l,b)∧v=.tuple #[va,.bool b]∧St w0 [] w' [aT va 44 aK l]):=by
 have hO:=St.aX w0;refine cw Tryz.func5 Tryz.ntmps5 fun a hF=>?_;refine Zc 3 (Px _ _) ?_;rintro a _ w ⟨va,ts,d,hrd,rfl,hS⟩ hF;have hO:=hO.k0 hS;have hl1:=(wY hrd).2;refine Zb 9 fun e1 a w hO hF=>?_;refine Zi 0 (fun hc1=>?_) fun hc1=>?_
 ·refine Zr 2 ?_;have hO:=hO.w6 0;have hO:=(hO.bV 44 5).front (A:=[_]);exact⟨_,[],false,LD hrd hc1,rfl,hO⟩
 ·refine Zv 2 fun a hF=>?_;have hO:=hO.q [1];refine ax (fun (i:Nat) a w'=>(i≤ts.length)∧St w0 [] w' [aT va 44 aK ts,.ob e1 31 (aJ d)]∧Fr a 45 [(4,va),(6,i64 (KT (ts.take i))),(7,i64 i)]) (fun (i:Nat)=>ts.length - i) 0 ⟨by omega,hO,hF.sub ⟨rfl,rfl,rfl,trivial⟩⟩ ?_;rintro i a w ⟨hi,hO,hF⟩;have hln:=bF.je (hO.gD 0 rfl);refine Zg 2 (ew (hO.rd 0 rfl)) fun a hF=>?_;refine Zi 1 (fun a hF hc2=>?_) fun a hF hc2=>?_
  ·obtain⟨x,hx⟩:=cI (l:=ts) (i:=i) (by omega);refine Zg 2 (eB i (hO.rd 0 rfl) (by omega)) fun a hF=>?_;refine Zh 1 (hO.gD 0 rfl) hx fun a hF=>?_;refine Zi 1 (fun a hF hc3=>?_) fun a hF hc3=>?_
   ·refine Zv 1 fun a hF=>?_;refine ao hF rfl rfl rfl (qu rfl (hF.eval rfl) (hF.eval rfl) (by have:=QJ (ts.take i);rw[List.length_take] at this;omega)) fun a hF=>?_;refine Zv 4 fun a hF=>?_;exact⟨i+1,⟨by omega,hO,hF.sub ⟨rfl,(congrArg some (congrArg i64 (by rw[LQ hx hc3];omega))),rfl,trivial⟩⟩,by omega⟩
   ·refine Zv 3 fun a hF=>?_;exact⟨i+1,⟨by omega,hO,hF.sub ⟨rfl,(congrArg some (congrArg i64 (by rw[OV hx hc3]))),rfl,trivial⟩⟩,by omega⟩
  ·obtain rfl:i=ts.length:=by omega
   rw[List.take_length] at hF;refine Zc 1 (Qs _ _ _ (by omega) (hO.gD 0 rfl)) ?_;rintro a _ w ⟨vb,l,e,hla,rfl,hS⟩ hF;have hO:=hO.k0 hS;refine Zb 11 fun e2 a w hO hF=>?_;refine Zw 5 fun a hF=>?_;refine Zr 0 ?_;have hO:=hO.pull 1 rfl;exact⟨_,l,_,PW hrd (Classical.not_not.1 hc1) hla,rfl,hO.front (A:=[_])⟩
set_option maxHeartbeats 2000000 in
theorem uT (w0:World)(hG:gq w0 []):bI Tryz.prog 6 #[] w0 (fun v w'=>v=.bool true∧St w0 [] w' []):=by
 have hO:=St.aX w0;refine cw Tryz.func6 Tryz.ntmps6 fun a hF=>?_;refine Zc 1 (vx _ _) ?_;rintro a _ w ⟨va,l1,b1,hta,rfl,hS⟩ hF;have hO:=hO.k0 hS;refine Zc 6 (Mh _ _ _ (hO.gD 0 rfl) ⟨_,hta⟩) ?_;rintro a _ w ⟨y,q,rfl,hex,hmz,hq,hS⟩ hF;have hO:=hO.k0 hS;refine Zb 4 fun en a w hO hF=>?_;refine Zb 3 fun ed a w hO hF=>?_;refine Zc 0 (vx _ _) ?_;rintro a _ w ⟨vb,l2,b2,htb,rfl,hS⟩ hF;have hO:=hO.k0 hS;refine Zc 6 (MZ _ _ _ (hO.gD 0 rfl) ⟨_,htb⟩) ?_;rintro a _ w ⟨rfl,hS⟩ hF;have hO:=hO.k0 hS;refine Zb 4 fun eu a w hO hF=>?_;refine Zb 3 fun ee a w hO hF=>?_;have hV:=hO.Uw 5 rfl hq;obtain⟨h2,h3,x2,g2,h4,x3,g3,h5,x4,g4,x5,g5,h6⟩:=hex;have hR1:=hV.nR;have hV2:=hV.kI x2 (List.mem_of_getElem? g2);have hR2:=hV2.nR;have hV3:=hV2.kI x3 (List.mem_of_getElem? g3);have hR3:=hV3.nR;have hV4:=hV3.kI x4 (List.mem_of_getElem? g4);have hR4:=hV4.nR;have hV5:=hV4.kI x5 (List.mem_of_getElem? g5);have hR5:=hV5.nR;refine Zv 2 fun a hF=>?_;refine ao hF rfl rfl rfl (N_ Tryz.underlying31 Tryz.stoodInHeld31 Tryz.eqGuardType31 rfl (hF.eval rfl) (hF.eval rfl) (JR (by decide) Tryz.isAgg9 Tryz.underlying9 rfl rfl (rk (by decide) Tryz.isAgg3 Tryz.underlying3 rfl rfl (rk (by decide) Tryz.isAgg3 Tryz.underlying3 rfl rfl (rk (by decide) Tryz.isAgg29 Tryz.underlying29 rfl rfl G2)))) (Dp _ .ok)) fun a hF=>?_;refine Zv 9 fun a hF=>?_;refine bg hF rfl rfl rfl rfl (ct ⟨rfl,h2⟩) ?_;refine Zv 1 fun a hF=>?_;refine bg hF rfl rfl rfl rfl (ct ⟨rfl,h2⟩) ?_;refine Zv 1 fun a hF=>?_;refine bg hF rfl rfl rfl rfl (ct ⟨rfl,h2⟩) ?_;refine Zg 0 (ew hR1) fun a hF=>?_;refine bg hF rfl rfl rfl rfl (ct ⟨rfl,h2⟩) ?_;refine Zv 3 fun a hF=>?_;refine bg hF rfl rfl rfl rfl (ct ⟨⟨rfl,h2⟩,h3⟩) ?_;refine Zv 1 fun a hF=>?_;refine bg hF rfl rfl rfl rfl (ct ⟨⟨rfl,h2⟩,h3⟩) ?_;refine Zv 1 fun a hF=>?_;refine bg hF rfl rfl rfl rfl (ct ⟨⟨rfl,h2⟩,h3⟩) ?_;refine Zg 0 (nP hR1 g2) fun a hF=>?_;refine bg hF rfl rfl rfl rfl (ct ⟨⟨rfl,h2⟩,h3⟩) ?_;refine Zv 1 fun a hF=>?_;refine bg hF rfl rfl rfl rfl (ct ⟨⟨rfl,h2⟩,h3⟩) ?_;refine Zh 0 hR1 g2 fun a hF=>?_;refine bg hF rfl rfl rfl rfl (ct ⟨⟨rfl,h2⟩,h3⟩) ?_;refine Zg 0 (ew hR2) fun a hF=>?_;refine bg hF rfl rfl rfl rfl (ct ⟨⟨rfl,h2⟩,h3⟩) ?_;refine Zv 3 fun a hF=>?_;refine bg hF rfl rfl rfl rfl (ct ⟨⟨⟨rfl,h2⟩,h3⟩,h4⟩) ?_;refine Zv 1 fun a hF=>?_;refine bg hF rfl rfl rfl rfl (ct ⟨⟨⟨rfl,h2⟩,h3⟩,h4⟩) ?_;refine Zv 1 fun a hF=>?_;refine bg hF rfl rfl rfl rfl (ct ⟨⟨⟨rfl,h2⟩,h3⟩,h4⟩) ?_;refine Zg 0 (nP hR1 g2) fun a hF=>?_;refine bg hF rfl rfl rfl rfl (ct ⟨⟨⟨rfl,h2⟩,h3⟩,h4⟩) ?_;refine Zv 1 fun a hF=>?_;refine bg hF rfl rfl rfl rfl (ct ⟨⟨⟨rfl,h2⟩,h3⟩,h4⟩) ?_;refine Zh 0 hR1 g2 fun a hF=>?_;refine bg hF rfl rfl rfl rfl (ct ⟨⟨⟨rfl,h2⟩,h3⟩,h4⟩) ?_;refine Zg 0 (nP hR2 g3) fun a hF=>?_;refine bg hF rfl rfl rfl rfl (ct ⟨⟨⟨rfl,h2⟩,h3⟩,h4⟩) ?_;refine Zv 1 fun a hF=>?_;refine bg hF rfl rfl rfl rfl (ct ⟨⟨⟨rfl,h2⟩,h3⟩,h4⟩) ?_;refine Zh 0 hR2 g3 fun a hF=>?_;refine bg hF rfl rfl rfl rfl (ct ⟨⟨⟨rfl,h2⟩,h3⟩,h4⟩) ?_;refine Zv 3 fun a hF=>?_;refine bg hF rfl rfl rfl rfl (ct ⟨⟨⟨⟨rfl,h2⟩,h3⟩,h4⟩,h5⟩) ?_;refine Zv 1 fun a hF=>?_;refine bg hF rfl rfl rfl rfl (ct ⟨⟨⟨⟨rfl,h2⟩,h3⟩,h4⟩,h5⟩) ?_;refine Zv 1 fun a hF=>?_;refine bg hF rfl rfl rfl rfl (ct ⟨⟨⟨⟨rfl,h2⟩,h3⟩,h4⟩,h5⟩) ?_;refine Zg 0 (nP hR1 g2) fun a hF=>?_;refine bg hF rfl rfl rfl rfl (ct ⟨⟨⟨⟨rfl,h2⟩,h3⟩,h4⟩,h5⟩) ?_;refine Zv 1 fun a hF=>?_;refine bg hF rfl rfl rfl rfl (ct ⟨⟨⟨⟨rfl,h2⟩,h3⟩,h4⟩,h5⟩) ?_;refine Zh 0 hR1 g2 fun a hF=>?_;refine bg hF rfl rfl rfl rfl (ct ⟨⟨⟨⟨rfl,h2⟩,h3⟩,h4⟩,h5⟩) ?_;refine Zg 0 (nP hR2 g3) fun a hF=>?_;refine bg hF rfl rfl rfl rfl (ct ⟨⟨⟨⟨rfl,h2⟩,h3⟩,h4⟩,h5⟩) ?_;refine Zv 1 fun a hF=>?_;refine bg hF rfl rfl rfl rfl (ct ⟨⟨⟨⟨rfl,h2⟩,h3⟩,h4⟩,h5⟩) ?_;refine Zh 0 hR2 g3 fun a hF=>?_;refine bg hF rfl rfl rfl rfl (ct ⟨⟨⟨⟨rfl,h2⟩,h3⟩,h4⟩,h5⟩) ?_;refine Zg 0 (nP hR3 g4) fun a hF=>?_;refine bg hF rfl rfl rfl rfl (ct ⟨⟨⟨⟨rfl,h2⟩,h3⟩,h4⟩,h5⟩) ?_;refine Zv 1 fun a hF=>?_;refine bg hF rfl rfl rfl rfl (ct ⟨⟨⟨⟨rfl,h2⟩,h3⟩,h4⟩,h5⟩) ?_;refine Zh 0 hR3 g4 fun a hF=>?_;refine bg hF rfl rfl rfl rfl (ct ⟨⟨⟨⟨rfl,h2⟩,h3⟩,h4⟩,h5⟩) ?_;refine Zg 0 (nP hR4 g5) fun a hF=>?_;refine bg hF rfl rfl rfl rfl (ct ⟨⟨⟨⟨rfl,h2⟩,h3⟩,h4⟩,h5⟩) ?_;refine Zv 1 fun a hF=>?_;refine bg hF rfl rfl rfl rfl (ct ⟨⟨⟨⟨rfl,h2⟩,h3⟩,h4⟩,h5⟩) ?_;refine Zh 0 hR4 g5 fun a hF=>?_;refine bg hF rfl rfl rfl rfl (ct ⟨⟨⟨⟨rfl,h2⟩,h3⟩,h4⟩,h5⟩) ?_;refine Zg 0 (ew hR5) fun a hF=>?_;refine bg hF rfl rfl rfl rfl (ct ⟨⟨⟨⟨rfl,h2⟩,h3⟩,h4⟩,h5⟩) ?_;refine Zv 3 fun a hF=>?_;refine bg hF rfl rfl rfl rfl (ct ⟨⟨⟨⟨⟨rfl,h2⟩,h3⟩,h4⟩,h5⟩,h6⟩) ?_;refine Zv 1 fun a hF=>?_;refine bg hF rfl rfl rfl rfl (ct ⟨⟨⟨⟨⟨rfl,h2⟩,h3⟩,h4⟩,h5⟩,h6⟩) ?_;refine fN hF rfl rfl rfl (a6 hF rfl rfl Tryz.call8 (DX 180000000 (by decide) y hmz.2 _ (hG.cH hO) (hO.Uw 5 rfl hq))) ?_;rintro a _ w ⟨rfl,hS⟩ hF;have hO:=hO.k0 hS;refine ao hF rfl rfl rfl (dk rfl (hF.eval rfl) rfl (fun hg2=>(hF.eval rfl)) (bh _)) fun a hF=>?_;refine Zv 1 fun a hF=>?_;refine bg hF rfl rfl rfl rfl (ct ⟨⟨⟨⟨⟨⟨rfl,h2⟩,h3⟩,h4⟩,h5⟩,h6⟩,hmz.1⟩) ?_;refine Zv 1 fun a hF=>?_;refine bg hF rfl rfl rfl rfl (ct ⟨⟨⟨⟨⟨⟨rfl,h2⟩,h3⟩,h4⟩,h5⟩,h6⟩,hmz.1⟩) ?_;refine Zv 1 fun a hF=>?_;refine bg hF rfl rfl rfl rfl (ct ⟨⟨⟨⟨⟨⟨rfl,h2⟩,h3⟩,h4⟩,h5⟩,h6⟩,hmz.1⟩) ?_;refine ao hF rfl rfl rfl (N_ Tryz.underlying31 Tryz.stoodInHeld31 Tryz.eqGuardType31 rfl (hF.eval rfl) (hF.eval rfl) (JR (by decide) Tryz.isAgg9 Tryz.underlying9 rfl rfl (rk (by decide) Tryz.isAgg3 Tryz.underlying3 rfl rfl (rk (by decide) Tryz.isAgg3 Tryz.underlying3 rfl rfl (rk (by decide) Tryz.isAgg29 Tryz.underlying29 rfl rfl G2)))) (Dp _ ⟨[],2,4,31⟩)) fun a hF=>?_;refine Zr 2 ?_;have hO:=hO.d [0,0,0,0,0,0,0];refine⟨congrArg Value.bool (decide_eq_true ?_),hO⟩;exact⟨⟨⟨⟨⟨⟨⟨rfl,h2⟩,h3⟩,h4⟩,h5⟩,h6⟩,hmz.1⟩,rfl⟩
theorem Ud (w:World)(M:List Nat):bF w M ea.h.v aM []:=⟨rfl,none,0,rfl,Nat.le_refl _,Nat.zero_le _,fun h=>absurd h (by decide)⟩
set_option maxHeartbeats 2000000 in
theorem Gy (w0:World)(s:List UInt8)(hG:gq w0 []):bI Tryz.prog 3 #[str s] w0 (fun v w'=>v=.bool true∧St w0 [] w' []):=by
 have hO:=St.aX w0;refine cw Tryz.func3 Tryz.ntmps3 fun a hF=>?_;refine Zc 2 (vx _ _) ?_;rintro a _ w ⟨va,l,b,hta,rfl,hS⟩ hF;have hO:=hO.k0 hS;refine Zv 6 fun a hF=>?_;refine ao hF rfl rfl rfl (cY rfl (hF.eval rfl) (bh _)) fun a hF=>?_;refine Zi 0 (fun hc1=>?_) fun hc1=>?_
 ·refine Zc 0 (uT _ (hG.cH hO)) ?_;rintro a _ w ⟨rfl,hS⟩ hF;have hO:=hO.k0 hS;refine Zr 1 ?_;have hO:=hO.d [0];exact⟨rfl,hO⟩
 ·refine Zc 1 (Nu _ _ _ (hO.gD 0 rfl) (A_ hta)) ?_;rintro a _ w ⟨y,d,q,rfl,hy,hq,hS⟩ hF;have hO:=hO.k0 hS;refine Zb 4 fun en a w hO hF=>?_;refine Zb 6 fun ed a w hO hF=>?_;refine Zi 0 (fun hc2=>?_) fun hc2=>?_
  ·obtain⟨hd,rfl⟩:¬d.number=0∧y=ea:=hy.resolve_left fun h=>hc2 h.1;refine Zv 9 fun a hF=>?_;refine Zg 0 (ew (Ud w0 [])) fun a hF=>?_;refine Zv 4 fun a hF=>?_;refine bg hF rfl rfl rfl rfl (ct ⟨rfl,rfl⟩) ?_;refine Zc 0 (uT _ (hG.cH hO)) ?_;rintro a _ w ⟨rfl,hS⟩ hF;have hO:=hO.k0 hS;refine ao hF rfl rfl rfl (dk rfl (hF.eval rfl) rfl (fun hg2=>(hF.eval rfl)) (bh _)) fun a hF=>?_;refine Zr 1 ?_;have hO:=hO.d [0,0,0,0];exact⟨congrArg Value.bool (decide_eq_true ⟨⟨rfl,rfl⟩,rfl⟩),hO⟩
  ·obtain⟨hd,hm,hsz⟩:=hy.resolve_right fun h=>h.1 (Classical.not_not.1 hc2);refine Zv 1 fun a hF=>?_;refine fN hF rfl rfl rfl (a6 hF rfl rfl Tryz.call8 (DX 180000000 (by decide) y hsz _ (hG.cH hO) (hO.Uw 2 rfl hq))) ?_;rintro a _ w ⟨rfl,hS⟩ hF;have hO:=hO.k0 hS;refine Zv 1 fun a hF=>?_;refine bg hF rfl rfl rfl rfl ((by rw[hm];rfl)) ?_;refine Zc 0 (uT _ (hG.cH hO)) ?_;rintro a _ w ⟨rfl,hS⟩ hF;have hO:=hO.k0 hS;refine ao hF rfl rfl rfl (dk rfl (hF.eval rfl) (bh _) (fun hg2=>(hF.eval rfl)) (bh _)) fun a hF=>?_;refine Zr 1 ?_;have hO:=hO.d [0,0,0,0];exact⟨congrArg Value.bool (decide_eq_true ⟨hm,rfl⟩),hO⟩
end Go.Proofs.YtdfccaonglmgpaaGreatDoor
