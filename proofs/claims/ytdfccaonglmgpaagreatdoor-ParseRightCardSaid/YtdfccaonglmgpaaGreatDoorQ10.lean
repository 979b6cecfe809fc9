/- Q10 -/
import Derived.Test.YtdfccaonglmgpaaGreatDoorQ09
import Derived.Test.YtdfccaonglmgpaaGreatDoorQ03
import Derived.Lib.AtoiErrMem
import Derived.Test.YtdfccaonglmgpaaGreatDoorQ04
import Derived.Test.YtdfccaonglmgpaaGreatDoorQ08
set_option linter.all false
namespace Go.Proofs.YtdfccaonglmgpaaGreatDoor
open Go Go.RowKit
set_option linter.unusedVariables false
set_option maxRecDepth 100000
theorem Dy (w0:World)(l:List UInt8)(b:UInt8):bI Tryz.prog 188 #[str l,.int .u8 b.toNat] w0 (fun v w'=>v=i64 (Lib.indexByte l b)∧St w0 [] w' []):=by
 refine bI.mono (mI (Tryz.strings_IndexByte ⟨l.toArray⟩ (b.toNat:Int) w0)) fun v w' ⟨hv,hw⟩=>?_;subst hv hw;refine⟨?_,mV⟩;have e:((b.toNat:Int)).toNat.toUInt8=b:=by simp
 rw[mW,e];rfl
theorem SO (w0:World)(l:List UInt8)(hl:l.length≤16384):bI Tryz.prog 208 #[str l,str [45]] w0 (fun v w'=>v=str (Lib.trimB l 45)∧St w0 [] w' []):=by
 refine bI.mono (mI (Tryz.strings_Trim_one ⟨l.toArray⟩ 45 (by decide) w0 (by rw[kc];omega))) fun v w' ⟨hv,hw⟩=>?_;subst hv;rw[mW];refine⟨rfl,?_⟩;rcases hw with rfl|rfl
 ·exact mV
 ·exact St.drew mV
theorem BT (w0:World)(l:List UInt8)(hl:l.length≤16384)(h0:l≠[])(hd:∀c∈l,aY c=true)(hG:gq w0 []):bI Tryz.prog 185 #[str l,i64 10,i64 64] w0 (fun v w'=>∃(n:Int) (e:Option (TypeId×Value)),v=.tuple #[i64 n,Rt e]∧((∃k:Nat,kh l 0=some k∧n=k∧e=none)∨(kh l 0=none∧e.isSome=true))∧St w0 [] w' []):=by
 have hs:(⟨l.toArray⟩:ByteArray).size=l.length:=kc l;rcases Y5 h0 hd with ⟨v,h1,h2,h3⟩| ⟨h1,h2⟩
 ·refine bI.mono (mI (Tryz.strconv_ParseInt_10_at64_ok ⟨l.toArray⟩ (by rw[hs];omega) (v:Int) (by rw[mW];exact h2) w0)) fun u w' ⟨hv,hw⟩=>?_;subst hv;refine⟨v,none,rfl,.inl ⟨v,h1,rfl,rfl⟩,?_⟩;rcases hw with rfl| ⟨t,rfl⟩
  ·exact mV
  ·exact nS (Lib.bytesWorld_below _ _ _)
 ·obtain⟨ev,hr,hev⟩:=hG.b;refine Calls.mono (Tryz.strconv_ParseInt_10_at64_range ⟨l.toArray⟩ (by rw[hs];omega) (by rw[mW];exact h2) ev w0 (r_ hr rfl) hev) fun e w' ⟨N,he,_,_,hw⟩=>?_;exact⟨_,he,_,some (_,_),rfl,.inr ⟨h1,rfl⟩,nS hw⟩
theorem AR (w0:World)(l:List UInt8)(hl:l.length≤16384)(hd:∀c∈l,aY c=true)(hG:gq w0 []):bI Tryz.prog 214 #[str l,i64 10,i64 8] w0 (fun v w'=>∃(n:Nat) (e:Option (TypeId×Value)),v=.tuple #[.int .u64 n,Rt e]∧(l≠[]→(n=nV l 0∧n≤255∧e=none)∨(255<nV l 0∧e.isSome=true))∧St w0 [] w' []):=by
 have hs:(⟨l.toArray⟩:ByteArray).size=l.length:=kc l
 by_cases h0:l=[]
 ·subst h0;obtain⟨ev,hr,hev⟩:=hG.a;refine Calls.mono (Tryz.strconv_ParseUint_10_at8_syntax ⟨([]:List UInt8).toArray⟩ (by rw[hs];omega) (by rw[mW];first|done|rfl|decide) ev w0 (r_ hr rfl) hev) fun e w' ⟨N,he,_,_,hw⟩=>?_;exact⟨_,he,0,some (_,_),rfl,fun h=>absurd rfl h,nS hw⟩
 ·rcases aa2 h0 hd with ⟨h2,h3⟩| ⟨h2,h3⟩
  ·refine bI.mono (mI (Tryz.strconv_ParseUint_10_at8_ok ⟨l.toArray⟩ (by rw[hs];omega) (nV l 0) (by rw[mW];exact h2) w0)) fun u w' ⟨hv,hw⟩=>?_;subst hv;refine⟨nV l 0,none,rfl,fun _=>.inl ⟨rfl,h3,rfl⟩,?_⟩;rcases hw with rfl|rfl
   ·exact mV
   ·exact nS (Lib.bytesWorld_below _ _ _)
  ·obtain⟨ev,hr,hev⟩:=hG.b;refine Calls.mono (Tryz.strconv_ParseUint_10_at8_range ⟨l.toArray⟩ (by rw[hs];omega) (by rw[mW];exact h2) ev w0 (r_ hr rfl) hev) fun e w' ⟨N,he,_,_,hw⟩=>?_;exact⟨_,he,255,some (_,_),rfl,fun _=>.inr ⟨h3,rfl⟩,nS hw⟩
theorem B8 (l:List UInt8):flat kQ l=Lib.byteCells l:=by
 unfold flat Lib.byteCells
 induction l with
 |nil=>rfl
 |cons b l ih=>rw[List.flatMap_cons,ih];rfl
theorem Sr {w0 w:World}{b:Nat}{o:Option Addr}{bv:Value}{l:List UInt8}(ho:o=none∨o=some (aj b))(hO:St w0 [] w [.ob b 169 [.pointer o,bv],aT bv 5 kQ l]):bI Tryz.prog 212 #[ptr (aj b)] w (fun v w'=>v=str l∧St w0 [] w' []):=by
 have hb:w0.heap.size≤b:=by
  rcases hO.src b (by simp [ak,aq.bs]) with h|h
  ·cases h
  ·exact h
 have hob:w.heap[b]?=some (.cells #[.pointer o,bv] 169 (0,0)):=hO.ok (i:=0) rfl;have hsl:w.ownsRow 0 5 1 bv l.length (flat kQ l):=hO.ok (i:=1) rfl;have hne:bv.ownBlock≠some b:=fun h=>by
  have:=hO.nodup;simp [ak,aq.bs,aT,h] at this
 have hrow:w.ownsRow w0.heap.size 5 1 bv (Lib.byteCells l).length (Lib.byteCells l):=by
  rw[B8] at hsl;have hlen:(Lib.byteCells l).length=l.length:=by simp [Lib.byteCells]
  refine⟨by rw[Nat.mul_one],?_⟩;rw[hlen];rcases hsl.2 with h| ⟨g,cap,cur,rfl,_,rest⟩
  ·exact .inl h
  ·refine .inr ⟨g,cap,cur,rfl,?_,rest⟩;rcases hO.src g (by simp [ak,aq.bs,aT,Value.ownBlock]) with h|h
   ·cases h
   ·exact h
 have hB:Lib.IsBuilder 169 5 w0.heap.size b (Lib.byteCells l) w:=by
  rcases ho with rfl|rfl
  ·exact .inl ⟨hb,bv,hob,hrow,hne⟩
  ·exact .inr ⟨hb,bv,hob,hrow,hne⟩
 refine bI.mono (mI (Tryz.Builder_String_any w0.heap.size b l w hB hO.le)) fun v w' ⟨hv,hw⟩=>⟨hv,?_⟩;have h0:=hO.less (L':=[]) (List.nil_sublist _);exact⟨hw.os.trans h0.os,hw.tape.trans h0.tape,hw.output.trans h0.output,Nat.le_trans h0.le hw.size,fun k hk hm=>(hw.block k hk).trans (h0.kz k hk hm),fun _ h=>(by cases h),List.nodup_nil,fun _ h=>(by cases h)⟩
theorem B2 {o:Oper}{a:Act}{w w0:World}{x:Operand}{b i:Nat}{cs:List Value}{M:List Nat}{L:List aq}(hO:St w0 M w L)(hi:L[i]?=some (.ob b 169 cs))(hc:cs.length=2)(ho:o.op=.convert 167 197 x)(hx:a.eval x=ptr (aj b)):QV Tryz.prog o a w (ptr (aj b)):=by
 have hob:w.heap[b]?=some (.cells cs.toArray 169 (0,0)):=hO.ok hi;have hsh:w.shape? b=some (169,2):=by simp [World.shape?,hob,hc]
 have:=Lib.run_to_unsafe (P:=Tryz.prog) (w:=w) (src:=167) (dst:=197) (t:=169) (e:=169) (j:=Tryz.t169) (cells:=2) (aj b) Tryz.underlying167 Tryz.underlying197 (by kernel_rfl) (by decide+kernel) hsh (Nat.zero_lt_succ 1);simp only[QV,execOp,ho,hx,ptr,Sem.run_bind,this,Result.andThen_ok]
 rfl
theorem yn {o:Oper}{a:Act}{w w0:World}{x:Operand}{b i:Nat}{cs:List Value}{M:List Nat}{L:List aq}(hO:St w0 M w L)(hi:L[i]?=some (.ob b 169 cs))(hc:cs.length=2)(ho:o.op=.convert 197 167 x)(hx:a.eval x=ptr (aj b)):QV Tryz.prog o a w (ptr (aj b)):=by
 have hob:w.heap[b]?=some (.cells cs.toArray 169 (0,0)):=hO.ok hi;have hsh:w.shape? b=some (169,2):=by simp [World.shape?,hob,hc]
 have:=Lib.run_from_unsafe (P:=Tryz.prog) (w:=w) (src:=197) (dst:=167) (u:=169) (e:=169) (j:=Tryz.t169) (cells:=2) (aj b) Tryz.underlying197 Tryz.underlying167 (by kernel_rfl) hsh (by kernel_rfl);simp only[QV,execOp,ho,hx,ptr,Sem.run_bind,this,Result.andThen_ok]
 rfl
theorem BD {o:Oper}{a:Act}{w:World}{x:Operand}{v:Value}{ts:Array TypeId}(ho:o.op=.call {callee:=.value (.func 244),args:=#[x],argTypes:=ts})(hx:a.eval x=v):QV Tryz.prog o a w v:=by
 have h:=run_callFunc_extern (P:=Tryz.prog) Tryz.func244 (by kernel_rfl) (by kernel_rfl) (by kernel_rfl) (e:=Extern.AbiNoEscape.same) (by kernel_rfl) #[v] w;rw[Lib.run_noEscape] at h;have hv:(#[x]:Array Operand).map a.eval=#[v]:=by simp [hx]
 have hff:a.eval (.func 244)=.func (.func 244) #[] #[]:=rfl;have h2:(callFunc 244 #[v]).run Tryz.prog w=.ok (.value v) w:=h;simp [QV,execOp,ho,resolve,invoke,hff,Deferred.ofValue,hx,h2]
theorem Us {o:Oper}{a:Act}{w:World}{x y:Operand}{t t':TypeId}{p:Addr}(ht:Tryz.prog.underlying t=some (.pointer 169))(ho:o.op=.binOp .neq t x y t')(hx:a.eval x=ptr p)(hy:a.eval y=ptr p):QV Tryz.prog o a w (.bool (decide (¬True))):=by
 have hg:eqGuard .neq t x y (ptr p) (ptr p)=pure ():=eqGuard_at_pointer ..;have:=Lib.run_neq_ptr_same (P:=Tryz.prog) w p ht (j:=Tryz.t169) (by kernel_rfl);simp only[QV,execOp,ho,hx,hy,hg,Sem.run_bind,Sem.run_pure,Result.andThen_ok];simp only[ptr] at this ⊢;rw[this]
 rfl
open Go
set_option maxHeartbeats 4000000
theorem w8 (w0:World)(b:UInt8):bI Tryz.prog 181 #[.int .u8 b.toNat] w0 (fun v w'=>v=.bool (jw b)∧St w0 [] w' []):=by
 have hO:=St.aX w0;refine cw Tryz.func181 Tryz.ntmps181 fun a hF=>?_;refine Zv 2 fun a hF=>?_;refine ao hF rfl rfl rfl (IX rfl (hF.eval rfl) (hF.eval rfl)) fun a hF=>?_;refine Zw 3 fun a hF=>?_;refine cL hF rfl rfl rfl rfl rfl rfl (fun hg=>IX rfl ((hF.eval rfl).trans (an hg)) (hF.eval rfl)) fun a hF=>?_;refine Zw 3 fun a hF=>?_;refine Zr 0 ?_;exact⟨congrArg Value.bool (Fc b),hO⟩
theorem qj (w0:World)(b:UInt8):bI Tryz.prog 183 #[.int .u8 b.toNat] w0 (fun v w'=>v=.bool (aY b)∧St w0 [] w' []):=by
 have hO:=St.aX w0;refine cw Tryz.func183 Tryz.ntmps183 fun a hF=>?_;refine Zw 8 fun a hF=>?_;refine Zr 0 ?_;exact⟨rfl,hO⟩
theorem Dl (w0:World)(b:UInt8):bI Tryz.prog 186 #[.int .u8 b.toNat] w0 (fun v w'=>v=.bool (im b)∧St w0 [] w' []):=by
 have hO:=St.aX w0;refine cw Tryz.func186 Tryz.ntmps186 fun a hF=>?_;refine Zc 2 (Dy _ _ _) ?_;rintro a _ w ⟨rfl,hS⟩ hF;have hO:=hO.k0 hS;refine Zr 2 ?_;exact⟨congrArg Value.bool (MI b),hO⟩
theorem Jb (w0:World)(b:UInt8):bI Tryz.prog 204 #[.int .u8 b.toNat] w0 (fun v w'=>v=.bool (dM 0 b)∧St w0 [] w' []):=by
 have hO:=St.aX w0;refine cw Tryz.func204 Tryz.ntmps204 fun a hF=>?_;refine Zc 2 (w8 _ _) ?_;rintro a _ w ⟨rfl,hS⟩ hF;have hO:=hO.k0 hS;refine Zw 2 fun a hF=>?_;refine eg hO hF rfl rfl rfl rfl rfl rfl (fun hg=>du hF rfl rfl (kD trivial) Tryz.call183 (qj _ _)) fun a w hO hF=>?_;refine ao hF rfl rfl rfl (uC rfl (hF.eval rfl) (bh _) (fun hg2=>((hF.eval rfl).trans (an hg2))) (bh _)) fun a hF=>?_;refine Zw 9 fun a hF=>?_;refine Zr 0 ?_;exact⟨congrArg Value.bool (Hd (k:=0) (b:=b) rfl).symm,hO⟩
theorem GO (w0:World)(b:UInt8):bI Tryz.prog 209 #[.int .u8 b.toNat] w0 (fun v w'=>v=.bool (dM 3 b)∧St w0 [] w' []):=by
 have hO:=St.aX w0;refine cw Tryz.func209 Tryz.ntmps209 fun a hF=>?_;refine Zr 4 ?_;exact⟨congrArg Value.bool (Jy (k:=3) (b:=b) (by decide) (by decide) (by decide)).symm,hO⟩
theorem Ew (w0:World)(s:List UInt8)(vl:Value)(ls:List (List UInt8))(hR:bF w0 [] vl rA ls):bI Tryz.prog 136 #[vl,str s] w0 (fun v w'=>∃n:Int,v=i64 n∧decide (0≤n)=ls.contains s∧St w0 [] w' []):=by
 have hO:=St.aX w0;have hl:=bF.je hR;refine cw Tryz.func136 Tryz.ntmps136 fun a hF=>?_;refine Zg 2 (ew hR) fun a hF=>?_;refine Zv 1 fun a hF=>?_;refine ax (fun (k:Nat) a w'=>(k≤ls.length∧(ls.take k).contains s=false)∧St w0 [] w' []∧Fr a 19 [(0,vl),(1,str s),(7,i64 ls.length),(8,i64 k)]) (fun (k:Nat)=>ls.length - k) 0 ⟨⟨by omega,by simp⟩,hO,hF.sub ⟨rfl,rfl,rfl,rfl,trivial⟩⟩ ?_;rintro k a w ⟨⟨hk,hn⟩,hO,hF⟩;refine Zi 1 (fun a hF hc1=>?_) fun a hF hc1=>?_
 ·obtain⟨x,hx⟩:=cI (l:=ls) (i:=k) (by omega);refine Zg 5 (eB k hR (by omega)) fun a hF=>?_;refine Zh 0 hR hx fun a hF=>?_;refine Zi 1 (fun a hF hc2=>?_) fun a hF hc2=>?_
  ·refine Zr 2 ?_;exact⟨_,rfl,(decide_eq_true (by omega)).trans (DY hx hc2.symm).symm,hO⟩
  ·refine Zv 2 fun a hF=>?_;exact⟨k+1,⟨⟨by omega,GG hx hn (fun e=>hc2 e.symm)⟩,hO,hF.sub ⟨rfl,rfl,rfl,rfl,trivial⟩⟩,by omega⟩
 ·refine Zr 1 ?_;exact⟨_,rfl,(decide_eq_false (by omega)).trans (by rw[←hn,List.take_of_length_le (by omega)]),hO⟩
theorem yo (w0:World)(s:List UInt8)(vl:Value)(ls:List (List UInt8))(hR:bF w0 [] vl rA ls):bI Tryz.prog 102 #[vl,str s] w0 (fun v w'=>v=.bool (ls.contains s)∧St w0 [] w' []):=by
 have hO:=St.aX w0;refine cw Tryz.func102 Tryz.ntmps102 fun a hF=>?_;refine Zc 3 (Ew _ _ _ _ (hR.cH hO)) ?_;rintro a _ w ⟨ix,rfl,hix,hS⟩ hF;have hO:=hO.k0 hS;refine Zr 2 ?_;exact⟨congrArg Value.bool hix,hO⟩
theorem Dv (w0:World)(s:List UInt8)(vl:Value)(ls:List (List UInt8))(hR:bF w0 [] vl rA ls):bI Tryz.prog 218 #[str s,vl] w0 (fun v w'=>v=.bool (ls.contains s)∧St w0 [] w' []):=by
 have hO:=St.aX w0;refine cw Tryz.func218 Tryz.ntmps218 fun a hF=>?_;refine Zc 3 (yo _ _ _ _ (hR.cH hO)) ?_;rintro a _ w ⟨rfl,hS⟩ hF;have hO:=hO.k0 hS;refine Zr 1 ?_;exact⟨rfl,hO⟩
theorem M6 (w0:World)(s:List UInt8):bI Tryz.prog 205 #[str s] w0 (fun v w'=>v=.bool (pH.contains s)∧St w0 [] w' []):=by
 have hO:=St.aX w0;refine cw Tryz.func205 Tryz.ntmps205 fun a hF=>?_;refine Zb 3 fun wl a w hO hF=>?_;refine Zc 0 (Dv _ _ _ _ (bF.cH (hO.gD (E:=rA) (l:=pH) 0 rfl) mV)) ?_;rintro a _ w ⟨rfl,hS⟩ hF;have hO:=hO.k0 hS;refine Zr 1 ?_;have hO:=hO.d [0];exact⟨rfl,hO⟩
theorem M5 (w0:World)(s:List UInt8):bI Tryz.prog 210 #[str s] w0 (fun v w'=>v=.bool (pQ.contains s)∧St w0 [] w' []):=by
 have hO:=St.aX w0;refine cw Tryz.func210 Tryz.ntmps210 fun a hF=>?_;refine Zb 3 fun wl a w hO hF=>?_;refine Zc 0 (Dv _ _ _ _ (bF.cH (hO.gD (E:=rA) (l:=pQ) 0 rfl) mV)) ?_;rintro a _ w ⟨rfl,hS⟩ hF;have hO:=hO.k0 hS;refine Zr 1 ?_;have hO:=hO.d [0];exact⟨rfl,hO⟩
def Qw (P:Program)(f:Nat)(p:UInt8→Bool):Prop:=∀(w:World) (c:UInt8),bI P f #[.int .u8 (c.toNat:Int)] w (fun v w'=>v=.bool (p c)∧St w [] w' [])
def vG (s:List UInt8)(at_:Nat)(vo:Value):List Value:=[str (s.drop at_),i64 (cF s at_).1,i64 (cF s at_).2,vo]
theorem OG {s:List UInt8}{at_ k:Nat}:((s.drop at_).getD k 0).toNat=(gt s (at_+k)).toNat:=by rw[eL];rfl
theorem Rk {s:List UInt8}{k at_:Nat}(vo:Value)(h:(((s.drop at_).getD k 0).toNat:Int)=10):[i64 (cF s (at_+(k+1))).1,i64 (cF s (at_+(k+1))).2,vo]=[i64 ((cF s (at_+k)).1+1),i64 1,vo]:=by
 rw[OG] at h;have h':gt s (at_+k)=10:=UInt8.toNat_inj.1 (by have:(gt s (at_+k)).toNat=10:=(by omega);exact this);simp [←Nat.add_assoc,cF,h']
theorem ZS {s:List UInt8}{k at_:Nat}(vo:Value)(h:¬(((s.drop at_).getD k 0).toNat:Int)=10):[i64 (cF s (at_+(k+1))).1,i64 (cF s (at_+(k+1))).2,vo]=[i64 (cF s (at_+k)).1,i64 ((cF s (at_+k)).2+1),vo]:=by
 rw[OG] at h;have h':¬gt s (at_+k)=10:=fun e=>h (by rw[e];rfl);simp [←Nat.add_assoc,cF,h']
set_option maxHeartbeats 1000000 in
theorem yR (w0:World)(bs:Nat)(s:List UInt8)(at_:Nat)(vo:Value)(hs:s.length≤16384)(hA:bx w0 [.ob bs 143 (vG s (at_) vo)])(n:Nat)(hn:at_+n≤s.length):bI Tryz.prog 178 #[ptr (aj bs),i64 n] w0 (fun v w'=>v=.tuple #[]∧St w0 [bs] w' [.ob bs 143 (vG s (at_+n) vo)]):=by
 have hO:=St.init hA;have hb:=kX s at_;refine cw Tryz.func178 Tryz.ntmps178 fun a hF=>?_;refine Zv 2 fun a hF=>?_;refine ax (fun (k:Nat) a w'=>(k≤n)∧St w0 [bs] w' [.ob bs 143 [str (s.drop at_),i64 (cF s (at_+k)).1,i64 (cF s (at_+k)).2,vo]]∧Fr a 44 [(0,ptr (aj bs)),(1,i64 n),(5,i64 n),(6,i64 k)]) (fun (k:Nat)=>n - k) 0 ⟨by omega,hO,hF.sub ⟨rfl,rfl,rfl,rfl,trivial⟩⟩ ?_;rintro k a w ⟨hk,hO,hF⟩;have hb:=kX s (at_+k);refine Zi 1 (fun a hF hc1=>?_) fun a hF hc1=>?_
 ·refine Zs 15 fun a w hO hF=>?_;refine ao hF rfl rfl rfl (cA (m:=k) Tryz.underlying9 rfl (hF.eval rfl) (hF.eval rfl) (by rw[bR];omega)) fun a hF=>?_;refine Zi 1 (fun a hF hc2=>?_) fun a hF hc2=>?_
  ·refine Zs 15 fun a w hO hF=>?_;have hO:=hO.eq (congrArg (fun x=>[aq.ob bs 143 (str (s.drop at_)::x)]) (Rk vo hc2).symm);exact⟨k+1,⟨by omega,hO,hF.sub ⟨rfl,rfl,rfl,rfl,trivial⟩⟩,by omega⟩
  ·refine Zv 2 fun a hF=>?_;have hO:=hO.eq (congrArg (fun x=>[aq.ob bs 143 (str (s.drop at_)::x)]) (ZS vo hc2).symm);exact⟨k+1,⟨by omega,hO,hF.sub ⟨rfl,rfl,rfl,rfl,trivial⟩⟩,by omega⟩
 ·refine Zv 6 fun a hF=>?_;refine ao hF rfl rfl rfl (FL (i:=n) Tryz.underlying9 rfl (hF.eval rfl) (hF.eval rfl) (by rw[bR];omega)) fun a hF=>?_;refine Zs 3 fun a w hO hF=>?_;refine Zr 0 ?_;obtain rfl:k=n:=by omega
  rw[List.drop_drop] at hO;exact⟨rfl,hO⟩
theorem DN (w0:World)(b f:Nat)(t:List UInt8)(ht:t.length≤16384)(x1 x2 x3:Value)(hB:Rd w0 [] (Bf b) 4 1 [str t,x1,x2,x3])(p:UInt8→Bool)(hcf:∀(args:Array Value) (w:World),(callFunc f args).run Tryz.prog w=.ok (.enter f args) w)(hf:Qw Tryz.prog f p):bI Tryz.prog 184 #[ptr (aj b),.func (.func f) #[] #[]] w0 (fun v w'=>v=i64 (t.takeWhile p).length∧St w0 [] w' []):=by
 have hO:=St.aX w0;have htw:=I5 p t;refine cw Tryz.func184 Tryz.ntmps184 fun a hF=>?_;refine Zv 2 fun a hF=>?_;refine ax (fun (k:Nat) a w'=>(k≤(t.takeWhile p).length)∧St w0 [] w' []∧Fr a 26 [(0,ptr (aj b)),(1,.func (.func f) #[] #[]),(5,i64 k)]) (fun (k:Nat)=>(t.takeWhile p).length - k) 0 ⟨by omega,hO,hF.sub ⟨rfl,rfl,rfl,trivial⟩⟩ ?_;rintro k a w ⟨hk,hO,hF⟩;refine Zv 4 fun a hF=>?_;refine ao hF rfl rfl rfl (bO Tryz.isAgg9 rfl (hF.eval rfl) (vf (Rd.now hB hO) rfl)) fun a hF=>?_;refine Zw 7 fun a hF=>?_;refine cL hF rfl rfl rfl rfl rfl rfl (fun hg=>bO Tryz.isAgg9 rfl ((hF.eval rfl).trans (an hg)) (vf (Rd.now hB hO) rfl)) fun a hF=>?_;refine Zw 1 fun a hF=>?_;refine cL hF rfl rfl rfl rfl rfl rfl (fun hg=>cA (m:=k) Tryz.underlying9 rfl ((hF.eval rfl).trans (an hg)) ((hF.eval rfl).trans (an hg)) (by have:=iJ hg;omega)) fun a hF=>?_;refine eg hO hF rfl rfl rfl rfl rfl rfl (fun hg=>fo hF rfl ((hF.eval rfl).trans (an hg)) rfl (by first| (simp only[an hg];done)| (simp only[an hg];rfl)) (by rfl) hcf (hf _ (t.getD k 0))) fun a w hO hF=>?_;refine ao hF rfl rfl rfl (dk rfl (hF.eval rfl) rfl (fun hg2=>((hF.eval rfl).trans (an hg2))) (bh _)) fun a hF=>?_;refine Zi 0 (fun hc1=>?_) fun hc1=>?_
 ·refine Zv 3 fun a hF=>?_;exact⟨k+1,⟨ua p t k hk (by have:=hc1.1;omega) hc1.2,hO,hF.sub ⟨rfl,rfl,rfl,trivial⟩⟩,by have:=ua p t k hk (by have:=hc1.1;omega) hc1.2;omega⟩
 ·refine Zr 2 ?_;exact⟨by rw[C_ hk hc1],hO⟩
set_option maxHeartbeats 1000000 in
theorem oY (w0:World)(bs:Nat)(s:List UInt8)(at_:Nat)(vo:Value)(out:List Tok)(hs:s.length≤16384)(hol:out.length≤at_)(hA:bx w0 [.ob bs 143 (vG s (at_) vo),aT vo 44 aK out])(kind num:Int)(text:List UInt8)(n:Nat)(hn:at_+n≤s.length):bI Tryz.prog 150 #[ptr (aj bs),i64 kind,str text,i64 num,i64 n] w0 (fun v w'=>∃vo2,v=i64 0∧St w0 (ak [.ob bs 143 (vG s (at_) vo),aT vo 44 aK out]) w' [.ob bs 143 (vG s (at_+n) vo2),aT vo2 44 aK (out++[⟨kind,text,num,(cF s at_).1,(cF s at_).2⟩])]):=by
 have hO:=St.init hA;have hb:=kX s at_;refine cw Tryz.func150 Tryz.ntmps150 fun a hF=>?_;refine Zd 1 [0,0,0,0,1,0,0,0,0,0,0,1,0,0,0,1,0,2,3,0,0,3] fun a w hO hF=>?_;refine Zv 17 fun a hF=>?_;refine eI hF rfl rfl rfl (bM hF hO Tryz.underlying22 Tryz.sizeOf44 Tryz.zeroValue44 rfl rfl rfl rfl rfl rfl rfl) (fun _ _ ⟨_,_,hO⟩=>hO.tail) ?_;rintro a _ w ⟨b1,rfl,hO⟩ hF;refine jO hF rfl rfl rfl (cO (bytes:=48) (r:=[⟨kind,text,num,(cF s at_).1,(cF s at_).2⟩]) hO (i:=2) rfl (hO.rd 0 rfl) Tryz.underlying22 fq rfl rfl rfl rfl rfl rfl (hF.eval rfl) (hF.eval rfl) (by show (List.length _+1) * 48≤_;omega) (by show List.length _+1≤_;omega)) ?_;rintro a vo2 w hO hF;have hO:=hO.nm;refine Zv 2 fun a hF=>?_;refine yP hF rfl rfl (cK hO (i:=1) rfl Tryz.sizeOf22 rfl (hF.eval rfl) (hF.eval rfl) (aR (hO.bt 2 rfl)) rfl (hO.bt 2 rfl)) ?_;rintro a _ w ⟨-,hO⟩ hF;have hO:=hO.nm;refine Zv 2 fun a hF=>?_;have hO:=hO.q [1];refine Zc 0 (yR _ _ _ _ _ hs hO.ai (_) (by omega)) ?_;rintro a _ w ⟨-,hS⟩ hF;have hO:=hO.k1 hS;refine Zr 1 ?_;have hO:=hO.d [1];exact⟨_,rfl,hO⟩
theorem i2 (i:Nat):(i:Int)+1+1=((i+2:Nat):Int):=by omega
set_option maxHeartbeats 1000000 in
theorem It (w0:World)(t:List UInt8)(ht:t.length≤16384)(F:Nat)(hF9:t.length<F):bI Tryz.prog 180 #[str t] w0 (fun v w'=>v=i64 (match jP t 0 F 0 0 with|none=> -1|some k=>(k:Int))∧St w0 [] w' []):=by
 have hO:=St.aX w0;refine cw Tryz.func180 Tryz.ntmps180 fun a hF=>?_;refine Zv 3 fun a hF=>?_;refine ax (fun (x:Nat×Int×Nat) a w'=>match x with| (f,d,i)=>(jP t 0 f d i=jP t 0 F 0 0∧t.length<i+f∧i≤t.length+1∧d≤i∧ -(i:Int)≤d)∧St w0 [] w' []∧Fr a 33 [(0,str t),(3,i64 d),(4,i64 i)]) (fun (x:Nat×Int×Nat)=>match x with| (f,d,i)=>f) (F,0,0) ⟨⟨rfl,by omega,by omega,by omega,by omega⟩,hO,hF.sub ⟨rfl,rfl,rfl,trivial⟩⟩ ?_;rintro⟨f,d,i⟩ a w ⟨⟨hr,hf,hil,hd2,hd3⟩,hO,hF⟩;refine Zi 5 (fun a hF hc1=>?_) fun a hF hc1=>?_
 ·refine Zv 4 fun a hF=>?_;refine ao hF rfl rfl rfl (vc (i:=i) (j:=i+2) Tryz.underlying9 rfl (hF.eval rfl) (hF.eval rfl) (hF.eval rfl) (by omega) (by omega)) fun a hF=>?_;refine Zi 2 (fun a hF hc2=>?_) fun a hF hc2=>?_
  ·obtain⟨g,rfl⟩:∃g,f=g+1:=⟨f - 1,by omega⟩;refine Zv 9 fun a hF=>?_;exact⟨(g,d+1,i+2),⟨⟨(zJ (by omega) hc2).symm.trans hr,by omega,by omega,by omega,by omega⟩,hO,hF.sub ⟨rfl,rfl,(congrArg some (congrArg i64 (i2 i))),trivial⟩⟩,by dsimp only;omega⟩
  ·refine Zi 2 (fun a hF hc3=>?_) fun a hF hc3=>?_
   ·refine Zi 8 (fun a hF hc4=>?_) fun a hF hc4=>?_
    ·refine Zv 3 fun a hF=>?_;refine ke ?_;refine ke ?_;refine jz ?_;refine jz ?_;refine ke ?_;refine jz ?_;refine Ty hF rfl rfl ?_;obtain⟨g,rfl⟩:∃g,f=g+1:=⟨f - 1,by omega⟩;refine⟨?_,hO⟩;rw[←hr,Ec (by omega) hc2 hc3 hc4];exact congrArg i64 (show (i:Int)+1+1=((i+2 - 0:Nat):Int) by omega)
    ·obtain⟨g,rfl⟩:∃g,f=g+1:=⟨f - 1,by omega⟩;refine Zv 3 fun a hF=>?_;exact⟨(g,d - 1,i+2),⟨⟨(AP (by omega) hc2 hc3 hc4).symm.trans hr,by omega,by omega,by omega,by omega⟩,hO,hF.sub ⟨rfl,rfl,(congrArg some (congrArg i64 (i2 i))),trivial⟩⟩,by dsimp only;omega⟩
   ·obtain⟨g,rfl⟩:∃g,f=g+1:=⟨f - 1,by omega⟩;refine Zv 3 fun a hF=>?_;exact⟨(g,d,i+1),⟨⟨(HR (by omega) hc2 hc3).symm.trans hr,by omega,by omega,by omega,by omega⟩,hO,hF.sub ⟨rfl,rfl,rfl,trivial⟩⟩,by dsimp only;omega⟩
 ·refine Zv 1 fun a hF=>?_;refine Ty hF rfl rfl ?_;refine⟨?_,hO⟩;rw[←hr,zB (by omega)]
  rfl
theorem Nr (w0:World)(s p:List UInt8)(hl:s.length≤9223372036854775000)(hl2:p.length≤9223372036854775000):bI Tryz.prog 203 #[str s,str p] w0 (fun v w'=>v=.bool (decide (p.length≤s.length∧s.take p.length=p))∧St w0 [] w' []):=by
 have hO:=St.aX w0;refine cw Tryz.func203 Tryz.ntmps203 fun a hF=>?_;refine Zw 10 fun a hF=>?_;refine cL hF rfl rfl rfl rfl rfl rfl (fun hg=>oN (j:=p.length) Tryz.underlying9 rfl ((hF.eval rfl).trans (an hg)) ((hF.eval rfl).trans (an hg)) (by have:=iJ hg;omega)) fun a hF=>?_;refine Zw 4 fun a hF=>?_;refine Zr 0 ?_;exact⟨congrArg Value.bool (decide_eq_decide.2 (and_congr (by omega) Iff.rfl)),hO⟩
theorem Uk (w0:World)(s p:List UInt8)(hl:s.length≤9223372036854775000)(hl2:p.length≤9223372036854775000):bI Tryz.prog 179 #[str s,str p] w0 (fun v w'=>v=.bool (decide (p.length≤s.length∧s.take p.length=p))∧St w0 [] w' []):=by
 have hO:=St.aX w0;refine cw Tryz.func179 Tryz.ntmps179 fun a hF=>?_;refine Zc 3 (Nr _ _ _ hl hl2) ?_;rintro a _ w ⟨rfl,hS⟩ hF;have hO:=hO.k0 hS;refine Zr 1 ?_;exact⟨rfl,hO⟩
theorem ik (i k:Nat):((i+1+k:Nat):Int) - 1+1=((i+1+k:Nat):Int):=by omega
section
variable {t:List UInt8} {i k:Nat}
theorem Cx (hk:k≤((t.drop (i+1)).takeWhile aY).length)(h:((i+1+k:Nat):Int)<t.length∧aY (t.getD (i+1+k) 0)=true):k+1≤((t.drop (i+1)).takeWhile aY).length:=
 ua aY _ k hk (by rw[bR];have:=h.1;omega) (by rw[eL];exact h.2)
theorem MR (h:¬(((i+1+k:Nat):Int)<t.length∧aY (t.getD (i+1+k) 0)=true)):¬((k:Int)< (t.drop (i+1)).length∧aY ((t.drop (i+1)).getD k 0)=true):=by
 rw[bR,eL];exact fun g=>h ⟨by have:=g.1;omega,g.2⟩
theorem Mo (hk:((t.drop (i+1)).takeWhile aY).length=k):(t.take (i+1+k)).drop (i+1)=(t.drop (i+1)).takeWhile aY:=by
 have:∀l:List UInt8,l.take (l.takeWhile aY).length=l.takeWhile aY:=by
  intro l
  induction l with
  |nil=>rfl
  |cons c r ih=>
   rw[List.takeWhile_cons]
   split
   ·rw[List.length_cons,List.take_succ_cons,ih]
   ·rfl
 rw[List.drop_take,Nat.add_sub_cancel_left,←hk,this]
theorem RP (hk:((t.drop (i+1)).takeWhile aY).length=k)(h:¬((i+1:Nat):Int)< ((i+1+k:Nat):Int)):¬((i:Int)+1<t.length∧aY (t.getD (i+1) 0)=true):=by
 intro g;have:=Cx (t:=t) (i:=i) (k:=0) (by omega) ⟨by have:=g.1;omega,g.2⟩;omega
theorem CT (hk:((t.drop (i+1)).takeWhile aY).length=k)(h:0<k):(i:Int)+1<t.length∧aY (t.getD (i+1) 0)=true:=by
 have h1:=BQ aY (t.drop (i+1)) 0 (by omega);rw[eL] at h1;have h2:=I5 aY (t.drop (i+1));rw[bR] at h2;exact⟨by omega,h1⟩
theorem Dz (h:i+1≤t.length):jU t t.length 0 (i+1)=(nV ((t.drop (i+1)).takeWhile aY) 0,i+1+((t.drop (i+1)).takeWhile aY).length):=qa _ _ _ _ (by omega)
theorem B_ (h:i+1<t.length)(hc:((t.getD (i+1) 0).toNat:Int)=110∨((t.getD (i+1) 0).toNat:Int)=116∨(((t.getD (i+1) 0).toNat:Int)=92∨((t.getD (i+1) 0).toNat:Int)=34)):¬((t.length:Int)≤i+1∨¬sP.contains (t.getD (i+1) 0)=true):=by
 rintro (h1|h1)
 ·omega
 ·apply h1;rcases hc with hc|hc|hc|hc
  ·rw[show t.getD (i+1) 0=110 from mc 110 rfl hc];rfl
  ·rw[show t.getD (i+1) 0=116 from mc 116 rfl hc];rfl
  ·rw[show t.getD (i+1) 0=92 from mc 92 rfl hc];rfl
  ·rw[show t.getD (i+1) 0=34 from mc 34 rfl hc];rfl
theorem Nc (h1:¬((t.getD (i+1) 0).toNat:Int)=110)(h2:¬((t.getD (i+1) 0).toNat:Int)=116)(h3:¬(((t.getD (i+1) 0).toNat:Int)=92∨((t.getD (i+1) 0).toNat:Int)=34)):(t.length:Int)≤i+1∨¬sP.contains (t.getD (i+1) 0)=true:=by
 right;intro h;rcases (by simpa [sP] using h:t.getD (i+1) 0=110∨t.getD (i+1) 0=116∨t.getD (i+1) 0=92∨t.getD (i+1) 0=34) with e|e|e|e
 ·exact h1 (by rw[e];rfl)
 ·exact h2 (by rw[e];rfl)
 ·exact h3 (.inl (by rw[e];rfl))
 ·exact h3 (.inr (by rw[e];rfl))
end
theorem z1 (w0:World)(b:Nat)(o:Option Addr)(bv:Value)(ho:o=none∨o=some (aj b))(hA:bx w0 [.ob b 169 [.pointer o,bv]]):bI Tryz.prog 232 #[ptr (aj b)] w0 (fun v w'=>v=.tuple #[]∧St w0 [b] w' [.ob b 169 [.pointer (some (aj b)),bv]]):=by
 have hO:=St.init hA;refine cw Tryz.func232 Tryz.ntmps232 fun a hF=>?_;refine Zv 4 fun a hF=>?_;refine ao hF rfl rfl rfl (VT Tryz.underlying167 rfl (hF.eval rfl) (hF.eval rfl)) fun a hF=>?_;refine Zi 0 (fun hc1=>?_) fun hc1=>?_
 ·refine Zv 2 fun a hF=>?_;refine ao hF rfl rfl rfl (B2 hO (i:=0) rfl rfl rfl (hF.eval rfl)) fun a hF=>?_;refine ao hF rfl rfl rfl (BD rfl (hF.eval rfl)) fun a hF=>?_;refine ao hF rfl rfl rfl (yn hO (i:=0) rfl rfl rfl (hF.eval rfl)) fun a hF=>?_;refine Zs 3 fun a w hO hF=>?_;refine Zr 0 ?_;exact⟨rfl,hO⟩
 ·obtain rfl:o=some (aj b):=ho.resolve_left hc1;refine Zv 5 fun a hF=>?_;refine ao hF rfl rfl rfl (Us Tryz.underlying167 rfl (hF.eval rfl) (hF.eval rfl)) fun a hF=>?_;refine Zi 0 (fun hc2=>?_) fun hc2=>?_
  ·exact absurd hc2 (by simp)
  ·refine Zr 0 ?_;exact⟨rfl,hO⟩
theorem qk (w0:World)(b:Nat)(o:Option Addr)(bv:Value)(l:List UInt8)(c:UInt8)(hl:l.length≤100000)(ho:o=none∨o=some (aj b))(hA:bx w0 [.ob b 169 [.pointer o,bv],aT bv 5 kQ l]):bI Tryz.prog 213 #[ptr (aj b),.int .u8 c.toNat] w0 (fun v w'=>∃bv2,v=.nilIface∧St w0 (ak [.ob b 169 [.pointer o,bv],aT bv 5 kQ l]) w' [.ob b 169 [.pointer (some (aj b)),bv2],aT bv2 5 kQ (l++[c])]):=by
 have hO:=St.init hA;refine cw Tryz.func213 Tryz.ntmps213 fun a hF=>?_;refine Zc 2 (z1 _ _ _ _ ho hO.ai) ?_;rintro a _ w ⟨-,hS⟩ hF;have hO:=hO.k1 hS;refine Zb 7 fun b1 a w hO hF=>?_;refine fN hF rfl rfl rfl (cO (bytes:=1) (r:=[c]) hO (i:=2) rfl (hO.rd 0 rfl) Tryz.underlying113 iX rfl rfl rfl rfl rfl rfl (hF.eval rfl) (hF.eval rfl) (by show (List.length _+1) * 1≤_;omega) (by show List.length _+1≤_;omega)) ?_;rintro a v14 w hO hF;have hO:=hO.nm;refine Zv 2 fun a hF=>?_;refine c_ hF rfl rfl (cK hO (i:=1) rfl Tryz.sizeOf113 rfl (hF.eval rfl) (hF.eval rfl) (aR (hO.bt 2 rfl)) rfl (hO.bt 2 rfl)) ?_;rintro a _ w ⟨-,hO⟩ hF;have hO:=hO.nm;refine Zr 1 ?_;have hO:=hO.d [0];exact⟨_,rfl,hO⟩
theorem OY (w0:World)(t:List UInt8)(ht:t.length≤16384)(h0:0<t.length)(F:Nat)(hF9:t.length<F)(hG:gq w0 []):bI Tryz.prog 189 #[str t] w0 (fun v w'=>v=(match gB t F [] 1 with|none=>.tuple #[str [],i64 (-1)]|some (x,n)=>.tuple #[str x,i64 (n:Int)])∧St w0 [] w' []):=by
 have hO:=St.aX w0;refine Sl (m:=108) Tryz.func189 rfl Tryz.ntmps189 [(0,str t)] rfl ⟨rfl,trivial⟩ fun a hF=>?_;refine wp_seq ?_;refine wp_region_lit ?_;refine ao hF rfl rfl rfl (Bc rfl (hF.eval rfl)) fun a hF=>?_;refine ao hF rfl rfl rfl (Bc rfl (hF.eval rfl)) fun a hF=>?_;refine c8 ?_;refine vK ?_;refine wp_seq ?_;refine wp_region_lit ?_;refine fN hF rfl rfl rfl (qU hO Tryz.zeroValue169 rfl rfl) ?_;rintro a _ w ⟨bb,rfl,hO⟩ hF;have hO:=hO.bV 5 1;have hO:=hO.pull 1 rfl;refine c8 ?_;refine vK ?_;refine wp_seq ?_;refine wp_seq ?_;refine wp_region_lit ?_;refine ao hF rfl rfl rfl (Bc rfl (hF.eval rfl)) fun a hF=>?_;refine c8 ?_;refine vK ?_;refine wp_block ?_;have hO:St _ _ _ [_,_]:=hO;refine ax (fun (x:Nat×List UInt8×Nat×Option Addr×Value) a w'=>match x with| (f,out,i,o,bv)=>(gB t f out i=gB t F [] 1∧t.length<i+f∧1≤i∧i≤t.length∧out.length≤i∧(o=none∨o=some (aj bb)))∧St w0 [] w' [.ob bb 169 [.pointer o,bv],aT bv 5 kQ out]∧Fr a 108 [(0,str t),(4,ptr (aj bb)),(5,i64 i)]) (fun (x:Nat×List UInt8×Nat×Option Addr×Value)=>match x with| (f,out,i,o,bv)=>f) (F,[],1,none,_) ⟨⟨rfl,by omega,by omega,by omega,by simp,.inl rfl⟩,hO,hF.sub ⟨rfl,rfl,rfl,trivial⟩⟩ ?_;rintro⟨f,out,i,o,bv⟩ a w ⟨⟨hr,hf,hi1,hil,hol,ho⟩,hO,hF⟩;refine wp_seq ?_;refine wp_seq ?_;refine wp_region_lit ?_;refine ao hF rfl rfl rfl (I_ rfl (hF.eval rfl)) fun a hF=>?_;refine ao hF rfl rfl rfl (I_ rfl (hF.eval rfl)) fun a hF=>?_;refine ao hF rfl rfl rfl (Yy Tryz.underlying9 rfl (hF.eval rfl)) fun a hF=>?_;refine ao hF rfl rfl rfl (Yq rfl (hF.eval rfl) (hF.eval rfl)) fun a hF=>?_;refine c8 ?_;refine vK ?_;refine H8 hF rfl rfl (fun hc1=>?_) (fun hc1=>?_)
 ·refine wp_skip ?_;refine vK ?_;refine wp_seq ?_;refine wp_block ?_;refine wp_seq ?_;refine wp_region_lit ?_;refine ao hF rfl rfl rfl (I_ rfl (hF.eval rfl)) fun a hF=>?_;refine ao hF rfl rfl rfl (I_ rfl (hF.eval rfl)) fun a hF=>?_;refine ao hF rfl rfl rfl (cA (m:=i) Tryz.underlying9 rfl (hF.eval rfl) (hF.eval rfl) (by omega)) fun a hF=>?_;refine ao hF rfl rfl rfl (Bc rfl (hF.eval rfl)) fun a hF=>?_;refine c8 ?_;refine vK ?_;refine wp_block ?_;refine wp_seq ?_;refine wp_region_lit ?_;refine ao hF rfl rfl rfl (I_ rfl (hF.eval rfl)) fun a hF=>?_;refine ao hF rfl rfl rfl (ZX rfl (hF.eval rfl) (hF.eval rfl)) fun a hF=>?_;refine ao hF rfl rfl rfl (Bc rfl (hF.eval rfl)) fun a hF=>?_;refine c8 ?_;refine vK ?_;refine H8 hF rfl rfl (fun hc2=>?_) (fun hc2=>?_)
  ·refine wp_seq ?_;refine wp_region_lit ?_;refine fN hF rfl rfl rfl (a6 hF rfl rfl Tryz.call212 (Sr ho hO)) ?_;rintro a _ w ⟨rfl,hO⟩ hF;refine ao hF rfl rfl rfl (I_ rfl (hF.eval rfl)) fun a hF=>?_;refine ao hF rfl rfl rfl (qu rfl (hF.eval rfl) (hF.eval rfl) (by omega)) fun a hF=>?_;refine ao hF rfl rfl rfl (Bc rfl (hF.eval rfl)) fun a hF=>?_;refine ao hF rfl rfl rfl (Bc rfl (hF.eval rfl)) fun a hF=>?_;refine c8 ?_;refine vK ?_;refine wp_ret ?_;refine ke ?_;refine ke ?_;refine jz ?_;refine jz ?_;refine ke ?_;refine jz ?_;refine Gi hF rfl rfl rfl ?_;have hO:=(hO.w6 0).w6 0;have hO:St _ _ _ []:=hO;obtain⟨g,rfl⟩:∃g,f=g+1:=⟨f - 1,by omega⟩;refine⟨?_,hO⟩;rw[←hr,wJ (by omega) hc2];exact congrArg (fun x=>Value.tuple #[str out,i64 x]) (show (i:Int)+1=((i+1:Nat):Int) by omega)
  ·refine wp_seq ?_;refine wp_region_lit ?_;refine ao hF rfl rfl rfl (I_ rfl (hF.eval rfl)) fun a hF=>?_;refine ao hF rfl rfl rfl (Yq rfl (hF.eval rfl) (hF.eval rfl)) fun a hF=>?_;refine ao hF rfl rfl rfl (I_ rfl (hF.eval rfl)) fun a hF=>?_;refine cL hF rfl rfl rfl rfl rfl rfl (fun hg=>I_ rfl (hF.eval rfl)) fun a hF=>?_;refine cL hF rfl rfl rfl rfl rfl rfl (fun hg=>aak rfl ((hF.eval rfl).trans (an hg)) (hF.eval rfl)) fun a hF=>?_;refine ao hF rfl rfl rfl (uC rfl (hF.eval rfl) rfl (fun hg2=>((hF.eval rfl).trans (an hg2))) rfl) fun a hF=>?_;refine ao hF rfl rfl rfl (Bc rfl (hF.eval rfl)) fun a hF=>?_;refine c8 ?_;refine vK ?_;refine H8 hF rfl rfl (fun hc3=>?_) (fun hc3=>?_)
   ·refine wp_seq ?_;refine wp_region_lit ?_;refine ao hF rfl rfl rfl (Bc rfl (hF.eval rfl)) fun a hF=>?_;refine ao hF rfl rfl rfl (Bc rfl (hF.eval rfl)) fun a hF=>?_;refine c8 ?_;refine vK ?_;refine wp_ret ?_;refine ke ?_;refine ke ?_;refine jz ?_;refine jz ?_;refine ke ?_;refine jz ?_;refine Gi hF rfl rfl rfl ?_;have hO:=(hO.w6 0).w6 0;have hO:St _ _ _ []:=hO;obtain⟨g,rfl⟩:∃g,f=g+1:=⟨f - 1,by omega⟩;refine⟨?_,hO⟩;rw[←hr,Dr (by omega) hc2 (by omega) hc3]
    rfl
   ·refine wp_seq ?_;refine wp_region_lit ?_;refine ao hF rfl rfl rfl (I_ rfl (hF.eval rfl)) fun a hF=>?_;refine ao hF rfl rfl rfl (Yb rfl (hF.eval rfl) (hF.eval rfl)) fun a hF=>?_;refine ao hF rfl rfl rfl (Bc rfl (hF.eval rfl)) fun a hF=>?_;refine c8 ?_;refine vK ?_;refine H8 hF rfl rfl (fun hc4=>?_) (fun hc4=>?_)
    ·refine wp_region_lit ?_;refine ao hF rfl rfl rfl (I_ rfl (hF.eval rfl)) fun a hF=>?_;have hO:St _ _ _ [_,_]:=hO;refine fN hF rfl rfl rfl (a6 hF rfl rfl Tryz.call213 (qk _ _ _ _ _ (t.getD i 0) (by omega) ho hO.ba)) ?_;rintro a _ w ⟨bv2,rfl,hS⟩ hF;have hO:=hO.call2 hS;have hO:St _ _ _ [_,_]:=hO;refine c8 ?_;refine b_n ?_;refine b_n ?_;refine vK ?_;refine wp_region_lit ?_;refine ao hF rfl rfl rfl (I_ rfl (hF.eval rfl)) fun a hF=>?_;refine ao hF rfl rfl rfl (qu rfl (hF.eval rfl) (hF.eval rfl) (by omega)) fun a hF=>?_;refine ao hF rfl rfl rfl (Bc rfl (hF.eval rfl)) fun a hF=>?_;refine c8 ?_;refine vK ?_;have hO:St _ _ _ [_,_]:=hO;obtain⟨g,rfl⟩:∃g,f=g+1:=⟨f - 1,by omega⟩;exact⟨(g,out++[gt t i],i+1,some (aj bb),bv2),⟨⟨(wH (by omega) hc2 (by omega) hc3).symm.trans hr,by omega,by omega,by omega,by rw[List.length_append,List.length_singleton];omega,.inr rfl⟩,hO,hF.sub ⟨rfl,rfl,rfl,trivial⟩⟩,by dsimp only;omega⟩
    ·refine wp_seq ?_;refine wp_region_lit ?_;refine ao hF rfl rfl rfl (I_ rfl (hF.eval rfl)) fun a hF=>?_;refine ao hF rfl rfl rfl (qu rfl (hF.eval rfl) (hF.eval rfl) (by omega)) fun a hF=>?_;refine ao hF rfl rfl rfl (Bc rfl (hF.eval rfl)) fun a hF=>?_;refine c8 ?_;refine vK ?_;refine wp_seq ?_;refine wp_seq ?_;refine wp_region_lit ?_;refine ao hF rfl rfl rfl (I_ rfl (hF.eval rfl)) fun a hF=>?_;refine ao hF rfl rfl rfl (I_ rfl (hF.eval rfl)) fun a hF=>?_;refine ao hF rfl rfl rfl (Yy Tryz.underlying9 rfl (hF.eval rfl)) fun a hF=>?_;refine ao hF rfl rfl rfl (ZX rfl (hF.eval rfl) (hF.eval rfl)) fun a hF=>?_;refine c8 ?_;refine vK ?_;refine H8 hF rfl rfl (fun hc5=>?_) (fun hc5=>?_)
     ·refine wp_seq ?_;refine wp_region_lit ?_;refine ao hF rfl rfl rfl (Bc rfl (hF.eval rfl)) fun a hF=>?_;refine ao hF rfl rfl rfl (Bc rfl (hF.eval rfl)) fun a hF=>?_;refine c8 ?_;refine vK ?_;refine wp_ret ?_;refine jz ?_;refine ke ?_;refine ke ?_;refine jz ?_;refine jz ?_;refine ke ?_;refine jz ?_;refine Gi hF rfl rfl rfl ?_;have hO:=(hO.w6 0).w6 0;have hO:St _ _ _ []:=hO;obtain⟨g,rfl⟩:∃g,f=g+1:=⟨f - 1,by omega⟩;refine⟨?_,hO⟩;rw[←hr,yf (by omega) hc2 hc4 (fun h=>by have:=h.1;omega) (.inl (by omega))]
      rfl
     ·refine wp_skip ?_;refine vK ?_;refine wp_seq ?_;refine wp_region_lit ?_;refine ao hF rfl rfl rfl (I_ rfl (hF.eval rfl)) fun a hF=>?_;refine ao hF rfl rfl rfl (Bc rfl (hF.eval rfl)) fun a hF=>?_;refine c8 ?_;refine vK ?_;refine wp_seq ?_;refine wp_block ?_;have hO:St _ _ _ [_,_]:=hO;refine ax (fun (k:Nat) a w'=>(k≤((t.drop (i+1)).takeWhile aY).length)∧St w0 [] w' [.ob bb 169 [.pointer o,bv],aT bv 5 kQ out]∧Fr a 108 [(0,str t),(4,ptr (aj bb)),(5,i64 ((i+1:Nat):Int)),(7,i64 ((i+1+k:Nat):Int))]) (fun (k:Nat)=>((t.drop (i+1)).takeWhile aY).length - k) 0 ⟨by omega,hO,hF.sub ⟨rfl,rfl,rfl,rfl,trivial⟩⟩ ?_;rintro k a w ⟨hk,hO,hF⟩;have hDl:((t.drop (i+1)).takeWhile aY).length≤t.length - (i+1):=Nat.le_trans (I5 _ _) (by rw[bR];exact Nat.le_refl _);refine wp_seq ?_;refine wp_seq ?_;refine wp_region_lit ?_;refine ao hF rfl rfl rfl (I_ rfl (hF.eval rfl)) fun a hF=>?_;refine ao hF rfl rfl rfl (I_ rfl (hF.eval rfl)) fun a hF=>?_;refine ao hF rfl rfl rfl (Yy Tryz.underlying9 rfl (hF.eval rfl)) fun a hF=>?_;refine ao hF rfl rfl rfl (Yq rfl (hF.eval rfl) (hF.eval rfl)) fun a hF=>?_;refine ao hF rfl rfl rfl (I_ rfl (hF.eval rfl)) fun a hF=>?_;refine cL hF rfl rfl rfl rfl rfl rfl (fun hg=>I_ rfl (hF.eval rfl)) fun a hF=>?_;refine cL hF rfl rfl rfl rfl rfl rfl (fun hg=>I_ rfl (hF.eval rfl)) fun a hF=>?_;refine cL hF rfl rfl rfl rfl rfl rfl (fun hg=>cA (m:=i+1+k) Tryz.underlying9 rfl ((hF.eval rfl).trans (an hg)) ((hF.eval rfl).trans (an hg)) (by have:=iJ hg;omega)) fun a hF=>?_;refine eg hO hF rfl rfl rfl rfl rfl rfl (fun hg=>du hF rfl rfl (kD trivial) Tryz.call183 (qj _ _)) fun a w hO hF=>?_;refine ao hF rfl rfl rfl (dk rfl (hF.eval rfl) rfl (fun hg2=>((hF.eval rfl).trans (an hg2))) (bh _)) fun a hF=>?_;refine c8 ?_;refine vK ?_;refine H8 hF rfl rfl (fun hc6=>?_) (fun hc6=>?_)
      ·refine wp_skip ?_;refine vK ?_;refine wp_block ?_;refine wp_region_lit ?_;refine ao hF rfl rfl rfl (I_ rfl (hF.eval rfl)) fun a hF=>?_;refine ao hF rfl rfl rfl (qu rfl (hF.eval rfl) (hF.eval rfl) (by omega)) fun a hF=>?_;refine ao hF rfl rfl rfl (Bc rfl (hF.eval rfl)) fun a hF=>?_;refine c8 ?_;refine b_n ?_;refine vK ?_;have hO:St _ _ _ [_,_]:=hO;exact⟨k+1,⟨Cx hk hc6,hO,hF.sub ⟨rfl,rfl,rfl,rfl,trivial⟩⟩,by have:=Cx hk hc6;omega⟩
      ·have hnd:=MR hc6;have hkD:((t.drop (i+1)).takeWhile aY).length=k:=C_ (by omega) hnd;have hDe:=Mo (i:=i) hkD;have hDn:0<k→((t.drop (i+1)).takeWhile aY)≠[]:=fun h e=>by rw[e] at hkD;simp at hkD;omega
       refine wp_exit ?_;refine v7 ?_;refine v7 ?_;refine w9 ?_;refine vK ?_;refine wp_seq ?_;refine wp_region_lit ?_;refine ao hF rfl rfl rfl (I_ rfl (hF.eval rfl)) fun a hF=>?_;refine ao hF rfl rfl rfl (I_ rfl (hF.eval rfl)) fun a hF=>?_;refine ao hF rfl rfl rfl (I_ rfl (hF.eval rfl)) fun a hF=>?_;refine ao hF rfl rfl rfl (vc (i:=(i+1)) (j:=(i+1+k)) Tryz.underlying9 rfl (hF.eval rfl) (hF.eval rfl) (hF.eval rfl) (by omega) (by omega)) fun a hF=>?_;rw[hDe] at hF;refine fN hF rfl rfl rfl (a6 hF rfl rfl Tryz.call214 (AR _ _ (by omega) (fun c hc=>Jp c hc) (hG.cH hO))) ?_;rintro a _ w ⟨n,er,rfl,hpu,hS⟩ hF;have hO:=hO.sv hS;have hO:St _ _ _ [_,_]:=hO;refine ao hF rfl rfl rfl (I_ rfl (hF.eval rfl)) fun a hF=>?_;refine ao hF rfl rfl rfl (ia rfl (hF.eval rfl) rfl) fun a hF=>?_;refine ao hF rfl rfl rfl (ia rfl (hF.eval rfl) rfl) fun a hF=>?_;refine ao hF rfl rfl rfl (Bc rfl (hF.eval rfl)) fun a hF=>?_;refine ao hF rfl rfl rfl (Bc rfl (hF.eval rfl)) fun a hF=>?_;refine c8 ?_;refine vK ?_;refine wp_block ?_;refine wp_seq ?_;refine wp_region_lit ?_;refine ao hF rfl rfl rfl (I_ rfl (hF.eval rfl)) fun a hF=>?_;refine ao hF rfl rfl rfl (I_ rfl (hF.eval rfl)) fun a hF=>?_;refine ao hF rfl rfl rfl (aak rfl (hF.eval rfl) (hF.eval rfl)) fun a hF=>?_;refine ao hF rfl rfl rfl (I_ rfl (hF.eval rfl)) fun a hF=>?_;refine cL hF rfl rfl rfl rfl rfl rfl (fun hg=>I_ rfl (hF.eval rfl)) fun a hF=>?_;refine cL hF rfl rfl rfl rfl rfl rfl (fun hg=>Eb Tryz.underlying158 rfl ((hF.eval rfl).trans (an hg))) fun a hF=>?_;refine ao hF rfl rfl rfl (dk rfl (hF.eval rfl) rfl (fun hg2=>((hF.eval rfl).trans (an hg2))) (bh _)) fun a hF=>?_;refine ao hF rfl rfl rfl (Bc rfl (hF.eval rfl)) fun a hF=>?_;refine c8 ?_;refine vK ?_;refine H8 hF rfl rfl (fun hc7=>?_) (fun hc7=>?_)
       ·refine wp_seq ?_;refine wp_region_lit ?_;refine ao hF rfl rfl rfl (Bc rfl (hF.eval rfl)) fun a hF=>?_;refine ao hF rfl rfl rfl (Bc rfl (hF.eval rfl)) fun a hF=>?_;refine c8 ?_;refine vK ?_;refine wp_ret ?_;refine ke ?_;refine ke ?_;refine ke ?_;refine jz ?_;refine jz ?_;refine ke ?_;refine jz ?_;refine Gi hF rfl rfl rfl ?_;have hO:=(hO.w6 0).w6 0;have hO:St _ _ _ []:=hO;obtain⟨g,rfl⟩:∃g,f=g+1:=⟨f - 1,by omega⟩;refine⟨?_,hO⟩;have hbig:255<nV ((t.drop (i+1)).takeWhile aY) 0:=by rcases hpu (hDn (by omega)) with ⟨_,_,a3⟩| ⟨a1,_⟩;rw[a3] at hc7;exact absurd hc7.2 (by simp);exact a1
        rw[←hr,Ei (by omega) hc2 hc4 (CT hkD (by omega)) (Dz (by omega)) (by omega)]
        rfl
       ·refine wp_seq ?_;refine wp_region_lit ?_;refine ao hF rfl rfl rfl (I_ rfl (hF.eval rfl)) fun a hF=>?_;refine ao hF rfl rfl rfl (I_ rfl (hF.eval rfl)) fun a hF=>?_;refine ao hF rfl rfl rfl (aak rfl (hF.eval rfl) (hF.eval rfl)) fun a hF=>?_;refine ao hF rfl rfl rfl (Bc rfl (hF.eval rfl)) fun a hF=>?_;refine c8 ?_;refine vK ?_;refine H8 hF rfl rfl (fun hc8=>?_) (fun hc8=>?_)
        ·obtain⟨hn1,hn3⟩:n=nV ((t.drop (i+1)).takeWhile aY) 0∧n≤255:=by rcases hpu (hDn (by omega)) with ⟨a1,a2,_⟩| ⟨_,a2⟩;exact⟨a1,a2⟩;exact absurd ⟨hc8,a2⟩ hc7
         refine wp_seq ?_;refine wp_region_lit ?_;refine ao hF rfl rfl rfl (I_ rfl (hF.eval rfl)) fun a hF=>?_;refine ao hF rfl rfl rfl (xM Tryz.underlying171 Tryz.underlying5 rfl (hF.eval rfl) (ub hn3)) fun a hF=>?_;have hO:St _ _ _ [_,_]:=hO;refine fN hF rfl rfl rfl (a6 hF rfl rfl Tryz.call213 (qk _ _ _ _ _ (UInt8.ofNat n) (by omega) ho hO.ba)) ?_;rintro a _ w ⟨bv2,rfl,hS⟩ hF;have hO:=hO.call2 hS;have hO:St _ _ _ [_,_]:=hO;refine c8 ?_;refine vK ?_;refine wp_region_lit ?_;refine ao hF rfl rfl rfl (I_ rfl (hF.eval rfl)) fun a hF=>?_;refine ao hF rfl rfl rfl (Da rfl (hF.eval rfl) (hF.eval rfl) (by omega)) fun a hF=>?_;refine ao hF rfl rfl rfl (Bc rfl (hF.eval rfl)) fun a hF=>?_;refine c8 ?_;refine b_n ?_;refine b_n ?_;refine b_n ?_;refine vK ?_;refine wp_region_lit ?_;refine ao hF rfl rfl rfl (I_ rfl (hF.eval rfl)) fun a hF=>?_;refine ao hF rfl rfl rfl (qu rfl (hF.eval rfl) (hF.eval rfl) (by omega)) fun a hF=>?_;refine ao hF rfl rfl rfl (Bc rfl (hF.eval rfl)) fun a hF=>?_;refine c8 ?_;refine vK ?_;have hO:St _ _ _ [_,_]:=hO;obtain⟨g,rfl⟩:∃g,f=g+1:=⟨f - 1,by omega⟩;exact⟨(g,out++[UInt8.ofNat n],i+1+k,some (aj bb),bv2),⟨⟨(D3 (by omega) hc2 hc4 (CT hkD (by omega)) (by rw[Dz (by omega),hkD,←hn1]) hn3).symm.trans hr,by omega,by omega,by omega,by rw[List.length_append,List.length_singleton];omega,.inr rfl⟩,hO,hF.sub ⟨rfl,rfl,(congrArg some (congrArg i64 (ik i k))),trivial⟩⟩,by dsimp only;omega⟩
        ·have hn5:¬((i:Int)+1<t.length∧aY (t.getD (i+1) 0)=true):=RP hkD hc8;refine wp_seq ?_;refine wp_region_lit ?_;refine ao hF rfl rfl rfl (I_ rfl (hF.eval rfl)) fun a hF=>?_;refine ao hF rfl rfl rfl (I_ rfl (hF.eval rfl)) fun a hF=>?_;refine ao hF rfl rfl rfl (cA (m:=i+1) Tryz.underlying9 rfl (hF.eval rfl) (hF.eval rfl) (by omega)) fun a hF=>?_;refine ao hF rfl rfl rfl (ZX rfl (hF.eval rfl) (hF.eval rfl)) fun a hF=>?_;refine ao hF rfl rfl rfl (Bc rfl (hF.eval rfl)) fun a hF=>?_;refine c8 ?_;refine vK ?_;refine H8 hF rfl rfl (fun hc9=>?_) (fun hc9=>?_)
         ·refine wp_region_lit ?_;have hO:St _ _ _ [_,_]:=hO;refine fN hF rfl rfl rfl (a6 hF rfl rfl Tryz.call213 (qk _ _ _ _ _ 10 (by omega) ho hO.ba)) ?_;rintro a _ w ⟨bv2,rfl,hS⟩ hF;have hO:=hO.call2 hS;have hO:St _ _ _ [_,_]:=hO;refine c8 ?_;refine b_n ?_;refine b_n ?_;refine b_n ?_;refine vK ?_;refine wp_region_lit ?_;refine ao hF rfl rfl rfl (I_ rfl (hF.eval rfl)) fun a hF=>?_;refine ao hF rfl rfl rfl (qu rfl (hF.eval rfl) (hF.eval rfl) (by omega)) fun a hF=>?_;refine ao hF rfl rfl rfl (Bc rfl (hF.eval rfl)) fun a hF=>?_;refine c8 ?_;refine vK ?_;have hO:St _ _ _ [_,_]:=hO;obtain⟨g,rfl⟩:∃g,f=g+1:=⟨f - 1,by omega⟩;exact⟨(g,out++[10],i+2,some (aj bb),bv2),⟨⟨(oR (c:=10) (by omega) hc2 hc4 hn5 (B_ (by omega) (.inl hc9)) (Ot hc9)).symm.trans hr,by omega,by omega,by omega,by rw[List.length_append,List.length_singleton];omega,.inr rfl⟩,hO,hF.sub ⟨rfl,rfl,rfl,trivial⟩⟩,by dsimp only;omega⟩
         ·refine wp_seq ?_;refine wp_region_lit ?_;refine ao hF rfl rfl rfl (I_ rfl (hF.eval rfl)) fun a hF=>?_;refine ao hF rfl rfl rfl (I_ rfl (hF.eval rfl)) fun a hF=>?_;refine ao hF rfl rfl rfl (cA (m:=i+1) Tryz.underlying9 rfl (hF.eval rfl) (hF.eval rfl) (by omega)) fun a hF=>?_;refine ao hF rfl rfl rfl (ZX rfl (hF.eval rfl) (hF.eval rfl)) fun a hF=>?_;refine ao hF rfl rfl rfl (Bc rfl (hF.eval rfl)) fun a hF=>?_;refine c8 ?_;refine vK ?_;refine H8 hF rfl rfl (fun ft=>?_) (fun ft=>?_)
          ·refine wp_region_lit ?_;have hO:St _ _ _ [_,_]:=hO;refine fN hF rfl rfl rfl (a6 hF rfl rfl Tryz.call213 (qk _ _ _ _ _ 9 (by omega) ho hO.ba)) ?_;rintro a _ w ⟨bv2,rfl,hS⟩ hF;have hO:=hO.call2 hS;have hO:St _ _ _ [_,_]:=hO;refine c8 ?_;refine b_n ?_;refine b_n ?_;refine b_n ?_;refine vK ?_;refine wp_region_lit ?_;refine ao hF rfl rfl rfl (I_ rfl (hF.eval rfl)) fun a hF=>?_;refine ao hF rfl rfl rfl (qu rfl (hF.eval rfl) (hF.eval rfl) (by omega)) fun a hF=>?_;refine ao hF rfl rfl rfl (Bc rfl (hF.eval rfl)) fun a hF=>?_;refine c8 ?_;refine vK ?_;have hO:St _ _ _ [_,_]:=hO;obtain⟨g,rfl⟩:∃g,f=g+1:=⟨f - 1,by omega⟩;exact⟨(g,out++[9],i+2,some (aj bb),bv2),⟨⟨(oR (c:=9) (by omega) hc2 hc4 hn5 (B_ (by omega) (.inr (.inl ft))) (Ox hc9 ft)).symm.trans hr,by omega,by omega,by omega,by rw[List.length_append,List.length_singleton];omega,.inr rfl⟩,hO,hF.sub ⟨rfl,rfl,rfl,trivial⟩⟩,by dsimp only;omega⟩
          ·refine wp_seq ?_;refine wp_region_lit ?_;refine ao hF rfl rfl rfl (I_ rfl (hF.eval rfl)) fun a hF=>?_;refine ao hF rfl rfl rfl (I_ rfl (hF.eval rfl)) fun a hF=>?_;refine ao hF rfl rfl rfl (cA (m:=i+1) Tryz.underlying9 rfl (hF.eval rfl) (hF.eval rfl) (by omega)) fun a hF=>?_;refine ao hF rfl rfl rfl (ZX rfl (hF.eval rfl) (hF.eval rfl)) fun a hF=>?_;refine ao hF rfl rfl rfl (I_ rfl (hF.eval rfl)) fun a hF=>?_;refine cL hF rfl rfl rfl rfl rfl rfl (fun hg=>I_ rfl (hF.eval rfl)) fun a hF=>?_;refine cL hF rfl rfl rfl rfl rfl rfl (fun hg=>I_ rfl (hF.eval rfl)) fun a hF=>?_;refine cL hF rfl rfl rfl rfl rfl rfl (fun hg=>cA (m:=i+1) Tryz.underlying9 rfl ((hF.eval rfl).trans (an hg)) ((hF.eval rfl).trans (an hg)) (by omega)) fun a hF=>?_;refine cL hF rfl rfl rfl rfl rfl rfl (fun hg=>ZX rfl ((hF.eval rfl).trans (an hg)) (hF.eval rfl)) fun a hF=>?_;refine ao hF rfl rfl rfl (uC rfl (hF.eval rfl) rfl (fun hg2=>((hF.eval rfl).trans (an hg2))) rfl) fun a hF=>?_;refine ao hF rfl rfl rfl (Bc rfl (hF.eval rfl)) fun a hF=>?_;refine c8 ?_;refine vK ?_;refine H8 hF rfl rfl (fun iR=>?_) (fun iR=>?_)
           ·refine wp_region_lit ?_;refine ao hF rfl rfl rfl (I_ rfl (hF.eval rfl)) fun a hF=>?_;refine ao hF rfl rfl rfl (I_ rfl (hF.eval rfl)) fun a hF=>?_;refine ao hF rfl rfl rfl (cA (m:=i+1) Tryz.underlying9 rfl (hF.eval rfl) (hF.eval rfl) (by omega)) fun a hF=>?_;have hO:St _ _ _ [_,_]:=hO;refine fN hF rfl rfl rfl (a6 hF rfl rfl Tryz.call213 (qk _ _ _ _ _ (t.getD (i+1) 0) (by omega) ho hO.ba)) ?_;rintro a _ w ⟨bv2,rfl,hS⟩ hF;have hO:=hO.call2 hS;have hO:St _ _ _ [_,_]:=hO;refine c8 ?_;refine b_n ?_;refine b_n ?_;refine b_n ?_;refine vK ?_;refine wp_region_lit ?_;refine ao hF rfl rfl rfl (I_ rfl (hF.eval rfl)) fun a hF=>?_;refine ao hF rfl rfl rfl (qu rfl (hF.eval rfl) (hF.eval rfl) (by omega)) fun a hF=>?_;refine ao hF rfl rfl rfl (Bc rfl (hF.eval rfl)) fun a hF=>?_;refine c8 ?_;refine vK ?_;have hO:St _ _ _ [_,_]:=hO;obtain⟨g,rfl⟩:∃g,f=g+1:=⟨f - 1,by omega⟩;exact⟨(g,out++[gt t (i+1)],i+2,some (aj bb),bv2),⟨⟨(oR (by omega) hc2 hc4 hn5 (B_ (by omega) (.inr (.inr iR))) (NM hc9 ft)).symm.trans hr,by omega,by omega,by omega,by rw[List.length_append,List.length_singleton];omega,.inr rfl⟩,hO,hF.sub ⟨rfl,rfl,rfl,trivial⟩⟩,by dsimp only;omega⟩
           ·refine wp_seq ?_;refine wp_region_lit ?_;refine ao hF rfl rfl rfl (Bc rfl (hF.eval rfl)) fun a hF=>?_;refine ao hF rfl rfl rfl (Bc rfl (hF.eval rfl)) fun a hF=>?_;refine c8 ?_;refine vK ?_;refine wp_ret ?_;refine ke ?_;refine ke ?_;refine ke ?_;refine jz ?_;refine jz ?_;refine ke ?_;refine jz ?_;refine Gi hF rfl rfl rfl ?_;have hO:=(hO.w6 0).w6 0;have hO:St _ _ _ []:=hO;obtain⟨g,rfl⟩:∃g,f=g+1:=⟨f - 1,by omega⟩;refine⟨?_,hO⟩;rw[←hr,yf (by omega) hc2 hc4 hn5 (Nc hc9 ft iR)]
            rfl
 ·refine wp_exit ?_;refine v7 ?_;refine v7 ?_;refine w9 ?_;refine vK ?_;refine wp_seq ?_;refine wp_region_lit ?_;refine ao hF rfl rfl rfl (Bc rfl (hF.eval rfl)) fun a hF=>?_;refine ao hF rfl rfl rfl (Bc rfl (hF.eval rfl)) fun a hF=>?_;refine c8 ?_;refine vK ?_;refine wp_ret ?_;refine Gi hF rfl rfl rfl ?_;have hO:St _ _ _ []:=hO.sL [];refine⟨?_,hO⟩;rw[←hr,zl hc1]
  rfl
section
variable {s:List UInt8} {at_ n:Nat}
theorem NI (hn:0<n):(cQ s at_ n).getD 0 0=s.getD at_ 0:=by
 have:=D2 (s:=s) (at_:=at_) (n:=n) (k:=0) hn
 rwa [Nat.add_zero] at this
theorem El (hn:1≤n):((65:Int)≤(((cQ s at_ n).getD 0 0).toNat:Int)∧(((cQ s at_ n).getD 0 0).toNat:Int)≤90)↔(65≤gt s at_∧gt s at_≤90):=by
 rw[NI hn];exact xv 65 90
theorem Ek (hn:1≤n):(((cQ s at_ n).getD 0 0).toNat:Int)=58↔gt s at_=58:=by
 rw[NI hn];exact pR 58 rfl
theorem z7:((1:Int)< (bq s at_ 2:Nat)∧Lib.trimB (cQ s at_ (bq s at_ 2)) 45=[])↔((cQ s at_ (bq s at_ 2)).all (fun c=>c=45)=true∧2≤bq s at_ 2):=by
 rw[J3];constructor
 ·rintro⟨h,h2⟩;exact⟨h2,by omega⟩
 ·rintro⟨h,h2⟩;exact⟨by omega,h⟩
end
theorem Pb (w0:World)(b:Nat)(s:List UInt8)(at_:Nat)(hs:s.length≤16384)(x1 x2 x3:Value)(hB:Rd w0 [] (Bf b) 4 1 [str (s.drop at_),x1,x2,x3]):bI Tryz.prog 184 #[ptr (aj b),.func (.func 204) #[] #[]] w0 (fun v w'=>v=i64 (bq s at_ 0)∧St w0 [] w' []):=
 DN w0 b 204 (s.drop at_) (by rw[bR];omega) x1 x2 x3 hB (dM 0) Tryz.call204 (fun w c=>Jb w c)
theorem Sq (w0:World)(b:Nat)(s:List UInt8)(at_:Nat)(hs:s.length≤16384)(x1 x2 x3:Value)(hB:Rd w0 [] (Bf b) 4 1 [str (s.drop at_),x1,x2,x3]):bI Tryz.prog 184 #[ptr (aj b),.func (.func 183) #[] #[]] w0 (fun v w'=>v=i64 (bq s at_ 1)∧St w0 [] w' []):=
 DN w0 b 183 (s.drop at_) (by rw[bR];omega) x1 x2 x3 hB (dM 1) Tryz.call183 (fun w c=>by rw[AT rfl];exact qj w c)
theorem SJ (w0:World)(b:Nat)(s:List UInt8)(at_:Nat)(hs:s.length≤16384)(x1 x2 x3:Value)(hB:Rd w0 [] (Bf b) 4 1 [str (s.drop at_),x1,x2,x3]):bI Tryz.prog 184 #[ptr (aj b),.func (.func 186) #[] #[]] w0 (fun v w'=>v=i64 (bq s at_ 2)∧St w0 [] w' []):=
 DN w0 b 186 (s.drop at_) (by rw[bR];omega) x1 x2 x3 hB (dM 2) Tryz.call186 (fun w c=>by rw[J9 rfl];exact Dl w c)
theorem Qn (w0:World)(b:Nat)(s:List UInt8)(at_:Nat)(hs:s.length≤16384)(x1 x2 x3:Value)(hB:Rd w0 [] (Bf b) 4 1 [str (s.drop at_),x1,x2,x3]):bI Tryz.prog 184 #[ptr (aj b),.func (.func 209) #[] #[]] w0 (fun v w'=>v=i64 (bq s at_ 3)∧St w0 [] w' []):=
 DN w0 b 209 (s.drop at_) (by rw[bR];omega) x1 x2 x3 hB (dM 3) Tryz.call209 (fun w c=>GO w c)
set_option maxHeartbeats 1000000 in
theorem Po (w0:World)(bs:Nat)(s:List UInt8)(at_:Nat)(vo:Value)(out:List Tok)(hs:s.length≤16384)(hol:out.length≤at_)(hA:bx w0 [.ob bs 143 (vG s (at_) vo),aT vo 44 aK out])(h1:at_<s.length)(h6:H6 s at_):bI Tryz.prog 182 #[ptr (aj bs)] w0 (fun v w'=>∃vo2,v=i64 0∧St w0 (ak [.ob bs 143 (vG s (at_) vo),aT vo 44 aK out]) w' [.ob bs 143 (vG s (at_+bq s at_ 0) vo2),aT vo2 44 aK (out++[⟨(if pH.contains (cQ s at_ (bq s at_ 0)) then 7 else if (cQ s at_ (bq s at_ 0))=[95] then 8 else if 65≤gt s at_∧gt s at_≤90 then 2 else 1:Int),(cQ s at_ (bq s at_ 0)),0,(cF s at_).1,(cF s at_).2⟩])]):=by
 have hO:=St.init hA;have hb:=kX s at_;have hrl:=fB s at_ 0;have hr0:=zQ h1 h6;refine cw Tryz.func182 Tryz.ntmps182 fun a hF=>?_;refine Zc 2 (Pb _ _ _ _ hs _ _ _ (hO.Kf 0 rfl)) ?_;rintro a _ w ⟨rfl,hS⟩ hF;have hO:=hO.k0 hS;refine Zv 6 fun a hF=>?_;refine ao hF rfl rfl rfl (oN (j:=(bq s at_ 0)) Tryz.underlying9 rfl (hF.eval rfl) (hF.eval rfl) (by rw[bR];omega)) fun a hF=>?_;rw[lK] at hF;refine Zn 2 fun a hF=>?_;refine c8 ?_;refine vK ?_;refine j3 (fun (kd:Int) a w'=>(kd=(if pH.contains (cQ s at_ (bq s at_ 0)) then 7 else if (cQ s at_ (bq s at_ 0))=[95] then 8 else if 65≤gt s at_∧gt s at_≤90 then 2 else 1:Int))∧St w0 (ak [.ob bs 143 (vG s (at_) vo),aT vo 44 aK out]) w' [.ob bs 143 (vG s (at_) vo),aT vo 44 aK out]∧Fr a 34 [(0,ptr (aj bs)),(3,i64 (bq s at_ 0)),(4,str (cQ s at_ (bq s at_ 0))),(5,i64 kd)]) ?_ ?_
 ·refine Zc 1 (M6 _ _) ?_;rintro a _ w ⟨rfl,hS⟩ hF;have hO:=hO.k0 hS;refine Zj 1 (fun a hF hc1=>?_) fun a hF hc1=>?_
  ·refine Zv 1 fun a hF=>?_;exact⟨7,⟨(if_pos hc1).symm,hO,hF.sub ⟨rfl,rfl,rfl,rfl,trivial⟩⟩⟩
  ·refine Zi 3 (fun a hF hc2=>?_) fun a hF hc2=>?_
   ·refine Zv 1 fun a hF=>?_;exact⟨8,⟨by rw[if_neg hc1,if_pos hc2],hO,hF.sub ⟨rfl,rfl,rfl,rfl,trivial⟩⟩⟩
   ·refine Zv 1 fun a hF=>?_;refine ao hF rfl rfl rfl (cA (m:=0) Tryz.underlying9 rfl (hF.eval rfl) (hF.eval rfl) (by rw[iN (by omega)];omega)) fun a hF=>?_;refine Zw 3 fun a hF=>?_;refine cL hF rfl rfl rfl rfl rfl rfl (fun hg=>cA (m:=0) Tryz.underlying9 rfl ((hF.eval rfl).trans (an hg)) (hF.eval rfl) (by rw[iN (by omega)];omega)) fun a hF=>?_;refine Zw 3 fun a hF=>?_;refine Zi 0 (fun hc3=>?_) fun hc3=>?_
    ·refine Zv 1 fun a hF=>?_;exact⟨2,⟨by rw[if_neg hc1,if_neg hc2,if_pos ((El hr0).1 hc3)],hO,hF.sub ⟨rfl,rfl,rfl,rfl,trivial⟩⟩⟩
    ·refine Zv 0 ?_;exact⟨1,⟨by rw[if_neg hc1,if_neg hc2,if_neg (fun h=>hc3 ((El hr0).2 h))],hO,hF.sub ⟨rfl,rfl,rfl,rfl,trivial⟩⟩⟩
 ·rintro kd a w ⟨rfl,hO,hF⟩;refine Zc 4 (oY _ _ _ _ _ _ hs (by omega) hO.ba _ _ _ ((bq s at_ 0)) (by omega)) ?_;rintro a _ w ⟨vo2,rfl,hS⟩ hF;have hO:=hO.k2 hS;refine Zr 1 ?_;exact⟨_,rfl,hO⟩
set_option maxHeartbeats 1000000 in
theorem TP (w0:World)(bs:Nat)(s:List UInt8)(at_:Nat)(vo:Value)(out:List Tok)(hs:s.length≤16384)(hol:out.length≤at_)(hA:bx w0 [.ob bs 143 (vG s (at_) vo),aT vo 44 aK out])(h1:at_<s.length)(h13:im (s.getD at_ 0)=true):bI Tryz.prog 187 #[ptr (aj bs)] w0 (fun v w'=>∃vo2,v=i64 0∧((((cQ s at_ (bq s at_ 2)).all (fun c=>c=45)=true∧2≤bq s at_ 2)∧St w0 (ak [.ob bs 143 (vG s (at_) vo),aT vo 44 aK out]) w' [.ob bs 143 (vG s (at_+bq s at_ 3) vo2),aT vo2 44 aK out])∨(¬((cQ s at_ (bq s at_ 2)).all (fun c=>c=45)=true∧2≤bq s at_ 2)∧St w0 (ak [.ob bs 143 (vG s (at_) vo),aT vo 44 aK out]) w' [.ob bs 143 (vG s (at_+bq s at_ 2) vo2),aT vo2 44 aK (out++[⟨(if pQ.contains (cQ s at_ (bq s at_ 2)) then 8 else if gt s at_=58 then 4 else 3:Int),(cQ s at_ (bq s at_ 2)),0,(cF s at_).1,(cF s at_).2⟩])]))):=by
 have hO:=St.init hA;have hb:=kX s at_;have hrl:=fB s at_ 2;have aa6:=fB s at_ 3;have hr0:=Bo h1 h13;refine cw Tryz.func187 Tryz.ntmps187 fun a hF=>?_;refine Zc 2 (SJ _ _ _ _ hs _ _ _ (hO.Kf 0 rfl)) ?_;rintro a _ w ⟨rfl,hS⟩ hF;have hO:=hO.k0 hS;refine Zv 6 fun a hF=>?_;refine ao hF rfl rfl rfl (oN (j:=(bq s at_ 2)) Tryz.underlying9 rfl (hF.eval rfl) (hF.eval rfl) (by rw[bR];omega)) fun a hF=>?_;rw[lK] at hF;refine Zn 2 fun a hF=>?_;refine c8 ?_;refine vK ?_;refine j3 (fun (kd:Int) a w'=>(kd=(if pQ.contains (cQ s at_ (bq s at_ 2)) then 8 else if gt s at_=58 then 4 else 3:Int)∧¬((cQ s at_ (bq s at_ 2)).all (fun c=>c=45)=true∧2≤bq s at_ 2))∧St w0 (ak [.ob bs 143 (vG s (at_) vo),aT vo 44 aK out]) w' [.ob bs 143 (vG s (at_) vo),aT vo 44 aK out]∧Fr a 38 [(0,ptr (aj bs)),(3,i64 (bq s at_ 2)),(4,str (cQ s at_ (bq s at_ 2))),(5,i64 kd)]) ?_ ?_
 ·refine Zw 4 fun a hF=>?_;refine eg hO hF rfl rfl rfl rfl rfl rfl (fun hg=>du hF rfl rfl (kD trivial) Tryz.call208 (SO _ _ (by rw[iN (by omega)];omega))) fun a w hO hF=>?_;refine Zw 3 fun a hF=>?_;refine Zi 0 (fun hc1=>?_) fun hc1=>?_
  ·have hda:=(z7 (s:=s) (at_:=at_)).1 hc1;refine Zc 2 (Qn _ _ _ _ hs _ _ _ (hO.Kf 0 rfl)) ?_;rintro a _ w ⟨rfl,hS⟩ hF;have hO:=hO.k0 hS;refine Zc 0 (yR _ _ _ _ _ hs hO.ai ((bq s at_ 3)) (by omega)) ?_;rintro a _ w ⟨-,hS⟩ hF;have hO:=hO.k1 hS;refine Zr 1 ?_;exact⟨_,rfl,.inl ⟨hda,hO⟩⟩
  ·have hda:=fun h=>hc1 ((z7 (s:=s) (at_:=at_)).2 h);refine Zc 1 (M5 _ _) ?_;rintro a _ w ⟨rfl,hS⟩ hF;have hO:=hO.k0 hS;refine Zj 1 (fun a hF hc2=>?_) fun a hF hc2=>?_
   ·refine Zv 1 fun a hF=>?_;exact⟨8,⟨⟨(if_pos hc2).symm,hda⟩,hO,hF.sub ⟨rfl,rfl,rfl,rfl,trivial⟩⟩⟩
   ·refine Zv 1 fun a hF=>?_;refine ao hF rfl rfl rfl (cA (m:=0) Tryz.underlying9 rfl (hF.eval rfl) (hF.eval rfl) (by rw[iN (by omega)];omega)) fun a hF=>?_;refine Zi 2 (fun a hF hc3=>?_) fun a hF hc3=>?_
    ·refine Zv 1 fun a hF=>?_;exact⟨4,⟨⟨by rw[if_neg hc2,if_pos ((Ek hr0).1 hc3)],hda⟩,hO,hF.sub ⟨rfl,rfl,rfl,rfl,trivial⟩⟩⟩
    ·refine Zv 0 ?_;exact⟨3,⟨⟨by rw[if_neg hc2,if_neg (fun h=>hc3 ((Ek hr0).2 h))],hda⟩,hO,hF.sub ⟨rfl,rfl,rfl,rfl,trivial⟩⟩⟩
 ·rintro kd a w ⟨⟨rfl,hda⟩,hO,hF⟩;refine Zc 4 (oY _ _ _ _ _ _ hs (by omega) hO.ba _ _ _ ((bq s at_ 2)) (by omega)) ?_;rintro a _ w ⟨vo2,rfl,hS⟩ hF;have hO:=hO.k2 hS;refine Zr 1 ?_;exact⟨_,rfl,.inr ⟨hda,hO⟩⟩
def qS (s:List UInt8)(at_:Nat)(out:List Tok)(e:Int)(n2:Nat)(jE:List Tok):Prop:=
 (match eP s at_ with
   | .skip n=>e=0∧n2=n∧jE=out
   | .tok k t v n=>e=0∧n2=n∧jE=out++[⟨k,t,v,(cF s at_).1,(cF s at_).2⟩]
   | .bad x=>e=x∧e≠0∧n2=0∧jE=out)∧at_+n2≤s.length∧(e=0→1≤n2)∧jE.length≤at_+n2
section
variable {s:List UInt8} {at_ n:Nat} {out:List Tok}
theorem rR (h:eP s at_=.skip n)(h1:1≤n)(h2:at_+n≤s.length)(h3:out.length≤at_):qS s at_ out 0 n out:=by
 unfold qS;rw[h];exact⟨⟨rfl,rfl,rfl⟩,h2,fun _=>h1,by omega⟩
theorem oE {k v:Int}{t:List UInt8}(h:eP s at_=.tok k t v n)(h1:1≤n)(h2:at_+n≤s.length)(h3:out.length≤at_):qS s at_ out 0 n (out++[⟨k,t,v,(cF s at_).1,(cF s at_).2⟩]):=by
 unfold qS;rw[h];exact⟨⟨rfl,rfl,rfl⟩,h2,fun _=>h1,by rw[List.length_append,List.length_singleton];omega⟩
theorem qd {e:Int}(h:eP s at_=.bad e)(h1:e≠0)(h2:at_≤s.length)(h3:out.length≤at_):qS s at_ out e 0 out:=by
 unfold qS;rw[h];exact⟨⟨rfl,h1,rfl,rfl⟩,h2,fun h=>absurd h h1,h3⟩
theorem MD {g n2:Nat}{jE:List Tok}(h1:at_<s.length)(h:qS s at_ out 0 n2 jE):ck s (g+1) at_ out=ck s g (at_+n2) jE∧at_+n2≤s.length∧jE.length≤at_+n2∧1≤n2:=by
 obtain⟨h2,h3,h4,h5⟩:=h;refine⟨?_,h3,h5,h4 rfl⟩;rw[ck,if_pos h1]
 cases hl:eP s at_ with
 |skip n=>rw[hl] at h2;obtain⟨_,rfl,rfl⟩:=h2;rfl
 |tok k t v n=>rw[hl] at h2;obtain⟨_,rfl,rfl⟩:=h2;rfl
 |bad x=>rw[hl] at h2;exact absurd rfl h2.2.1
theorem MJ {e:Int}{n2:Nat}{jE:List Tok}(h:qS s at_ out e n2 jE)(he:¬e=0):eP s at_=.bad e∧n2=0∧jE=out:=by
 obtain⟨h2,h3,h4,h5⟩:=h
 cases hl:eP s at_ with
 |skip n=>rw[hl] at h2;exact absurd h2.1 he
 |tok k t v n=>rw[hl] at h2;exact absurd h2.1 he
 |bad x=>rw[hl] at h2;obtain⟨rfl,_,rfl,rfl⟩:=h2;exact⟨rfl,rfl,rfl⟩
theorem CO:((2≤(s.drop at_).length)∧(s.drop at_).take 2=[123,45])↔H4 s at_:=by
 rw[i4];have e:(s.drop at_).take 2=(s.take (at_+2)).drop at_:=by rw[List.drop_take,Nat.add_sub_cancel_left]
 rw[e,bR];constructor
 ·rintro⟨h,h2⟩;have h3:=(rZ (s:=s) (i:=at_) (by omega) 123 45).1 h2;exact⟨h3.1,by omega,h3.2⟩
 ·rintro⟨h,h2,h3⟩;exact⟨by omega,(rZ h2 123 45).2 ⟨h,h3⟩⟩
theorem ui {b:UInt8}:(0:Int)≤Lib.indexByte fK b↔fK.contains b=true:=by
 have:=ED b;rw[←this,decide_eq_true_iff]
theorem Tt (h:1≤n)(h2:at_+n≤s.length):cQ s at_ n≠[]:=fun e=>by
 have:=iN h2;rw[e] at this;simp at this;omega
theorem Me:∀c∈cQ s at_ (bq s at_ 1),aY c=true:=by
 have e:cQ s at_ (bq s at_ 1)=(s.drop at_).takeWhile aY:=by
  have h:∀l:List UInt8,l.take (l.takeWhile aY).length=l.takeWhile aY:=by
   intro l
   induction l with
   |nil=>rfl
   |cons c r ih=>
    rw[List.takeWhile_cons]
    split
    ·rw[List.length_cons,List.take_succ_cons,ih]
    ·rfl
  rw[←lK];have h2:bq s at_ 1=((s.drop at_).takeWhile aY).length:=by
   unfold bq;rw[show dM 1=aY from funext fun c=>AT rfl]
  rw[h2,h]
 rw[e];exact fun c hc=>Jp c hc
theorem Ss {l:List UInt8}{nv:Int}{er:Option (TypeId×Value)}(h:(∃k:Nat,kh l 0=some k∧nv=k∧er=none)∨(kh l 0=none∧er.isSome=true))(he:er.isSome=true):kh l 0=none:=by
 rcases h with ⟨_,_,_,rfl⟩|h
 ·cases he
 ·exact h.1
theorem ND {l:List UInt8}{nv:Int}{er:Option (TypeId×Value)}(h:(∃k:Nat,kh l 0=some k∧nv=k∧er=none)∨(kh l 0=none∧er.isSome=true))(he:¬er.isSome=true):∃k:Nat,kh l 0=some k∧nv=k:=by
 rcases h with ⟨k,h1,h2,_⟩|h
 ·exact⟨k,h1,h2⟩
 ·exact absurd h.2 he
theorem nD (s:List UInt8)(i:Nat):∀(f:Nat) (out:List UInt8) (j:Nat),gB (s.drop i) f out j=(gB s f out (i+j)).map fun p=>(p.1,p.2 - i)
 |0,_,_=>rfl
 |f+1,out,j=>by
  have e1:gt (s.drop i) j=gt s (i+j):=eL s i j;have e2:gt (s.drop i) (j+1)=gt s (i+j+1):=eL s i (j+1);unfold gB;rw[e1,e2,nD s i f _ (j+1),nD s i f _ (j+2)]
  by_cases h1:i+j<s.length
  ·rw[if_pos (show j< (s.drop i).length by rw[bR];omega),if_pos h1]
   split
   ·simp only[Option.map_some];congr 2;omega
   ·split
    ·split
     ·rfl
     ·rfl
    ·by_cases h2:i+j+1<s.length∧aY (gt s (i+j+1))=true
     ·rw[if_pos (show j+1< (s.drop i).length∧_ from⟨by rw[bR];omega,h2.2⟩),if_pos h2];have hd:=BM s i (j+1) 0 (by omega);rw[hd];have hle:=yv (s:=s) s.length 0 (i+(j+1)) (by omega);show (if 255< (jU s s.length 0 (i+(j+1))).1 then none else gB (s.drop i) f _ ((jU s s.length 0 (i+(j+1))).2 - i))=Option.map _ (if 255< (jU s s.length 0 (i+j+1)).1 then none else _);rw[nD s i f,show i+((jU s s.length 0 (i+(j+1))).2 - i)=(jU s s.length 0 (i+(j+1))).2 by omega];show (if 255< (jU s s.length 0 (i+j+1)).1 then none else _)=_
      split
      ·rfl
      ·rfl
     ·rw[if_neg (show ¬(j+1< (s.drop i).length∧_) from fun h=>h2 ⟨by have:=h.1;rw[bR] at this;omega,h.2⟩),if_neg h2]
      by_cases h3:s.length≤i+j+1∨sP.contains (gt s (i+j+1))=false
      ·rw[if_pos (show (s.drop i).length≤j+1∨_ from h3.imp (fun h=>by rw[bR];omega) id),if_pos h3];rfl
      ·rw[if_neg (show ¬((s.drop i).length≤j+1∨_) from fun h=>h3 (h.imp (fun h=>by rw[bR] at h;omega) id)),if_neg h3];rfl
  ·rw[if_neg (show ¬j< (s.drop i).length by rw[bR];omega),if_neg h1];rfl
theorem BP (s:List UInt8)(i:Nat):gB (s.drop i) (s.length+1) [] 1=jx s i:=nD s i _ _ _
end
theorem Fi (w0:World)(s:List UInt8)(at_:Nat)(hs:s.length≤16384):bI Tryz.prog 180 #[str (s.drop at_)] w0 (fun v w'=>∃n:Int,v=i64 n∧Mc s at_ n∧St w0 [] w' []):=
 (It w0 (s.drop at_) (by rw[bR];omega) (s.length+1) (by rw[bR];omega)).mono fun v w' ⟨hv,hS⟩=>by
  rw[yJ] at hv
  cases h:fA s at_ with
  |none=>rw[h] at hv;exact⟨_,hv,.inl ⟨h,rfl⟩,hS⟩
  |some k=>rw[h] at hv;exact⟨_,hv,.inr ⟨k,h,rfl⟩,hS⟩
theorem Ng (w0:World)(s:List UInt8)(at_:Nat)(hs:s.length≤16384)(h1:at_<s.length)(hG:gq w0 []):bI Tryz.prog 189 #[str (s.drop at_)] w0 (fun v w'=>∃t,∃n:Int,v=.tuple #[str t,i64 n]∧DL s at_ t n∧St w0 [] w' []):=
 (OY w0 (s.drop at_) (by rw[bR];omega) (by rw[bR];omega) (s.length+1) (by rw[bR];omega) hG).mono fun v w' ⟨hv,hS⟩=>by
  rw[BP] at hv
  cases h:jx s at_ with
  |none=>rw[h] at hv;exact⟨_,_,hv,.inl ⟨h,rfl⟩,hS⟩
  |some p=>rw[h] at hv;exact⟨_,_,hv,.inr ⟨p.2,h,rfl⟩,hS⟩
theorem QB (w0:World)(bs:Nat)(s:List UInt8)(at_:Nat)(vo:Value)(out:List Tok)(hs:s.length≤16384)(hol:out.length≤at_)(hA:bx w0 [.ob bs 143 (vG s (at_) vo),aT vo 44 aK out])(h1:at_<s.length)(hG:gq w0 (ak [.ob bs 143 (vG s (at_) vo),aT vo 44 aK out])):bI Tryz.prog 149 #[ptr (aj bs)] w0 (fun v w'=>∃vo2 e n2 jE,v=i64 e∧qS s at_ out (e) (n2) (jE)∧St w0 (ak [.ob bs 143 (vG s (at_) vo),aT vo 44 aK out]) w' [.ob bs 143 (vG s (at_+n2) vo2),aT vo2 44 aK jE]):=by
 have hO:=St.init hA;have hb:=kX s at_;have af6:=fB s at_ 1;have ai0:=hol;refine cw Tryz.func149 Tryz.ntmps149 fun a hF=>?_;refine Zv 5 fun a hF=>?_;refine ao hF rfl rfl rfl (cA (m:=0) Tryz.underlying9 rfl (hF.eval rfl) (hF.eval rfl) (by rw[bR];omega)) fun a hF=>?_;rw[show (s.drop at_).getD 0 0=s.getD at_ 0 from eL s at_ 0] at hF;refine Zw 8 fun a hF=>?_;refine Zi 0 (fun hc1=>?_) fun hc1=>?_
 ·refine Zc 1 (yR _ _ _ _ _ hs hO.ai (1) (by omega)) ?_;rintro a _ w ⟨-,hS⟩ hF;have hO:=hO.k1 hS;refine Zr 1 ?_;exact⟨_,0,1,out,rfl,rR (wz hc1) (by omega) (by omega) (by omega),hO⟩
 ·refine Zv 4 fun a hF=>?_;refine fN hF rfl rfl rfl (a6 hF rfl rfl Tryz.call179 (Uk _ _ _ (by rw[bR];omega) (by decide))) ?_;rintro a _ w ⟨rfl,hS⟩ hF;have hO:=hO.k0 hS;refine Zj 1 (fun a hF hc2=>?_) fun a hF hc2=>?_
  ·have h4:=CO.1 (of_decide_eq_true hc2);refine Zc 4 (Fi _ _ _ hs) ?_;rintro a _ w ⟨rn,rfl,hrm,hS⟩ hF;have hO:=hO.k0 hS;refine Zi 3 (fun a hF hc3=>?_) fun a hF hc3=>?_
   ·refine Zr 1 ?_;exact⟨_,14,0,out,rfl,qd (by rw[tQ hc1 h4,NX hrm hc3]) (by decide) (by omega) (by omega),hO⟩
   ·obtain⟨k,hkm,rfl⟩:=NP s at_ hrm hc3;have hk1:=yT hkm;refine Zc 2 (yR _ _ _ _ _ hs hO.ai (k) (by omega)) ?_;rintro a _ w ⟨-,hS⟩ hF;have hO:=hO.k1 hS;refine Zr 1 ?_;exact⟨_,0,k,out,rfl,rR (by rw[tQ hc1 h4,hkm]) (by omega) (by omega) (by omega),hO⟩
  ·have h4:=fun h=>hc2 (decide_eq_true (CO.2 h));refine Zc 1 (w8 _ _) ?_;rintro a _ w ⟨rfl,hS⟩ hF;have hO:=hO.k0 hS;refine Zw 3 fun a hF=>?_;refine ao hF rfl rfl rfl (uC rfl (hF.eval rfl) (bh _) (fun hg2=>((hF.eval rfl).trans (an hg2))) rfl) fun a hF=>?_;refine Zi 1 (fun a hF hc4=>?_) fun a hF hc4=>?_
   ·refine Zc 1 (Po _ _ _ _ _ _ hs (by omega) hO.ba h1 hc4) ?_;rintro a _ w ⟨vo2,rfl,hS⟩ hF;have hO:=hO.k2 hS;refine Zr 1 ?_;exact⟨_,0,(bq s at_ 0),_,rfl,oE (n_ hc1 h4 hc4 rfl) (zQ h1 hc4) (by have:=fB s at_ 0;omega) (by omega),hO⟩
   ·refine Zc 1 (qj _ _) ?_;rintro a _ w ⟨rfl,hS⟩ hF;have hO:=hO.k0 hS;refine Zj 1 (fun a hF hc5=>?_) fun a hF hc5=>?_
    ·have hr1:=QK h1 hc5;refine Zc 1 (Sq _ _ _ _ hs _ _ _ (hO.Kf 0 rfl)) ?_;rintro a _ w ⟨rfl,hS⟩ hF;have hO:=hO.k0 hS;refine Zv 6 fun a hF=>?_;refine ao hF rfl rfl rfl (oN (j:=(bq s at_ 1)) Tryz.underlying9 rfl (hF.eval rfl) (hF.eval rfl) (by rw[bR];omega)) fun a hF=>?_;rw[lK] at hF;refine Zc 0 (BT _ _ (by rw[iN (by omega)];omega) (Tt hr1 (by omega)) Me (hG.cH hO)) ?_;rintro a _ w ⟨nv,er,rfl,hnum,hS⟩ hF;have hO:=hO.k0 hS;refine Zv 6 fun a hF=>?_;refine ao hF rfl rfl rfl (Eb Tryz.underlying158 rfl (hF.eval rfl)) fun a hF=>?_;refine Zj 0 (fun hc6=>?_) fun hc6=>?_
     ·refine Zr 1 ?_;exact⟨_,12,0,out,rfl,qd (by rw[tD hc1 h4 hc4 hc5,Ss hnum hc6]) (by decide) (by omega) (by omega),hO⟩
     ·refine Zv 6 fun a hF=>?_;refine ao hF rfl rfl rfl (oN (j:=(bq s at_ 1)) Tryz.underlying9 rfl (hF.eval rfl) (hF.eval rfl) (by rw[bR];omega)) fun a hF=>?_;rw[lK] at hF;refine Zc 2 (oY _ _ _ _ _ _ hs (by omega) hO.ba _ _ _ ((bq s at_ 1)) (by omega)) ?_;rintro a _ w ⟨vo2,rfl,hS⟩ hF;have hO:=hO.k2 hS;refine Zr 1 ?_;obtain⟨kn,hkn,rfl⟩:=ND hnum hc6;exact⟨_,0,(bq s at_ 1),_,rfl,oE (by rw[tD hc1 h4 hc4 hc5,hkn]) hr1 (by omega) (by omega),hO⟩
    ·refine Zc 1 (Dl _ _) ?_;rintro a _ w ⟨rfl,hS⟩ hF;have hO:=hO.k0 hS;refine Zj 1 (fun a hF hc7=>?_) fun a hF hc7=>?_
     ·refine Zc 1 (TP _ _ _ _ _ _ hs (by omega) hO.ba h1 hc7) ?_;rintro a _ w ⟨vo2,rfl,hop⟩ hF;refine Zr 1 ?_;rcases hop with ⟨hda,hS⟩| ⟨hda,hS⟩
      ·exact⟨_,0,(bq s at_ 3),out,rfl,rR (zW hc1 h4 hc4 hc5 hc7 hda) (SY h1 hc7) (by have:=fB s at_ 3;omega) (by omega),hO.call2 hS⟩
      ·exact⟨_,0,(bq s at_ 2),_,rfl,oE (q6 hc1 h4 hc4 hc5 hc7 hda rfl) (Bo h1 hc7) (by have:=fB s at_ 2;omega) (by omega),hO.call2 hS⟩
     ·refine Zc 1 (Dy _ _ _) ?_;rintro a _ w ⟨rfl,hS⟩ hF;have hO:=hO.k0 hS;refine Zi 2 (fun a hF hc8=>?_) fun a hF hc8=>?_
      ·have h18:=(ui (b:=s.getD at_ 0)).1 hc8;refine Zv 5 fun a hF=>?_;refine ao hF rfl rfl rfl (oN (j:=1) Tryz.underlying9 rfl (hF.eval rfl) (hF.eval rfl) (by rw[bR];omega)) fun a hF=>?_;rw[lK] at hF;refine Zc 0 (oY _ _ _ _ _ _ hs (by omega) hO.ba _ _ _ (1) (by omega)) ?_;rintro a _ w ⟨vo2,rfl,hS⟩ hF;have hO:=hO.k2 hS;refine Zr 1 ?_;exact⟨_,0,1,_,rfl,oE (vq hc1 h4 hc4 hc5 hc7 h18) (by omega) (by omega) (by omega),hO⟩
      ·have h18:=fun h=>hc8 ((ui (b:=s.getD at_ 0)).2 h);refine Zi 3 (fun a hF hc9=>?_) fun a hF hc9=>?_
       ·refine Zc 4 (Ng _ _ _ hs h1 (hG.cH hO)) ?_;rintro a _ w ⟨tt,tn,rfl,htx,hS⟩ hF;have hO:=hO.k0 hS;refine Zi 7 (fun a hF ft=>?_) fun a hF ft=>?_
        ·refine Zr 1 ?_;exact⟨_,13,0,out,rfl,qd (by rw[qA hc1 h4 hc4 hc5 hc7 h18 hc9,WQ htx ft]) (by decide) (by omega) (by omega),hO⟩
        ·obtain⟨k,hkm,rfl⟩:=Ob s at_ htx ft;have hk1:=xK hkm;refine Zc 3 (oY _ _ _ _ _ _ hs (by omega) hO.ba _ _ _ (k) (by omega)) ?_;rintro a _ w ⟨vo2,rfl,hS⟩ hF;have hO:=hO.k2 hS;refine Zr 1 ?_;exact⟨_,0,k,_,rfl,oE (by rw[qA hc1 h4 hc4 hc5 hc7 h18 hc9,hkm]) (by omega) (by omega) (by omega),hO⟩
       ·refine Zr 1 ?_;exact⟨_,11,0,out,rfl,qd (y_ hc1 h4 hc4 hc5 hc7 h18 hc9) (by decide) (by omega) (by omega),hO⟩
theorem Md {s:List UInt8}{at_:Nat}(h:¬s.drop at_=[]):at_<s.length:=by
 apply Classical.byContradiction;intro h2;exact h (List.drop_of_length_le (by omega))
theorem NA {s:List UInt8}{at_:Nat}(hal:at_≤s.length)(h:¬¬s.drop at_=[]):at_=s.length:=by
 have h:=Classical.not_not.1 h;have:=congrArg List.length h;rw[bR,List.length_nil] at this;omega
theorem L7 (w0:World)(s:List UInt8)(hG:gq w0 []):bI Tryz.prog 112 #[str s] w0 (fun v w'=>∃va l d,eS s=(l,d)∧v=.tuple #[va,.agg (aJ d).toArray]∧St w0 [] w' [aT va 44 aK l]):=by
 have hO:=St.aX w0;refine cw Tryz.func112 Tryz.ntmps112 fun a hF=>?_;refine Zb 5 fun dg a w hO hF=>?_;refine Zi 0 (fun hc1=>?_) fun hc1=>?_
 ·refine Zs 3 fun a w hO hF=>?_;refine jz ?_;refine rW hF rfl rfl rfl Tryz.isAgg31 Tryz.sizeOf31 (hO.cells 0 rfl) rfl ?_;exact⟨_,[],_,by rw[eS,if_pos (by omega)],rfl,by exact ((hO.bV 44 5).only)⟩
 ·have hs:s.length≤16384:=by omega
  refine Zb 3 fun sc a w hO hF=>?_;have hO:=hO.bV 44 5;have hO:=hO.pull 1 rfl;refine Zv 1 fun a hF=>?_;have hO:=hO.nm;refine ax (fun (x:Nat×Nat×List Tok×Value) a w'=>match x with| (f,at_,out,vo)=>(ck s f at_ out=ck s (s.length+1) 0 []∧at_≤s.length∧s.length<at_+f∧out.length≤at_)∧St w0 [] w' [.ob sc 143 (vG s (at_) vo),aT vo 44 aK out,.ob dg 31 [str [],i64 0,i64 0,i64 0]]∧Fr a 39 [(0,str s),(3,ptr (aj dg)),(4,ptr (aj sc))]) (fun (x:Nat×Nat×List Tok×Value)=>match x with| (f,at_,out,vo)=>f) (s.length+1,0,[],_) ⟨⟨rfl,by omega,by omega,by simp⟩,hO,hF.sub ⟨rfl,rfl,rfl,trivial⟩⟩ ?_;rintro⟨f,at_,out,vo⟩ a w ⟨⟨hr,hal,hf,hol⟩,hO,hF⟩;refine Zi 5 (fun a hF hc2=>?_) fun a hF hc2=>?_
  ·have h1:=Md hc2;refine Zc 1 (QB _ _ _ _ _ _ hs hol hO.ba (by omega) (hG.nQ hO)) ?_;rintro a _ w ⟨vo2,e,n2,jE,rfl,hnx,hS⟩ hF;have hO:=hO.k2 hS;refine Zi 3 (fun a hF hc3=>?_) fun a hF hc3=>?_
   ·refine Zd 0 [0,0,0,1,0,0,0,1,0,0,0,3] fun w hO=>?_;refine Zs 12 fun a w hO hF=>?_;refine ke ?_;refine jz ?_;refine ke ?_;refine jz ?_;refine rW hF rfl rfl rfl Tryz.isAgg31 Tryz.sizeOf31 (hO.cells 2 rfl) rfl ?_;obtain⟨g,rfl⟩:∃g,f=g+1:=⟨f - 1,by omega⟩;obtain⟨hlx,hn0,_⟩:=MJ hnx hc3;have hrd:=uW h1 hr hs hlx;rw[←show at_+n2=at_ by omega] at hrd;exact⟨_,[],_,hrd,rfl,by exact ((hO.bV 44 5).only)⟩
   ·obtain rfl:e=0:=Classical.not_not.1 hc3;obtain⟨g,rfl⟩:∃g,f=g+1:=⟨f - 1,by omega⟩;obtain⟨hq1,hq2,hq3,hq4⟩:=MD h1 hnx;refine Zv 0 ?_;exact⟨(g,at_+n2,jE,vo2),⟨⟨hq1.symm.trans hr,hq2,by omega,hq3⟩,hO,hF.sub ⟨rfl,rfl,rfl,trivial⟩⟩,by dsimp only;omega⟩
  ·have h1:=NA hal hc2;refine Zc 1 (oY _ _ _ _ _ _ hs (by omega) hO.ba _ _ _ (0) (by omega)) ?_;rintro a _ w ⟨vo2,rfl,hS⟩ hF;have hO:=hO.k2 hS;refine Zs 7 fun a w hO hF=>?_;refine rW hF rfl rfl rfl Tryz.isAgg31 Tryz.sizeOf31 (hO.cells 2 rfl) rfl ?_;have hO:=hO.pull 1 rfl;exact⟨_,_,_,Iu (by omega) hf hal hr hs,rfl,hO.only⟩
theorem LG (s:List UInt8)(i k:Nat):gt (s.drop i) k=gt s (i+k):=eL s i k
theorem IT {l r:List UInt8}{i:Nat}(h:i<l.length):gt (l++r) i=gt l i:=by
 unfold gt;rw[List.getD_eq_getElem?_getD,List.getD_eq_getElem?_getD,List.getElem?_append_left h]
theorem aaL (l b:List UInt8):gt (l++10::b) l.length=10:=by
 unfold gt;rw[List.getD_eq_getElem?_getD,List.getElem?_append_right (Nat.le_refl _)];simp
theorem aaa (l:List UInt8):∀(f g:Nat) (d:Int) (i:Nat),jP l 0 f d i=none→l.length<i+f→jP (l++[10]) 0 g d i=none
 |_,0,_,_,_,_=>rfl
 |0,g+1,d,i,h,hf=>by
  unfold jP;rw[if_neg (by rw[List.length_append,List.length_singleton];omega)]
 |f+1,g+1,d,i,h,hf=>by
  unfold jP at h ⊢
  by_cases h1:i+1<l.length
  ·rw[if_pos h1] at h;rw[if_pos (show i+1< (l++([10]:List UInt8)).length by rw[List.length_append];omega),IT (by omega),IT (by omega)]
   by_cases h2:gt l i=123∧gt l (i+1)=45
   ·rw[if_pos h2] at h ⊢;exact aaa l f g _ _ h (by omega)
   ·rw[if_neg h2] at h ⊢
    by_cases h3:gt l i=45∧gt l (i+1)=125
    ·rw[if_pos h3] at h ⊢
     by_cases h4:d - 1=0
     ·rw[if_pos h4] at h;cases h
     ·rw[if_neg h4] at h ⊢;exact aaa l f g _ _ h (by omega)
    ·rw[if_neg h3] at h ⊢;exact aaa l f g _ _ h (by omega)
  ·by_cases h5:i+1< (l++[10]).length
   ·have e:i+1=l.length:=by rw[List.length_append,List.length_singleton] at h5;omega
    have e2:gt (l++[10]) (i+1)=10:=by rw[e];exact aaL l []
    rw[if_pos h5,e2,if_neg (fun h=>by cases h.2),if_neg (fun h=>by cases h.2)];have:∀g,jP (l++[10]) 0 g d (i+1)=none:=by
     intro g
     cases g with
     |zero=>rfl
     |succ g=>unfold jP;rw[if_neg (by rw[List.length_append,List.length_singleton];omega)]
    exact this g
   ·rw[if_neg h5]
theorem TQ {l:List UInt8}(h:l≠[])(hb:eP l 0=.bad 14):eP (l++[10]) 0=.bad 14:=by
 have h0:0<l.length:=List.length_pos_iff.2 h;unfold eP at hb ⊢;dsimp only at hb ⊢;rw[IT h0]
 by_cases b1:gt l 0=32∨gt l 0=10
 ·rw[if_pos b1] at hb;cases hb
 rw[if_neg b1] at hb ⊢
 by_cases b2:gt l 0=123∧0+1<l.length∧gt l (0+1)=45
 ·rw[if_pos b2] at hb;rw[if_pos (⟨b2.1,by rw[List.length_append];omega,by rw[IT b2.2.1];exact b2.2.2⟩:gt l 0=123∧0+1< (l++([10]:List UInt8)).length∧gt (l++([10]:List UInt8)) (0+1)=45)]
  cases hk:fA l 0 with
  |some k=>rw[hk] at hb;cases hb
  |none=>
   have:fA (l++[10]) 0=none:=aaa l _ _ _ _ hk (by omega);rw[this]
 ·rw[if_neg b2] at hb;exfalso
  split at hb
  ·cases hb
  ·split at hb
   ·split at hb<;>cases hb
   ·split at hb
    ·split at hb<;>cases hb
    ·split at hb
     ·cases hb
     ·split at hb
      ·split at hb<;>cases hb
      ·cases hb
def Uf (s:List UInt8)(i:Nat):aag→Prop
 | .skip n=>1≤n∧i+n≤s.length
 | .tok k t _ n=>1≤n∧i+n≤s.length∧k≠9∧(k≠6→t=cQ s i n)∧(k=6→gt s i=34)
 | .bad e=>11≤e∧e≤14
theorem nw {s:List UInt8}{i:Nat}(h:i<s.length):Uf s i (eP s i):=by
 unfold eP;dsimp only
 by_cases b1:gt s i=32∨gt s i=10
 ·rw[if_pos b1];exact⟨Nat.le_refl _,h⟩
 rw[if_neg b1]
 by_cases b2:gt s i=123∧i+1<s.length∧gt s (i+1)=45
 ·rw[if_pos b2]
  cases hk:fA s i with
  |none=>exact⟨by omega,by omega⟩
  |some k=>have:=yT hk;exact⟨by omega,this.1⟩
 rw[if_neg b2]
 by_cases b3:jw (gt s i)=true∨gt s i=95
 ·rw[if_pos b3];have h1:=zQ h (i6.2 b3);have h2:=fB s i 0;refine⟨h1,by omega,?_,fun _=>rfl,?_⟩
  ·split
   ·omega
   ·split
    ·omega
    ·split<;>omega
  ·intro h;split at h
   ·omega
   ·split at h
    ·omega
    ·split at h<;>omega
 rw[if_neg b3]
 by_cases b4:aY (gt s i)=true
 ·rw[if_pos b4];have h1:=QK h b4;have h2:=fB s i 1
  cases hn:kh (cQ s i (bq s i 1)) 0 with
  |none=>exact⟨by omega,by omega⟩
  |some v=>exact⟨h1,by omega,by omega,fun _=>rfl,fun h=>by omega⟩
 rw[if_neg b4]
 by_cases b5:im (gt s i)=true
 ·rw[if_pos b5];have h1:=Bo h b5;have h2:=fB s i 2
  split
  ·have h3:=SY h b5;have h4:=fB s i 3;exact⟨h3,by omega⟩
  ·refine⟨h1,by omega,?_,fun _=>rfl,?_⟩
   ·split
    ·omega
    ·split<;>omega
   ·intro h;split at h
    ·omega
    ·split at h<;>omega
 rw[if_neg b5]
 split
 ·exact⟨by omega,by omega,by omega,fun _=>rfl,fun h=>by omega⟩
 ·split
  ·rename_i h34
   cases ht:jx s i with
   |none=>exact⟨by omega,by omega⟩
   |some p=>have:=xK ht;exact⟨this.2,this.1,by omega,fun h=>absurd rfl h,fun _=>h34⟩
  ·exact⟨by omega,by omega⟩
def Ma (s:List UInt8):Tok:=⟨9,[],0,(cF s s.length).1,(cF s s.length).2⟩
inductive re (s:List UInt8):Nat→List Tok→Prop
 |fin:re s s.length [Ma s]
 |skip {i n:Nat} {l:List Tok}:i<s.length→eP s i=.skip n→re s (i+n) l→re s i l
 |tok {i n:Nat} {k v:Int} {t:List UInt8} {l:List Tok}:i<s.length→eP s i=.tok k t v n→re s (i+n) l→re s i (⟨k,t,v,(cF s i).1,(cF s i).2⟩::l)
inductive qw (s:List UInt8):Nat→gT→Prop
 |bad {i:Nat} {e:Int}:i<s.length→eP s i=.bad e→qw s i ⟨[],(cF s i).1,(cF s i).2,e⟩
 |skip {i n:Nat} {d:gT}:i<s.length→eP s i=.skip n→qw s (i+n) d→qw s i d
 |tok {i n:Nat} {k v:Int} {t:List UInt8} {d:gT}:i<s.length→eP s i=.tok k t v n→qw s (i+n) d→qw s i d
theorem BA (s:List UInt8):∀(f i:Nat),i≤s.length→s.length<i+f→(∃l,re s i l)∨(∃d,qw s i d)
 |0,i,h,h2=>by omega
 |f+1,i,h,h2=>by
  by_cases hi:i<s.length
  ·have hs:=nw hi
   cases hx:eP s i with
   |skip n=>
    rw[hx] at hs;obtain⟨h3,h4⟩:=hs;rcases BA s f (i+n) h4 (by omega) with ⟨l,hl⟩| ⟨d,hd⟩
    ·exact .inl ⟨l,.skip hi hx hl⟩
    ·exact .inr ⟨d,.skip hi hx hd⟩
   |tok k t v n=>
    rw[hx] at hs;obtain⟨h3,h4,_⟩:=hs;rcases BA s f (i+n) h4 (by omega) with ⟨l,hl⟩| ⟨d,hd⟩
    ·exact .inl ⟨_,.tok hi hx hl⟩
    ·exact .inr ⟨d,.tok hi hx hd⟩
   |bad e=>exact .inr ⟨_,.bad hi hx⟩
  ·obtain rfl:i=s.length:=by omega
   exact .inl ⟨_,.fin⟩
theorem WL {s:List UInt8}{i:Nat}{l:List Tok}(h:re s i l):∀(f:Nat) (o:List Tok),s.length<i+f→ck s f i o=(o++l,.ok):=by
 induction h with
 |fin=>
  intro f o hf;obtain⟨g,rfl⟩:∃g,f=g+1:=⟨f - 1,by omega⟩;rw[ck,if_neg (by omega)];rfl
 | @skip i n l h1 h2 _ ih=>
  intro f o hf;obtain⟨g,rfl⟩:∃g,f=g+1:=⟨f - 1,by omega⟩;have:=nw h1;rw[h2] at this;rw[qO h1 h2,ih g o (by have:=this.1;omega)]
 | @tok i n k v t l h1 h2 _ ih=>
  intro f o hf;obtain⟨g,rfl⟩:∃g,f=g+1:=⟨f - 1,by omega⟩;have:=nw h1;rw[h2] at this;rw[CB h1 h2,ih g _ (by have:=this.1;omega),List.append_assoc];rfl
theorem SP {s:List UInt8}{i:Nat}{d:gT}(h:qw s i d):∀(f:Nat) (o:List Tok),s.length<i+f→ck s f i o=([],d):=by
 induction h with
 | @bad i e h1 h2=>
  intro f o hf;obtain⟨g,rfl⟩:∃g,f=g+1:=⟨f - 1,by omega⟩;rw[ck,if_pos h1,h2]
 | @skip i n l h1 h2 _ ih=>
  intro f o hf;obtain⟨g,rfl⟩:∃g,f=g+1:=⟨f - 1,by omega⟩;have:=nw h1;rw[h2] at this;rw[qO h1 h2,ih g o (by have:=this.1;omega)]
 | @tok i n k v t l h1 h2 _ ih=>
  intro f o hf;obtain⟨g,rfl⟩:∃g,f=g+1:=⟨f - 1,by omega⟩;have:=nw h1;rw[h2] at this;rw[CB h1 h2,ih g _ (by have:=this.1;omega)]
theorem DE {s:List UInt8}{l:List Tok}(hs:s.length≤16384)(h:re s 0 l):eS s=(l,.ok):=by
 rw[eS,if_neg (by omega),WL h _ _ (by omega)];rfl
theorem L8 {s:List UInt8}{d:gT}(hs:s.length≤16384)(h:qw s 0 d):eS s=([],d):=by
 rw[eS,if_neg (by omega),SP h _ _ (by omega)]
theorem D6 {s:List UInt8}{l:List Tok}{d:gT}(h:eS s=(l,d)):(16384<s.length∧l=[]∧d=⟨[],1,1,10⟩)∨(s.length≤16384∧((d=.ok∧re s 0 l)∨(l=[]∧qw s 0 d))):=by
 by_cases hs:16384<s.length
 ·rw[eS,if_pos hs] at h;cases h;exact .inl ⟨hs,rfl,rfl⟩
 ·refine .inr ⟨by omega,?_⟩;rcases BA s (s.length+1) 0 (by omega) (by omega) with ⟨l',hl⟩| ⟨d',hd⟩
  ·rw[DE (by omega) hl] at h;cases h;exact .inl ⟨rfl,hl⟩
  ·rw[L8 (by omega) hd] at h;cases h;exact .inr ⟨rfl,hd⟩
section
variable {t b:List UInt8} {i:Nat}
end
section
variable {a b:List UInt8}
end
section
variable {m n:Nat} {t:List UInt8}
end
theorem Jh (s:List UInt8)(w0:World)(hG:gq w0 []):bI Tryz.prog 65 #[str s] w0 (fun v w'=>v=.bool (List.isEmpty s)∧St w0 [] w' []):=by
 have hO:=St.aX w0;have hp:CP.e.ok w0:=trivial;refine cw Tryz.func65 Tryz.ntmps65 fun a hF=>?_;refine Zr 4 ?_;exact⟨congrArg Value.bool (by cases s<;>rfl),hO⟩
theorem bY:j9 Tryz.prog CP.e (aD 65) (fun s=>List.isEmpty s):=⟨Tryz.call65,fun s w0 hG _=>Jh s w0 hG⟩
theorem F2 (s:List UInt8)(w0:World)(hG:gq w0 []):bI Tryz.prog 156 #[str s] w0 (fun v w'=>v=.bool ((fun _=>true) s)∧St w0 [] w' []):=by
 have hO:=St.aX w0;have hp:CP.e.ok w0:=trivial;refine cw Tryz.func156 Tryz.ntmps156 fun a hF=>?_;refine Zr 2 ?_;exact⟨rfl,hO⟩
theorem wX:j9 Tryz.prog CP.e (aD 156) (fun s=>(fun _=>true) s):=⟨Tryz.call156,fun s w0 hG _=>F2 s w0 hG⟩
theorem Bx (n:Int)(w0:World):bI Tryz.prog 70 #[i64 n] w0 (fun v w'=>v=.bool (decide (n=0))∧St w0 [] w' []):=by
 have hO:=St.aX w0;have hp:CP.e.ok w0:=trivial;refine cw Tryz.func70 Tryz.ntmps70 fun a hF=>?_;refine Zr 4 ?_;exact⟨rfl,hO⟩
theorem bE:vC Tryz.prog CP.e (aD 70) (fun n=>decide (n=0)):=⟨Tryz.call70,fun n w0 _=>Bx n w0⟩
theorem Ar (n:Int)(w0:World):bI Tryz.prog 155 #[i64 n] w0 (fun v w'=>v=.bool (decide (n≥0))∧St w0 [] w' []):=by
 have hO:=St.aX w0;have hp:CP.e.ok w0:=trivial;refine cw Tryz.func155 Tryz.ntmps155 fun a hF=>?_;refine Zr 4 ?_;exact⟨rfl,hO⟩
theorem sx:vC Tryz.prog CP.e (aD 155) (fun n=>decide (n≥0)):=⟨Tryz.call155,fun n w0 _=>Ar n w0⟩
theorem FN (m:Nat)(l:List NN)(hd:aO)(hsz:∀y∈l,Sz m y.er)(w0:World)(hG:gq w0 [])(hT:bF w0 [] hd.v aM l)(hS:∀y∈l,gP w0 [] y):bI Tryz.prog 64 #[hd.v] w0 (fun v w'=>v=.bool (aZ (l.map NN.er))∧St w0 [] w' []):=by
 have hO:=St.aX w0;have hp:CP.e.ok w0:=trivial;refine cw Tryz.func64 Tryz.ntmps64 fun a hF=>?_;refine Zg 2 (ew hT) fun a hF=>?_;refine Zr 2 ?_;refine⟨congrArg Value.bool ?_,hO⟩;cases l<;>simp [aZ];omega
theorem fe (m:Nat):iG Tryz.prog CP.e m (aD 64) (fun l=>aZ l):=⟨Tryz.call64,fun l hd w0 hsz hG _ hT hS=>FN m l hd hsz w0 hG hT hS⟩
theorem K_ (r:CP)(m:Nat){k:Int}{nt st:FV}{nf:List UInt8→Bool}{lf:List Nd→Bool}{b1 b2 b3:Nat}(h1:mj r b1 (i64 k))(h2:mj r b2 nt.v)(h3:mj r b3 st.v)(hn:j9 Tryz.prog r nt nf)(hs:iG Tryz.prog r m st lf)(x:NN)(hsz:Sz (m+1) x.er)(w0:World)(hG:gq w0 [])(hp:r.ok w0)(hR:gP w0 [] x):bI Tryz.prog 58 #[.agg (aM.cells x).toArray,ptr (aj b1),ptr (aj b2),ptr (aj b3)] w0 (fun v w'=>v=.bool (bA k nf lf x.er)∧St w0 [] w' []):=by
 have hO:=St.aX w0;refine cw Tryz.func58 Tryz.ntmps58 fun a hF=>?_;refine Zb 4 fun v1 a w hO hF=>?_;refine ao hF rfl rfl rfl (bO Tryz.isAgg3 rfl (hF.eval (x:=.tmp 1) rfl) (h1.now hp hO)) fun a hF=>?_;refine Zw 7 fun a hF=>?_;refine cL hF rfl rfl rfl rfl rfl rfl (fun hg=>bO Tryz.isAgg35 rfl (hF.eval (x:=.tmp 2) rfl) (h2.now hp hO)) fun a hF=>?_;refine Zw 2 fun a hF=>?_;refine eg hO hF rfl rfl rfl rfl rfl rfl (fun hg=>fo hF rfl ((hF.eval rfl).trans (an hg)) rfl (by first| (simp only[an hg];done)| (simp only[an hg];rfl)) (by rfl) hn.1 (hn.2 _ _ (hG.cH hO) (CP.now hp hO))) fun a w hO hF=>?_;refine ao hF rfl rfl rfl (dk rfl (hF.eval rfl) rfl (fun hg2=>((hF.eval rfl).trans (an hg2))) (bh _)) fun a hF=>?_;refine Zv 1 fun a hF=>?_;refine cL hF rfl rfl rfl rfl rfl rfl (fun hg=>bO Tryz.isAgg60 rfl (hF.eval (x:=.tmp 3) rfl) (h3.now hp hO)) fun a hF=>?_;refine Zw 2 fun a hF=>?_;refine eg hO hF rfl rfl rfl rfl rfl rfl (fun hg=>fo hF rfl ((hF.eval rfl).trans (an hg)) rfl (by first| (simp only[an hg];done)| (simp only[an hg];rfl)) (by rfl) hs.1 (hs.2 x.ag x.h _ hsz.ag (hG.cH hO) (CP.now hp hO) (hR.nR.cH hO) (fun y hy=>(hR.kI y hy).cH hO))) fun a w hO hF=>?_;refine ao hF rfl rfl rfl (dk rfl (hF.eval rfl) rfl (fun hg2=>((hF.eval rfl).trans (an hg2))) (bh _)) fun a hF=>?_;refine Zr 1 ?_;have hO:=hO.d [0];refine⟨congrArg Value.bool ?_,hO⟩;rw[bA,NN.al,NN.cU,NN.aH,NN.bo];simp [Bool.and_assoc]
theorem Ld {r:CP}{m:Nat}{k:Int}{nt st:FV}{nf:List UInt8→Bool}{lf:List Nd→Bool}{b1 b2 b3:Nat}(h1:mj r b1 (i64 k))(h2:mj r b2 nt.v)(h3:mj r b3 st.v)(hn:j9 Tryz.prog r nt nf)(hs:iG Tryz.prog r m st lf):bp Tryz.prog r (m+1) ⟨58,[],[ptr (aj b1),ptr (aj b2),ptr (aj b3)]⟩ (bA k nf lf):=⟨Tryz.call58,fun x w0 hsz hG hp hR=>K_ r m h1 h2 h3 hn hs x hsz w0 hG hp hR⟩
theorem fa (r p:CP)(m:Nat)(k:Int)(nt st:FV){nf:List UInt8→Bool}{lf:List Nd→Bool}(hn:j9 Tryz.prog (r.and p) nt nf)(hs:iG Tryz.prog (r.and p) m st lf)(w0:World)(hA:bx w0 [jf p]):bI Tryz.prog 17 #[i64 k,nt.v,st.v] w0 (fun v w'=>∃(q:CP) (t:FV),v=t.v∧p.le q∧bp Tryz.prog (r.and q) (m+1) t (bA k nf lf)∧St w0 (ak [jf p]) w' [jf q]):=by
 have hO:=St.init hA;refine cw Tryz.func17 Tryz.ntmps17 fun a hF=>?_;refine Zb 1 fun c1 a w hO hF=>?_;refine Zb 1 fun c2 a w hO hF=>?_;refine Zb 4 fun c3 a w hO hF=>?_;refine Zr 0 ?_;have hO:=hO.q [2,2];obtain⟨p1,le2,C3,hO⟩:=hO.kq (r:=r);have hO:=hO.q [2];obtain⟨p4,le5,C6,hO⟩:=hO.kq (r:=r);have hO:=hO.q [1];obtain⟨p7,le8,C9,hO⟩:=hO.kq (r:=r);have X10:=C3.le (CP.bN (le5.trans le8):CP.le (r.and p1) (r.and p7));have X11:=C6.le (CP.bN le8:CP.le (r.and p4) (r.and p7));have X12:=hn.le (CP.bN ((le2.trans le5).trans le8):CP.le (r.and p) (r.and p7));have X13:=hs.le (CP.bN ((le2.trans le5).trans le8):CP.le (r.and p) (r.and p7));exact⟨_,⟨58,[],[ptr (aj c1),ptr (aj c2),ptr (aj c3)]⟩,rfl,((le2.trans le5).trans le8),Ld X10 X11 C9 X12 X13,hO⟩
theorem On {α:Type}{l:List α}{i:Nat}{y:α}{f:α→Bool}(hno:∀t∈l.take i,f t=false)(hy:l[i]?=some y)(hc:¬f y=true):∀t∈l.take (i+1),f t=false:=by
 intro t ht;rw[List.take_add_one,hy] at ht;rcases List.mem_append.1 ht with h|h
 ·exact hno t h
 ·rw[List.mem_singleton.1 h];simpa using hc
theorem KG {α:Type}{l:List α}{i:Nat}{f:α→Bool}(hno:∀t∈l.take i,f t=false)(hi:l.length≤i):l.any f=false:=by
 rw[List.take_of_length_le hi] at hno;exact List.any_eq_false.2 fun t ht=>by simp [hno t ht]
theorem C5 {α:Type}{l:List α}{i:Nat}{y:α}{f:α→Bool}(hy:l[i]?=some y)(hc:f y=true):l.any f=true:=List.any_eq_true.2 ⟨y,List.mem_of_getElem? hy,hc⟩
theorem St.abU {w w0:World}{M:List Nat}{L:List aq}{α:Type}{E:oe α}{x:α}{b t:Nat}(hO:St w0 M w L)(i:Nat)(hi:L[i]?=some (.ob b t (E.cells x))):bF w [] (Bf b) E [x]:=by
 have h:=hO.Kf i hi;unfold bF;rw[tV];rw[E.len] at h;exact h
theorem Hv (r:CP)(m:Nat){fv:FV}{f:Nd→Bool}{l:List NN}(hf:DW Tryz.prog r fv f l)(hd:aO)(w0:World)(hG:gq w0 [])(hp:r.ok w0)(hT:bF w0 [] hd.v aM l)(hS:∀y∈l,gP w0 [] y):bI Tryz.prog 152 #[hd.v,fv.v] w0 (fun v w'=>∃k:Int,v=i64 k∧decide (0≤k)=l.any (fun y=>f y.er)∧St w0 [] w' []):=by
 have hO:=St.aX w0;have hln:=bF.je hT;refine cw Tryz.func152 Tryz.ntmps152 fun a hF=>?_;refine Zg 2 (ew hT) fun a hF=>?_;refine Zv 1 fun a hF=>?_;refine ax (fun (i:Nat) a w'=>(i≤l.length∧∀t∈l.take i,(fun y:NN=>f y.er) t=false)∧St w0 [] w' []∧Fr a 19 [(0,hd.v),(1,fv.v),(7,i64 l.length),(8,i64 i)]) (fun (i:Nat)=>l.length - i) 0 ⟨⟨by omega,fun t h=>by simp at h⟩,hO,hF.sub ⟨rfl,rfl,rfl,rfl,trivial⟩⟩ ?_;rintro i a w ⟨⟨hi,hno⟩,hO,hF⟩;refine Zi 1 (fun a hF hc1=>?_) fun a hF hc1=>?_
 ·obtain⟨y,hy⟩:=cI (l:=l) (i:=i) (by omega);refine Zg 5 (eB i hT (by omega)) fun a hF=>?_;refine Zh 0 hT hy fun a hF=>?_;refine fN hF rfl rfl rfl (cC hF rfl (hF.eval rfl) rfl rfl hf.1 (hf.2 y (List.mem_of_getElem? hy) _ (hG.cH hO) (CP.now hp hO) ((hS y (List.mem_of_getElem? hy)).cH hO))) ?_;rintro a _ w ⟨rfl,hS⟩ hF;have hO:=hO.k0 hS;refine Zj 0 (fun hc2=>?_) fun hc2=>?_
  ·refine Zr 2 ?_;exact⟨i,rfl,by rw[C5 (f:=fun y:NN=>f y.er) hy hc2];exact decide_eq_true (by omega),hO⟩
  ·refine Zv 2 fun a hF=>?_;exact⟨i+1,⟨⟨by omega,On hno hy hc2⟩,hO,hF.sub ⟨rfl,rfl,rfl,rfl,trivial⟩⟩,by omega⟩
 ·refine Zr 1 ?_;exact⟨-1,rfl,by rw[KG (f:=fun y:NN=>f y.er) hno (by omega)];rfl,hO⟩
theorem Ip (r:CP)(m:Nat){fv:FV}{f:Nd→Bool}{l:List NN}(hf:DW Tryz.prog r fv f l)(hd:aO)(w0:World)(hG:gq w0 [])(hp:r.ok w0)(hT:bF w0 [] hd.v aM l)(hS:∀y∈l,gP w0 [] y):bI Tryz.prog 115 #[hd.v,fv.v] w0 (fun v w'=>v=.bool (l.any (fun y=>f y.er))∧St w0 [] w' []):=by
 have hO:=St.aX w0;refine cw Tryz.func115 Tryz.ntmps115 fun a hF=>?_;refine Zc 3 (Hv r m hf hd _ (hG.cH hO) (CP.now hp hO) (hT.cH hO) (fun y hy=>(hS y hy).cH hO)) ?_;rintro a _ w ⟨kx,rfl,hk,hS⟩ hF;have hO:=hO.k0 hS;refine Zr 2 ?_;exact⟨congrArg Value.bool hk,hO⟩
theorem EP (r:CP)(m:Nat){b:Nat}(x:NN)(hsz:Sz m x.er){fv:FV}{f:Nd→Bool}(hf:bp Tryz.prog r m fv f)(w0:World)(hG:gq w0 [])(hp:r.ok w0)(hb:bF w0 [] (Bf b) aM [x])(hR:gP w0 [] x):bI Tryz.prog 121 #[fv.v,ptr (aj b)] w0 (fun v w'=>v=.bool (f x.er)∧St w0 [] w' []):=by
 have hO:=St.aX w0;refine cw Tryz.func121 Tryz.ntmps121 fun a hF=>?_;refine Zv 2 fun a hF=>?_;refine ao hF rfl rfl rfl (cE Tryz.isAgg28 Tryz.sizeOf28 rfl (hF.eval rfl) (MX (hb.cH hO)) rfl) fun a hF=>?_;refine fN hF rfl rfl rfl (cC hF rfl (hF.eval rfl) rfl rfl hf.1 (hf.2 x _ hsz (hG.cH hO) (CP.now hp hO) (hR.cH hO))) ?_;rintro a _ w ⟨rfl,hS⟩ hF;have hO:=hO.k0 hS;refine Zr 1 ?_;exact⟨rfl,hO⟩
theorem HJ (r:CP)(m:Nat){b:Nat}(x:NN)(hsz:Sz m x.er)(ts:List FV)(fs:List (Nd→Bool))(hts:av Tryz.prog r m ts fs)(hd:aO)(w0:World)(hG:gq w0 [])(hp:r.ok w0)(hT:bF w0 [] hd.v lZ ts)(hb:bF w0 [] (Bf b) aM [x])(hR:gP w0 [] x):bI Tryz.prog 153 #[hd.v,(FV.v ⟨121,[],[ptr (aj b)]⟩)] w0 (fun v w'=>∃k:Int,v=i64 k∧decide (0≤k)=dX fs x.er∧St w0 [] w' []):=by
 have hO:=St.aX w0;have hln:=bF.je hT;have hlf:=av.len hts;refine cw Tryz.func153 Tryz.ntmps153 fun a hF=>?_;refine Zg 2 (ew hT) fun a hF=>?_;refine Zv 1 fun a hF=>?_;refine ax (fun (i:Nat) a w'=>(i≤ts.length∧∀t∈fs.take i,(fun f:Nd→Bool=>f x.er) t=false)∧St w0 [] w' []∧Fr a 19 [(0,hd.v),(1,(FV.v ⟨121,[],[ptr (aj b)]⟩)),(7,i64 ts.length),(8,i64 i)]) (fun (i:Nat)=>ts.length - i) 0 ⟨⟨by omega,fun t h=>by simp at h⟩,hO,hF.sub ⟨rfl,rfl,rfl,rfl,trivial⟩⟩ ?_;rintro i a w ⟨⟨hi,hno⟩,hO,hF⟩;refine Zi 1 (fun a hF hc1=>?_) fun a hF hc1=>?_
 ·obtain⟨y,hy⟩:=cI (l:=ts) (i:=i) (by omega);refine Zg 5 (eB i hT (by omega)) fun a hF=>?_;refine Zh 0 hT hy fun a hF=>?_;obtain⟨f,hg,hf⟩:=av.get hts hy;refine fN hF rfl rfl rfl (cC hF rfl (hF.eval rfl) rfl rfl Tryz.call121 (EP r m x hsz hf _ (hG.cH hO) (CP.now hp hO) (hb.cH hO) (hR.cH hO))) ?_;rintro a _ w ⟨rfl,hS⟩ hF;have hO:=hO.k0 hS;refine Zj 0 (fun hc2=>?_) fun hc2=>?_
  ·refine Zr 2 ?_;exact⟨i,rfl,by rw[dX,C5 (f:=fun f:Nd→Bool=>f x.er) hg hc2];exact decide_eq_true (by omega),hO⟩
  ·refine Zv 2 fun a hF=>?_;exact⟨i+1,⟨⟨by omega,On hno hg hc2⟩,hO,hF.sub ⟨rfl,rfl,rfl,rfl,trivial⟩⟩,by omega⟩
 ·refine Zr 1 ?_;exact⟨-1,rfl,by rw[dX,KG (f:=fun f:Nd→Bool=>f x.er) hno (by omega)];rfl,hO⟩
theorem SV (r:CP)(m:Nat){b:Nat}(x:NN)(hsz:Sz m x.er)(ts:List FV)(fs:List (Nd→Bool))(hts:av Tryz.prog r m ts fs)(hd:aO)(w0:World)(hG:gq w0 [])(hp:r.ok w0)(hT:bF w0 [] hd.v lZ ts)(hb:bF w0 [] (Bf b) aM [x])(hR:gP w0 [] x):bI Tryz.prog 120 #[hd.v,(FV.v ⟨121,[],[ptr (aj b)]⟩)] w0 (fun v w'=>v=.bool (dX fs x.er)∧St w0 [] w' []):=by
 have hO:=St.aX w0;refine cw Tryz.func120 Tryz.ntmps120 fun a hF=>?_;refine Zc 3 (HJ r m x hsz ts fs hts hd _ (hG.cH hO) (CP.now hp hO) (hT.cH hO) (hb.cH hO) (hR.cH hO)) ?_;rintro a _ w ⟨kx,rfl,hk,hS⟩ hF;have hO:=hO.k0 hS;refine Zr 2 ?_;exact⟨congrArg Value.bool hk,hO⟩
theorem w4:∀{fs:List (Nd→Bool)} {l:List Nd},l.length≠fs.length→aI fs l=false
 | [],[],h=>absurd rfl h
 | [],_::_,_=>rfl
 |_::_,[],_=>rfl
 |f::fs,a::l,h=>by
  rw[aI,w4 (fs:=fs) (l:=l) (fun e=>h (by simp [e])),Bool.and_false]
theorem zY {fs:List (Nd→Bool)}{l:List NN}{i:Nat}{f:Nd→Bool}{a:NN}(hf:fs[i]?=some f)(ha:l[i]?=some a):aI (fs.drop i) ((l.drop i).map NN.er)=(f a.er&&aI (fs.drop (i+1)) ((l.drop (i+1)).map NN.er)):=by
 obtain⟨h1,e1⟩:=List.getElem?_eq_some_iff.1 hf;obtain⟨h2,e2⟩:=List.getElem?_eq_some_iff.1 ha;rw[List.drop_eq_getElem_cons h1,List.drop_eq_getElem_cons h2,e1,e2,List.map_cons,aI]
theorem Fb {fs:List (Nd→Bool)}{l:List NN}{i:Nat}(h1:fs.length≤i)(h2:l.length≤i):aI (fs.drop i) ((l.drop i).map NN.er)=true:=by
 rw[List.drop_of_length_le h1,List.drop_of_length_le h2];rfl
theorem Nv (f:Nd→Bool)(l:List NN):(l.map NN.er).all f=!(l.any fun y=>!f y.er):=by
 induction l with
 |nil=>rfl
 |cons a l ih=>rw[List.map_cons,List.all_cons,List.any_cons,ih,Bool.not_or,Bool.not_not]
theorem sG {l:List NN}(h:(l.length:Int)>0):l[0]?=some (l.getD 0 ea):=by
 cases l with
 |nil=>simp at h
 |cons a l=>rfl
theorem lx {l:List NN}(h:(l.length:Int)>0):l.getD 0 ea∈l:=List.mem_of_getElem? (sG h)
theorem tm2 (i:Nat):(i:Int).tmod 2=((i % 2:Nat):Int):=by rw[Int.tmod_eq_emod_of_nonneg (by omega)];omega
theorem JQ {f g:Nd→Bool}{l:List NN}{i:Nat}{y:NN}(hy:l[i]?=some y):iD f g i ((l.drop i).map NN.er)=((if i % 2=0 then f y.er else g y.er)&&iD f g (i+1) ((l.drop (i+1)).map NN.er)):=by
 rw[eK hy,iD]
theorem No {f g:Nd→Bool}{l:List NN}{i:Nat}(h:l.length≤i):iD f g i ((l.drop i).map NN.er)=true:=by
 rw[List.drop_of_length_le h];rfl
theorem S6 {f g:Nd→Bool}{l:List NN}{i:Nat}{y:NN}(hy:l[i]?=some y)(hm:iD f g 0 (l.map NN.er)=iD f g i ((l.drop i).map NN.er))(h:((i:Int).tmod 2=0∧¬f y.er=true)∨((i:Int).tmod 2=1∧¬g y.er=true)):iW f g (l.map NN.er)=false:=by
 rw[iW,hm,JQ hy];rw[tm2] at h;have e:(if i % 2=0 then f y.er else g y.er)=false:=by
  rcases h with ⟨h1,h2⟩| ⟨h1,h2⟩
  ·rw[if_pos (by omega)];simpa using h2
  ·rw[if_neg (by omega)];simpa using h2
 rw[e];rfl
theorem RS {f g:Nd→Bool}{l:List NN}{i:Nat}{y:NN}(hy:l[i]?=some y)(hm:iD f g 0 (l.map NN.er)=iD f g i ((l.drop i).map NN.er))(h:¬(((i:Int).tmod 2=0∧¬f y.er=true)∨((i:Int).tmod 2=1∧¬g y.er=true))):iD f g 0 (l.map NN.er)=iD f g (i+1) ((l.drop (i+1)).map NN.er):=by
 rw[hm,JQ hy];rw[tm2,not_or] at h;have e:(if i % 2=0 then f y.er else g y.er)=true:=by
  by_cases h2:i % 2=0
  ·rw[if_pos h2];have h3:=h.1;simp only[not_and,Decidable.not_not] at h3;exact h3 (by omega)
  ·rw[if_neg h2];have h3:=h.2;simp only[not_and,Decidable.not_not] at h3;exact h3 (by omega)
 rw[e,Bool.true_and]
theorem Nx {f g:Nd→Bool}{l:List NN}{i:Nat}(hm:iD f g 0 (l.map NN.er)=iD f g i ((l.drop i).map NN.er))(h:l.length≤i):decide ((l.length:Int)>2∧(l.length:Int).tmod 2=1)=iW f g (l.map NN.er):=by
 rw[iW,hm,No h,Bool.true_and,List.length_map,Bool.eq_iff_iff,tm2];simp only[decide_eq_true_eq,Bool.and_eq_true];omega
theorem Cr (r:CP)(m:Nat){hv:aO}{ts:List FV}{fs:List (Nd→Bool)}{b1:Nat}(h1:mj r b1 hv.v)(hr:∀w,r.ok w→bF w [] hv.v lZ ts)(hts:av Tryz.prog r m ts fs)(l:List NN)(hd:aO)(hsz:∀y∈l,Sz m y.er)(w0:World)(hG:gq w0 [])(hp:r.ok w0)(hT:bF w0 [] hd.v aM l)(hS:∀y∈l,gP w0 [] y):bI Tryz.prog 60 #[hd.v,ptr (aj b1)] w0 (fun v w'=>v=.bool (aI fs (l.map NN.er))∧St w0 [] w' []):=by
 have hO:=St.aX w0;have hln:=bF.je hT;have hlt:=bF.je (hr _ hp);have hlf:=av.len hts;refine cw Tryz.func60 Tryz.ntmps60 fun a hF=>?_;refine Zg 2 (ew hT) fun a hF=>?_;refine ao hF rfl rfl rfl (bO Tryz.isAgg100 rfl (hF.eval (x:=.tmp 1) rfl) (h1.now hp hO)) fun a hF=>?_;refine Zg 0 (ew (hr _ (CP.now hp hO))) fun a hF=>?_;refine Zi 1 (fun a hF hc1=>?_) fun a hF hc1=>?_
 ·refine Zr 1 ?_;exact⟨congrArg Value.bool (w4 (by rw[List.length_map];omega)).symm,hO⟩
 ·refine Zv 0 ?_;refine ao hF rfl rfl rfl (bO Tryz.isAgg100 rfl (hF.eval (x:=.tmp 1) rfl) (h1.now hp hO)) fun a hF=>?_;refine Zg 0 (ew (hr _ (CP.now hp hO))) fun a hF=>?_;refine Zv 1 fun a hF=>?_;refine ax (fun (i:Nat) a w'=>(i≤ts.length∧aI fs (l.map NN.er)=aI (fs.drop i) ((l.drop i).map NN.er))∧St w0 [] w' []∧Fr a 26 [(0,hd.v),(1,ptr (aj b1)),(11,hv.v),(12,i64 ts.length),(13,i64 i)]) (fun (i:Nat)=>ts.length - i) 0 ⟨⟨by omega,rfl⟩,hO,hF.sub ⟨rfl,rfl,rfl,rfl,rfl,trivial⟩⟩ ?_;rintro i a w ⟨⟨hi,he⟩,hO,hF⟩;refine Zi 1 (fun a hF hc2=>?_) fun a hF hc2=>?_
  ·obtain⟨tf,htf⟩:=cI (l:=ts) (i:=i) (by omega);refine Zg 1 (eB i (hr _ (CP.now hp hO)) (by omega)) fun a hF=>?_;refine Zh 0 (hr _ (CP.now hp hO)) htf fun a hF=>?_;obtain⟨f,hg,hf⟩:=av.get hts htf;obtain⟨y,hy⟩:=cI (l:=l) (i:=i) (by omega);refine Zg 5 (eB i hT (by omega)) fun a hF=>?_;refine Zh 0 hT hy fun a hF=>?_;refine fN hF rfl rfl rfl (cC hF rfl (hF.eval rfl) rfl rfl hf.1 (hf.2 y _ (hsz y (List.mem_of_getElem? hy)) (hG.cH hO) (CP.now hp hO) ((hS y (List.mem_of_getElem? hy)).cH hO))) ?_;rintro a _ w ⟨rfl,hS⟩ hF;have hO:=hO.k0 hS;refine ao hF rfl rfl rfl (cY rfl (hF.eval rfl) (bh _)) fun a hF=>?_;refine Zi 0 (fun hc3=>?_) fun hc3=>?_
   ·refine Zr 1 ?_;exact⟨congrArg Value.bool (by rw[he,zY hg hy,Bool.not_eq_true _ |>.mp hc3];rfl),hO⟩
   ·refine Zv 2 fun a hF=>?_;exact⟨i+1,⟨⟨by omega,by rw[he,zY hg hy,Decidable.not_not.1 hc3,Bool.true_and]⟩,hO,hF.sub ⟨rfl,rfl,rfl,rfl,rfl,trivial⟩⟩,by omega⟩
  ·refine Zr 1 ?_;exact⟨congrArg Value.bool (by rw[he,Fb (by omega) (by omega)]),hO⟩
theorem Cd {r:CP}{m:Nat}{hv:aO}{ts:List FV}{fs:List (Nd→Bool)}{b1:Nat}(h1:mj r b1 hv.v)(hr:∀w,r.ok w→bF w [] hv.v lZ ts)(hts:av Tryz.prog r m ts fs):iG Tryz.prog r m ⟨60,[],[ptr (aj b1)]⟩ (aI fs):=⟨Tryz.call60,fun l hd w0 hsz hG hp hT hS=>Cr r m h1 hr hts l hd hsz w0 hG hp hT hS⟩
theorem bU (r p:CP)(m:Nat)(hv:aO)(ts:List FV)(fs:List (Nd→Bool))(hts:av Tryz.prog (r.and p) m ts fs)(w0:World)(hA:bx w0 [aT hv.v 58 lZ ts,jf p]):bI Tryz.prog 19 #[hv.v] w0 (fun v w'=>∃(q:CP) (t:FV),v=t.v∧p.le q∧iG Tryz.prog (r.and q) m t (aI fs)∧St w0 (ak [aT hv.v 58 lZ ts,jf p]) w' [jf q]):=by
 have hO:=St.init hA;refine cw Tryz.func19 Tryz.ntmps19 fun a hF=>?_;refine Zv 0 ?_;refine fN hF rfl rfl rfl (KQ hO rfl (hF.eval rfl) (aR (hO.bt 0 rfl))) ?_;rintro a _ w ⟨c1,rfl,hO⟩ hF;refine Zr 3 ?_;have hO:=hO.q [1,1];obtain⟨p1,le2,R3,hO⟩:=hO.OI (r:=r);have hO:=hO.q [1];obtain⟨p4,le5,C6,hO⟩:=hO.kq (r:=r);have X7:=(fun w hw=>R3 w ((CP.bN le5:CP.le (r.and p1) (r.and p4)).ok w hw));have X8:=av.le (CP.bN (le2.trans le5):CP.le (r.and p) (r.and p4)) hts;exact⟨_,⟨60,[],[ptr (aj c1)]⟩,rfl,(le2.trans le5),Cd C6 X7 X8,hO⟩
theorem LR (r:CP)(m:Nat){fv:FV}{f:Nd→Bool}{b3:Nat}(h3:mj r b3 fv.v)(hf:bp Tryz.prog r m fv f)(x:NN)(hsz:Sz m x.er)(w0:World)(hG:gq w0 [])(hp:r.ok w0)(hR:gP w0 [] x):bI Tryz.prog 116 #[.agg (aM.cells x).toArray,ptr (aj b3)] w0 (fun v w'=>v=.bool (!f x.er)∧St w0 [] w' []):=by
 have hO:=St.aX w0;refine cw Tryz.func116 Tryz.ntmps116 fun a hF=>?_;refine Zb 2 fun v1 a w hO hF=>?_;refine ao hF rfl rfl rfl (bO Tryz.isAgg58 rfl (hF.eval (x:=.tmp 1) rfl) (h3.now hp hO)) fun a hF=>?_;refine Zv 1 fun a hF=>?_;refine fN hF rfl rfl rfl (cC hF rfl (hF.eval rfl) rfl rfl hf.1 (hf.2 x _ hsz (hG.cH hO) (CP.now hp hO) (hR.cH hO))) ?_;rintro a _ w ⟨rfl,hS⟩ hF;have hO:=hO.k0 hS;refine ao hF rfl rfl rfl (cY rfl (hF.eval rfl) (bh _)) fun a hF=>?_;refine Zr 1 ?_;have hO:=hO.d [0];exact⟨congrArg Value.bool (by simp),hO⟩
theorem L4 {r:CP}{m:Nat}{fv:FV}{f:Nd→Bool}{b3:Nat}(h3:mj r b3 fv.v)(hf:bp Tryz.prog r m fv f):bp Tryz.prog r m ⟨116,[],[ptr (aj b3)]⟩ (fun n=>!f n):=⟨Tryz.call116,fun x w0 hsz hG hp hR=>LR r m h3 hf x hsz w0 hG hp hR⟩
theorem MQ (r:CP)(m:Nat){lo hi:Int}{b1 b2:Nat}(h1:mj r b1 (i64 lo))(h2:mj r b2 (i64 hi)){fv:FV}{f:Nd→Bool}{b3:Nat}(h3:mj r b3 fv.v)(hf:bp Tryz.prog r m fv f)(l:List NN)(hd:aO)(hsz:∀y∈l,Sz m y.er)(w0:World)(hG:gq w0 [])(hp:r.ok w0)(hT:bF w0 [] hd.v aM l)(hS:∀y∈l,gP w0 [] y):bI Tryz.prog 114 #[hd.v,ptr (aj b1),ptr (aj b2),ptr (aj b3)] w0 (fun v w'=>v=.bool (eb lo hi f (l.map NN.er))∧St w0 [] w' []):=by
 have hO:=St.aX w0;have hln:=bF.je hT;refine cw Tryz.func114 Tryz.ntmps114 fun a hF=>?_;refine Zg 2 (ew hT) fun a hF=>?_;refine ao hF rfl rfl rfl (bO Tryz.isAgg3 rfl (hF.eval (x:=.tmp 1) rfl) (h1.now hp hO)) fun a hF=>?_;refine Zv 2 fun a hF=>?_;refine cL hF rfl rfl rfl rfl rfl rfl (fun hg=>bO Tryz.isAgg3 rfl (hF.eval (x:=.tmp 2) rfl) (h2.now hp hO)) fun a hF=>?_;refine Zw 3 fun a hF=>?_;refine cL hF rfl rfl rfl rfl rfl rfl (fun hg=>kZ hT Tryz.underlying26 rfl ((hF.eval rfl).trans (an hg))) fun a hF=>?_;refine cL hF rfl rfl rfl rfl rfl rfl (fun hg=>bO Tryz.isAgg3 rfl (hF.eval (x:=.tmp 2) rfl) (h2.now hp hO)) fun a hF=>?_;refine Zw 1 fun a hF=>?_;refine cL hF rfl rfl rfl rfl rfl rfl (fun hg=>uC rfl ((hF.eval rfl).trans (an hg)) rfl (fun hg2=>((hF.eval rfl).trans (mr hg hg2))) rfl) fun a hF=>?_;refine Zw 3 fun a hF=>?_;refine cL hF rfl rfl rfl rfl rfl rfl (fun hg=>pO hF rfl rfl rfl) fun a hF=>?_;refine eg hO hF rfl rfl rfl rfl rfl rfl (fun hg=>du hF rfl rfl (kD trivial) Tryz.call115 (Ip r m (bp.on (L4 h3 hf) hsz) hd _ (hG.cH hO) (CP.now hp hO) (hT.cH hO) (fun y hy=>(hS y hy).cH hO))) fun a w hO hF=>?_;refine cL hF rfl rfl rfl rfl rfl rfl (fun hg=>cY rfl ((hF.eval rfl).trans (an hg)) (bh _)) fun a hF=>?_;refine Zr 2 ?_;refine⟨congrArg Value.bool ?_,hO⟩;rw[eb,Nv,List.length_map,Bool.eq_iff_iff];simp [and_assoc]
theorem Lp {r:CP}{m:Nat}{lo hi:Int}{b1 b2:Nat}(h1:mj r b1 (i64 lo))(h2:mj r b2 (i64 hi)){fv:FV}{f:Nd→Bool}{b3:Nat}(h3:mj r b3 fv.v)(hf:bp Tryz.prog r m fv f):iG Tryz.prog r m ⟨114,[],[ptr (aj b1),ptr (aj b2),ptr (aj b3)]⟩ (eb lo hi f):=⟨Tryz.call114,fun l hd w0 hsz hG hp hT hS=>MQ r m h1 h2 h3 hf l hd hsz w0 hG hp hT hS⟩
theorem kE (r p:CP)(m:Nat)(lo hi:Int)(fv:FV){f:Nd→Bool}(hf:bp Tryz.prog (r.and p) m fv f)(w0:World)(hA:bx w0 [jf p]):bI Tryz.prog 66 #[i64 lo,i64 hi,fv.v] w0 (fun v w'=>∃(q:CP) (t:FV),v=t.v∧p.le q∧iG Tryz.prog (r.and q) m t (eb lo hi f)∧St w0 (ak [jf p]) w' [jf q]):=by
 have hO:=St.init hA;refine cw Tryz.func66 Tryz.ntmps66 fun a hF=>?_;refine Zb 1 fun c1 a w hO hF=>?_;refine Zb 1 fun c2 a w hO hF=>?_;refine Zb 4 fun c3 a w hO hF=>?_;refine Zr 0 ?_;have hO:=hO.q [2,2];obtain⟨p1,le2,C3,hO⟩:=hO.kq (r:=r);have hO:=hO.q [2];obtain⟨p4,le5,C6,hO⟩:=hO.kq (r:=r);have hO:=hO.q [1];obtain⟨p7,le8,C9,hO⟩:=hO.kq (r:=r);have X10:=C3.le (CP.bN (le5.trans le8):CP.le (r.and p1) (r.and p7));have X11:=C6.le (CP.bN le8:CP.le (r.and p4) (r.and p7));have X12:=hf.le (CP.bN ((le2.trans le5).trans le8):CP.le (r.and p) (r.and p7));exact⟨_,⟨114,[],[ptr (aj c1),ptr (aj c2),ptr (aj c3)]⟩,rfl,((le2.trans le5).trans le8),Lp X10 X11 C9 X12,hO⟩
theorem Km (r:CP)(m:Nat){tf tr:FV}{f:Nd→Bool}{lf:List Nd→Bool}{b1 b2:Nat}(h1:mj r b1 tf.v)(h2:mj r b2 tr.v)(hf:bp Tryz.prog r m tf f)(hs:iG Tryz.prog r m tr lf)(l:List NN)(hd:aO)(hsz:∀y∈l,Sz m y.er)(w0:World)(hG:gq w0 [])(hp:r.ok w0)(hT:bF w0 [] hd.v aM l)(hS:∀y∈l,gP w0 [] y):bI Tryz.prog 215 #[hd.v,ptr (aj b1),ptr (aj b2)] w0 (fun v w'=>v=.bool (kF f lf (l.map NN.er))∧St w0 [] w' []):=by
 have hO:=St.aX w0;have hln:=bF.je hT;refine cw Tryz.func215 Tryz.ntmps215 fun a hF=>?_;refine Zd 1 [0,0,0,0,1,0,0,1,2,0,0,1,0,0,3,0,0] fun a w hO hF=>?_;refine Zg 1 (ew hT) fun a hF=>?_;refine Zv 2 fun a hF=>?_;refine Ad hF rfl rfl rfl rfl rfl rfl (fun hg w hO=>bO Tryz.isAgg58 rfl (hF.eval (x:=.tmp 1) rfl) (h1.now hp hO)) fun a hF=>?_;refine Zw 1 fun a hF=>?_;refine uo hF rfl rfl rfl rfl rfl rfl (fun hg w=>kj (i:=0) hT Tryz.underlying26 Tryz.sizeOf28 rfl ((hF.eval rfl).trans (an hg)) (hF.eval rfl) (by have:=iJ hg;omega)) fun a hF=>?_;refine Ad hF rfl rfl rfl rfl rfl rfl (fun hg w hO=>cE Tryz.isAgg28 Tryz.sizeOf28 rfl ((hF.eval rfl).trans (an hg)) (bF.cells (hT.now hO) (sG (iJ hg))) rfl) fun a hF=>?_;refine T1 hO hF rfl rfl rfl rfl rfl rfl (fun hg=>fo hF rfl ((hF.eval rfl).trans (an hg)) rfl (by first| (simp only[an hg];done)| (simp only[an hg];rfl)) (by rfl) hf.1 (hf.2 (l.getD 0 ea) _ (hsz _ (lx (iJ hg))) (hG.cH hO) (CP.now hp hO) ((hS _ (lx (iJ hg))).cH hO))) (fun _ hS=>hS) fun a w hO hF=>?_;refine dE hF rfl rfl rfl (fun w=>dk rfl (hF.eval rfl) rfl (fun hg2=>((hF.eval rfl).trans (an hg2))) (bh _)) fun a hF=>?_;refine Zv 1 fun a hF=>?_;refine Ad hF rfl rfl rfl rfl rfl rfl (fun hg w hO=>bO Tryz.isAgg60 rfl (hF.eval (x:=.tmp 2) rfl) (h2.now hp hO)) fun a hF=>?_;refine Zw 1 fun a hF=>?_;refine uo hF rfl rfl rfl rfl rfl rfl (fun hg w=>yW (j:=1) hT Tryz.underlying26 Tryz.sizeOf28 rfl ((hF.eval rfl).trans (an hg)) (hF.eval rfl) (by have:=(iJ hg).1;omega)) fun a hF=>?_;refine NQ hO hF rfl rfl rfl rfl rfl rfl (fun hg=>fo hF rfl ((hF.eval rfl).trans (an hg)) rfl (by first| (simp only[an hg];done)| (simp only[an hg];rfl)) (by rfl) hs.1 (hs.2 (l.drop 1) (hd.zx 1 6) _ (fun z hz=>hsz z (List.mem_of_mem_drop hz)) (hG.cH hO) (CP.now hp hO) ((show bF w0 [] (hd.zx 1 6).v aM (l.drop 1) from bF.drop (j:=1) hT (by have:=(iJ hg).1;omega)).cH hO) (fun z hz=>(hS z (List.mem_of_mem_drop hz)).cH hO))) fun a w hO hF=>?_;refine dE hF rfl rfl rfl (fun w=>dk rfl (hF.eval rfl) rfl (fun hg2=>((hF.eval rfl).trans (an hg2))) (bh _)) fun a hF=>?_;refine Zr 1 ?_;refine⟨congrArg Value.bool ?_,hO⟩;cases l<;>simp [kF,Bool.and_assoc]
theorem Iy {r:CP}{m:Nat}{tf tr:FV}{f:Nd→Bool}{lf:List Nd→Bool}{b1 b2:Nat}(h1:mj r b1 tf.v)(h2:mj r b2 tr.v)(hf:bp Tryz.prog r m tf f)(hs:iG Tryz.prog r m tr lf):iG Tryz.prog r m ⟨215,[],[ptr (aj b1),ptr (aj b2)]⟩ (kF f lf):=⟨Tryz.call215,fun l hd w0 hsz hG hp hT hS=>Km r m h1 h2 hf hs l hd hsz w0 hG hp hT hS⟩
theorem D9 (r p:CP)(m:Nat)(tf tr:FV){f:Nd→Bool}{lf:List Nd→Bool}(hf:bp Tryz.prog (r.and p) m tf f)(hs:iG Tryz.prog (r.and p) m tr lf)(w0:World)(hA:bx w0 [jf p]):bI Tryz.prog 192 #[tf.v,tr.v] w0 (fun v w'=>∃(q:CP) (t:FV),v=t.v∧p.le q∧iG Tryz.prog (r.and q) m t (kF f lf)∧St w0 (ak [jf p]) w' [jf q]):=by
 have hO:=St.init hA;refine cw Tryz.func192 Tryz.ntmps192 fun a hF=>?_;refine Zb 1 fun c1 a w hO hF=>?_;refine Zb 4 fun c2 a w hO hF=>?_;refine Zr 0 ?_;have hO:=hO.q [1,1];obtain⟨p1,le2,C3,hO⟩:=hO.kq (r:=r);have hO:=hO.q [1];obtain⟨p4,le5,C6,hO⟩:=hO.kq (r:=r);have X7:=C3.le (CP.bN le5:CP.le (r.and p1) (r.and p4));have X8:=hf.le (CP.bN (le2.trans le5):CP.le (r.and p) (r.and p4));have X9:=hs.le (CP.bN (le2.trans le5):CP.le (r.and p) (r.and p4));exact⟨_,⟨215,[],[ptr (aj c1),ptr (aj c2)]⟩,rfl,(le2.trans le5),Iy X7 C6 X8 X9,hO⟩
theorem Il (r:CP)(m:Nat){ta tb:FV}{f g:Nd→Bool}{b1 b2:Nat}(h1:mj r b1 ta.v)(h2:mj r b2 tb.v)(hf:bp Tryz.prog r m ta f)(hf2:bp Tryz.prog r m tb g)(l:List NN)(hd:aO)(hsz:∀y∈l,Sz m y.er)(w0:World)(hG:gq w0 [])(hp:r.ok w0)(hT:bF w0 [] hd.v aM l)(hS:∀y∈l,gP w0 [] y):bI Tryz.prog 190 #[hd.v,ptr (aj b1),ptr (aj b2)] w0 (fun v w'=>v=.bool (iW f g (l.map NN.er))∧St w0 [] w' []):=by
 have hO:=St.aX w0;have hln:=bF.je hT;refine cw Tryz.func190 Tryz.ntmps190 fun a hF=>?_;refine Zg 2 (ew hT) fun a hF=>?_;refine Zv 1 fun a hF=>?_;refine ax (fun (i:Nat) a w'=>(i≤l.length∧iD f g 0 (l.map NN.er)=iD f g i ((l.drop i).map NN.er))∧St w0 [] w' []∧Fr a 44 [(0,hd.v),(1,ptr (aj b1)),(2,ptr (aj b2)),(7,hd.v),(8,i64 l.length),(9,i64 i)]) (fun (i:Nat)=>l.length - i) 0 ⟨⟨by omega,rfl⟩,hO,hF.sub ⟨rfl,rfl,rfl,rfl,rfl,rfl,trivial⟩⟩ ?_;rintro i a w ⟨⟨hi,he⟩,hO,hF⟩;refine Zi 1 (fun a hF hc1=>?_) fun a hF hc1=>?_
 ·obtain⟨y,hy⟩:=cI (l:=l) (i:=i) (by omega);refine Zg 1 (eB i hT (by omega)) fun a hF=>?_;refine Zh 0 hT hy fun a hF=>?_;refine Zb 4 fun d a w hO hF=>?_;refine ao hF rfl rfl rfl (Hz rfl (hF.eval rfl) (hF.eval rfl) (by omega)) fun a hF=>?_;refine Zv 2 fun a hF=>?_;refine cL hF rfl rfl rfl rfl rfl rfl (fun hg=>bO Tryz.isAgg58 rfl (hF.eval (x:=.tmp 1) rfl) (h1.now hp hO)) fun a hF=>?_;refine Zw 1 fun a hF=>?_;refine eg hO hF rfl rfl rfl rfl rfl rfl (fun hg=>fo hF rfl ((hF.eval rfl).trans (an hg)) rfl (by first| (simp only[an hg];done)| (simp only[an hg];rfl)) (by rfl) hf.1 (hf.2 y _ (hsz y (List.mem_of_getElem? hy)) (hG.cH hO) (CP.now hp hO) ((hS y (List.mem_of_getElem? hy)).cH hO))) fun a w hO hF=>?_;refine cL hF rfl rfl rfl rfl rfl rfl (fun hg=>cY rfl ((hF.eval rfl).trans (an hg)) (bh _)) fun a hF=>?_;refine Zw 3 fun a hF=>?_;refine cL hF rfl rfl rfl rfl rfl rfl (fun hg=>Hz rfl ((hF.eval rfl).trans (an hg)) (hF.eval rfl) (by omega)) fun a hF=>?_;refine Zw 2 fun a hF=>?_;refine cL hF rfl rfl rfl rfl rfl rfl (fun hg=>bO Tryz.isAgg58 rfl (hF.eval (x:=.tmp 2) rfl) (h2.now hp hO)) fun a hF=>?_;refine Zw 1 fun a hF=>?_;refine eg hO hF rfl rfl rfl rfl rfl rfl (fun hg=>fo hF rfl ((hF.eval rfl).trans (an hg)) rfl (by first| (simp only[an hg];done)| (simp only[an hg];rfl)) (by rfl) hf2.1 (hf2.2 y _ (hsz y (List.mem_of_getElem? hy)) (hG.cH hO) (CP.now hp hO) ((hS y (List.mem_of_getElem? hy)).cH hO))) fun a w hO hF=>?_;refine cL hF rfl rfl rfl rfl rfl rfl (fun hg=>cY rfl ((hF.eval rfl).trans (an hg)) (bh _)) fun a hF=>?_;refine cL hF rfl rfl rfl rfl rfl rfl (fun hg=>dk rfl ((hF.eval rfl).trans (an hg)) rfl (fun hg2=>((hF.eval rfl).trans (mr hg hg2))) rfl) fun a hF=>?_;refine Zi 1 (fun a hF hc2=>?_) fun a hF hc2=>?_
  ·refine Zr 1 ?_;have hO:=hO.d [0];exact⟨congrArg Value.bool (S6 hy he hc2).symm,hO⟩
  ·refine Zv 2 fun a hF=>?_;have hO:=hO.d [0];exact⟨i+1,⟨⟨by omega,RS hy he hc2⟩,hO,hF.sub ⟨rfl,rfl,rfl,rfl,rfl,rfl,trivial⟩⟩,by omega⟩
 ·refine Zg 1 (ew hT) fun a hF=>?_;refine Zw 3 fun a hF=>?_;refine cL hF rfl rfl rfl rfl rfl rfl (fun hg=>kZ hT Tryz.underlying26 rfl ((hF.eval rfl).trans (an hg))) fun a hF=>?_;refine cL hF rfl rfl rfl rfl rfl rfl (fun hg=>Hz rfl ((hF.eval rfl).trans (an hg)) (hF.eval rfl) (by omega)) fun a hF=>?_;refine Zw 3 fun a hF=>?_;refine Zr 0 ?_;exact⟨congrArg Value.bool (Nx he (by omega)),hO⟩
theorem Ke {r:CP}{m:Nat}{ta tb:FV}{f g:Nd→Bool}{b1 b2:Nat}(h1:mj r b1 ta.v)(h2:mj r b2 tb.v)(hf:bp Tryz.prog r m ta f)(hf2:bp Tryz.prog r m tb g):iG Tryz.prog r m ⟨190,[],[ptr (aj b1),ptr (aj b2)]⟩ (iW f g):=⟨Tryz.call190,fun l hd w0 hsz hG hp hT hS=>Il r m h1 h2 hf hf2 l hd hsz w0 hG hp hT hS⟩
theorem Dg (r p:CP)(m:Nat)(ta tb:FV){f g:Nd→Bool}(hf:bp Tryz.prog (r.and p) m ta f)(hf2:bp Tryz.prog (r.and p) m tb g)(w0:World)(hA:bx w0 [jf p]):bI Tryz.prog 158 #[ta.v,tb.v] w0 (fun v w'=>∃(q:CP) (t:FV),v=t.v∧p.le q∧iG Tryz.prog (r.and q) m t (iW f g)∧St w0 (ak [jf p]) w' [jf q]):=by
 have hO:=St.init hA;refine cw Tryz.func158 Tryz.ntmps158 fun a hF=>?_;refine Zb 1 fun c1 a w hO hF=>?_;refine Zb 4 fun c2 a w hO hF=>?_;refine Zr 0 ?_;have hO:=hO.q [1,1];obtain⟨p1,le2,C3,hO⟩:=hO.kq (r:=r);have hO:=hO.q [1];obtain⟨p4,le5,C6,hO⟩:=hO.kq (r:=r);have X7:=C3.le (CP.bN le5:CP.le (r.and p1) (r.and p4));have X8:=hf.le (CP.bN (le2.trans le5):CP.le (r.and p) (r.and p4));have X9:=hf2.le (CP.bN (le2.trans le5):CP.le (r.and p) (r.and p4));exact⟨_,⟨190,[],[ptr (aj c1),ptr (aj c2)]⟩,rfl,(le2.trans le5),Ke X7 C6 X8 X9,hO⟩
theorem Fg (r:CP)(m:Nat){hv:aO}{ts:List FV}{fs:List (Nd→Bool)}{b1:Nat}(h1:mj r b1 hv.v)(hr:∀w,r.ok w→bF w [] hv.v lZ ts)(hts:av Tryz.prog r m ts fs)(x:NN)(hsz:Sz m x.er)(w0:World)(hG:gq w0 [])(hp:r.ok w0)(hR:gP w0 [] x):bI Tryz.prog 119 #[.agg (aM.cells x).toArray,ptr (aj b1)] w0 (fun v w'=>v=.bool (dX fs x.er)∧St w0 [] w' []):=by
 have hO:=St.aX w0;refine cw Tryz.func119 Tryz.ntmps119 fun a hF=>?_;refine Zb 2 fun xb a w hO hF=>?_;refine ao hF rfl rfl rfl (bO Tryz.isAgg100 rfl (hF.eval (x:=.tmp 1) rfl) (h1.now hp hO)) fun a hF=>?_;refine Zc 1 (SV r m x hsz ts fs hts hv _ (hG.cH hO) (CP.now hp hO) (hr _ (CP.now hp hO)) (hO.abU 0 rfl) (hR.cH hO)) ?_;rintro a _ w ⟨rfl,hS⟩ hF;have hO:=hO.k0 hS;refine Zr 1 ?_;have hO:=hO.d [0];exact⟨rfl,hO⟩
theorem EM {r:CP}{m:Nat}{hv:aO}{ts:List FV}{fs:List (Nd→Bool)}{b1:Nat}(h1:mj r b1 hv.v)(hr:∀w,r.ok w→bF w [] hv.v lZ ts)(hts:av Tryz.prog r m ts fs):bp Tryz.prog r m ⟨119,[],[ptr (aj b1)]⟩ (dX fs):=⟨Tryz.call119,fun x w0 hsz hG hp hR=>Fg r m h1 hr hts x hsz w0 hG hp hR⟩
theorem ug (r p:CP)(m:Nat)(hv:aO)(ts:List FV)(fs:List (Nd→Bool))(hts:av Tryz.prog (r.and p) m ts fs)(w0:World)(hA:bx w0 [aT hv.v 58 lZ ts,jf p]):bI Tryz.prog 73 #[hv.v] w0 (fun v w'=>∃(q:CP) (t:FV),v=t.v∧p.le q∧bp Tryz.prog (r.and q) m t (dX fs)∧St w0 (ak [aT hv.v 58 lZ ts,jf p]) w' [jf q]):=by
 have hO:=St.init hA;refine cw Tryz.func73 Tryz.ntmps73 fun a hF=>?_;refine Zv 0 ?_;refine fN hF rfl rfl rfl (KQ hO rfl (hF.eval rfl) (aR (hO.bt 0 rfl))) ?_;rintro a _ w ⟨c1,rfl,hO⟩ hF;refine Zr 3 ?_;have hO:=hO.q [1,1];obtain⟨p1,le2,R3,hO⟩:=hO.OI (r:=r);have hO:=hO.q [1];obtain⟨p4,le5,C6,hO⟩:=hO.kq (r:=r);have X7:=(fun w hw=>R3 w ((CP.bN le5:CP.le (r.and p1) (r.and p4)).ok w hw));have X8:=av.le (CP.bN (le2.trans le5):CP.le (r.and p) (r.and p4)) hts;exact⟨_,⟨119,[],[ptr (aj c1)]⟩,rfl,(le2.trans le5),EM C6 X7 X8,hO⟩
theorem gG (r p:CP)(m:Nat)(lo:Int)(fv:FV){f:Nd→Bool}(hf:bp Tryz.prog (r.and p) m fv f)(w0:World)(hA:bx w0 [jf p]):bI Tryz.prog 21 #[i64 lo,fv.v] w0 (fun v w'=>∃(q:CP) (t:FV),v=t.v∧p.le q∧bp Tryz.prog (r.and q) (m+1) t (cc lo f)∧St w0 (ak [jf p]) w' [jf q]):=by
 have hO:=St.init hA;refine cw Tryz.func21 Tryz.ntmps21 fun a hF=>?_;refine Zc 3 (kE r p m (lo) (-1) fv hf _ (St.ai hO)) ?_;rintro a _ w ⟨p1,g2,rfl,le3,X4,hS⟩ hF;have hO:=hO.k1 hS;refine Zc 0 (fa r p1 m (1) (aD 65) g2 (bY.le (CP.aV (p:=(r.and p1)))) X4 _ (St.ai hO)) ?_;rintro a _ w ⟨p5,g6,rfl,le7,X8,hS⟩ hF;have hO:=hO.k1 hS;refine Zr 1 ?_;exact⟨_,g6,rfl,(le3.trans le7),X8,hO⟩
theorem z8 (r:CP)(m:Nat){fv:FV}{f:Nd→Bool}{b1:Nat}(h1:mj r b1 fv.v)(hf:bp Tryz.prog r m fv f)(hk:qe f)(x:NN)(hsz:Sz (m+1) x.er)(w0:World)(hG:gq w0 [])(hp:r.ok w0)(hR:gP w0 [] x):bI Tryz.prog 67 #[.agg (aM.cells x).toArray,ptr (aj b1)] w0 (fun v w'=>v=.bool (dz f x.er)∧St w0 [] w' []):=by
 have hO:=St.aX w0;refine cw Tryz.func67 Tryz.ntmps67 fun a hF=>?_;refine Zb 2 fun xb a w hO hF=>?_;refine Zd 0 [1,2,1,3,0] fun w hO=>?_;refine jC hF rfl rfl rfl (fun w hO=>bO Tryz.isAgg58 rfl (hF.eval (x:=.tmp 1) rfl) (h1.now hp hO)) fun a hF=>?_;have hO:=hO.xW;have X1:=hf.le (CP.Ms:CP.le r (r.and CP.e));refine eI hF rfl rfl rfl (a6 hF rfl rfl Tryz.call21 (gG r CP.e m (0) fv X1 _ (St.ai hO))) ((by rintro _ w ⟨p2,g3,rfl,le4,X5,hS⟩;have hO:=hO.gi hS;have hO:St _ _ _ [_,_]:=hO;have hO:St _ _ _ [_]:=hO.sL [1];exact hO)) ?_;rintro a _ w ⟨p2,g3,rfl,le4,X5,hS⟩ hF;have hO:=hO.k1 hS;refine Zv 1 fun a hF=>?_;refine jO hF rfl rfl rfl (cC hF rfl (hF.eval rfl) rfl rfl X5.1 (X5.2 x _ hsz (hG.cH hO) (hO.pd hp 0 rfl) (hR.cH hO))) ?_;rintro a _ w ⟨rfl,hS⟩ hF;have hO:=hO.k0 hS;refine dE hF rfl rfl rfl (fun w=>cY rfl (hF.eval rfl) (bh _)) fun a hF=>?_;refine Zi 0 (fun hc1=>?_) fun hc1=>?_
 ·refine Zr 1 ?_;have hO:=hO.d [0,0];exact⟨congrArg Value.bool (by rw[dz,(Bool.not_eq_true _).mp hc1];rfl),hO⟩
 ·have hl0:=Decidable.not_not.1 hc1;have hal:∀y∈x.ag,f y.er=true:=fun y hy=>F3 hl0 _ (by rw[NN.bo];exact List.mem_map_of_mem hy);have hln:=bF.je hR.nR;refine Zg 3 (ew (hR.nR)) fun a hF=>?_;refine Zv 1 fun a hF=>?_;have hO:=hO.d [0];refine ax (fun (s:Nat×List UInt8) a w'=>match s with| (i,s)=>(i≤x.ag.length∧mO [] (x.ag.map NN.er)=mO s ((x.ag.drop i).map NN.er))∧St w0 [] w' [.ob xb 28 (aM.cells x)]∧Fr a 41 [(4,str s),(13,x.h.v),(14,i64 x.ag.length),(15,i64 i)]) (fun (s:Nat×List UInt8)=>match s with| (i,s)=>x.ag.length - i) (0,[]) ⟨⟨by omega,rfl⟩,hO,hF.sub ⟨rfl,rfl,rfl,rfl,trivial⟩⟩ ?_;rintro⟨i,s⟩ a w ⟨⟨hi,he⟩,hO,hF⟩;refine Zi 1 (fun a hF hc2=>?_) fun a hF hc2=>?_
  ·obtain⟨y,hy⟩:=cI (l:=x.ag) (i:=i) (by omega);refine Zg 0 (eB i (hR.nR) (by omega)) fun a hF=>?_;refine Zh 0 (hR.nR.cH hO) hy fun a hF=>?_;have AX:=fun h=>qe.nn hk (hal y (List.mem_of_getElem? hy)) h;refine Zb 6 fun d a w hO hF=>?_;refine Zw 2 fun a hF=>?_;refine cL hF rfl rfl rfl rfl rfl rfl (fun hg=>kj (i:=0) ((hR.kI y (List.mem_of_getElem? hy)).nR) Tryz.underlying26 Tryz.sizeOf28 rfl ((hF.eval rfl).trans (an hg)) (hF.eval rfl) (by have:=(AX (zA hg)).1;omega)) fun a hF=>?_;refine Zw 1 fun a hF=>?_;refine cL hF rfl rfl rfl rfl rfl rfl (fun hg=>bO Tryz.isAgg26 rfl ((hF.eval rfl).trans (an hg)) (bF.cells ((hR.kI y (List.mem_of_getElem? hy)).nR.cH hO) (sG (AX (zA hg)).1) _ _ rfl)) fun a hF=>?_;refine cL hF rfl rfl rfl rfl rfl rfl (fun hg=>kj (i:=0) (((hR.kI y (List.mem_of_getElem? hy)).kI _ (lx (AX (zA hg)).1)).nR) Tryz.underlying26 Tryz.sizeOf28 rfl ((hF.eval rfl).trans (an hg)) (hF.eval rfl) (by have:=(AX (zA hg)).2;omega)) fun a hF=>?_;refine Zw 1 fun a hF=>?_;refine cL hF rfl rfl rfl rfl rfl rfl (fun hg=>bO Tryz.isAgg26 rfl ((hF.eval rfl).trans (an hg)) (bF.cells (((hR.kI y (List.mem_of_getElem? hy)).kI _ (lx (AX (zA hg)).1)).nR.cH hO) (sG (AX (zA hg)).2) _ _ rfl)) fun a hF=>?_;refine cL hF rfl rfl rfl rfl rfl rfl (fun hg=>kZ ((((hR.kI y (List.mem_of_getElem? hy)).kI _ (lx (AX (zA hg)).1)).kI _ (lx (AX (zA hg)).2)).nR) Tryz.underlying26 rfl ((hF.eval rfl).trans (an hg))) fun a hF=>?_;refine Zw 2 fun a hF=>?_;refine Zi 0 (fun hc3=>?_) fun hc3=>?_
   ·refine Zv 3 fun a hF=>?_;have hO:=hO.d [0];exact⟨(i+1,[]),⟨⟨by omega,by rw[he,CL hy,if_pos (by omega)]⟩,hO,hF.sub ⟨rfl,rfl,rfl,rfl,trivial⟩⟩,by dsimp only;omega⟩
   ·refine Zi 4 (fun a hF hc4=>?_) fun a hF hc4=>?_
    ·refine Zr 1 ?_;have hO:=hO.d [0,0];exact⟨congrArg Value.bool (by rw[dz,NN.bo,he,CL hy,if_neg (by omega),decide_eq_false (by simpa using hc4)];simp),hO⟩
    ·refine Zv 5 fun a hF=>?_;have hO:=hO.d [0];exact⟨(i+1,y.name),⟨⟨by omega,by rw[he,CL hy,if_neg (by omega),decide_eq_true hc4,Bool.true_and]⟩,hO,hF.sub ⟨rfl,rfl,rfl,rfl,trivial⟩⟩,by dsimp only;omega⟩
  ·refine Zr 1 ?_;have hO:=hO.d [0];exact⟨congrArg Value.bool (by rw[dz,NN.bo,hl0,he,List.drop_of_length_le (by omega)];rfl),hO⟩
theorem A7 {r:CP}{m:Nat}{fv:FV}{f:Nd→Bool}{b1:Nat}(h1:mj r b1 fv.v)(hf:bp Tryz.prog r m fv f)(hk:qe f):bp Tryz.prog r (m+1) ⟨67,[],[ptr (aj b1)]⟩ (dz f):=⟨Tryz.call67,fun x w0 hsz hG hp hR=>z8 r m h1 hf hk x hsz w0 hG hp hR⟩
theorem pJ (r p:CP)(m:Nat)(fv:FV){f:Nd→Bool}(hf:bp Tryz.prog (r.and p) m fv f)(hk:qe f)(w0:World)(hA:bx w0 [jf p]):bI Tryz.prog 22 #[fv.v] w0 (fun v w'=>∃(q:CP) (t:FV),v=t.v∧p.le q∧bp Tryz.prog (r.and q) (m+1) t (dz f)∧St w0 (ak [jf p]) w' [jf q]):=by
 have hO:=St.init hA;refine cw Tryz.func22 Tryz.ntmps22 fun a hF=>?_;refine Zb 4 fun c1 a w hO hF=>?_;refine Zr 0 ?_;obtain⟨p1,le2,C3,hO⟩:=hO.kq (r:=r);have X4:=hf.le (CP.bN le2:CP.le (r.and p) (r.and p1));exact⟨_,⟨67,[],[ptr (aj c1)]⟩,rfl,le2,A7 C3 X4 hk,hO⟩
def dK (s:List UInt8)(k:Int):Bool:=match eS s with
 | (l,d)=>decide ((((d.number=0∧l.length=2)∧(l.getD 0 pW).text=s)∧(l.getD 1 pW).cR=s.length+1)∧(l.getD 0 pW).kind=k)
theorem vr {s:List UInt8}{l:List Tok}{d:gT}(h:eS s=(l,d))(h0:d.number=0):s.length≤16384:=by
 rcases D6 h with ⟨_,_,rfl⟩| ⟨h1,_⟩
 ·exact absurd h0 (by decide)
 ·exact h1
theorem BB {l:List Tok}{i:Nat}(h:(l.length:Int)=2)(hi:i<2):l[i]?=some (l.getD i pW):=by
 rw[List.getD_eq_getElem?_getD,List.getElem?_eq_getElem (by omega)];rfl
theorem Tp {s:List UInt8}{l:List Tok}{d:gT}(h:eS s=(l,d))(ks:List Int):decide (((((d.number=0∧(l.length:Int)=2)∧(l.getD 0 pW).text=s)∧(l.getD 1 pW).cR=(s.length:Int)+1)∧ks.contains (l.getD 0 pW).kind=true))=ks.any (dK s):=by
 unfold dK;rw[h];rw[Bool.eq_iff_iff];simp only[decide_eq_true_eq,List.any_eq_true,List.contains_iff_mem];constructor
 ·rintro⟨h1,h2⟩;exact⟨_,h2,⟨⟨⟨h1.1.1.1,by omega⟩,h1.1.2⟩,h1.2⟩,rfl⟩
 ·rintro⟨k,hk,h1,rfl⟩;exact⟨⟨⟨⟨h1.1.1.1,by omega⟩,h1.1.2⟩,h1.2⟩,hk⟩
theorem XF {f:Int→Bool}(a:Int):[a].any f=f a:=by simp
theorem XD {f:Int→Bool}(a b:Int):[a,b].any f=(f a||f b):=by simp
theorem tB (s:List UInt8)(vk:Value)(ks:List Int)(w0:World)(hG:gq w0 [])(hK:bF w0 [] vk zF ks):bI Tryz.prog 59 #[str s,vk] w0 (fun v w'=>v=.bool (ks.any (dK s))∧St w0 [] w' []):=by
 have hO:=St.aX w0;have hp:CP.e.ok w0:=trivial;refine cw Tryz.func59 Tryz.ntmps59 fun a hF=>?_;refine Zc 2 (L7 _ s (hG.cH hO)) ?_;rintro a _ w ⟨va,tl,d,hrd,rfl,hS⟩ hF;have hO:=hO.k0 hS;have hsh:=vr hrd;refine Zb 10 fun dg a w hO hF=>?_;refine Zw 1 fun a hF=>?_;refine cL hF rfl rfl rfl rfl rfl rfl (fun hg=>kZ (hO.rd 1 rfl) Tryz.underlying22 rfl ((hF.eval rfl).trans (an hg))) fun a hF=>?_;refine Zw 4 fun a hF=>?_;refine cL hF rfl rfl rfl rfl rfl rfl (fun hg=>kj (i:=0) (hO.rd 1 rfl) Tryz.underlying22 Tryz.sizeOf44 rfl ((hF.eval rfl).trans (an hg)) (hF.eval rfl) (by have:=(iJ hg).2;omega)) fun a hF=>?_;refine Zw 1 fun a hF=>?_;refine cL hF rfl rfl rfl rfl rfl rfl (fun hg=>bO Tryz.isAgg9 rfl ((hF.eval rfl).trans (an hg)) (bF.cells (hO.gD 1 rfl) (BB (iJ hg).2 (by decide)) _ _ rfl)) fun a hF=>?_;refine Zw 5 fun a hF=>?_;refine cL hF rfl rfl rfl rfl rfl rfl (fun hg=>kj (i:=1) (hO.rd 1 rfl) Tryz.underlying22 Tryz.sizeOf44 rfl ((hF.eval rfl).trans (an hg)) (hF.eval rfl) (by have:=(iJ hg).1.2;omega)) fun a hF=>?_;refine Zw 1 fun a hF=>?_;refine cL hF rfl rfl rfl rfl rfl rfl (fun hg=>bO Tryz.isAgg3 rfl ((hF.eval rfl).trans (an hg)) (bF.cells (hO.gD 1 rfl) (BB (iJ hg).1.2 (by decide)) _ _ rfl)) fun a hF=>?_;refine Zw 2 fun a hF=>?_;refine cL hF rfl rfl rfl rfl rfl rfl (fun hg=>qu rfl ((hF.eval rfl).trans (an hg)) (hF.eval rfl) (by have:=hsh (iJ hg).1.1;omega)) fun a hF=>?_;refine Zw 5 fun a hF=>?_;refine cL hF rfl rfl rfl rfl rfl rfl (fun hg=>kj (i:=0) (hO.rd 1 rfl) Tryz.underlying22 Tryz.sizeOf44 rfl ((hF.eval rfl).trans (an hg)) (hF.eval rfl) (by have:=(iJ hg).1.1.2;omega)) fun a hF=>?_;refine Zw 1 fun a hF=>?_;refine cL hF rfl rfl rfl rfl rfl rfl (fun hg=>bO Tryz.isAgg3 rfl ((hF.eval rfl).trans (an hg)) (bF.cells (hO.gD 1 rfl) (BB (iJ hg).1.1.2 (by decide)) _ _ rfl)) fun a hF=>?_;refine eg hO hF rfl rfl rfl rfl rfl rfl (fun hg=>du hF rfl rfl (kD trivial) Tryz.call113 (sB _ _ _ _ (hK.cH hO))) fun a w hO hF=>?_;refine ao hF rfl rfl rfl (dk rfl (hF.eval rfl) rfl (fun hg2=>((hF.eval rfl).trans (an hg2))) (bh _)) fun a hF=>?_;refine Zr 1 ?_;have hO:=hO.d [0,0];exact⟨congrArg Value.bool (Tp hrd ks),hO⟩
theorem mT (s:List UInt8)(w0:World)(hG:gq w0 []):bI Tryz.prog 63 #[str s] w0 (fun v w'=>v=.bool (isVar dK s)∧St w0 [] w' []):=by
 have hO:=St.aX w0;have hp:CP.e.ok w0:=trivial;refine cw Tryz.func63 Tryz.ntmps63 fun a hF=>?_;refine Zb 3 fun kk a w hO hF=>?_;have hO:St _ _ _ [aT (aO.v ⟨some (aj kk),2,2⟩) 3 zF [1,3]]:=hO;refine Zc 0 (tB s _ [1,3] _ (hG.cH hO) (hO.gD 0 rfl)) ?_;rintro a _ w ⟨rfl,hS⟩ hF;have hO:=hO.k0 hS;refine Zr 1 ?_;have hO:=hO.d [0];exact⟨congrArg Value.bool (XD 1 3),hO⟩
theorem jy:j9 Tryz.prog CP.e (aD 63) (fun s=>isVar dK s):=⟨Tryz.call63,fun s w0 hG _=>mT s w0 hG⟩
theorem EO (s:List UInt8)(w0:World)(hG:gq w0 []):bI Tryz.prog 118 #[str s] w0 (fun v w'=>v=.bool (wh dK s)∧St w0 [] w' []):=by
 have hO:=St.aX w0;have hp:CP.e.ok w0:=trivial;refine cw Tryz.func118 Tryz.ntmps118 fun a hF=>?_;refine Zb 3 fun kk a w hO hF=>?_;have hO:St _ _ _ [aT (aO.v ⟨some (aj kk),1,1⟩) 3 zF [1]]:=hO;refine Zc 0 (tB s _ [1] _ (hG.cH hO) (hO.gD 0 rfl)) ?_;rintro a _ w ⟨rfl,hS⟩ hF;have hO:=hO.k0 hS;refine Zr 1 ?_;have hO:=hO.d [0];exact⟨congrArg Value.bool (XF 1),hO⟩
theorem wU:j9 Tryz.prog CP.e (aD 118) (fun s=>wh dK s):=⟨Tryz.call118,fun s w0 hG _=>EO s w0 hG⟩
theorem rH (s:List UInt8)(w0:World)(hG:gq w0 []):bI Tryz.prog 18 #[str s] w0 (fun v w'=>v=.bool (iV dK s)∧St w0 [] w' []):=by
 have hO:=St.aX w0;have hp:CP.e.ok w0:=trivial;refine cw Tryz.func18 Tryz.ntmps18 fun a hF=>?_;refine Zb 3 fun kk a w hO hF=>?_;have hO:St _ _ _ [aT (aO.v ⟨some (aj kk),1,1⟩) 3 zF [2]]:=hO;refine Zc 0 (tB s _ [2] _ (hG.cH hO) (hO.gD 0 rfl)) ?_;rintro a _ w ⟨rfl,hS⟩ hF;have hO:=hO.k0 hS;refine Zr 1 ?_;have hO:=hO.d [0];exact⟨congrArg Value.bool (XF 2),hO⟩
theorem ln:j9 Tryz.prog CP.e (aD 18) (fun s=>iV dK s):=⟨Tryz.call18,fun s w0 hG _=>rH s w0 hG⟩
theorem kK (s:List UInt8)(w0:World)(hG:gq w0 []):bI Tryz.prog 72 #[str s] w0 (fun v w'=>v=.bool (qT dK s)∧St w0 [] w' []):=by
 have hO:=St.aX w0;have hp:CP.e.ok w0:=trivial;refine cw Tryz.func72 Tryz.ntmps72 fun a hF=>?_;refine Zb 3 fun kk a w hO hF=>?_;have hO:St _ _ _ [aT (aO.v ⟨some (aj kk),2,2⟩) 3 zF [2,4]]:=hO;refine Zc 0 (tB s _ [2,4] _ (hG.cH hO) (hO.gD 0 rfl)) ?_;rintro a _ w ⟨rfl,hS⟩ hF;have hO:=hO.k0 hS;refine Zr 1 ?_;have hO:=hO.d [0];exact⟨congrArg Value.bool (XD 2 4),hO⟩
theorem tw:j9 Tryz.prog CP.e (aD 72) (fun s=>qT dK s):=⟨Tryz.call72,fun s w0 hG _=>kK s w0 hG⟩
theorem IV (s:List UInt8)(w0:World)(hG:gq w0 []):bI Tryz.prog 157 #[str s] w0 (fun v w'=>v=.bool (fD dK s)∧St w0 [] w' []):=by
 have hO:=St.aX w0;have hp:CP.e.ok w0:=trivial;refine cw Tryz.func157 Tryz.ntmps157 fun a hF=>?_;refine Zc 2 (kK _ _ (hG.cH hO)) ?_;rintro a _ w ⟨rfl,hS⟩ hF;have hO:=hO.k0 hS;refine Zv 1 fun a hF=>?_;have hO0:=hO;cases hb:qT dK s;have hO:=hO0
 ·refine bg hF rfl rfl rfl rfl (by rw[hb];rfl) ?_;refine Zb 1 fun kk a w hO hF=>?_;have hO:St _ _ _ [aT (aO.v ⟨some (aj kk),3,3⟩) 9 rA [h_,iv,dI]]:=hO;refine bg hF rfl rfl rfl rfl (by rw[hb];rfl) ?_;refine Zv 1 fun a hF=>?_;refine bg hF rfl rfl rfl rfl (by rw[hb];rfl) ?_;refine Zc 0 (ot _ s _ [h_,iv,dI] (hO.gD 0 rfl)) ?_;rintro a _ w ⟨rfl,hS⟩ hF;have hO:=hO.k0 hS;refine ao hF rfl rfl rfl (HO rfl ((hF.eval rfl).trans (congrArg Value.bool hb)) (hF.eval rfl)) fun a hF=>?_;refine Zr 1 ?_;have hO:=hO.d [0];exact⟨congrArg Value.bool (by simp [fD,hb]),hO⟩
 ·refine cW hF rfl rfl rfl rfl (by rw[hb];rfl) rfl rfl fun a hF=>?_;refine cW hF rfl rfl rfl rfl (by rw[hb];rfl) rfl rfl fun a hF=>?_;refine cW hF rfl rfl rfl rfl (by rw[hb];rfl) rfl rfl fun a hF=>?_;refine ao hF rfl rfl rfl (HA rfl ((hF.eval rfl).trans (congrArg Value.bool hb))) fun a hF=>?_;refine Zr 1 ?_;exact⟨congrArg Value.bool (by simp [fD,hb]),hO⟩
theorem qP:j9 Tryz.prog CP.e (aD 157) (fun s=>fD dK s):=⟨Tryz.call157,fun s w0 hG _=>IV s w0 hG⟩
theorem xH (s:List UInt8)(w0:World)(hG:gq w0 []):bI Tryz.prog 117 #[str s] w0 (fun v w'=>v=.bool (kg dK s)∧St w0 [] w' []):=by
 have hO:=St.aX w0;have hp:CP.e.ok w0:=trivial;refine cw Tryz.func117 Tryz.ntmps117 fun a hF=>?_;refine Zc 2 (rH _ _ (hG.cH hO)) ?_;rintro a _ w ⟨rfl,hS⟩ hF;have hO:=hO.k0 hS;refine Zv 1 fun a hF=>?_;have hO0:=hO;cases hb:iV dK s;have hO:=hO0
 ·refine bg hF rfl rfl rfl rfl (by rw[hb];rfl) ?_;refine Zb 1 fun kk a w hO hF=>?_;have hO:St _ _ _ [aT (aO.v ⟨some (aj kk),5,5⟩) 9 rA [h_,iv,dI,kM,ez]]:=hO;refine bg hF rfl rfl rfl rfl (by rw[hb];rfl) ?_;refine Zv 1 fun a hF=>?_;refine bg hF rfl rfl rfl rfl (by rw[hb];rfl) ?_;refine Zc 0 (ot _ s _ [h_,iv,dI,kM,ez] (hO.gD 0 rfl)) ?_;rintro a _ w ⟨rfl,hS⟩ hF;have hO:=hO.k0 hS;refine ao hF rfl rfl rfl (HO rfl ((hF.eval rfl).trans (congrArg Value.bool hb)) (hF.eval rfl)) fun a hF=>?_;refine Zr 1 ?_;have hO:=hO.d [0];exact⟨congrArg Value.bool (by simp [kg,hb]),hO⟩
 ·refine cW hF rfl rfl rfl rfl (by rw[hb];rfl) rfl rfl fun a hF=>?_;refine cW hF rfl rfl rfl rfl (by rw[hb];rfl) rfl rfl fun a hF=>?_;refine cW hF rfl rfl rfl rfl (by rw[hb];rfl) rfl rfl fun a hF=>?_;refine ao hF rfl rfl rfl (HA rfl ((hF.eval rfl).trans (congrArg Value.bool hb))) fun a hF=>?_;refine Zr 1 ?_;exact⟨congrArg Value.bool (by simp [kg,hb]),hO⟩
theorem x_:j9 Tryz.prog CP.e (aD 117) (fun s=>kg dK s):=⟨Tryz.call117,fun s w0 hG _=>xH s w0 hG⟩
end Go.Proofs.YtdfccaonglmgpaaGreatDoor
