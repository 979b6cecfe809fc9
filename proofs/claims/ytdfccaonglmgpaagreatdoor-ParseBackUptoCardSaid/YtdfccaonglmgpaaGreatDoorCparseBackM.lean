/- ParseBack returns true at every input whose bulk is at most 1048576, and leaves what is handed in as it is; the library's package variables hold what the program lays into them: the given card ParseBackUptoCardSaid. Conditions: none beyond the statement's own. -/
import Derived.Test.YtdfccaonglmgpaaGreatDoorQ01
import Derived.Test.YtdfccaonglmgpaaGreatDoorQ05
import Derived.Test.YtdfccaonglmgpaaGreatDoorQ17
import Derived.Test.YtdfccaonglmgpaaGreatDoorQ21
import Derived.Carry
open Go.Proofs.Tryz
set_option linter.all false
namespace Go.Proofs.YtdfccaonglmgpaaGreatDoor.parseBack
open Go.ChangeShapes Go.WideShapes Go.ChangeAt Go.RowKit Go.ChangeMaps
set_option maxRecDepth 100000
theorem laidOut:laidOutB prog=true:=by kernel_rfl
theorem aei (H:Type)(enc:TypeId×Value→H)(avm:World)(base:Nat)(args:Array Value)(ds gs:List (DataW H))(before:List MemPlace)
  (hval:∀(j:Nat) t v,Tryz.f4.params[j]?=some t→args[j]?=some v→Value.okWide prog avm .any base t v)
  (hW:DataW.Whole enc prog Tryz.f4.params.toList Rows.parseBackSpec.vars false avm args.toList ds gs before) (hL:laidMetH prog Rows.parseBackUptoRow.laid avm) (hk:Rows.uptoSmall H (ds++gs)=true):
  Calls prog 4 args avm fun e W'=>∃v,e=.returned v∧Rows.parseBackSpec.post enc prog Tryz.f4 false true false false avm args v W':=by
 have hW':=hW;obtain⟨p,q,hA0,hV,rfl,hfz,hnd⟩:=hW;have hA:DataW.TrodAll enc prog avm 0 (fun _=>true) true Tryz.f4.params.toList args.toList ds p:=hA0;rw[Tryz.params4] at hA hval;obtain⟨v0,vs0,d0,ds0,p0,q0,hargs,rfl,rfl,h0,r0⟩:=trodAll_cons hA;obtain⟨rfl,rfl,rfl⟩:=trodAll_nil r0;obtain rfl:args=#[v0]:=by cases args;simp_all
 obtain⟨rfl,rfl⟩:=trodVars_none hV;obtain⟨x,rfl,hR,hz,hg⟩:=ajC (hval 0 28 v0 rfl rfl) h0 (Nat.le_trans (akP aw) (j4 hk));clear hA0;have acn:∀x∈p0,x.block<avm.heap.size:=fun x hx=>by simpa using hW'.lt x (by simp only[List.mem_append];first|exact .inl hx|simpa using hx| (simp_all))
 simp only[cB] at hW';have hG:cL avm []:=ajn hL;refine Calls.mono (apJ avm x hG hz hg hR) fun e W' ⟨v,he,hv,hS⟩=>?_;subst he hv;have hb:Below avm.heap.size avm W':=⟨hS.os,hS.tape,hS.output,hS.le,fun k hk=>hS.iN k hk aw⟩;exact⟨_,rfl,_,_,_,[],_,[],hW',trodAll_mk1 (shut_bool underlying4 _),(trodAll_mk1 (Below.trod laidOut eE (j4 eE) h0 hb acn)),rfl,hb.frame _,fun h=>by cases h⟩
theorem aaX (os:Os):laidMet prog Rows.parseBackUptoRow.laid ((Nc os).forCall (fun _ _=>0) ⟨#[],#[.agg #[.int .i64 0,.string ⟨#[]⟩,.int .i64 0,.int .i64 0,.int .i64 0,.slice none 0 0]],[]⟩).memory:=
 laidMet_of_run' 8 eE eE
theorem reads (os:Os){H:Type}(enc:TypeId×Value→H):∃places,DataW.whole enc prog ((Nc os).forCall (fun _ _=>0) ⟨#[],#[.agg #[.int .i64 0,.string ⟨#[]⟩,.int .i64 0,.int .i64 0,.int .i64 0,.slice none 0 0]],[]⟩).memory Tryz.f4.params.toList Rows.parseBackSpec.vars false (#[.agg #[.int .i64 0,.string ⟨#[]⟩,.int .i64 0,.int .i64 0,.int .i64 0,.slice none 0 0]]:Array Value).toList 8=some ([.agg [.lit (.int .i64 0),.lit (.string []),.lit (.int .i64 0),.lit (.int .i64 0),.lit (.int .i64 0),.nil]],[],places):=
 ⟨[],by kernel_rfl⟩
theorem lifted (os:Os)(started:os.Started)(H:Type)(enc:TypeId×Value→H)(F:Stop.Interp):
  ReturnsInHanded {} Tryz.checked os 4 .any ((Rows.OpenSpec.upto Rows.parseBackSpec).preRow enc prog Tryz.f4 Rows.parseBackUptoRow.domain false Rows.parseBackUptoRow.laid) (((Rows.OpenSpec.upto Rows.parseBackSpec).at F).post enc prog Tryz.f4 false true false false):=by
 obtain⟨places,hx⟩:=reads os enc;refine returnsInHanded_of_row (C:=Tryz.checked) (s:=Rows.OpenSpec.upto Rows.parseBackSpec) own started eE func4
  (witness_row_at (enc:=enc) (C:=Tryz.checked) false (Nc os) #[.agg #[.int .i64 0,.string ⟨#[]⟩,.int .i64 0,.int .i64 0,.int .i64 0,.slice none 0 0]] rfl eE eE eE
    (OpenSpec.preRow_of_cond 8 hx eE (fun k hk=>by cases hk;kernel_rfl) eE (aaX os))) ?_
 intro avm base args ds gs before hval hW _ hcond _ hL _ _;exact aei H enc avm base args ds gs before hval hW hL (hcond _ rfl)
theorem said:Rows.ParseBackUptoSaid:=
 OpenClaim.holds_of_cond 4 Tryz.f4 rfl rfl rfl rfl rfl rfl rfl ⟨rfl,rfl,rfl,rfl,rfl⟩ rfl rfl rfl rfl rfl eE func4 eE
  (j4 eE) (by unfold Func.isWrapper;first| (rw[if_pos (by decide+kernel)];kernel_rfl)| (rw[if_neg (by decide+kernel)];exact⟨rfl,rfl⟩))
  (fun os started H enc _ F=>by rw[OpenClaim.pre_eq_preRow];exact lifted os started H enc F)
theorem plain (f:FuncId)(fn:Func)(hf:Tryz.pinned.checked.prog.funcNamed "teasel/teasellaw03.ParseBack" =some f)(hfn:Tryz.pinned.checked.prog.funcs[f]?=some fn):
  true=Tryz.pinned.checked.prog.looks []∧∀(j:Nat) t,fn.params[j]?=some t→Tryz.pinned.checked.prog.wantsStandIn t=false:=by
 obtain rfl:f=4:=Option.some.inj ((show prog.funcNamed "teasel/teasellaw03.ParseBack" =some 4 by kernel_rfl).symm.trans hf) |>.symm;obtain rfl:fn=Tryz.f4:=(Option.some.inj (func4.symm.trans hfn)).symm;refine⟨by kernel_rfl,fun j t ht=>?_⟩;rw[Tryz.params4] at ht;have hm:=Array.mem_of_getElem? ht;obtain rfl:t=28:=by simpa using hm
 exact (show prog.wantsStandIn 28=false by kernel_rfl)
theorem card:Rows.ParseBackUptoCardSaid:=
 Claim7.holds_tied_plain_at .later [] _ _ _ _ said (fun _ h=>by cases h) eE (fun _ h=>by cases h) parseBackUpto_row_tie rfl ⟨rfl,rfl⟩ eE rfl plain eE
end Go.Proofs.YtdfccaonglmgpaaGreatDoor.parseBack
