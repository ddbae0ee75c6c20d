/- Part of a proof: see the last text. -/
import Derived.Test.YtpbkhogolfegfaaGreatDoorPtu
import Derived.Deep.DeepHandedRow
import Derived.LaidLaws
set_option linter.unusedVariables false
set_option linter.unusedSimpArgs false
set_option linter.defProp false
noncomputable section
namespace Go.Proofs.YtpbkhogolfegfaaGreatDoor.parserTrees
open Go.ChangeShapes Go.WideShapes Go.ChangeAt Go.RowKit AI
open Go.ChangeMaps (open_string shut_string)
set_option maxHeartbeats 4000000 in
set_option maxRecDepth 100000 in
theorem zG(H:Type)(enc:TypeId×Value->H)(W:World)(base:Nat)(args:Array Value)(ds gs:List (DataW H))(before:List MemPlace)
   (akN:∀(j:Nat) t v,Tryz.f6.params[j]?=some t->args[j]?=some v->Value.okWide Tryz.prog W .any base t v)
   (hW:DataW.Whole enc Tryz.prog Tryz.f6.params.toList Rows.parserTreesSpec.vars false W args.toList ds gs before) (hL:laidMetH Tryz.prog Rows.parserTreesRow.laid W) (Gi:W.ShapedOpen Tryz.prog)
   (hz:∀(j:Nat) (t:TypeId) (d:DataW H),Tryz.f6.params[j]?=some t->ds[j]?=some d->∀q∈d.weights Tryz.prog t,q<=reachBytes) :
   Calls Tryz.prog 6 args W λe W'=>∃v,e=.returned v/\Rows.parserTreesSpec.post enc Tryz.prog Tryz.f6 false true false false W args v W':=by
 have hW':=hW;obtain⟨mx,FW⟩:=nZ hL Gi;obtain⟨p,q,hA0,hV,rfl,hfz,hnd⟩:=hW;have hA:DataW.TrodAll enc Tryz.prog W 0 (λ_=>true) true Tryz.f6.params.toList args.toList ds p:=hA0;rw[Tryz.params6] at hA akN;obtain⟨v0,vs0,d0,ds0,p0,q0,Gh,rfl,rfl,h0,r0⟩:=trodAll_cons hA;obtain⟨rfl,rfl,rfl⟩:=trodAll_nil r0;obtain rfl:args=#[v0]:=Array.ext' Gh;obtain⟨rfl,rfl⟩:=trodVars_none hV;obtain⟨z0,rfl,rfl,rfl,w0⟩:=open_string Tryz.underlying9 (akN 0 9 v0 (by kernel_rfl) (by simp)) h0;have l0:z0.data.toList.length<=140737488351232:=hz 0 9 _ (by kernel_rfl) rfl _ (by rw[DataW.weights];exact List.mem_singleton.2 rfl);clear hA0;refine(mR (vs:=[.string z0]) FW (Mo.PU (mx:=mx) (Mo.Xg z0 l0 )) (.cons (.sc rfl) .nil)).mono λe W' ⟨he,bel⟩=>?_;subst he;exact⟨_,rfl,_,_,_,[],_,[],hW',trodAll_mk1 (shut_bool Tryz.underlying4 _),(trodAll_cons_mk (shut_string Tryz.underlying9 w0) trodAll_mk0),rfl,bel.frame _,λh=>by cases h⟩
theorem reads(os:Os){H:Type}(enc:TypeId×Value->H):∃places,DataW.whole enc Tryz.prog ((UU os).forCall (λ_ _=>0) ⟨#[],#[.string ByteArray.empty],[]⟩).memory Tryz.f6.params.toList Rows.parserTreesSpec.vars false (#[.string ByteArray.empty]:Array Value).toList 8=some ([.lit (.string [])],[],places) :=
 ⟨[],by kernel_rfl⟩
set_option maxRecDepth 100000 in
theorem lifted(os:Os)(started:os.Started)(H:Type)(enc:TypeId×Value->H)(F:Stop.Interp) :
   ReturnsInHanded {} Tryz.checked os 6 .any ((OpenSpec.ofChange Rows.parserTreesSpec).preRow enc Tryz.prog Tryz.f6 Rows.parserTreesRow.domain false Rows.parserTreesRow.laid) (((OpenSpec.ofChange Rows.parserTreesSpec).at F).post enc Tryz.prog Tryz.f6 false true false false):=by
 obtain⟨places,hx⟩:=reads os enc
 refine returnsInHanded_of_row (C:=Tryz.checked) (s:=OpenSpec.ofChange Rows.parserTreesSpec) own started (by kernel_rfl) Tryz.func6
   (witness_row_at (enc:=enc) (C:=Tryz.checked) false (UU os) #[.string ByteArray.empty] rfl (by kernel_rfl) (by kernel_rfl) (by kernel_rfl)
     (OpenSpec.preRow_of_cond 8 hx (by kernel_rfl) (λk hk=>by cases hk) (by kernel_rfl) (acL os _))) ?_
 intro W base args ds gs before akN hW _ _ hz hL Gi _;refine zG H enc W base args ds gs before akN hW hL Gi (λj t d ht hd q hq=>?_);have h1:=List.all_eq_true.1 hz q (DataW.weights_mem_each (j:=j) (t:=t) (d:=d) (by rw[List.getElem?_append_left (by have:=(Array.getElem?_eq_some_iff.1 ht).1;simpa using this)];simpa using ht) (by rw[List.getElem?_append_left (List.getElem?_eq_some_iff.1 hd).1];exact hd) q hq)
 simpa using h1
theorem said:Rows.ParserTreesSaid :=
 OpenClaim.holds_of_cond 6 Tryz.f6 rfl rfl rfl rfl rfl rfl rfl ⟨rfl,rfl,rfl,rfl,rfl⟩ rfl rfl rfl rfl rfl (by kernel_rfl) Tryz.func6 (by kernel_rfl)
   (of_decide_eq_true (by kernel_rfl)) (by unfold Func.isWrapper;first | (rw[if_pos (by decide +kernel)];kernel_rfl) | (rw[if_neg (by decide +kernel)];exact⟨rfl,rfl⟩))
   (λos started H enc _ F=>by rw[OpenClaim.pre_eq_preRow];exact lifted os started H enc F)
theorem plain(f:FuncId)(fn:Func)(hf:Tryz.pinned.checked.prog.funcNamed "wageoffice/wageofficelaw07.ParserTrees"=some f)(hfn:Tryz.pinned.checked.prog.funcs[f]?=some fn) :
   true=Tryz.pinned.checked.prog.looks []/\∀(j:Nat) t,fn.params[j]?=some t->Tryz.pinned.checked.prog.wantsStandIn t=false:=by
 obtain rfl:f=6:=Option.some.inj ((show Tryz.prog.funcNamed "wageoffice/wageofficelaw07.ParserTrees"=some 6 by kernel_rfl).symm.trans hf) |>.symm;obtain rfl:fn=Tryz.f6:=(Option.some.inj (Tryz.func6.symm.trans hfn)).symm;refine⟨by kernel_rfl,λj t ht=>?_⟩;rw[Tryz.params6] at ht;have ht':=Array.mem_of_getElem? ht;simp only[List.mem_toArray,List.mem_cons,List.not_mem_nil,or_false] at ht';subst ht';exact(show Tryz.prog.wantsStandIn 9=false by kernel_rfl)
theorem aGF:Rows.ParserTreesCardSaid :=
 Claim7.holds_tied_plain_at .later [] _ _ _ _ said (λ_ h=>by cases h) (by kernel_rfl) (λ_ h=>by cases h) parserTrees_row_tie rfl ⟨rfl,rfl⟩ (by kernel_rfl) rfl plain (by kernel_rfl)
end Go.Proofs.YtpbkhogolfegfaaGreatDoor.parserTrees
namespace Go.Proofs.YtpbkhogolfegfaaGreatDoor
theorem parserTrees_holds:Rows.ParserTreesCardSaid:=parserTrees.aGF
#print axioms parserTrees_holds
end Go.Proofs.YtpbkhogolfegfaaGreatDoor
