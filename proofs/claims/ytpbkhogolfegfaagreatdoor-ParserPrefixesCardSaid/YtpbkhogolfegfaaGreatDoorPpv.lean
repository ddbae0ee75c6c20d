/- Part of a proof: see the last text. -/
import Derived.Test.YtpbkhogolfegfaaGreatDoorPpu
import Derived.Deep.DeepHandedRow
import Derived.LaidLaws
set_option linter.unusedVariables false
set_option linter.unusedSimpArgs false
set_option linter.defProp false
noncomputable section
namespace Go.Proofs.YtpbkhogolfegfaaGreatDoor.parserPrefixes
open Go.ChangeShapes Go.WideShapes Go.ChangeAt Go.RowKit AI
open Go.ChangeMaps (open_string shut_string)
set_option maxHeartbeats 4000000 in
set_option maxRecDepth 100000 in
theorem aaV(H:Type)(enc:TypeId×Value->H)(W:World)(base:Nat)(args:Array Value)(ds gs:List (DataW H))(before:List MemPlace)
   (adM:∀(j:Nat) t v,Tryz.f4.params[j]?=some t->args[j]?=some v->Value.okWide Tryz.prog W .any base t v)
   (hW:DataW.Whole enc Tryz.prog Tryz.f4.params.toList Rows.parserPrefixesSpec.vars false W args.toList ds gs before) (hL:laidMetH Tryz.prog Rows.parserPrefixesRow.laid W) (KQ:W.ShapedOpen Tryz.prog)
   (hz:∀(j:Nat) (t:TypeId) (d:DataW H),Tryz.f4.params[j]?=some t->ds[j]?=some d->∀q∈d.weights Tryz.prog t,q<=reachBytes) :
   Calls Tryz.prog 4 args W λe W'=>∃v,e=.returned v/\Rows.parserPrefixesSpec.post enc Tryz.prog Tryz.f4 false true false false W args v W':=by
 have hW':=hW;obtain⟨mx,Gt⟩:=pU hL KQ;obtain⟨p,q,hA0,hV,rfl,hfz,hnd⟩:=hW;have hA:DataW.TrodAll enc Tryz.prog W 0 (λ_=>true) true Tryz.f4.params.toList args.toList ds p:=hA0;rw[Tryz.params4] at hA adM;obtain⟨v0,vs0,d0,ds0,p0,q0,IC,rfl,rfl,h0,r0⟩:=trodAll_cons hA;obtain⟨v1,vs1,d1,ds1,p1,q1,rfl,rfl,rfl,h1,r1⟩:=trodAll_cons r0;obtain⟨rfl,rfl,rfl⟩:=trodAll_nil r1;obtain rfl:args=#[v0,v1]:=Array.ext' IC;obtain⟨rfl,rfl⟩:=trodVars_none hV;obtain⟨z0,rfl,rfl,rfl,w0⟩:=open_string Tryz.underlying9 (adM 0 9 v0 (by kernel_rfl) (by simp)) h0;have l0:z0.data.toList.length<=140737488351232:=hz 0 9 _ (by kernel_rfl) rfl _ (by rw[DataW.weights];exact List.mem_singleton.2 rfl);obtain⟨z1,rfl,rfl,rfl,w1⟩:=open_int Tryz.underlying37 (adM 1 37 v1 (by kernel_rfl) (by simp)) h1;clear hA0;refine(oL (vs:=[.string z0,.int .u16 z1]) Gt (Mo.OJ (mx:=mx) (Mo.Ux z0 z1 l0 w1 )) (.cons (.sc rfl) (.cons (.sc rfl) .nil))).mono λe W' ⟨he,bel⟩=>?_;subst he;exact⟨_,rfl,_,_,_,[],_,[],hW',trodAll_mk1 (shut_bool Tryz.underlying4 _),(trodAll_cons_mk (shut_string Tryz.underlying9 w0) (trodAll_cons_mk (shut_int Tryz.underlying37 w1) trodAll_mk0)),rfl,bel.frame _,λh=>by cases h⟩
theorem reads(os:Os){H:Type}(enc:TypeId×Value->H):∃places,DataW.whole enc Tryz.prog ((Vs os).forCall (λ_ _=>0) ⟨#[],#[.string ByteArray.empty,.int .u16 0],[]⟩).memory Tryz.f4.params.toList Rows.parserPrefixesSpec.vars false (#[.string ByteArray.empty,.int .u16 0]:Array Value).toList 8=some ([.lit (.string []),.lit (.int .u16 0)],[],places) :=
 ⟨[],by kernel_rfl⟩
set_option maxRecDepth 100000 in
theorem lifted(os:Os)(started:os.Started)(H:Type)(enc:TypeId×Value->H)(F:Stop.Interp) :
   ReturnsInHanded {} Tryz.checked os 4 .any ((OpenSpec.ofChange Rows.parserPrefixesSpec).preRow enc Tryz.prog Tryz.f4 Rows.parserPrefixesRow.domain false Rows.parserPrefixesRow.laid) (((OpenSpec.ofChange Rows.parserPrefixesSpec).at F).post enc Tryz.prog Tryz.f4 false true false false):=by
 obtain⟨places,hx⟩:=reads os enc
 refine returnsInHanded_of_row (C:=Tryz.checked) (s:=OpenSpec.ofChange Rows.parserPrefixesSpec) own started (by kernel_rfl) Tryz.func4
   (witness_row_at (enc:=enc) (C:=Tryz.checked) false (Vs os) #[.string ByteArray.empty,.int .u16 0] rfl (by kernel_rfl) (by kernel_rfl) (by kernel_rfl)
     (OpenSpec.preRow_of_cond 8 hx (by kernel_rfl) (λk hk=>by cases hk) (by kernel_rfl) (adW os _))) ?_
 intro W base args ds gs before adM hW _ _ hz hL KQ _;refine aaV H enc W base args ds gs before adM hW hL KQ (λj t d ht hd q hq=>?_);have h1:=List.all_eq_true.1 hz q (DataW.weights_mem_each (j:=j) (t:=t) (d:=d) (by rw[List.getElem?_append_left (by have:=(Array.getElem?_eq_some_iff.1 ht).1;simpa using this)];simpa using ht) (by rw[List.getElem?_append_left (List.getElem?_eq_some_iff.1 hd).1];exact hd) q hq)
 simpa using h1
theorem said:Rows.ParserPrefixesSaid :=
 OpenClaim.holds_of_cond 4 Tryz.f4 rfl rfl rfl rfl rfl rfl rfl ⟨rfl,rfl,rfl,rfl,rfl⟩ rfl rfl rfl rfl rfl (by kernel_rfl) Tryz.func4 (by kernel_rfl)
   (of_decide_eq_true (by kernel_rfl)) (by unfold Func.isWrapper;first | (rw[if_pos (by decide +kernel)];kernel_rfl) | (rw[if_neg (by decide +kernel)];exact⟨rfl,rfl⟩))
   (λos started H enc _ F=>by rw[OpenClaim.pre_eq_preRow];exact lifted os started H enc F)
theorem plain(f:FuncId)(fn:Func)(hf:Tryz.pinned.checked.prog.funcNamed "wageoffice/wageofficelaw07.ParserPrefixes"=some f)(hfn:Tryz.pinned.checked.prog.funcs[f]?=some fn) :
   true=Tryz.pinned.checked.prog.looks []/\∀(j:Nat) t,fn.params[j]?=some t->Tryz.pinned.checked.prog.wantsStandIn t=false:=by
 obtain rfl:f=4:=Option.some.inj ((show Tryz.prog.funcNamed "wageoffice/wageofficelaw07.ParserPrefixes"=some 4 by kernel_rfl).symm.trans hf) |>.symm;obtain rfl:fn=Tryz.f4:=(Option.some.inj (Tryz.func4.symm.trans hfn)).symm;refine⟨by kernel_rfl,λj t ht=>?_⟩;rw[Tryz.params4] at ht;have ht':=Array.mem_of_getElem? ht;simp only[List.mem_toArray,List.mem_cons,List.not_mem_nil,or_false] at ht';rcases ht' with rfl | rfl
 exact(show Tryz.prog.wantsStandIn 9=false by kernel_rfl);exact(show Tryz.prog.wantsStandIn 37=false by kernel_rfl)
theorem aIN:Rows.ParserPrefixesCardSaid :=
 Claim7.holds_tied_plain_at .later [] _ _ _ _ said (λ_ h=>by cases h) (by kernel_rfl) (λ_ h=>by cases h) parserPrefixes_row_tie rfl ⟨rfl,rfl⟩ (by kernel_rfl) rfl plain (by kernel_rfl)
end Go.Proofs.YtpbkhogolfegfaaGreatDoor.parserPrefixes
namespace Go.Proofs.YtpbkhogolfegfaaGreatDoor
theorem parserPrefixes_holds:Rows.ParserPrefixesCardSaid:=parserPrefixes.aIN
#print axioms parserPrefixes_holds
end Go.Proofs.YtpbkhogolfegfaaGreatDoor
