/- Part of a proof: see the last text. -/
import Derived.Test.YtpbkhogolfegfaaGreatDoorPnw
import Derived.Deep.DeepHandedRow
import Derived.LaidLaws
set_option linter.unusedVariables false
set_option linter.unusedSimpArgs false
set_option linter.defProp false
noncomputable section
open ByteArray renaming empty->V4
open Go.OpenSpec renaming ofChange->bpS
open List renaming getElem?_append_left->bcF
open Option.some renaming inj->bjE
namespace Go.Proofs.YtpbkhogolfegfaaGreatDoor.parserParentheses
open Go.ChangeShapes Go.WideShapes Go.ChangeAt Go.RowKit AI
open Go.ChangeMaps (open_string shut_string)
set_option maxHeartbeats 4000000 in
set_option maxRecDepth 100000 in
theorem aoO(H:Type)(enc:TypeId×Value->H)(W:World)(base:Nat)(args:Array Value)(ds gs:List (DataW H))(before:List MemPlace)
   (aAV:∀(j:Nat) t v,Tryz.f8.params[j]?=some t->args[j]?=some v->Value.okWide Tryz.prog W .any base t v)
   (hW:DataW.Whole enc Tryz.prog Tryz.f8.params.toList Rows.parserParenthesesSpec.vars false W args.toList ds gs before) (hL:laidMetH Tryz.prog Rows.parserParenthesesRow.laid W) (Gr:W.ShapedOpen Tryz.prog)
   (hz:∀(j:Nat) (t:TypeId) (d:DataW H),Tryz.f8.params[j]?=some t->ds[j]?=some d->∀q∈d.weights Tryz.prog t,q<=reachBytes) :
   Calls Tryz.prog 8 args W λe W'=>∃v,e=.returned v/\Rows.parserParenthesesSpec.post enc Tryz.prog Tryz.f8 false true false false W args v W':=by
 have hW':=hW;obtain⟨mx,Fl⟩:=adN hL Gr;obtain⟨p,q,hA0,hV,rfl,hfz,hnd⟩:=hW;have hA:DataW.TrodAll enc Tryz.prog W 0 (λ_=>true) true Tryz.f8.params.toList args.toList ds p:=hA0;rw[Tryz.params8] at hA aAV;obtain⟨v0,vs0,d0,ds0,p0,q0,GB,rfl,rfl,h0,r0⟩:=trodAll_cons hA;obtain⟨v1,vs1,d1,ds1,p1,q1,rfl,rfl,rfl,h1,r1⟩:=trodAll_cons r0;obtain⟨rfl,rfl,rfl⟩:=trodAll_nil r1;obtain rfl:args=#[v0,v1]:=Array.ext' GB;obtain⟨rfl,rfl⟩:=trodVars_none hV;have k0:=h0;have lt0:∀x∈p0,x.block < W.heap.size:=by obtain⟨m,hm⟩:=k0;exact DataW.trod_lt m _ _ _ hm
 obtain⟨y0,ok0,R0⟩:∃y:Mo.Nd,Mo.GZ y/\Cv (Mo.bF W) W (Mo.CW y) v0.cells.toList:=by obtain⟨m,hm⟩:=h0;exact Mo.o29 m _ _ hm
 have A0:=Mo.aLZ (by simp[Mo.CW]) R0;obtain⟨z1,rfl,rfl,rfl,w1⟩:=open_int Tryz.underlying5 (aAV 1 5 v1 (by kernel_rfl) (by simp)) h1;clear hA0;refine(acA (vs:=[v0,.int .u8 z1]) Fl (Mo.NJ (mx:=mx) (Mo.TP y0 z1 ok0 w1 )) (.cons A0 (.cons (.sc rfl) .nil))).mono λe W' ⟨he,bel⟩=>?_;subst he;exact⟨_,rfl,_,_,_,[],_,[],hW',trodAll_mk1 (shut_bool Tryz.underlying4 _),(trodAll_cons_mk (Below.trod laidOut (by kernel_rfl) (of_decide_eq_true (by kernel_rfl)) k0 bel lt0) (trodAll_cons_mk (shut_int Tryz.underlying5 w1) trodAll_mk0)),rfl,bel.frame _,λh=>by cases h⟩
theorem reads(os:Os){H:Type}(enc:TypeId×Value->H):∃places,DataW.whole enc Tryz.prog ((YG os).forCall (λ_ _=>0) ⟨#[],#[.agg #[.int .i64 0,.string V4,.string V4,.int .i64 0,.int .i64 0,.int .i64 0,.int .i64 0,.int .i64 0,.slice none 0 0,.slice none 0 0,.int .i64 0],.int .u8 0],[]⟩).memory Tryz.f8.params.toList Rows.parserParenthesesSpec.vars false (#[.agg #[.int .i64 0,.string V4,.string V4,.int .i64 0,.int .i64 0,.int .i64 0,.int .i64 0,.int .i64 0,.slice none 0 0,.slice none 0 0,.int .i64 0],.int .u8 0]:Array Value).toList 8=some ([.agg [.lit (.int .i64 0),.lit (.string []),.lit (.string []),.lit (.int .i64 0),.lit (.int .i64 0),.lit (.int .i64 0),.lit (.int .i64 0),.agg [.lit (.int .i64 0),.nil],.nil,.lit (.int .i64 0)],.lit (.int .u8 0)],[],places) :=
 ⟨[],by kernel_rfl⟩
set_option maxRecDepth 100000 in
theorem lifted(os:Os)(started:os.Started)(H:Type)(enc:TypeId×Value->H)(F:Stop.Interp) :
   ReturnsInHanded {} Tryz.checked os 8 .any ((bpS Rows.parserParenthesesSpec).preRow enc Tryz.prog Tryz.f8 Rows.parserParenthesesRow.domain false Rows.parserParenthesesRow.laid) (((bpS Rows.parserParenthesesSpec).at F).post enc Tryz.prog Tryz.f8 false true false false):=by
 obtain⟨places,hx⟩:=reads os enc
 refine returnsInHanded_of_row (C:=Tryz.checked) (s:=bpS Rows.parserParenthesesSpec) own started (by kernel_rfl) Tryz.func8
   (witness_row_at (enc:=enc) (C:=Tryz.checked) false (YG os) #[.agg #[.int .i64 0,.string V4,.string V4,.int .i64 0,.int .i64 0,.int .i64 0,.int .i64 0,.int .i64 0,.slice none 0 0,.slice none 0 0,.int .i64 0],.int .u8 0] rfl (by kernel_rfl) (by kernel_rfl) (by kernel_rfl)
     (OpenSpec.preRow_of_cond 8 hx (by kernel_rfl) (λk hk=>by cases hk) (by kernel_rfl) (asN os _))) ?_
 intro W base args ds gs before aAV hW _ _ hz hL Gr _;refine aoO H enc W base args ds gs before aAV hW hL Gr (λj t d ht hd q hq=>?_);have h1:=List.all_eq_true.1 hz q (DataW.weights_mem_each (j:=j) (t:=t) (d:=d) (by rw[bcF (by have:=(Array.getElem?_eq_some_iff.1 ht).1;simpa using this)];simpa using ht) (by rw[bcF (List.getElem?_eq_some_iff.1 hd).1];exact hd) q hq)
 simpa using h1
theorem said:Rows.ParserParenthesesSaid :=
 OpenClaim.holds_of_cond 8 Tryz.f8 rfl rfl rfl rfl rfl rfl rfl ⟨rfl,rfl,rfl,rfl,rfl⟩ rfl rfl rfl rfl rfl (by kernel_rfl) Tryz.func8 (by kernel_rfl)
   (of_decide_eq_true (by kernel_rfl)) (by unfold Func.isWrapper;first | (rw[if_pos (by decide +kernel)];kernel_rfl) | (rw[if_neg (by decide +kernel)];exact⟨rfl,rfl⟩))
   (λos started H enc _ F=>by rw[OpenClaim.pre_eq_preRow];exact lifted os started H enc F)
theorem plain(f:FuncId)(fn:Func)(hf:Tryz.pinned.checked.prog.funcNamed "wageoffice/wageofficelaw07.ParserParentheses"=some f)(hfn:Tryz.pinned.checked.prog.funcs[f]?=some fn) :
   true=Tryz.pinned.checked.prog.looks []/\∀(j:Nat) t,fn.params[j]?=some t->Tryz.pinned.checked.prog.wantsStandIn t=false:=by
 obtain rfl:f=8:=bjE ((show Tryz.prog.funcNamed "wageoffice/wageofficelaw07.ParserParentheses"=some 8 by kernel_rfl).symm.trans hf) |>.symm;obtain rfl:fn=Tryz.f8:=(bjE (Tryz.func8.symm.trans hfn)).symm;refine⟨by kernel_rfl,λj t ht=>?_⟩;rw[Tryz.params8] at ht;have ht':=Array.mem_of_getElem? ht;simp only[List.mem_toArray,List.mem_cons,List.not_mem_nil,or_false] at ht';rcases ht' with rfl | rfl
 exact(show Tryz.prog.wantsStandIn 29=false by kernel_rfl);exact(show Tryz.prog.wantsStandIn 5=false by kernel_rfl)
theorem bbI:Rows.ParserParenthesesCardSaid :=
 Claim7.holds_tied_plain_at .later [] _ _ _ _ said (λ_ h=>by cases h) (by kernel_rfl) (λ_ h=>by cases h) parserParentheses_row_tie rfl ⟨rfl,rfl⟩ (by kernel_rfl) rfl plain (by kernel_rfl)
end Go.Proofs.YtpbkhogolfegfaaGreatDoor.parserParentheses
namespace Go.Proofs.YtpbkhogolfegfaaGreatDoor
theorem parserParentheses_holds:Rows.ParserParenthesesCardSaid:=parserParentheses.bbI
#print axioms parserParentheses_holds
end Go.Proofs.YtpbkhogolfegfaaGreatDoor
