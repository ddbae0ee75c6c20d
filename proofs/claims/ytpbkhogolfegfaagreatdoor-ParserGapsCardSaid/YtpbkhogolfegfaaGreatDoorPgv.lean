/- Part of a proof: see the last text. -/
import Derived.Test.YtpbkhogolfegfaaGreatDoorPgu
import Derived.Deep.DeepHandedRow
import Derived.LaidLaws
set_option linter.unusedVariables false
set_option linter.unusedSimpArgs false
set_option linter.defProp false
noncomputable section
namespace Go.Proofs.YtpbkhogolfegfaaGreatDoor.parserGaps
open Go.ChangeShapes Go.WideShapes Go.ChangeAt Go.RowKit AI
open Go.ChangeMaps (open_string shut_string)
set_option maxHeartbeats 4000000 in
set_option maxRecDepth 100000 in
theorem acW(H:Type)(enc:TypeId×Value->H)(W:World)(base:Nat)(args:Array Value)(ds gs:List (DataW H))(before:List MemPlace)
   (afI:∀(j:Nat) t v,Tryz.f7.params[j]?=some t->args[j]?=some v->Value.okWide Tryz.prog W .any base t v)
   (hW:DataW.Whole enc Tryz.prog Tryz.f7.params.toList Rows.parserGapsSpec.vars false W args.toList ds gs before) (hL:laidMetH Tryz.prog Rows.parserGapsRow.laid W) (GP:W.ShapedOpen Tryz.prog)
   (hz:∀(j:Nat) (t:TypeId) (d:DataW H),Tryz.f7.params[j]?=some t->ds[j]?=some d->∀q∈d.weights Tryz.prog t,q<=reachBytes) :
   Calls Tryz.prog 7 args W λe W'=>∃v,e=.returned v/\Rows.parserGapsSpec.post enc Tryz.prog Tryz.f7 false true false false W args v W':=by
 have hW':=hW;obtain⟨mx,Gm⟩:=rQ hL GP;obtain⟨p,q,hA0,hV,rfl,hfz,hnd⟩:=hW;have hA:DataW.TrodAll enc Tryz.prog W 0 (λ_=>true) true Tryz.f7.params.toList args.toList ds p:=hA0;rw[Tryz.params7] at hA afI;obtain⟨v0,vs0,d0,ds0,p0,q0,GN,rfl,rfl,h0,r0⟩:=trodAll_cons hA;obtain⟨v1,vs1,d1,ds1,p1,q1,rfl,rfl,rfl,h1,r1⟩:=trodAll_cons r0;obtain⟨rfl,rfl,rfl⟩:=trodAll_nil r1;obtain rfl:args=#[v0,v1]:=Array.ext' GN;obtain⟨rfl,rfl⟩:=trodVars_none hV;obtain⟨z0,rfl,rfl,rfl,w0⟩:=open_string Tryz.underlying9 (afI 0 9 v0 (by kernel_rfl) (by simp)) h0;have l0:z0.data.toList.length<=140737488351232:=hz 0 9 _ (by kernel_rfl) rfl _ (by rw[DataW.weights];exact List.mem_singleton.2 rfl);have k1:=h1;have lt1:∀x∈p1,x.block < W.heap.size:=by obtain⟨m,hm⟩:=k1;exact DataW.trod_lt m _ _ _ hm
 obtain⟨a1,afY,anB,rfl⟩:=okWide_slice Tryz.underlying52 (afI 1 52 v1 (by kernel_rfl) (by simp));obtain⟨y1,A1,ok1,ln1⟩:∃y:List Int,Rp (Mo.Xf W) W (.sl .lost y.length (rows Mo.XG y)) (.slice a1 afY anB)/\(∀x∈y,0<=x/\x<=255)/\y.length<=9223372036854775807:=by obtain⟨m,hm⟩:=h1;exact Mo.VZ Mo.XG 1 (by decide) (λ_=>rfl) _ Tryz.underlying52 Mo.c5 (λk cs x hk ht=>Mo.o5 k cs x ht) hm
 clear hA0;refine(qC (vs:=[.string z0,.slice a1 afY anB]) Gm (Mo.RH (mx:=mx) (Mo.ZP z0 y1 l0 ok1 ln1 )) (.cons (.sc rfl) (.cons A1 .nil))).mono λe W' ⟨he,bel⟩=>?_;subst he;exact⟨_,rfl,_,_,_,[],_,[],hW',trodAll_mk1 (shut_bool Tryz.underlying4 _),(trodAll_cons_mk (shut_string Tryz.underlying9 w0) (trodAll_cons_mk (Below.trod laidOut (by kernel_rfl) (of_decide_eq_true (by kernel_rfl)) k1 bel lt1) trodAll_mk0)),rfl,bel.frame _,λh=>by cases h⟩
theorem reads(os:Os){H:Type}(enc:TypeId×Value->H):∃places,DataW.whole enc Tryz.prog ((VQ os).forCall (λ_ _=>0) ⟨#[],#[.string ByteArray.empty,.slice none 0 0],[]⟩).memory Tryz.f7.params.toList Rows.parserGapsSpec.vars false (#[.string ByteArray.empty,.slice none 0 0]:Array Value).toList 8=some ([.lit (.string []),.nil],[],places) :=
 ⟨[],by kernel_rfl⟩
set_option maxRecDepth 100000 in
theorem lifted(os:Os)(started:os.Started)(H:Type)(enc:TypeId×Value->H)(F:Stop.Interp) :
   ReturnsInHanded {} Tryz.checked os 7 .any ((OpenSpec.ofChange Rows.parserGapsSpec).preRow enc Tryz.prog Tryz.f7 Rows.parserGapsRow.domain false Rows.parserGapsRow.laid) (((OpenSpec.ofChange Rows.parserGapsSpec).at F).post enc Tryz.prog Tryz.f7 false true false false):=by
 obtain⟨places,hx⟩:=reads os enc
 refine returnsInHanded_of_row (C:=Tryz.checked) (s:=OpenSpec.ofChange Rows.parserGapsSpec) own started (by kernel_rfl) Tryz.func7
   (witness_row_at (enc:=enc) (C:=Tryz.checked) false (VQ os) #[.string ByteArray.empty,.slice none 0 0] rfl (by kernel_rfl) (by kernel_rfl) (by kernel_rfl)
     (OpenSpec.preRow_of_cond 8 hx (by kernel_rfl) (λk hk=>by cases hk) (by kernel_rfl) (afU os _))) ?_
 intro W base args ds gs before afI hW _ _ hz hL GP _;refine acW H enc W base args ds gs before afI hW hL GP (λj t d ht hd q hq=>?_);have h1:=List.all_eq_true.1 hz q (DataW.weights_mem_each (j:=j) (t:=t) (d:=d) (by rw[List.getElem?_append_left (by have:=(Array.getElem?_eq_some_iff.1 ht).1;simpa using this)];simpa using ht) (by rw[List.getElem?_append_left (List.getElem?_eq_some_iff.1 hd).1];exact hd) q hq)
 simpa using h1
theorem said:Rows.ParserGapsSaid :=
 OpenClaim.holds_of_cond 7 Tryz.f7 rfl rfl rfl rfl rfl rfl rfl ⟨rfl,rfl,rfl,rfl,rfl⟩ rfl rfl rfl rfl rfl (by kernel_rfl) Tryz.func7 (by kernel_rfl)
   (of_decide_eq_true (by kernel_rfl)) (by unfold Func.isWrapper;first | (rw[if_pos (by decide +kernel)];kernel_rfl) | (rw[if_neg (by decide +kernel)];exact⟨rfl,rfl⟩))
   (λos started H enc _ F=>by rw[OpenClaim.pre_eq_preRow];exact lifted os started H enc F)
theorem plain(f:FuncId)(fn:Func)(hf:Tryz.pinned.checked.prog.funcNamed "wageoffice/wageofficelaw07.ParserGaps"=some f)(hfn:Tryz.pinned.checked.prog.funcs[f]?=some fn) :
   true=Tryz.pinned.checked.prog.looks []/\∀(j:Nat) t,fn.params[j]?=some t->Tryz.pinned.checked.prog.wantsStandIn t=false:=by
 obtain rfl:f=7:=Option.some.inj ((show Tryz.prog.funcNamed "wageoffice/wageofficelaw07.ParserGaps"=some 7 by kernel_rfl).symm.trans hf) |>.symm;obtain rfl:fn=Tryz.f7:=(Option.some.inj (Tryz.func7.symm.trans hfn)).symm;refine⟨by kernel_rfl,λj t ht=>?_⟩;rw[Tryz.params7] at ht;have ht':=Array.mem_of_getElem? ht;simp only[List.mem_toArray,List.mem_cons,List.not_mem_nil,or_false] at ht';rcases ht' with rfl | rfl
 exact(show Tryz.prog.wantsStandIn 9=false by kernel_rfl);exact(show Tryz.prog.wantsStandIn 52=false by kernel_rfl)
theorem aLR:Rows.ParserGapsCardSaid :=
 Claim7.holds_tied_plain_at .later [] _ _ _ _ said (λ_ h=>by cases h) (by kernel_rfl) (λ_ h=>by cases h) parserGaps_row_tie rfl ⟨rfl,rfl⟩ (by kernel_rfl) rfl plain (by kernel_rfl)
end Go.Proofs.YtpbkhogolfegfaaGreatDoor.parserGaps
namespace Go.Proofs.YtpbkhogolfegfaaGreatDoor
theorem parserGaps_holds:Rows.ParserGapsCardSaid:=parserGaps.aLR
#print axioms parserGaps_holds
end Go.Proofs.YtpbkhogolfegfaaGreatDoor
