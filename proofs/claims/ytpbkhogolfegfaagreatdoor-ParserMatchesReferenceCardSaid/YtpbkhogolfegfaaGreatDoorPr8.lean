/- Part of a proof: see the last text. -/
import Derived.Test.YtpbkhogolfegfaaGreatDoorPr7
import Derived.LaidLaws
set_option linter.all false
noncomputable section
open ByteArray renaming empty->gT
open Go.DataW renaming weights->bnG
open Go.OpenSpec renaming ofChange->bnW
open List renaming getElem?_append_left->bhD,mem_singleton->biQ
open Option.some renaming inj->biA
namespace Go.Proofs.YtpbkhogolfegfaaGreatDoor.parserMatchesReference
open Go.ChangeShapes Go.WideShapes Go.ChangeAt Go.RowKit AI
open Go.ChangeMaps (open_string shut_string)
set_option maxHeartbeats 4000000 in
set_option maxRecDepth 100000 in
theorem apV(H:Type)(enc:TypeId×Value->H)(W:World)(base:Nat)(args:Array Value)(ds gs:List (DataW H))(before:List MemPlace)
   (asB:∀(j:Nat) t v,Tryz.f5.params[j]?=some t->args[j]?=some v->Value.okWide Tryz.prog W .any base t v)
   (hW:DataW.Whole enc Tryz.prog Tryz.f5.params.toList Rows.parserMatchesReferenceSpec.vars false W args.toList ds gs before) (hL:laidMetH Tryz.prog Rows.parserMatchesReferenceRow.laid W) (Gz:W.ShapedOpen Tryz.prog)
   (hz:∀(j:Nat)(t:TypeId)(d:DataW H),Tryz.f5.params[j]?=some t->ds[j]?=some d->∀q∈d.weights Tryz.prog t,q<=reachBytes):
   Calls Tryz.prog 5 args W λe W'=>∃v,e=.returned v/\Rows.parserMatchesReferenceSpec.post enc Tryz.prog Tryz.f5 false true false false W args v W':=by
 have hW':=hW;obtain⟨mx,Dc⟩:=aeO hL Gz;obtain⟨p,q,hA0,hV,rfl,hfz,hnd⟩:=hW;have hA:DataW.TrodAll enc Tryz.prog W 0 (λ_=>true) true Tryz.f5.params.toList args.toList ds p:=hA0;rw[Tryz.params5] at hA asB;obtain⟨v0,vs0,d0,ds0,p0,q0,GL,rfl,rfl,h0,r0⟩:=trodAll_cons hA;obtain⟨v1,vs1,d1,ds1,p1,q1,rfl,rfl,rfl,h1,r1⟩:=trodAll_cons r0;obtain⟨v2,vs2,d2,ds2,p2,q2,rfl,rfl,rfl,h2,r2⟩:=trodAll_cons r1;obtain⟨rfl,rfl,rfl⟩:=trodAll_nil r2;obtain rfl:args=#[v0,v1,v2]:=Array.ext' GL;obtain⟨rfl,rfl⟩:=trodVars_none hV;obtain⟨z0,rfl,rfl,rfl,w0⟩:=open_string Tryz.underlying9 (asB 0 9 v0 (by kernel_rfl) (by simp)) h0;have l0:z0.data.toList.length<=140737488351232:=hz 0 9 _ (by kernel_rfl) rfl _ (by rw[bnG];exact biQ.2 rfl);obtain⟨z1,rfl,rfl,rfl,w1⟩:=open_string Tryz.underlying9 (asB 1 9 v1 (by kernel_rfl) (by simp)) h1;have l1:z1.data.toList.length<=140737488351232:=hz 1 9 _ (by kernel_rfl) rfl _ (by rw[bnG];exact biQ.2 rfl);have k2:=h2;have lt2:∀x∈p2,x.block < W.heap.size:=by obtain⟨m,hm⟩:=k2;exact DataW.trod_lt m _ _ _ hm
 obtain⟨y2,ok2,R2⟩:∃y:Mo.Nd,Mo.IS y/\Cw (Mo.Y7 W) W (Mo.Dh y) v2.cells.toList:=by obtain⟨m,hm⟩:=h2;exact Mo.o29 m _ _ hm
 have A2:=Mo.aMC (by simp[Mo.Dh]) R2;have s2:Mo.U9 y2:=by obtain⟨m,hm⟩:=k2;exact Mo.wtN m _ _ hm (hz 2 29 d2 (by kernel_rfl) rfl) y2 R2
 clear hA0;refine(adD (vs:=[.string z0,.string z1,v2]) Dc (Mo.Mx (mx:=mx) (Mo.QP z0 z1 y2 l0 l1 ok2 s2)) (.cons (.sc rfl) (.cons (.sc rfl) (.cons A2 .nil)))).mono λe W' ⟨he,bel⟩=>?_;subst he;exact⟨_,rfl,_,_,_,[],_,[],hW',trodAll_mk1 (shut_bool Tryz.underlying4 _),(trodAll_cons_mk (shut_string Tryz.underlying9 w0) (trodAll_cons_mk (shut_string Tryz.underlying9 w1) (trodAll_cons_mk (Below.trod laidOut (by kernel_rfl) (of_decide_eq_true (by kernel_rfl)) k2 bel lt2) trodAll_mk0))),rfl,bel.frame _,λh=>by cases h⟩
theorem reads(os:Os){H:Type}(enc:TypeId×Value->H):∃places,DataW.whole enc Tryz.prog ((Zg os).forCall (λ_ _=>0) ⟨#[],#[.string gT,.string gT,.agg #[.int .i64 0,.string gT,.string gT,.int .i64 0,.int .i64 0,.int .i64 0,.int .i64 0,.int .i64 0,.slice none 0 0,.slice none 0 0,.int .i64 0]],[]⟩).memory Tryz.f5.params.toList Rows.parserMatchesReferenceSpec.vars false (#[.string gT,.string gT,.agg #[.int .i64 0,.string gT,.string gT,.int .i64 0,.int .i64 0,.int .i64 0,.int .i64 0,.int .i64 0,.slice none 0 0,.slice none 0 0,.int .i64 0]]:Array Value).toList 8=some ([.lit (.string []),.lit (.string []),.agg [.lit (.int .i64 0),.lit (.string []),.lit (.string []),.lit (.int .i64 0),.lit (.int .i64 0),.lit (.int .i64 0),.lit (.int .i64 0),.agg [.lit (.int .i64 0),.nil],.nil,.lit (.int .i64 0)]],[],places) :=
 ⟨[],by kernel_rfl⟩
set_option maxRecDepth 100000 in
theorem lifted(os:Os)(started:os.Started)(H:Type)(enc:TypeId×Value->H)(F:Stop.Interp) :
   ReturnsInHanded {} Tryz.checked os 5 .any ((bnW Rows.parserMatchesReferenceSpec).preRow enc Tryz.prog Tryz.f5 Rows.parserMatchesReferenceRow.domain false Rows.parserMatchesReferenceRow.laid) (((bnW Rows.parserMatchesReferenceSpec).at F).post enc Tryz.prog Tryz.f5 false true false false):=by
 obtain⟨places,hx⟩:=reads os enc
 refine returnsInHanded_of_row (C:=Tryz.checked) (s:=bnW Rows.parserMatchesReferenceSpec) own started (by kernel_rfl) Tryz.func5
   (witness_row_at (enc:=enc) (C:=Tryz.checked) false (Zg os) #[.string gT,.string gT,.agg #[.int .i64 0,.string gT,.string gT,.int .i64 0,.int .i64 0,.int .i64 0,.int .i64 0,.int .i64 0,.slice none 0 0,.slice none 0 0,.int .i64 0]] rfl (by kernel_rfl) (by kernel_rfl) (by kernel_rfl)
     (OpenSpec.preRow_of_cond 8 hx (by kernel_rfl) (λk hk=>by cases hk) (by kernel_rfl) (asO os _))) ?_
 intro W base args ds gs before asB hW _ _ hz hL Gz _;refine apV H enc W base args ds gs before asB hW hL Gz (λj t d ht hd q hq=>?_);have h1:=List.all_eq_true.1 hz q (DataW.weights_mem_each (j:=j) (t:=t) (d:=d) (by rw[bhD (by have:=(Array.getElem?_eq_some_iff.1 ht).1;simpa using this)];simpa using ht) (by rw[bhD (List.getElem?_eq_some_iff.1 hd).1];exact hd) q hq)
 simpa using h1
theorem aUG{a b:Bool}(h:a=true)(k:b=true):(a&&b)=true:=by rw[h,k];rfl
set_option maxHeartbeats 4000000 in
theorem closed:joinedFacts Tryz.pinned.checked.prog 5 Tryz.f5 (bnW Rows.parserMatchesReferenceSpec).bare Rows.parserMatchesReferenceRow=true:=by
 unfold joinedFacts
 repeat' (with_reducible refine aUG ?_ ?_)
 all_goals as_aux_lemma=>kernel_rfl
theorem said:Rows.ParserMatchesReferenceSaid :=
 OpenClaim.holds_of_cond 5 Tryz.f5 rfl rfl rfl rfl rfl rfl rfl ⟨rfl,rfl,rfl,rfl,rfl⟩ rfl rfl rfl rfl rfl (by kernel_rfl) Tryz.func5 closed
   (of_decide_eq_true (by kernel_rfl)) (by unfold Func.isWrapper;first | (rw[if_pos (by decide +kernel)];kernel_rfl) | (rw[if_neg (by decide +kernel)];exact⟨rfl,rfl⟩))
   (λos started H enc _ F=>by rw[OpenClaim.pre_eq_preRow];exact lifted os started H enc F)
theorem plain(f:FuncId)(fn:Func)(hf:Tryz.pinned.checked.prog.funcNamed "wageoffice/wageofficelaw07.ParserMatchesReference"=some f)(hfn:Tryz.pinned.checked.prog.funcs[f]?=some fn) :
   true=Tryz.pinned.checked.prog.looks []/\∀(j:Nat) t,fn.params[j]?=some t->Tryz.pinned.checked.prog.wantsStandIn t=false:=by
 obtain rfl:f=5:=biA ((show Tryz.prog.funcNamed "wageoffice/wageofficelaw07.ParserMatchesReference"=some 5 by kernel_rfl).symm.trans hf) |>.symm;obtain rfl:fn=Tryz.f5:=(biA (Tryz.func5.symm.trans hfn)).symm;refine⟨by kernel_rfl,λj t ht=>?_⟩;rw[Tryz.params5] at ht;have ht':=Array.mem_of_getElem? ht;simp only[List.mem_toArray,List.mem_cons,List.not_mem_nil,or_false] at ht';rcases ht' with rfl | rfl | rfl
 exact(show Tryz.prog.wantsStandIn 9=false by kernel_rfl);exact(show Tryz.prog.wantsStandIn 9=false by kernel_rfl);exact(show Tryz.prog.wantsStandIn 29=false by kernel_rfl)
theorem bbO:Rows.ParserMatchesReferenceCardSaid :=
 Claim7.holds_tied_plain_at .later [] _ _ _ _ said (λ_ h=>by cases h) (by kernel_rfl) (λ_ h=>by cases h) parserMatchesReference_row_tie rfl ⟨rfl,rfl⟩ (by kernel_rfl) rfl plain (by kernel_rfl)
end Go.Proofs.YtpbkhogolfegfaaGreatDoor.parserMatchesReference
namespace Go.Proofs.YtpbkhogolfegfaaGreatDoor
theorem parserMatchesReference_holds:Rows.ParserMatchesReferenceCardSaid:=parserMatchesReference.bbO
#print axioms parserMatchesReference_holds
end Go.Proofs.YtpbkhogolfegfaaGreatDoor
