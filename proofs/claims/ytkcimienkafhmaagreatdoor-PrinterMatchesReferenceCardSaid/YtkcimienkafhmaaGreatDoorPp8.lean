/- Part of a proof: see the last text. -/
import Derived.Test.YtkcimienkafhmaaGreatDoorPp7
import Derived.LaidLaws
set_option linter.all false
noncomputable section
open ByteArray renaming empty->VE
open Go.DataW renaming trod_lt->blR
open Go.OpenSpec renaming ofChange->bgR
open List renaming getElem?_append_left->aUY
open Option.some renaming inj->bbJ
namespace Go.Proofs.YtkcimienkafhmaaGreatDoor.printerMatchesReference
open Go.ChangeShapes Go.WideShapes Go.ChangeAt Go.RowKit AI
open Go.ChangeMaps (open_string shut_string)
set_option maxHeartbeats 4000000 in
set_option maxRecDepth 100000 in
theorem akO(H:Type)(enc:TypeId×Value->H)(W:World)(base:Nat)(args:Array Value)(ds gs:List (DataW H))(before:List MemPlace)
   (aIU:∀(j:Nat) t v,Tryz.f3.params[j]?=some t->args[j]?=some v->Value.okWide Tryz.prog W .any base t v)
   (hW:DataW.Whole enc Tryz.prog Tryz.f3.params.toList Rows.printerMatchesReferenceSpec.vars false W args.toList ds gs before) (hL:laidMetH Tryz.prog Rows.printerMatchesReferenceRow.laid W) (hsh:W.ShapedOpen Tryz.prog)
   (hz:∀(j:Nat)(t:TypeId)(d:DataW H),Tryz.f3.params[j]?=some t->ds[j]?=some d->∀q∈d.weights Tryz.prog t,q<=reachBytes):
   Calls Tryz.prog 3 args W λe W'=>∃v,e=.returned v/\Rows.printerMatchesReferenceSpec.post enc Tryz.prog Tryz.f3 false true false false W args v W':=by
 have hW':=hW;obtain⟨mx,E5⟩:=aaE hL hsh;obtain⟨p,q,hA0,hV,rfl,hfz,hnd⟩:=hW;have hA:DataW.TrodAll enc Tryz.prog W 0 (λ_=>true) true Tryz.f3.params.toList args.toList ds p:=hA0;rw[Tryz.params3] at hA aIU;obtain⟨v0,vs0,d0,ds0,p0,q0,H5,rfl,rfl,h0,r0⟩:=trodAll_cons hA;obtain⟨v1,vs1,d1,ds1,p1,q1,rfl,rfl,rfl,h1,r1⟩:=trodAll_cons r0;obtain⟨rfl,rfl,rfl⟩:=trodAll_nil r1;obtain rfl:args=#[v0,v1]:=Array.ext' H5;obtain⟨rfl,rfl⟩:=trodVars_none hV;have k0:=h0;have lt0:∀x∈p0,x.block < W.heap.size:=by obtain⟨m,hm⟩:=k0;exact blR m _ _ _ hm
 obtain⟨y0,ok0,R0⟩:∃y:Mo.Nd,Mo.F6 y/\CF (Mo.Zz W) W (Mo.Cf y) v0.cells.toList:=by obtain⟨m,hm⟩:=h0;exact Mo.o27 m _ _ hm
 have A0:=Mo.ajP (by simp[Mo.Cf]) R0;have k1:=h1;have lt1:∀x∈p1,x.block < W.heap.size:=by obtain⟨m,hm⟩:=k1;exact blR m _ _ _ hm
 obtain⟨y1,ok1,R1⟩:∃y:Mo.Nd,Mo.F6 y/\CF (Mo.Zz W) W (Mo.Cf y) v1.cells.toList:=by obtain⟨m,hm⟩:=h1;exact Mo.o27 m _ _ hm
 have A1:=Mo.ajP (by simp[Mo.Cf]) R1;clear hA0;refine(yI (vs:=[v0,v1]) E5 (Mo.K5 (mx:=mx) (Mo.OT y0 y1 ok0 ok1 )) (.cons A0 (.cons A1 .nil))).mono λe W' ⟨he,bel⟩=>?_;subst he;exact⟨_,rfl,_,_,_,[],_,[],hW',trodAll_mk1 (shut_bool Tryz.underlying4 _),(trodAll_cons_mk (Below.trod laidOut (by kernel_rfl) (of_decide_eq_true (by kernel_rfl)) k0 bel lt0) (trodAll_cons_mk (Below.trod laidOut (by kernel_rfl) (of_decide_eq_true (by kernel_rfl)) k1 bel lt1) trodAll_mk0)),rfl,bel.frame _,λh=>by cases h⟩
theorem reads(os:Os){H:Type}(enc:TypeId×Value->H):∃places,DataW.whole enc Tryz.prog ((Yg os).forCall (λ_ _=>0) ⟨#[],#[.agg #[.int .i64 0,.string VE,.string VE,.int .i64 0,.int .i64 0,.int .i64 0,.int .i64 0,.int .i64 0,.slice none 0 0,.slice none 0 0,.int .i64 0],.agg #[.int .i64 0,.string VE,.string VE,.int .i64 0,.int .i64 0,.int .i64 0,.int .i64 0,.int .i64 0,.slice none 0 0,.slice none 0 0,.int .i64 0]],[]⟩).memory Tryz.f3.params.toList Rows.printerMatchesReferenceSpec.vars false (#[.agg #[.int .i64 0,.string VE,.string VE,.int .i64 0,.int .i64 0,.int .i64 0,.int .i64 0,.int .i64 0,.slice none 0 0,.slice none 0 0,.int .i64 0],.agg #[.int .i64 0,.string VE,.string VE,.int .i64 0,.int .i64 0,.int .i64 0,.int .i64 0,.int .i64 0,.slice none 0 0,.slice none 0 0,.int .i64 0]]:Array Value).toList 8=some ([.agg [.lit (.int .i64 0),.lit (.string []),.lit (.string []),.lit (.int .i64 0),.lit (.int .i64 0),.lit (.int .i64 0),.lit (.int .i64 0),.agg [.lit (.int .i64 0),.nil],.nil,.lit (.int .i64 0)],.agg [.lit (.int .i64 0),.lit (.string []),.lit (.string []),.lit (.int .i64 0),.lit (.int .i64 0),.lit (.int .i64 0),.lit (.int .i64 0),.agg [.lit (.int .i64 0),.nil],.nil,.lit (.int .i64 0)]],[],places) :=
 ⟨[],by kernel_rfl⟩
set_option maxRecDepth 100000 in
theorem lifted(os:Os)(started:os.Started)(H:Type)(enc:TypeId×Value->H)(F:Stop.Interp) :
   ReturnsInHanded {} Tryz.checked os 3 .any ((bgR Rows.printerMatchesReferenceSpec).preRow enc Tryz.prog Tryz.f3 Rows.printerMatchesReferenceRow.domain false Rows.printerMatchesReferenceRow.laid) (((bgR Rows.printerMatchesReferenceSpec).at F).post enc Tryz.prog Tryz.f3 false true false false):=by
 obtain⟨places,hx⟩:=reads os enc
 refine returnsInHanded_of_row (C:=Tryz.checked) (s:=bgR Rows.printerMatchesReferenceSpec) own started (by kernel_rfl) Tryz.func3
   (witness_row_at (enc:=enc) (C:=Tryz.checked) false (Yg os) #[.agg #[.int .i64 0,.string VE,.string VE,.int .i64 0,.int .i64 0,.int .i64 0,.int .i64 0,.int .i64 0,.slice none 0 0,.slice none 0 0,.int .i64 0],.agg #[.int .i64 0,.string VE,.string VE,.int .i64 0,.int .i64 0,.int .i64 0,.int .i64 0,.int .i64 0,.slice none 0 0,.slice none 0 0,.int .i64 0]] rfl (by kernel_rfl) (by kernel_rfl) (by kernel_rfl)
     (OpenSpec.preRow_of_cond 8 hx (by kernel_rfl) (λk hk=>by cases hk) (by kernel_rfl) (aoD os _))) ?_
 intro W base args ds gs before aIU hW _ _ hz hL hsh _;refine akO H enc W base args ds gs before aIU hW hL hsh (λj t d ht hd q hq=>?_);have h1:=List.all_eq_true.1 hz q (DataW.weights_mem_each (j:=j) (t:=t) (d:=d) (by rw[aUY (by have:=(Array.getElem?_eq_some_iff.1 ht).1;simpa using this)];simpa using ht) (by rw[aUY (List.getElem?_eq_some_iff.1 hd).1];exact hd) q hq)
 simpa using h1
theorem aOB{a b:Bool}(h:a=true)(k:b=true):(a&&b)=true:=by rw[h,k];rfl
set_option maxHeartbeats 4000000 in
theorem closed:joinedFacts Tryz.pinned.checked.prog 3 Tryz.f3 (bgR Rows.printerMatchesReferenceSpec).bare Rows.printerMatchesReferenceRow=true:=by
 unfold joinedFacts
 repeat' (with_reducible refine aOB ?_ ?_)
 all_goals as_aux_lemma=>kernel_rfl
theorem said:Rows.PrinterMatchesReferenceSaid :=
 OpenClaim.holds_of_cond 3 Tryz.f3 rfl rfl rfl rfl rfl rfl rfl ⟨rfl,rfl,rfl,rfl,rfl⟩ rfl rfl rfl rfl rfl (by kernel_rfl) Tryz.func3 closed
   (of_decide_eq_true (by kernel_rfl)) (by unfold Func.isWrapper;first | (rw[if_pos (by decide +kernel)];kernel_rfl) | (rw[if_neg (by decide +kernel)];exact⟨rfl,rfl⟩))
   (λos started H enc _ F=>by rw[OpenClaim.pre_eq_preRow];exact lifted os started H enc F)
theorem plain(f:FuncId)(fn:Func)(hf:Tryz.pinned.checked.prog.funcNamed "wageoffice/wageofficelaw08.PrinterMatchesReference"=some f)(hfn:Tryz.pinned.checked.prog.funcs[f]?=some fn) :
   true=Tryz.pinned.checked.prog.looks []/\∀(j:Nat) t,fn.params[j]?=some t->Tryz.pinned.checked.prog.wantsStandIn t=false:=by
 obtain rfl:f=3:=bbJ ((show Tryz.prog.funcNamed "wageoffice/wageofficelaw08.PrinterMatchesReference"=some 3 by kernel_rfl).symm.trans hf) |>.symm;obtain rfl:fn=Tryz.f3:=(bbJ (Tryz.func3.symm.trans hfn)).symm;refine⟨by kernel_rfl,λj t ht=>?_⟩;rw[Tryz.params3] at ht;have ht':=Array.mem_of_getElem? ht;simp only[List.mem_toArray,List.mem_cons,List.not_mem_nil,or_false,or_self] at ht';subst ht';exact(show Tryz.prog.wantsStandIn 27=false by kernel_rfl)
theorem aTZ:Rows.PrinterMatchesReferenceCardSaid :=
 Claim7.holds_tied_plain_at .later [] _ _ _ _ said (λ_ h=>by cases h) (by kernel_rfl) (λ_ h=>by cases h) Mg rfl ⟨rfl,rfl⟩ (by kernel_rfl) rfl plain (by kernel_rfl)
end Go.Proofs.YtkcimienkafhmaaGreatDoor.printerMatchesReference
namespace Go.Proofs.YtkcimienkafhmaaGreatDoor
theorem printerMatchesReference_holds:Rows.PrinterMatchesReferenceCardSaid:=printerMatchesReference.aTZ
#print axioms printerMatchesReference_holds
end Go.Proofs.YtkcimienkafhmaaGreatDoor
