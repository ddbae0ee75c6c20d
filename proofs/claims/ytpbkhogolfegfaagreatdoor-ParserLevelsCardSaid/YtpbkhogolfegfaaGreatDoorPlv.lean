/- Part of a proof: see the last text. -/
import Derived.Test.YtpbkhogolfegfaaGreatDoorPlu
import Derived.Deep.DeepHandedRow
import Derived.LaidLaws
set_option linter.unusedVariables false
set_option linter.unusedSimpArgs false
set_option linter.defProp false
noncomputable section
namespace Go.Proofs.YtpbkhogolfegfaaGreatDoor.parserLevels
open Go.ChangeShapes Go.WideShapes Go.ChangeAt Go.RowKit AI
open Go.ChangeMaps (open_string shut_string)
set_option maxHeartbeats 4000000 in
set_option maxRecDepth 100000 in
theorem abZ(H:Type)(enc:TypeId×Value->H)(W:World)(base:Nat)(args:Array Value)(ds gs:List (DataW H))(before:List MemPlace)
   (anJ:∀(j:Nat) t v,Tryz.f9.params[j]?=some t->args[j]?=some v->Value.okWide Tryz.prog W .any base t v)
   (hW:DataW.Whole enc Tryz.prog Tryz.f9.params.toList Rows.parserLevelsSpec.vars false W args.toList ds gs before) (hL:laidMetH Tryz.prog Rows.parserLevelsRow.laid W) (GG:W.ShapedOpen Tryz.prog)
   (hz:∀(j:Nat) (t:TypeId) (d:DataW H),Tryz.f9.params[j]?=some t->ds[j]?=some d->∀q∈d.weights Tryz.prog t,q<=reachBytes) :
   Calls Tryz.prog 9 args W λe W'=>∃v,e=.returned v/\Rows.parserLevelsSpec.post enc Tryz.prog Tryz.f9 false true false false W args v W':=by
 have hW':=hW;obtain⟨mx,FW⟩:=qO hL GG;obtain⟨p,q,hA0,hV,rfl,hfz,hnd⟩:=hW;have hA:DataW.TrodAll enc Tryz.prog W 0 (λ_=>true) true Tryz.f9.params.toList args.toList ds p:=hA0;rw[Tryz.params9] at hA anJ;obtain⟨v0,vs0,d0,ds0,p0,q0,GD,rfl,rfl,h0,r0⟩:=trodAll_cons hA;obtain⟨rfl,rfl,rfl⟩:=trodAll_nil r0;obtain rfl:args=#[v0]:=Array.ext' GD;obtain⟨rfl,rfl⟩:=trodVars_none hV;have k0:=h0;have lt0:∀x∈p0,x.block < W.heap.size:=by obtain⟨m,hm⟩:=k0;exact DataW.trod_lt m _ _ _ hm
 obtain⟨a0,aEB,Pf,rfl⟩:=okWide_slice Tryz.underlying52 (anJ 0 52 v0 (by kernel_rfl) (by simp));obtain⟨y0,A0,ok0,ln0⟩:∃y:List Int,Rp (Mo.WT W) W (.sl .lost y.length (rows Mo.mU y)) (.slice a0 aEB Pf)/\(∀x∈y,0<=x/\x<=255)/\y.length<=9223372036854775807:=by obtain⟨m,hm⟩:=h0;exact Mo.VF Mo.mU 1 (by decide) (λ_=>rfl) _ Tryz.underlying52 Mo.c5 (λk cs x hk ht=>Mo.o5 k cs x ht) hm
 clear hA0;refine(oX (vs:=[.slice a0 aEB Pf]) FW (Mo.Pq (mx:=mx) (Mo.Wu y0 ok0 ln0 )) (.cons A0 .nil)).mono λe W' ⟨he,bel⟩=>?_;subst he;exact⟨_,rfl,_,_,_,[],_,[],hW',trodAll_mk1 (shut_bool Tryz.underlying4 _),(trodAll_cons_mk (Below.trod laidOut (by kernel_rfl) (of_decide_eq_true (by kernel_rfl)) k0 bel lt0) trodAll_mk0),rfl,bel.frame _,λh=>by cases h⟩
theorem reads(os:Os){H:Type}(enc:TypeId×Value->H):∃places,DataW.whole enc Tryz.prog ((Vu os).forCall (λ_ _=>0) ⟨#[],#[.slice none 0 0],[]⟩).memory Tryz.f9.params.toList Rows.parserLevelsSpec.vars false (#[.slice none 0 0]:Array Value).toList 8=some ([.nil],[],places) :=
 ⟨[],by kernel_rfl⟩
set_option maxRecDepth 100000 in
theorem lifted(os:Os)(started:os.Started)(H:Type)(enc:TypeId×Value->H)(F:Stop.Interp) :
   ReturnsInHanded {} Tryz.checked os 9 .any ((OpenSpec.ofChange Rows.parserLevelsSpec).preRow enc Tryz.prog Tryz.f9 Rows.parserLevelsRow.domain false Rows.parserLevelsRow.laid) (((OpenSpec.ofChange Rows.parserLevelsSpec).at F).post enc Tryz.prog Tryz.f9 false true false false):=by
 obtain⟨places,hx⟩:=reads os enc
 refine returnsInHanded_of_row (C:=Tryz.checked) (s:=OpenSpec.ofChange Rows.parserLevelsSpec) own started (by kernel_rfl) Tryz.func9
   (witness_row_at (enc:=enc) (C:=Tryz.checked) false (Vu os) #[.slice none 0 0] rfl (by kernel_rfl) (by kernel_rfl) (by kernel_rfl)
     (OpenSpec.preRow_of_cond 8 hx (by kernel_rfl) (λk hk=>by cases hk) (by kernel_rfl) (afA os _))) ?_
 intro W base args ds gs before anJ hW _ _ hz hL GG _;refine abZ H enc W base args ds gs before anJ hW hL GG (λj t d ht hd q hq=>?_);have h1:=List.all_eq_true.1 hz q (DataW.weights_mem_each (j:=j) (t:=t) (d:=d) (by rw[List.getElem?_append_left (by have:=(Array.getElem?_eq_some_iff.1 ht).1;simpa using this)];simpa using ht) (by rw[List.getElem?_append_left (List.getElem?_eq_some_iff.1 hd).1];exact hd) q hq)
 simpa using h1
theorem said:Rows.ParserLevelsSaid :=
 OpenClaim.holds_of_cond 9 Tryz.f9 rfl rfl rfl rfl rfl rfl rfl ⟨rfl,rfl,rfl,rfl,rfl⟩ rfl rfl rfl rfl rfl (by kernel_rfl) Tryz.func9 (by kernel_rfl)
   (of_decide_eq_true (by kernel_rfl)) (by unfold Func.isWrapper;first | (rw[if_pos (by decide +kernel)];kernel_rfl) | (rw[if_neg (by decide +kernel)];exact⟨rfl,rfl⟩))
   (λos started H enc _ F=>by rw[OpenClaim.pre_eq_preRow];exact lifted os started H enc F)
theorem plain(f:FuncId)(fn:Func)(hf:Tryz.pinned.checked.prog.funcNamed "wageoffice/wageofficelaw07.ParserLevels"=some f)(hfn:Tryz.pinned.checked.prog.funcs[f]?=some fn) :
   true=Tryz.pinned.checked.prog.looks []/\∀(j:Nat) t,fn.params[j]?=some t->Tryz.pinned.checked.prog.wantsStandIn t=false:=by
 obtain rfl:f=9:=Option.some.inj ((show Tryz.prog.funcNamed "wageoffice/wageofficelaw07.ParserLevels"=some 9 by kernel_rfl).symm.trans hf) |>.symm;obtain rfl:fn=Tryz.f9:=(Option.some.inj (Tryz.func9.symm.trans hfn)).symm;refine⟨by kernel_rfl,λj t ht=>?_⟩;rw[Tryz.params9] at ht;have ht':=Array.mem_of_getElem? ht;simp only[List.mem_toArray,List.mem_cons,List.not_mem_nil,or_false] at ht';subst ht';exact(show Tryz.prog.wantsStandIn 52=false by kernel_rfl)
theorem aJI:Rows.ParserLevelsCardSaid :=
 Claim7.holds_tied_plain_at .later [] _ _ _ _ said (λ_ h=>by cases h) (by kernel_rfl) (λ_ h=>by cases h) parserLevels_row_tie rfl ⟨rfl,rfl⟩ (by kernel_rfl) rfl plain (by kernel_rfl)
end Go.Proofs.YtpbkhogolfegfaaGreatDoor.parserLevels
namespace Go.Proofs.YtpbkhogolfegfaaGreatDoor
theorem parserLevels_holds:Rows.ParserLevelsCardSaid:=parserLevels.aJI
#print axioms parserLevels_holds
end Go.Proofs.YtpbkhogolfegfaaGreatDoor
