/- Part of a proof: see the last text. -/
import Derived.Test.YtnijkdknnmgoeaaGreatCmp
import Derived.Deep.DeepHandedRow
import Derived.LaidLaws
set_option linter.unusedVariables false
set_option linter.unusedSimpArgs false
set_option linter.defProp false
noncomputable section
namespace Go.Proofs.YtnijkdknnmgoeaaGreat.codexMatchesReference
open Go.ChangeShapes Go.WideShapes Go.ChangeAt Go.RowKit AI
set_option maxHeartbeats 4000000 in
set_option maxRecDepth 100000 in
theorem acV(H:Type)(enc:TypeId×Value->H)(W:World)(base:Nat)(args:Array Value)(ds gs:List (DataW H))(before:List MemPlace)
   (qU:∀(j:Nat) t v,Tryz.f3.params[j]?=some t->args[j]?=some v->Value.okWide Tryz.prog W .any base t v)
   (hW:DataW.Whole enc Tryz.prog Tryz.f3.params.toList Rows.codexMatchesReferenceSpec.vars false W args.toList ds gs before) :
   Calls Tryz.prog 3 args W λe W'=>∃v,e=.returned v/\Rows.codexMatchesReferenceSpec.post enc Tryz.prog Tryz.f3 false true false false W args v W':=by
 have hW':=hW;obtain⟨p,q,hA0,hV,rfl,hfz,hnd⟩:=hW;have hA:DataW.TrodAll enc Tryz.prog W 0 (λ_=>true) true Tryz.f3.params.toList args.toList ds p:=hA0;rw[Tryz.params3] at hA qU;obtain⟨v0,vs0,d0,ds0,p0,q0,G6,rfl,rfl,h0,r0⟩:=trodAll_cons hA;obtain⟨v1,vs1,d1,ds1,p1,q1,rfl,rfl,rfl,h1,r1⟩:=trodAll_cons r0;obtain⟨v2,vs2,d2,ds2,p2,q2,rfl,rfl,rfl,h2,r2⟩:=trodAll_cons r1;obtain⟨v3,vs3,d3,ds3,p3,q3,rfl,rfl,rfl,h3,r3⟩:=trodAll_cons r2;obtain⟨v4,vs4,d4,ds4,p4,q4,rfl,rfl,rfl,h4,r4⟩:=trodAll_cons r3;obtain⟨v5,vs5,d5,ds5,p5,q5,rfl,rfl,rfl,h5,r5⟩:=trodAll_cons r4;obtain⟨v6,vs6,d6,ds6,p6,q6,rfl,rfl,rfl,h6,r6⟩:=trodAll_cons r5;obtain⟨rfl,rfl,rfl⟩:=trodAll_nil r6;obtain rfl:args=#[v0,v1,v2,v3,v4,v5,v6]:=Array.ext' G6;obtain⟨rfl,rfl⟩:=trodVars_none hV;have k0:=h0;have lt0:∀x∈p0,x.block < W.heap.size:=by obtain⟨m,hm⟩:=k0;exact DataW.trod_lt m _ _ _ hm
 obtain⟨y0,ok0,R0⟩:∃y:Mo.Nd,Mo.Iu y/\C8 (Mo.bP W) W (Mo.Dq y) v0.cells.toList:=by obtain⟨m,hm⟩:=h0;exact Mo.o27 m _ _ hm
 have A0:=Mo.aeb (by simp[Mo.Dq]) R0;have k1:=h1;have lt1:∀x∈p1,x.block < W.heap.size:=by obtain⟨m,hm⟩:=k1;exact DataW.trod_lt m _ _ _ hm
 obtain⟨y1,ok1,R1⟩:∃y:Mo.Co,Mo.aiC y/\C8 (Mo.bP W) W (Mo.Ko y) v1.cells.toList:=by obtain⟨m,hm⟩:=h1;exact Mo.o31 m _ _ hm
 have A1:=Mo.aeb (by simp[Mo.Ko]) R1;obtain⟨z2,rfl,rfl,rfl,w2⟩:=open_int Tryz.underlying3 (qU 2 3 v2 (by kernel_rfl) (by simp)) h2;obtain⟨z3,rfl,rfl,rfl,w3⟩:=open_int Tryz.underlying3 (qU 3 3 v3 (by kernel_rfl) (by simp)) h3;obtain⟨z4,rfl,rfl,rfl,w4⟩:=open_int Tryz.underlying3 (qU 4 3 v4 (by kernel_rfl) (by simp)) h4;obtain⟨z5,rfl,rfl,rfl,w5⟩:=open_int Tryz.underlying3 (qU 5 3 v5 (by kernel_rfl) (by simp)) h5;obtain⟨z6,rfl,rfl,rfl,w6⟩:=open_int Tryz.underlying3 (qU 6 3 v6 (by kernel_rfl) (by simp)) h6;clear hA0;refine(Mo.acw (vs:=[v0,v1,.int .i64 z2,.int .i64 z3,.int .i64 z4,.int .i64 z5,.int .i64 z6]) (Mo.Nh (Mo.Q7 _ _ _ _ _ ok0 ok1)) (.cons A0 (.cons A1 (.cons (.sc rfl) (.cons (.sc rfl) (.cons (.sc rfl) (.cons (.sc rfl) (.cons (.sc rfl) .nil)))))))).mono λe W' ⟨he,bel⟩=>?_;subst he;exact⟨_,rfl,_,_,_,[],_,[],hW',trodAll_mk1 (shut_bool Tryz.underlying4 _),(trodAll_cons_mk (Below.trod laidOut (by kernel_rfl) (of_decide_eq_true (by kernel_rfl)) k0 bel lt0) (trodAll_cons_mk (Below.trod laidOut (by kernel_rfl) (of_decide_eq_true (by kernel_rfl)) k1 bel lt1) (trodAll_cons_mk (shut_int Tryz.underlying3 w2) (trodAll_cons_mk (shut_int Tryz.underlying3 w3) (trodAll_cons_mk (shut_int Tryz.underlying3 w4) (trodAll_cons_mk (shut_int Tryz.underlying3 w5) (trodAll_cons_mk (shut_int Tryz.underlying3 w6) trodAll_mk0))))))),rfl,bel.frame _,λh=>by cases h⟩
def ZR(os:Os):World:=World.holding Tryz.prog os ⟨#[],#[],[]⟩
theorem adV(os:Os):laidMet Tryz.prog Rows.codexMatchesReferenceRow.laid ((ZR os).forCall (λ_ _=>0) ⟨#[],#[.agg #[.int .i64 0,.string ByteArray.empty,.string ByteArray.empty,.int .i64 0,.int .i64 0,.int .i64 0,.int .i64 0,.int .i64 0,.slice none 0 0,.slice none 0 0,.int .i64 0],.agg #[.slice none 0 0,.slice none 0 0,.slice none 0 0],.int .i64 0,.int .i64 0,.int .i64 0,.int .i64 0,.int .i64 0],[]⟩).memory :=
 laidMet_of_run' 8 (by kernel_rfl) (by kernel_rfl)
theorem reads(os:Os){H:Type}(enc:TypeId×Value->H):∃adZ,DataW.whole enc Tryz.prog ((ZR os).forCall (λ_ _=>0) ⟨#[],#[.agg #[.int .i64 0,.string ByteArray.empty,.string ByteArray.empty,.int .i64 0,.int .i64 0,.int .i64 0,.int .i64 0,.int .i64 0,.slice none 0 0,.slice none 0 0,.int .i64 0],.agg #[.slice none 0 0,.slice none 0 0,.slice none 0 0],.int .i64 0,.int .i64 0,.int .i64 0,.int .i64 0,.int .i64 0],[]⟩).memory Tryz.f3.params.toList Rows.codexMatchesReferenceSpec.vars false (#[.agg #[.int .i64 0,.string ByteArray.empty,.string ByteArray.empty,.int .i64 0,.int .i64 0,.int .i64 0,.int .i64 0,.int .i64 0,.slice none 0 0,.slice none 0 0,.int .i64 0],.agg #[.slice none 0 0,.slice none 0 0,.slice none 0 0],.int .i64 0,.int .i64 0,.int .i64 0,.int .i64 0,.int .i64 0]:Array Value).toList 8=some ([.agg [.lit (.int .i64 0),.lit (.string []),.lit (.string []),.lit (.int .i64 0),.lit (.int .i64 0),.lit (.int .i64 0),.lit (.int .i64 0),.agg [.lit (.int .i64 0),.nil],.nil,.lit (.int .i64 0)],.agg [.nil,.nil,.nil],.lit (.int .i64 0),.lit (.int .i64 0),.lit (.int .i64 0),.lit (.int .i64 0),.lit (.int .i64 0)],[],adZ) :=
 ⟨[],by kernel_rfl⟩
set_option maxRecDepth 100000 in
theorem lifted(os:Os)(started:os.Started)(H:Type)(enc:TypeId×Value->H)(F:Stop.Interp) :
   ReturnsInHanded {} Tryz.checked os 3 .any ((OpenSpec.ofChange Rows.codexMatchesReferenceSpec).preRow enc Tryz.prog Tryz.f3 Rows.codexMatchesReferenceRow.domain false Rows.codexMatchesReferenceRow.laid) (((OpenSpec.ofChange Rows.codexMatchesReferenceSpec).at F).post enc Tryz.prog Tryz.f3 false true false false):=by
 obtain⟨adZ,hx⟩:=reads os enc
 refine returnsInHanded_of_row (C:=Tryz.checked) (s:=OpenSpec.ofChange Rows.codexMatchesReferenceSpec) own started (by kernel_rfl) Tryz.func3
   (witness_row_at (enc:=enc) (C:=Tryz.checked) false (ZR os) #[.agg #[.int .i64 0,.string ByteArray.empty,.string ByteArray.empty,.int .i64 0,.int .i64 0,.int .i64 0,.int .i64 0,.int .i64 0,.slice none 0 0,.slice none 0 0,.int .i64 0],.agg #[.slice none 0 0,.slice none 0 0,.slice none 0 0],.int .i64 0,.int .i64 0,.int .i64 0,.int .i64 0,.int .i64 0] rfl (by kernel_rfl) (by kernel_rfl) (by kernel_rfl)
     (OpenSpec.preRow_of_cond 8 hx (by kernel_rfl) (λk hk=>by cases hk) (by kernel_rfl) (adV os))) ?_
 intro W base args ds gs before qU hW _ _ _ _ _ _;exact acV H enc W base args ds gs before qU hW
theorem said:Rows.CodexMatchesReferenceSaid :=
 OpenClaim.holds_of_cond 3 Tryz.f3 rfl rfl rfl rfl rfl rfl rfl ⟨rfl,rfl,rfl,rfl,rfl⟩ rfl rfl rfl rfl rfl (by kernel_rfl) Tryz.func3 (by kernel_rfl)
   (of_decide_eq_true (by kernel_rfl)) (by unfold Func.isWrapper;first | (rw[if_pos (by decide +kernel)];kernel_rfl) | (rw[if_neg (by decide +kernel)];exact⟨rfl,rfl⟩))
   (λos started H enc _ F=>by rw[OpenClaim.pre_eq_preRow];exact lifted os started H enc F)
end Go.Proofs.YtnijkdknnmgoeaaGreat.codexMatchesReference
namespace Go.Proofs.YtnijkdknnmgoeaaGreat
theorem codexMatchesReference_holds:Rows.CodexMatchesReferenceSaid:=codexMatchesReference.said
#print axioms codexMatchesReference_holds
end Go.Proofs.YtnijkdknnmgoeaaGreat
