/- Part of a proof: see the last text. -/
import Derived.Test.YtkfplcngmiljaaaGreatDoorUos
import Derived.Deep.DeepHandedRow
import Derived.LaidLaws
set_option linter.unusedVariables false
set_option linter.unusedSimpArgs false
namespace Go.Proofs.YtkfplcngmiljaaaGreatDoor.unitsOffsets
open Go.ChangeShapes Go.WideShapes Go.ChangeAt Go.RowKit AI
open Go.ChangeMaps (open_string shut_string)
set_option maxHeartbeats 4000000 in
set_option maxRecDepth 100000 in
theorem Xk (H:Type) (enc:TypeId×Value→H) (W:World) (base:Nat) (args:Array Value) (ds gs:List (DataW H)) (before:List MemPlace)
   (hval:∀ (j:Nat) t v,Tryz.f10.params[j]?=some t→args[j]?=some v→Value.okWide Tryz.prog W .any base t v)
   (hW:DataW.Whole enc Tryz.prog Tryz.f10.params.toList Rows.unitsOffsetsSpec.vars false W args.toList ds gs before) (hL:laidMetH Tryz.prog Rows.unitsOffsetsRow.laid W) (hsh:W.ShapedOpen Tryz.prog)
   (hz:∀ (j:Nat) (t:TypeId) (d:DataW H),Tryz.f10.params[j]?=some t→ds[j]?=some d→∀ q∈d.weights Tryz.prog t,q≤reachBytes) :
   Calls Tryz.prog 10 args W fun e W'=>∃ v,e=.returned v∧Rows.unitsOffsetsSpec.post enc Tryz.prog Tryz.f10 false true false false W args v W':=by
 have hW':=hW
 obtain ⟨mx,hst⟩:=SU hL hsh
 obtain ⟨p,q,hA0,hV,rfl,hfz,hnd⟩:=hW
 have hA:DataW.TrodAll enc Tryz.prog W 0 (fun _=>true) true Tryz.f10.params.toList args.toList ds p:=hA0
 rw [Tryz.params10] at hA hval
 obtain ⟨v0,vs0,d0,ds0,p0,q0,hargs,rfl,rfl,h0,r0⟩:=trodAll_cons hA
 obtain ⟨v1,vs1,d1,ds1,p1,q1,rfl,rfl,rfl,h1,r1⟩:=trodAll_cons r0
 obtain ⟨rfl,rfl,rfl⟩:=trodAll_nil r1
 obtain rfl:args=#[v0,v1]:=Array.ext' hargs
 obtain ⟨rfl,rfl⟩:=trodVars_none hV
 have k0:=h0
 have lt0:∀ x∈p0,x.block < W.heap.size:=by obtain ⟨m,hm⟩:=k0;exact DataW.trod_lt m _ _ _ hm
 obtain ⟨y0,ok0,R0⟩:∃ y:Mo.Nd,Mo.DS y∧A6 (Mo.K2 W) W (Mo.BP y) v0.cells.toList:=by obtain ⟨m,hm⟩:=h0;exact Mo.xW m _ _ hm
 have A0:=Mo.VH (by simp [Mo.BP]) R0
 have s0:Mo.RF y0:=by obtain ⟨m,hm⟩:=k0;exact Mo.wJ m _ _ hm (hz 0 27 d0 (by kernel_rfl) rfl) y0 R0
 have k1:=h1
 have lt1:∀ x∈p1,x.block < W.heap.size:=by obtain ⟨m,hm⟩:=k1;exact DataW.trod_lt m _ _ _ hm
 obtain ⟨y1,ok1,R1⟩:∃ y:Mo.Nd,Mo.DS y∧A6 (Mo.K2 W) W (Mo.BP y) v1.cells.toList:=by obtain ⟨m,hm⟩:=h1;exact Mo.xW m _ _ hm
 have A1:=Mo.VH (by simp [Mo.BP]) R1
 have s1:Mo.RF y1:=by obtain ⟨m,hm⟩:=k1;exact Mo.wJ m _ _ hm (hz 1 27 d1 (by kernel_rfl) rfl) y1 R1
 clear hA0
 refine (Sb (vs:=[v0,v1]) hst (Mo.Hi (mx:=mx) (Mo.Lr y0 y1 ok0 ok1 s0 s1)) (.cons A0 (.cons A1 .nil))).mono fun e W' ⟨he,bel⟩=>?_
 subst he
 exact ⟨_,rfl,_,_,_,[],_,[],hW',trodAll_mk1 (shut_bool Tryz.underlying4 _),(trodAll_cons_mk (Below.trod laidOut (by kernel_rfl) (of_decide_eq_true (by kernel_rfl)) k0 bel lt0) (trodAll_cons_mk (Below.trod laidOut (by kernel_rfl) (of_decide_eq_true (by kernel_rfl)) k1 bel lt1) trodAll_mk0)),rfl,bel.frame _,fun h=>by cases h⟩
theorem reads (os:Os) {H:Type} (enc:TypeId×Value→H):∃ places,DataW.whole enc Tryz.prog ((K0 os).forCall (fun _ _=>0) ⟨#[],#[.agg #[.int .i64 0,.string ByteArray.empty,.string ByteArray.empty,.int .i64 0,.int .i64 0,.int .i64 0,.int .i64 0,.int .i64 0,.slice none 0 0,.slice none 0 0,.int .i64 0],.agg #[.int .i64 0,.string ByteArray.empty,.string ByteArray.empty,.int .i64 0,.int .i64 0,.int .i64 0,.int .i64 0,.int .i64 0,.slice none 0 0,.slice none 0 0,.int .i64 0]],[]⟩).memory Tryz.f10.params.toList Rows.unitsOffsetsSpec.vars false (#[.agg #[.int .i64 0,.string ByteArray.empty,.string ByteArray.empty,.int .i64 0,.int .i64 0,.int .i64 0,.int .i64 0,.int .i64 0,.slice none 0 0,.slice none 0 0,.int .i64 0],.agg #[.int .i64 0,.string ByteArray.empty,.string ByteArray.empty,.int .i64 0,.int .i64 0,.int .i64 0,.int .i64 0,.int .i64 0,.slice none 0 0,.slice none 0 0,.int .i64 0]]:Array Value).toList 8=some ([.agg [.lit (.int .i64 0),.lit (.string []),.lit (.string []),.lit (.int .i64 0),.lit (.int .i64 0),.lit (.int .i64 0),.lit (.int .i64 0),.agg [.lit (.int .i64 0),.nil],.nil,.lit (.int .i64 0)],.agg [.lit (.int .i64 0),.lit (.string []),.lit (.string []),.lit (.int .i64 0),.lit (.int .i64 0),.lit (.int .i64 0),.lit (.int .i64 0),.agg [.lit (.int .i64 0),.nil],.nil,.lit (.int .i64 0)]],[],places) :=
 ⟨[],by kernel_rfl⟩
set_option maxRecDepth 100000 in
theorem lifted (os:Os) (started:os.Started) (H:Type) (enc:TypeId×Value→H) (F:Stop.Interp) :
   ReturnsInHanded {} Tryz.checked os 10 .any ((OpenSpec.ofChange Rows.unitsOffsetsSpec).preRow enc Tryz.prog Tryz.f10 Rows.unitsOffsetsRow.domain false Rows.unitsOffsetsRow.laid) (((OpenSpec.ofChange Rows.unitsOffsetsSpec).at F).post enc Tryz.prog Tryz.f10 false true false false):=by
 obtain ⟨places,hx⟩:=reads os enc
 refine returnsInHanded_of_row (C:=Tryz.checked) (s:=OpenSpec.ofChange Rows.unitsOffsetsSpec) own started (by kernel_rfl) Tryz.func10
   (witness_row_at (enc:=enc) (C:=Tryz.checked) false (K0 os) #[.agg #[.int .i64 0,.string ByteArray.empty,.string ByteArray.empty,.int .i64 0,.int .i64 0,.int .i64 0,.int .i64 0,.int .i64 0,.slice none 0 0,.slice none 0 0,.int .i64 0],.agg #[.int .i64 0,.string ByteArray.empty,.string ByteArray.empty,.int .i64 0,.int .i64 0,.int .i64 0,.int .i64 0,.int .i64 0,.slice none 0 0,.slice none 0 0,.int .i64 0]] rfl (by kernel_rfl) (by kernel_rfl) (by kernel_rfl)
     (OpenSpec.preRow_of_cond 8 hx (by kernel_rfl) (fun k hk=>by cases hk) (by kernel_rfl) (WB os _))) ?_
 intro W base args ds gs before hval hW _ _ hz hL hsh _
 refine Xk H enc W base args ds gs before hval hW hL hsh (fun j t d ht hd q hq=>?_)
 have h1:=List.all_eq_true.1 hz q (DataW.weights_mem_each (j:=j) (t:=t) (d:=d) (by rw [List.getElem?_append_left (by have:=(Array.getElem?_eq_some_iff.1 ht).1;simpa using this)];simpa using ht) (by rw [List.getElem?_append_left (List.getElem?_eq_some_iff.1 hd).1];exact hd) q hq)
 simpa using h1
theorem said:Rows.UnitsOffsetsSaid :=
 OpenClaim.holds_of_cond 10 Tryz.f10 rfl rfl rfl rfl rfl rfl rfl ⟨rfl,rfl,rfl,rfl,rfl⟩ rfl rfl rfl rfl rfl (by kernel_rfl) Tryz.func10 (by kernel_rfl)
   (of_decide_eq_true (by kernel_rfl)) (by unfold Func.isWrapper;first | (rw [if_pos (by decide +kernel)];kernel_rfl) | (rw [if_neg (by decide +kernel)];exact ⟨rfl,rfl⟩))
   (fun os started H enc _ F=>by rw [OpenClaim.pre_eq_preRow];exact lifted os started H enc F)
theorem plain (f:FuncId) (fn:Func) (hf:Tryz.pinned.checked.prog.funcNamed "wageoffice/wageofficelaw09.UnitsOffsets"=some f) (hfn:Tryz.pinned.checked.prog.funcs[f]?=some fn) :
   true=Tryz.pinned.checked.prog.looks []∧∀ (j:Nat) t,fn.params[j]?=some t→Tryz.pinned.checked.prog.wantsStandIn t=false:=by
 obtain rfl:f=10:=Option.some.inj ((show Tryz.prog.funcNamed "wageoffice/wageofficelaw09.UnitsOffsets"=some 10 by kernel_rfl).symm.trans hf) |>.symm
 obtain rfl:fn=Tryz.f10:=(Option.some.inj (Tryz.func10.symm.trans hfn)).symm
 refine ⟨by kernel_rfl,fun j t ht=>?_⟩
 rw [Tryz.params10] at ht
 have ht':=Array.mem_of_getElem? ht
 simp only [List.mem_toArray,List.mem_cons,List.not_mem_nil,or_false,or_self] at ht'
 subst ht'
 exact (show Tryz.prog.wantsStandIn 27=false by kernel_rfl)
theorem tQ:Rows.UnitsOffsetsCardSaid :=
 Claim7.holds_tied_plain_at .later [] _ _ _ _ said (fun _ h=>by cases h) (by kernel_rfl) (fun _ h=>by cases h) unitsOffsets_row_tie rfl ⟨rfl,rfl⟩ (by kernel_rfl) rfl plain (by kernel_rfl)
end Go.Proofs.YtkfplcngmiljaaaGreatDoor.unitsOffsets
namespace Go.Proofs.YtkfplcngmiljaaaGreatDoor
theorem unitsOffsets_holds:Rows.UnitsOffsetsCardSaid:=unitsOffsets.tQ
#print axioms unitsOffsets_holds
end Go.Proofs.YtkfplcngmiljaaaGreatDoor
