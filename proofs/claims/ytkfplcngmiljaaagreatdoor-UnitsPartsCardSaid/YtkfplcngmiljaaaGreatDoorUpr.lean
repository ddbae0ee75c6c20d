/- Part of a proof: see the last text. -/
import Derived.Test.YtkfplcngmiljaaaGreatDoorUpq
import Derived.Deep.DeepHandedRow
import Derived.LaidLaws
set_option linter.unusedVariables false
set_option linter.unusedSimpArgs false
namespace Go.Proofs.YtkfplcngmiljaaaGreatDoor.unitsParts
open Go.ChangeShapes Go.WideShapes Go.ChangeAt Go.RowKit AI
open Go.ChangeMaps (open_string shut_string)
set_option maxHeartbeats 4000000 in
set_option maxRecDepth 100000 in
theorem Vh (H:Type) (enc:TypeId×Value→H) (W:World) (base:Nat) (args:Array Value) (ds gs:List (DataW H)) (before:List MemPlace)
   (hval:∀ (j:Nat) t v,Tryz.f9.params[j]?=some t→args[j]?=some v→Value.okWide Tryz.prog W .any base t v)
   (hW:DataW.Whole enc Tryz.prog Tryz.f9.params.toList Rows.unitsPartsSpec.vars false W args.toList ds gs before) (hL:laidMetH Tryz.prog Rows.unitsPartsRow.laid W) (hsh:W.ShapedOpen Tryz.prog) :
   Calls Tryz.prog 9 args W fun e W'=>∃ v,e=.returned v∧Rows.unitsPartsSpec.post enc Tryz.prog Tryz.f9 false true false false W args v W':=by
 have hW':=hW
 obtain ⟨mx,hst⟩:=R4 hL hsh
 obtain ⟨p,q,hA0,hV,rfl,hfz,hnd⟩:=hW
 have hA:DataW.TrodAll enc Tryz.prog W 0 (fun _=>true) true Tryz.f9.params.toList args.toList ds p:=hA0
 rw [Tryz.params9] at hA hval
 obtain ⟨v0,vs0,d0,ds0,p0,q0,hargs,rfl,rfl,h0,r0⟩:=trodAll_cons hA
 obtain ⟨v1,vs1,d1,ds1,p1,q1,rfl,rfl,rfl,h1,r1⟩:=trodAll_cons r0
 obtain ⟨v2,vs2,d2,ds2,p2,q2,rfl,rfl,rfl,h2,r2⟩:=trodAll_cons r1
 obtain ⟨v3,vs3,d3,ds3,p3,q3,rfl,rfl,rfl,h3,r3⟩:=trodAll_cons r2
 obtain ⟨rfl,rfl,rfl⟩:=trodAll_nil r3
 obtain rfl:args=#[v0,v1,v2,v3]:=Array.ext' hargs
 obtain ⟨rfl,rfl⟩:=trodVars_none hV
 have k0:=h0
 have lt0:∀ x∈p0,x.block < W.heap.size:=by obtain ⟨m,hm⟩:=k0;exact DataW.trod_lt m _ _ _ hm
 obtain ⟨y0,ok0,R0⟩:∃ y:Mo.Nd,Mo.C8 y∧Bh (Mo.LZ W) W (Mo.BA y) v0.cells.toList:=by obtain ⟨m,hm⟩:=h0;exact Mo.r4 m _ _ hm
 have A0:=Mo.R5 (by simp [Mo.BA]) R0
 have k1:=h1
 have lt1:∀ x∈p1,x.block < W.heap.size:=by obtain ⟨m,hm⟩:=k1;exact DataW.trod_lt m _ _ _ hm
 obtain ⟨y1,ok1,R1⟩:∃ y:Mo.Nd,Mo.C8 y∧Bh (Mo.LZ W) W (Mo.BA y) v1.cells.toList:=by obtain ⟨m,hm⟩:=h1;exact Mo.r4 m _ _ hm
 have A1:=Mo.R5 (by simp [Mo.BA]) R1
 have k2:=h2
 have lt2:∀ x∈p2,x.block < W.heap.size:=by obtain ⟨m,hm⟩:=k2;exact DataW.trod_lt m _ _ _ hm
 obtain ⟨a2,len2,cap2,rfl⟩:=okWide_slice Tryz.underlying42 (hval 2 42 v2 (by kernel_rfl) (by simp))
 obtain ⟨y2,A2,ok2,ln2⟩:∃ y:List Int,Rp (Mo.LZ W) W (.sl .lost y.length (rows Mo.QW y)) (.slice a2 len2 cap2)∧(∀ x∈y,0≤x∧x≤255)∧y.length≤9223372036854775807:=by obtain ⟨m,hm⟩:=h2;exact Mo.L5 Mo.QW 1 (by decide) (fun _=>rfl) _ Tryz.underlying42 Mo.c5 (fun k cs x hk ht=>Mo.o5 k cs x ht) hm
 have k3:=h3
 have lt3:∀ x∈p3,x.block < W.heap.size:=by obtain ⟨m,hm⟩:=k3;exact DataW.trod_lt m _ _ _ hm
 obtain ⟨y3,ok3,R3⟩:∃ y:Mo.Nd,Mo.C8 y∧Bh (Mo.LZ W) W (Mo.BA y) v3.cells.toList:=by obtain ⟨m,hm⟩:=h3;exact Mo.r4 m _ _ hm
 have A3:=Mo.R5 (by simp [Mo.BA]) R3
 clear hA0
 refine (SA (vs:=[v0,v1,.slice a2 len2 cap2,v3]) hst (Mo.I1 (mx:=mx) (Mo.Nu y0 y1 y2 y3 ok0 ok1 ok2 ln2 ok3)) (.cons A0 (.cons A1 (.cons A2 (.cons A3 .nil))))).mono fun e W' ⟨he,bel⟩=>?_
 subst he
 exact ⟨_,rfl,_,_,_,[],_,[],hW',trodAll_mk1 (shut_bool Tryz.underlying4 _),(trodAll_cons_mk (Below.trod laidOut (by kernel_rfl) (of_decide_eq_true (by kernel_rfl)) k0 bel lt0) (trodAll_cons_mk (Below.trod laidOut (by kernel_rfl) (of_decide_eq_true (by kernel_rfl)) k1 bel lt1) (trodAll_cons_mk (Below.trod laidOut (by kernel_rfl) (of_decide_eq_true (by kernel_rfl)) k2 bel lt2) (trodAll_cons_mk (Below.trod laidOut (by kernel_rfl) (of_decide_eq_true (by kernel_rfl)) k3 bel lt3) trodAll_mk0)))),rfl,bel.frame _,fun h=>by cases h⟩
theorem reads (os:Os) {H:Type} (enc:TypeId×Value→H):∃ places,DataW.whole enc Tryz.prog ((LN os).forCall (fun _ _=>0) ⟨#[],#[.agg #[.int .i64 0,.string ByteArray.empty,.string ByteArray.empty,.int .i64 0,.int .i64 0,.int .i64 0,.int .i64 0,.int .i64 0,.slice none 0 0,.slice none 0 0,.int .i64 0],.agg #[.int .i64 0,.string ByteArray.empty,.string ByteArray.empty,.int .i64 0,.int .i64 0,.int .i64 0,.int .i64 0,.int .i64 0,.slice none 0 0,.slice none 0 0,.int .i64 0],.slice none 0 0,.agg #[.int .i64 0,.string ByteArray.empty,.string ByteArray.empty,.int .i64 0,.int .i64 0,.int .i64 0,.int .i64 0,.int .i64 0,.slice none 0 0,.slice none 0 0,.int .i64 0]],[]⟩).memory Tryz.f9.params.toList Rows.unitsPartsSpec.vars false (#[.agg #[.int .i64 0,.string ByteArray.empty,.string ByteArray.empty,.int .i64 0,.int .i64 0,.int .i64 0,.int .i64 0,.int .i64 0,.slice none 0 0,.slice none 0 0,.int .i64 0],.agg #[.int .i64 0,.string ByteArray.empty,.string ByteArray.empty,.int .i64 0,.int .i64 0,.int .i64 0,.int .i64 0,.int .i64 0,.slice none 0 0,.slice none 0 0,.int .i64 0],.slice none 0 0,.agg #[.int .i64 0,.string ByteArray.empty,.string ByteArray.empty,.int .i64 0,.int .i64 0,.int .i64 0,.int .i64 0,.int .i64 0,.slice none 0 0,.slice none 0 0,.int .i64 0]]:Array Value).toList 8=some ([.agg [.lit (.int .i64 0),.lit (.string []),.lit (.string []),.lit (.int .i64 0),.lit (.int .i64 0),.lit (.int .i64 0),.lit (.int .i64 0),.agg [.lit (.int .i64 0),.nil],.nil,.lit (.int .i64 0)],.agg [.lit (.int .i64 0),.lit (.string []),.lit (.string []),.lit (.int .i64 0),.lit (.int .i64 0),.lit (.int .i64 0),.lit (.int .i64 0),.agg [.lit (.int .i64 0),.nil],.nil,.lit (.int .i64 0)],.nil,.agg [.lit (.int .i64 0),.lit (.string []),.lit (.string []),.lit (.int .i64 0),.lit (.int .i64 0),.lit (.int .i64 0),.lit (.int .i64 0),.agg [.lit (.int .i64 0),.nil],.nil,.lit (.int .i64 0)]],[],places) :=
 ⟨[],by kernel_rfl⟩
set_option maxRecDepth 100000 in
theorem lifted (os:Os) (started:os.Started) (H:Type) (enc:TypeId×Value→H) (F:Stop.Interp) :
   ReturnsInHanded {} Tryz.checked os 9 .any ((OpenSpec.ofChange Rows.unitsPartsSpec).preRow enc Tryz.prog Tryz.f9 Rows.unitsPartsRow.domain false Rows.unitsPartsRow.laid) (((OpenSpec.ofChange Rows.unitsPartsSpec).at F).post enc Tryz.prog Tryz.f9 false true false false):=by
 obtain ⟨places,hx⟩:=reads os enc
 refine returnsInHanded_of_row (C:=Tryz.checked) (s:=OpenSpec.ofChange Rows.unitsPartsSpec) own started (by kernel_rfl) Tryz.func9
   (witness_row_at (enc:=enc) (C:=Tryz.checked) false (LN os) #[.agg #[.int .i64 0,.string ByteArray.empty,.string ByteArray.empty,.int .i64 0,.int .i64 0,.int .i64 0,.int .i64 0,.int .i64 0,.slice none 0 0,.slice none 0 0,.int .i64 0],.agg #[.int .i64 0,.string ByteArray.empty,.string ByteArray.empty,.int .i64 0,.int .i64 0,.int .i64 0,.int .i64 0,.int .i64 0,.slice none 0 0,.slice none 0 0,.int .i64 0],.slice none 0 0,.agg #[.int .i64 0,.string ByteArray.empty,.string ByteArray.empty,.int .i64 0,.int .i64 0,.int .i64 0,.int .i64 0,.int .i64 0,.slice none 0 0,.slice none 0 0,.int .i64 0]] rfl (by kernel_rfl) (by kernel_rfl) (by kernel_rfl)
     (OpenSpec.preRow_of_cond 8 hx (by kernel_rfl) (fun k hk=>by cases hk) (by kernel_rfl) (WE os _))) ?_
 intro W base args ds gs before hval hW _ _ _ hL hsh _
 exact Vh H enc W base args ds gs before hval hW hL hsh
theorem said:Rows.UnitsPartsSaid :=
 OpenClaim.holds_of_cond 9 Tryz.f9 rfl rfl rfl rfl rfl rfl rfl ⟨rfl,rfl,rfl,rfl,rfl⟩ rfl rfl rfl rfl rfl (by kernel_rfl) Tryz.func9 (by kernel_rfl)
   (of_decide_eq_true (by kernel_rfl)) (by unfold Func.isWrapper;first | (rw [if_pos (by decide +kernel)];kernel_rfl) | (rw [if_neg (by decide +kernel)];exact ⟨rfl,rfl⟩))
   (fun os started H enc _ F=>by rw [OpenClaim.pre_eq_preRow];exact lifted os started H enc F)
theorem plain (f:FuncId) (fn:Func) (hf:Tryz.pinned.checked.prog.funcNamed "wageoffice/wageofficelaw09.UnitsParts"=some f) (hfn:Tryz.pinned.checked.prog.funcs[f]?=some fn) :
   true=Tryz.pinned.checked.prog.looks []∧∀ (j:Nat) t,fn.params[j]?=some t→Tryz.pinned.checked.prog.wantsStandIn t=false:=by
 obtain rfl:f=9:=Option.some.inj ((show Tryz.prog.funcNamed "wageoffice/wageofficelaw09.UnitsParts"=some 9 by kernel_rfl).symm.trans hf) |>.symm
 obtain rfl:fn=Tryz.f9:=(Option.some.inj (Tryz.func9.symm.trans hfn)).symm
 refine ⟨by kernel_rfl,fun j t ht=>?_⟩
 rw [Tryz.params9] at ht
 have ht':=Array.mem_of_getElem? ht
 simp only [List.mem_toArray,List.mem_cons,List.not_mem_nil,or_false] at ht'
 rcases ht' with rfl | rfl | rfl | rfl
 · exact (show Tryz.prog.wantsStandIn 27=false by kernel_rfl)
 · exact (show Tryz.prog.wantsStandIn 27=false by kernel_rfl)
 · exact (show Tryz.prog.wantsStandIn 42=false by kernel_rfl)
 · exact (show Tryz.prog.wantsStandIn 27=false by kernel_rfl)
theorem p4:Rows.UnitsPartsCardSaid :=
 Claim7.holds_tied_plain_at .later [] _ _ _ _ said (fun _ h=>by cases h) (by kernel_rfl) (fun _ h=>by cases h) unitsParts_row_tie rfl ⟨rfl,rfl⟩ (by kernel_rfl) rfl plain (by kernel_rfl)
end Go.Proofs.YtkfplcngmiljaaaGreatDoor.unitsParts
namespace Go.Proofs.YtkfplcngmiljaaaGreatDoor
theorem unitsParts_holds:Rows.UnitsPartsCardSaid:=unitsParts.p4
#print axioms unitsParts_holds
end Go.Proofs.YtkfplcngmiljaaaGreatDoor
