/- Part of a proof: see the last text. -/
import Derived.Test.YtpbkhogolfegfaaGreatDoorPtg
set_option linter.unusedVariables false
set_option linter.unusedSimpArgs false
set_option linter.defProp false
noncomputable section
namespace AI
open Go Go.RowKit
def V4(ps:List (Nat×Nat)):List AV:=ps.map λp=>.ptr p.1 p.2
def Vs(ps:List (Nat×Nat)):(V4 ps).length=ps.length:=by simp[V4]
def Ej(b:Nat)(B:Nat->Nat->Prop)(w0:World)(g cap:Nat)(ps:List (Nat×Nat)):EW:=λc w =>
 c.base=b/\Below b w0 w/\(∀g' i,c.bad g' i↔(B g' i\/g'=g))/\b<=g/\some g∉c.CS/\(∀(r:Nat) n BJ sz,c.rows[r]?≠some (.QZ g n BJ sz)) /\
 ∃(vs ext:List Value) (T:TypeId),w.heap[g]?=some (.cells (vs++ext).toArray T (0,0))/\vs.length+ext.length=cap/\CG c w (V4 ps) vs
def Ej.GM{b:Nat}{B:Nat->Nat->Prop}{w0:World}{g cap:Nat}{ps:List (Nat×Nat)}:TX (Ej b B w0 g cap ps):=by
 rintro cx w Q1 w' ⟨h1,h2,h3,h4,h5,h6,vs,ext,T,h7,h8,h9⟩ hx;have hg:g < w.heap.size:=(Array.getElem?_eq_some_iff.1 h7).1;refine⟨hx.base.trans h1,h2.trans (by have:=hx.below;rwa[h1] at this),λg' i=>by rw[hx.bad];exact h3 g' i,h4,λhm=>?_,λr n BJ sz hr=>?_,vs,ext,T,by rw[hx.GM g hg h5 h6];exact h7,h8,h9.mono hx⟩;rcases hx.Zk g hm with h | h
 exact h5 h;omega;rcases hx.Zl r g n BJ sz hr with ⟨r0,n0,Rq,kE,h⟩ | h
 exact h6 _ _ _ _ h;omega
def Ej.fin{b:Nat}{B:Nat->Nat->Prop}{w0:World}{g cap:Nat}{ps:List (Nat×Nat)}(hB:∀g i,B g i->g < b):akK b B w0 (Ej b B w0 g cap ps):=by
 rintro c w ⟨h1,h2,h3,h4,h5,_⟩;refine⟨h1,h2,λg' i hb=>(h3 g' i).2 (.inl hb),λg' i hg hb=>?_⟩;rcases(h3 g' i).1 hb with h | rfl
 exact hB g' i h;exact absurd hg h5
def Ej.pop{b:Nat}{B:Nat->Nat->Prop}{w0:World}{g cap:Nat}{ps:List (Nat×Nat)}{p:Nat×Nat}{c:Cx}{w:World}(h:Ej b B w0 g cap (ps++[p]) c w):Ej b B w0 g cap ps c w:=by
 obtain⟨h1,h2,h3,h4,h5,h6,vs,ext,T,h7,h8,h9⟩:=h;have hl:=h9.len;rw[Vs,List.length_append] at hl;refine⟨h1,h2,h3,h4,h5,h6,vs.take ps.length,vs.drop ps.length++ext,T,by rw[<- List.append_assoc,List.take_append_drop];exact h7,by rw[List.length_append,List.length_take,List.length_drop];omega,?_⟩;have:=h9.take ps.length;unfold V4 at this ⊢;rwa[List.map_append,List.take_left' (by simp)] at this
def St.move{G:A6}{c c':Cx}{w w':World}{s:AS}(h:St G c w s)(hm:Mon c w c' w')(RA:c'.CS=c.CS)(qS:c'.rows=c.rows)(aaO:c'.base=c.base)
   (ahu:∀k,k < w.heap.size->(some k∈c.CS\/∃(r:Nat) (n cap sz:Nat),c.rows[r]?=some (.QZ k n cap sz))->w'.heap[k]?=w.heap[k]?) (ahB:w.heap.size<=w'.heap.size)
   (KF:∀g i,c'.bad g i->(c.bad g i\/w.heap.size<=g)/\g < w'.heap.size):St G c' w' s:=by
 refine⟨by rw[RA];exact h.len,h.desc,by rw[RA];exact h.nodup,by rw[RA,aaO];exact h.low,λid g b h1 h2=>?_,by rw[qS];exact h.Ix,λr g n cap sz hr=>?_,by rw[qS];exact h.IG,λg hg=>Nat.lt_of_lt_of_le (h.Md g (by rwa[RA] at hg)) ahB,λg i hb=>(KF g i hb).2,by rw[qS];exact h.Io,λg cs hg=>(h.Mq g cs hg).Dt hm,by rw[aaO];exact Nat.le_trans h.PY ahB⟩;rw[RA] at h1;obtain⟨o,ho,hb⟩:=h.box id g b h1 h2;exact⟨o,by rw[ahu g (Array.getElem?_eq_some_iff.1 ho).1 (.inl (List.mem_of_getElem? h1))];exact ho,hb.Dt hm⟩;rw[qS] at hr;obtain⟨a1,a2,a3,a4,vs,T,a5,a6⟩:=h.row r g n cap sz hr;have GI:=h.Mx hr;refine⟨λi hb=>?_,by rw[aaO];exact a2,by rw[RA];exact a3,a4,vs,T,by rw[ahu g GI (.inr ⟨r,n,cap,sz,hr⟩)];exact a5,a6⟩;rcases(KF g i hb).1 with h1 | h1
 exact a1 i h1;omega
section
variable {P:Program} {G:A6} {E:EW} {fr:List AV} {s:AS} {Q:QE}
def Pa.ami{ι:Type}{E':ι->EW}{ops:Array Oper}{i:Nat}{l:List Nat}{o:Oper}{fr2:List AV}(v:ι->AV){s2:AS}(ho:ops[i]?=some o)(hg:o.guard=none)
   (h:∀(cx:Cx) (w:World) (a:Act),E cx w->St G cx w s->CG cx w fr a.tmps.toList->∃x u w' Q1,(execOp a.eval o).run P w=.ok (.value u) w'/\E' x Q1 w'/\St G Q1 w' s2/\CG Q1 w' fr2 a.tmps.toList/\Rp Q1 w' (v x) u)
   (t:∀x,Pa P G (E' x) ops l (Ir fr2 o.dst (v x)) s2 Q):Pa P G E ops (i::l) fr s Q:=by
 intro cx w a K hE hs hf hd hK;refine LC ho ?_;obtain⟨x,u,w',Q1,hr,gZ,Cm,iC,hu⟩:=h cx w a hE hs hf;unfold Mj;have hw:Region.wanted o (yielded ops a.tmps)=true:=by unfold Region.wanted;rw[hg]
 rw[hw];simp only[if_true];unfold Oper.wp;rw[hr];exact t x Q1 w' (a.put o.dst u) K gZ Cm (Og iC hu) (by cases o.dst<;>exact hd) hK
def WE.reg{c:Code}{n:Nat}(h:RL c n=true)(k:Pa P G E (FC c) (List.range n) fr s Q):WE P G E c fr s Q:=by
 obtain⟨⟨id,hc⟩,hn⟩:=sA h;rw[hc];refine .region ?_;rw[<- hn] at k;exact k
variable {c:Code} {n i:Nat} {l:List Nat}
def Pa.len{x:Operand}{t e:TypeId}{A:Option Addr}{k cap:Nat}(hr:RL c n=true)(hi:i < n)(h:rD (opAt c i)=some (x,t))(hu:P.underlying t=some (.slice e))(ha:A8 G fr x=some (.raw A k cap))
   (j:Pa P G E (FC c) l (Ir fr (opAt c i).dst (.sc (.int .i64 k))) s Q):Pa P G E (FC c) (i::l) fr s Q:=by
 have hgd:(opAt c i).guard=none:=by
   unfold rD at h;split at h;rename_i hg;exact hg;cases h
 refine .sem (.sc (.int .i64 k)) (K0 hr hi) hgd (λcx w a hE hs hf=>?_) j;have hv:=Er hs hf ha;generalize hq:a.eval x=v at hv;cases hv;exact⟨_,w,cx,(vH h hu hq).2,hE,hs,hf,.sc rfl⟩
variable {b g cap:Nat} {B:Nat->Nat->Prop} {w0:World} {ps:List (Nat×Nat)} {p:Nat×Nat}
def Pa.top{t t2 e d:TypeId}{x y:Operand}(hr:RL c n=true)(hi:i+1 < n)(h1:ajz (opAt c i)=some (t,x,y))(hd:(opAt c i).dst=some d)(h2:ajF (opAt c (i+1))=some (t2,.tmp d))(hu:P.underlying t=some (.slice e))(he:(P.info? e).map (·.size)=some 1)
   (hZ:(P.underlying t2).map Nv=some false) (he2:(P.info? t2).map (·.size)=some 1) (ha:A8 G fr x=some (.raw (some ⟨g,0,none⟩) (ps++[p]).length cap)) (hy:A8 G fr y=some (.sc (.int .i64 ((ps.length:Nat):Int)))) (u5:Nat.blt d fr.length=true)
   (j:Pa P G (Ej b B w0 g cap (ps++[p])) (FC c) l (Ir (Ir fr (some d) .any) (opAt c (i+1)).dst (.ptr p.1 p.2)) s Q):Pa P G (Ej b B w0 g cap (ps++[p])) (FC c) (i::(i+1)::l) fr s Q:=by
 have u5:d < fr.length:=Nat.blt_eq.mp u5;intro cx w a K hE hs hf hdf hK;have qU:=Er hs hf ha;have hvy:=Er hs hf hy;generalize hqa:a.eval x=va at qU;generalize hqy:a.eval y=vy at hvy;cases qU;cases hvy;obtain⟨ie,xL,Oo⟩:=Option.map_eq_some_iff.1 he;have r1:=abd (P:=P) (w:=w) h1 hu xL hqa hqy (by simp);rw[Oo,Nat.mul_one] at r1;have hE2:=hE;obtain⟨_,_,_,_,_,_,vs,ext,T,h7,h8,h9⟩:=hE2;refine LC (K0 hr (by omega)) ?_;unfold Mj;rw[show Region.wanted (opAt c i) (yielded (FC c) a.tmps)=true by unfold Region.wanted;rw[r1.1]];simp only[if_true];unfold Oper.wp;rw[r1.2];show wpOps P (FC c) K ((i+1)::l) (a.put (opAt c i).dst (.pointer (some ⟨g,ps.length,none⟩))) w;rw[hd];have hl:=hf.len;rw[Array.length_toList] at hl
 have IA:(a.put (some d) (.pointer (some ⟨g,ps.length,none⟩))).eval (.tmp d)=.pointer (some ⟨g,ps.length,none⟩):=by
   simp[Act.put,Act.eval,Array.getD_eq_getD_getElem?,Array.getElem?_setIfInBounds,hl,u5]
 have hap:apart P t2 (V4 (ps++[p])) ps.length=some (.ptr p.1 p.2):=by
   unfold apart;obtain⟨dd,hu2,hdd⟩:=Option.map_eq_some_iff.1 hZ;rw[hu2];cases Ui:P.info? t2 with
   | none=>rw[Ui] at he2;cases he2
   | some j =>
     simp only;rw[hdd,if_neg (by simp)];simp[V4]
 obtain⟨u,hru,hrp⟩:=S5 (P:=P) (w:=w) (g:=g) (o:=0) hap h9 (λi v hv=>by rw[Nat.zero_add];exact cell_of_heap h7 (RX hv));rw[Nat.zero_add] at hru;have r2:=abi (P:=P) (w:=w) h2 IA hru;refine LC (K0 hr hi) ?_;unfold Mj;rw[show ∀q,Region.wanted (opAt c (i+1)) q=true by intro q;unfold Region.wanted;rw[r2.1]];simp only[if_true];unfold Oper.wp;rw[r2.2];exact j cx w _ K hE hs (Og (Og (dst:=some d) hf (.any (v:=.pointer (some ⟨g,ps.length,none⟩)) rfl)) hrp) (by cases (opAt c (i+1)).dst<;>exact hdf) hK
def Pa.apI{t e:TypeId}{x y:Operand}(hr:RL c n=true)(hi:i < n)(h:sM (opAt c i)=some (t,x,y))(hu:P.underlying t=some (.slice e))(he:(P.info? e).map (·.size)=some 1)(ha:A8 G fr x=some (.raw (some ⟨g,0,none⟩) (ps++[p]).length cap))(hy:A8 G fr y=some (.sc (.int .i64 ((ps.length:Nat):Int))))
   (j:Pa P G (Ej b B w0 g cap ps) (FC c) l (Ir fr (opAt c i).dst (.raw (some ⟨g,0,none⟩) ps.length cap)) s Q):Pa P G (Ej b B w0 g cap (ps++[p])) (FC c) (i::l) fr s Q:=by
 have hgd:(opAt c i).guard=none:=by
   unfold sM at h;split at h;rename_i hg;exact hg;cases h
 refine .sem (.raw (some ⟨g,0,none⟩) ps.length cap) (K0 hr hi) hgd (λcx w a hE hs hf=>?_) j;have qU:=Er hs hf ha;have hvy:=Er hs hf hy;generalize hqa:a.eval x=va at qU;generalize hqy:a.eval y=vy at hvy;cases qU;cases hvy;obtain⟨ie,xL,_⟩:=Option.map_eq_some_iff.1 he;have hE2:=hE;obtain⟨_,_,_,_,_,_,vs,ext,T,h7,h8,h9⟩:=hE2;have hl:=h9.len;rw[Vs,List.length_append] at hl;exact⟨_,w,cx,(wH h hu xL hqa hqy (by omega)).2,hE.pop,hs,hf,.raw⟩
def Pa.push{t tx e e2 id off:TypeId}{x y:Operand}(hr:RL c n=true)(hi:i < n)(h:fO (opAt c i)=some (x,y,t,tx))(hu:P.underlying t=some (.slice e))(hux:P.underlying tx=some (.slice e2))
   (he:(P.info? e).map (λi=>(i.size,decide (i.bytes<=10000),i.zero.map (·.cells.size)))=some (1,true,some 1)) (ha:A8 G fr x=some (.raw (some ⟨g,0,none⟩) ps.length cap)) (hy:A8 G fr y=some (.sl .full 1 [.ptr id off])) (hlen:ps.length+1<=100000000)
   (j:∀g' BJ,Pa P G (Ej b B w0 g' BJ (ps++[(id,off)])) (FC c) l (Ir fr (opAt c i).dst (.raw (some ⟨g',0,none⟩) (ps++[(id,off)]).length BJ)) s Q):Pa P G (Ej b B w0 g cap ps) (FC c) (i::l) fr s Q:=by
 cases xL:P.info? e with
 | none=>rw[xL] at he;cases he
 | some ie =>
 rw[xL] at he;simp only[Option.map_some,Option.some.injEq,Prod.mk.injEq,decide_eq_true_eq] at he;obtain⟨Oo,hby,hzz⟩:=he;obtain⟨z,hz,xP⟩:=Option.map_eq_some_iff.1 hzz;refine .ami (ι:=Nat×Nat) (E':=λq=>Ej b B w0 q.1 q.2 (ps++[(id,off)])) (λq=>.raw (some ⟨q.1,0,none⟩) (ps++[(id,off)]).length q.2) (K0 hr hi) (fP h) (λcx w a hE hs hf=>?_) (λq=>j q.1 q.2);have qU:=Er hs hf ha;have hvy:=Er hs hf hy;generalize hqa:a.eval x=va at qU;generalize hqy:a.eval y=vy at hvy;cases qU;obtain⟨h1,h2,h3,h4,h5,h6,vs,ext,T,h7,h8,h9⟩:=hE;have hg:g < w.heap.size:=(Array.getElem?_eq_some_iff.1 h7).1;have hl:=h9.len;rw[Vs] at hl;obtain⟨news,xN,Vf,hsi⟩:=bN (P:=P) (s:=s) (size:=ie.size) (tx:=tx) (n:=1) (cs:=[.ptr id off]) hs (by unfold We;rw[hux,Oo];rfl) hvy;rw[Oo,Nat.mul_one] at Vf;have aoX:∀g' i v,LD cx w g' i v->g'≠g:=λg' i v hv e=>hv.2.1 (.inr (.inr ((h3 g' i).2 (.inr e))))
 have ahw:∀{Q1:Cx} {w':World},Mon cx w Q1 w'->CG Q1 w' (V4 (ps++[(id,off)])) (vs++news):=λhm=>by
   unfold V4 at h9 ⊢;rw[List.map_append];exact(h9.Dt hm).append (xN.Dt hm)
 by_cases Ul:ps.length+1<=cap;have u9:ps.length+news.length<=(vs++ext).toArray.size:=by rw[Vf,List.size_toArray,List.length_append];omega
 have F4:=run_storeCells_at P g ps.length T news 0 (vs++ext).toArray w h7 (by simpa using u9) (WS xN rfl)
 simp only[Nat.add_zero] at F4;have Lu:=setRow_heap w g (vs++ext).toArray ((vs++ext).toArray.toList.take ps.length++news++(vs++ext).toArray.toList.drop (ps.length+news.length)).toArray T (0,0) h7;have hc:=He w g ((vs++ext).toArray.toList.take ps.length++news++(vs++ext).toArray.toList.drop (ps.length+news.length)).toArray
 have aiZ:((vs++ext).toArray.toList.take ps.length++news++(vs++ext).toArray.toList.drop (ps.length+news.length))=(vs++news)++ext.drop 1:=by
   simp only[List.toList_toArray];rw[List.take_left' hl,Vf,List.drop_append];rw[List.drop_eq_nil_of_le (by omega),List.nil_append,show ps.length+1 - vs.length=1 by omega]
 rw[aiZ] at Lu F4 hc;have hm:Mon cx w cx (w.setRow g ((vs++news)++ext.drop 1).toArray):=⟨λ_ _ h=>h,Nat.le_refl _,λr y _ h=>⟨y,h,Kj.refl y⟩,λg' i v hv=>⟨Nat.lt_of_lt_of_le hv.1 hc.size,hv.2.1,by rw[hc.cell hv.1 (aoX g' i v hv)];exact hv.2.2⟩⟩
 refine⟨(g,cap),_,_,cx,(Zw h (λty=>by
   rw[hqa,hqy];exact Qv (ty:=ty) hu xL hsi Ul (w':=w.setRow g ((vs++news)++ext.drop 1).toArray) (λa ha=>by cases ha;rw[add_lit,Nat.zero_add,Oo,Nat.mul_one];exact F4) (λh=>by cases h))).2,⟨h1,h2.trans (hc.below (by rw[<- h1];exact hs.PY) (λk hk=>by rw[hk];exact h4)),h3,h4,h5,h6,vs++news,ext.drop 1,T,Lu,?_,ahw hm⟩,hs.move hm rfl rfl rfl (λk hk hor=>hc.block k hk (λe=>?_)) hc.size (λg' i hb=>⟨.inl hb,Nat.lt_of_lt_of_le (hs.Ml g' i hb) hc.size⟩),hf.Dt hm,?_⟩
 rw[List.length_append,List.length_drop];omega;subst e;rcases hor with h | ⟨r,n',BJ,sz,h⟩
 exact h5 h;exact h6 _ _ _ _ h;rw[List.length_append];exact .raw
 have hfc:(Builtin.firstCells ie.size ps.length (.slice (some ⟨g,0,none⟩) ps.length cap)).run P { w with drawn:=w.drawn+1 }=.ok vs.toArray { w with drawn:=w.drawn+1 }:=by
   rw[Oo];refine run_firstCells_some { w with drawn:=w.drawn+1 } 1 ps.length ⟨g,0,none⟩ ps.length cap vs (by omega) (λj v hj=>?_)
   rw[add_lit,Nat.zero_add];exact cell_of_heap h7 (RX hj)
 have aiY:(ps.length+1)*ie.bytes<=140737488355328:=Nat.le_trans (Nat.mul_le_mul hlen hby) (by decide)
 have hex:∃BJ,ps.length+1<=BJ/\∀ty,(Builtin.append_ #[t,tx] ty #[.slice (some ⟨g,0,none⟩) ps.length cap,vy]).run P w=.ok (.slice (some ⟨w.heap.size,0,none⟩) (ps.length+1) BJ) { w with drawn:=w.drawn+1,heap:=w.heap.push (.cells ((vs++news).toArray++Builtin.zeroCells z.cells (BJ - (ps.length+1))) e) }:=by
   obtain⟨BJ,hc',Q5⟩:=Qu (ty:=0) hu xL hz hsi hfc (by omega) (by omega) aiY;exact⟨BJ,hc',λty=>Q5⟩
 obtain⟨BJ,XN,Q5⟩:=hex;have hzc:(Builtin.zeroCells z.cells (BJ - (ps.length+1))).size=BJ - (ps.length+1):=by rw[size_zeroCells,xP,Nat.mul_one]
 let w':World:={ w with drawn:=w.drawn+1,heap:=w.heap.push (.cells ((vs++news).toArray++Builtin.zeroCells z.cells (BJ - (ps.length+1))) e) }
 have hk:Ra w w' (λ_=>False):=⟨rfl,rfl,rfl,by simp[w'],λk hk _=>by simp[w',Array.getElem?_push];intro h;omega⟩
 have Lu:w'.heap[w.heap.size]?=some (.cells ((vs++news)++(Builtin.zeroCells z.cells (BJ - (ps.length+1))).toList).toArray e (0,0)):=by
   have:w'.heap[w.heap.size]?=some (.cells ((vs++news).toArray++Builtin.zeroCells z.cells (BJ - (ps.length+1))) e (0,0)):=by simp[w']
   rw[this];congr 2;apply Array.ext';simp
 let Q1:Cx:={ cx with bad:=λg' i=>B g' i\/g'=w.heap.size }
 have hBs:∀g' i,B g' i->g' < w.heap.size:=λg' i hb=>hs.Ml g' i ((h3 g' i).2 (.inl hb));have hm:Mon cx w Q1 w':=⟨λ_ _ h=>h,Nat.le_refl _,λr y _ h=>⟨y,h,Kj.refl y⟩,λg' i v hv=>⟨Nat.lt_of_lt_of_le hv.1 hk.size,λGq=>?_,by rw[hk.cell hv.1 not_false];exact hv.2.2⟩⟩;have ao0:w'.heap.size=w.heap.size+1:=by simp[w']
 refine⟨(w.heap.size,BJ),_,w',Q1,(Zw h (λty=>by rw[hqa,hqy];exact Q5 ty)).2,⟨h1,h2.trans (hk.below (by rw[<- h1];exact hs.PY) (λ_ h=>h.elim)),λ_ _=>Iff.rfl,by rw[<- h1];exact hs.PY,λlS=>?_,λr n' c' sz WH=>?_,vs++news,_,e,Lu,?_,ahw hm⟩,hs.move hm rfl rfl rfl (λk hk' _=>hk.block k hk' not_false) hk.size (λg' i hb=>?_),hf.Dt hm,?_⟩;have:=hs.Md _ lS;omega;have:=hs.Mx WH;omega;have hz3:(Builtin.zeroCells z.cells (BJ - (ps.length+1))).toList.length=BJ - (ps.length+1):=by rw[Array.length_toList,hzc]
 show(vs++news).length+_=BJ;rw[hz3,List.length_append];omega;rcases hb with hb | rfl
 exact⟨.inl ((h3 g' i).2 (.inl hb)),by have:=hBs g' i hb;omega⟩;exact⟨.inr (Nat.le_refl _),by omega⟩;rw[List.length_append];exact .raw;rcases Gq with Gq | Gq | Gq
 exact hv.2.1 (.inl Gq);exact hv.2.1 (.inr (.inl Gq));rcases Gq with Gq | Gq
 exact hv.2.1 (.inr (.inr ((h3 g' i).2 (.inl Gq))));have:=hv.1;omega
def Pa.begin{t e id off:TypeId}{x:Operand}(hr:RL c n=true)(hi:i < n)(h:ad9 (opAt c i)=some (t,x))(hu:P.underlying t=some (.slice e))(he:(P.info? e).map (λi=>(i.size,i.zero.map (·.cells.size)))=some (1,some 1))(ha:A8 G fr x=some (.ptr id off))
   (j:∀g',Pa P G (Ej b B w0 g' 1 [(id,off)]) (FC c) l (Ir fr (opAt c i).dst (.raw (some ⟨g',0,none⟩) 1 1)) s Q):Pa P G (E0 b B w0) (FC c) (i::l) fr s Q:=by
 cases xL:P.info? e with
 | none=>rw[xL] at he;cases he
 | some ie =>
 rw[xL] at he;simp only[Option.map_some,Option.some.injEq,Prod.mk.injEq] at he;obtain⟨Oo,hzz⟩:=he;obtain⟨z,hz,xP⟩:=Option.map_eq_some_iff.1 hzz
 have hgd:(opAt c i).guard=none:=by
   unfold ad9 at h;split at h;rename_i hg;exact hg;cases h
 refine .ami (ι:=Nat) (E':=λq=>Ej b B w0 q 1 [(id,off)]) (λq=>.raw (some ⟨q,0,none⟩) 1 1) (K0 hr hi) hgd (λcx w a hE hs hf=>?_) j;have qU:=Er hs hf ha;generalize hqa:a.eval x=va at qU;obtain⟨h1,h2,h3⟩:=hE;have Q5:=(yN (P:=P) (w:=w) (ρ:=a.eval) h hu xL Oo hz xP (by rw[hqa];cases qU;rfl)).2;rw[hqa] at Q5;let w':World:={ w with heap:=w.heap.push (.cells #[va] e) }
 have hk:Ra w w' (λ_=>False):=Nn w _;let Q1:Cx:={ cx with bad:=λg' i=>B g' i\/g'=w.heap.size }
 have hBs:∀g' i,B g' i->g' < w.heap.size:=λg' i hb=>hs.Ml g' i (by rw[h2];exact hb);have ao0:w'.heap.size=w.heap.size+1:=by simp[w']
 have hm:Mon cx w Q1 w':=⟨λ_ _ h=>h,Nat.le_refl _,λr y _ h=>⟨y,h,Kj.refl y⟩,λg' i v hv=>⟨Nat.lt_of_lt_of_le hv.1 hk.size,λGq=>by
   rcases Gq with Gq | Gq | Gq
   exact hv.2.1 (.inl Gq);exact hv.2.1 (.inr (.inl Gq));rcases Gq with Gq | Gq
   exact hv.2.1 (.inr (.inr (by rw[h2];exact Gq)));have:=hv.1;omega,by rw[hk.cell hv.1 not_false];exact hv.2.2⟩⟩
 refine⟨w.heap.size,_,w',Q1,Q5,⟨h1,h3.trans (hk.below (by rw[<- h1];exact hs.PY) (λ_ h=>h.elim)),λ_ _=>Iff.rfl,by rw[<- h1];exact hs.PY,λlS=>?_,λr n' c' sz WH=>?_,[va],[],e,by simp[w'],rfl,.cons (qU.Dt hm) .nil⟩,hs.move hm rfl rfl rfl (λk hk' _=>hk.block k hk' not_false) hk.size (λg' i hb=>?_),hf.Dt hm,.raw⟩;have:=hs.Md _ lS;omega;have:=hs.Mx WH;omega;rcases hb with hb | rfl
 exact⟨.inl (by rw[h2];exact hb),by have:=hBs g' i hb;omega⟩;exact⟨.inr (Nat.le_refl _),by omega⟩
def WE.run(hm:P.follows .mixedOrders=true)(hk:TX E){c:Code}(l:List (PC P G)){e:AX}{fr2:List AV}{s2:AS}(h:oN fr2 (Sk P G 300 c [] (pHs l) fr s)=some (e,fF l,fr2,s2))(hp:∀v,e≠.IL v)(hq:Q e fr2 s2 E):WE P G E c fr s Q:=by
 unfold oN at h;split at h;rename_i e' cd B8 s' hr;simp only[Option.some.injEq,Prod.mk.injEq] at h;obtain⟨rfl,rfl,OU,rfl⟩:=h;have hw:W P G (XS P G) H0 c fr s (λe2 f2 s2=>e2=e'/\f2=B8/\s2=s'):=Ae 300 l _ _ _ _ hr (NE l) ⟨rfl,rfl,rfl⟩;obtain⟨e1,f1,s1,hj,rfl,rfl,rfl⟩:=hw;have hS:=sound (Rz hm) hj;intro cx w a K hE hs hf hd hK;refine hS cx w a K hs hf hd ?_;rintro e'' a' w' ⟨c',hx,Cm,Q4,h4⟩;refine hK _ _ _ E hq c' w' a' e'' (hk _ _ _ _ hE hx) Cm Q4 ?_;rw[<- OU];cases e1 with
 | normal=>exact⟨h4.1,RU h4.2⟩
 | exit id=>exact⟨h4.1,RU h4.2⟩
 | ret=>exact⟨h4.1,RU h4.2⟩
 | IL v=>exact absurd rfl (hp v)
 cases h
end
end AI
namespace AI
open Go Go.RowKit
def SS{M:List AL}:∀{n id:Nat} {acc:List (Nat×AL)},id < n->look id (IC M n acc)=look id acc:=by
 induction M with
 | nil=>intro n id acc _;rfl
 | cons x M ih =>
   intro n id acc h;simp only[IC];rw[ih (by omega)];simp only[look]
   have:Nat.beq n id=false:=by
     cases hq:Nat.beq n id with
     | false=>rfl
     | true=>have:=beq_true hq;omega
   rw[this]
def Zf{M:List AL}:∀{n i:Nat} {acc:List (Nat×AL)} {b:AL},M[i]?=some b->look (n+i) (IC M n acc)=some b:=by
 induction M with
 | nil=>intro n i acc b h;simp at h
 | cons x M ih =>
   intro n i acc b h;cases i with
   | zero =>
     simp at h;subst h;simp only[IC,Nat.add_zero];rw[SS (Nat.lt_succ_self n)];simp only[look,Nat.beq_refl]
   | succ i =>
     simp only[IC];rw[show n+(i+1)=n+1+i by omega];exact ih (by simpa using h)
def UK{M:List AL}:∀{n id:Nat} {acc:List (Nat×AL)} {b:AL},id < n->QU id b (IC M n acc)=IC M n (QU id b acc):=by
 induction M with
 | nil=>intro n id acc b _;rfl
 | cons x M ih =>
   intro n id acc b h;simp only[IC];rw[ih (by omega)];simp only[QU]
   have:Nat.beq n id=false:=by
     cases hq:Nat.beq n id with
     | false=>rfl
     | true=>have:=beq_true hq;omega
   rw[this]
def eG{M:List AL}:∀{n i:Nat} {acc:List (Nat×AL)} {b:AL},i < M.length->QU (n+i) b (IC M n acc)=IC (M.set i b) n acc:=by
 induction M with
 | nil=>intro n i acc b h;simp at h
 | cons x M ih =>
   intro n i acc b h;cases i with
   | zero =>
     simp only[IC,Nat.add_zero,List.set_cons_zero];rw[UK (Nat.lt_succ_self n)];simp only[QU,Nat.beq_refl]
   | succ i =>
     simp only[IC,List.set_cons_succ];rw[show n+(i+1)=n+1+i by omega];exact ih (by simpa using h)
def n6{x:AL}:∀{M:List AL} {n:Nat} {acc:List (Nat×AL)},IC (M++[x]) n acc=(n+M.length,x)::IC M n acc:=by
 intro M
 induction M with
 | nil=>intro n acc;rfl
 | cons y M ih =>
   intro n acc;simp only[List.cons_append,IC,List.length_cons];rw[ih,show n+1+M.length=n+(M.length+1) by omega]
def ac2{k:Nat}{b b0:AL}{T:List (Nat×AL)}:QU k b ((k,b0)::T)=(k,b)::T:=by simp only[QU,Nat.beq_refl]
def WJ{k:Nat}{b:AL}{T:List (Nat×AL)}:look k ((k,b)::T)=some b:=by simp only[look,Nat.beq_refl]
def cV{k id:Nat}{b:AL}{T:List (Nat×AL)}(h:k≠id):look id ((k,b)::T)=look id T:=by
 simp only[look];cases hq:Nat.beq k id with
 | false=>rfl
 | true=>exact absurd (beq_true hq) h
def akB{k id:Nat}{b b2:AL}{T:List (Nat×AL)}(h:k≠id):QU id b2 ((k,b)::T)=(k,b)::QU id b2 T:=by
 simp only[QU];cases hq:Nat.beq k id with
 | false=>rfl
 | true=>exact absurd (beq_true hq) h
def X8{id:Nat}{b b0:AL}:∀{T:List (Nat×AL)},look id T=some b0->look id (QU id b T)=some b:=by
 intro T
 induction T with
 | nil=>intro h;cases h
 | cons e T ih =>
   intro h;simp only[look] at h;simp only[QU];split at h;simp only[look,Nat.beq_refl];rename_i hb;simp only[look,hb];exact ih h
section
variable {P:Program} {G:A6} {α:Type} {f:α->List AV} {C:List α->List AV} {k:Nat}
def Zy{e:TypeId}(hd:(P.underlying e).map Nv=some false)(hs:(P.info? e).map (·.size)=some 1){cs:List AV}{off:Nat}{a:AV}(h:cs[off]?=some a):Cd.ok P G (.ldB (.cells cs) e off a):=by
 intro s id hg;simp only[Jg,hg];unfold apart;obtain⟨d,hu,hd⟩:=Option.map_eq_some_iff.1 hd;rw[hu];cases hi:P.info? e with
 | none=>rw[hi] at hs;cases hs
 | some j =>
   simp only;rw[hd,if_neg (by simp)];exact h
def oV{β:Type}{cs:List β}{off:Nat}(v:β)(h:off < cs.length):Ia cs off [v]=cs.set off v:=by
 unfold Ia;rw[List.set_eq_take_append_cons_drop,if_pos h];simp
def yM{e:TypeId}(hs:(P.info? e).map (·.size)=some 1){cs cs2:List AV}{off:Nat}{v:AV}(h:off < cs.length)(hc:cs2=cs.set off v)(hv:cellsOf v=[v]:=by rfl)(h1:one v=true:=by rfl):Cd.ok P G (.stB (.cells cs) e off v (.cells cs2)):=by
 intro s id hg;cases hi:P.info? e with
 | none=>rw[hi] at hs;cases hs
 | some j =>
   rw[hi] at hs;have hk:j.size=1:=by simpa using hs
   unfold Kk;rw[hi];simp only[hg];rw[hv,hk,if_pos ⟨rfl,by simp[h1],by omega⟩,hc,oV v h]
def dT{f:α->List AV}(hf:∀x,(f x).length=k){l:List α}{i j:Nat}{x:α}(hx:l[i]?=some x)(hj:j < k):(rows f l)[i*k+j]?=(f x)[j]?:=by
 rw[<- List.getElem?_drop,R6 hf hx,List.getElem?_append_left (by rw[hf];exact hj)]
def jY{f:α->List AV}(hf:∀x,(f x).length=k){l:List α}{i j:Nat}{x y:α}{v:AV}(hx:l[i]?=some x)(hj:j < k)(hy:f y=(f x).set j v):rows f (l.set i y)=(rows f l).set (i*k+j) v:=by
 have GI:=(List.getElem?_eq_some_iff.1 hx).1;have Wh:=(List.getElem?_eq_some_iff.1 hx).2
 have e1:l=l.take i++x::l.drop (i+1):=by
   rw[<- Wh,<- List.drop_eq_getElem_cons GI,List.take_append_drop]
 rw[aF y GI]
 conv=>rhs;rw[e1]
 have hlen:(rows f (l.take i)).length=i*k:=by rw[IH hf,List.length_take,Nat.min_eq_left (by omega)]
 rw[OC,OC,Gj,Gj,hy,List.set_append_right _ _ (by omega),hlen,Nat.add_sub_cancel_left,List.set_append_left _ _ (by rw[hf];exact hj)]
def jW{f:α->List AV}(hf:∀x,(f x).length=k){e:TypeId}(hd:(P.underlying e).map Nv=some true)(hs:(P.info? e).map (·.size)=some k){l:List α}{i:Nat}{x:α}(hx:l[i]?=some x):Cd.ok P G (.ldB (.cells (rows f l)) e (0+i*k) (.agg (f x))):=by
 intro s id hg;simp only[Jg,hg];unfold apart;obtain⟨d,hu,hd⟩:=Option.map_eq_some_iff.1 hd;rw[hu];cases hi:P.info? e with
 | none=>rw[hi] at hs;cases hs
 | some j =>
   rw[hi] at hs;have hk:j.size=k:=by simpa using hs
   have GI:=(List.getElem?_eq_some_iff.1 hx).1;simp only;rw[hd,if_pos rfl,Nat.zero_add,hk,IH hf,if_pos (by have:=Nat.mul_le_mul_right k GI;rw[Nat.succ_mul] at this;exact this),R6 hf hx,List.take_left' (hf x)]
def stA{e:TypeId}(hs:(P.info? e).map (·.size)=some k){cs0 cs:List AV}(h0:cs0.length=k)(h:cs.length=k)(h1:cs.all one=true):Cd.ok P G (.stB (.cells cs0) e 0 (.agg cs) (.cells cs)):=by
 intro s id hg;cases hi:P.info? e with
 | none=>rw[hi] at hs;cases hs
 | some j =>
   rw[hi] at hs;have hk:j.size=k:=by simpa using hs
   unfold Kk;rw[hi];simp only[hg];have hc:cellsOf (.agg cs)=cs:=rfl;rw[hc,if_pos ⟨by rw[h,hk],h1,by rw[hk,h0];omega⟩];congr 3;unfold Ia;rw[List.take_zero,List.nil_append,h,List.drop_eq_nil_of_le (by omega),List.append_nil]
def anr{s:AS}{fn:Func}{fr:List AV}{t ty:TypeId}{a v:AV}(hr:fn.results.toList=[.cell t ty])(hf:fr[t]?=some a)(ha:Jg P s ty a=some v):Gn P s fn fr=some v:=by
 unfold Gn;rw[hr];simp only[Nj,Rh,List.getD_eq_getElem?_getD,hf,Option.getD_some,ha]
def oH{b:AL}{t:TypeId}{off:Nat}{v:AV}{x:Option AL}(h:Cd.ok P G (.ldB b t off v))(e:x=some b):PC P G:=⟨.lb b v,[.ldB b t off v,.p5 [x] [some b] [] []],⟨h,⟨by rw[e],rfl⟩,trivial⟩⟩
def afz{b b2:AL}{t:TypeId}{off:Nat}{v:AV}{x:Option AL}(h:Cd.ok P G (.stB b t off v b2))(e:x=some b):PC P G:=⟨.sb b b2,[.stB b t off v b2,.p5 [x] [some b] [] []],⟨h,⟨by rw[e],rfl⟩,trivial⟩⟩
end
section
variable {P:Program} {G:A6} {E:EW} {fr:List AV} {s:AS} {Q:QE}
def WE.wk{c:Code}{fr2:List AV}(h:wkF fr fr2=fr2)(k:WE P G E c fr2 s Q):WE P G E c fr s Q:=λcx w a K hE hs hf hd hK=>k cx w a K hE hs (by rw[<- h];exact RU hf) hd hK
def WE.oK{c:Code}{id:Nat}{b b2:AL}(hb:look id s.h=some b)(hk:∀(cx:Cx) (w:World) (o:Obj),E6 cx w b o->E6 cx w b2 o)(k:WE P G E c fr ⟨QU id b2 s.h,s.nx,s.F,s.nr⟩ Q):WE P G E c fr s Q:=λcx w a K hE hs hf hd hK=>k cx w a K hE (hs.oK hb (λo ho=>hk cx w o ho)) hf hd hK
def WE.Sx{c x y:Code}(hc:c=.seq x y)(h:WE P G E x fr s (λe B8 s' E'=>e=.normal/\WE P G E' y B8 s' Q)):WE P G E c fr s Q:=by
 subst hc;exact .seq (λcx w a K hE hs hf hd hK=>h cx w a K hE hs hf hd (λe fr s E hq=>hK e fr s E (.inl hq)))
def WE.seqB{c x y:Code}(hc:c=.seq x y)(h:WE P G E x fr s (λe B8 s' E'=>(e=.normal/\WE P G E' y B8 s' Q)\/(e≠.normal/\Q e B8 s' E'))):WE P G E c fr s Q:=by
 subst hc;exact .seq h
def WE.ZC{c x y:Code}{q:Operand}(t:Bool)(hc:c=.cond q x y)(hq:A8 G fr q=some (.sc (.bool t)))(h:WE P G E (if t then x else y) fr s Q):WE P G E c fr s Q:=by
 subst hc;exact .cond hq h
def WE.oP(hm:P.follows .mixedOrders=true)(hk:TX E){c:Code}(l:List (PC P G)){e:AX}{fr2:List AV}(h:oN fr2 (Sk P G 300 c [] (pHs l) fr s)=some (e,fF l,fr2,s))(hp:∀v,e≠.IL v)(hq:Q e fr2 s E):WE P G E c fr s Q:=.run hm hk l h hp hq
def Pa.q(hm:P.follows .mixedOrders=true)(hk:TX E){c:Code}{n i:Nat}{l:List Nat}(hr:RL c n=true)(hi:i < n)(v:AV)(hw:Cv (FC c) fr (opAt c i)=true)(h:PX P G fr s (opAt c i)=some (.val v s))(t:Pa P G E (FC c) l (Ir fr (opAt c i).dst v) s Q):Pa P G E (FC c) (i::l) fr s Q :=
 .op hm hk v (K0 hr hi) (.ND hw h) t
def Pa.hb(hm:P.follows .mixedOrders=true)(hk:TX E){c:Code}{n i:Nat}{l:List Nat}(hr:RL c n=true)(hi:i < n){B:Bool}(b:Bool)(hB:B=b)(h:ZJ P G (FC c) fr s (opAt c i) [.b b]=some (.sc (.bool b),s,[],[.eqb B b]))(t:Pa P G E (FC c) l (Ir fr (opAt c i).dst (.sc (.bool b))) s Q):Pa P G E (FC c) (i::l) fr s Q :=
 .op hm hk (.sc (.bool b)) (K0 hr hi) (OT h ⟨hB,trivial⟩) t
def Pa.hi(hm:P.follows .mixedOrders=true)(hk:TX E){c:Code}{n i:Nat}{l:List Nat}(hr:RL c n=true)(hi:i < n){X:Int}(z:Int)(hX:X=z)(h:ZJ P G (FC c) fr s (opAt c i) [.i z]=some (.sc (.int .i64 z),s,[],[.eqi X z]))(t:Pa P G E (FC c) l (Ir fr (opAt c i).dst (.sc (.int .i64 z))) s Q):Pa P G E (FC c) (i::l) fr s Q :=
 .op hm hk (.sc (.int .i64 z)) (K0 hr hi) (OT h ⟨hX,trivial⟩) t
def WE.mono{c:Code}{Q2:QE}(h:WE P G E c fr s Q2)(hq:∀e B8 s' E',Q2 e B8 s' E'->Q e B8 s' E'):WE P G E c fr s Q:=λcx w a K hE hs hf hd hK=>h cx w a K hE hs hf hd (λe fr s E h2=>hK e fr s E (hq _ _ _ _ h2))
end
end AI
namespace AI
open Go Go.RowKit
section
variable {P:Program} {G:A6}
def OM.aou{α:Type}{f:α->List AV}{C:List α->List AV}{k:Nat}(h:OM f C k){t tx e e2 yO:Nat}(hu:P.underlying t=some (.slice e))(hux:P.underlying tx=some (.slice e2))(hi:(P.info? e).map (λi=>(i.size,i.bytes,i.zero.map (·.cells.size)))=some (k,yO,some k))(hk:0 < k)
   (own:Own) (l m:List α) {o:Own} {n:Nat} {ns:List AV} (hn:Wn ns (C m)) (nI:n=m.length) (ho:ns.all one=true) (hm:m.length≠0) (hlen:(l.length+m.length)*yO<=140737488355328) (h63:l.length+m.length<=9223372036854775807):Cd.ok P G (.ZG t tx own l.length (C l) (.sl o n ns) k (l++m).length (C (l++m))):=by
 subst nI;cases hq:P.info? e with
 | none=>rw[hq] at hi;cases hi
 | some i =>
   rw[hq] at hi;simp only[Option.map_some,Option.some.injEq,Prod.mk.injEq] at hi;obtain⟨h1,h2,h3⟩:=hi;cases hz:i.zero with
   | none=>rw[hz] at h3;cases h3
   | some z =>
     rw[hz] at h3;simp only[Option.map_some,Option.some.injEq] at h3;intro s OW;have Vf:ns.length=m.length*k:=by rw[hn.len,h.eq,IH h.len]
     have nG:(C l).length=l.length*k:=by rw[h.eq,IH h.len]
     refine⟨C l++ns,?_,λc w u o' hr=>?_⟩
     have hs:We P s i.size tx (.sl o m.length ns)=some (m.length,ns):=by
       unfold We;rw[hux,h1];simp only[Vf,if_true]
     unfold KN;simp only[hu,hq,hz];rw[if_pos ⟨by rw[h3,h1],by omega⟩,hs];simp only
     have lR:(l.length+m.length)*i.bytes<=140737488355328:=by
       rw[h2];exact hlen
     rw[if_pos ⟨by rw[nG,h1],ho,lR,by omega⟩,if_neg hm,h1,if_pos OW,List.length_append];rw[h.TU];exact Rp.wnC (Wn.TU (Wn.refl (C l)) hn) hr
end
end AI
namespace AI
open Go Go.RowKit
end AI
namespace AI
open Go Go.RowKit
section
variable {P:Program} {G:A6} {α δ:Type} {enc:α->AV} {encd:δ->AV}
abbrev II(enc:α->AV)(encd:δ->AV):α⊕δ->CR
 | .inl a=>.ret (enc a)
 | .inr d=>.IL (encd d)
def P1(P:Program)(G:A6)(fn:Func)(m:Nat)(s0:AS)(enc:α->AV)(encd:δ->AV)(Q:AX->List AV->AS->Prop)(y:α⊕δ)(s2:AS):Prop:=match y with
 | .inl a=>P3 P G fn m s0 Q (enc a) s2
 | .inr d=>S1 G m s0 Q (encd d) s2
def P1.body{fn:Func}{m:Nat}{s0 s2:AS}{y:α⊕δ}:P1 P G fn m s0 enc encd (SG P fn m (QM G s0 (II enc encd y) s2)) y s2:=by
 cases y with
 | inl a=>exact P3.body
 | inr d=>exact S1.body
def P1.outer{fn:Func}{m id:Nat}{ks:List KI}{s0 s2:AS}{Q:AX->List AV->AS->Prop}{y:α⊕δ}(h:P1 P G fn m s0 enc encd Q y s2):P1 P G fn m s0 enc encd (EC id (D8 P G ks Q)) y s2:=by
 cases y with
 | inl a=>exact P3.outer h
 | inr d=>exact S1.outer h
def P1.GJ{fn:Func}{m:Nat}{L:Code}{s0 s1 s2:AS}{Q:AX->List AV->AS->Prop}{y:α⊕δ}(h:P1 P G fn m s0 enc encd Q y s2):P1 P G fn m s0 enc encd (TA P G L s1 Q) y s2:=by
 cases y with
 | inl a=>exact P3.GJ h
 | inr d=>exact S1.GJ h
def afs(n m0:Nat)(m:Nat)(oZ bs:List AV)(cs:List (Option AL)):HR->Option (List Cd×List AV×AS×List AV×List (Option AL))
 | some (.fin (.IL v),[],cd,_,s)=>(match ab0 oZ n m0 [v] (s.cut m) bs cs with
     | some (fr2,s2,as,uH)=>some (cd,fr2,s2,as,uH)
     | none=>none)
 | _=>none
def BK(hG:∀g cs,G g=some cs->BA cs=true){r:HR}{X:Prop}{s0:AS}{Q:AX->List AV->AS->Prop}(m:Nat){l:List (PC P G)}(KD:List (FP s0.nx s0.nr))(P9:List (FO s0.nx s0.nr)){v:AV}{s2:AS}(R:T3 P G l Q r X)
   (h:afs s0.nx s0.nr m [v] (Y0 KD) (mU P9) r=some (fF l,[v],s2,eY KD,xH P9)) (k:S1 G m s0 Q v s2):X:=by
 unfold afs at h;split at h;split at h;rename_i h1;simp only[Option.some.injEq,Prod.mk.injEq] at h;obtain⟨rfl,rfl,rfl,rfl,rfl⟩:=h;exact R _ _ _ _ rfl (NE l) (k _ _ (dP hG h1) _ _ rfl);cases h;cases h
def LP{k j:Nat}{ρ σ:Nat->Nat}(h1:∀a,plain (enc a)=true)(h2:∀d,plain (encd d)=true)(y:α⊕δ):RnR k j ρ σ (II enc encd y) (II enc encd y):=by
 cases y with
 | inl a=>exact .pl (h1 a)
 | inr d=>exact .pl (h2 d)
def Sy{γ:Type}{f:α->Option γ}{g:δ->Option γ}{y:α⊕δ}{r:γ}{X:Prop}(h1:∀a,y=.inl a->f a=some r->X)(h2:∀d,y=.inr d->g d=some r->X):Sum.elim f g y=some r->X:=by
 cases y with
 | inl a=>exact h1 a rfl
 | inr d=>exact h2 d rfl
def OM.ixa{α:Type}{f:α->List AV}{C:List α->List AV}{k:Nat}(h:OM f C k){t elem len:Nat}(hu:P.underlying t=some (.array len elem))(hs:(P.info? elem).map (·.size)=some k){l:List α}(hl:l.length=len){z:Int}{x:α}(hx:Mp l z=some x):Db P t (.el (C l)) (.sc (.int .i64 z))=some (.el (f x++C (l.drop (z.toNat+1)))):=by
 unfold Mp at hx;split at hx
 . rename_i hz
   have hi:=(List.getElem?_eq_some_iff.1 hx).1
   have hn:QY (.sc (.int .i64 z))=some z.toNat:=by
     unfold QY;simp[hz]
   cases he:P.info? elem with
   | none=>rw[he] at hs;cases hs
   | some e =>
     rw[he] at hs;have hk:e.size=k:=by simpa using hs
     subst hl;unfold Db;rw[hu,hn];simp only[he,hk,if_pos hi];rw[h.eq,h.eq,R6 h.len hx]
 cases hx
def amc(z:List NZ)(oZ:List AV):HR->Option (AX×List Cd×List AV×AS)
 | some (.fin e,[],cd,fr,s)=>(match nzs z fr s with
   | some (fr2,s2)=>some (e,cd,wkF fr2 oZ,s2)
   | none=>none)
 | _=>none
def Ed{r:HR}{X:Prop}{L:Code}{s0:AS}{Q:AX->List AV->AS->Prop}{l:List (PC P G)}(z:List NZ){fr2:List AV}{s2:AS}(R:T3 P G l (TA P G L s0 Q) r X)(h:amc z fr2 r=some (.normal,fF l,fr2,s2))(k:WL P G (XS P G) H0 L fr2 s2 Q):X:=by
 unfold amc at h;split at h;split at h;rename_i fr3 s3 hz;simp only[Option.some.injEq,Prod.mk.injEq] at h;obtain⟨rfl,rfl,h3,rfl⟩:=h;refine R _ _ _ _ rfl (NE l) ⟨_,_,λcx w c' w' vs hx _ Cm hr=>?_,k⟩;obtain⟨c2,x2,TV,r2⟩:=n9 hz c' w' vs Cm hr;exact⟨c2,hx.trans x2,TV,h3▸RU r2⟩;cases h;cases h
def Ds{M X:Prop}{L:Code}{fr:List AV}{s:AS}{Q:AX->List AV->AS->Prop}(Tb:WL P G (XS P G) H0 L fr s Q->X)(k:M->W P G (XS P G) H0 L fr s (TA P G L s Q)):M->X:=λh=>Tb (bD (k h))
def cO{M X Y:Prop}(Tb:Y->X)(k:M->Y):M->X:=λh=>Tb (k h)
def ppn:PC P G:=⟨.p .any ⟨[],0,[],0⟩,[],trivial⟩
def pzq(c:Nat):PC P G:=⟨.zq c,[],trivial⟩
def afv{f:FuncId}{args VL:List AV}{v:AV}{pre:List (Nat×AL)}{tp:List (Nat×Nat)}{QD:List (Nat×AL)}{tu:List (Nat×Nat)}(w:Wn args VL)(h:Cd.ok P G (.ET f VL (.IL v) pre tp QD tu)):PC P G :=
 ⟨.q v pre tp QD tu,[.ET f args (.IL v) pre tp QD tu,.p5 (N6 pre) (N6 pre) (OH tp) (OH tp)],⟨λs h1 h2 cx wd vs hs ha=>h s h1 h2 cx wd vs hs (w.ok ha),⟨rfl,rfl⟩,trivial⟩⟩
end
end AI
namespace AI
open Go
section
variable {α γ δ ρ:Type}
def allI(p:Nat->α->Bool):List α->Nat->Bool
 | [],_=>true
 | y::l,i=>p i y&&allI p l (i+1)
def gV{body:Nat->α->Unit->Option (Lp Unit δ ρ)}{done:Unit->δ}{p:Nat->α->Bool}{v:ρ}:∀{l:List α} {i:Nat},(∀k y,l[k]?=some y->body (i+k) y ()=some (if p (i+k) y then .nx () else .rt v))->Dl body done l i ()=some (if allI p l i then .inl (done ()) else .inr v)
 | [],i,_=>rfl
 | y::l,i,h=>by
   have h0:=h 0 y rfl;rw[Nat.add_zero] at h0;rw[Dl,h0,allI];cases p i y with
   | false=>simp[Ry]
   | true =>
     have:=gV (body:=body) (done:=done) (p:=p) (v:=v) (l:=l) (i:=i+1) λk z hz=>by
       have:=h (k+1) z (by simpa using hz)
       rwa[show i+(k+1)=i+1+k by omega] at this
     simpa[Ry] using this
def Vl{β:Type}{n:Nat}{x:Option β}(h:n<=9223372036854775807):SR n x=x:=by unfold SR;rw[if_pos h]
def GV{β:Type}{n:Nat}{x:Option β}(h:n<=100000000):OX n x=x:=by unfold OX;rw[if_pos h]
end
end AI
namespace AI
open Go
def mb(p:Prop):Bool:=@decide p (Classical.propDecidable _)
def Dh{p:Prop}:mb p=true↔p:=by unfold mb;exact @decide_eq_true_iff p (_)
def L1{p q:Prop}(h:p↔q):mb p=mb q:=by rw[propext h]
def KG{β:Type}(p:Prop)(x y:β):β:=@ite β p (Classical.propDecidable _) x y
def CH{β:Type}{p:Prop}{x y:β}(h:p):KG p x y=x:=@if_pos p (_) h _ _ _
def CL{β:Type}{p:Prop}{x y:β}(h:¬p):KG p x y=y:=@if_neg p (_) h _ _ _
section
variable {β:Type} {x y:β}
def MM(p:Prop):cond (mb p) x y=KG p x y:=by
 by_cases h:p;rw[CH h,Dh.2 h];rfl;rw[CL h]
 have:mb p=false:=by
   cases hm:mb p;rfl;exact absurd (Dh.1 hm) h
 rw[this];rfl
end
section
variable {p q r:Prop}
def iT:KG p (some true) (some false)=some (mb p):=by
 by_cases h:p;rw[CH h,Dh.2 h];rw[CL h];congr 1;cases hm:mb p;rfl;exact absurd (Dh.1 hm) h
def ajK:KG p (some (mb q)) (some false)=some (mb (p/\q)):=by
 by_cases h:p;rw[CH h];congr 1;rw[Bool.eq_iff_iff,Dh,Dh];simp[h];rw[CL h];congr 1;rw[Bool.eq_iff_iff,Dh];simp[h]
def apy:KG p (some false) (some (mb q))=some (mb (¬p/\q)):=by
 by_cases h:p;rw[CH h];congr 1;rw[Bool.eq_iff_iff,Dh];simp[h];rw[CL h];congr 1;rw[Bool.eq_iff_iff,Dh,Dh];simp[h]
def ajL:KG p (some true) (some (mb q))=some (mb (p\/q)):=by
 by_cases h:p;rw[CH h];congr 1;rw[Bool.eq_iff_iff,Dh];simp[h];rw[CL h];congr 1;rw[Bool.eq_iff_iff,Dh,Dh];simp[h]
def ck{δ ρ:Type}(v:ρ)(p:Prop):Lp Unit δ ρ:=KG p (.nx ()) (.rt v)
variable {δ ρ:Type} {v:ρ}
def alR:KG p (some (.nx ())) (some (.rt v))=some (ck (δ:=δ) v p):=by
 unfold ck;by_cases h:p;rw[CH h,CH h];rw[CL h,CL h]
def ae0:KG p (some (.rt v)) (some (.nx ()))=some (ck (δ:=δ) v ¬p):=by
 unfold ck;by_cases h:p;rw[CH h,CL (by simp[h])];rw[CL h,CH h]
def ajC:KG p (some (ck (δ:=δ) v q)) (some (.rt v))=some (ck v (p/\q)):=by
 unfold ck;by_cases h:p;rw[CH h];simp[h];rw[CL h,CL (by simp[h])]
def ae1:KG p (some (.rt v)) (some (ck (δ:=δ) v q))=some (ck v (¬p/\q)):=by
 unfold ck;by_cases h:p;rw[CH h,CL (by simp[h])];rw[CL h];simp[h]
def ajB:KG p (some (ck (δ:=δ) v q)) (some (.nx ()))=some (ck v (p->q)):=by
 unfold ck;by_cases h:p;rw[CH h];simp[h];rw[CL h,CH (by simp[h])]
def apt:KG p (some (.nx ())) (some (ck (δ:=δ) v q))=some (ck v (p\/q)):=by
 unfold ck;by_cases h:p;rw[CH h,CH (by simp[h])];rw[CL h];simp[h]
def apu:KG p (some (ck (δ:=δ) v q)) (some (ck v r))=some (ck v ((p->q)/\(¬p->r))):=by
 unfold ck;by_cases h:p;rw[CH h];simp[h];rw[CL h];simp[h]
def cT{α β:Type}{l:List α}{body:Nat->α->Unit->Option (Lp Unit Unit ρ)}{P:Nat->α->Prop}{k:Unit->Option β}{kr:ρ->Option β}(hl:l.length<=9223372036854775807)(hb:∀i y,l[i]?=some y->body i y ()=some (ck v (P i y))):(SR l.length (Dl body (λ_=>()) (l.drop 0) 0 ())).bind (PZ k kr)=KG (∀i y,l[i]?=some y->P i y) (k ()) (kr v):=by
 rw[Vl hl,List.drop_zero]
 have h1:∀k y,l[k]?=some y->body (0+k) y ()=some (if mb (P (0+k) y) then .nx () else .rt v):=λk y hy=>by
   rw[Nat.zero_add,hb k y hy];unfold ck;by_cases h:P k y;rw[CH h,if_pos (Dh.2 h)];rw[CL h,if_neg (λe=>h (Dh.1 e))]
 rw[gV (p:=λi y=>mb (P i y)) (v:=v) h1]
 have h2:∀(l:List α) (i:Nat),allI (λi y=>mb (P i y)) l i=true↔∀k y,l[k]?=some y->P (i+k) y:=by
   intro l
   induction l with
   | nil=>intro i;simp[allI]
   | cons a l ih =>
     intro i;rw[allI,Bool.and_eq_true,Dh,ih];constructor;rintro⟨h1,h2⟩ k y hk;cases k with
     | zero=>simp at hk;subst hk;exact h1
     | succ k=>rw[show i+(k+1)=i+1+k by omega];exact h2 k y (by simpa using hk)
     intro h;refine⟨h 0 a rfl,λk y hk=>?_⟩;rw[show i+1+k=i+(k+1) by omega];exact h (k+1) y (by simpa using hk)
 have h3:=h2 l 0;simp only[Nat.zero_add] at h3;by_cases h:∀i y,l[i]?=some y->P i y;rw[CH h,h3.2 h];rfl;rw[CL h]
 have:allI (λi y=>mb (P i y)) l 0=false:=by
   cases ha:allI (λi y=>mb (P i y)) l 0;rfl;exact absurd (h3.1 ha) h
 rw[this];rfl
end
end AI
namespace AI
open Go
def Sp{β:Type}(o:Option β)(Q:β->Prop):Prop:=∃r,o=some r/\Q r
section
variable {α β γ δ ρ κ:Type} {Q:β->Prop}
def Sp.mono{Q':β->Prop}{o:Option β}(h:Sp o Q)(k:∀r,Q r->Q' r):Sp o Q':=h.elim λr h=>⟨r,h.1,k r h.2⟩
def Ti(a b:Int):Th a b=mb (a<=b):=by rw[X5,Bool.eq_iff_iff,Dh,decide_eq_true_iff]
def OY(a b:Int):EQ a b=mb (a < b):=by rw[RE,Bool.eq_iff_iff,Dh,decide_eq_true_iff]
def KR(a b:Int):DZ a b=mb (a=b):=by rw[Ru,Bool.eq_iff_iff,Dh,beq_iff_eq]
def Rt(a b:ByteArray):BZ a.data.toList b.data.toList=mb (a=b):=by
 rw[U8,Bool.eq_iff_iff,Dh,beq_iff_eq];exact⟨λh=>ByteArray.ext (Array.ext' h),λh=>by rw[h]⟩
def n5{p:Prop}:(mb p=true)=p:=propext Dh
def VZ{p:Prop}:(mb p=false)=¬p:=by rw[<- Bool.not_eq_true,n5]
def gN{p:Prop}:(false=mb p)=¬p:=by rw[@eq_comm _ false,VZ]
def smb{p q:Prop}(h:p↔q):some (mb p)=some (mb q):=by rw[L1 h]
def dZ{p:Prop}(h:¬p):some false=some (mb p):=congrArg some (by rw[gN];exact h)
end
def YS{n:Int}(h:-9223372036854775808<=n/\n<=9223372036854775807):MG .i64 n=n:=by
 rw[UR];exact IntWalk.i64_in n (by omega)
def Ha{a b:Int}(h:-9223372036854775808<=a+b/\a+b<=9223372036854775807):BS a b=a+b:=by
 unfold BS;rw[bH,YS h]
def QH{a b:Int}(h:-9223372036854775808<=a - b/\a - b<=9223372036854775807):Sz a b=a - b:=by
 unfold Sz;rw[eC,YS h]
def Iz{a b:Int}(h:-9223372036854775808<=a*b/\a*b<=9223372036854775807):BN a b=a*b:=by
 unfold BN;rw[YS h]
end AI
namespace AI
open Go Go.RowKit
def Zi(w w1:World)(g:Nat):Prop:=w.heap.size<=g/\g < w1.heap.size
def Cx.Zr(cx:Cx)(w w1:World):Cx:=⟨cx.base,cx.CS,cx.rows,λg i=>cx.bad g i\/Zi w w1 g⟩
def Cx.VA(c:Cx)(cx:Cx):Cx:=⟨c.base,c.CS,c.rows,cx.bad⟩
section
variable {G:A6} {cx:Cx} {w w1:World} {s:AS}
def UN(k:Ra w w1 (λ_=>False)):Mon cx w (cx.Zr w w1) w1:=by
 refine⟨λ_ _ e=>e,Nat.le_refl _,λr y _ h=>⟨y,h,Kj.refl y⟩,λg i v hv=>⟨Nat.lt_of_lt_of_le hv.1 k.size,λhs=>?_,by rw[k.cell hv.1 id];exact hv.2.2⟩⟩;rcases hs with hs | hs | hs | hs
 exact hv.2.1 (.inl hs);exact hv.2.1 (.inr (.inl hs));exact hv.2.1 (.inr (.inr hs));have:=hs.1;have:=hv.1;omega
def tE(h:St G cx w s)(k:Ra w w1 (λ_=>False)):St G (cx.Zr w w1) w1 s:=by
 have m:=UN (cx:=cx) k;refine⟨h.len,h.desc,h.nodup,h.low,λid g b h1 h2=>?_,h.Ix,λr g n cap sz hr=>?_,h.IG,λg hg=>Nat.lt_of_lt_of_le (h.Md g hg) k.size,λg i hb=>?_,h.Io,λg cs hg=>(h.Mq g cs hg).Dt m,Nat.le_trans h.PY k.size⟩;obtain⟨o,ho,hb⟩:=h.box id g b h1 h2;exact⟨o,by rw[k.block g (Array.getElem?_eq_some_iff.1 ho).1 not_false];exact ho,hb.Dt m⟩;have hl:=h.Mx hr;obtain⟨KF,h2,h3,h4,vs,T,ho,h5⟩:=h.row r g n cap sz hr;refine⟨λi hb=>?_,h2,h3,h4,vs,T,by rw[k.block g (Array.getElem?_eq_some_iff.1 ho).1 not_false];exact ho,h5⟩;rcases hb with hb | hb
 exact KF i hb;have:=hb.1;omega;rcases hb with hb | hb
 exact Nat.lt_of_lt_of_le (h.Ml g i hb) k.size;exact hb.2
variable {c':Cx} {w' w2:World} {s':AS}
def TE(hx:Ext (cx.Zr w w1) w1 c' w')(k2:Ra w' w2 (Zi w w1)):Mon c' w' (c'.VA cx) w2:=by
 refine⟨λ_ _ e=>e,Nat.le_refl _,λr y _ h=>⟨y,h,Kj.refl y⟩,λg i v hv=>⟨Nat.lt_of_lt_of_le hv.1 k2.size,λhs=>?_,?_⟩⟩;rcases hs with hs | hs | hs
 exact hv.2.1 (.inl hs);exact hv.2.1 (.inr (.inl hs));exact hv.2.1 (.inr (.inr (by rw[hx.bad];exact .inl hs)));rw[k2.cell hv.1 (λhk=>hv.2.1 (.inr (.inr (by rw[hx.bad];exact .inr hk))))];exact hv.2.2
def YJ(h:St G cx w s)(k:Ra w w1 (λ_=>False))(hx:Ext (cx.Zr w w1) w1 c' w')(k2:Ra w' w2 (Zi w w1)):Ext cx w (c'.VA cx) w2:=by
 have m:=UN (cx:=cx) k;have m2:=TE hx k2;refine⟨hx.CS,hx.Ix,hx.rows,λg i v hv=>m2.Zs g i v (hx.Zs g i v (m.Zs g i v hv)),?_,hx.base,rfl,λg hg=>?_,λr g n cap sz hr=>?_,λq hq hp hr=>?_⟩;have b1:Below cx.base w w1:=k.below h.PY (λ_ h=>h.elim);have b2:Below cx.base w1 w':=hx.below;have b3:Below cx.base w' w2:=k2.below (Nat.le_trans (Nat.le_trans h.PY k.size) b2.size) (λq hq=>Nat.le_trans h.PY hq.1);exact(b1.trans b2).trans b3;rcases hx.Zk g hg with h1 | h1
 exact .inl h1;exact .inr (Nat.le_trans k.size h1);rcases hx.Zl r g n cap sz hr with h1 | h1
 exact .inl h1;exact .inr (Nat.le_trans k.size h1);have hq1:q < w1.heap.size:=Nat.lt_of_lt_of_le hq k.size;rw[k2.block q (Nat.lt_of_lt_of_le hq1 hx.below.size) (λhn=>by have:=hn.1;omega),hx.GM q hq1 hp hr,k.block q hq not_false]
def aM(h:St G cx w s)(hx:Ext (cx.Zr w w1) w1 c' w')(Cm:St G c' w' s')(k2:Ra w' w2 (Zi w w1)):St G (c'.VA cx) w2 s':=by
 have m2:=TE hx k2
 have RA:∀g,some g∈c'.CS->¬Zi w w1 g:=by
   intro g hg hn;rcases hx.Zk g hg with h1 | h1
   have:=h.Md g h1;have:=hn.1;omega;have:=hn.2;omega
 refine⟨Cm.len,Cm.desc,Cm.nodup,Cm.low,λid g b h1 h2=>?_,Cm.Ix,λr g n cap sz hr=>?_,Cm.IG,λg hg=>Nat.lt_of_lt_of_le (Cm.Md g hg) k2.size,λg i hb=>Nat.lt_of_lt_of_le (Cm.Ml g i (by rw[hx.bad];exact .inl hb)) k2.size,Cm.Io,λg cs hg=>(Cm.Mq g cs hg).Dt m2,Nat.le_trans Cm.PY k2.size⟩;obtain⟨o,ho,hb⟩:=Cm.box id g b h1 h2;exact⟨o,by rw[k2.block g (Array.getElem?_eq_some_iff.1 ho).1 (RA g (List.mem_of_getElem? h1))];exact ho,hb.Dt m2⟩;obtain⟨KF,h2,h3,h4,vs,T,ho,h5⟩:=Cm.row r g n cap sz hr;have hb:c'.bad=λg i=>cx.bad g i\/Zi w w1 g:=hx.bad;exact⟨λi Wf=>KF i (by rw[hb];exact .inl Wf),h2,h3,h4,vs,T,by rw[k2.block g (Array.getElem?_eq_some_iff.1 ho).1 (λhn=>KF 0 (by rw[hb];exact .inr hn))];exact ho,h5⟩
def Ng(h:St G cx w s)(hx:Ext (cx.Zr w w1) w1 c' w'){q:Nat}(hq:Zi w w1 q):w'.heap[q]?=w1.heap[q]?:=by
 refine hx.GM q hq.2 (λhm=>?_) (λr n cap sz hr=>?_);have:=h.Md q hm;have:=hq.1;omega;have:=h.Mx (r:=r) hr;have:=hq.1;omega
end
end AI
