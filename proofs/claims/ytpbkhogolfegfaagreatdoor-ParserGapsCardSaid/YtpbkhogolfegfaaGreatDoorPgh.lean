/- Part of a proof: see the last text. -/
import Derived.Test.YtpbkhogolfegfaaGreatDoorPgg
set_option linter.unusedVariables false
set_option linter.unusedSimpArgs false
set_option linter.defProp false
noncomputable section
namespace AI
open Go Go.RowKit
def WJ(ps:List (Nat×Nat)):List AV:=ps.map λp=>.ptr p.1 p.2
def V0(ps:List (Nat×Nat)):(WJ ps).length=ps.length:=by simp[WJ]
def Et(b:Nat)(B:Nat->Nat->Prop)(w0:World)(g cap:Nat)(ps:List (Nat×Nat)):EW:=λc w =>
 c.base=b/\Below b w0 w/\(∀g' i,c.bad g' i↔(B g' i\/g'=g))/\b<=g/\some g∉c.CX/\(∀(r:Nat) n cap' sz,c.rows[r]?≠some (.RC g n cap' sz)) /\
 ∃(vs ext:List Value) (T:TypeId),w.heap[g]?=some (.cells (vs++ext).toArray T (0,0))/\vs.length+ext.length=cap/\CG c w (WJ ps) vs
def Et.Hh{b:Nat}{B:Nat->Nat->Prop}{w0:World}{g cap:Nat}{ps:List (Nat×Nat)}:UH (Et b B w0 g cap ps):=by
 rintro cx w RD w' ⟨h1,h2,h3,h4,h5,h6,vs,ext,T,h7,h8,h9⟩ hx;have hg:g < w.heap.size:=(Array.getElem?_eq_some_iff.1 h7).1;refine⟨hx.base.trans h1,h2.trans (by have:=hx.below;rwa[h1] at this),λg' i=>by rw[hx.bad];exact h3 g' i,h4,λhm=>?_,λr n cap' sz hr=>?_,vs,ext,T,by rw[hx.Hh g hg h5 h6];exact h7,h8,h9.mono hx⟩;rcases hx.Z2 g hm with h | h
 exact h5 h;omega;rcases hx.Z4 r g n cap' sz hr with ⟨r0,n0,R8,mI,h⟩ | h
 exact h6 _ _ _ _ h;omega
def Et.fin{b:Nat}{B:Nat->Nat->Prop}{w0:World}{g cap:Nat}{ps:List (Nat×Nat)}(hB:∀g i,B g i->g < b):aDC b B w0 (Et b B w0 g cap ps):=by
 rintro c w ⟨h1,h2,h3,h4,h5,_⟩;refine⟨h1,h2,λg' i hb=>(h3 g' i).2 (.inl hb),λg' i hg hb=>?_⟩;rcases(h3 g' i).1 hb with h | rfl
 exact hB g' i h;exact absurd hg h5
def Et.pop{b:Nat}{B:Nat->Nat->Prop}{w0:World}{g cap:Nat}{ps:List (Nat×Nat)}{p:Nat×Nat}{c:Cx}{w:World}(h:Et b B w0 g cap (ps++[p]) c w):Et b B w0 g cap ps c w:=by
 obtain⟨h1,h2,h3,h4,h5,h6,vs,ext,T,h7,h8,h9⟩:=h;have hl:=h9.len;rw[V0,List.length_append] at hl;refine⟨h1,h2,h3,h4,h5,h6,vs.take ps.length,vs.drop ps.length++ext,T,by rw[<- List.append_assoc,List.take_append_drop];exact h7,by rw[List.length_append,List.length_take,List.length_drop];omega,?_⟩;have:=h9.take ps.length;unfold WJ at this ⊢;rwa[List.map_append,List.take_left' (by simp)] at this
def St.move{G:Bc}{c c':Cx}{w w':World}{s:AS}(h:St G c w s)(hm:Mon c w c' w')(Sd:c'.CX=c.CX)(tW:c'.rows=c.rows)(aeT:c'.base=c.base)
   (avB:∀k,k < w.heap.size->(some k∈c.CX\/∃(r:Nat) (n cap sz:Nat),c.rows[r]?=some (.RC k n cap sz))->w'.heap[k]?=w.heap[k]?) (avH:w.heap.size<=w'.heap.size)
   (Lg:∀g i,c'.bad g i->(c.bad g i\/w.heap.size<=g)/\g < w'.heap.size):St G c' w' s:=by
 refine⟨by rw[Sd];exact h.len,h.desc,by rw[Sd];exact h.nodup,by rw[Sd,aeT];exact h.low,λid g b h1 h2=>?_,by rw[tW];exact h.I2,λr g n cap sz hr=>?_,by rw[tW];exact h.Je,λg hg=>Nat.lt_of_lt_of_le (h.MM g (by rwa[Sd] at hg)) avH,λg i hb=>(Lg g i hb).2,by rw[tW];exact h.IX,λg cs hg=>(h.M1 g cs hg).Dz hm,by rw[aeT];exact Nat.le_trans h.QB avH⟩;rw[Sd] at h1;obtain⟨o,ho,hb⟩:=h.box id g b h1 h2;exact⟨o,by rw[avB g (Array.getElem?_eq_some_iff.1 ho).1 (.inl (List.mem_of_getElem? h1))];exact ho,hb.Dz hm⟩;rw[tW] at hr;obtain⟨a1,a2,a3,a4,vs,T,a5,a6⟩:=h.row r g n cap sz hr;have hlt:=h.Ng hr;refine⟨λi hb=>?_,by rw[aeT];exact a2,by rw[Sd];exact a3,a4,vs,T,by rw[avB g hlt (.inr ⟨r,n,cap,sz,hr⟩)];exact a5,a6⟩;rcases(Lg g i hb).1 with h1 | h1
 exact a1 i h1;omega
section
variable {P:Program} {G:Bc} {E:EW} {fr:List AV} {s:AS} {Q:QE}
def PQ.aHG{ι:Type}{E':ι->EW}{ops:Array Oper}{i:Nat}{l:List Nat}{o:Oper}{fr2:List AV}(v:ι->AV){s2:AS}(ho:ops[i]?=some o)(hg:o.guard=none)
   (h:∀(cx:Cx) (w:World) (a:Act),E cx w->St G cx w s->CG cx w fr a.tmps.toList->∃x u w' RD,(execOp a.eval o).run P w=.ok (.value u) w'/\E' x RD w'/\St G RD w' s2/\CG RD w' fr2 a.tmps.toList/\Rp RD w' (v x) u)
   (t:∀x,PQ P G (E' x) ops l (IY fr2 o.dst (v x)) s2 Q):PQ P G E ops (i::l) fr s Q:=by
 intro cx w a K hE hs hf hd hK;refine Mc ho ?_;obtain⟨x,u,w',RD,hr,jM,hs',Yw,hu⟩:=h cx w a hE hs hf;unfold MW;have hw:Region.wanted o (yielded ops a.tmps)=true:=by unfold Region.wanted;rw[hg]
 rw[hw];simp only[if_true];unfold Oper.wp;rw[hr];exact t x RD w' (a.put o.dst u) K jM hs' (OY Yw hu) (by cases o.dst<;>exact hd) hK
def WE.reg{c:Code}{n:Nat}(h:Sv c n=true)(k:PQ P G E (FY c) (List.range n) fr s Q):WE P G E c fr s Q:=by
 obtain⟨⟨id,hc⟩,hn⟩:=vH h;rw[hc];refine .region ?_;rw[<- hn] at k;exact k
variable {c:Code} {n i:Nat} {l:List Nat}
def PQ.len{x:Operand}{t e:TypeId}{A:Option Addr}{k cap:Nat}(hr:Sv c n=true)(hi:i < n)(h:uH (opAt c i)=some (x,t))(hu:P.underlying t=some (.slice e))(ha:Bd G fr x=some (.raw A k cap))
   (j:PQ P G E (FY c) l (IY fr (opAt c i).dst (.sc (.int .i64 k))) s Q):PQ P G E (FY c) (i::l) fr s Q:=by
 have hgd:(opAt c i).guard=none:=by
   unfold uH at h;split at h;rename_i hg;exact hg;cases h
 refine .sem (.sc (.int .i64 k)) (LA hr hi) hgd (λcx w a hE hs hf=>?_) j;have hv:=EA hs hf ha;generalize hq:a.eval x=v at hv;cases hv;exact⟨_,w,cx,(yS h hu hq).2,hE,hs,hf,.sc rfl⟩
variable {b g cap:Nat} {B:Nat->Nat->Prop} {w0:World} {ps:List (Nat×Nat)} {p:Nat×Nat}
def PQ.top{t t2 e d:TypeId}{x y:Operand}(hr:Sv c n=true)(hi:i+1 < n)(h1:aAD (opAt c i)=some (t,x,y))(hd:(opAt c i).dst=some d)(h2:aAK (opAt c (i+1))=some (t2,.tmp d))(hu:P.underlying t=some (.slice e))(he:(P.info? e).map (·.size)=some 1)
   (hd2:(P.underlying t2).map Ob=some false) (he2:(P.info? t2).map (·.size)=some 1) (ha:Bd G fr x=some (.raw (some ⟨g,0,none⟩) (ps++[p]).length cap)) (hy:Bd G fr y=some (.sc (.int .i64 ((ps.length:Nat):Int)))) (hd3:Nat.blt d fr.length=true)
   (j:PQ P G (Et b B w0 g cap (ps++[p])) (FY c) l (IY (IY fr (some d) .any) (opAt c (i+1)).dst (.ptr p.1 p.2)) s Q):PQ P G (Et b B w0 g cap (ps++[p])) (FY c) (i::(i+1)::l) fr s Q:=by
 have hd3:d < fr.length:=Nat.blt_eq.mp hd3;intro cx w a K hE hs hf hdf hK;have tY:=EA hs hf ha;have hvy:=EA hs hf hy;generalize hqa:a.eval x=va at tY;generalize hqy:a.eval y=vy at hvy;cases tY;cases hvy;obtain⟨ie,hie,hsz⟩:=Option.map_eq_some_iff.1 he;have r1:=afP (P:=P) (w:=w) h1 hu hie hqa hqy (by simp);rw[hsz,Nat.mul_one] at r1;have hE2:=hE;obtain⟨_,_,_,_,_,_,vs,ext,T,h7,h8,h9⟩:=hE2;refine Mc (LA hr (by omega)) ?_;unfold MW;rw[show Region.wanted (opAt c i) (yielded (FY c) a.tmps)=true by unfold Region.wanted;rw[r1.1]];simp only[if_true];unfold Oper.wp;rw[r1.2];show wpOps P (FY c) K ((i+1)::l) (a.put (opAt c i).dst (.pointer (some ⟨g,ps.length,none⟩))) w;rw[hd];have hl:=hf.len;rw[Array.length_toList] at hl
 have I6:(a.put (some d) (.pointer (some ⟨g,ps.length,none⟩))).eval (.tmp d)=.pointer (some ⟨g,ps.length,none⟩):=by
   simp[Act.put,Act.eval,Array.getD_eq_getD_getElem?,Array.getElem?_setIfInBounds,hl,hd3]
 have hap:apart P t2 (WJ (ps++[p])) ps.length=some (.ptr p.1 p.2):=by
   unfold apart;obtain⟨dd,hu2,hdd⟩:=Option.map_eq_some_iff.1 hd2;rw[hu2];cases U2:P.info? t2 with
   | none=>rw[U2] at he2;cases he2
   | some j =>
     simp only;rw[hdd,if_neg (by simp)];simp[WJ]
 obtain⟨u,hru,hrp⟩:=TP (P:=P) (w:=w) (g:=g) (o:=0) hap h9 (λi v hv=>by rw[Nat.zero_add];exact cell_of_heap h7 (SF hv));rw[Nat.zero_add] at hru;have r2:=afV (P:=P) (w:=w) h2 I6 hru;refine Mc (LA hr hi) ?_;unfold MW;rw[show ∀q,Region.wanted (opAt c (i+1)) q=true by intro q;unfold Region.wanted;rw[r2.1]];simp only[if_true];unfold Oper.wp;rw[r2.2];exact j cx w _ K hE hs (OY (OY (dst:=some d) hf (.any (v:=.pointer (some ⟨g,ps.length,none⟩)) rfl)) hrp) (by cases (opAt c (i+1)).dst<;>exact hdf) hK
def PQ.aPJ{t e:TypeId}{x y:Operand}(hr:Sv c n=true)(hi:i < n)(h:vU (opAt c i)=some (t,x,y))(hu:P.underlying t=some (.slice e))(he:(P.info? e).map (·.size)=some 1)(ha:Bd G fr x=some (.raw (some ⟨g,0,none⟩) (ps++[p]).length cap))(hy:Bd G fr y=some (.sc (.int .i64 ((ps.length:Nat):Int))))
   (j:PQ P G (Et b B w0 g cap ps) (FY c) l (IY fr (opAt c i).dst (.raw (some ⟨g,0,none⟩) ps.length cap)) s Q):PQ P G (Et b B w0 g cap (ps++[p])) (FY c) (i::l) fr s Q:=by
 have hgd:(opAt c i).guard=none:=by
   unfold vU at h;split at h;rename_i hg;exact hg;cases h
 refine .sem (.raw (some ⟨g,0,none⟩) ps.length cap) (LA hr hi) hgd (λcx w a hE hs hf=>?_) j;have tY:=EA hs hf ha;have hvy:=EA hs hf hy;generalize hqa:a.eval x=va at tY;generalize hqy:a.eval y=vy at hvy;cases tY;cases hvy;obtain⟨ie,hie,_⟩:=Option.map_eq_some_iff.1 he;have hE2:=hE;obtain⟨_,_,_,_,_,_,vs,ext,T,h7,h8,h9⟩:=hE2;have hl:=h9.len;rw[V0,List.length_append] at hl;exact⟨_,w,cx,(aaJ h hu hie hqa hqy (by omega)).2,hE.pop,hs,hf,.raw⟩
def PQ.push{t tx e e2 id off:TypeId}{x y:Operand}(hr:Sv c n=true)(hi:i < n)(h:iE (opAt c i)=some (x,y,t,tx))(hu:P.underlying t=some (.slice e))(hux:P.underlying tx=some (.slice e2))
   (he:(P.info? e).map (λi=>(i.size,decide (i.bytes<=10000),i.zero.map (·.cells.size)))=some (1,true,some 1)) (ha:Bd G fr x=some (.raw (some ⟨g,0,none⟩) ps.length cap)) (hy:Bd G fr y=some (.sl .full 1 [.ptr id off])) (hlen:ps.length+1<=100000000)
   (j:∀g' cap',PQ P G (Et b B w0 g' cap' (ps++[(id,off)])) (FY c) l (IY fr (opAt c i).dst (.raw (some ⟨g',0,none⟩) (ps++[(id,off)]).length cap')) s Q):PQ P G (Et b B w0 g cap ps) (FY c) (i::l) fr s Q:=by
 cases hie:P.info? e with
 | none=>rw[hie] at he;cases he
 | some ie =>
 rw[hie] at he;simp only[Option.map_some,Option.some.injEq,Prod.mk.injEq,decide_eq_true_eq] at he;obtain⟨hsz,hby,hzz⟩:=he;obtain⟨z,hz,hzs⟩:=Option.map_eq_some_iff.1 hzz;refine .aHG (ι:=Nat×Nat) (E':=λq=>Et b B w0 q.1 q.2 (ps++[(id,off)])) (λq=>.raw (some ⟨q.1,0,none⟩) (ps++[(id,off)]).length q.2) (LA hr hi) (iF h) (λcx w a hE hs hf=>?_) (λq=>j q.1 q.2);have tY:=EA hs hf ha;have hvy:=EA hs hf hy;generalize hqa:a.eval x=va at tY;generalize hqy:a.eval y=vy at hvy;cases tY;obtain⟨h1,h2,h3,h4,h5,h6,vs,ext,T,h7,h8,h9⟩:=hE;have hg:g < w.heap.size:=(Array.getElem?_eq_some_iff.1 h7).1;have hl:=h9.len;rw[V0] at hl;obtain⟨news,hnr,hnl,hsi⟩:=dD (P:=P) (s:=s) (size:=ie.size) (tx:=tx) (n:=1) (cs:=[.ptr id off]) hs (by unfold UP;rw[hux,hsz];rfl) hvy;rw[hsz,Nat.mul_one] at hnl;have aNT:∀g' i v,Me cx w g' i v->g'≠g:=λg' i v hv e=>hv.2.1 (.inr (.inr ((h3 g' i).2 (.inr e))))
 have avD:∀{RD:Cx} {w':World},Mon cx w RD w'->CG RD w' (WJ (ps++[(id,off)])) (vs++news):=λhm=>by
   unfold WJ at h9 ⊢;rw[List.map_append];exact(h9.Dz hm).append (hnr.Dz hm)
 by_cases U5:ps.length+1<=cap;have yL:ps.length+news.length<=(vs++ext).toArray.size:=by rw[hnl,List.size_toArray,List.length_append];omega
 have Gm:=run_storeCells_at P g ps.length T news 0 (vs++ext).toArray w h7 (by simpa using yL) (Xt hnr rfl)
 simp only[Nat.add_zero] at Gm;have L3:=setRow_heap w g (vs++ext).toArray ((vs++ext).toArray.toList.take ps.length++news++(vs++ext).toArray.toList.drop (ps.length+news.length)).toArray T (0,0) h7;have hc:=H7 w g ((vs++ext).toArray.toList.take ps.length++news++(vs++ext).toArray.toList.drop (ps.length+news.length)).toArray
 have ayT:((vs++ext).toArray.toList.take ps.length++news++(vs++ext).toArray.toList.drop (ps.length+news.length))=(vs++news)++ext.drop 1:=by
   simp only[List.toList_toArray];rw[List.take_left' hl,hnl,List.drop_append];rw[List.drop_eq_nil_of_le (by omega),List.nil_append,show ps.length+1 - vs.length=1 by omega]
 rw[ayT] at L3 Gm hc;have hm:Mon cx w cx (w.setRow g ((vs++news)++ext.drop 1).toArray):=⟨λ_ _ h=>h,Nat.le_refl _,λr y _ h=>⟨y,h,KS.refl y⟩,λg' i v hv=>⟨Nat.lt_of_lt_of_le hv.1 hc.size,hv.2.1,by rw[hc.cell hv.1 (aNT g' i v hv)];exact hv.2.2⟩⟩
 refine⟨(g,cap),_,_,cx,(aG h (λty=>by
   rw[hqa,hqy];exact Q5 (ty:=ty) hu hie hsi U5 (w':=w.setRow g ((vs++news)++ext.drop 1).toArray) (λa ha=>by cases ha;rw[add_lit,Nat.zero_add,hsz,Nat.mul_one];exact Gm) (λh=>by cases h))).2,⟨h1,h2.trans (hc.below (by rw[<- h1];exact hs.QB) (λk hk=>by rw[hk];exact h4)),h3,h4,h5,h6,vs++news,ext.drop 1,T,L3,?_,avD hm⟩,hs.move hm rfl rfl rfl (λk hk hor=>hc.block k hk (λe=>?_)) hc.size (λg' i hb=>⟨.inl hb,Nat.lt_of_lt_of_le (hs.M0 g' i hb) hc.size⟩),hf.Dz hm,?_⟩
 rw[List.length_append,List.length_drop];omega;subst e;rcases hor with h | ⟨r,n',cap',sz,h⟩
 exact h5 h;exact h6 _ _ _ _ h;rw[List.length_append];exact .raw
 have hfc:(Builtin.firstCells ie.size ps.length (.slice (some ⟨g,0,none⟩) ps.length cap)).run P { w with drawn:=w.drawn+1 }=.ok vs.toArray { w with drawn:=w.drawn+1 }:=by
   rw[hsz];refine run_firstCells_some { w with drawn:=w.drawn+1 } 1 ps.length ⟨g,0,none⟩ ps.length cap vs (by omega) (λj v hj=>?_)
   rw[add_lit,Nat.zero_add];exact cell_of_heap h7 (SF hj)
 have ayS:(ps.length+1)*ie.bytes<=140737488355328:=Nat.le_trans (Nat.mul_le_mul hlen hby) (by decide)
 have hex:∃cap',ps.length+1<=cap'/\∀ty,(Builtin.append_ #[t,tx] ty #[.slice (some ⟨g,0,none⟩) ps.length cap,vy]).run P w=.ok (.slice (some ⟨w.heap.size,0,none⟩) (ps.length+1) cap') { w with drawn:=w.drawn+1,heap:=w.heap.push (.cells ((vs++news).toArray++Builtin.zeroCells z.cells (cap' - (ps.length+1))) e) }:=by
   obtain⟨cap',hc',RG⟩:=Q4 (ty:=0) hu hie hz hsi hfc (by omega) (by omega) ayS;exact⟨cap',hc',λty=>RG⟩
 obtain⟨cap',Yt,RG⟩:=hex;have hzc:(Builtin.zeroCells z.cells (cap' - (ps.length+1))).size=cap' - (ps.length+1):=by rw[size_zeroCells,hzs,Nat.mul_one]
 let w':World:={ w with drawn:=w.drawn+1,heap:=w.heap.push (.cells ((vs++news).toArray++Builtin.zeroCells z.cells (cap' - (ps.length+1))) e) }
 have hk:RV w w' (λ_=>False):=⟨rfl,rfl,rfl,by simp[w'],λk hk _=>by simp[w',Array.getElem?_push];intro h;omega⟩
 have L3:w'.heap[w.heap.size]?=some (.cells ((vs++news)++(Builtin.zeroCells z.cells (cap' - (ps.length+1))).toList).toArray e (0,0)):=by
   have:w'.heap[w.heap.size]?=some (.cells ((vs++news).toArray++Builtin.zeroCells z.cells (cap' - (ps.length+1))) e (0,0)):=by simp[w']
   rw[this];congr 2;apply Array.ext';simp
 let RD:Cx:={ cx with bad:=λg' i=>B g' i\/g'=w.heap.size }
 have hBs:∀g' i,B g' i->g' < w.heap.size:=λg' i hb=>hs.M0 g' i ((h3 g' i).2 (.inl hb));have hm:Mon cx w RD w':=⟨λ_ _ h=>h,Nat.le_refl _,λr y _ h=>⟨y,h,KS.refl y⟩,λg' i v hv=>⟨Nat.lt_of_lt_of_le hv.1 hk.size,λGP=>?_,by rw[hk.cell hv.1 not_false];exact hv.2.2⟩⟩;have aNV:w'.heap.size=w.heap.size+1:=by simp[w']
 refine⟨(w.heap.size,cap'),_,w',RD,(aG h (λty=>by rw[hqa,hqy];exact RG ty)).2,⟨h1,h2.trans (hk.below (by rw[<- h1];exact hs.QB) (λ_ h=>h.elim)),λ_ _=>Iff.rfl,by rw[<- h1];exact hs.QB,λhm'=>?_,λr n' c' sz Xl=>?_,vs++news,_,e,L3,?_,avD hm⟩,hs.move hm rfl rfl rfl (λk hk' _=>hk.block k hk' not_false) hk.size (λg' i hb=>?_),hf.Dz hm,?_⟩;have:=hs.MM _ hm';omega;have:=hs.Ng Xl;omega;have hz3:(Builtin.zeroCells z.cells (cap' - (ps.length+1))).toList.length=cap' - (ps.length+1):=by rw[Array.length_toList,hzc]
 show(vs++news).length+_=cap';rw[hz3,List.length_append];omega;rcases hb with hb | rfl
 exact⟨.inl ((h3 g' i).2 (.inl hb)),by have:=hBs g' i hb;omega⟩;exact⟨.inr (Nat.le_refl _),by omega⟩;rw[List.length_append];exact .raw;rcases GP with GP | GP | GP
 exact hv.2.1 (.inl GP);exact hv.2.1 (.inr (.inl GP));rcases GP with GP | GP
 exact hv.2.1 (.inr (.inr ((h3 g' i).2 (.inl GP))));have:=hv.1;omega
def PQ.begin{t e id off:TypeId}{x:Operand}(hr:Sv c n=true)(hi:i < n)(h:amW (opAt c i)=some (t,x))(hu:P.underlying t=some (.slice e))(he:(P.info? e).map (λi=>(i.size,i.zero.map (·.cells.size)))=some (1,some 1))(ha:Bd G fr x=some (.ptr id off))
   (j:∀g',PQ P G (Et b B w0 g' 1 [(id,off)]) (FY c) l (IY fr (opAt c i).dst (.raw (some ⟨g',0,none⟩) 1 1)) s Q):PQ P G (E0 b B w0) (FY c) (i::l) fr s Q:=by
 cases hie:P.info? e with
 | none=>rw[hie] at he;cases he
 | some ie =>
 rw[hie] at he;simp only[Option.map_some,Option.some.injEq,Prod.mk.injEq] at he;obtain⟨hsz,hzz⟩:=he;obtain⟨z,hz,hzs⟩:=Option.map_eq_some_iff.1 hzz
 have hgd:(opAt c i).guard=none:=by
   unfold amW at h;split at h;rename_i hg;exact hg;cases h
 refine .aHG (ι:=Nat) (E':=λq=>Et b B w0 q 1 [(id,off)]) (λq=>.raw (some ⟨q,0,none⟩) 1 1) (LA hr hi) hgd (λcx w a hE hs hf=>?_) j;have tY:=EA hs hf ha;generalize hqa:a.eval x=va at tY;obtain⟨h1,h2,h3⟩:=hE;have RG:=(acB (P:=P) (w:=w) (ρ:=a.eval) h hu hie hsz hz hzs (by rw[hqa];cases tY;rfl)).2;rw[hqa] at RG;let w':World:={ w with heap:=w.heap.push (.cells #[va] e) }
 have hk:RV w w' (λ_=>False):=N2 w _;let RD:Cx:={ cx with bad:=λg' i=>B g' i\/g'=w.heap.size }
 have hBs:∀g' i,B g' i->g' < w.heap.size:=λg' i hb=>hs.M0 g' i (by rw[h2];exact hb);have aNV:w'.heap.size=w.heap.size+1:=by simp[w']
 have hm:Mon cx w RD w':=⟨λ_ _ h=>h,Nat.le_refl _,λr y _ h=>⟨y,h,KS.refl y⟩,λg' i v hv=>⟨Nat.lt_of_lt_of_le hv.1 hk.size,λGP=>by
   rcases GP with GP | GP | GP
   exact hv.2.1 (.inl GP);exact hv.2.1 (.inr (.inl GP));rcases GP with GP | GP
   exact hv.2.1 (.inr (.inr (by rw[h2];exact GP)));have:=hv.1;omega,by rw[hk.cell hv.1 not_false];exact hv.2.2⟩⟩
 refine⟨w.heap.size,_,w',RD,RG,⟨h1,h3.trans (hk.below (by rw[<- h1];exact hs.QB) (λ_ h=>h.elim)),λ_ _=>Iff.rfl,by rw[<- h1];exact hs.QB,λhm'=>?_,λr n' c' sz Xl=>?_,[va],[],e,by simp[w'],rfl,.cons (tY.Dz hm) .nil⟩,hs.move hm rfl rfl rfl (λk hk' _=>hk.block k hk' not_false) hk.size (λg' i hb=>?_),hf.Dz hm,.raw⟩;have:=hs.MM _ hm';omega;have:=hs.Ng Xl;omega;rcases hb with hb | rfl
 exact⟨.inl (by rw[h2];exact hb),by have:=hBs g' i hb;omega⟩;exact⟨.inr (Nat.le_refl _),by omega⟩
def WE.run(hm:P.follows .mixedOrders=true)(hk:UH E){c:Code}(l:List (PC P G)){e:AX}{fr2:List AV}{s2:AS}(h:rF fr2 (S5 P G 300 c [] (pHs l) fr s)=some (e,hJ l,fr2,s2))(hp:∀v,e≠.pan v)(hq:Q e fr2 s2 E):WE P G E c fr s Q:=by
 unfold rF at h;split at h;rename_i e' cd fr' s' hr;simp only[Option.some.injEq,Prod.mk.injEq] at h;obtain⟨rfl,rfl,hfr,rfl⟩:=h;have hw:W P G (XS P G) H0 c fr s (λe2 f2 s2=>e2=e'/\f2=fr'/\s2=s'):=Ac 300 l _ _ _ _ hr (Oh l) ⟨rfl,rfl,rfl⟩;obtain⟨e1,f1,s1,hj,rfl,rfl,rfl⟩:=hw;have hS:=sound (Sb hm) hj;intro cx w a K hE hs hf hd hK;refine hS cx w a K hs hf hd ?_;rintro e'' a' w' ⟨c',hx,hs',RF,h4⟩;refine hK _ _ _ E hq c' w' a' e'' (hk _ _ _ _ hE hx) hs' RF ?_;rw[<- hfr];cases e1 with
 | normal=>exact⟨h4.1,SB h4.2⟩
 | exit id=>exact⟨h4.1,SB h4.2⟩
 | ret=>exact⟨h4.1,SB h4.2⟩
 | pan v=>exact absurd rfl (hp v)
 cases h
end
end AI
namespace AI
open Go Go.RowKit
def TC{M:List AM}:∀{n id:Nat} {acc:List (Nat×AM)},id < n->look id (I9 M n acc)=look id acc:=by
 induction M with
 | nil=>intro n id acc _;rfl
 | cons x M ih =>
   intro n id acc h;simp only[I9];rw[ih (by omega)];simp only[look]
   have:Nat.beq n id=false:=by
     cases hq:Nat.beq n id with
     | false=>rfl
     | true=>have:=beq_true hq;omega
   rw[this]
def ZW{M:List AM}:∀{n i:Nat} {acc:List (Nat×AM)} {b:AM},M[i]?=some b->look (n+i) (I9 M n acc)=some b:=by
 induction M with
 | nil=>intro n i acc b h;simp at h
 | cons x M ih =>
   intro n i acc b h;cases i with
   | zero =>
     simp at h;subst h;simp only[I9,Nat.add_zero];rw[TC (Nat.lt_succ_self n)];simp only[look,Nat.beq_refl]
   | succ i =>
     simp only[I9];rw[show n+(i+1)=n+1+i by omega];exact ih (by simpa using h)
def Vq{M:List AM}:∀{n id:Nat} {acc:List (Nat×AM)} {b:AM},id < n->Ry id b (I9 M n acc)=I9 M n (Ry id b acc):=by
 induction M with
 | nil=>intro n id acc b _;rfl
 | cons x M ih =>
   intro n id acc b h;simp only[I9];rw[ih (by omega)];simp only[Ry]
   have:Nat.beq n id=false:=by
     cases hq:Nat.beq n id with
     | false=>rfl
     | true=>have:=beq_true hq;omega
   rw[this]
def gF{M:List AM}:∀{n i:Nat} {acc:List (Nat×AM)} {b:AM},i < M.length->Ry (n+i) b (I9 M n acc)=I9 (M.set i b) n acc:=by
 induction M with
 | nil=>intro n i acc b h;simp at h
 | cons x M ih =>
   intro n i acc b h;cases i with
   | zero =>
     simp only[I9,Nat.add_zero,List.set_cons_zero];rw[Vq (Nat.lt_succ_self n)];simp only[Ry,Nat.beq_refl]
   | succ i =>
     simp only[I9,List.set_cons_succ];rw[show n+(i+1)=n+1+i by omega];exact ih (by simpa using h)
def qJ{x:AM}:∀{M:List AM} {n:Nat} {acc:List (Nat×AM)},I9 (M++[x]) n acc=(n+M.length,x)::I9 M n acc:=by
 intro M
 induction M with
 | nil=>intro n acc;rfl
 | cons y M ih =>
   intro n acc;simp only[List.cons_append,I9,List.length_cons];rw[ih,show n+1+M.length=n+(M.length+1) by omega]
def akK{k:Nat}{b b0:AM}{T:List (Nat×AM)}:Ry k b ((k,b0)::T)=(k,b)::T:=by simp only[Ry,Nat.beq_refl]
def Xo{k:Nat}{b:AM}{T:List (Nat×AM)}:look k ((k,b)::T)=some b:=by simp only[look,Nat.beq_refl]
def eY{k id:Nat}{b:AM}{T:List (Nat×AM)}(h:k≠id):look id ((k,b)::T)=look id T:=by
 simp only[look];cases hq:Nat.beq k id with
 | false=>rfl
 | true=>exact absurd (beq_true hq) h
def aCV{k id:Nat}{b b2:AM}{T:List (Nat×AM)}(h:k≠id):Ry id b2 ((k,b)::T)=(k,b)::Ry id b2 T:=by
 simp only[Ry];cases hq:Nat.beq k id with
 | false=>rfl
 | true=>exact absurd (beq_true hq) h
def YP{id:Nat}{b b0:AM}:∀{T:List (Nat×AM)},look id T=some b0->look id (Ry id b T)=some b:=by
 intro T
 induction T with
 | nil=>intro h;cases h
 | cons e T ih =>
   intro h;simp only[look] at h;simp only[Ry];split at h;simp only[look,Nat.beq_refl];rename_i hb;simp only[look,hb];exact ih h
section
variable {P:Program} {G:Bc} {α:Type} {f:α->List AV} {C:List α->List AV} {k:Nat}
def aJ{e:TypeId}(hd:(P.underlying e).map Ob=some false)(hs:(P.info? e).map (·.size)=some 1){cs:List AV}{off:Nat}{a:AV}(h:cs[off]?=some a):Cd.ok P G (.ldB (.cells cs) e off a):=by
 intro s id hg;simp only[JP,hg];unfold apart;obtain⟨d,hu,hd⟩:=Option.map_eq_some_iff.1 hd;rw[hu];cases hi:P.info? e with
 | none=>rw[hi] at hs;cases hs
 | some j =>
   simp only;rw[hd,if_neg (by simp)];exact h
def rP{β:Type}{cs:List β}{off:Nat}(v:β)(h:off < cs.length):IH cs off [v]=cs.set off v:=by
 unfold IH;rw[List.set_eq_take_append_cons_drop,if_pos h];simp
def acA{e:TypeId}(hs:(P.info? e).map (·.size)=some 1){cs cs2:List AV}{off:Nat}{v:AV}(h:off < cs.length)(hc:cs2=cs.set off v)(hv:cellsOf v=[v]:=by rfl)(h1:one v=true:=by rfl):Cd.ok P G (.stB (.cells cs) e off v (.cells cs2)):=by
 intro s id hg;cases hi:P.info? e with
 | none=>rw[hi] at hs;cases hs
 | some j =>
   rw[hi] at hs;have hk:j.size=1:=by simpa using hs
   unfold KT;rw[hi];simp only[hg];rw[hv,hk,if_pos ⟨rfl,by simp[h1],by omega⟩,hc,rP v h]
def fT{f:α->List AV}(hf:∀x,(f x).length=k){l:List α}{i j:Nat}{x:α}(hx:l[i]?=some x)(hj:j < k):(rows f l)[i*k+j]?=(f x)[j]?:=by
 rw[<- List.getElem?_drop,SO hf hx,List.getElem?_append_left (by rw[hf];exact hj)]
def lR{f:α->List AV}(hf:∀x,(f x).length=k){l:List α}{i j:Nat}{x y:α}{v:AV}(hx:l[i]?=some x)(hj:j < k)(hy:f y=(f x).set j v):rows f (l.set i y)=(rows f l).set (i*k+j) v:=by
 have hlt:=(List.getElem?_eq_some_iff.1 hx).1;have TZ:=(List.getElem?_eq_some_iff.1 hx).2
 have e1:l=l.take i++x::l.drop (i+1):=by
   rw[<- TZ,<- List.drop_eq_getElem_cons hlt,List.take_append_drop]
 rw[bV y hlt]
 conv=>rhs;rw[e1]
 have hlen:(rows f (l.take i)).length=i*k:=by rw[HV hf,List.length_take,Nat.min_eq_left (by omega)]
 rw[MQ,MQ,FC,FC,hy,List.set_append_right _ _ (by omega),hlen,Nat.add_sub_cancel_left,List.set_append_left _ _ (by rw[hf];exact hj)]
def lP{f:α->List AV}(hf:∀x,(f x).length=k){e:TypeId}(hd:(P.underlying e).map Ob=some true)(hs:(P.info? e).map (·.size)=some k){l:List α}{i:Nat}{x:α}(hx:l[i]?=some x):Cd.ok P G (.ldB (.cells (rows f l)) e (0+i*k) (.agg (f x))):=by
 intro s id hg;simp only[JP,hg];unfold apart;obtain⟨d,hu,hd⟩:=Option.map_eq_some_iff.1 hd;rw[hu];cases hi:P.info? e with
 | none=>rw[hi] at hs;cases hs
 | some j =>
   rw[hi] at hs;have hk:j.size=k:=by simpa using hs
   have hlt:=(List.getElem?_eq_some_iff.1 hx).1;simp only;rw[hd,if_pos rfl,Nat.zero_add,hk,HV hf,if_pos (by have:=Nat.mul_le_mul_right k hlt;rw[Nat.succ_mul] at this;exact this),SO hf hx,List.take_left' (hf x)]
def stA{e:TypeId}(hs:(P.info? e).map (·.size)=some k){cs0 cs:List AV}(h0:cs0.length=k)(h:cs.length=k)(h1:cs.all one=true):Cd.ok P G (.stB (.cells cs0) e 0 (.agg cs) (.cells cs)):=by
 intro s id hg;cases hi:P.info? e with
 | none=>rw[hi] at hs;cases hs
 | some j =>
   rw[hi] at hs;have hk:j.size=k:=by simpa using hs
   unfold KT;rw[hi];simp only[hg];have hc:cellsOf (.agg cs)=cs:=rfl;rw[hc,if_pos ⟨by rw[h,hk],h1,by rw[hk,h0];omega⟩];congr 3;unfold IH;rw[List.take_zero,List.nil_append,h,List.drop_eq_nil_of_le (by omega),List.append_nil]
def aJX{s:AS}{fn:Func}{fr:List AV}{t ty:TypeId}{a v:AV}(hr:fn.results.toList=[.cell t ty])(hf:fr[t]?=some a)(ha:JP P s ty a=some v):GM P s fn fr=some v:=by
 unfold GM;rw[hr];simp only[NY,R2,List.getD_eq_getElem?_getD,hf,Option.getD_some,ha]
def qV{b:AM}{t:TypeId}{off:Nat}{v:AV}{x:Option AM}(h:Cd.ok P G (.ldB b t off v))(e:x=some b):PC P G:=⟨.lb b v,[.ldB b t off v,.tB [x] [some b] [] []],⟨h,⟨by rw[e],rfl⟩,trivial⟩⟩
def aqH{b b2:AM}{t:TypeId}{off:Nat}{v:AV}{x:Option AM}(h:Cd.ok P G (.stB b t off v b2))(e:x=some b):PC P G:=⟨.sb b b2,[.stB b t off v b2,.tB [x] [some b] [] []],⟨h,⟨by rw[e],rfl⟩,trivial⟩⟩
end
section
variable {P:Program} {G:Bc} {E:EW} {fr:List AV} {s:AS} {Q:QE}
def WE.wk{c:Code}{fr2:List AV}(h:wkF fr fr2=fr2)(k:WE P G E c fr2 s Q):WE P G E c fr s Q:=λcx w a K hE hs hf hd hK=>k cx w a K hE hs (by rw[<- h];exact SB hf) hd hK
def WE.rC{c:Code}{id:Nat}{b b2:AM}(hb:look id s.h=some b)(hk:∀(cx:Cx) (w:World) (o:Obj),Fk cx w b o->Fk cx w b2 o)(k:WE P G E c fr ⟨Ry id b2 s.h,s.nx,s.F,s.nr⟩ Q):WE P G E c fr s Q:=λcx w a K hE hs hf hd hK=>k cx w a K hE (hs.rC hb (λo ho=>hk cx w o ho)) hf hd hK
def WE.Tb{c x y:Code}(hc:c=.seq x y)(h:WE P G E x fr s (λe fr' s' E'=>e=.normal/\WE P G E' y fr' s' Q)):WE P G E c fr s Q:=by
 subst hc;exact .seq (λcx w a K hE hs hf hd hK=>h cx w a K hE hs hf hd (λe fr s E hq=>hK e fr s E (.inl hq)))
def WE.seqB{c x y:Code}(hc:c=.seq x y)(h:WE P G E x fr s (λe fr' s' E'=>(e=.normal/\WE P G E' y fr' s' Q)\/(e≠.normal/\Q e fr' s' E'))):WE P G E c fr s Q:=by
 subst hc;exact .seq h
def WE.aN{c x y:Code}{q:Operand}(t:Bool)(hc:c=.cond q x y)(hq:Bd G fr q=some (.sc (.bool t)))(h:WE P G E (if t then x else y) fr s Q):WE P G E c fr s Q:=by
 subst hc;exact .cond hq h
def WE.rJ(hm:P.follows .mixedOrders=true)(hk:UH E){c:Code}(l:List (PC P G)){e:AX}{fr2:List AV}(h:rF fr2 (S5 P G 300 c [] (pHs l) fr s)=some (e,hJ l,fr2,s))(hp:∀v,e≠.pan v)(hq:Q e fr2 s E):WE P G E c fr s Q:=.run hm hk l h hp hq
def PQ.q(hm:P.follows .mixedOrders=true)(hk:UH E){c:Code}{n i:Nat}{l:List Nat}(hr:Sv c n=true)(hi:i < n)(v:AV)(hw:Cv (FY c) fr (opAt c i)=true)(h:Qz P G fr s (opAt c i)=some (.val v s))(t:PQ P G E (FY c) l (IY fr (opAt c i).dst v) s Q):PQ P G E (FY c) (i::l) fr s Q :=
 .op hm hk v (LA hr hi) (.Og hw h) t
def PQ.hb(hm:P.follows .mixedOrders=true)(hk:UH E){c:Code}{n i:Nat}{l:List Nat}(hr:Sv c n=true)(hi:i < n){B:Bool}(b:Bool)(hB:B=b)(h:aT P G (FY c) fr s (opAt c i) [.b b]=some (.sc (.bool b),s,[],[.eqb B b]))(t:PQ P G E (FY c) l (IY fr (opAt c i).dst (.sc (.bool b))) s Q):PQ P G E (FY c) (i::l) fr s Q :=
 .op hm hk (.sc (.bool b)) (LA hr hi) (Pw h ⟨hB,trivial⟩) t
def PQ.hi(hm:P.follows .mixedOrders=true)(hk:UH E){c:Code}{n i:Nat}{l:List Nat}(hr:Sv c n=true)(hi:i < n){X:Int}(z:Int)(hX:X=z)(h:aT P G (FY c) fr s (opAt c i) [.i z]=some (.sc (.int .i64 z),s,[],[.eqi X z]))(t:PQ P G E (FY c) l (IY fr (opAt c i).dst (.sc (.int .i64 z))) s Q):PQ P G E (FY c) (i::l) fr s Q :=
 .op hm hk (.sc (.int .i64 z)) (LA hr hi) (Pw h ⟨hX,trivial⟩) t
def WE.mono{c:Code}{Q2:QE}(h:WE P G E c fr s Q2)(hq:∀e fr' s' E',Q2 e fr' s' E'->Q e fr' s' E'):WE P G E c fr s Q:=λcx w a K hE hs hf hd hK=>h cx w a K hE hs hf hd (λe fr s E h2=>hK e fr s E (hq _ _ _ _ h2))
end
end AI
namespace AI
open Go Go.RowKit
section
variable {P:Program} {G:Bc}
def OM.aMM{α:Type}{f:α->List AV}{C:List α->List AV}{k:Nat}(h:OM f C k){t tx e e2 by':Nat}(hu:P.underlying t=some (.slice e))(hux:P.underlying tx=some (.slice e2))(hi:(P.info? e).map (λi=>(i.size,i.bytes,i.zero.map (·.cells.size)))=some (k,by',some k))(hk:0 < k)
   (own:Own) (l m:List α) {o:Own} {n:Nat} {ns:List AV} (hn:Wn ns (C m)) (eE:n=m.length) (ho:ns.all one=true) (hm:m.length≠0) (hlen:(l.length+m.length)*by'<=140737488355328) (h63:l.length+m.length<=9223372036854775807):Cd.ok P G (.Ws t tx own l.length (C l) (.sl o n ns) k (l++m).length (C (l++m))):=by
 subst eE;cases hq:P.info? e with
 | none=>rw[hq] at hi;cases hi
 | some i =>
   rw[hq] at hi;simp only[Option.map_some,Option.some.injEq,Prod.mk.injEq] at hi;obtain⟨h1,h2,h3⟩:=hi;cases hz:i.zero with
   | none=>rw[hz] at h3;cases h3
   | some z =>
     rw[hz] at h3;simp only[Option.map_some,Option.some.injEq] at h3;intro s N9;have hnl:ns.length=m.length*k:=by rw[hn.len,h.eq,HV h.len]
     have pL:(C l).length=l.length*k:=by rw[h.eq,HV h.len]
     refine⟨C l++ns,?_,λc w u o' hr=>?_⟩
     have hs:UP P s i.size tx (.sl o m.length ns)=some (m.length,ns):=by
       unfold UP;rw[hux,h1];simp only[hnl,if_true]
     unfold KL;simp only[hu,hq,hz];rw[if_pos ⟨by rw[h3,h1],by omega⟩,hs];simp only
     have hbb:(l.length+m.length)*i.bytes<=140737488355328:=by
       rw[h2];exact hlen
     rw[if_pos ⟨by rw[pL,h1],ho,hbb,by omega⟩,if_neg hm,h1,if_pos N9,List.length_append];rw[h.UE];exact Rp.wnC (Wn.UE (Wn.refl (C l)) hn) hr
end
end AI
namespace AI
open Go Go.RowKit
def byC(l:List UInt8):List AV:=l.map λb=>.sc (.int .u8 b.toNat)
def amX(l:List UInt8):(byC l).all one=true:=by
 unfold byC;rw[List.all_map,List.all_eq_true];intro x _;rfl
end AI
namespace AI
open Go Go.RowKit
section
variable {P:Program} {G:Bc} {α δ:Type} {enc:α->AV} {encd:δ->AV}
abbrev Jf(enc:α->AV)(encd:δ->AV):α⊕δ->CR
 | .inl a=>.ret (enc a)
 | .inr d=>.pan (encd d)
def QC(P:Program)(G:Bc)(fn:Func)(m:Nat)(s0:AS)(enc:α->AV)(encd:δ->AV)(Q:AX->List AV->AS->Prop)(y:α⊕δ)(s2:AS):Prop:=match y with
 | .inl a=>QD P G fn m s0 Q (enc a) s2
 | .inr d=>TL G m s0 Q (encd d) s2
def QC.body{fn:Func}{m:Nat}{s0 s2:AS}{y:α⊕δ}:QC P G fn m s0 enc encd (Tm P fn m (QM G s0 (Jf enc encd y) s2)) y s2:=by
 cases y with
 | inl a=>exact QD.body
 | inr d=>exact TL.body
def QC.outer{fn:Func}{m id:Nat}{ks:List KI}{s0 s2:AS}{Q:AX->List AV->AS->Prop}{y:α⊕δ}(h:QC P G fn m s0 enc encd Q y s2):QC P G fn m s0 enc encd (EN id (Ed P G ks Q)) y s2:=by
 cases y with
 | inl a=>exact QD.outer h
 | inr d=>exact TL.outer h
def QC.Ge{fn:Func}{m:Nat}{L:Code}{s0 s1 s2:AS}{Q:AX->List AV->AS->Prop}{y:α⊕δ}(h:QC P G fn m s0 enc encd Q y s2):QC P G fn m s0 enc encd (Um P G L s1 Q) y s2:=by
 cases y with
 | inl a=>exact QD.Ge h
 | inr d=>exact TL.Ge h
def aqA(n m0:Nat)(m:Nat)(rV bs:List AV)(cs:List (Option AM)):HR->Option (List Cd×List AV×AS×List AV×List (Option AM))
 | some (.fin (.pan v),[],cd,_,s)=>(match ahW rV n m0 [v] (s.cut m) bs cs with
     | some (fr2,s2,as,cas)=>some (cd,fr2,s2,as,cas)
     | none=>none)
 | _=>none
def BN(hG:∀g cs,G g=some cs->BE cs=true){r:HR}{X:Prop}{s0:AS}{Q:AX->List AV->AS->Prop}(m:Nat){l:List (PC P G)}(fps:List (FP s0.nx s0.nr))(fbs:List (FO s0.nx s0.nr)){v:AV}{s2:AS}(R:UL P G l Q r X)
   (h:aqA s0.nx s0.nr m [v] (ZG fps) (oY fbs) r=some (hJ l,[v],s2,gW fps,foA fbs)) (k:TL G m s0 Q v s2):X:=by
 unfold aqA at h;split at h;split at h;rename_i h1;simp only[Option.some.injEq,Prod.mk.injEq] at h;obtain⟨rfl,rfl,rfl,rfl,rfl⟩:=h;exact R _ _ _ _ rfl (Oh l) (k _ _ (fQ hG h1) _ _ rfl);cases h;cases h
def Mp{k j:Nat}{ρ σ:Nat->Nat}(h1:∀a,plain (enc a)=true)(h2:∀d,plain (encd d)=true)(y:α⊕δ):RnR k j ρ σ (Jf enc encd y) (Jf enc encd y):=by
 cases y with
 | inl a=>exact .pl (h1 a)
 | inr d=>exact .pl (h2 d)
def Tc{γ:Type}{f:α->Option γ}{g:δ->Option γ}{y:α⊕δ}{r:γ}{X:Prop}(h1:∀a,y=.inl a->f a=some r->X)(h2:∀d,y=.inr d->g d=some r->X):Sum.elim f g y=some r->X:=by
 cases y with
 | inl a=>exact h1 a rfl
 | inr d=>exact h2 d rfl
def OM.ixa{α:Type}{f:α->List AV}{C:List α->List AV}{k:Nat}(h:OM f C k){t elem len:Nat}(hu:P.underlying t=some (.array len elem))(hs:(P.info? elem).map (·.size)=some k){l:List α}(hl:l.length=len){z:Int}{x:α}(hx:Ha l z=some x):CH P t (.el (C l)) (.sc (.int .i64 z))=some (.el (f x++C (l.drop (z.toNat+1)))):=by
 unfold Ha at hx;split at hx
 · rename_i hz
   have hi:=(List.getElem?_eq_some_iff.1 hx).1
   have hn:RA (.sc (.int .i64 z))=some z.toNat:=by
     unfold RA;simp[hz]
   cases he:P.info? elem with
   | none=>rw[he] at hs;cases hs
   | some e =>
     rw[he] at hs;have hk:e.size=k:=by simpa using hs
     subst hl;unfold CH;rw[hu,hn];simp only[he,hk,if_pos hi];rw[h.eq,h.eq,SO h.len hx]
 cases hx
def aGZ(z:List NZ)(rV:List AV):HR->Option (AX×List Cd×List AV×AS)
 | some (.fin e,[],cd,fr,s)=>(match nzs z fr s with
   | some (fr2,s2)=>some (e,cd,wkF fr2 rV,s2)
   | none=>none)
 | _=>none
def Ei{r:HR}{X:Prop}{L:Code}{s0:AS}{Q:AX->List AV->AS->Prop}{l:List (PC P G)}(z:List NZ){fr2:List AV}{s2:AS}(R:UL P G l (Um P G L s0 Q) r X)(h:aGZ z fr2 r=some (.normal,hJ l,fr2,s2))(k:WL P G (XS P G) H0 L fr2 s2 Q):X:=by
 unfold aGZ at h;split at h;split at h;rename_i fr3 s3 hz;simp only[Option.some.injEq,Prod.mk.injEq] at h;obtain⟨rfl,rfl,h3,rfl⟩:=h;refine R _ _ _ _ rfl (Oh l) ⟨_,_,λcx w c' w' vs hx _ hs' hr=>?_,k⟩;obtain⟨c2,x2,UF,r2⟩:=qM hz c' w' vs hs' hr;exact⟨c2,hx.trans x2,UF,h3▸SB r2⟩;cases h;cases h
def Dw{M X:Prop}{L:Code}{fr:List AV}{s:AS}{Q:AX->List AV->AS->Prop}(TX:WL P G (XS P G) H0 L fr s Q->X)(k:M->W P G (XS P G) H0 L fr s (Um P G L s Q)):M->X:=λh=>TX (cU (k h))
def eR{M X Y:Prop}(TX:Y->X)(k:M->Y):M->X:=λh=>TX (k h)
def pcv{t t2:TypeId}{a v:AV}(h:RX P t t2 a=some v):PC P G:=⟨.w v,[.cv t t2 a v],⟨h,trivial⟩⟩
def aEN{t tx e n:Nat}(hu:P.underlying t=some (.slice e))(hux:P.underlying tx=some .string)(hi:(P.info? e).map (λi=>(i.size,i.bytes,i.zero.map (·.cells.size)))=some (1,1,some 1))
   (own:Own) {cs:List AV} (U1:cs.length=n) (x:ByteArray) (hm:x.data.toList.length≠0) (hlen:n+x.data.toList.length<=100000000):Cd.ok P G (.Ws t tx own n cs (.sc (.string x)) 1 (n+x.data.toList.length) (cs++byC x.data.toList)):=by
 cases hq:P.info? e with
 | none=>rw[hq] at hi;cases hi
 | some i =>
   rw[hq] at hi;simp only[Option.map_some,Option.some.injEq,Prod.mk.injEq] at hi;obtain⟨h1,h2,h3⟩:=hi;cases hz:i.zero with
   | none=>rw[hz] at h3;cases h3
   | some z =>
     rw[hz] at h3;simp only[Option.map_some,Option.some.injEq] at h3;intro s N9;refine⟨cs++byC x.data.toList,?_,λc w u o' hr=>hr⟩
     have hs:UP P s i.size tx (.sc (.string x))=some (x.data.toList.length,byC x.data.toList):=by
       unfold UP;rw[hux,h1];rfl
     unfold KL;simp only[hu,hq,hz];rw[if_pos ⟨by rw[h3,h1],by omega⟩,hs];simp only;rw[if_pos ⟨by rw[U1,h1];omega,amX _,by rw[h2];omega,by omega⟩,if_neg hm,h1,if_pos N9]
def ppn:PC P G:=⟨.p .any ⟨[],0,[],0⟩,[],trivial⟩
def pzq(c:Nat):PC P G:=⟨.zq c,[],trivial⟩
def aqD{f:FuncId}{args Wl:List AV}{v:AV}{pre:List (Nat×AM)}{tp:List (Nat×Nat)}{Ra:List (Nat×AM)}{tu:List (Nat×Nat)}(w:Wn args Wl)(h:Cd.ok P G (.Fa f Wl (.pan v) pre tp Ra tu)):PC P G :=
 ⟨.q v pre tp Ra tu,[.Fa f args (.pan v) pre tp Ra tu,.tB (OJ pre) (OJ pre) (Pg tp) (Pg tp)],⟨λs h1 h2 cx wd vs hs ha=>h s h1 h2 cx wd vs hs (w.ok ha),⟨rfl,rfl⟩,trivial⟩⟩
end
end AI
namespace AI
open Go
section
variable {α γ δ ρ:Type}
def allI(p:Nat->α->Bool):List α->Nat->Bool
 | [],_=>true
 | y::l,i=>p i y&&allI p l (i+1)
def jH{body:Nat->α->Unit->Option (Lp Unit δ ρ)}{done:Unit->δ}{p:Nat->α->Bool}{v:ρ}:∀{l:List α} {i:Nat},(∀k y,l[k]?=some y->body (i+k) y ()=some (if p (i+k) y then .nx () else .rt v))->CQ body done l i ()=some (if allI p l i then .inl (done ()) else .inr v)
 | [],i,_=>rfl
 | y::l,i,h=>by
   have h0:=h 0 y rfl;rw[Nat.add_zero] at h0;rw[CQ,h0,allI];cases p i y with
   | false=>simp[Ri]
   | true =>
     have:=jH (body:=body) (done:=done) (p:=p) (v:=v) (l:=l) (i:=i+1) λk z hz=>by
       have:=h (k+1) z (by simpa using hz)
       rwa[show i+(k+1)=i+1+k by omega] at this
     simpa[Ri] using this
def QR{β:Type}{n:Nat}{x:Option β}(h:n<=9223372036854775807):S6 n x=x:=by unfold S6;rw[if_pos h]
def FG{β:Type}{n:Nat}{x:Option β}(h:n<=100000000):M6 n x=x:=by unfold M6;rw[if_pos h]
end
end AI
namespace AI
open Go
def mb(p:Prop):Bool:=@decide p (Classical.propDecidable _)
def Dy{p:Prop}:mb p=true↔p:=by unfold mb;exact @decide_eq_true_iff p (_)
def MA{p q:Prop}(h:p↔q):mb p=mb q:=by rw[propext h]
def Lh{β:Type}(p:Prop)(x y:β):β:=@ite β p (Classical.propDecidable _) x y
def CI{β:Type}{p:Prop}{x y:β}(h:p):Lh p x y=x:=@if_pos p (_) h _ _ _
def CL{β:Type}{p:Prop}{x y:β}(h:¬p):Lh p x y=y:=@if_neg p (_) h _ _ _
section
variable {β:Type} {x y:β}
def Nw(p:Prop):cond (mb p) x y=Lh p x y:=by
 by_cases h:p;rw[CI h,Dy.2 h];rfl;rw[CL h]
 have:mb p=false:=by
   cases hm:mb p;rfl;exact absurd (Dy.1 hm) h
 rw[this];rfl
end
section
variable {p q r:Prop}
def kI:Lh p (some true) (some false)=some (mb p):=by
 by_cases h:p;rw[CI h,Dy.2 h];rw[CL h];congr 1;cases hm:mb p;rfl;exact absurd (Dy.1 hm) h
def aAP:Lh p (some (mb q)) (some false)=some (mb (p/\q)):=by
 by_cases h:p;rw[CI h];congr 1;rw[Bool.eq_iff_iff,Dy,Dy];simp[h];rw[CL h];congr 1;rw[Bool.eq_iff_iff,Dy];simp[h]
def aPA:Lh p (some false) (some (mb q))=some (mb (¬p/\q)):=by
 by_cases h:p;rw[CI h];congr 1;rw[Bool.eq_iff_iff,Dy];simp[h];rw[CL h];congr 1;rw[Bool.eq_iff_iff,Dy,Dy];simp[h]
def aAQ:Lh p (some true) (some (mb q))=some (mb (p\/q)):=by
 by_cases h:p;rw[CI h];congr 1;rw[Bool.eq_iff_iff,Dy];simp[h];rw[CL h];congr 1;rw[Bool.eq_iff_iff,Dy,Dy];simp[h]
def ck{δ ρ:Type}(v:ρ)(p:Prop):Lp Unit δ ρ:=Lh p (.nx ()) (.rt v)
variable {δ ρ:Type} {v:ρ}
def aGB:Lh p (some (.nx ())) (some (.rt v))=some (ck (δ:=δ) v p):=by
 unfold ck;by_cases h:p;rw[CI h,CI h];rw[CL h,CL h]
def aoW:Lh p (some (.rt v)) (some (.nx ()))=some (ck (δ:=δ) v ¬p):=by
 unfold ck;by_cases h:p;rw[CI h,CL (by simp[h])];rw[CL h,CI h]
def aAH:Lh p (some (ck (δ:=δ) v q)) (some (.rt v))=some (ck v (p/\q)):=by
 unfold ck;by_cases h:p;rw[CI h];simp[h];rw[CL h,CL (by simp[h])]
def aoX:Lh p (some (.rt v)) (some (ck (δ:=δ) v q))=some (ck v (¬p/\q)):=by
 unfold ck;by_cases h:p;rw[CI h,CL (by simp[h])];rw[CL h];simp[h]
def aAG:Lh p (some (ck (δ:=δ) v q)) (some (.nx ()))=some (ck v (p->q)):=by
 unfold ck;by_cases h:p;rw[CI h];simp[h];rw[CL h,CI (by simp[h])]
def aOW:Lh p (some (.nx ())) (some (ck (δ:=δ) v q))=some (ck v (p\/q)):=by
 unfold ck;by_cases h:p;rw[CI h,CI (by simp[h])];rw[CL h];simp[h]
def aOX:Lh p (some (ck (δ:=δ) v q)) (some (ck v r))=some (ck v ((p->q)/\(¬p->r))):=by
 unfold ck;by_cases h:p;rw[CI h];simp[h];rw[CL h];simp[h]
def eV{α β:Type}{l:List α}{body:Nat->α->Unit->Option (Lp Unit Unit ρ)}{P:Nat->α->Prop}{k:Unit->Option β}{kr:ρ->Option β}(hl:l.length<=9223372036854775807)(hb:∀i y,l[i]?=some y->body i y ()=some (ck v (P i y))):(S6 l.length (CQ body (λ_=>()) (l.drop 0) 0 ())).bind (L8 k kr)=Lh (∀i y,l[i]?=some y->P i y) (k ()) (kr v):=by
 rw[QR hl,List.drop_zero]
 have h1:∀k y,l[k]?=some y->body (0+k) y ()=some (if mb (P (0+k) y) then .nx () else .rt v):=λk y hy=>by
   rw[Nat.zero_add,hb k y hy];unfold ck;by_cases h:P k y;rw[CI h,if_pos (Dy.2 h)];rw[CL h,if_neg (λe=>h (Dy.1 e))]
 rw[jH (p:=λi y=>mb (P i y)) (v:=v) h1]
 have h2:∀(l:List α) (i:Nat),allI (λi y=>mb (P i y)) l i=true↔∀k y,l[k]?=some y->P (i+k) y:=by
   intro l
   induction l with
   | nil=>intro i;simp[allI]
   | cons a l ih =>
     intro i;rw[allI,Bool.and_eq_true,Dy,ih];constructor;rintro⟨h1,h2⟩ k y hk;cases k with
     | zero=>simp at hk;subst hk;exact h1
     | succ k=>rw[show i+(k+1)=i+1+k by omega];exact h2 k y (by simpa using hk)
     intro h;refine⟨h 0 a rfl,λk y hk=>?_⟩;rw[show i+1+k=i+(k+1) by omega];exact h (k+1) y (by simpa using hk)
 have h3:=h2 l 0;simp only[Nat.zero_add] at h3;by_cases h:∀i y,l[i]?=some y->P i y;rw[CI h,h3.2 h];rfl;rw[CL h]
 have:allI (λi y=>mb (P i y)) l 0=false:=by
   cases ha:allI (λi y=>mb (P i y)) l 0;rfl;exact absurd (h3.1 ha) h
 rw[this];rfl
end
end AI
namespace AI
open Go
def Sp{β:Type}(o:Option β)(Q:β->Prop):Prop:=∃r,o=some r/\Q r
section
variable {α β γ δ ρ κ:Type} {Q:β->Prop}
def Sp.mono{Q':β->Prop}{o:Option β}(h:Sp o Q)(k:∀r,Q r->Q' r):Sp o Q':=h.elim λr h=>⟨r,h.1,k r h.2⟩
def T3(a b:Int):NS a b=mb (a<=b):=by rw[YM,Bool.eq_iff_iff,Dy,decide_eq_true_iff]
def Pz(a b:Int):Ev a b=mb (a < b):=by rw[Si,Bool.eq_iff_iff,Dy,decide_eq_true_iff]
def Ls(a b:Int):Dh a b=mb (a=b):=by rw[QL,Bool.eq_iff_iff,Dy,beq_iff_eq]
def R9(a b:ByteArray):B1 a.data.toList b.data.toList=mb (a=b):=by
 rw[TV,Bool.eq_iff_iff,Dy,beq_iff_eq];exact⟨λh=>ByteArray.ext (Array.ext' h),λh=>by rw[h]⟩
def qI{p:Prop}:(mb p=true)=p:=propext Dy
def WG{p:Prop}:(mb p=false)=¬p:=by rw[<- Bool.not_eq_true,qI]
def jC{p:Prop}:(false=mb p)=¬p:=by rw[@eq_comm _ false,WG]
def smb{p q:Prop}(h:p↔q):some (mb p)=some (mb q):=by rw[MA h]
def fX{p:Prop}(h:¬p):some false=some (mb p):=congrArg some (by rw[jC];exact h)
end
def ZA{n:Int}(h:-9223372036854775808<=n/\n<=9223372036854775807):Nq .i64 n=n:=by
 rw[Vw];exact IntWalk.i64_in n (by omega)
def Dq{a b:Int}(h:-9223372036854775808<=a+b/\a+b<=9223372036854775807):BF a b=a+b:=by
 unfold BF;rw[cW,ZA h]
def KQ{a b:Int}(h:-9223372036854775808<=a - b/\a - b<=9223372036854775807):LS a b=a - b:=by
 unfold LS;rw[fZ,ZA h]
def I4{a b:Int}(h:-9223372036854775808<=a*b/\a*b<=9223372036854775807):BS a b=a*b:=by
 unfold BS;rw[ZA h]
end AI
namespace AI
open Go Go.RowKit
def ZZ(w w1:World)(g:Nat):Prop:=w.heap.size<=g/\g < w1.heap.size
def Cx.aA(cx:Cx)(w w1:World):Cx:=⟨cx.base,cx.CX,cx.rows,λg i=>cx.bad g i\/ZZ w w1 g⟩
def Cx.Wb(c:Cx)(cx:Cx):Cx:=⟨c.base,c.CX,c.rows,cx.bad⟩
section
variable {G:Bc} {cx:Cx} {w w1:World} {s:AS}
def Vs(k:RV w w1 (λ_=>False)):Mon cx w (cx.aA w w1) w1:=by
 refine⟨λ_ _ e=>e,Nat.le_refl _,λr y _ h=>⟨y,h,KS.refl y⟩,λg i v hv=>⟨Nat.lt_of_lt_of_le hv.1 k.size,λhs=>?_,by rw[k.cell hv.1 id];exact hv.2.2⟩⟩;rcases hs with hs | hs | hs | hs
 exact hv.2.1 (.inl hs);exact hv.2.1 (.inr (.inl hs));exact hv.2.1 (.inr (.inr hs));have:=hs.1;have:=hv.1;omega
def wO(h:St G cx w s)(k:RV w w1 (λ_=>False)):St G (cx.aA w w1) w1 s:=by
 have m:=Vs (cx:=cx) k;refine⟨h.len,h.desc,h.nodup,h.low,λid g b h1 h2=>?_,h.I2,λr g n cap sz hr=>?_,h.Je,λg hg=>Nat.lt_of_lt_of_le (h.MM g hg) k.size,λg i hb=>?_,h.IX,λg cs hg=>(h.M1 g cs hg).Dz m,Nat.le_trans h.QB k.size⟩;obtain⟨o,ho,hb⟩:=h.box id g b h1 h2;exact⟨o,by rw[k.block g (Array.getElem?_eq_some_iff.1 ho).1 not_false];exact ho,hb.Dz m⟩;have hl:=h.Ng hr;obtain⟨Lg,h2,h3,h4,vs,T,ho,h5⟩:=h.row r g n cap sz hr;refine⟨λi hb=>?_,h2,h3,h4,vs,T,by rw[k.block g (Array.getElem?_eq_some_iff.1 ho).1 not_false];exact ho,h5⟩;rcases hb with hb | hb
 exact Lg i hb;have:=hb.1;omega;rcases hb with hb | hb
 exact Nat.lt_of_lt_of_le (h.M0 g i hb) k.size;exact hb.2
variable {c':Cx} {w' w2:World} {s':AS}
def Uq(hx:Ext (cx.aA w w1) w1 c' w')(k2:RV w' w2 (ZZ w w1)):Mon c' w' (c'.Wb cx) w2:=by
 refine⟨λ_ _ e=>e,Nat.le_refl _,λr y _ h=>⟨y,h,KS.refl y⟩,λg i v hv=>⟨Nat.lt_of_lt_of_le hv.1 k2.size,λhs=>?_,?_⟩⟩;rcases hs with hs | hs | hs
 exact hv.2.1 (.inl hs);exact hv.2.1 (.inr (.inl hs));exact hv.2.1 (.inr (.inr (by rw[hx.bad];exact .inl hs)));rw[k2.cell hv.1 (λhk=>hv.2.1 (.inr (.inr (by rw[hx.bad];exact .inr hk))))];exact hv.2.2
def Zs(h:St G cx w s)(k:RV w w1 (λ_=>False))(hx:Ext (cx.aA w w1) w1 c' w')(k2:RV w' w2 (ZZ w w1)):Ext cx w (c'.Wb cx) w2:=by
 have m:=Vs (cx:=cx) k;have m2:=Uq hx k2;refine⟨hx.CX,hx.I2,hx.rows,λg i v hv=>m2.aB g i v (hx.aB g i v (m.aB g i v hv)),?_,hx.base,rfl,λg hg=>?_,λr g n cap sz hr=>?_,λq hq hp hr=>?_⟩;have b1:Below cx.base w w1:=k.below h.QB (λ_ h=>h.elim);have b2:Below cx.base w1 w':=hx.below;have b3:Below cx.base w' w2:=k2.below (Nat.le_trans (Nat.le_trans h.QB k.size) b2.size) (λq hq=>Nat.le_trans h.QB hq.1);exact(b1.trans b2).trans b3;rcases hx.Z2 g hg with h1 | h1
 exact .inl h1;exact .inr (Nat.le_trans k.size h1);rcases hx.Z4 r g n cap sz hr with h1 | h1
 exact .inl h1;exact .inr (Nat.le_trans k.size h1);have hq1:q < w1.heap.size:=Nat.lt_of_lt_of_le hq k.size;rw[k2.block q (Nat.lt_of_lt_of_le hq1 hx.below.size) (λhn=>by have:=hn.1;omega),hx.Hh q hq1 hp hr,k.block q hq not_false]
def cE(h:St G cx w s)(hx:Ext (cx.aA w w1) w1 c' w')(hs':St G c' w' s')(k2:RV w' w2 (ZZ w w1)):St G (c'.Wb cx) w2 s':=by
 have m2:=Uq hx k2
 have Sd:∀g,some g∈c'.CX->¬ZZ w w1 g:=by
   intro g hg hn;rcases hx.Z2 g hg with h1 | h1
   have:=h.MM g h1;have:=hn.1;omega;have:=hn.2;omega
 refine⟨hs'.len,hs'.desc,hs'.nodup,hs'.low,λid g b h1 h2=>?_,hs'.I2,λr g n cap sz hr=>?_,hs'.Je,λg hg=>Nat.lt_of_lt_of_le (hs'.MM g hg) k2.size,λg i hb=>Nat.lt_of_lt_of_le (hs'.M0 g i (by rw[hx.bad];exact .inl hb)) k2.size,hs'.IX,λg cs hg=>(hs'.M1 g cs hg).Dz m2,Nat.le_trans hs'.QB k2.size⟩;obtain⟨o,ho,hb⟩:=hs'.box id g b h1 h2;exact⟨o,by rw[k2.block g (Array.getElem?_eq_some_iff.1 ho).1 (Sd g (List.mem_of_getElem? h1))];exact ho,hb.Dz m2⟩;obtain⟨Lg,h2,h3,h4,vs,T,ho,h5⟩:=hs'.row r g n cap sz hr;have hb:c'.bad=λg i=>cx.bad g i\/ZZ w w1 g:=hx.bad;exact⟨λi WU=>Lg i (by rw[hb];exact .inl WU),h2,h3,h4,vs,T,by rw[k2.block g (Array.getElem?_eq_some_iff.1 ho).1 (λhn=>Lg 0 (by rw[hb];exact .inr hn))];exact ho,h5⟩
def NU(h:St G cx w s)(hx:Ext (cx.aA w w1) w1 c' w'){q:Nat}(hq:ZZ w w1 q):w'.heap[q]?=w1.heap[q]?:=by
 refine hx.Hh q hq.2 (λhm=>?_) (λr n cap sz hr=>?_);have:=h.MM q hm;have:=hq.1;omega;have:=h.Ng (r:=r) hr;have:=hq.1;omega
end
end AI
